-- written by myprint.py (a program of this session's over the kit's print)
import Derived.Test.YtidblealnaicpaaPFnSizesx0
import Derived.Test.YtidblealnaicpaaPFnSizesx1
namespace Go.Proofs.Ytidblealnaicpaa.PFnSizes
open Go.RowKit Go.Proofs.YtidblealnaicpaaW.PrintWords Go.Proofs.YtidblealnaicpaaW.PrintLast Go.Proofs.YtidblealnaicpaaW.PrintMore
attribute [local go_sem] max2_int min2_int max_two min_two max_three min_three max_four min_four   -- for this text's walks alone
set_option linter.unusedVariables false
set_option linter.unusedSimpArgs false

/-! ### spec_l1Cur_samples: function 183 -/
mutual
def spec_l1Cur_samples.l0 : Nat → Int → Int → Int → List Int → Int → Int → Int → Int → Int → Int → List Int → Int → Int → Option (List Int × Int × Int)
 | 0, _, _, _, _, _, _, _, _, _, _, _, _, _ => none
 | k + 1, x1, x3, x11, x12, x13, x14, x15, x16, x44, x45, x1000, x1001, x1002 => if x45 < x44 then (if x3 = 0 then (none) else (if x1 = 0 then (none) else (if x16 = 1 then ((spec_l1Cur_pick.f x1000 x1001 x1002 9).bind fun bt132 => (spec_l1Cur_samples.j1 k x1 x3 x11 x12 x13 x14 x15 x16 x45 (Int.tmod (wrap64 (Int.tdiv x45 x3)) x1) (wrap64 ((wrap64 ((wrap64 ((wrap64 (x15 + (wrap64 ((Int.tmod (wrap64 (Int.tdiv x45 x3)) x1) * x13)))) + (wrap64 ((wrap64 (Int.tdiv (wrap64 (Int.tdiv x45 x3)) x1)) * x14)))) + (wrap64 ((Int.tmod x45 x3) * 20)))) + bt132.1)) x44 x45 x1000 bt132.2.1 bt132.2.2)) else (spec_l1Cur_samples.j1 k x1 x3 x11 x12 x13 x14 x15 x16 x45 (Int.tmod (wrap64 (Int.tdiv x45 x3)) x1) (wrap64 ((wrap64 ((wrap64 (x15 + (wrap64 ((Int.tmod (wrap64 (Int.tdiv x45 x3)) x1) * x13)))) + (wrap64 ((wrap64 (Int.tdiv (wrap64 (Int.tdiv x45 x3)) x1)) * x14)))) + (wrap64 ((Int.tmod x45 x3) * 20)))) x44 x45 x1000 x1001 x1002)))) else (some (x12, x1001, x1002))
def spec_l1Cur_samples.j1 : Nat → Int → Int → Int → List Int → Int → Int → Int → Int → Int → Int → Int → Int → Int → List Int → Int → Int → Option (List Int × Int × Int)
 | 0, _, _, _, _, _, _, _, _, _, _, _, _, _, _, _, _ => none
 | k + 1, x1, x3, x11, x12, x13, x14, x15, x16, x17, x18, x20, x44, x45, x1000, x1001, x1002 => if x16 = 2 then (spec_l1Cur_samples.j2 k x1 x3 x11 x12 x13 x14 x15 x16 x17 x20 x44 x45 (decide (x18 > (wrap64 (Int.tdiv x1 2)))) x1000 x1001 x1002) else (spec_l1Cur_samples.j2 k x1 x3 x11 x12 x13 x14 x15 x16 x17 x20 x44 x45 false x1000 x1001 x1002)
def spec_l1Cur_samples.j2 : Nat → Int → Int → Int → List Int → Int → Int → Int → Int → Int → Int → Int → Int → Bool → List Int → Int → Int → Option (List Int × Int × Int)
 | 0, _, _, _, _, _, _, _, _, _, _, _, _, _, _, _, _ => none
 | k + 1, x1, x3, x11, x12, x13, x14, x15, x16, x17, x20, x44, x45, x85, x1000, x1001, x1002 => if x85 = true then (spec_l1Cur_samples.j3 k x1 x3 x11 x12 x13 x14 x15 x16 x17 (wrap64 (x11 - x20)) x44 x45 x1000 x1001 x1002) else (spec_l1Cur_samples.j3 k x1 x3 x11 x12 x13 x14 x15 x16 x17 x20 x44 x45 x1000 x1001 x1002)
def spec_l1Cur_samples.j3 : Nat → Int → Int → Int → List Int → Int → Int → Int → Int → Int → Int → Int → Int → List Int → Int → Int → Option (List Int × Int × Int)
 | 0, _, _, _, _, _, _, _, _, _, _, _, _, _, _, _ => none
 | k + 1, x1, x3, x11, x12, x13, x14, x15, x16, x17, x20, x44, x45, x1000, x1001, x1002 => if x16 = 3 then ((spec_l1Cur_pick.f x1000 x1001 x1002 (wrap64 (x11 + 1))).bind fun bt135 => (spec_l1Cur_samples.j4 k x1 x3 x11 x12 x13 x14 x15 x16 x17 bt135.1 x44 x45 x1000 bt135.2.1 bt135.2.2)) else (spec_l1Cur_samples.j4 k x1 x3 x11 x12 x13 x14 x15 x16 x17 x20 x44 x45 x1000 x1001 x1002)
def spec_l1Cur_samples.j4 : Nat → Int → Int → Int → List Int → Int → Int → Int → Int → Int → Int → Int → Int → List Int → Int → Int → Option (List Int × Int × Int)
 | 0, _, _, _, _, _, _, _, _, _, _, _, _, _, _, _ => none
 | k + 1, x1, x3, x11, x12, x13, x14, x15, x16, x17, x20, x44, x45, x1000, x1001, x1002 => if x20 < 0 then (if 0 > x11 then (if 0 ≤ x17 then (if x17 < (x12.length : Int) then (spec_l1Cur_samples.l0 k x1 x3 x11 (x12.set (x17 : Int).toNat x11) x13 x14 x15 x16 x44 (wrap64 (x45 + 1)) x1000 x1001 x1002) else (none)) else (none)) else (if 0 ≤ x17 then (if x17 < (x12.length : Int) then (spec_l1Cur_samples.l0 k x1 x3 x11 (x12.set (x17 : Int).toNat 0) x13 x14 x15 x16 x44 (wrap64 (x45 + 1)) x1000 x1001 x1002) else (none)) else (none))) else (if x20 > x11 then (if 0 ≤ x17 then (if x17 < (x12.length : Int) then (spec_l1Cur_samples.l0 k x1 x3 x11 (x12.set (x17 : Int).toNat x11) x13 x14 x15 x16 x44 (wrap64 (x45 + 1)) x1000 x1001 x1002) else (none)) else (none)) else (if 0 ≤ x17 then (if x17 < (x12.length : Int) then (spec_l1Cur_samples.l0 k x1 x3 x11 (x12.set (x17 : Int).toNat x20) x13 x14 x15 x16 x44 (wrap64 (x45 + 1)) x1000 x1001 x1002) else (none)) else (none)))
end
def spec_l1Cur_samples.f (k : Nat) (s0_0 : List Int) (s0_1 : Int) (s0_2 : Int) (a1 : Int) (a2 : Int) (a3 : Int) (a4 : Int) : Option (List Int × Int × Int) := if 0 ≤ (IntKind.u64.wrap (a4)) then (if 0 ≤ (wrap64 ((wrap64 (a1 * a2)) * a3)) then (if (wrap64 ((wrap64 (a1 * a2)) * a3) : Int).toNat ≤ 35184372088832 then ((some (List.replicate (wrap64 ((wrap64 (a1 * a2)) * a3) : Int).toNat 0 : List Int)).bind fun y117 => ((spec_l1Cur_pick.f s0_0 s0_1 s0_2 30).bind fun bt120 => ((spec_l1Cur_pick.f s0_0 bt120.2.1 bt120.2.2 30).bind fun bt123 => ((spec_l1Cur_pick.f s0_0 bt123.2.1 bt123.2.2 (wrap64 ((wrap64 ((shl .i64 1 (IntKind.u64.wrap (a4))) - 1)) + 1))).bind fun bt126 => ((spec_l1Cur_pick.f s0_0 bt126.2.1 bt126.2.2 4).bind fun bt129 => (spec_l1Cur_samples.l0 k a1 a3 (wrap64 ((shl .i64 1 (IntKind.u64.wrap (a4))) - 1)) y117 (wrap64 (bt120.1 - 15)) (wrap64 (bt123.1 - 15)) bt126.1 bt129.1 (y117.length : Int) 0 s0_0 bt129.2.1 bt129.2.2)))))) else (none)) else (none)) else (none)
theorem spec_l1Cur_samples.mono_l : ∀ k, (∀ y0 y1 y2 y3 y4 y5 y6 y7 y8 y9 y10 y11 y12, LeO (spec_l1Cur_samples.l0 k y0 y1 y2 y3 y4 y5 y6 y7 y8 y9 y10 y11 y12) (spec_l1Cur_samples.l0 (k + 1) y0 y1 y2 y3 y4 y5 y6 y7 y8 y9 y10 y11 y12)) ∧ (∀ y0 y1 y2 y3 y4 y5 y6 y7 y8 y9 y10 y11 y12 y13 y14 y15, LeO (spec_l1Cur_samples.j1 k y0 y1 y2 y3 y4 y5 y6 y7 y8 y9 y10 y11 y12 y13 y14 y15) (spec_l1Cur_samples.j1 (k + 1) y0 y1 y2 y3 y4 y5 y6 y7 y8 y9 y10 y11 y12 y13 y14 y15)) ∧ (∀ y0 y1 y2 y3 y4 y5 y6 y7 y8 y9 y10 y11 y12 y13 y14 y15, LeO (spec_l1Cur_samples.j2 k y0 y1 y2 y3 y4 y5 y6 y7 y8 y9 y10 y11 y12 y13 y14 y15) (spec_l1Cur_samples.j2 (k + 1) y0 y1 y2 y3 y4 y5 y6 y7 y8 y9 y10 y11 y12 y13 y14 y15)) ∧ (∀ y0 y1 y2 y3 y4 y5 y6 y7 y8 y9 y10 y11 y12 y13 y14, LeO (spec_l1Cur_samples.j3 k y0 y1 y2 y3 y4 y5 y6 y7 y8 y9 y10 y11 y12 y13 y14) (spec_l1Cur_samples.j3 (k + 1) y0 y1 y2 y3 y4 y5 y6 y7 y8 y9 y10 y11 y12 y13 y14)) ∧ (∀ y0 y1 y2 y3 y4 y5 y6 y7 y8 y9 y10 y11 y12 y13 y14, LeO (spec_l1Cur_samples.j4 k y0 y1 y2 y3 y4 y5 y6 y7 y8 y9 y10 y11 y12 y13 y14) (spec_l1Cur_samples.j4 (k + 1) y0 y1 y2 y3 y4 y5 y6 y7 y8 y9 y10 y11 y12 y13 y14))
 | 0 => ⟨fun _ _ _ _ _ _ _ _ _ _ _ _ _ r h => by simp [spec_l1Cur_samples.l0] at h, fun _ _ _ _ _ _ _ _ _ _ _ _ _ _ _ _ r h => by simp [spec_l1Cur_samples.j1] at h, fun _ _ _ _ _ _ _ _ _ _ _ _ _ _ _ _ r h => by simp [spec_l1Cur_samples.j2] at h, fun _ _ _ _ _ _ _ _ _ _ _ _ _ _ _ r h => by simp [spec_l1Cur_samples.j3] at h, fun _ _ _ _ _ _ _ _ _ _ _ _ _ _ _ r h => by simp [spec_l1Cur_samples.j4] at h⟩
 | k + 1 => by
  obtain ⟨ih0, ih1, ih2, ih3, ih4⟩ := spec_l1Cur_samples.mono_l k
  refine ⟨?_, ?_, ?_, ?_, ?_⟩
  ·intro y0 y1 y2 y3 y4 y5 y6 y7 y8 y9 y10 y11 y12
   unfold spec_l1Cur_samples.l0
   repeat' first
   | (with_reducible exact ih0 _ _ _ _ _ _ _ _ _ _ _ _ _)
   | (with_reducible exact ih1 _ _ _ _ _ _ _ _ _ _ _ _ _ _ _ _)
   | (with_reducible exact ih2 _ _ _ _ _ _ _ _ _ _ _ _ _ _ _ _)
   | (with_reducible exact ih3 _ _ _ _ _ _ _ _ _ _ _ _ _ _ _)
   | (with_reducible exact ih4 _ _ _ _ _ _ _ _ _ _ _ _ _ _ _)
   | (with_reducible exact LeO.refl _)
   | (with_reducible exact LeO.none _)
   | (with_reducible refine LeO.ite ?_ ?_)
   | (with_reducible refine LeO.bind ?_ (fun _ => ?_))
   | exact ih0 _ _ _ _ _ _ _ _ _ _ _ _ _
   | exact ih1 _ _ _ _ _ _ _ _ _ _ _ _ _ _ _ _
   | exact ih2 _ _ _ _ _ _ _ _ _ _ _ _ _ _ _ _
   | exact ih3 _ _ _ _ _ _ _ _ _ _ _ _ _ _ _
   | exact ih4 _ _ _ _ _ _ _ _ _ _ _ _ _ _ _
   | exact LeO.none _
   | refine LeO.ite ?_ ?_
   | refine LeO.bind ?_ (fun _ => ?_)
  ·intro y0 y1 y2 y3 y4 y5 y6 y7 y8 y9 y10 y11 y12 y13 y14 y15
   unfold spec_l1Cur_samples.j1
   repeat' first
   | (with_reducible exact ih0 _ _ _ _ _ _ _ _ _ _ _ _ _)
   | (with_reducible exact ih1 _ _ _ _ _ _ _ _ _ _ _ _ _ _ _ _)
   | (with_reducible exact ih2 _ _ _ _ _ _ _ _ _ _ _ _ _ _ _ _)
   | (with_reducible exact ih3 _ _ _ _ _ _ _ _ _ _ _ _ _ _ _)
   | (with_reducible exact ih4 _ _ _ _ _ _ _ _ _ _ _ _ _ _ _)
   | (with_reducible exact LeO.refl _)
   | (with_reducible exact LeO.none _)
   | (with_reducible refine LeO.ite ?_ ?_)
   | (with_reducible refine LeO.bind ?_ (fun _ => ?_))
   | exact ih0 _ _ _ _ _ _ _ _ _ _ _ _ _
   | exact ih1 _ _ _ _ _ _ _ _ _ _ _ _ _ _ _ _
   | exact ih2 _ _ _ _ _ _ _ _ _ _ _ _ _ _ _ _
   | exact ih3 _ _ _ _ _ _ _ _ _ _ _ _ _ _ _
   | exact ih4 _ _ _ _ _ _ _ _ _ _ _ _ _ _ _
   | exact LeO.none _
   | refine LeO.ite ?_ ?_
   | refine LeO.bind ?_ (fun _ => ?_)
  ·intro y0 y1 y2 y3 y4 y5 y6 y7 y8 y9 y10 y11 y12 y13 y14 y15
   unfold spec_l1Cur_samples.j2
   repeat' first
   | (with_reducible exact ih0 _ _ _ _ _ _ _ _ _ _ _ _ _)
   | (with_reducible exact ih1 _ _ _ _ _ _ _ _ _ _ _ _ _ _ _ _)
   | (with_reducible exact ih2 _ _ _ _ _ _ _ _ _ _ _ _ _ _ _ _)
   | (with_reducible exact ih3 _ _ _ _ _ _ _ _ _ _ _ _ _ _ _)
   | (with_reducible exact ih4 _ _ _ _ _ _ _ _ _ _ _ _ _ _ _)
   | (with_reducible exact LeO.refl _)
   | (with_reducible exact LeO.none _)
   | (with_reducible refine LeO.ite ?_ ?_)
   | (with_reducible refine LeO.bind ?_ (fun _ => ?_))
   | exact ih0 _ _ _ _ _ _ _ _ _ _ _ _ _
   | exact ih1 _ _ _ _ _ _ _ _ _ _ _ _ _ _ _ _
   | exact ih2 _ _ _ _ _ _ _ _ _ _ _ _ _ _ _ _
   | exact ih3 _ _ _ _ _ _ _ _ _ _ _ _ _ _ _
   | exact ih4 _ _ _ _ _ _ _ _ _ _ _ _ _ _ _
   | exact LeO.none _
   | refine LeO.ite ?_ ?_
   | refine LeO.bind ?_ (fun _ => ?_)
  ·intro y0 y1 y2 y3 y4 y5 y6 y7 y8 y9 y10 y11 y12 y13 y14
   unfold spec_l1Cur_samples.j3
   repeat' first
   | (with_reducible exact ih0 _ _ _ _ _ _ _ _ _ _ _ _ _)
   | (with_reducible exact ih1 _ _ _ _ _ _ _ _ _ _ _ _ _ _ _ _)
   | (with_reducible exact ih2 _ _ _ _ _ _ _ _ _ _ _ _ _ _ _ _)
   | (with_reducible exact ih3 _ _ _ _ _ _ _ _ _ _ _ _ _ _ _)
   | (with_reducible exact ih4 _ _ _ _ _ _ _ _ _ _ _ _ _ _ _)
   | (with_reducible exact LeO.refl _)
   | (with_reducible exact LeO.none _)
   | (with_reducible refine LeO.ite ?_ ?_)
   | (with_reducible refine LeO.bind ?_ (fun _ => ?_))
   | exact ih0 _ _ _ _ _ _ _ _ _ _ _ _ _
   | exact ih1 _ _ _ _ _ _ _ _ _ _ _ _ _ _ _ _
   | exact ih2 _ _ _ _ _ _ _ _ _ _ _ _ _ _ _ _
   | exact ih3 _ _ _ _ _ _ _ _ _ _ _ _ _ _ _
   | exact ih4 _ _ _ _ _ _ _ _ _ _ _ _ _ _ _
   | exact LeO.none _
   | refine LeO.ite ?_ ?_
   | refine LeO.bind ?_ (fun _ => ?_)
  ·intro y0 y1 y2 y3 y4 y5 y6 y7 y8 y9 y10 y11 y12 y13 y14
   unfold spec_l1Cur_samples.j4
   repeat' first
   | (with_reducible exact ih0 _ _ _ _ _ _ _ _ _ _ _ _ _)
   | (with_reducible exact ih1 _ _ _ _ _ _ _ _ _ _ _ _ _ _ _ _)
   | (with_reducible exact ih2 _ _ _ _ _ _ _ _ _ _ _ _ _ _ _ _)
   | (with_reducible exact ih3 _ _ _ _ _ _ _ _ _ _ _ _ _ _ _)
   | (with_reducible exact ih4 _ _ _ _ _ _ _ _ _ _ _ _ _ _ _)
   | (with_reducible exact LeO.refl _)
   | (with_reducible exact LeO.none _)
   | (with_reducible refine LeO.ite ?_ ?_)
   | (with_reducible refine LeO.bind ?_ (fun _ => ?_))
   | exact ih0 _ _ _ _ _ _ _ _ _ _ _ _ _
   | exact ih1 _ _ _ _ _ _ _ _ _ _ _ _ _ _ _ _
   | exact ih2 _ _ _ _ _ _ _ _ _ _ _ _ _ _ _ _
   | exact ih3 _ _ _ _ _ _ _ _ _ _ _ _ _ _ _
   | exact ih4 _ _ _ _ _ _ _ _ _ _ _ _ _ _ _
   | exact LeO.none _
   | refine LeO.ite ?_ ?_
   | refine LeO.bind ?_ (fun _ => ?_)
theorem spec_l1Cur_samples.mono : ∀ a0 a1 a2 a3 a4 a5 a6 k, LeO (spec_l1Cur_samples.f k a0 a1 a2 a3 a4 a5 a6) (spec_l1Cur_samples.f (k + 1) a0 a1 a2 a3 a4 a5 a6) := by
 intro a0 a1 a2 a3 a4 a5 a6 k
 obtain ⟨ih0, ih1, ih2, ih3, ih4⟩ := spec_l1Cur_samples.mono_l k
 unfold spec_l1Cur_samples.f
 repeat' first
   | (with_reducible exact ih0 _ _ _ _ _ _ _ _ _ _ _ _ _)
   | (with_reducible exact ih1 _ _ _ _ _ _ _ _ _ _ _ _ _ _ _ _)
   | (with_reducible exact ih2 _ _ _ _ _ _ _ _ _ _ _ _ _ _ _ _)
   | (with_reducible exact ih3 _ _ _ _ _ _ _ _ _ _ _ _ _ _ _)
   | (with_reducible exact ih4 _ _ _ _ _ _ _ _ _ _ _ _ _ _ _)
   | (with_reducible exact LeO.refl _)
   | (with_reducible exact LeO.none _)
   | (with_reducible refine LeO.ite ?_ ?_)
   | (with_reducible refine LeO.bind ?_ (fun _ => ?_))
   | exact ih0 _ _ _ _ _ _ _ _ _ _ _ _ _
   | exact ih1 _ _ _ _ _ _ _ _ _ _ _ _ _ _ _ _
   | exact ih2 _ _ _ _ _ _ _ _ _ _ _ _ _ _ _ _
   | exact ih3 _ _ _ _ _ _ _ _ _ _ _ _ _ _ _
   | exact ih4 _ _ _ _ _ _ _ _ _ _ _ _ _ _ _
   | exact LeO.none _
   | refine LeO.ite ?_ ?_
   | refine LeO.bind ?_ (fun _ => ?_)
set_option maxHeartbeats 8000000 in
set_option maxRecDepth 100000 in
theorem spec_l1Cur_samples.calls (k : Nat) (g : Nat) (s0_0 : List Int) (s0_1 : Int) (s0_2 : Int) (a1 : Int) (a2 : Int) (a3 : Int) (a4 : Int) (r1 : List Int) (r2 : Int) (r3 : Int) (w0 w : World) (hI : IsS156 w0 w g s0_0 s0_1 s0_2) (hB : Below w0.heap.size w0 w) (h : spec_l1Cur_samples.f k s0_0 s0_1 s0_2 a1 a2 a3 a4 = some (r1, r2, r3)) :
  Calls Try.prog 183 #[.pointer (some ⟨g, 0, none⟩), .int .i64 a1, .int .i64 a2, .int .i64 a3, .int .i64 a4] w fun e w' => ∃ v0_ : Value, e = .returned (v0_) ∧ Kd.R (Kd.int .i64) 3 w' w.heap.size (fun _ => True) v0_ r1 ∧ IsS156 w0 w' g s0_0 r2 r3 ∧ Below w0.heap.size w0 w' ∧ KeepBut w w' g none := by
 have HI0 := Zam hI
 have HK := Zam (KeepBut.refl w g none)
 have HL := Zam hB.size
 clear hI
 have HW0 := Zam hB.size
 have HB := Zam hB
 clear hB
 have H : (if 0 ≤ (IntKind.u64.wrap (a4)) then (if 0 ≤ (wrap64 ((wrap64 (a1 * a2)) * a3)) then (if (wrap64 ((wrap64 (a1 * a2)) * a3) : Int).toNat ≤ 35184372088832 then ((some (List.replicate (wrap64 ((wrap64 (a1 * a2)) * a3) : Int).toNat 0 : List Int)).bind fun y117 => ((spec_l1Cur_pick.f s0_0 s0_1 s0_2 30).bind fun bt120 => ((spec_l1Cur_pick.f s0_0 bt120.2.1 bt120.2.2 30).bind fun bt123 => ((spec_l1Cur_pick.f s0_0 bt123.2.1 bt123.2.2 (wrap64 ((wrap64 ((shl .i64 1 (IntKind.u64.wrap (a4))) - 1)) + 1))).bind fun bt126 => ((spec_l1Cur_pick.f s0_0 bt126.2.1 bt126.2.2 4).bind fun bt129 => (spec_l1Cur_samples.l0 k a1 a3 (wrap64 ((shl .i64 1 (IntKind.u64.wrap (a4))) - 1)) y117 (wrap64 (bt120.1 - 15)) (wrap64 (bt123.1 - 15)) bt126.1 bt129.1 (y117.length : Int) 0 s0_0 bt129.2.1 bt129.2.2)))))) else (none)) else (none)) else (none)) = some (r1, r2, r3) := h
 clear h
 obtain ⟨ji6, hji6⟩ : ∃ j_ : Int, (IntKind.u64.wrap (a4)) = j_ := ⟨_, rfl⟩
 replace H : (if 0 ≤ (ji6) then (if 0 ≤ (wrap64 ((wrap64 (a1 * a2)) * a3)) then (if (wrap64 ((wrap64 (a1 * a2)) * a3) : Int).toNat ≤ 35184372088832 then ((some (List.replicate (wrap64 ((wrap64 (a1 * a2)) * a3) : Int).toNat 0 : List Int)).bind fun y117 => ((spec_l1Cur_pick.f s0_0 s0_1 s0_2 30).bind fun bt120 => ((spec_l1Cur_pick.f s0_0 bt120.2.1 bt120.2.2 30).bind fun bt123 => ((spec_l1Cur_pick.f s0_0 bt123.2.1 bt123.2.2 (wrap64 ((wrap64 ((shl .i64 1 (ji6)) - 1)) + 1))).bind fun bt126 => ((spec_l1Cur_pick.f s0_0 bt126.2.1 bt126.2.2 4).bind fun bt129 => (spec_l1Cur_samples.l0 k a1 a3 (wrap64 ((shl .i64 1 (ji6)) - 1)) y117 (wrap64 (bt120.1 - 15)) (wrap64 (bt123.1 - 15)) bt126.1 bt129.1 (y117.length : Int) 0 s0_0 bt129.2.1 bt129.2.2)))))) else (none)) else (none)) else (none)) = some (r1, r2, r3) := by first | (rw [hji6] at H; exact H) | (simp only [hji6] at H ⊢; exact H)
 by_cases c7 : 0 ≤ (ji6)
 rotate_left
 ·rw [if_neg c7] at H
  exact absurd H (by simp)
 rw [if_pos c7] at H
 have c7b0 := eq_true c7
 have c7b1 : decide (0 ≤ (ji6)) = true := decide_eq_true c7
 clear c7
 obtain ⟨ji8, hji8⟩ : ∃ j_ : Int, (shl .i64 1 (ji6)) = j_ := ⟨_, rfl⟩
 replace H : (if 0 ≤ (wrap64 ((wrap64 (a1 * a2)) * a3)) then (if (wrap64 ((wrap64 (a1 * a2)) * a3) : Int).toNat ≤ 35184372088832 then ((some (List.replicate (wrap64 ((wrap64 (a1 * a2)) * a3) : Int).toNat 0 : List Int)).bind fun y117 => ((spec_l1Cur_pick.f s0_0 s0_1 s0_2 30).bind fun bt120 => ((spec_l1Cur_pick.f s0_0 bt120.2.1 bt120.2.2 30).bind fun bt123 => ((spec_l1Cur_pick.f s0_0 bt123.2.1 bt123.2.2 (wrap64 ((wrap64 ((ji8) - 1)) + 1))).bind fun bt126 => ((spec_l1Cur_pick.f s0_0 bt126.2.1 bt126.2.2 4).bind fun bt129 => (spec_l1Cur_samples.l0 k a1 a3 (wrap64 ((ji8) - 1)) y117 (wrap64 (bt120.1 - 15)) (wrap64 (bt123.1 - 15)) bt126.1 bt129.1 (y117.length : Int) 0 s0_0 bt129.2.1 bt129.2.2)))))) else (none)) else (none)) = some (r1, r2, r3) := by first | (rw [hji8] at H; exact H) | (simp only [hji8] at H ⊢; exact H)
 have hji8_ : (IntKind.i64.wrap (1 * 2 ^ min (ji6).toNat 64)) = ji8 := hji8
 have hji8z : (ji6) ≤ 64 → (IntKind.i64.wrap (1 * 2 ^ (ji6).toNat)) = ji8 := shl_small hji8
 have hji8u : (IntKind.i64.wrap (2 ^ min (ji6).toNat 64)) = ji8 := by have h_ := hji8_; rw [Int.one_mul] at h_; exact h_
 have hji8v : (ji6) ≤ 64 → (IntKind.i64.wrap (2 ^ (ji6).toNat)) = ji8 := fun hle_ => by have h_ := hji8z hle_; rw [Int.one_mul] at h_; exact h_
 have hji8y : (wrap64 (1 * 2 ^ min (ji6).toNat 64)) = ji8 := (i64_w _).symm.trans hji8_
 have hji8x : (ji6) ≤ 64 → (wrap64 (1 * 2 ^ (ji6).toNat)) = ji8 := fun h_ => (i64_w _).symm.trans (hji8z h_)
 obtain ⟨ji9, hji9⟩ : ∃ j_ : Int, (wrap64 ((wrap64 (a1 * a2)) * a3)) = j_ := ⟨_, rfl⟩
 replace H : (if 0 ≤ (ji9) then (if (ji9 : Int).toNat ≤ 35184372088832 then ((some (List.replicate (ji9 : Int).toNat 0 : List Int)).bind fun y117 => ((spec_l1Cur_pick.f s0_0 s0_1 s0_2 30).bind fun bt120 => ((spec_l1Cur_pick.f s0_0 bt120.2.1 bt120.2.2 30).bind fun bt123 => ((spec_l1Cur_pick.f s0_0 bt123.2.1 bt123.2.2 (wrap64 ((wrap64 ((ji8) - 1)) + 1))).bind fun bt126 => ((spec_l1Cur_pick.f s0_0 bt126.2.1 bt126.2.2 4).bind fun bt129 => (spec_l1Cur_samples.l0 k a1 a3 (wrap64 ((ji8) - 1)) y117 (wrap64 (bt120.1 - 15)) (wrap64 (bt123.1 - 15)) bt126.1 bt129.1 (y117.length : Int) 0 s0_0 bt129.2.1 bt129.2.2)))))) else (none)) else (none)) = some (r1, r2, r3) := by first | (rw [hji9] at H; exact H) | (simp only [hji9] at H ⊢; exact H)
 have hji9w : (IntKind.i64.wrap ((wrap64 (a1 * a2)) * a3)) = ji9 := (i64_w _).trans hji9
 by_cases c10 : 0 ≤ (ji9)
 rotate_left
 ·rw [if_neg c10] at H
  exact absurd H (by simp)
 rw [if_pos c10] at H
 have c10b0 := eq_true c10
 have c10b1 : decide (0 ≤ (ji9)) = true := decide_eq_true c10
 clear c10
 by_cases c11 : (ji9 : Int).toNat ≤ 35184372088832
 rotate_left
 ·rw [if_neg c11] at H
  exact absurd H (by simp)
 rw [if_pos c11] at H
 have c11b0 := eq_true c11
 have c11b1 : decide ((ji9 : Int).toNat ≤ 35184372088832) = true := decide_eq_true c11
 clear c11
 obtain ⟨y117, hy117⟩ : ∃ y_ : List Int, y_ = (List.replicate (ji9 : Int).toNat 0) := ⟨_, rfl⟩
 replace H : ((spec_l1Cur_pick.f s0_0 s0_1 s0_2 30).bind fun bt120 => ((spec_l1Cur_pick.f s0_0 bt120.2.1 bt120.2.2 30).bind fun bt123 => ((spec_l1Cur_pick.f s0_0 bt123.2.1 bt123.2.2 (wrap64 ((wrap64 ((ji8) - 1)) + 1))).bind fun bt126 => ((spec_l1Cur_pick.f s0_0 bt126.2.1 bt126.2.2 4).bind fun bt129 => (spec_l1Cur_samples.l0 k a1 a3 (wrap64 ((ji8) - 1)) y117 (wrap64 (bt120.1 - 15)) (wrap64 (bt123.1 - 15)) bt126.1 bt129.1 (y117.length : Int) 0 s0_0 bt129.2.1 bt129.2.2))))) = some (r1, r2, r3) := by first | (rw [hy117]; with_reducible exact H) | (have H2_ := (Option.bind_some _ _).symm.trans H; rw [hy117]; with_reducible exact H2_) | (have H2_ := (Option.bind_some _ _).symm.trans H; with_reducible exact H2_) | with_reducible exact H | (rw [hy117]; exact H) | exact H
 have Ny117 := Zam hy117
 clear hy117
 replace H := Zob.mp H
 obtain ⟨⟨t120, t121, t122⟩, A120, H⟩ := H
 replace H : ((spec_l1Cur_pick.f s0_0 t121 t122 30).bind fun bt123 => ((spec_l1Cur_pick.f s0_0 bt123.2.1 bt123.2.2 (wrap64 ((wrap64 ((ji8) - 1)) + 1))).bind fun bt126 => ((spec_l1Cur_pick.f s0_0 bt126.2.1 bt126.2.2 4).bind fun bt129 => (spec_l1Cur_samples.l0 k a1 a3 (wrap64 ((ji8) - 1)) y117 (wrap64 (t120 - 15)) (wrap64 (bt123.1 - 15)) bt126.1 bt129.1 (y117.length : Int) 0 s0_0 bt129.2.1 bt129.2.2)))) = some (r1, r2, r3) := H
 have A12 := Zam A120
 clear A120
 replace H := Zob.mp H
 obtain ⟨⟨t123, t124, t125⟩, A130, H⟩ := H
 replace H : ((spec_l1Cur_pick.f s0_0 t124 t125 (wrap64 ((wrap64 ((ji8) - 1)) + 1))).bind fun bt126 => ((spec_l1Cur_pick.f s0_0 bt126.2.1 bt126.2.2 4).bind fun bt129 => (spec_l1Cur_samples.l0 k a1 a3 (wrap64 ((ji8) - 1)) y117 (wrap64 (t120 - 15)) (wrap64 (t123 - 15)) bt126.1 bt129.1 (y117.length : Int) 0 s0_0 bt129.2.1 bt129.2.2))) = some (r1, r2, r3) := H
 have A13 := Zam A130
 clear A130
 replace H := Zob.mp H
 obtain ⟨⟨t126, t127, t128⟩, A140, H⟩ := H
 replace H : ((spec_l1Cur_pick.f s0_0 t127 t128 4).bind fun bt129 => (spec_l1Cur_samples.l0 k a1 a3 (wrap64 ((ji8) - 1)) y117 (wrap64 (t120 - 15)) (wrap64 (t123 - 15)) t126 bt129.1 (y117.length : Int) 0 s0_0 bt129.2.1 bt129.2.2)) = some (r1, r2, r3) := H
 have A14 := Zam A140
 clear A140
 replace H := Zob.mp H
 obtain ⟨⟨t129, t130, t131⟩, A150, H⟩ := H
 replace H : (spec_l1Cur_samples.l0 k a1 a3 (wrap64 ((ji8) - 1)) y117 (wrap64 (t120 - 15)) (wrap64 (t123 - 15)) t126 t129 (y117.length : Int) 0 s0_0 t130 t131) = some (r1, r2, r3) := H
 have A15 := Zam A150
 clear A150
 have H' := Zam H
 clear H
 go_enter Try.func183, Try.ntmps183
 go_wp2_with (first | ((with_reducible refine gate_dst (N := 30) rfl ?_); refine Kd.R_make (Kd.int .i64) _ 3 rfl (N := 30) rfl 22 _ _ rfl ji9 rfl rfl Try.underlying22 (.int .i64 0) 8 info3 rfl (by decide) (by omega) 0 (ok := fun _ => True) (okp := fun _ => True) rfl (fun _ hk => hk) trivial (of_decide_eq_true (by first | (with_reducible assumption) | assumption)) (Nat.le_trans (Nat.mul_le_mul_right _ (of_decide_eq_true (by first | (with_reducible assumption) | assumption) : ji9.toNat ≤ 35184372088832)) (by omega)) (Below.refl _ _) (Nat.le_refl _) ?_; intro v118 w16 ho17 hb hg_ hnew_; clear hg_ hnew_; (first | rw [← Ny117.out] at ho17 | (simp only [Int.reduceToNat] at ho17; rw [← Ny117.out] at ho17)); have n0_ := Zam (Kd.R_lower ho17 (keep_size (w := w) (g := g) (row := none) (by repeat (first | (with_reducible first | exact HK.out | apply KeepBut.set_ | apply keep_drewN | apply keep_drew | apply keep_alloc) | exact HK.out)))); have n1_ := Zam (IsS156.below (by repeat (first | (with_reducible first | exact HI0.out | apply IsS156.alloc | apply IsS156.drewN | apply IsS156.drew | apply IsS156.set_1 | apply IsS156.set_2) | exact HI0.out)) hb); have n2_ := Zam (KeepBut.trans (by repeat (first | (with_reducible first | exact HK.out | apply KeepBut.set_ | apply keep_drewN | apply keep_drew | apply keep_alloc) | exact HK.out)) (KeepBut.of_below hb g none) (.inl rfl)); have n3_ := Zam (ZbS (by repeat (first | (with_reducible first | exact HB.out | apply ZhA | apply ZhW | apply ZhD | refine ZhS ?_ (IsS156.ge HI0.out)) | exact HB.out)) hb); clear HI0 HK HB; have HO119 := n0_; have HI0 := n1_; have HK := n2_; have HB := n3_; clear n0_ n1_ n2_ n3_; clear hb ho17) | ((with_reducible refine gate_callee (f := 104) rfl ?_); refine goesL_ (some 32) rfl rfl Try.func104 (by kernel_rfl) rfl #[.pointer (some ⟨g, 0, none⟩), .int .i64 30] rfl (by (try simp only [Zm1, Zm2, Zm3]); first | done | rfl | (simp only [ZlL, ZlT]; rfl)) ?_; (with_reducible refine (spec_l1Cur_pick.calls g s0_0 s0_1 s0_2 30 t120 t121 t122 w0 _ ?side1 ?side2 A12.out).mono ?_); (case side1 => repeat (first | (with_reducible first | exact HI0.out | apply IsS156.alloc | apply IsS156.drewN | apply IsS156.drew | apply IsS156.set_1 | apply IsS156.set_2) | exact HI0.out)); (case side2 => repeat (first | (with_reducible first | exact HB.out | apply ZhA | apply ZhW | apply ZhD | refine ZhS ?_ (IsS156.ge HI0.out)) | exact HB.out)); rintro e w18 ⟨rfl, hi, hb, hk⟩; refine ⟨_, rfl, ?_⟩; have n0_ := Zam (Kd.R_mono (Kd.R_keep (IsS156.apart (show IsS156 w0 _ g s0_0 s0_1 s0_2 from by repeat (first | (with_reducible first | exact HI0.out | apply IsS156.alloc | apply IsS156.drewN | apply IsS156.drew | apply IsS156.set_1 | apply IsS156.set_2) | exact HI0.out)) (by (with_reducible repeat (first | apply ZrA | apply ZrW | apply ZrD)); exact HO119.out) (by decide)) hk (fun _ h => h.2)) (fun _ h => h.1)); have n1_ := Zam (KeepBut.trans (by repeat (first | (with_reducible first | exact HK.out | apply KeepBut.set_ | apply keep_drewN | apply keep_drew | apply keep_alloc) | exact HK.out)) hk (.inl rfl)); have n2_ := Zam (hb); have n3_ := Zam (hi); clear HO119 HK HB HI0; have HO119 := n0_; have HK := n1_; have HB := n2_; have HI0 := n3_; clear n0_ n1_ n2_ n3_; (try clear hb); (try clear hb2); (try clear hk); (try clear hi)) | ((with_reducible refine gate_callee (f := 104) rfl ?_); refine goesL_ (some 35) rfl rfl Try.func104 (by kernel_rfl) rfl #[.pointer (some ⟨g, 0, none⟩), .int .i64 30] rfl (by (try simp only [Zm1, Zm2, Zm3]); first | done | rfl | (simp only [ZlL, ZlT]; rfl)) ?_; (with_reducible refine (spec_l1Cur_pick.calls g s0_0 t121 t122 30 t123 t124 t125 w0 _ ?side1 ?side2 A13.out).mono ?_); (case side1 => repeat (first | (with_reducible first | exact HI0.out | apply IsS156.alloc | apply IsS156.drewN | apply IsS156.drew | apply IsS156.set_1 | apply IsS156.set_2) | exact HI0.out)); (case side2 => repeat (first | (with_reducible first | exact HB.out | apply ZhA | apply ZhW | apply ZhD | refine ZhS ?_ (IsS156.ge HI0.out)) | exact HB.out)); rintro e w19 ⟨rfl, hi, hb, hk⟩; refine ⟨_, rfl, ?_⟩; have n0_ := Zam (Kd.R_mono (Kd.R_keep (IsS156.apart (show IsS156 w0 _ g s0_0 t121 t122 from by repeat (first | (with_reducible first | exact HI0.out | apply IsS156.alloc | apply IsS156.drewN | apply IsS156.drew | apply IsS156.set_1 | apply IsS156.set_2) | exact HI0.out)) (by (with_reducible repeat (first | apply ZrA | apply ZrW | apply ZrD)); exact HO119.out) (by decide)) hk (fun _ h => h.2)) (fun _ h => h.1)); have n1_ := Zam (KeepBut.trans (by repeat (first | (with_reducible first | exact HK.out | apply KeepBut.set_ | apply keep_drewN | apply keep_drew | apply keep_alloc) | exact HK.out)) hk (.inl rfl)); have n2_ := Zam (hb); have n3_ := Zam (hi); clear HO119 HK HB HI0; have HO119 := n0_; have HK := n1_; have HB := n2_; have HI0 := n3_; clear n0_ n1_ n2_ n3_; (try clear hb); (try clear hb2); (try clear hk); (try clear hi)) | ((with_reducible refine gate_callee (f := 104) rfl ?_); refine goesL_ (some 40) rfl rfl Try.func104 (by kernel_rfl) rfl #[.pointer (some ⟨g, 0, none⟩), .int .i64 (wrap64 ((wrap64 ((ji8) - 1)) + 1))] rfl (by (try simp only [Zm1, Zm2, Zm3]); first | done | (simp only [hji8]; rfl) | rfl | (simp only [ZlL, ZlT]; rfl)) ?_; (with_reducible refine (spec_l1Cur_pick.calls g s0_0 t124 t125 (wrap64 ((wrap64 ((ji8) - 1)) + 1)) t126 t127 t128 w0 _ ?side1 ?side2 A14.out).mono ?_); (case side1 => repeat (first | (with_reducible first | exact HI0.out | apply IsS156.alloc | apply IsS156.drewN | apply IsS156.drew | apply IsS156.set_1 | apply IsS156.set_2) | exact HI0.out)); (case side2 => repeat (first | (with_reducible first | exact HB.out | apply ZhA | apply ZhW | apply ZhD | refine ZhS ?_ (IsS156.ge HI0.out)) | exact HB.out)); rintro e w20 ⟨rfl, hi, hb, hk⟩; refine ⟨_, rfl, ?_⟩; have n0_ := Zam (Kd.R_mono (Kd.R_keep (IsS156.apart (show IsS156 w0 _ g s0_0 t124 t125 from by repeat (first | (with_reducible first | exact HI0.out | apply IsS156.alloc | apply IsS156.drewN | apply IsS156.drew | apply IsS156.set_1 | apply IsS156.set_2) | exact HI0.out)) (by (with_reducible repeat (first | apply ZrA | apply ZrW | apply ZrD)); exact HO119.out) (by decide)) hk (fun _ h => h.2)) (fun _ h => h.1)); have n1_ := Zam (KeepBut.trans (by repeat (first | (with_reducible first | exact HK.out | apply KeepBut.set_ | apply keep_drewN | apply keep_drew | apply keep_alloc) | exact HK.out)) hk (.inl rfl)); have n2_ := Zam (hb); have n3_ := Zam (hi); clear HO119 HK HB HI0; have HO119 := n0_; have HK := n1_; have HB := n2_; have HI0 := n3_; clear n0_ n1_ n2_ n3_; (try clear hb); (try clear hb2); (try clear hk); (try clear hi)) | ((with_reducible refine gate_callee (f := 104) rfl ?_); refine goesL_ (some 42) rfl rfl Try.func104 (by kernel_rfl) rfl #[.pointer (some ⟨g, 0, none⟩), .int .i64 4] rfl (by (try simp only [Zm1, Zm2, Zm3]); first | done | rfl | (simp only [ZlL, ZlT]; rfl)) ?_; (with_reducible refine (spec_l1Cur_pick.calls g s0_0 t127 t128 4 t129 t130 t131 w0 _ ?side1 ?side2 A15.out).mono ?_); (case side1 => repeat (first | (with_reducible first | exact HI0.out | apply IsS156.alloc | apply IsS156.drewN | apply IsS156.drew | apply IsS156.set_1 | apply IsS156.set_2) | exact HI0.out)); (case side2 => repeat (first | (with_reducible first | exact HB.out | apply ZhA | apply ZhW | apply ZhD | refine ZhS ?_ (IsS156.ge HI0.out)) | exact HB.out)); rintro e w21 ⟨rfl, hi, hb, hk⟩; refine ⟨_, rfl, ?_⟩; have n0_ := Zam (Kd.R_mono (Kd.R_keep (IsS156.apart (show IsS156 w0 _ g s0_0 t127 t128 from by repeat (first | (with_reducible first | exact HI0.out | apply IsS156.alloc | apply IsS156.drewN | apply IsS156.drew | apply IsS156.set_1 | apply IsS156.set_2) | exact HI0.out)) (by (with_reducible repeat (first | apply ZrA | apply ZrW | apply ZrD)); exact HO119.out) (by decide)) hk (fun _ h => h.2)) (fun _ h => h.1)); have n1_ := Zam (KeepBut.trans (by repeat (first | (with_reducible first | exact HK.out | apply KeepBut.set_ | apply keep_drewN | apply keep_drew | apply keep_alloc) | exact HK.out)) hk (.inl rfl)); have n2_ := Zam (hb); have n3_ := Zam (hi); clear HO119 HK HB HI0; have HO119 := n0_; have HK := n1_; have HB := n2_; have HI0 := n3_; clear n0_ n1_ n2_ n3_; (try clear hb); (try clear hb2); (try clear hk); (try clear hi); obtain ⟨Ao22, co22, eo22⟩ := Kd.R_slice HO119.out; subst eo22))
 go_loopg [45] k (fun kq v45 w' => ∃ (x12_1 : List Int) (x45_1 : Int) (x1001_1 : Int) (x1002_1 : Int), v45 = .int .i64 x45_1 ∧ Aside0 (spec_l1Cur_samples.l0 kq a1 a3 (wrap64 ((ji8) - 1)) x12_1 (wrap64 (t120 - 15)) (wrap64 (t123 - 15)) t126 t129 (y117.length : Int) x45_1 s0_0 x1001_1 x1002_1 = some (r1, r2, r3)) ∧ Aside0 (kq ≤ k) ∧ Aside0 (Kd.R (Kd.int .i64) 3 w' w.heap.size (fun _ => True) (.slice Ao22 y117.length co22) x12_1) ∧ Aside0 (IsS156 w0 w' g s0_0 x1001_1 x1002_1) ∧ Aside0 (KeepBut w w' g none) ∧ Aside0 (Below w0.heap.size w0 w'))
 case atStart => exact ⟨(y117), (0), (t130), (t131), (by first | rfl | (simp; done) | (simp [*]; done)), H', ⟨Nat.le_refl _⟩, ⟨by (with_reducible repeat (first | apply ZrA | apply ZrW | apply ZrD)); exact HO119.out⟩, ⟨by repeat (first | (with_reducible first | exact HI0.out | apply IsS156.alloc | apply IsS156.drewN | apply IsS156.drew | apply IsS156.set_1 | apply IsS156.set_2) | exact HI0.out)⟩, ⟨by repeat (first | (with_reducible first | exact HK.out | apply KeepBut.set_ | apply keep_drewN | apply keep_drew | apply keep_alloc) | exact HK.out)⟩, ⟨by repeat (first | (with_reducible first | exact HB.out | apply ZhA | apply ZhW | apply ZhD | refine ZhS ?_ (IsS156.ge HI0.out)) | exact HB.out)⟩⟩
 case round =>
  clear H'
  try clear c1
  try clear p2
  try clear p6
  try clear c7
  try clear c7b0
  try clear c7b1
  try clear c10
  try clear c10b0
  try clear c10b1
  try clear c11
  try clear c11b0
  try clear c11b1
  try clear c18
  obtain ⟨x12_1, x45_1, x1001_1, x1002_1, rfl, HA, HK1, HO_12, HI0, HK, HB⟩ := hrel
  have hl12_1 := (Kd.R_reads' HO_12.out).1
  rw [hl12_1] at HO_12
  (try simp only [hl12_1])
  cases gk with
  | zero => exact absurd HA.out (by simp [spec_l1Cur_samples.l0])
  | succ k1 =>
   have H := HA.out
   clear HA
   simp only [spec_l1Cur_samples.l0] at H
   by_cases c23 : x45_1 < (y117.length : Int)
   rotate_left
   ·rw [if_neg c23] at H
    have c23b0 : decide (x45_1 < (y117.length : Int)) = false := decide_eq_false c23
    (try simp only [hl12_1] at c23b0)
    clear c23
    simp only [Option.some.injEq, Prod.mk.injEq] at H
    obtain ⟨rfl, rfl, rfl⟩ := H
    go_wp2
    go_ret
    exact ⟨_, by first | rfl | (simp [errW_none, errW_some] <;> rfl) | (simp only [← hji6, ← hji8, ← hji9]; first | rfl | (simp [errW_none, errW_some] <;> rfl)) | (simp [*, errW_none, errW_some] <;> rfl), by (with_reducible repeat (first | apply ZrA | apply ZrW | apply ZrD)); exact HO_12.out, by repeat (first | (with_reducible first | exact HI0.out | apply IsS156.alloc | apply IsS156.drewN | apply IsS156.drew | apply IsS156.set_1 | apply IsS156.set_2) | exact HI0.out), by repeat (first | (with_reducible first | exact HB.out | apply ZhA | apply ZhW | apply ZhD | refine ZhS ?_ (IsS156.ge HI0.out)) | exact HB.out), by repeat (first | (with_reducible first | exact HK.out | apply KeepBut.set_ | apply keep_drewN | apply keep_drew | apply keep_alloc) | exact HK.out)⟩
   rw [if_pos c23] at H
   have c23b0 : decide (x45_1 < (y117.length : Int)) = true := decide_eq_true c23
   (try simp only [hl12_1] at c23b0)
   clear c23
   by_cases c24 : a3 = 0
   ·rw [if_pos c24] at H
    exact absurd H (by simp)
   rw [if_neg c24] at H
   have c24b0 : (a3 == 0) = false := beq_eq_false_iff_ne.mpr c24
   have c24b1 : (a3 != 0) = true := bne_iff_ne.mpr c24
   by_cases c25 : a1 = 0
   ·rw [if_pos c25] at H
    exact absurd H (by simp)
   rw [if_neg c25] at H
   have c25b0 : (a1 == 0) = false := beq_eq_false_iff_ne.mpr c25
   have c25b1 : (a1 != 0) = true := bne_iff_ne.mpr c25
   have HC26 := Zam H
   clear H
   go_upto_if 73 with (fail)
   go_cut [20] (fun v20 wc => ∃ (kq : Nat) (x20_25 : Int) (x1001_25 : Int) (x1002_25 : Int), v20 = .int .i64 x20_25 ∧ Aside0 (spec_l1Cur_samples.j1 kq a1 a3 (wrap64 ((ji8) - 1)) x12_1 (wrap64 (t120 - 15)) (wrap64 (t123 - 15)) t126 t129 x45_1 (Int.tmod (wrap64 (Int.tdiv x45_1 a3)) a1) x20_25 (y117.length : Int) x45_1 s0_0 x1001_25 x1002_25 = some (r1, r2, r3)) ∧ Aside0 (kq ≤ k1) ∧ Aside0 (Kd.R (Kd.int .i64) 3 wc w.heap.size (fun _ => True) (.slice Ao22 x12_1.length co22) x12_1) ∧ Aside0 (IsS156 w0 wc g s0_0 x1001_25 x1002_25) ∧ Aside0 (KeepBut w wc g none) ∧ Aside0 (Below w0.heap.size w0 wc))
   case first =>
    have H := HC26.out
    clear HC26
    by_cases c27 : t129 = 1
    rotate_left
    ·rw [if_neg c27] at H
     have c27b0 : (t129 == 1) = false := beq_eq_false_iff_ne.mpr c27
     have c27b1 : (t129 != 1) = true := bne_iff_ne.mpr c27
     (first | rw [c27b0] | (simp only [i64_w, i32_w]; rw [c27b0]) | skip)
     have H' := Zam H
     clear H
     go_wp2
     go_meet
     case rel => exact ⟨_, (wrap64 ((wrap64 ((wrap64 (t126 + (wrap64 ((Int.tmod (wrap64 (Int.tdiv x45_1 a3)) a1) * (wrap64 (t120 - 15)))))) + (wrap64 ((wrap64 (Int.tdiv (wrap64 (Int.tdiv x45_1 a3)) a1)) * (wrap64 (t123 - 15)))))) + (wrap64 ((Int.tmod x45_1 a3) * 20)))), (x1001_1), (x1002_1), (by first | rfl | (simp; done) | (simp [*]; done)), H', ⟨by have := HK1.out; first | omega | exact Nat.le_refl _⟩, ⟨by (try simp only [hl12_1]); (with_reducible repeat (first | apply ZrA | apply ZrW | apply ZrD)); exact HO_12.out⟩, ⟨by repeat (first | (with_reducible first | exact HI0.out | apply IsS156.alloc | apply IsS156.drewN | apply IsS156.drew | apply IsS156.set_1 | apply IsS156.set_2) | exact HI0.out)⟩, ⟨by repeat (first | (with_reducible first | exact HK.out | apply KeepBut.set_ | apply keep_drewN | apply keep_drew | apply keep_alloc) | exact HK.out)⟩, ⟨by repeat (first | (with_reducible first | exact HB.out | apply ZhA | apply ZhW | apply ZhD | refine ZhS ?_ (IsS156.ge HI0.out)) | exact HB.out)⟩⟩
    rw [if_pos c27] at H
    have c27b0 : (t129 == 1) = true := beq_iff_eq.mpr c27
    have c27b1 : (t129 != 1) = false := bne_eq_false_iff_eq.mpr c27
    clear c27
    (first | rw [c27b0] | (simp only [i64_w, i32_w]; rw [c27b0]) | skip)
    replace H := Zob.mp H
    obtain ⟨⟨t132, t133, t134⟩, A280, H⟩ := H
    replace H : (spec_l1Cur_samples.j1 k1 a1 a3 (wrap64 ((ji8) - 1)) x12_1 (wrap64 (t120 - 15)) (wrap64 (t123 - 15)) t126 t129 x45_1 (Int.tmod (wrap64 (Int.tdiv x45_1 a3)) a1) (wrap64 ((wrap64 ((wrap64 ((wrap64 (t126 + (wrap64 ((Int.tmod (wrap64 (Int.tdiv x45_1 a3)) a1) * (wrap64 (t120 - 15)))))) + (wrap64 ((wrap64 (Int.tdiv (wrap64 (Int.tdiv x45_1 a3)) a1)) * (wrap64 (t123 - 15)))))) + (wrap64 ((Int.tmod x45_1 a3) * 20)))) + t132)) (y117.length : Int) x45_1 s0_0 t133 t134) = some (r1, r2, r3) := H
    have A28 := Zam A280
    clear A280
    have H' := Zam H
    clear H
    go_wp2_with (first | ((with_reducible refine gate_callee (f := 104) rfl ?_); refine goesL_ (some 76) rfl rfl Try.func104 (by kernel_rfl) rfl #[.pointer (some ⟨g, 0, none⟩), .int .i64 9] rfl (by (try simp only [Zm1, Zm2, Zm3]); first | done | rfl | (simp only [ZlL, ZlT]; rfl)) ?_; (with_reducible refine (spec_l1Cur_pick.calls g s0_0 x1001_1 x1002_1 9 t132 t133 t134 w0 _ ?side1 ?side2 A28.out).mono ?_); (case side1 => repeat (first | (with_reducible first | exact HI0.out | apply IsS156.alloc | apply IsS156.drewN | apply IsS156.drew | apply IsS156.set_1 | apply IsS156.set_2) | exact HI0.out)); (case side2 => repeat (first | (with_reducible first | exact HB.out | apply ZhA | apply ZhW | apply ZhD | refine ZhS ?_ (IsS156.ge HI0.out)) | exact HB.out)); rintro e w29 ⟨rfl, hi, hb, hk⟩; refine ⟨_, rfl, ?_⟩; have n0_ := Zam (Kd.R_mono (Kd.R_keep (IsS156.apart (show IsS156 w0 _ g s0_0 x1001_1 x1002_1 from by repeat (first | (with_reducible first | exact HI0.out | apply IsS156.alloc | apply IsS156.drewN | apply IsS156.drew | apply IsS156.set_1 | apply IsS156.set_2) | exact HI0.out)) (by (with_reducible repeat (first | apply ZrA | apply ZrW | apply ZrD)); exact HO_12.out) (by decide)) hk (fun _ h => h.2)) (fun _ h => h.1)); have n1_ := Zam (KeepBut.trans (by repeat (first | (with_reducible first | exact HK.out | apply KeepBut.set_ | apply keep_drewN | apply keep_drew | apply keep_alloc) | exact HK.out)) hk (.inl rfl)); have n2_ := Zam (hb); have n3_ := Zam (hi); clear HO_12 HK HB HI0; have HO_12 := n0_; have HK := n1_; have HB := n2_; have HI0 := n3_; clear n0_ n1_ n2_ n3_; (try clear hb); (try clear hb2); (try clear hk); (try clear hi)))
    go_meet
    case rel => exact ⟨_, (wrap64 ((wrap64 ((wrap64 ((wrap64 (t126 + (wrap64 ((Int.tmod (wrap64 (Int.tdiv x45_1 a3)) a1) * (wrap64 (t120 - 15)))))) + (wrap64 ((wrap64 (Int.tdiv (wrap64 (Int.tdiv x45_1 a3)) a1)) * (wrap64 (t123 - 15)))))) + (wrap64 ((Int.tmod x45_1 a3) * 20)))) + t132)), (t133), (t134), (by first | rfl | (simp; done) | (simp [*]; done)), H', ⟨by have := HK1.out; first | omega | exact Nat.le_refl _⟩, ⟨by (try simp only [hl12_1]); (with_reducible repeat (first | apply ZrA | apply ZrW | apply ZrD)); exact HO_12.out⟩, ⟨by repeat (first | (with_reducible first | exact HI0.out | apply IsS156.alloc | apply IsS156.drewN | apply IsS156.drew | apply IsS156.set_1 | apply IsS156.set_2) | exact HI0.out)⟩, ⟨by repeat (first | (with_reducible first | exact HK.out | apply KeepBut.set_ | apply keep_drewN | apply keep_drew | apply keep_alloc) | exact HK.out)⟩, ⟨by repeat (first | (with_reducible first | exact HB.out | apply ZhA | apply ZhW | apply ZhD | refine ZhS ?_ (IsS156.ge HI0.out)) | exact HB.out)⟩⟩
   case rest =>
    clear HC26
    try clear c1
    try clear c2
    try clear p2
    try clear p6
    try clear c7
    try clear c7b0
    try clear c7b1
    try clear c10
    try clear c10b0
    try clear c10b1
    try clear c11
    try clear c11b0
    try clear c11b1
    try clear c18
    try clear c23
    try clear c23b0
    try clear c24
    try clear c24b0
    try clear c24b1
    try clear c25
    try clear c25b0
    try clear c25b1
    try clear c27
    try clear c27b0
    try clear c27b1
    try clear p2
    try clear p6
    obtain ⟨kq, x20_25, x1001_25, x1002_25, rfl, HA, HJ25, HO_12, HI0, HK, HB⟩ := hcut
    cases kq with
    | zero => exact absurd HA.out (by simp [spec_l1Cur_samples.j1])
    | succ kj25 =>
     have H := HA.out
     clear HA
     simp only [spec_l1Cur_samples.j1] at H
     have HC30 := Zam H
     clear H
     go_upto_region 15 with (fail)
     go_cut [85] (fun v85 wc => ∃ (kq : Nat) (x85_29 : Bool), v85 = .bool x85_29 ∧ Aside0 (spec_l1Cur_samples.j2 kq a1 a3 (wrap64 ((ji8) - 1)) x12_1 (wrap64 (t120 - 15)) (wrap64 (t123 - 15)) t126 t129 x45_1 x20_25 (y117.length : Int) x45_1 x85_29 s0_0 x1001_25 x1002_25 = some (r1, r2, r3)) ∧ Aside0 (kq ≤ kj25) ∧ Aside0 (Kd.R (Kd.int .i64) 3 wc w.heap.size (fun _ => True) (.slice Ao22 x12_1.length co22) x12_1) ∧ Aside0 (IsS156 w0 wc g s0_0 x1001_25 x1002_25) ∧ Aside0 (KeepBut w wc g none) ∧ Aside0 (Below w0.heap.size w0 wc))
     case first =>
      have H := HC30.out
      clear HC30
      by_cases c31 : t129 = 2
      rotate_left
      ·rw [if_neg c31] at H
       have c31b0 : (t129 == 2) = false := beq_eq_false_iff_ne.mpr c31
       have c31b1 : (t129 != 2) = true := bne_iff_ne.mpr c31
       (first | rw [c31b0] | (simp only [i64_w, i32_w]; rw [c31b0]) | skip)
       have H' := Zam H
       clear H
       go_wp2
       go_meet
       case rel => exact ⟨_, (false), (by first | rfl | (simp; done) | (simp [*]; done)), H', ⟨by have := HK1.out; have := HJ25.out; first | omega | exact Nat.le_refl _⟩, ⟨by (try simp only [hl12_1]); (with_reducible repeat (first | apply ZrA | apply ZrW | apply ZrD)); exact HO_12.out⟩, ⟨by repeat (first | (with_reducible first | exact HI0.out | apply IsS156.alloc | apply IsS156.drewN | apply IsS156.drew | apply IsS156.set_1 | apply IsS156.set_2) | exact HI0.out)⟩, ⟨by repeat (first | (with_reducible first | exact HK.out | apply KeepBut.set_ | apply keep_drewN | apply keep_drew | apply keep_alloc) | exact HK.out)⟩, ⟨by repeat (first | (with_reducible first | exact HB.out | apply ZhA | apply ZhW | apply ZhD | refine ZhS ?_ (IsS156.ge HI0.out)) | exact HB.out)⟩⟩
      rw [if_pos c31] at H
      have c31b0 : (t129 == 2) = true := beq_iff_eq.mpr c31
      have c31b1 : (t129 != 2) = false := bne_eq_false_iff_eq.mpr c31
      clear c31
      (first | rw [c31b0] | (simp only [i64_w, i32_w]; rw [c31b0]) | skip)
      have H' := Zam H
      clear H
      go_wp2
      go_meet
      case rel => exact ⟨_, (decide ((Int.tmod (wrap64 (Int.tdiv x45_1 a3)) a1) > (wrap64 (Int.tdiv a1 2)))), (by first | rfl | (simp; done) | (simp [*]; done)), H', ⟨by have := HK1.out; have := HJ25.out; first | omega | exact Nat.le_refl _⟩, ⟨by (try simp only [hl12_1]); (with_reducible repeat (first | apply ZrA | apply ZrW | apply ZrD)); exact HO_12.out⟩, ⟨by repeat (first | (with_reducible first | exact HI0.out | apply IsS156.alloc | apply IsS156.drewN | apply IsS156.drew | apply IsS156.set_1 | apply IsS156.set_2) | exact HI0.out)⟩, ⟨by repeat (first | (with_reducible first | exact HK.out | apply KeepBut.set_ | apply keep_drewN | apply keep_drew | apply keep_alloc) | exact HK.out)⟩, ⟨by repeat (first | (with_reducible first | exact HB.out | apply ZhA | apply ZhW | apply ZhD | refine ZhS ?_ (IsS156.ge HI0.out)) | exact HB.out)⟩⟩
     case rest =>
      clear HC30
      try clear c1
      try clear c2
      try clear p2
      try clear c3
      try clear p6
      try clear c7
      try clear c7b0
      try clear c7b1
      try clear c10
      try clear c10b0
      try clear c10b1
      try clear c11
      try clear c11b0
      try clear c11b1
      try clear c18
      try clear c23
      try clear c23b0
      try clear c24
      try clear c24b0
      try clear c24b1
      try clear c25
      try clear c25b0
      try clear c25b1
      try clear c27
      try clear c27b0
      try clear c27b1
      try clear c31
      try clear c31b0
      try clear c31b1
      try clear p2
      try clear p6
      obtain ⟨kq, x85_29, rfl, HA, HJ29, HO_12, HI0, HK, HB⟩ := hcut
      cases kq with
      | zero => exact absurd HA.out (by simp [spec_l1Cur_samples.j2])
      | succ kj29 =>
       have H := HA.out
       clear HA
       simp only [spec_l1Cur_samples.j2] at H
       have HC32 := Zam H
       clear H
       go_upto_if 85 with (fail)
       go_cut [20] (fun v20 wc => ∃ (kq : Nat) (x20_31 : Int), v20 = .int .i64 x20_31 ∧ Aside0 (spec_l1Cur_samples.j3 kq a1 a3 (wrap64 ((ji8) - 1)) x12_1 (wrap64 (t120 - 15)) (wrap64 (t123 - 15)) t126 t129 x45_1 x20_31 (y117.length : Int) x45_1 s0_0 x1001_25 x1002_25 = some (r1, r2, r3)) ∧ Aside0 (kq ≤ kj29) ∧ Aside0 (Kd.R (Kd.int .i64) 3 wc w.heap.size (fun _ => True) (.slice Ao22 x12_1.length co22) x12_1) ∧ Aside0 (IsS156 w0 wc g s0_0 x1001_25 x1002_25) ∧ Aside0 (KeepBut w wc g none) ∧ Aside0 (Below w0.heap.size w0 wc))
       case first =>
        have H := HC32.out
        clear HC32
        by_cases c33 : x85_29 = true
        rotate_left
        ·replace c33 := Bool.eq_false_iff.mpr c33
         subst c33
         replace H : (spec_l1Cur_samples.j3 kj29 a1 a3 (wrap64 ((ji8) - 1)) x12_1 (wrap64 (t120 - 15)) (wrap64 (t123 - 15)) t126 t129 x45_1 x20_25 (y117.length : Int) x45_1 s0_0 x1001_25 x1002_25) = some (r1, r2, r3) := by rw [if_neg (show ¬ (false = true) by decide)] at H; exact H
         have H' := Zam H
         clear H
         go_wp2
         go_meet
         case rel => exact ⟨_, (x20_25), (by first | rfl | (simp; done) | (simp [*]; done)), H', ⟨by have := HK1.out; have := HJ25.out; have := HJ29.out; first | omega | exact Nat.le_refl _⟩, ⟨by (try simp only [hl12_1]); (with_reducible repeat (first | apply ZrA | apply ZrW | apply ZrD)); exact HO_12.out⟩, ⟨by repeat (first | (with_reducible first | exact HI0.out | apply IsS156.alloc | apply IsS156.drewN | apply IsS156.drew | apply IsS156.set_1 | apply IsS156.set_2) | exact HI0.out)⟩, ⟨by repeat (first | (with_reducible first | exact HK.out | apply KeepBut.set_ | apply keep_drewN | apply keep_drew | apply keep_alloc) | exact HK.out)⟩, ⟨by repeat (first | (with_reducible first | exact HB.out | apply ZhA | apply ZhW | apply ZhD | refine ZhS ?_ (IsS156.ge HI0.out)) | exact HB.out)⟩⟩
        subst c33
        replace H : (spec_l1Cur_samples.j3 kj29 a1 a3 (wrap64 ((ji8) - 1)) x12_1 (wrap64 (t120 - 15)) (wrap64 (t123 - 15)) t126 t129 x45_1 (wrap64 ((wrap64 ((ji8) - 1)) - x20_25)) (y117.length : Int) x45_1 s0_0 x1001_25 x1002_25) = some (r1, r2, r3) := by rw [if_pos rfl] at H; exact H
        have H' := Zam H
        clear H
        go_wp2
        go_meet
        case rel => exact ⟨_, (wrap64 ((wrap64 ((ji8) - 1)) - x20_25)), (by first | rfl | (simp; done) | (simp only [← hji8] <;> (first | rfl | simp)) | (simp [*]; done)), H', ⟨by have := HK1.out; have := HJ25.out; have := HJ29.out; first | omega | exact Nat.le_refl _⟩, ⟨by (try simp only [hl12_1]); (with_reducible repeat (first | apply ZrA | apply ZrW | apply ZrD)); exact HO_12.out⟩, ⟨by repeat (first | (with_reducible first | exact HI0.out | apply IsS156.alloc | apply IsS156.drewN | apply IsS156.drew | apply IsS156.set_1 | apply IsS156.set_2) | exact HI0.out)⟩, ⟨by repeat (first | (with_reducible first | exact HK.out | apply KeepBut.set_ | apply keep_drewN | apply keep_drew | apply keep_alloc) | exact HK.out)⟩, ⟨by repeat (first | (with_reducible first | exact HB.out | apply ZhA | apply ZhW | apply ZhD | refine ZhS ?_ (IsS156.ge HI0.out)) | exact HB.out)⟩⟩
       case rest =>
        clear HC32
        try clear c1
        try clear c2
        try clear p2
        try clear c3
        try clear p6
        try clear c7
        try clear c7b0
        try clear c7b1
        try clear c10
        try clear c10b0
        try clear c10b1
        try clear c11
        try clear c11b0
        try clear c11b1
        try clear c18
        try clear c23
        try clear c23b0
        try clear c24
        try clear c24b0
        try clear c24b1
        try clear c25
        try clear c25b0
        try clear c25b1
        try clear c27
        try clear c27b0
        try clear c27b1
        try clear c31
        try clear c31b0
        try clear c31b1
        try clear c33
        try clear p2
        try clear p6
        obtain ⟨kq, x20_31, rfl, HA, HJ31, HO_12, HI0, HK, HB⟩ := hcut
        cases kq with
        | zero => exact absurd HA.out (by simp [spec_l1Cur_samples.j3])
        | succ kj31 =>
         have H := HA.out
         clear HA
         simp only [spec_l1Cur_samples.j3] at H
         have HC34 := Zam H
         clear H
         go_upto_if 90 with (fail)
         go_cut [20] (fun v20 wc => ∃ (kq : Nat) (x20_33 : Int) (x1001_33 : Int) (x1002_33 : Int), v20 = .int .i64 x20_33 ∧ Aside0 (spec_l1Cur_samples.j4 kq a1 a3 (wrap64 ((ji8) - 1)) x12_1 (wrap64 (t120 - 15)) (wrap64 (t123 - 15)) t126 t129 x45_1 x20_33 (y117.length : Int) x45_1 s0_0 x1001_33 x1002_33 = some (r1, r2, r3)) ∧ Aside0 (kq ≤ kj31) ∧ Aside0 (Kd.R (Kd.int .i64) 3 wc w.heap.size (fun _ => True) (.slice Ao22 x12_1.length co22) x12_1) ∧ Aside0 (IsS156 w0 wc g s0_0 x1001_33 x1002_33) ∧ Aside0 (KeepBut w wc g none) ∧ Aside0 (Below w0.heap.size w0 wc))
         case first =>
          have H := HC34.out
          clear HC34
          by_cases c35 : t129 = 3
          rotate_left
          ·rw [if_neg c35] at H
           have c35b0 : (t129 == 3) = false := beq_eq_false_iff_ne.mpr c35
           have c35b1 : (t129 != 3) = true := bne_iff_ne.mpr c35
           (first | rw [c35b0] | (simp only [i64_w, i32_w]; rw [c35b0]) | skip)
           have H' := Zam H
           clear H
           go_wp2
           go_meet
           case rel => exact ⟨_, (x20_31), (x1001_25), (x1002_25), (by first | rfl | (simp; done) | (simp [*]; done)), H', ⟨by have := HK1.out; have := HJ25.out; have := HJ29.out; have := HJ31.out; first | omega | exact Nat.le_refl _⟩, ⟨by (try simp only [hl12_1]); (with_reducible repeat (first | apply ZrA | apply ZrW | apply ZrD)); exact HO_12.out⟩, ⟨by repeat (first | (with_reducible first | exact HI0.out | apply IsS156.alloc | apply IsS156.drewN | apply IsS156.drew | apply IsS156.set_1 | apply IsS156.set_2) | exact HI0.out)⟩, ⟨by repeat (first | (with_reducible first | exact HK.out | apply KeepBut.set_ | apply keep_drewN | apply keep_drew | apply keep_alloc) | exact HK.out)⟩, ⟨by repeat (first | (with_reducible first | exact HB.out | apply ZhA | apply ZhW | apply ZhD | refine ZhS ?_ (IsS156.ge HI0.out)) | exact HB.out)⟩⟩
          rw [if_pos c35] at H
          have c35b0 : (t129 == 3) = true := beq_iff_eq.mpr c35
          have c35b1 : (t129 != 3) = false := bne_eq_false_iff_eq.mpr c35
          clear c35
          (first | rw [c35b0] | (simp only [i64_w, i32_w]; rw [c35b0]) | skip)
          replace H := Zob.mp H
          obtain ⟨⟨t135, t136, t137⟩, A360, H⟩ := H
          replace H : (spec_l1Cur_samples.j4 kj31 a1 a3 (wrap64 ((ji8) - 1)) x12_1 (wrap64 (t120 - 15)) (wrap64 (t123 - 15)) t126 t129 x45_1 t135 (y117.length : Int) x45_1 s0_0 t136 t137) = some (r1, r2, r3) := H
          have A36 := Zam A360
          clear A360
          have H' := Zam H
          clear H
          go_wp2_with (first | ((with_reducible refine gate_callee (f := 104) rfl ?_); refine goesL_ (some 94) rfl rfl Try.func104 (by kernel_rfl) rfl #[.pointer (some ⟨g, 0, none⟩), .int .i64 (wrap64 ((wrap64 ((ji8) - 1)) + 1))] rfl (by (try simp only [Zm1, Zm2, Zm3]); first | done | (simp only [hji8]; rfl) | rfl | (simp only [ZlL, ZlT]; rfl)) ?_; (with_reducible refine (spec_l1Cur_pick.calls g s0_0 x1001_25 x1002_25 (wrap64 ((wrap64 ((ji8) - 1)) + 1)) t135 t136 t137 w0 _ ?side1 ?side2 A36.out).mono ?_); (case side1 => repeat (first | (with_reducible first | exact HI0.out | apply IsS156.alloc | apply IsS156.drewN | apply IsS156.drew | apply IsS156.set_1 | apply IsS156.set_2) | exact HI0.out)); (case side2 => repeat (first | (with_reducible first | exact HB.out | apply ZhA | apply ZhW | apply ZhD | refine ZhS ?_ (IsS156.ge HI0.out)) | exact HB.out)); rintro e w37 ⟨rfl, hi, hb, hk⟩; refine ⟨_, rfl, ?_⟩; have n0_ := Zam (Kd.R_mono (Kd.R_keep (IsS156.apart (show IsS156 w0 _ g s0_0 x1001_25 x1002_25 from by repeat (first | (with_reducible first | exact HI0.out | apply IsS156.alloc | apply IsS156.drewN | apply IsS156.drew | apply IsS156.set_1 | apply IsS156.set_2) | exact HI0.out)) (by (with_reducible repeat (first | apply ZrA | apply ZrW | apply ZrD)); exact HO_12.out) (by decide)) hk (fun _ h => h.2)) (fun _ h => h.1)); have n1_ := Zam (KeepBut.trans (by repeat (first | (with_reducible first | exact HK.out | apply KeepBut.set_ | apply keep_drewN | apply keep_drew | apply keep_alloc) | exact HK.out)) hk (.inl rfl)); have n2_ := Zam (hb); have n3_ := Zam (hi); clear HO_12 HK HB HI0; have HO_12 := n0_; have HK := n1_; have HB := n2_; have HI0 := n3_; clear n0_ n1_ n2_ n3_; (try clear hb); (try clear hb2); (try clear hk); (try clear hi)))
          go_meet
          case rel => exact ⟨_, (t135), (t136), (t137), (by first | rfl | (simp; done) | (simp [*]; done)), H', ⟨by have := HK1.out; have := HJ25.out; have := HJ29.out; have := HJ31.out; first | omega | exact Nat.le_refl _⟩, ⟨by (try simp only [hl12_1]); (with_reducible repeat (first | apply ZrA | apply ZrW | apply ZrD)); exact HO_12.out⟩, ⟨by repeat (first | (with_reducible first | exact HI0.out | apply IsS156.alloc | apply IsS156.drewN | apply IsS156.drew | apply IsS156.set_1 | apply IsS156.set_2) | exact HI0.out)⟩, ⟨by repeat (first | (with_reducible first | exact HK.out | apply KeepBut.set_ | apply keep_drewN | apply keep_drew | apply keep_alloc) | exact HK.out)⟩, ⟨by repeat (first | (with_reducible first | exact HB.out | apply ZhA | apply ZhW | apply ZhD | refine ZhS ?_ (IsS156.ge HI0.out)) | exact HB.out)⟩⟩
         case rest =>
          clear HC34
          try clear c1
          try clear c2
          try clear p2
          try clear c3
          try clear p6
          try clear c7
          try clear c7b0
          try clear c7b1
          try clear c10
          try clear c10b0
          try clear c10b1
          try clear c11
          try clear c11b0
          try clear c11b1
          try clear c18
          try clear c23
          try clear c23b0
          try clear c24
          try clear c24b0
          try clear c24b1
          try clear c25
          try clear c25b0
          try clear c25b1
          try clear c27
          try clear c27b0
          try clear c27b1
          try clear c31
          try clear c31b0
          try clear c31b1
          try clear c33
          try clear c35
          try clear c35b0
          try clear c35b1
          try clear p2
          try clear p6
          obtain ⟨kq, x20_33, x1001_33, x1002_33, rfl, HA, HJ33, HO_12, HI0, HK, HB⟩ := hcut
          cases kq with
          | zero => exact absurd HA.out (by simp [spec_l1Cur_samples.j4])
          | succ kj33 =>
           have H := HA.out
           clear HA
           simp only [spec_l1Cur_samples.j4] at H
           by_cases c38 : x20_33 < 0
           ·rw [if_pos c38] at H
            have c38b0 : decide (x20_33 < 0) = true := decide_eq_true c38
            clear c38
            by_cases c39 : 0 > (wrap64 ((ji8) - 1))
            rotate_left
            ·rw [if_neg c39] at H
             have c39b0 : decide ((wrap64 ((ji8) - 1)) < 0) = false := decide_eq_false c39
             clear c39
             by_cases c45 : 0 ≤ x45_1
             rotate_left
             ·rw [if_neg c45] at H
              exact absurd H (by simp)
             rw [if_pos c45] at H
             have c45b0 : decide (0 ≤ x45_1) = true := decide_eq_true c45
             clear c45
             by_cases c46 : x45_1 < (x12_1.length : Int)
             rotate_left
             ·rw [if_neg c46] at H
              exact absurd H (by simp)
             rw [if_pos c46] at H
             have c46b0 : decide (x45_1 < (x12_1.length : Int)) = true := decide_eq_true c46
             (try simp only [hl12_1] at c46b0)
             clear c46
             obtain ⟨y139, hy139⟩ : ∃ y_ : List Int, y_ = (x12_1.set (x45_1 : Int).toNat 0) := ⟨_, rfl⟩
             replace H : (spec_l1Cur_samples.l0 kj33 a1 a3 (wrap64 ((ji8) - 1)) y139 (wrap64 (t120 - 15)) (wrap64 (t123 - 15)) t126 t129 (y117.length : Int) (wrap64 (x45_1 + 1)) s0_0 x1001_33 x1002_33) = some (r1, r2, r3) := by first | (rw [hy139]; with_reducible exact H) | (have H2_ := (Option.bind_some _ _).symm.trans H; rw [hy139]; with_reducible exact H2_) | (have H2_ := (Option.bind_some _ _).symm.trans H; with_reducible exact H2_) | with_reducible exact H | (rw [hy139]; exact H) | exact H
             have Ny139 := Zam hy139
             clear hy139
             have H' := Zam H
             clear H
             have p47 : 0 ≤ (x45_1 : Int) := of_decide_eq_true (by first | (with_reducible assumption) | assumption)
             have q47 : (x45_1 : Int) < ((x12_1.length : Int) : Int) := of_decide_eq_true (by first | (with_reducible assumption) | assumption)
             obtain ⟨go47, co47, eo47, gb47, gl47, cl47, HG47⟩ := Kd.R_form HO_12.out (by omega)
             (first | cases eo47 | (injection eo47 with ea_ en_ ec_; (first | subst ea_ | (injection ea_ with ea_; subst ea_)); subst ec_; clear en_))
             have GB47 := Zam gb47
             have GG47 := Zam HG47
             clear gb47 gl47 HG47
             obtain ⟨hx47_0, hf47_0⟩ := Kd.R_celln 0 HO_12.out (x45_1 : Int) p47 q47
             replace p47 := eq_true p47
             replace q47 := eq_true q47
             have HP48 := Kd.R_putg HO_12.out (x45_1 : Int) 0
             go_wp2_with (first | ((with_reducible refine gate_store (t := 3) (p := 104) rfl ?_); refine store_event (t := 3) (p := 104) (v := ?vo_w49) (w1 := (wc.setCell ⟨go47, (x45_1 : Int).toNat, none⟩ (.int .i64 0))) ?hg ?ho ?hn ?hr ?_; (case ho => rfl); (case hg => rfl); (case hn => rfl); (case hr => first | (go_simp; done) | (go_simp; rfl)); intro w49 hw; have hg : wc.grownBy w49 (some go47) := (by rw [hw]; exact HP48.2); have hp_ : Kd.R (Kd.int .i64) 3 w49 w.heap.size (fun _ => True) (.slice (some ⟨go47, 0, none⟩) x12_1.length co22) y139 := (by rw [hw, Ny139.out]; exact HP48.1); clear HP48; have n0_ := Zam (hp_); have n1_ := Zam (IsS156.grown (by repeat (first | (with_reducible first | exact HI0.out | apply IsS156.alloc | apply IsS156.drewN | apply IsS156.drew | apply IsS156.set_1 | apply IsS156.set_2) | exact HI0.out)) hg (IsS156.own_ne HI0.out HO_12.out (by decide))); have n2_ := Zam ((by rw [hw]; exact ZhS (HB.out) (Nat.le_trans HL.out GB47.out) : Below w0.heap.size w0 w49)); have n3_ := Zam (KeepBut.trans (by repeat (first | (with_reducible first | exact HK.out | apply KeepBut.set_ | apply keep_drewN | apply keep_drew | apply keep_alloc) | exact HK.out)) (KeepBut.of_grown hg g) (Kd.R_base2 HO_12.out)); clear HO_12 HI0 HB HK; have HO_12 := n0_; have HI0 := n1_; have HB := n2_; have HK := n3_; clear n0_ n1_ n2_ n3_; clear hg hw hp_))
             (try simp only [← hl12_1])
             go_roundg kj33
             case measure => have := HK1.out; have := HJ25.out; have := HJ29.out; have := HJ31.out; have := HJ33.out; omega
             case rel => exact ⟨(y139), (wrap64 (x45_1 + 1)), (x1001_33), (x1002_33), (by first | rfl | (simp; done) | (simp [*]; done)), H', ⟨by have := HK1.out; have := HJ25.out; have := HJ29.out; have := HJ31.out; have := HJ33.out; omega⟩, ⟨by (try simp only [hl12_1]); (with_reducible repeat (first | apply ZrA | apply ZrW | apply ZrD)); exact HO_12.out⟩, ⟨by repeat (first | (with_reducible first | exact HI0.out | apply IsS156.alloc | apply IsS156.drewN | apply IsS156.drew | apply IsS156.set_1 | apply IsS156.set_2) | exact HI0.out)⟩, ⟨by repeat (first | (with_reducible first | exact HK.out | apply KeepBut.set_ | apply keep_drewN | apply keep_drew | apply keep_alloc) | exact HK.out)⟩, ⟨by repeat (first | (with_reducible first | exact HB.out | apply ZhA | apply ZhW | apply ZhD | refine ZhS ?_ (IsS156.ge HI0.out)) | exact HB.out)⟩⟩
            rw [if_pos c39] at H
            have c39b0 : decide ((wrap64 ((ji8) - 1)) < 0) = true := decide_eq_true c39
            clear c39
            by_cases c40 : 0 ≤ x45_1
            rotate_left
            ·rw [if_neg c40] at H
             exact absurd H (by simp)
            rw [if_pos c40] at H
            have c40b0 : decide (0 ≤ x45_1) = true := decide_eq_true c40
            clear c40
            by_cases c41 : x45_1 < (x12_1.length : Int)
            rotate_left
            ·rw [if_neg c41] at H
             exact absurd H (by simp)
            rw [if_pos c41] at H
            have c41b0 : decide (x45_1 < (x12_1.length : Int)) = true := decide_eq_true c41
            (try simp only [hl12_1] at c41b0)
            clear c41
            obtain ⟨y138, hy138⟩ : ∃ y_ : List Int, y_ = (x12_1.set (x45_1 : Int).toNat (wrap64 ((ji8) - 1))) := ⟨_, rfl⟩
            replace H : (spec_l1Cur_samples.l0 kj33 a1 a3 (wrap64 ((ji8) - 1)) y138 (wrap64 (t120 - 15)) (wrap64 (t123 - 15)) t126 t129 (y117.length : Int) (wrap64 (x45_1 + 1)) s0_0 x1001_33 x1002_33) = some (r1, r2, r3) := by first | (rw [hy138]; with_reducible exact H) | (have H2_ := (Option.bind_some _ _).symm.trans H; rw [hy138]; with_reducible exact H2_) | (have H2_ := (Option.bind_some _ _).symm.trans H; with_reducible exact H2_) | with_reducible exact H | (rw [hy138]; exact H) | exact H
            have Ny138 := Zam hy138
            clear hy138
            have H' := Zam H
            clear H
            have p42 : 0 ≤ (x45_1 : Int) := of_decide_eq_true (by first | (with_reducible assumption) | assumption)
            have q42 : (x45_1 : Int) < ((x12_1.length : Int) : Int) := of_decide_eq_true (by first | (with_reducible assumption) | assumption)
            obtain ⟨go42, co42, eo42, gb42, gl42, cl42, HG42⟩ := Kd.R_form HO_12.out (by omega)
            (first | cases eo42 | (injection eo42 with ea_ en_ ec_; (first | subst ea_ | (injection ea_ with ea_; subst ea_)); subst ec_; clear en_))
            have GB42 := Zam gb42
            have GG42 := Zam HG42
            clear gb42 gl42 HG42
            obtain ⟨hx42_0, hf42_0⟩ := Kd.R_celln 0 HO_12.out (x45_1 : Int) p42 q42
            replace p42 := eq_true p42
            replace q42 := eq_true q42
            have HP43 := Kd.R_putg HO_12.out (x45_1 : Int) (wrap64 ((ji8) - 1))
            go_wp2_with (first | ((with_reducible refine gate_store (t := 3) (p := 104) rfl ?_); refine store_event (t := 3) (p := 104) (v := ?vo_w44) (w1 := (wc.setCell ⟨go42, (x45_1 : Int).toNat, none⟩ (.int .i64 (wrap64 ((ji8) - 1))))) ?hg ?ho ?hn ?hr ?_; (case ho => rfl); (case hg => rfl); (case hn => rfl); (case hr => first | (go_simp; done) | (go_simp; rfl)); intro w44 hw; have hg : wc.grownBy w44 (some go42) := (by rw [hw]; exact HP43.2); have hp_ : Kd.R (Kd.int .i64) 3 w44 w.heap.size (fun _ => True) (.slice (some ⟨go42, 0, none⟩) x12_1.length co22) y138 := (by rw [hw, Ny138.out]; exact HP43.1); clear HP43; have n0_ := Zam (hp_); have n1_ := Zam (IsS156.grown (by repeat (first | (with_reducible first | exact HI0.out | apply IsS156.alloc | apply IsS156.drewN | apply IsS156.drew | apply IsS156.set_1 | apply IsS156.set_2) | exact HI0.out)) hg (IsS156.own_ne HI0.out HO_12.out (by decide))); have n2_ := Zam ((by rw [hw]; exact ZhS (HB.out) (Nat.le_trans HL.out GB42.out) : Below w0.heap.size w0 w44)); have n3_ := Zam (KeepBut.trans (by repeat (first | (with_reducible first | exact HK.out | apply KeepBut.set_ | apply keep_drewN | apply keep_drew | apply keep_alloc) | exact HK.out)) (KeepBut.of_grown hg g) (Kd.R_base2 HO_12.out)); clear HO_12 HI0 HB HK; have HO_12 := n0_; have HI0 := n1_; have HB := n2_; have HK := n3_; clear n0_ n1_ n2_ n3_; clear hg hw hp_))
            (try simp only [← hl12_1])
            go_roundg kj33
            case measure => have := HK1.out; have := HJ25.out; have := HJ29.out; have := HJ31.out; have := HJ33.out; omega
            case rel => exact ⟨(y138), (wrap64 (x45_1 + 1)), (x1001_33), (x1002_33), (by first | rfl | (simp; done) | (simp [*]; done)), H', ⟨by have := HK1.out; have := HJ25.out; have := HJ29.out; have := HJ31.out; have := HJ33.out; omega⟩, ⟨by (try simp only [hl12_1]); (with_reducible repeat (first | apply ZrA | apply ZrW | apply ZrD)); exact HO_12.out⟩, ⟨by repeat (first | (with_reducible first | exact HI0.out | apply IsS156.alloc | apply IsS156.drewN | apply IsS156.drew | apply IsS156.set_1 | apply IsS156.set_2) | exact HI0.out)⟩, ⟨by repeat (first | (with_reducible first | exact HK.out | apply KeepBut.set_ | apply keep_drewN | apply keep_drew | apply keep_alloc) | exact HK.out)⟩, ⟨by repeat (first | (with_reducible first | exact HB.out | apply ZhA | apply ZhW | apply ZhD | refine ZhS ?_ (IsS156.ge HI0.out)) | exact HB.out)⟩⟩
           rw [if_neg c38] at H
           have c38b0 : decide (x20_33 < 0) = false := decide_eq_false c38
           clear c38
           by_cases c50 : x20_33 > (wrap64 ((ji8) - 1))
           rotate_left
           ·rw [if_neg c50] at H
            have c50b0 : decide ((wrap64 ((ji8) - 1)) < x20_33) = false := decide_eq_false c50
            clear c50
            by_cases c56 : 0 ≤ x45_1
            rotate_left
            ·rw [if_neg c56] at H
             exact absurd H (by simp)
            rw [if_pos c56] at H
            have c56b0 : decide (0 ≤ x45_1) = true := decide_eq_true c56
            clear c56
            by_cases c57 : x45_1 < (x12_1.length : Int)
            rotate_left
            ·rw [if_neg c57] at H
             exact absurd H (by simp)
            rw [if_pos c57] at H
            have c57b0 : decide (x45_1 < (x12_1.length : Int)) = true := decide_eq_true c57
            (try simp only [hl12_1] at c57b0)
            clear c57
            obtain ⟨y141, hy141⟩ : ∃ y_ : List Int, y_ = (x12_1.set (x45_1 : Int).toNat x20_33) := ⟨_, rfl⟩
            replace H : (spec_l1Cur_samples.l0 kj33 a1 a3 (wrap64 ((ji8) - 1)) y141 (wrap64 (t120 - 15)) (wrap64 (t123 - 15)) t126 t129 (y117.length : Int) (wrap64 (x45_1 + 1)) s0_0 x1001_33 x1002_33) = some (r1, r2, r3) := by first | (rw [hy141]; with_reducible exact H) | (have H2_ := (Option.bind_some _ _).symm.trans H; rw [hy141]; with_reducible exact H2_) | (have H2_ := (Option.bind_some _ _).symm.trans H; with_reducible exact H2_) | with_reducible exact H | (rw [hy141]; exact H) | exact H
            have Ny141 := Zam hy141
            clear hy141
            have H' := Zam H
            clear H
            have p58 : 0 ≤ (x45_1 : Int) := of_decide_eq_true (by first | (with_reducible assumption) | assumption)
            have q58 : (x45_1 : Int) < ((x12_1.length : Int) : Int) := of_decide_eq_true (by first | (with_reducible assumption) | assumption)
            obtain ⟨go58, co58, eo58, gb58, gl58, cl58, HG58⟩ := Kd.R_form HO_12.out (by omega)
            (first | cases eo58 | (injection eo58 with ea_ en_ ec_; (first | subst ea_ | (injection ea_ with ea_; subst ea_)); subst ec_; clear en_))
            have GB58 := Zam gb58
            have GG58 := Zam HG58
            clear gb58 gl58 HG58
            obtain ⟨hx58_0, hf58_0⟩ := Kd.R_celln 0 HO_12.out (x45_1 : Int) p58 q58
            replace p58 := eq_true p58
            replace q58 := eq_true q58
            have HP59 := Kd.R_putg HO_12.out (x45_1 : Int) x20_33
            go_wp2_with (first | ((with_reducible refine gate_store (t := 3) (p := 104) rfl ?_); refine store_event (t := 3) (p := 104) (v := ?vo_w60) (w1 := (wc.setCell ⟨go58, (x45_1 : Int).toNat, none⟩ (.int .i64 x20_33))) ?hg ?ho ?hn ?hr ?_; (case ho => rfl); (case hg => rfl); (case hn => rfl); (case hr => first | (go_simp; done) | (go_simp; rfl)); intro w60 hw; have hg : wc.grownBy w60 (some go58) := (by rw [hw]; exact HP59.2); have hp_ : Kd.R (Kd.int .i64) 3 w60 w.heap.size (fun _ => True) (.slice (some ⟨go58, 0, none⟩) x12_1.length co22) y141 := (by rw [hw, Ny141.out]; exact HP59.1); clear HP59; have n0_ := Zam (hp_); have n1_ := Zam (IsS156.grown (by repeat (first | (with_reducible first | exact HI0.out | apply IsS156.alloc | apply IsS156.drewN | apply IsS156.drew | apply IsS156.set_1 | apply IsS156.set_2) | exact HI0.out)) hg (IsS156.own_ne HI0.out HO_12.out (by decide))); have n2_ := Zam ((by rw [hw]; exact ZhS (HB.out) (Nat.le_trans HL.out GB58.out) : Below w0.heap.size w0 w60)); have n3_ := Zam (KeepBut.trans (by repeat (first | (with_reducible first | exact HK.out | apply KeepBut.set_ | apply keep_drewN | apply keep_drew | apply keep_alloc) | exact HK.out)) (KeepBut.of_grown hg g) (Kd.R_base2 HO_12.out)); clear HO_12 HI0 HB HK; have HO_12 := n0_; have HI0 := n1_; have HB := n2_; have HK := n3_; clear n0_ n1_ n2_ n3_; clear hg hw hp_))
            (try simp only [← hl12_1])
            go_roundg kj33
            case measure => have := HK1.out; have := HJ25.out; have := HJ29.out; have := HJ31.out; have := HJ33.out; omega
            case rel => exact ⟨(y141), (wrap64 (x45_1 + 1)), (x1001_33), (x1002_33), (by first | rfl | (simp; done) | (simp [*]; done)), H', ⟨by have := HK1.out; have := HJ25.out; have := HJ29.out; have := HJ31.out; have := HJ33.out; omega⟩, ⟨by (try simp only [hl12_1]); (with_reducible repeat (first | apply ZrA | apply ZrW | apply ZrD)); exact HO_12.out⟩, ⟨by repeat (first | (with_reducible first | exact HI0.out | apply IsS156.alloc | apply IsS156.drewN | apply IsS156.drew | apply IsS156.set_1 | apply IsS156.set_2) | exact HI0.out)⟩, ⟨by repeat (first | (with_reducible first | exact HK.out | apply KeepBut.set_ | apply keep_drewN | apply keep_drew | apply keep_alloc) | exact HK.out)⟩, ⟨by repeat (first | (with_reducible first | exact HB.out | apply ZhA | apply ZhW | apply ZhD | refine ZhS ?_ (IsS156.ge HI0.out)) | exact HB.out)⟩⟩
           rw [if_pos c50] at H
           have c50b0 : decide ((wrap64 ((ji8) - 1)) < x20_33) = true := decide_eq_true c50
           clear c50
           by_cases c51 : 0 ≤ x45_1
           rotate_left
           ·rw [if_neg c51] at H
            exact absurd H (by simp)
           rw [if_pos c51] at H
           have c51b0 : decide (0 ≤ x45_1) = true := decide_eq_true c51
           clear c51
           by_cases c52 : x45_1 < (x12_1.length : Int)
           rotate_left
           ·rw [if_neg c52] at H
            exact absurd H (by simp)
           rw [if_pos c52] at H
           have c52b0 : decide (x45_1 < (x12_1.length : Int)) = true := decide_eq_true c52
           (try simp only [hl12_1] at c52b0)
           clear c52
           obtain ⟨y140, hy140⟩ : ∃ y_ : List Int, y_ = (x12_1.set (x45_1 : Int).toNat (wrap64 ((ji8) - 1))) := ⟨_, rfl⟩
           replace H : (spec_l1Cur_samples.l0 kj33 a1 a3 (wrap64 ((ji8) - 1)) y140 (wrap64 (t120 - 15)) (wrap64 (t123 - 15)) t126 t129 (y117.length : Int) (wrap64 (x45_1 + 1)) s0_0 x1001_33 x1002_33) = some (r1, r2, r3) := by first | (rw [hy140]; with_reducible exact H) | (have H2_ := (Option.bind_some _ _).symm.trans H; rw [hy140]; with_reducible exact H2_) | (have H2_ := (Option.bind_some _ _).symm.trans H; with_reducible exact H2_) | with_reducible exact H | (rw [hy140]; exact H) | exact H
           have Ny140 := Zam hy140
           clear hy140
           have H' := Zam H
           clear H
           have p53 : 0 ≤ (x45_1 : Int) := of_decide_eq_true (by first | (with_reducible assumption) | assumption)
           have q53 : (x45_1 : Int) < ((x12_1.length : Int) : Int) := of_decide_eq_true (by first | (with_reducible assumption) | assumption)
           obtain ⟨go53, co53, eo53, gb53, gl53, cl53, HG53⟩ := Kd.R_form HO_12.out (by omega)
           (first | cases eo53 | (injection eo53 with ea_ en_ ec_; (first | subst ea_ | (injection ea_ with ea_; subst ea_)); subst ec_; clear en_))
           have GB53 := Zam gb53
           have GG53 := Zam HG53
           clear gb53 gl53 HG53
           obtain ⟨hx53_0, hf53_0⟩ := Kd.R_celln 0 HO_12.out (x45_1 : Int) p53 q53
           replace p53 := eq_true p53
           replace q53 := eq_true q53
           have HP54 := Kd.R_putg HO_12.out (x45_1 : Int) (wrap64 ((ji8) - 1))
           go_wp2_with (first | ((with_reducible refine gate_store (t := 3) (p := 104) rfl ?_); refine store_event (t := 3) (p := 104) (v := ?vo_w55) (w1 := (wc.setCell ⟨go53, (x45_1 : Int).toNat, none⟩ (.int .i64 (wrap64 ((ji8) - 1))))) ?hg ?ho ?hn ?hr ?_; (case ho => rfl); (case hg => rfl); (case hn => rfl); (case hr => first | (go_simp; done) | (go_simp; rfl)); intro w55 hw; have hg : wc.grownBy w55 (some go53) := (by rw [hw]; exact HP54.2); have hp_ : Kd.R (Kd.int .i64) 3 w55 w.heap.size (fun _ => True) (.slice (some ⟨go53, 0, none⟩) x12_1.length co22) y140 := (by rw [hw, Ny140.out]; exact HP54.1); clear HP54; have n0_ := Zam (hp_); have n1_ := Zam (IsS156.grown (by repeat (first | (with_reducible first | exact HI0.out | apply IsS156.alloc | apply IsS156.drewN | apply IsS156.drew | apply IsS156.set_1 | apply IsS156.set_2) | exact HI0.out)) hg (IsS156.own_ne HI0.out HO_12.out (by decide))); have n2_ := Zam ((by rw [hw]; exact ZhS (HB.out) (Nat.le_trans HL.out GB53.out) : Below w0.heap.size w0 w55)); have n3_ := Zam (KeepBut.trans (by repeat (first | (with_reducible first | exact HK.out | apply KeepBut.set_ | apply keep_drewN | apply keep_drew | apply keep_alloc) | exact HK.out)) (KeepBut.of_grown hg g) (Kd.R_base2 HO_12.out)); clear HO_12 HI0 HB HK; have HO_12 := n0_; have HI0 := n1_; have HB := n2_; have HK := n3_; clear n0_ n1_ n2_ n3_; clear hg hw hp_))
           (try simp only [← hl12_1])
           go_roundg kj33
           case measure => have := HK1.out; have := HJ25.out; have := HJ29.out; have := HJ31.out; have := HJ33.out; omega
           case rel => exact ⟨(y140), (wrap64 (x45_1 + 1)), (x1001_33), (x1002_33), (by first | rfl | (simp; done) | (simp [*]; done)), H', ⟨by have := HK1.out; have := HJ25.out; have := HJ29.out; have := HJ31.out; have := HJ33.out; omega⟩, ⟨by (try simp only [hl12_1]); (with_reducible repeat (first | apply ZrA | apply ZrW | apply ZrD)); exact HO_12.out⟩, ⟨by repeat (first | (with_reducible first | exact HI0.out | apply IsS156.alloc | apply IsS156.drewN | apply IsS156.drew | apply IsS156.set_1 | apply IsS156.set_2) | exact HI0.out)⟩, ⟨by repeat (first | (with_reducible first | exact HK.out | apply KeepBut.set_ | apply keep_drewN | apply keep_drew | apply keep_alloc) | exact HK.out)⟩, ⟨by repeat (first | (with_reducible first | exact HB.out | apply ZhA | apply ZhW | apply ZhD | refine ZhS ?_ (IsS156.ge HI0.out)) | exact HB.out)⟩⟩

/-! ### spec_l1Cur_plane: function 201 -/
def spec_l1Cur_plane.f (k : Nat) (s0_0 : List Int) (s0_1 : Int) (s0_2 : Int) (a1 : Int) : Option (Int × Int × List Int × Int × Int) := (spec_l1Cur_pick.f s0_0 s0_1 s0_2 a1).bind fun bt143 => ((spec_l1Cur_pick.f s0_0 bt143.2.1 bt143.2.2 a1).bind fun bt146 => ((spec_l1Cur_samples.f k s0_0 bt146.2.1 bt146.2.2 (wrap64 (1 + bt143.1)) (wrap64 (1 + bt146.1)) 1 8).bind fun bt150 => (some (wrap64 (1 + bt143.1), wrap64 (1 + bt146.1), bt150.1, bt150.2.1, bt150.2.2))))
theorem spec_l1Cur_plane.mono : ∀ a0 a1 a2 a3 k, LeO (spec_l1Cur_plane.f k a0 a1 a2 a3) (spec_l1Cur_plane.f (k + 1) a0 a1 a2 a3) := by
 intro a0 a1 a2 a3 k
 unfold spec_l1Cur_plane.f
 repeat' first
   | (with_reducible exact spec_l1Cur_samples.mono _ _ _ _ _ _ _ _)
   | (with_reducible exact LeO.refl _)
   | (with_reducible exact LeO.none _)
   | (with_reducible refine LeO.ite ?_ ?_)
   | (with_reducible refine LeO.bind ?_ (fun _ => ?_))
   | exact spec_l1Cur_samples.mono _ _ _ _ _ _ _ _
   | exact LeO.none _
   | refine LeO.ite ?_ ?_
   | refine LeO.bind ?_ (fun _ => ?_)
set_option maxHeartbeats 8000000 in
set_option maxRecDepth 100000 in
theorem spec_l1Cur_plane.calls (k : Nat) (g : Nat) (s0_0 : List Int) (s0_1 : Int) (s0_2 : Int) (a1 : Int) (r1 : Int) (r2 : Int) (r3 : List Int) (r4 : Int) (r5 : Int) (w0 w : World) (hI : IsS156 w0 w g s0_0 s0_1 s0_2) (hB : Below w0.heap.size w0 w) (h : spec_l1Cur_plane.f k s0_0 s0_1 s0_2 a1 = some (r1, r2, r3, r4, r5)) :
  Calls Try.prog 201 #[.pointer (some ⟨g, 0, none⟩), .int .i64 a1] w fun e w' => ∃ v2_ : Value, e = .returned (.agg #[.int .i64 r1, .int .i64 r2, v2_]) ∧ Kd.R (Kd.int .i64) 3 w' w.heap.size (fun _ => True) v2_ r3 ∧ IsS156 w0 w' g s0_0 r4 r5 ∧ Below w0.heap.size w0 w' ∧ KeepBut w w' g none := by
 have hu82 := Try.underlying82
 have HI0 := Zam hI
 have HK := Zam (KeepBut.refl w g none)
 have HL := Zam hB.size
 clear hI
 have HW0 := Zam hB.size
 have HB := Zam hB
 clear hB
 have H : ((spec_l1Cur_pick.f s0_0 s0_1 s0_2 a1).bind fun bt143 => ((spec_l1Cur_pick.f s0_0 bt143.2.1 bt143.2.2 a1).bind fun bt146 => ((spec_l1Cur_samples.f k s0_0 bt146.2.1 bt146.2.2 (wrap64 (1 + bt143.1)) (wrap64 (1 + bt146.1)) 1 8).bind fun bt150 => (some (wrap64 (1 + bt143.1), wrap64 (1 + bt146.1), bt150.1, bt150.2.1, bt150.2.2))))) = some (r1, r2, r3, r4, r5) := h
 clear h
 replace H := Zob.mp H
 obtain ⟨⟨t143, t144, t145⟩, A30, H⟩ := H
 replace H : ((spec_l1Cur_pick.f s0_0 t144 t145 a1).bind fun bt146 => ((spec_l1Cur_samples.f k s0_0 bt146.2.1 bt146.2.2 (wrap64 (1 + t143)) (wrap64 (1 + bt146.1)) 1 8).bind fun bt150 => (some (wrap64 (1 + t143), wrap64 (1 + bt146.1), bt150.1, bt150.2.1, bt150.2.2)))) = some (r1, r2, r3, r4, r5) := H
 have A3 := Zam A30
 clear A30
 replace H := Zob.mp H
 obtain ⟨⟨t146, t147, t148⟩, A40, H⟩ := H
 replace H : ((spec_l1Cur_samples.f k s0_0 t147 t148 (wrap64 (1 + t143)) (wrap64 (1 + t146)) 1 8).bind fun bt150 => (some (wrap64 (1 + t143), wrap64 (1 + t146), bt150.1, bt150.2.1, bt150.2.2))) = some (r1, r2, r3, r4, r5) := H
 have A4 := Zam A40
 clear A40
 replace H := Zob.mp H
 obtain ⟨⟨t150, t153, t154⟩, A50, H⟩ := H
 replace H : (some (wrap64 (1 + t143), wrap64 (1 + t146), t150, t153, t154)) = some (r1, r2, r3, r4, r5) := H
 have A5 := Zam A50
 clear A50
 simp only [Option.some.injEq, Prod.mk.injEq] at H
 obtain ⟨rfl, rfl, rfl, rfl, rfl⟩ := H
 go_enter Try.func201, Try.ntmps201
 go_wp2_with (first | ((with_reducible refine gate_dst (N := 4) rfl ?_); refine box_event ?hg (N := 4) ?hd (cs := #[.int .i64 0, .int .i64 0, .slice none 0 0]) (t := 82) ?hr ?_; (case hd => rfl); (case hg => rfl); (case hr => first | (go_simp; done) | (go_simp; rfl)); intro gb142 hg w6 hbox hb; have n0_ := Zam (IsS156.below (by repeat (first | (with_reducible first | exact HI0.out | apply IsS156.alloc | apply IsS156.drewN | apply IsS156.drew | apply IsS156.set_1 | apply IsS156.set_2) | exact HI0.out)) hb); have n1_ := Zam (KeepBut.trans (by repeat (first | (with_reducible first | exact HK.out | apply KeepBut.set_ | apply keep_drewN | apply keep_drew | apply keep_alloc) | exact HK.out)) (KeepBut.of_below hb g none) (.inl rfl)); have n2_ := Zam (ZbS (by repeat (first | (with_reducible first | exact HB.out | apply ZhA | apply ZhW | apply ZhD | refine ZhS ?_ (IsS156.ge HI0.out)) | exact HB.out)) hb); have n3_ := Zam (hbox); have n4_ := Zam ((by rw [hg]; exact (keep_size (w := w) (g := g) (row := none) (by repeat (first | (with_reducible first | exact HK.out | apply KeepBut.set_ | apply keep_drewN | apply keep_drew | apply keep_alloc) | exact HK.out))) : w.heap.size ≤ gb142)); have n5_ := Zam ((Nat.le_trans HW0.out (by rw [hg]; exact (keep_size (w := w) (g := g) (row := none) (by repeat (first | (with_reducible first | exact HK.out | apply KeepBut.set_ | apply keep_drewN | apply keep_drew | apply keep_alloc) | exact HK.out))) : w.heap.size ≤ gb142) : w0.heap.size ≤ gb142)); have n6_ := Zam ((by rw [hg]; exact Nat.ne_of_lt (IsS156.lt (show IsS156 w0 _ g s0_0 s0_1 s0_2 from by repeat (first | (with_reducible first | exact HI0.out | apply IsS156.alloc | apply IsS156.drewN | apply IsS156.drew | apply IsS156.set_1 | apply IsS156.set_2) | exact HI0.out))) : g ≠ gb142)); have n7_ := Zam ((by rw [hg]; exact Nat.ne_of_gt (IsS156.lt (show IsS156 w0 _ g s0_0 s0_1 s0_2 from by repeat (first | (with_reducible first | exact HI0.out | apply IsS156.alloc | apply IsS156.drewN | apply IsS156.drew | apply IsS156.set_1 | apply IsS156.set_2) | exact HI0.out))) : gb142 ≠ g)); clear HI0 HK HB; have HI0 := n0_; have HK := n1_; have HB := n2_; have BK142 := n3_; have GW142 := n4_; have GE142 := n5_; have NB0_142 := n6_; have NB142_0 := n7_; clear n0_ n1_ n2_ n3_ n4_ n5_ n6_ n7_; clear hb hbox hg) | ((with_reducible refine gate_callee (f := 104) rfl ?_); refine goesL_ (some 8) rfl rfl Try.func104 (by kernel_rfl) rfl #[.pointer (some ⟨g, 0, none⟩), .int .i64 a1] rfl (by (try simp only [Zm1, Zm2, Zm3]); first | done | rfl | (simp only [ZlL, ZlT]; rfl)) ?_; (with_reducible refine (spec_l1Cur_pick.calls g s0_0 s0_1 s0_2 a1 t143 t144 t145 w0 _ ?side1 ?side2 A3.out).mono ?_); (case side1 => repeat (first | (with_reducible first | exact HI0.out | apply IsS156.alloc | apply IsS156.drewN | apply IsS156.drew | apply IsS156.set_1 | apply IsS156.set_2 | refine IsS156.far ?_ NB0_142.out _) | exact HI0.out)); (case side2 => repeat (first | (with_reducible first | exact HB.out | apply ZhA | apply ZhW | apply ZhD | refine ZhS ?_ (IsS156.ge HI0.out) | refine ZhS ?_ GE142.out) | exact HB.out)); rintro e w7 ⟨rfl, hi, hb, hk⟩; refine ⟨_, rfl, ?_⟩; have n0_ := Zam (KeepBut.blk hk (g' := gb142) (o := .cells #[.int .i64 0, .int .i64 0, .slice none 0 0] 82 (0, 0)) (by (with_reducible repeat (first | refine ZbW ?_ _ | refine ZbD ?_ | refine ZbA ?_ _)); exact BK142.out) NB142_0.out (by simp)); have n1_ := Zam (KeepBut.trans (by repeat (first | (with_reducible first | exact HK.out | apply KeepBut.set_ | apply keep_drewN | apply keep_drew | apply keep_alloc | refine keep_far ?_ GW142.out _) | exact HK.out)) hk (.inl rfl)); have n2_ := Zam (hb); have n3_ := Zam (hi); clear BK142 HK HB HI0; have BK142 := n0_; have HK := n1_; have HB := n2_; have HI0 := n3_; clear n0_ n1_ n2_ n3_; (try clear hb); (try clear hb2); (try clear hk); (try clear hi)) | ((with_reducible refine gate_callee (f := 104) rfl ?_); refine goesL_ (some 12) rfl rfl Try.func104 (by kernel_rfl) rfl #[.pointer (some ⟨g, 0, none⟩), .int .i64 a1] rfl (by (try simp only [Zm1, Zm2, Zm3]); first | done | rfl | (simp only [ZlL, ZlT]; rfl)) ?_; (with_reducible refine (spec_l1Cur_pick.calls g s0_0 t144 t145 a1 t146 t147 t148 w0 _ ?side1 ?side2 A4.out).mono ?_); (case side1 => repeat (first | (with_reducible first | exact HI0.out | apply IsS156.alloc | apply IsS156.drewN | apply IsS156.drew | apply IsS156.set_1 | apply IsS156.set_2 | refine IsS156.far ?_ NB0_142.out _) | exact HI0.out)); (case side2 => repeat (first | (with_reducible first | exact HB.out | apply ZhA | apply ZhW | apply ZhD | refine ZhS ?_ (IsS156.ge HI0.out) | refine ZhS ?_ GE142.out) | exact HB.out)); rintro e w8 ⟨rfl, hi, hb, hk⟩; refine ⟨_, rfl, ?_⟩; have n0_ := Zam (KeepBut.blk hk (g' := gb142) (o := .cells #[.int .i64 0, .int .i64 0, .slice none 0 0] 82 (0, 0)) (by (with_reducible repeat (first | refine ZbW ?_ _ | refine ZbD ?_ | refine ZbA ?_ _)); exact BK142.out) NB142_0.out (by simp)); have n1_ := Zam (KeepBut.trans (by repeat (first | (with_reducible first | exact HK.out | apply KeepBut.set_ | apply keep_drewN | apply keep_drew | apply keep_alloc | refine keep_far ?_ GW142.out _) | exact HK.out)) hk (.inl rfl)); have n2_ := Zam (hb); have n3_ := Zam (hi); clear BK142 HK HB HI0; have BK142 := n0_; have HK := n1_; have HB := n2_; have HI0 := n3_; clear n0_ n1_ n2_ n3_; (try clear hb); (try clear hb2); (try clear hk); (try clear hi)) | ((with_reducible refine gate_dst (N := 5) rfl ?_); refine box_event ?hg (N := 5) ?hd (cs := #[.int .i64 0, .int .i64 0, .slice none 0 0]) (t := 82) ?hr ?_; (case hd => rfl); (case hg => rfl); (case hr => first | (go_simp; done) | (go_simp; rfl)); intro gb149 hg w9 hbox hb; have n0_ := Zam (IsS156.below (by repeat (first | (with_reducible first | exact HI0.out | apply IsS156.alloc | apply IsS156.drewN | apply IsS156.drew | apply IsS156.set_1 | apply IsS156.set_2 | refine IsS156.far ?_ NB0_142.out _) | exact HI0.out)) hb); have n1_ := Zam (ZbB (g := gb142) (o := .cells #[.int .i64 0, .int .i64 0, .slice none 0 0] 82 (0, 0)) (by (with_reducible repeat (first | refine ZbW ?_ _ | refine ZbD ?_ | refine ZbA ?_ _)); exact BK142.out) hb); have n2_ := Zam (KeepBut.trans (by repeat (first | (with_reducible first | exact HK.out | apply KeepBut.set_ | apply keep_drewN | apply keep_drew | apply keep_alloc | refine keep_far ?_ GW142.out _) | exact HK.out)) (KeepBut.of_below hb g none) (.inl rfl)); have n3_ := Zam (ZbS (by repeat (first | (with_reducible first | exact HB.out | apply ZhA | apply ZhW | apply ZhD | refine ZhS ?_ (IsS156.ge HI0.out) | refine ZhS ?_ GE142.out) | exact HB.out)) hb); have n4_ := Zam (hbox); have n5_ := Zam ((by rw [hg]; exact (keep_size (w := w) (g := g) (row := none) (by repeat (first | (with_reducible first | exact HK.out | apply KeepBut.set_ | apply keep_drewN | apply keep_drew | apply keep_alloc | refine keep_far ?_ GW142.out _) | exact HK.out))) : w.heap.size ≤ gb149)); have n6_ := Zam ((Nat.le_trans HW0.out (by rw [hg]; exact (keep_size (w := w) (g := g) (row := none) (by repeat (first | (with_reducible first | exact HK.out | apply KeepBut.set_ | apply keep_drewN | apply keep_drew | apply keep_alloc | refine keep_far ?_ GW142.out _) | exact HK.out))) : w.heap.size ≤ gb149) : w0.heap.size ≤ gb149)); have n7_ := Zam ((by rw [hg]; exact Nat.ne_of_lt (blk_lt (g := gb142) (o := .cells #[.int .i64 0, .int .i64 0, .slice none 0 0] 82 (0, 0)) (by (with_reducible repeat (first | refine ZbW ?_ _ | refine ZbD ?_ | refine ZbA ?_ _)); exact BK142.out)) : gb142 ≠ gb149)); have n8_ := Zam ((by rw [hg]; exact Nat.ne_of_gt (blk_lt (g := gb142) (o := .cells #[.int .i64 0, .int .i64 0, .slice none 0 0] 82 (0, 0)) (by (with_reducible repeat (first | refine ZbW ?_ _ | refine ZbD ?_ | refine ZbA ?_ _)); exact BK142.out)) : gb149 ≠ gb142)); have n9_ := Zam ((by rw [hg]; exact Nat.ne_of_lt (IsS156.lt (show IsS156 w0 _ g s0_0 t147 t148 from by repeat (first | (with_reducible first | exact HI0.out | apply IsS156.alloc | apply IsS156.drewN | apply IsS156.drew | apply IsS156.set_1 | apply IsS156.set_2 | refine IsS156.far ?_ NB0_142.out _) | exact HI0.out))) : g ≠ gb149)); have n10_ := Zam ((by rw [hg]; exact Nat.ne_of_gt (IsS156.lt (show IsS156 w0 _ g s0_0 t147 t148 from by repeat (first | (with_reducible first | exact HI0.out | apply IsS156.alloc | apply IsS156.drewN | apply IsS156.drew | apply IsS156.set_1 | apply IsS156.set_2 | refine IsS156.far ?_ NB0_142.out _) | exact HI0.out))) : gb149 ≠ g)); clear HI0 BK142 HK HB; have HI0 := n0_; have BK142 := n1_; have HK := n2_; have HB := n3_; have BK149 := n4_; have GW149 := n5_; have GE149 := n6_; have NB142_149 := n7_; have NB149_142 := n8_; have NB0_149 := n9_; have NB149_0 := n10_; clear n0_ n1_ n2_ n3_ n4_ n5_ n6_ n7_ n8_ n9_ n10_; clear hb hbox hg; have hnb10 := NB149_142.out; have hnc10 := NB142_149.out; have hnb11 := NB149_0.out; have hnc11 := NB0_149.out; have hcz12_0 : w9.cell? ⟨gb149, 0, none⟩ = some (.int .i64 0) := (ZbC BK149.out 0).trans rfl; have hcz12_1 : w9.cell? ⟨gb149, 1, none⟩ = some (.int .i64 0) := (ZbC BK149.out 1).trans rfl; have hcz12_2 : w9.cell? ⟨gb149, 2, none⟩ = some (.slice none 0 0) := (ZbC BK149.out 2).trans rfl; have hfz12_0 := ZbF BK149.out 0; have hfz12_1 := ZbF BK149.out 1; have hfz12_2 := ZbF BK149.out 2) | ((with_reducible refine gate_callee (f := 183) rfl ?_); refine goesL_ (some 20) rfl rfl Try.func183 (by kernel_rfl) rfl #[.pointer (some ⟨g, 0, none⟩), .int .i64 (wrap64 (1 + t143)), .int .i64 (wrap64 (1 + t146)), .int .i64 1, .int .i64 8] rfl (by (try simp only [Zm1, Zm2, Zm3]); first | done | rfl | (simp only [ZlL, ZlT]; rfl)) ?_; (with_reducible refine (spec_l1Cur_samples.calls k g s0_0 t147 t148 (wrap64 (1 + t143)) (wrap64 (1 + t146)) 1 8 t150 t153 t154 w0 _ ?side1 ?side2 A5.out).mono ?_); (case side1 => repeat (first | (with_reducible first | exact HI0.out | apply IsS156.alloc | apply IsS156.drewN | apply IsS156.drew | apply IsS156.set_1 | apply IsS156.set_2 | refine IsS156.far ?_ NB0_142.out _ | refine IsS156.far ?_ NB0_149.out _) | exact HI0.out)); (case side2 => repeat (first | (with_reducible first | exact HB.out | apply ZhA | apply ZhW | apply ZhD | refine ZhS ?_ (IsS156.ge HI0.out) | refine ZhS ?_ GE142.out | refine ZhS ?_ GE149.out) | exact HB.out)); rintro e w13 ⟨v151, rfl, ho0, hi, hb, hk⟩; refine ⟨_, rfl, ?_⟩; have n0_ := Zam (KeepBut.blk hk (g' := gb142) (o := .cells #[.int .i64 0, .int .i64 0, .slice none 0 0] 82 (0, 0)) (by (with_reducible repeat (first | refine ZbW ?_ _ | refine ZbD ?_ | refine ZbA ?_ _)); refine blk_far ?_ NB142_149.out _; (with_reducible repeat (first | refine ZbW ?_ _ | refine ZbD ?_ | refine ZbA ?_ _)); refine blk_far ?_ NB142_149.out _; (with_reducible repeat (first | refine ZbW ?_ _ | refine ZbD ?_ | refine ZbA ?_ _)); refine blk_far ?_ NB142_149.out _; (with_reducible repeat (first | refine ZbW ?_ _ | refine ZbD ?_ | refine ZbA ?_ _)); exact BK142.out) NB142_0.out (by simp)); have n1_ := Zam (KeepBut.blk hk (g' := gb149) (o := .cells #[.int .i64 (wrap64 (1 + t143)), .int .i64 (wrap64 (1 + t146)), .slice none 0 0] 82 (0, 0)) (by (with_reducible repeat (first | refine ZbW ?_ _ | refine ZbD ?_ | refine ZbA ?_ _)); exact set3_blk (by (with_reducible repeat (first | refine ZbW ?_ _ | refine ZbD ?_ | refine ZbA ?_ _)); exact BK149.out)) NB149_0.out (by simp)); have n2_ := Zam (Kd.R_lower ho0 (keep_size (w := w) (g := g) (row := none) (by repeat (first | (with_reducible first | exact HK.out | apply KeepBut.set_ | apply keep_drewN | apply keep_drew | apply keep_alloc | refine keep_far ?_ GW142.out _ | refine keep_far ?_ GW149.out _) | exact HK.out)))); have n3_ := Zam (KeepBut.trans (by repeat (first | (with_reducible first | exact HK.out | apply KeepBut.set_ | apply keep_drewN | apply keep_drew | apply keep_alloc | refine keep_far ?_ GW142.out _ | refine keep_far ?_ GW149.out _) | exact HK.out)) hk (.inl rfl)); have n4_ := Zam (hb); have n5_ := Zam (hi); clear BK142 BK149 HK HB HI0; have BK142 := n0_; have BK149 := n1_; have HO152 := n2_; have HK := n3_; have HB := n4_; have HI0 := n5_; clear n0_ n1_ n2_ n3_ n4_ n5_; (try clear hb); (try clear hb2); (try clear hk); (try clear hi); (try clear ho0); obtain ⟨Ao14, co14, eo14⟩ := Kd.R_slice HO152.out; subst eo14; have hcz15_0 : w13.cell? ⟨gb149, 0, none⟩ = some (.int .i64 (wrap64 (1 + t143))) := (ZbC BK149.out 0).trans rfl; have hcz15_1 : w13.cell? ⟨gb149, 1, none⟩ = some (.int .i64 (wrap64 (1 + t146))) := (ZbC BK149.out 1).trans rfl; have hcz15_2 : w13.cell? ⟨gb149, 2, none⟩ = some (.slice none 0 0) := (ZbC BK149.out 2).trans rfl; have hfz15_0 := ZbF BK149.out 0; have hfz15_1 := ZbF BK149.out 1; have hfz15_2 := ZbF BK149.out 2; have hnb16 := NB142_0.out; have hnc16 := NB0_142.out; have hcz17_0 : w13.cell? ⟨gb142, 0, none⟩ = some (.int .i64 0) := (ZbC BK142.out 0).trans rfl; have hcz17_1 : w13.cell? ⟨gb142, 1, none⟩ = some (.int .i64 0) := (ZbC BK142.out 1).trans rfl; have hcz17_2 : w13.cell? ⟨gb142, 2, none⟩ = some (.slice none 0 0) := (ZbC BK142.out 2).trans rfl; have hfz17_0 := ZbF BK142.out 0; have hfz17_1 := ZbF BK142.out 1; have hfz17_2 := ZbF BK142.out 2))
 refine bodyPost_ret (results_cell_row rfl _ _ gb142 82 #[.int .i64 (wrap64 (1 + t143)), .int .i64 (wrap64 (1 + t146)), .slice Ao14 t150.length co14] (0, 0) _ rfl (by (with_reducible repeat (first | refine ZbW ?_ _ | refine ZbD ?_ | refine ZbA ?_ _)); refine blk_put (cs := #[.int .i64 (wrap64 (1 + t143)), .int .i64 (wrap64 (1 + t146)), .slice none 0 0]) ?_ 2 _ rfl; (with_reducible repeat (first | refine ZbW ?_ _ | refine ZbD ?_ | refine ZbA ?_ _)); refine blk_put (cs := #[.int .i64 (wrap64 (1 + t143)), .int .i64 0, .slice none 0 0]) ?_ 1 _ rfl; (with_reducible repeat (first | refine ZbW ?_ _ | refine ZbD ?_ | refine ZbA ?_ _)); refine blk_put (cs := #[.int .i64 0, .int .i64 0, .slice none 0 0]) ?_ 0 _ rfl; (with_reducible repeat (first | refine ZbW ?_ _ | refine ZbD ?_ | refine ZbA ?_ _)); refine blk_far ?_ NB142_149.out _; (with_reducible repeat (first | refine ZbW ?_ _ | refine ZbD ?_ | refine ZbA ?_ _)); exact BK142.out) Try.underlying82 rfl (by kernel_rfl)) rfl ?_
 exact ⟨_, by first | rfl | (simp [*, errW_none, errW_some] <;> rfl), by (with_reducible repeat (first | apply ZrA | apply ZrW | apply ZrD)); exact Kd.R_mono (set3_R (Kd.R_far (p := ⟨gb149, 2, none⟩) (Kd.R_types (Kd.R_types HO152.out BK149.out (by decide)) BK142.out (by decide)) (fun _ hk => hk.1.2) (.slice Ao14 t150.length co14)) (fun _ hk => hk.2)) (fun _ hk => trivial), by repeat (first | (with_reducible first | exact HI0.out | apply IsS156.alloc | apply IsS156.drewN | apply IsS156.drew | apply IsS156.set_1 | apply IsS156.set_2 | refine IsS156.far ?_ NB0_142.out _ | refine IsS156.far ?_ NB0_149.out _) | exact HI0.out), by repeat (first | (with_reducible first | exact HB.out | apply ZhA | apply ZhW | apply ZhD | refine ZhS ?_ (IsS156.ge HI0.out) | refine ZhS ?_ GE142.out | refine ZhS ?_ GE149.out) | exact HB.out), by repeat (first | (with_reducible first | exact HK.out | apply KeepBut.set_ | apply keep_drewN | apply keep_drew | apply keep_alloc | refine keep_far ?_ GW142.out _ | refine keep_far ?_ GW149.out _) | exact HK.out)⟩

/-! ### spec_l1Size: function 202 -/
def spec_l1Size.f (l0 : List Int) (a1 : Int) (a2 : Int) : Option (Int) := if a1 = 0 then (none) else (if (wrap64 ((l0.length : Int) / a1)) > a2 then (some a2) else (some (wrap64 ((l0.length : Int) / a1))))
set_option maxHeartbeats 8000000 in
set_option maxRecDepth 100000 in
theorem spec_l1Size.calls (A0 : Option Addr) (c0 : Nat) (l0 : List Int) (a1 : Int) (a2 : Int) (r : Int) (w : World) (hr0 : Kd.C (Kd.int .u8) w A0 l0.length l0) (hc0 : l0.length ≤ c0) (h : spec_l1Size.f l0 a1 a2 = some r) :
  Calls Try.prog 202 #[.slice A0 l0.length c0, .int .i64 a1, .int .i64 a2] w fun e w' => e = .returned (.int .i64 r) ∧ Drawn0 w w' := by
 have HR0 := Zam hr0
 have HC0 := Zam hc0
 clear hr0 hc0
 have H : (if a1 = 0 then (none) else (if (wrap64 ((l0.length : Int) / a1)) > a2 then (some a2) else (some (wrap64 ((l0.length : Int) / a1))))) = some r := h
 clear h
 by_cases c4 : a1 = 0
 ·rw [if_pos c4] at H
  exact absurd H (by simp)
 rw [if_neg c4] at H
 have c4b0 : (a1 == 0) = false := beq_eq_false_iff_ne.mpr c4
 have c4b1 : (a1 != 0) = true := bne_iff_ne.mpr c4
 by_cases c5 : (wrap64 ((l0.length : Int) / a1)) > a2
 rw [if_pos c5] at H
 have c5b0 : decide (a2 < (wrap64 ((l0.length : Int) / a1))) = true := decide_eq_true c5
 clear c5
 obtain rfl := Option.some.inj H
 rotate_left
 rw [if_neg c5] at H
 have c5b0 : decide (a2 < (wrap64 ((l0.length : Int) / a1))) = false := decide_eq_false c5
 clear c5
 obtain rfl := Option.some.inj H
 all_goals
  go_enter Try.func202, Try.ntmps202
  go_wp2
  go_ret
  exact ⟨by first | rfl | (simp; done) | (simp [*]; done), by repeat (first | exact Drawn0.refl _ | apply Drawn0.step)⟩

end Go.Proofs.Ytidblealnaicpaa.PFnSizes

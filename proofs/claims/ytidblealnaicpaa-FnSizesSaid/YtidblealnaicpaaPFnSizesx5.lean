-- written by myprint.py (a program of this session's over the kit's print)
import Derived.Test.YtidblealnaicpaaPFnSizesx0
import Derived.Test.YtidblealnaicpaaPFnSizesx4
namespace Go.Proofs.Ytidblealnaicpaa.PFnSizes
open Go.RowKit Go.Proofs.YtidblealnaicpaaW.PrintWords Go.Proofs.YtidblealnaicpaaW.PrintLast Go.Proofs.YtidblealnaicpaaW.PrintMore
attribute [local go_sem] max2_int min2_int max_two min_two max_three min_three max_four min_four   -- for this text's walks alone
set_option linter.unusedVariables false
set_option linter.unusedSimpArgs false

/-! ### impl_Shrink: function 59 -/
mutual
def impl_Shrink.j0 : Nat → Int → Bool → Int → Int → List Int → Option (Int × Int × List Int)
 | 0, _, _, _, _, _ => none
 | k + 1, x1, x22, x228000, x228001, x228002 => if x22 = true then (some (0, 0, ([] : List Int))) else (if x1 = 0 then (none) else (impl_Shrink.l0 k x1 (wrap64 (Int.tdiv (wrap64 ((wrap64 (x228001 + x1)) - 1)) x1)) 0 x228000 x228001 x228002 (wrap64 (Int.tdiv (wrap64 ((wrap64 (x228000 + x1)) - 1)) x1)) (wrap64 (Int.tdiv (wrap64 ((wrap64 (x228001 + x1)) - 1)) x1)) ([] : List Int)))
def impl_Shrink.l0 : Nat → Int → Int → Int → Int → Int → List Int → Int → Int → List Int → Option (Int × Int × List Int)
 | 0, _, _, _, _, _, _, _, _, _ => none
 | k + 1, x1, x40, x41, x228000, x228001, x228002, x231000, x231001, x231002 => if x41 < x40 then (impl_Shrink.l1 k x1 x41 x40 x41 x231000 0 x228000 x228001 x228002 x231000 x231001 x231002) else (some (x231000, x231001, x231002))
def impl_Shrink.l1 : Nat → Int → Int → Int → Int → Int → Int → Int → Int → List Int → Int → Int → List Int → Option (Int × Int × List Int)
 | 0, _, _, _, _, _, _, _, _, _, _, _, _ => none
 | k + 1, x1, x6, x40, x41, x45, x46, x228000, x228001, x228002, x231000, x231001, x231002 => if x46 < x45 then (impl_Shrink.l2 k x1 x6 x46 0 0 (wrap64 (x6 * x1)) x40 x41 x45 x46 x228000 x228001 x228002 x231000 x231001 x231002) else (impl_Shrink.l0 k x1 x40 (wrap64 (x41 + 1)) x228000 x228001 x228002 x231000 x231001 x231002)
def impl_Shrink.l2 : Nat → Int → Int → Int → Int → Int → Int → Int → Int → Int → Int → Int → Int → List Int → Int → Int → List Int → Option (Int × Int × List Int)
 | 0, _, _, _, _, _, _, _, _, _, _, _, _, _, _, _, _ => none
 | k + 1, x1, x6, x7, x8, x9, x10, x40, x41, x45, x46, x228000, x228001, x228002, x231000, x231001, x231002 => if x10 < (mn x228001 (wrap64 ((wrap64 (x6 + 1)) * x1))) then (impl_Shrink.l3 k x1 x6 x7 x8 x9 x10 (wrap64 (x7 * x1)) x40 x41 x45 x46 x228000 x228001 x228002 x231000 x231001 x231002) else (if x9 = 0 then (none) else (if x231002.length < 17592186044416 then (impl_Shrink.l1 k x1 x6 x40 x41 x45 (wrap64 (x46 + 1)) x228000 x228001 x228002 x231000 x231001 (x231002 ++ [wrap64 (Int.tdiv (wrap64 (x8 + (wrap64 (Int.tdiv x9 2)))) x9)])) else (none)))
def impl_Shrink.l3 : Nat → Int → Int → Int → Int → Int → Int → Int → Int → Int → Int → Int → Int → Int → List Int → Int → Int → List Int → Option (Int × Int × List Int)
 | 0, _, _, _, _, _, _, _, _, _, _, _, _, _, _, _, _, _ => none
 | k + 1, x1, x6, x7, x8, x9, x10, x11, x40, x41, x45, x46, x228000, x228001, x228002, x231000, x231001, x231002 => if x11 < (mn x228000 (wrap64 ((wrap64 (x7 + 1)) * x1))) then (if 0 ≤ (wrap64 ((wrap64 (x10 * x228000)) + x11)) then (if (wrap64 ((wrap64 (x10 * x228000)) + x11)) < (x228002.length : Int) then (impl_Shrink.l3 k x1 x6 x7 (wrap64 (x8 + (rd x228002 (wrap64 ((wrap64 (x10 * x228000)) + x11))))) (wrap64 (x9 + 1)) x10 (wrap64 (x11 + 1)) x40 x41 x45 x46 x228000 x228001 x228002 x231000 x231001 x231002) else (none)) else (none)) else (impl_Shrink.l2 k x1 x6 x7 x8 x9 (wrap64 (x10 + 1)) x40 x41 x45 x46 x228000 x228001 x228002 x231000 x231001 x231002)
end
def impl_Shrink.f (k : Nat) (a0_0 : Int) (a0_1 : Int) (l0_2 : List Int) (a1 : Int) : Option (Int × Int × List Int) := (impl_GoodPlane.f k a0_0 a0_1 l0_2).bind fun t229 => (if t229 = true then (if a1 = 2 then (impl_Shrink.j0 k a1 false a0_0 a0_1 l0_2) else (impl_Shrink.j0 k a1 (a1 != 4) a0_0 a0_1 l0_2)) else (impl_Shrink.j0 k a1 true a0_0 a0_1 l0_2))
theorem impl_Shrink.mono_l : ∀ k, (∀ y0 y1 y2 y3 y4, LeO (impl_Shrink.j0 k y0 y1 y2 y3 y4) (impl_Shrink.j0 (k + 1) y0 y1 y2 y3 y4)) ∧ (∀ y0 y1 y2 y3 y4 y5 y6 y7 y8, LeO (impl_Shrink.l0 k y0 y1 y2 y3 y4 y5 y6 y7 y8) (impl_Shrink.l0 (k + 1) y0 y1 y2 y3 y4 y5 y6 y7 y8)) ∧ (∀ y0 y1 y2 y3 y4 y5 y6 y7 y8 y9 y10 y11, LeO (impl_Shrink.l1 k y0 y1 y2 y3 y4 y5 y6 y7 y8 y9 y10 y11) (impl_Shrink.l1 (k + 1) y0 y1 y2 y3 y4 y5 y6 y7 y8 y9 y10 y11)) ∧ (∀ y0 y1 y2 y3 y4 y5 y6 y7 y8 y9 y10 y11 y12 y13 y14 y15, LeO (impl_Shrink.l2 k y0 y1 y2 y3 y4 y5 y6 y7 y8 y9 y10 y11 y12 y13 y14 y15) (impl_Shrink.l2 (k + 1) y0 y1 y2 y3 y4 y5 y6 y7 y8 y9 y10 y11 y12 y13 y14 y15)) ∧ (∀ y0 y1 y2 y3 y4 y5 y6 y7 y8 y9 y10 y11 y12 y13 y14 y15 y16, LeO (impl_Shrink.l3 k y0 y1 y2 y3 y4 y5 y6 y7 y8 y9 y10 y11 y12 y13 y14 y15 y16) (impl_Shrink.l3 (k + 1) y0 y1 y2 y3 y4 y5 y6 y7 y8 y9 y10 y11 y12 y13 y14 y15 y16))
 | 0 => ⟨fun _ _ _ _ _ r h => by simp [impl_Shrink.j0] at h, fun _ _ _ _ _ _ _ _ _ r h => by simp [impl_Shrink.l0] at h, fun _ _ _ _ _ _ _ _ _ _ _ _ r h => by simp [impl_Shrink.l1] at h, fun _ _ _ _ _ _ _ _ _ _ _ _ _ _ _ _ r h => by simp [impl_Shrink.l2] at h, fun _ _ _ _ _ _ _ _ _ _ _ _ _ _ _ _ _ r h => by simp [impl_Shrink.l3] at h⟩
 | k + 1 => by
  obtain ⟨ih0, ih1, ih2, ih3, ih4⟩ := impl_Shrink.mono_l k
  refine ⟨?_, ?_, ?_, ?_, ?_⟩
  ·intro y0 y1 y2 y3 y4
   unfold impl_Shrink.j0
   repeat' first
   | (with_reducible exact ih0 _ _ _ _ _)
   | (with_reducible exact ih1 _ _ _ _ _ _ _ _ _)
   | (with_reducible exact ih2 _ _ _ _ _ _ _ _ _ _ _ _)
   | (with_reducible exact ih3 _ _ _ _ _ _ _ _ _ _ _ _ _ _ _ _)
   | (with_reducible exact ih4 _ _ _ _ _ _ _ _ _ _ _ _ _ _ _ _ _)
   | (with_reducible exact impl_GoodPlane.mono _ _ _ _)
   | (with_reducible exact LeO.refl _)
   | (with_reducible exact LeO.none _)
   | (with_reducible refine LeO.ite ?_ ?_)
   | (with_reducible refine LeO.bind ?_ (fun _ => ?_))
   | exact ih0 _ _ _ _ _
   | exact ih1 _ _ _ _ _ _ _ _ _
   | exact ih2 _ _ _ _ _ _ _ _ _ _ _ _
   | exact ih3 _ _ _ _ _ _ _ _ _ _ _ _ _ _ _ _
   | exact ih4 _ _ _ _ _ _ _ _ _ _ _ _ _ _ _ _ _
   | exact impl_GoodPlane.mono _ _ _ _
   | exact LeO.none _
   | refine LeO.ite ?_ ?_
   | refine LeO.bind ?_ (fun _ => ?_)
  ·intro y0 y1 y2 y3 y4 y5 y6 y7 y8
   unfold impl_Shrink.l0
   repeat' first
   | (with_reducible exact ih0 _ _ _ _ _)
   | (with_reducible exact ih1 _ _ _ _ _ _ _ _ _)
   | (with_reducible exact ih2 _ _ _ _ _ _ _ _ _ _ _ _)
   | (with_reducible exact ih3 _ _ _ _ _ _ _ _ _ _ _ _ _ _ _ _)
   | (with_reducible exact ih4 _ _ _ _ _ _ _ _ _ _ _ _ _ _ _ _ _)
   | (with_reducible exact impl_GoodPlane.mono _ _ _ _)
   | (with_reducible exact LeO.refl _)
   | (with_reducible exact LeO.none _)
   | (with_reducible refine LeO.ite ?_ ?_)
   | (with_reducible refine LeO.bind ?_ (fun _ => ?_))
   | exact ih0 _ _ _ _ _
   | exact ih1 _ _ _ _ _ _ _ _ _
   | exact ih2 _ _ _ _ _ _ _ _ _ _ _ _
   | exact ih3 _ _ _ _ _ _ _ _ _ _ _ _ _ _ _ _
   | exact ih4 _ _ _ _ _ _ _ _ _ _ _ _ _ _ _ _ _
   | exact impl_GoodPlane.mono _ _ _ _
   | exact LeO.none _
   | refine LeO.ite ?_ ?_
   | refine LeO.bind ?_ (fun _ => ?_)
  ·intro y0 y1 y2 y3 y4 y5 y6 y7 y8 y9 y10 y11
   unfold impl_Shrink.l1
   repeat' first
   | (with_reducible exact ih0 _ _ _ _ _)
   | (with_reducible exact ih1 _ _ _ _ _ _ _ _ _)
   | (with_reducible exact ih2 _ _ _ _ _ _ _ _ _ _ _ _)
   | (with_reducible exact ih3 _ _ _ _ _ _ _ _ _ _ _ _ _ _ _ _)
   | (with_reducible exact ih4 _ _ _ _ _ _ _ _ _ _ _ _ _ _ _ _ _)
   | (with_reducible exact impl_GoodPlane.mono _ _ _ _)
   | (with_reducible exact LeO.refl _)
   | (with_reducible exact LeO.none _)
   | (with_reducible refine LeO.ite ?_ ?_)
   | (with_reducible refine LeO.bind ?_ (fun _ => ?_))
   | exact ih0 _ _ _ _ _
   | exact ih1 _ _ _ _ _ _ _ _ _
   | exact ih2 _ _ _ _ _ _ _ _ _ _ _ _
   | exact ih3 _ _ _ _ _ _ _ _ _ _ _ _ _ _ _ _
   | exact ih4 _ _ _ _ _ _ _ _ _ _ _ _ _ _ _ _ _
   | exact impl_GoodPlane.mono _ _ _ _
   | exact LeO.none _
   | refine LeO.ite ?_ ?_
   | refine LeO.bind ?_ (fun _ => ?_)
  ·intro y0 y1 y2 y3 y4 y5 y6 y7 y8 y9 y10 y11 y12 y13 y14 y15
   unfold impl_Shrink.l2
   repeat' first
   | (with_reducible exact ih0 _ _ _ _ _)
   | (with_reducible exact ih1 _ _ _ _ _ _ _ _ _)
   | (with_reducible exact ih2 _ _ _ _ _ _ _ _ _ _ _ _)
   | (with_reducible exact ih3 _ _ _ _ _ _ _ _ _ _ _ _ _ _ _ _)
   | (with_reducible exact ih4 _ _ _ _ _ _ _ _ _ _ _ _ _ _ _ _ _)
   | (with_reducible exact impl_GoodPlane.mono _ _ _ _)
   | (with_reducible exact LeO.refl _)
   | (with_reducible exact LeO.none _)
   | (with_reducible refine LeO.ite ?_ ?_)
   | (with_reducible refine LeO.bind ?_ (fun _ => ?_))
   | exact ih0 _ _ _ _ _
   | exact ih1 _ _ _ _ _ _ _ _ _
   | exact ih2 _ _ _ _ _ _ _ _ _ _ _ _
   | exact ih3 _ _ _ _ _ _ _ _ _ _ _ _ _ _ _ _
   | exact ih4 _ _ _ _ _ _ _ _ _ _ _ _ _ _ _ _ _
   | exact impl_GoodPlane.mono _ _ _ _
   | exact LeO.none _
   | refine LeO.ite ?_ ?_
   | refine LeO.bind ?_ (fun _ => ?_)
  ·intro y0 y1 y2 y3 y4 y5 y6 y7 y8 y9 y10 y11 y12 y13 y14 y15 y16
   unfold impl_Shrink.l3
   repeat' first
   | (with_reducible exact ih0 _ _ _ _ _)
   | (with_reducible exact ih1 _ _ _ _ _ _ _ _ _)
   | (with_reducible exact ih2 _ _ _ _ _ _ _ _ _ _ _ _)
   | (with_reducible exact ih3 _ _ _ _ _ _ _ _ _ _ _ _ _ _ _ _)
   | (with_reducible exact ih4 _ _ _ _ _ _ _ _ _ _ _ _ _ _ _ _ _)
   | (with_reducible exact impl_GoodPlane.mono _ _ _ _)
   | (with_reducible exact LeO.refl _)
   | (with_reducible exact LeO.none _)
   | (with_reducible refine LeO.ite ?_ ?_)
   | (with_reducible refine LeO.bind ?_ (fun _ => ?_))
   | exact ih0 _ _ _ _ _
   | exact ih1 _ _ _ _ _ _ _ _ _
   | exact ih2 _ _ _ _ _ _ _ _ _ _ _ _
   | exact ih3 _ _ _ _ _ _ _ _ _ _ _ _ _ _ _ _
   | exact ih4 _ _ _ _ _ _ _ _ _ _ _ _ _ _ _ _ _
   | exact impl_GoodPlane.mono _ _ _ _
   | exact LeO.none _
   | refine LeO.ite ?_ ?_
   | refine LeO.bind ?_ (fun _ => ?_)
theorem impl_Shrink.mono : ∀ a0 a1 a2 a3 k, LeO (impl_Shrink.f k a0 a1 a2 a3) (impl_Shrink.f (k + 1) a0 a1 a2 a3) := by
 intro a0 a1 a2 a3 k
 obtain ⟨ih0, ih1, ih2, ih3, ih4⟩ := impl_Shrink.mono_l k
 unfold impl_Shrink.f
 repeat' first
   | (with_reducible exact ih0 _ _ _ _ _)
   | (with_reducible exact ih1 _ _ _ _ _ _ _ _ _)
   | (with_reducible exact ih2 _ _ _ _ _ _ _ _ _ _ _ _)
   | (with_reducible exact ih3 _ _ _ _ _ _ _ _ _ _ _ _ _ _ _ _)
   | (with_reducible exact ih4 _ _ _ _ _ _ _ _ _ _ _ _ _ _ _ _ _)
   | (with_reducible exact impl_GoodPlane.mono _ _ _ _)
   | (with_reducible exact LeO.refl _)
   | (with_reducible exact LeO.none _)
   | (with_reducible refine LeO.ite ?_ ?_)
   | (with_reducible refine LeO.bind ?_ (fun _ => ?_))
   | exact ih0 _ _ _ _ _
   | exact ih1 _ _ _ _ _ _ _ _ _
   | exact ih2 _ _ _ _ _ _ _ _ _ _ _ _
   | exact ih3 _ _ _ _ _ _ _ _ _ _ _ _ _ _ _ _
   | exact ih4 _ _ _ _ _ _ _ _ _ _ _ _ _ _ _ _ _
   | exact impl_GoodPlane.mono _ _ _ _
   | exact LeO.none _
   | refine LeO.ite ?_ ?_
   | refine LeO.bind ?_ (fun _ => ?_)
def impl_Shrink.T3 : Bool × List (List Nat × List Nat) := (true, [([], []), ([0], [0]), ([], []), ([1, 2], [1, 2]), ([3], [3]), ([], []), ([4, 5], [4, 5]), ([], []), ([7], [7]), ([], []), ([8, 9], [8, 9]), ([10], [10]), ([], []), ([11, 12], [11, 12]), ([6, 13], [6, 13]), ([], []), ([15, 14, 0, 1, 2, 3, 4, 5, 6, 7, 8, 9, 10, 11, 12, 13, 14, 15], [14, 15])])
def impl_Shrink.B3 : List Nat := [0, 1, 0, 7, 15, 0, 63, 0, 128, 0, 896, 1920, 0, 8064, 16383, 0, 65535]
theorem impl_Shrink.tab3 : rtab .any (opsOf Try.f59 3) = impl_Shrink.T3 := by kernel_rfl
theorem impl_Shrink.bits3 : waitsOk impl_Shrink.T3.2 impl_Shrink.B3 = true := by kernel_rfl
def impl_Shrink.T19 : Bool × List (List Nat × List Nat) := (true, [([], []), ([0], [0]), ([], []), ([], []), ([3], [3]), ([2, 4], [2, 4]), ([], []), ([5, 6], [5, 6]), ([7], [7]), ([1, 8], [1, 8]), ([0, 1, 2, 3, 4, 5, 6, 7, 8, 9], []), ([10, 9, 9, 0, 1, 2, 3, 4, 5, 6, 7, 8, 9], [9, 10])])
def impl_Shrink.B19 : List Nat := [0, 1, 0, 0, 8, 28, 0, 124, 252, 511, 1023, 2047]
theorem impl_Shrink.tab19 : rtab .any (opsOf Try.f59 19) = impl_Shrink.T19 := by kernel_rfl
theorem impl_Shrink.bits19 : waitsOk impl_Shrink.T19.2 impl_Shrink.B19 = true := by kernel_rfl
set_option maxHeartbeats 8000000 in
set_option maxRecDepth 100000 in
theorem impl_Shrink.calls (k : Nat) (a0_0 : Int) (a0_1 : Int) (A0_2 : Option Addr) (c0_2 : Nat) (l0_2 : List Int) (a1 : Int) (r1 : Int) (r2 : Int) (r3 : List Int) (w : World) (hr0_2 : Kd.C (Kd.int .i64) w A0_2 l0_2.length l0_2) (hc0_2 : l0_2.length ≤ c0_2) (h : impl_Shrink.f k a0_0 a0_1 l0_2 a1 = some (r1, r2, r3)) :
  Calls Try.prog 59 #[.agg #[.int .i64 a0_0, .int .i64 a0_1, .slice A0_2 l0_2.length c0_2], .int .i64 a1] w fun e w' => ∃ v2_ : Value, e = .returned (.agg #[.int .i64 r1, .int .i64 r2, v2_]) ∧ Kd.R (Kd.int .i64) 3 w' w.heap.size (fun _ => True) v2_ r3 ∧ Below w.heap.size w w' := by
 have hu82 := Try.underlying82
 have HR0_2 := Zam hr0_2
 have HC0_2 := Zam hc0_2
 clear hr0_2 hc0_2
 have HB := Zam (Below.refl w.heap.size w)
 have H : ((impl_GoodPlane.f k a0_0 a0_1 l0_2).bind fun t229 => (if t229 = true then (if a1 = 2 then (impl_Shrink.j0 k a1 false a0_0 a0_1 l0_2) else (impl_Shrink.j0 k a1 (a1 != 4) a0_0 a0_1 l0_2)) else (impl_Shrink.j0 k a1 true a0_0 a0_1 l0_2))) = some (r1, r2, r3) := h
 clear h
 have HC3 := Zam H
 clear H
 go_enter Try.func59, Try.ntmps59
 go_upto_region 1 with (first | ((with_reducible refine gate_dst (N := 2) rfl ?_); refine box_event ?hg (N := 2) ?hd (cs := #[.int .i64 a0_0, .int .i64 a0_1, .slice A0_2 l0_2.length c0_2]) (t := 82) ?hr ?_; (case hd => rfl); (case hg => rfl); (case hr => first | (go_simp; done) | (go_simp; rfl)); intro gb227 hg w4 hbox hb; have n0_ := Zam (ZbS (by repeat (first | (with_reducible first | exact HB.out | apply ZhA | apply ZhW | apply ZhD) | exact HB.out)) hb); have n1_ := Zam (hbox); have n2_ := Zam ((by rw [hg]; exact (below_size (by repeat (first | (with_reducible first | exact HB.out | apply ZhA | apply ZhW | apply ZhD) | exact HB.out))) : w.heap.size ≤ gb227)); have n3_ := n2_; clear HB; have HB := n0_; have BK227 := n1_; have GW227 := n2_; have GE227 := n3_; clear n0_ n1_ n2_ n3_; clear hb hbox hg) | ((with_reducible refine gate_dst (N := 4) rfl ?_); refine box_event ?hg (N := 4) ?hd (cs := #[.int .i64 0, .int .i64 0, .slice none 0 0]) (t := 82) ?hr ?_; (case hd => rfl); (case hg => rfl); (case hr => first | (go_simp; done) | (go_simp; rfl)); intro gb228 hg w5 hbox hb; have n0_ := Zam (ZbB (g := gb227) (o := .cells #[.int .i64 a0_0, .int .i64 a0_1, .slice A0_2 l0_2.length c0_2] 82 (0, 0)) (by (with_reducible repeat (first | refine ZbW ?_ _ | refine ZbD ?_ | refine ZbA ?_ _)); exact BK227.out) hb); have n1_ := Zam (ZbS (by repeat (first | (with_reducible first | exact HB.out | apply ZhA | apply ZhW | apply ZhD | refine ZhS ?_ GE227.out) | exact HB.out)) hb); have n2_ := Zam (hbox); have n3_ := Zam ((by rw [hg]; exact (below_size (by repeat (first | (with_reducible first | exact HB.out | apply ZhA | apply ZhW | apply ZhD | refine ZhS ?_ GE227.out) | exact HB.out))) : w.heap.size ≤ gb228)); have n4_ := n3_; have n5_ := Zam ((by rw [hg]; exact Nat.ne_of_lt (blk_lt (g := gb227) (o := .cells #[.int .i64 a0_0, .int .i64 a0_1, .slice A0_2 l0_2.length c0_2] 82 (0, 0)) (by (with_reducible repeat (first | refine ZbW ?_ _ | refine ZbD ?_ | refine ZbA ?_ _)); exact BK227.out)) : gb227 ≠ gb228)); have n6_ := Zam ((by rw [hg]; exact Nat.ne_of_gt (blk_lt (g := gb227) (o := .cells #[.int .i64 a0_0, .int .i64 a0_1, .slice A0_2 l0_2.length c0_2] 82 (0, 0)) (by (with_reducible repeat (first | refine ZbW ?_ _ | refine ZbD ?_ | refine ZbA ?_ _)); exact BK227.out)) : gb228 ≠ gb227)); clear BK227 HB; have BK227 := n0_; have HB := n1_; have BK228 := n2_; have GW228 := n3_; have GE228 := n4_; have NB227_228 := n5_; have NB228_227 := n6_; clear n0_ n1_ n2_ n3_ n4_ n5_ n6_; clear hb hbox hg))
 (try simp only [Act.put, Zl1, Zl2, Zl3])
 go_cut [22] (fun v22 wc => ∃ (kq : Nat) (x22_2 : Bool), v22 = .bool x22_2 ∧ Aside0 (impl_Shrink.j0 kq a1 x22_2 a0_0 a0_1 l0_2 = some (r1, r2, r3)) ∧ Aside0 (kq ≤ k) ∧ Aside0 (wc.heap[gb227]? = some (.cells #[.int .i64 a0_0, .int .i64 a0_1, (.slice A0_2 l0_2.length c0_2)] 82 (0, 0))) ∧ Aside0 (wc.heap[gb228]? = some (.cells #[.int .i64 0, .int .i64 0, (.slice none 0 0)] 82 (0, 0))) ∧ Aside0 (Below w.heap.size w wc))
 case first =>
  have H := HC3.out
  clear HC3
  replace H := Zob.mp H
  obtain ⟨t229, A60, H⟩ := H
  replace H : (if t229 = true then (if a1 = 2 then (impl_Shrink.j0 k a1 false a0_0 a0_1 l0_2) else (impl_Shrink.j0 k a1 (a1 != 4) a0_0 a0_1 l0_2)) else (impl_Shrink.j0 k a1 true a0_0 a0_1 l0_2)) = some (r1, r2, r3) := H
  have A6 := Zam A60
  clear A60
  by_cases c7 : t229 = true
  rotate_left
  ·replace c7 := Bool.eq_false_iff.mpr c7
   subst c7
   replace H : (impl_Shrink.j0 k a1 true a0_0 a0_1 l0_2) = some (r1, r2, r3) := by rw [if_neg (show ¬ (false = true) by decide)] at H; exact H
   have H' := Zam H
   clear H
   have hnb15 := NB227_228.out
   have hnc15 := NB228_227.out
   have hcz16_0 : w5.cell? ⟨gb227, 0, none⟩ = some (.int .i64 a0_0) := (ZbC BK227.out 0).trans rfl
   have hcz16_1 : w5.cell? ⟨gb227, 1, none⟩ = some (.int .i64 a0_1) := (ZbC BK227.out 1).trans rfl
   have hcz16_2 : w5.cell? ⟨gb227, 2, none⟩ = some (.slice A0_2 l0_2.length c0_2) := (ZbC BK227.out 2).trans rfl
   have hfz16_0 := ZbF BK227.out 0
   have hfz16_1 := ZbF BK227.out 1
   have hfz16_2 := ZbF BK227.out 2
   go_wp2_with (first | ((with_reducible refine gate_callee (f := 131) rfl ?_); refine goesL_ (some 13) rfl rfl Try.func131 (by kernel_rfl) rfl #[.agg #[.int .i64 a0_0, .int .i64 a0_1, .slice A0_2 l0_2.length c0_2]] rfl (by (try simp only [Zm1, Zm2, Zm3]); first | done | rfl | (simp only [ZlL, ZlT]; rfl)) ?_; (with_reducible refine (impl_GoodPlane.calls k a0_0 a0_1 _ _ l0_2 false _ ?side1 ?side2 A6.out).mono ?_); (case side1 => repeat (first | exact (Kd.C_below HR0_2.out HB.out) | (with_reducible refine Kd.C_alloc ?_ _) | (with_reducible refine Kd.C_drewN ?_ _) | (with_reducible refine Kd.C_drew ?_))); (case side2 => exact HC0_2.out); rintro e w17 ⟨rfl, hb⟩; refine ⟨_, rfl, ?_⟩; have n0_ := Zam (ZbB (g := gb227) (o := .cells #[.int .i64 a0_0, .int .i64 a0_1, .slice A0_2 l0_2.length c0_2] 82 (0, 0)) (by (with_reducible repeat (first | refine ZbW ?_ _ | refine ZbD ?_ | refine ZbA ?_ _)); exact BK227.out) hb); have n1_ := Zam (ZbB (g := gb228) (o := .cells #[.int .i64 0, .int .i64 0, .slice none 0 0] 82 (0, 0)) (by (with_reducible repeat (first | refine ZbW ?_ _ | refine ZbD ?_ | refine ZbA ?_ _)); exact BK228.out) hb); have n2_ := Zam (ZbS (by repeat (first | (with_reducible first | exact HB.out | apply ZhA | apply ZhW | apply ZhD | refine ZhS ?_ GE227.out | refine ZhS ?_ GE228.out) | exact HB.out)) hb); clear BK227 BK228 HB; have BK227 := n0_; have BK228 := n1_; have HB := n2_; clear n0_ n1_ n2_; (try clear hb); (try clear hb2); (try clear hk); (try clear hi)))
   go_meet
   case rel => exact ⟨_, (true), (by first | rfl | (simp; done) | (simp [*]; done)), H', ⟨by first | omega | exact Nat.le_refl _⟩, ⟨by (with_reducible repeat (first | refine ZbW ?_ _ | refine ZbD ?_ | refine ZbA ?_ _)); exact BK227.out⟩, ⟨by (with_reducible repeat (first | refine ZbW ?_ _ | refine ZbD ?_ | refine ZbA ?_ _)); exact BK228.out⟩, ⟨by repeat (first | (with_reducible first | exact HB.out | apply ZhA | apply ZhW | apply ZhD | refine ZhS ?_ GE227.out | refine ZhS ?_ GE228.out) | exact HB.out)⟩⟩
  subst c7
  replace H : (if a1 = 2 then (impl_Shrink.j0 k a1 false a0_0 a0_1 l0_2) else (impl_Shrink.j0 k a1 (a1 != 4) a0_0 a0_1 l0_2)) = some (r1, r2, r3) := by rw [if_pos rfl] at H; exact H
  by_cases c8 : a1 = 2
  rotate_left
  ·rw [if_neg c8] at H
   have c8b0 : (a1 == 2) = false := beq_eq_false_iff_ne.mpr c8
   have c8b1 : (a1 != 2) = true := bne_iff_ne.mpr c8
   (first | rw [c8b0] | (simp only [i64_w, i32_w]; rw [c8b0]) | skip)
   have H' := Zam H
   clear H
   have hnb12 := NB227_228.out
   have hnc12 := NB228_227.out
   have hcz13_0 : w5.cell? ⟨gb227, 0, none⟩ = some (.int .i64 a0_0) := (ZbC BK227.out 0).trans rfl
   have hcz13_1 : w5.cell? ⟨gb227, 1, none⟩ = some (.int .i64 a0_1) := (ZbC BK227.out 1).trans rfl
   have hcz13_2 : w5.cell? ⟨gb227, 2, none⟩ = some (.slice A0_2 l0_2.length c0_2) := (ZbC BK227.out 2).trans rfl
   have hfz13_0 := ZbF BK227.out 0
   have hfz13_1 := ZbF BK227.out 1
   have hfz13_2 := ZbF BK227.out 2
   go_wp2_with (first | ((with_reducible refine gate_callee (f := 131) rfl ?_); refine goesL_ (some 13) rfl rfl Try.func131 (by kernel_rfl) rfl #[.agg #[.int .i64 a0_0, .int .i64 a0_1, .slice A0_2 l0_2.length c0_2]] rfl (by (try simp only [Zm1, Zm2, Zm3]); first | done | rfl | (simp only [ZlL, ZlT]; rfl)) ?_; (with_reducible refine (impl_GoodPlane.calls k a0_0 a0_1 _ _ l0_2 true _ ?side1 ?side2 A6.out).mono ?_); (case side1 => repeat (first | exact (Kd.C_below HR0_2.out HB.out) | (with_reducible refine Kd.C_alloc ?_ _) | (with_reducible refine Kd.C_drewN ?_ _) | (with_reducible refine Kd.C_drew ?_))); (case side2 => exact HC0_2.out); rintro e w14 ⟨rfl, hb⟩; refine ⟨_, rfl, ?_⟩; have n0_ := Zam (ZbB (g := gb227) (o := .cells #[.int .i64 a0_0, .int .i64 a0_1, .slice A0_2 l0_2.length c0_2] 82 (0, 0)) (by (with_reducible repeat (first | refine ZbW ?_ _ | refine ZbD ?_ | refine ZbA ?_ _)); exact BK227.out) hb); have n1_ := Zam (ZbB (g := gb228) (o := .cells #[.int .i64 0, .int .i64 0, .slice none 0 0] 82 (0, 0)) (by (with_reducible repeat (first | refine ZbW ?_ _ | refine ZbD ?_ | refine ZbA ?_ _)); exact BK228.out) hb); have n2_ := Zam (ZbS (by repeat (first | (with_reducible first | exact HB.out | apply ZhA | apply ZhW | apply ZhD | refine ZhS ?_ GE227.out | refine ZhS ?_ GE228.out) | exact HB.out)) hb); clear BK227 BK228 HB; have BK227 := n0_; have BK228 := n1_; have HB := n2_; clear n0_ n1_ n2_; (try clear hb); (try clear hb2); (try clear hk); (try clear hi)))
   go_meet
   case rel => exact ⟨_, ((a1 != 4)), (by first | rfl | (simp; done) | (simp [*]; done)), H', ⟨by first | omega | exact Nat.le_refl _⟩, ⟨by (with_reducible repeat (first | refine ZbW ?_ _ | refine ZbD ?_ | refine ZbA ?_ _)); exact BK227.out⟩, ⟨by (with_reducible repeat (first | refine ZbW ?_ _ | refine ZbD ?_ | refine ZbA ?_ _)); exact BK228.out⟩, ⟨by repeat (first | (with_reducible first | exact HB.out | apply ZhA | apply ZhW | apply ZhD | refine ZhS ?_ GE227.out | refine ZhS ?_ GE228.out) | exact HB.out)⟩⟩
  rw [if_pos c8] at H
  have c8b0 : (a1 == 2) = true := beq_iff_eq.mpr c8
  have c8b1 : (a1 != 2) = false := bne_eq_false_iff_eq.mpr c8
  clear c8
  (first | rw [c8b0] | (simp only [i64_w, i32_w]; rw [c8b0]) | skip)
  have H' := Zam H
  clear H
  have hnb9 := NB227_228.out
  have hnc9 := NB228_227.out
  have hcz10_0 : w5.cell? ⟨gb227, 0, none⟩ = some (.int .i64 a0_0) := (ZbC BK227.out 0).trans rfl
  have hcz10_1 : w5.cell? ⟨gb227, 1, none⟩ = some (.int .i64 a0_1) := (ZbC BK227.out 1).trans rfl
  have hcz10_2 : w5.cell? ⟨gb227, 2, none⟩ = some (.slice A0_2 l0_2.length c0_2) := (ZbC BK227.out 2).trans rfl
  have hfz10_0 := ZbF BK227.out 0
  have hfz10_1 := ZbF BK227.out 1
  have hfz10_2 := ZbF BK227.out 2
  go_wp2_with (first | ((with_reducible refine gate_callee (f := 131) rfl ?_); refine goesL_ (some 13) rfl rfl Try.func131 (by kernel_rfl) rfl #[.agg #[.int .i64 a0_0, .int .i64 a0_1, .slice A0_2 l0_2.length c0_2]] rfl (by (try simp only [Zm1, Zm2, Zm3]); first | done | rfl | (simp only [ZlL, ZlT]; rfl)) ?_; (with_reducible refine (impl_GoodPlane.calls k a0_0 a0_1 _ _ l0_2 true _ ?side1 ?side2 A6.out).mono ?_); (case side1 => repeat (first | exact (Kd.C_below HR0_2.out HB.out) | (with_reducible refine Kd.C_alloc ?_ _) | (with_reducible refine Kd.C_drewN ?_ _) | (with_reducible refine Kd.C_drew ?_))); (case side2 => exact HC0_2.out); rintro e w11 ⟨rfl, hb⟩; refine ⟨_, rfl, ?_⟩; have n0_ := Zam (ZbB (g := gb227) (o := .cells #[.int .i64 a0_0, .int .i64 a0_1, .slice A0_2 l0_2.length c0_2] 82 (0, 0)) (by (with_reducible repeat (first | refine ZbW ?_ _ | refine ZbD ?_ | refine ZbA ?_ _)); exact BK227.out) hb); have n1_ := Zam (ZbB (g := gb228) (o := .cells #[.int .i64 0, .int .i64 0, .slice none 0 0] 82 (0, 0)) (by (with_reducible repeat (first | refine ZbW ?_ _ | refine ZbD ?_ | refine ZbA ?_ _)); exact BK228.out) hb); have n2_ := Zam (ZbS (by repeat (first | (with_reducible first | exact HB.out | apply ZhA | apply ZhW | apply ZhD | refine ZhS ?_ GE227.out | refine ZhS ?_ GE228.out) | exact HB.out)) hb); clear BK227 BK228 HB; have BK227 := n0_; have BK228 := n1_; have HB := n2_; clear n0_ n1_ n2_; (try clear hb); (try clear hb2); (try clear hk); (try clear hi)))
  go_meet
  case rel => exact ⟨_, (false), (by first | rfl | (simp; done) | (simp [*]; done)), H', ⟨by first | omega | exact Nat.le_refl _⟩, ⟨by (with_reducible repeat (first | refine ZbW ?_ _ | refine ZbD ?_ | refine ZbA ?_ _)); exact BK227.out⟩, ⟨by (with_reducible repeat (first | refine ZbW ?_ _ | refine ZbD ?_ | refine ZbA ?_ _)); exact BK228.out⟩, ⟨by repeat (first | (with_reducible first | exact HB.out | apply ZhA | apply ZhW | apply ZhD | refine ZhS ?_ GE227.out | refine ZhS ?_ GE228.out) | exact HB.out)⟩⟩
 case rest =>
  clear HC3
  try clear c1
  try clear p2
  try clear c5
  try clear c7
  try clear c8
  try clear c8b0
  try clear c8b1
  try clear c9
  try clear c12
  try clear c13
  try clear c15
  try clear hcz10_0
  try clear hcz10_1
  try clear hcz10_2
  try clear hcz13_0
  try clear hcz13_1
  try clear hcz13_2
  try clear hcz16_0
  try clear hcz16_1
  try clear hcz16_2
  try clear hfz10_0
  try clear hfz10_1
  try clear hfz10_2
  try clear hfz13_0
  try clear hfz13_1
  try clear hfz13_2
  try clear hfz16_0
  try clear hfz16_1
  try clear hfz16_2
  obtain ⟨kq, x22_2, rfl, HA, HJ2, BK227, BK228, HB⟩ := hcut
  cases kq with
  | zero => exact absurd HA.out (by simp [impl_Shrink.j0])
  | succ kj2 =>
   have H := HA.out
   clear HA
   simp only [impl_Shrink.j0] at H
   by_cases c18 : x22_2 = true
   ·subst c18
    replace H : (some (0, 0, ([] : List Int))) = some (r1, r2, r3) := by rw [if_pos rfl] at H; exact H
    simp only [Option.some.injEq, Prod.mk.injEq] at H
    obtain ⟨rfl, rfl, rfl⟩ := H
    have hnb19 := NB228_227.out
    have hnc19 := NB227_228.out
    have hcz20_0 : wc.cell? ⟨gb228, 0, none⟩ = some (.int .i64 0) := (ZbC BK228.out 0).trans rfl
    have hcz20_1 : wc.cell? ⟨gb228, 1, none⟩ = some (.int .i64 0) := (ZbC BK228.out 1).trans rfl
    have hcz20_2 : wc.cell? ⟨gb228, 2, none⟩ = some (.slice none 0 0) := (ZbC BK228.out 2).trans rfl
    have hfz20_0 := ZbF BK228.out 0
    have hfz20_1 := ZbF BK228.out 1
    have hfz20_2 := ZbF BK228.out 2
    go_wp2
    refine bodyPost_ret (results_cell_row rfl _ _ gb228 82 #[.int .i64 0, .int .i64 0, .slice none 0 0] (0, 0) _ rfl (set3_blk BK228.out) Try.underlying82 rfl (by kernel_rfl)) rfl ?_
    exact ⟨_, by first | rfl | (simp [*, errW_none, errW_some] <;> rfl), by first | exact Kd.R_nil _ _ _ _ _ | exact Kd.N_nil _ _ _ _ _ | exact Kd.V_nil _ _ _ _ _ | exact Kd.Q_nil _ _ _ _ _ | exact Kd.S_nil _ _ _ _ _, by repeat (first | (with_reducible first | exact HB.out | apply ZhA | apply ZhW | apply ZhD | refine ZhS ?_ GE227.out | refine ZhS ?_ GE228.out) | exact HB.out)⟩
   replace c18 := Bool.eq_false_iff.mpr c18
   subst c18
   replace H : (if a1 = 0 then (none) else (impl_Shrink.l0 kj2 a1 (wrap64 (Int.tdiv (wrap64 ((wrap64 (a0_1 + a1)) - 1)) a1)) 0 a0_0 a0_1 l0_2 (wrap64 (Int.tdiv (wrap64 ((wrap64 (a0_0 + a1)) - 1)) a1)) (wrap64 (Int.tdiv (wrap64 ((wrap64 (a0_1 + a1)) - 1)) a1)) ([] : List Int))) = some (r1, r2, r3) := by rw [if_neg (show ¬ (false = true) by decide)] at H; exact H
   by_cases c21 : a1 = 0
   ·rw [if_pos c21] at H
    exact absurd H (by simp)
   rw [if_neg c21] at H
   have c21b0 : (a1 == 0) = false := beq_eq_false_iff_ne.mpr c21
   have c21b1 : (a1 != 0) = true := bne_iff_ne.mpr c21
   have H' := Zam H
   clear H
   try go_wp2
   have n0_ := Zam (ZbD BK227.out)
   have n1_ := Zam (ZbD BK228.out)
   have n2_ := Zam (ZhD HB.out)
   clear BK227
   clear BK228
   clear HB
   have BK227 := n0_
   have BK228 := n1_
   have HB := n2_
   clear n0_ n1_ n2_
   refine start_ (n := 17) (S := fun w' => w'.cell? ⟨gb227, 0, none⟩ = some (.int .i64 a0_0) ∧ w'.cell? ⟨gb227, 1, none⟩ = some (.int .i64 a0_1) ∧ w'.cell? ⟨gb227, 2, none⟩ = some (.slice A0_2 l0_2.length c0_2)) (ds := []) #[false, false, false, false, false, false, false, false, false, false, false, false, false, false, false, false, false] (by kernel_rfl) rfl rfl ⟨(ZbC BK227.out 0).trans rfl, (ZbC BK227.out 1).trans rfl, (ZbC BK227.out 2).trans rfl⟩ (fun hHeld => ?_); refine with_tabW impl_Shrink.tab3 impl_Shrink.bits3 (fun HT_ HW_ => ?_)
   generalize wc.drew = w22 at BK227 BK228 HB hHeld ⊢
   refine pure_ (i := 0) (N := some 24) (v := ?_) (a' := ?_) #[true, false, false, false, false, false, false, false, false, false, false, false, false, false, false, false, false] rfl rfl (any_of HT_.out (by kernel_rfl)) (fun _ _ _ h => h) (Or.inl ⟨by rfl, ?_⟩) ?_ ?_
   rotate_left
   ·intro w'
    go_simp
    with_reducible rfl
   rotate_left
   ·simp only [Act.put, Zl1, Zl2, Zl3, i64_w, i32_w]
    rfl
   refine pure_ (i := 2) (N := some 26) (v := ?_) (a' := ?_) #[true, false, true, false, false, false, false, false, false, false, false, false, false, false, false, false, false] rfl rfl (any_of HT_.out (by kernel_rfl)) (fun _ _ _ h => h) (Or.inl ⟨by rfl, ?_⟩) ?_ ?_
   rotate_left
   ·intro w'
    go_simp
    with_reducible rfl
   rotate_left
   ·simp only [Act.put, Zl1, Zl2, Zl3, i64_w, i32_w]
    rfl
   refine pure_ (i := 5) (N := some 29) (v := ?_) (a' := ?_) #[true, false, true, false, false, true, false, false, false, false, false, false, false, false, false, false, false] rfl rfl (any_of HT_.out (by kernel_rfl)) (fun _ _ _ h => h) (Or.inl ⟨by rfl, ?_⟩) ?_ ?_
   rotate_left
   ·intro w'
    go_simp
    with_reducible rfl
   rotate_left
   ·simp only [Act.put, Zl1, Zl2, Zl3, i64_w, i32_w]
    rfl
   refine pure_ (i := 7) (N := some 31) (v := ?_) (a' := ?_) #[true, false, true, false, false, true, false, true, false, false, false, false, false, false, false, false, false] rfl rfl (any_of HT_.out (by kernel_rfl)) (fun _ _ _ h => h) (Or.inl ⟨by rfl, ?_⟩) ?_ ?_
   rotate_left
   ·intro w'
    go_simp
    with_reducible rfl
   rotate_left
   ·simp only [Act.put, Zl1, Zl2, Zl3, i64_w, i32_w]
    rfl
   refine pure_ (i := 9) (N := some 33) (v := ?_) (a' := ?_) #[true, false, true, false, false, true, false, true, false, true, false, false, false, false, false, false, false] rfl rfl (any_of HT_.out (by kernel_rfl)) (fun _ _ _ h => h) (Or.inl ⟨by rfl, ?_⟩) ?_ ?_
   rotate_left
   ·intro w'
    go_simp
    with_reducible rfl
   rotate_left
   ·simp only [Act.put, Zl1, Zl2, Zl3, i64_w, i32_w]
    rfl
   refine pure_ (i := 12) (N := some 36) (v := ?_) (a' := ?_) #[true, false, true, false, false, true, false, true, false, true, false, false, true, false, false, false, false] rfl rfl (any_of HT_.out (by kernel_rfl)) (fun _ _ _ h => h) (Or.inl ⟨by rfl, ?_⟩) ?_ ?_
   rotate_left
   ·intro w'
    go_simp
    with_reducible rfl
   rotate_left
   ·simp only [Act.put, Zl1, Zl2, Zl3, i64_w, i32_w]
    rfl
   refine take_ (i := 1) (N := some 25) (v := ?_) (a' := ?_) #[true, true, true, false, false, true, false, true, false, true, false, false, true, false, false, false, false] rfl rfl (take_ofW HT_.out HW_.out (by kernel_rfl)) (fun _ _ _ h => h) (Or.inl ⟨by rfl, ?_⟩) hHeld ?_ ?_
   rotate_left
   ·rintro w' ⟨s0, s1, s2⟩
    go_simp
    with_reducible rfl
   rotate_left
   ·simp only [Act.put, Zl1, Zl2, Zl3, i64_w, i32_w]
    rfl
   refine pure_ (i := 3) (N := some 27) (v := ?_) (a' := ?_) #[true, true, true, true, false, true, false, true, false, true, false, false, true, false, false, false, false] rfl rfl (any_of HT_.out (by kernel_rfl)) (fun _ _ _ h => h) (Or.inl ⟨by rfl, ?_⟩) ?_ ?_
   rotate_left
   ·intro w'
    go_simp
    with_reducible rfl
   rotate_left
   ·simp only [Act.put, Zl1, Zl2, Zl3, i64_w, i32_w]
    rfl
   refine pure_ (i := 4) (N := some 28) (v := ?_) (a' := ?_) #[true, true, true, true, true, true, false, true, false, true, false, false, true, false, false, false, false] rfl rfl (any_of HT_.out (by kernel_rfl)) (fun _ _ _ h => h) (Or.inl ⟨by rfl, ?_⟩) ?_ ?_
   rotate_left
   ·intro w'
    go_simp
    with_reducible rfl
   rotate_left
   ·simp only [Act.put, Zl1, Zl2, Zl3, i64_w, i32_w]
    rfl
   refine pure_ (i := 6) (N := some 30) (v := ?_) (a' := ?_) #[true, true, true, true, true, true, true, true, false, true, false, false, true, false, false, false, false] rfl rfl (any_of HT_.out (by kernel_rfl)) (fun _ _ _ h => h) (Or.inl ⟨by rfl, ?_⟩) ?_ ?_
   rotate_left
   ·intro w'
    go_simp
    with_reducible rfl
   rotate_left
   ·simp only [Act.put, Zl1, Zl2, Zl3, i64_w, i32_w]
    rfl
   refine take_ (i := 8) (N := some 32) (v := ?_) (a' := ?_) #[true, true, true, true, true, true, true, true, true, true, false, false, true, false, false, false, false] rfl rfl (take_ofW HT_.out HW_.out (by kernel_rfl)) (fun _ _ _ h => h) (Or.inl ⟨by rfl, ?_⟩) hHeld ?_ ?_
   rotate_left
   ·rintro w' ⟨s0, s1, s2⟩
    go_simp
    with_reducible rfl
   rotate_left
   ·simp only [Act.put, Zl1, Zl2, Zl3, i64_w, i32_w]
    rfl
   refine pure_ (i := 10) (N := some 34) (v := ?_) (a' := ?_) #[true, true, true, true, true, true, true, true, true, true, true, false, true, false, false, false, false] rfl rfl (any_of HT_.out (by kernel_rfl)) (fun _ _ _ h => h) (Or.inl ⟨by rfl, ?_⟩) ?_ ?_
   rotate_left
   ·intro w'
    go_simp
    with_reducible rfl
   rotate_left
   ·simp only [Act.put, Zl1, Zl2, Zl3, i64_w, i32_w]
    rfl
   refine pure_ (i := 11) (N := some 35) (v := ?_) (a' := ?_) #[true, true, true, true, true, true, true, true, true, true, true, true, true, false, false, false, false] rfl rfl (any_of HT_.out (by kernel_rfl)) (fun _ _ _ h => h) (Or.inl ⟨by rfl, ?_⟩) ?_ ?_
   rotate_left
   ·intro w'
    go_simp
    with_reducible rfl
   rotate_left
   ·simp only [Act.put, Zl1, Zl2, Zl3, i64_w, i32_w]
    rfl
   refine pure_ (i := 13) (N := some 37) (v := ?_) (a' := ?_) #[true, true, true, true, true, true, true, true, true, true, true, true, true, true, false, false, false] rfl rfl (any_of HT_.out (by kernel_rfl)) (fun _ _ _ h => h) (Or.inl ⟨by rfl, ?_⟩) ?_ ?_
   rotate_left
   ·intro w'
    go_simp
    with_reducible rfl
   rotate_left
   ·simp only [Act.put, Zl1, Zl2, Zl3, i64_w, i32_w]
    rfl
   refine pure_ (i := 14) (N := some 38) (v := ?_) (a' := ?_) #[true, true, true, true, true, true, true, true, true, true, true, true, true, true, true, false, false] rfl rfl (any_of HT_.out (by kernel_rfl)) (fun _ _ _ h => h) (Or.inl ⟨by rfl, ?_⟩) ?_ ?_
   rotate_left
   ·intro w'
    go_simp
    with_reducible rfl
   rotate_left
   ·simp only [Act.put, Zl1, Zl2, Zl3, i64_w, i32_w]
    rfl
   refine one_ (i := 15) (N := some 5) #[true, true, true, true, true, true, true, true, true, true, true, true, true, true, true, true, false] rfl rfl (one_of HT_.out (by kernel_rfl)) (by decide) (fun K hK => ?_)
   refine box_step ?hg (N := 5) ?hd (cs := #[.int .i64 0, .int .i64 0, .slice none 0 0]) (t := 82) ?hr ?_; (case hd => rfl); (case hg => rfl); (case hr => first | (go_simp; done) | (go_simp; rfl))
   intro gb230 hg w23 hbox hb
   have n0_ := Zam (ZbB (g := gb227) (o := .cells #[.int .i64 a0_0, .int .i64 a0_1, .slice A0_2 l0_2.length c0_2] 82 (0, 0)) (by (with_reducible repeat (first | refine ZbW ?_ _ | refine ZbD ?_ | refine ZbA ?_ _)); exact BK227.out) hb)
   have n1_ := Zam (ZbB (g := gb228) (o := .cells #[.int .i64 0, .int .i64 0, .slice none 0 0] 82 (0, 0)) (by (with_reducible repeat (first | refine ZbW ?_ _ | refine ZbD ?_ | refine ZbA ?_ _)); exact BK228.out) hb)
   have n2_ := Zam (ZbS (by repeat (first | (with_reducible first | exact HB.out | apply ZhA | apply ZhW | apply ZhD | refine ZhS ?_ GE227.out | refine ZhS ?_ GE228.out) | exact HB.out)) hb)
   have n3_ := Zam (hbox)
   have n4_ := Zam ((by rw [hg]; exact (below_size (by repeat (first | (with_reducible first | exact HB.out | apply ZhA | apply ZhW | apply ZhD | refine ZhS ?_ GE227.out | refine ZhS ?_ GE228.out) | exact HB.out))) : w.heap.size ≤ gb230))
   have n5_ := Zam ((by rw [hg]; exact (below_size (by repeat (first | (with_reducible first | exact HB.out | apply ZhA | apply ZhW | apply ZhD | refine ZhS ?_ GE227.out | refine ZhS ?_ GE228.out) | exact HB.out))) : w.heap.size ≤ gb230))
   have n6_ := Zam ((by rw [hg]; exact Nat.ne_of_lt (blk_lt (g := gb227) (o := .cells #[.int .i64 a0_0, .int .i64 a0_1, .slice A0_2 l0_2.length c0_2] 82 (0, 0)) (by (with_reducible repeat (first | refine ZbW ?_ _ | refine ZbD ?_ | refine ZbA ?_ _)); exact BK227.out)) : gb227 ≠ gb230))
   have n7_ := Zam ((by rw [hg]; exact Nat.ne_of_gt (blk_lt (g := gb227) (o := .cells #[.int .i64 a0_0, .int .i64 a0_1, .slice A0_2 l0_2.length c0_2] 82 (0, 0)) (by (with_reducible repeat (first | refine ZbW ?_ _ | refine ZbD ?_ | refine ZbA ?_ _)); exact BK227.out)) : gb230 ≠ gb227))
   have n8_ := Zam ((by rw [hg]; exact Nat.ne_of_lt (blk_lt (g := gb228) (o := .cells #[.int .i64 0, .int .i64 0, .slice none 0 0] 82 (0, 0)) (by (with_reducible repeat (first | refine ZbW ?_ _ | refine ZbD ?_ | refine ZbA ?_ _)); exact BK228.out)) : gb228 ≠ gb230))
   have n9_ := Zam ((by rw [hg]; exact Nat.ne_of_gt (blk_lt (g := gb228) (o := .cells #[.int .i64 0, .int .i64 0, .slice none 0 0] 82 (0, 0)) (by (with_reducible repeat (first | refine ZbW ?_ _ | refine ZbD ?_ | refine ZbA ?_ _)); exact BK228.out)) : gb230 ≠ gb228))
   clear BK227
   clear BK228
   clear HB
   have BK227 := n0_
   have BK228 := n1_
   have HB := n2_
   have BK230 := n3_
   have GW230 := n4_
   have GE230 := n5_
   have NB227_230 := n6_
   have NB230_227 := n7_
   have NB228_230 := n8_
   have NB230_228 := n9_
   clear n0_ n1_ n2_ n3_ n4_ n5_ n6_ n7_ n8_ n9_
   clear hb hbox hg
   refine hK.out _ _ ⟨(ZbC BK227.out 0).trans rfl, (ZbC BK227.out 1).trans rfl, (ZbC BK227.out 2).trans rfl⟩ (fun hHeld => ?_)
   clear hK K
   refine norm_ (a' := ?_) ?_ ?_
   rotate_left
   ·show Act.put _ (some 5) _ = _
    simp only [Act.put, Zl1, Zl2, Zl3, i64_w, i32_w]
    rfl
   refine one_ (i := 16) (N := none) #[true, true, true, true, true, true, true, true, true, true, true, true, true, true, true, true, true] rfl rfl (one_of HT_.out (by kernel_rfl)) (by decide) (fun K hK => ?_)
   have hs24 : w23.cell? ⟨gb230, 0, none⟩ = some (.int .i64 0) := (ZbC BK230.out 0).trans rfl
   have hfs24 := ZbF BK230.out 0
   have hns24_0 := NB227_230.out
   have hns24_1 := NB228_230.out
   have hms24_0 := NB230_227.out
   have hms24_1 := NB230_228.out
   have hs25 : w23.cell? ⟨gb230, 1, none⟩ = some (.int .i64 0) := (ZbC BK230.out 1).trans rfl
   have hfs25 := ZbF BK230.out 1
   have hns25_0 := NB227_230.out
   have hns25_1 := NB228_230.out
   have hms25_0 := NB230_227.out
   have hms25_1 := NB230_228.out
   have hs26 : w23.cell? ⟨gb230, 2, none⟩ = some (.slice none 0 0) := (ZbC BK230.out 2).trans rfl
   have hfs26 := ZbF BK230.out 2
   have hns26_0 := NB227_230.out
   have hns26_1 := NB228_230.out
   have hms26_0 := NB230_227.out
   have hms26_1 := NB230_228.out
   refine skip_ (w1 := ?_) (by rfl) rfl ?_ ?_
   rotate_left
   ·go_simp
    rfl
   refine hK.out _ _ ⟨((cell_far (p := ⟨gb230, _, none⟩) NB227_230.out _).trans (((cell_far (p := ⟨gb230, _, none⟩) NB227_230.out _).trans (((cell_far (p := ⟨gb230, _, none⟩) NB227_230.out _).trans (hHeld.1)))))), ((cell_far (p := ⟨gb230, _, none⟩) NB227_230.out _).trans (((cell_far (p := ⟨gb230, _, none⟩) NB227_230.out _).trans (((cell_far (p := ⟨gb230, _, none⟩) NB227_230.out _).trans (hHeld.2.1)))))), ((cell_far (p := ⟨gb230, _, none⟩) NB227_230.out _).trans (((cell_far (p := ⟨gb230, _, none⟩) NB227_230.out _).trans (((cell_far (p := ⟨gb230, _, none⟩) NB227_230.out _).trans (hHeld.2.2))))))⟩ (fun hHeld => ?_)
   clear hK K
   refine done_ (done_of HT_.out (by kernel_rfl)) ?_
   have hnb27 := NB230_227.out
   have hnc27 := NB227_230.out
   have hnb28 := NB230_228.out
   have hnc28 := NB228_230.out
   have hcz29_0 : w23.cell? ⟨gb230, 0, none⟩ = some (.int .i64 0) := (ZbC BK230.out 0).trans rfl
   have hcz29_1 : w23.cell? ⟨gb230, 1, none⟩ = some (.int .i64 0) := (ZbC BK230.out 1).trans rfl
   have hcz29_2 : w23.cell? ⟨gb230, 2, none⟩ = some (.slice none 0 0) := (ZbC BK230.out 2).trans rfl
   have hfz29_0 := ZbF BK230.out 0
   have hfz29_1 := ZbF BK230.out 1
   have hfz29_2 := ZbF BK230.out 2
   try go_wp2
   go_loopg [41] kj2 (fun kq v41 w' => ∃ (x41_2 : Int) (x231002_2 : List Int) (u231002 : Value), v41 = .int .i64 x41_2 ∧ Aside0 (impl_Shrink.l0 kq a1 (wrap64 (Int.tdiv (wrap64 ((wrap64 (a0_1 + a1)) - 1)) a1)) x41_2 a0_0 a0_1 l0_2 (wrap64 (Int.tdiv (wrap64 ((wrap64 (a0_0 + a1)) - 1)) a1)) (wrap64 (Int.tdiv (wrap64 ((wrap64 (a0_1 + a1)) - 1)) a1)) x231002_2 = some (r1, r2, r3)) ∧ Aside0 (kq ≤ kj2) ∧ Aside0 (Kd.R (Kd.int .i64) 3 w' w.heap.size (fun _ => True) u231002 x231002_2) ∧ Aside0 (w'.heap[gb227]? = some (.cells #[.int .i64 a0_0, .int .i64 a0_1, (.slice A0_2 l0_2.length c0_2)] 82 (0, 0))) ∧ Aside0 (w'.heap[gb228]? = some (.cells #[.int .i64 0, .int .i64 0, (.slice none 0 0)] 82 (0, 0))) ∧ Aside0 (w'.heap[gb230]? = some (.cells #[.int .i64 (wrap64 (Int.tdiv (wrap64 ((wrap64 (a0_0 + a1)) - 1)) a1)), .int .i64 (wrap64 (Int.tdiv (wrap64 ((wrap64 (a0_1 + a1)) - 1)) a1)), u231002] 82 (0, 0))) ∧ Aside0 (Below w.heap.size w w'))
   case atStart => exact ⟨(0), (([] : List Int)), (.slice none 0 0), (by first | rfl | (simp; done) | (simp [*]; done)), H', ⟨Nat.le_refl _⟩, ⟨by first | exact Kd.R_nil _ _ _ _ _ | exact Kd.N_nil _ _ _ _ _ | exact Kd.V_nil _ _ _ _ _ | exact Kd.Q_nil _ _ _ _ _ | exact Kd.S_nil _ _ _ _ _⟩, ⟨by (with_reducible repeat (first | refine ZbW ?_ _ | refine ZbD ?_ | refine ZbA ?_ _)); refine blk_far ?_ NB227_230.out _; (with_reducible repeat (first | refine ZbW ?_ _ | refine ZbD ?_ | refine ZbA ?_ _)); refine blk_far ?_ NB227_230.out _; (with_reducible repeat (first | refine ZbW ?_ _ | refine ZbD ?_ | refine ZbA ?_ _)); refine blk_far ?_ NB227_230.out _; (with_reducible repeat (first | refine ZbW ?_ _ | refine ZbD ?_ | refine ZbA ?_ _)); exact BK227.out⟩, ⟨by (with_reducible repeat (first | refine ZbW ?_ _ | refine ZbD ?_ | refine ZbA ?_ _)); refine blk_far ?_ NB228_230.out _; (with_reducible repeat (first | refine ZbW ?_ _ | refine ZbD ?_ | refine ZbA ?_ _)); refine blk_far ?_ NB228_230.out _; (with_reducible repeat (first | refine ZbW ?_ _ | refine ZbD ?_ | refine ZbA ?_ _)); refine blk_far ?_ NB228_230.out _; (with_reducible repeat (first | refine ZbW ?_ _ | refine ZbD ?_ | refine ZbA ?_ _)); exact BK228.out⟩, ⟨by (with_reducible repeat (first | refine ZbW ?_ _ | refine ZbD ?_ | refine ZbA ?_ _)); refine blk_put (cs := #[.int .i64 (wrap64 (Int.tdiv (wrap64 ((wrap64 (a0_0 + a1)) - 1)) a1)), .int .i64 (wrap64 (Int.tdiv (wrap64 ((wrap64 (a0_1 + a1)) - 1)) a1)), .slice none 0 0]) ?_ 2 _ rfl; (with_reducible repeat (first | refine ZbW ?_ _ | refine ZbD ?_ | refine ZbA ?_ _)); refine blk_put (cs := #[.int .i64 (wrap64 (Int.tdiv (wrap64 ((wrap64 (a0_0 + a1)) - 1)) a1)), .int .i64 0, .slice none 0 0]) ?_ 1 _ rfl; (with_reducible repeat (first | refine ZbW ?_ _ | refine ZbD ?_ | refine ZbA ?_ _)); refine blk_put (cs := #[.int .i64 0, .int .i64 0, .slice none 0 0]) ?_ 0 _ rfl; (with_reducible repeat (first | refine ZbW ?_ _ | refine ZbD ?_ | refine ZbA ?_ _)); exact BK230.out⟩, ⟨by repeat (first | (with_reducible first | exact HB.out | apply ZhA | apply ZhW | apply ZhD | refine ZhS ?_ GE227.out | refine ZhS ?_ GE228.out | refine ZhS ?_ GE230.out) | exact HB.out)⟩⟩
   case round =>
    clear H'
    try clear c1
    try clear c2
    try clear p2
    try clear c5
    try clear p6
    try clear c7
    try clear c8
    try clear c8b0
    try clear c8b1
    try clear c9
    try clear c12
    try clear c13
    try clear c15
    try clear c18
    try clear c19
    try clear c21
    try clear c21b0
    try clear c21b1
    try clear c27
    try clear c28
    try clear hcz10_0
    try clear hcz10_1
    try clear hcz10_2
    try clear hcz13_0
    try clear hcz13_1
    try clear hcz13_2
    try clear hcz16_0
    try clear hcz16_1
    try clear hcz16_2
    try clear hcz20_0
    try clear hcz20_1
    try clear hcz20_2
    try clear hcz29_0
    try clear hcz29_1
    try clear hcz29_2
    try clear hfz10_0
    try clear hfz10_1
    try clear hfz10_2
    try clear hfz13_0
    try clear hfz13_1
    try clear hfz13_2
    try clear hfz16_0
    try clear hfz16_1
    try clear hfz16_2
    try clear hfz20_0
    try clear hfz20_1
    try clear hfz20_2
    try clear hfz29_0
    try clear hfz29_1
    try clear hfz29_2
    try clear p2
    obtain ⟨x41_2, x231002_2, u231002, rfl, HA, HK2, HO_231002, BK227, BK228, BK230, HB⟩ := hrel
    cases gk with
    | zero => exact absurd HA.out (by simp [impl_Shrink.l0])
    | succ k2 =>
     have H := HA.out
     clear HA
     simp only [impl_Shrink.l0] at H
     by_cases c30 : x41_2 < (wrap64 (Int.tdiv (wrap64 ((wrap64 (a0_1 + a1)) - 1)) a1))
     rotate_left
     ·rw [if_neg c30] at H
      have c30b0 : decide (x41_2 < (wrap64 (Int.tdiv (wrap64 ((wrap64 (a0_1 + a1)) - 1)) a1))) = false := decide_eq_false c30
      clear c30
      simp only [Option.some.injEq, Prod.mk.injEq] at H
      obtain ⟨rfl, rfl, rfl⟩ := H
      have hnb60 := NB230_227.out
      have hnc60 := NB227_230.out
      have hnb61 := NB230_228.out
      have hnc61 := NB228_230.out
      have hcz62_0 : wr.cell? ⟨gb230, 0, none⟩ = some (.int .i64 (wrap64 (Int.tdiv (wrap64 ((wrap64 (a0_0 + a1)) - 1)) a1))) := (ZbC BK230.out 0).trans rfl
      have hcz62_1 : wr.cell? ⟨gb230, 1, none⟩ = some (.int .i64 (wrap64 (Int.tdiv (wrap64 ((wrap64 (a0_1 + a1)) - 1)) a1))) := (ZbC BK230.out 1).trans rfl
      have hcz62_2 : wr.cell? ⟨gb230, 2, none⟩ = some (u231002) := (ZbC BK230.out 2).trans rfl
      have hfz62_0 := ZbF BK230.out 0
      have hfz62_1 := ZbF BK230.out 1
      have hfz62_2 := ZbF BK230.out 2
      have hnb63 := NB228_227.out
      have hnc63 := NB227_228.out
      have hcz64_0 : wr.cell? ⟨gb228, 0, none⟩ = some (.int .i64 0) := (ZbC BK228.out 0).trans rfl
      have hcz64_1 : wr.cell? ⟨gb228, 1, none⟩ = some (.int .i64 0) := (ZbC BK228.out 1).trans rfl
      have hcz64_2 : wr.cell? ⟨gb228, 2, none⟩ = some (.slice none 0 0) := (ZbC BK228.out 2).trans rfl
      have hfz64_0 := ZbF BK228.out 0
      have hfz64_1 := ZbF BK228.out 1
      have hfz64_2 := ZbF BK228.out 2
      obtain ⟨Ao65, co65, eo65⟩ := Kd.R_slice HO_231002.out
      subst eo65
      go_wp2
      refine bodyPost_ret (results_cell_row rfl _ _ gb228 82 #[.int .i64 (wrap64 (Int.tdiv (wrap64 ((wrap64 (a0_0 + a1)) - 1)) a1)), .int .i64 (wrap64 (Int.tdiv (wrap64 ((wrap64 (a0_1 + a1)) - 1)) a1)), .slice Ao65 x231002_2.length co65] (0, 0) _ rfl (set3_blk BK228.out) Try.underlying82 rfl (by kernel_rfl)) rfl ?_
      exact ⟨_, by first | rfl | (simp [*, errW_none, errW_some] <;> rfl), by (with_reducible repeat (first | apply ZrA | apply ZrW | apply ZrD)); exact Kd.R_mono (set3_R (Kd.R_types HO_231002.out BK228.out (by decide)) (fun _ hk => hk.2)) (fun _ hk => trivial), by repeat (first | (with_reducible first | exact HB.out | apply ZhA | apply ZhW | apply ZhD | refine ZhS ?_ GE227.out | refine ZhS ?_ GE228.out | refine ZhS ?_ GE230.out) | exact HB.out)⟩
     rw [if_pos c30] at H
     have c30b0 : decide (x41_2 < (wrap64 (Int.tdiv (wrap64 ((wrap64 (a0_1 + a1)) - 1)) a1))) = true := decide_eq_true c30
     clear c30
     have H' := Zam H
     clear H
     have hnb31 := NB230_227.out
     have hnc31 := NB227_230.out
     have hnb32 := NB230_228.out
     have hnc32 := NB228_230.out
     have hcz33_0 : wr.cell? ⟨gb230, 0, none⟩ = some (.int .i64 (wrap64 (Int.tdiv (wrap64 ((wrap64 (a0_0 + a1)) - 1)) a1))) := (ZbC BK230.out 0).trans rfl
     have hcz33_1 : wr.cell? ⟨gb230, 1, none⟩ = some (.int .i64 (wrap64 (Int.tdiv (wrap64 ((wrap64 (a0_1 + a1)) - 1)) a1))) := (ZbC BK230.out 1).trans rfl
     have hcz33_2 : wr.cell? ⟨gb230, 2, none⟩ = some (u231002) := (ZbC BK230.out 2).trans rfl
     have hfz33_0 := ZbF BK230.out 0
     have hfz33_1 := ZbF BK230.out 1
     have hfz33_2 := ZbF BK230.out 2
     go_wp2
     go_loopg [46] k2 (fun kq v46 w' => ∃ (x46_3 : Int) (x231002_3 : List Int) (u231002 : Value), v46 = .int .i64 x46_3 ∧ Aside0 (impl_Shrink.l1 kq a1 x41_2 (wrap64 (Int.tdiv (wrap64 ((wrap64 (a0_1 + a1)) - 1)) a1)) x41_2 (wrap64 (Int.tdiv (wrap64 ((wrap64 (a0_0 + a1)) - 1)) a1)) x46_3 a0_0 a0_1 l0_2 (wrap64 (Int.tdiv (wrap64 ((wrap64 (a0_0 + a1)) - 1)) a1)) (wrap64 (Int.tdiv (wrap64 ((wrap64 (a0_1 + a1)) - 1)) a1)) x231002_3 = some (r1, r2, r3)) ∧ Aside0 (kq ≤ k2) ∧ Aside0 (Kd.R (Kd.int .i64) 3 w' w.heap.size (fun _ => True) u231002 x231002_3) ∧ Aside0 (w'.heap[gb227]? = some (.cells #[.int .i64 a0_0, .int .i64 a0_1, (.slice A0_2 l0_2.length c0_2)] 82 (0, 0))) ∧ Aside0 (w'.heap[gb228]? = some (.cells #[.int .i64 0, .int .i64 0, (.slice none 0 0)] 82 (0, 0))) ∧ Aside0 (w'.heap[gb230]? = some (.cells #[.int .i64 (wrap64 (Int.tdiv (wrap64 ((wrap64 (a0_0 + a1)) - 1)) a1)), .int .i64 (wrap64 (Int.tdiv (wrap64 ((wrap64 (a0_1 + a1)) - 1)) a1)), u231002] 82 (0, 0))) ∧ Aside0 (Below w.heap.size w w'))
     case atStart => exact ⟨(0), (x231002_2), (u231002), (by first | rfl | (simp; done) | (simp [*]; done)), H', ⟨Nat.le_refl _⟩, ⟨by (with_reducible repeat (first | apply ZrA | apply ZrW | apply ZrD)); exact HO_231002.out⟩, ⟨by (with_reducible repeat (first | refine ZbW ?_ _ | refine ZbD ?_ | refine ZbA ?_ _)); exact BK227.out⟩, ⟨by (with_reducible repeat (first | refine ZbW ?_ _ | refine ZbD ?_ | refine ZbA ?_ _)); exact BK228.out⟩, ⟨by (with_reducible repeat (first | refine ZbW ?_ _ | refine ZbD ?_ | refine ZbA ?_ _)); exact BK230.out⟩, ⟨by repeat (first | (with_reducible first | exact HB.out | apply ZhA | apply ZhW | apply ZhD | refine ZhS ?_ GE227.out | refine ZhS ?_ GE228.out | refine ZhS ?_ GE230.out) | exact HB.out)⟩⟩
     case round =>
      clear H'
      try clear c1
      try clear c2
      try clear p2
      try clear c3
      try clear c5
      try clear p6
      try clear c7
      try clear c8
      try clear c8b0
      try clear c8b1
      try clear c9
      try clear c12
      try clear c13
      try clear c15
      try clear c18
      try clear c19
      try clear c21
      try clear c21b0
      try clear c21b1
      try clear c27
      try clear c28
      try clear c30
      try clear c30b0
      try clear c31
      try clear c32
      try clear hcz10_0
      try clear hcz10_1
      try clear hcz10_2
      try clear hcz13_0
      try clear hcz13_1
      try clear hcz13_2
      try clear hcz16_0
      try clear hcz16_1
      try clear hcz16_2
      try clear hcz20_0
      try clear hcz20_1
      try clear hcz20_2
      try clear hcz29_0
      try clear hcz29_1
      try clear hcz29_2
      try clear hcz33_0
      try clear hcz33_1
      try clear hcz33_2
      try clear hfz10_0
      try clear hfz10_1
      try clear hfz10_2
      try clear hfz13_0
      try clear hfz13_1
      try clear hfz13_2
      try clear hfz16_0
      try clear hfz16_1
      try clear hfz16_2
      try clear hfz20_0
      try clear hfz20_1
      try clear hfz20_2
      try clear hfz29_0
      try clear hfz29_1
      try clear hfz29_2
      try clear hfz33_0
      try clear hfz33_1
      try clear hfz33_2
      try clear p2
      try clear p6
      obtain ⟨x46_3, x231002_3, u231002, rfl, HA, HK3, HO_231002, BK227, BK228, BK230, HB⟩ := hrel
      cases gk with
      | zero => exact absurd HA.out (by simp [impl_Shrink.l1])
      | succ k3 =>
       have H := HA.out
       clear HA
       simp only [impl_Shrink.l1] at H
       by_cases c34 : x46_3 < (wrap64 (Int.tdiv (wrap64 ((wrap64 (a0_0 + a1)) - 1)) a1))
       rotate_left
       ·rw [if_neg c34] at H
        have c34b0 : decide (x46_3 < (wrap64 (Int.tdiv (wrap64 ((wrap64 (a0_0 + a1)) - 1)) a1))) = false := decide_eq_false c34
        clear c34
        have H' := Zam H
        clear H
        go_wp2
        go_roundg k3
        case measure => have := HJ2.out; have := HK2.out; have := HK3.out; omega
        case rel => exact ⟨(wrap64 (x41_2 + 1)), (x231002_3), (u231002), (by first | rfl | (simp; done) | (simp [*]; done)), H', ⟨by have := HJ2.out; have := HK2.out; have := HK3.out; omega⟩, ⟨by (with_reducible repeat (first | apply ZrA | apply ZrW | apply ZrD)); exact HO_231002.out⟩, ⟨by (with_reducible repeat (first | refine ZbW ?_ _ | refine ZbD ?_ | refine ZbA ?_ _)); exact BK227.out⟩, ⟨by (with_reducible repeat (first | refine ZbW ?_ _ | refine ZbD ?_ | refine ZbA ?_ _)); exact BK228.out⟩, ⟨by (with_reducible repeat (first | refine ZbW ?_ _ | refine ZbD ?_ | refine ZbA ?_ _)); exact BK230.out⟩, ⟨by repeat (first | (with_reducible first | exact HB.out | apply ZhA | apply ZhW | apply ZhD | refine ZhS ?_ GE227.out | refine ZhS ?_ GE228.out | refine ZhS ?_ GE230.out) | exact HB.out)⟩⟩
       rw [if_pos c34] at H
       have c34b0 : decide (x46_3 < (wrap64 (Int.tdiv (wrap64 ((wrap64 (a0_0 + a1)) - 1)) a1))) = true := decide_eq_true c34
       clear c34
       have H' := Zam H
       clear H
       go_wp2
       go_loopg [8, 9, 10] k3 (fun kq v8 v9 v10 w' => ∃ (x8_4 : Int) (x9_4 : Int) (x10_4 : Int), v8 = .int .i64 x8_4 ∧ v9 = .int .i64 x9_4 ∧ v10 = .int .i64 x10_4 ∧ Aside0 (impl_Shrink.l2 kq a1 x41_2 x46_3 x8_4 x9_4 x10_4 (wrap64 (Int.tdiv (wrap64 ((wrap64 (a0_1 + a1)) - 1)) a1)) x41_2 (wrap64 (Int.tdiv (wrap64 ((wrap64 (a0_0 + a1)) - 1)) a1)) x46_3 a0_0 a0_1 l0_2 (wrap64 (Int.tdiv (wrap64 ((wrap64 (a0_0 + a1)) - 1)) a1)) (wrap64 (Int.tdiv (wrap64 ((wrap64 (a0_1 + a1)) - 1)) a1)) x231002_3 = some (r1, r2, r3)) ∧ Aside0 (kq ≤ k3) ∧ Aside0 (Kd.R (Kd.int .i64) 3 w' w.heap.size (fun _ => True) u231002 x231002_3) ∧ Aside0 (w'.heap[gb227]? = some (.cells #[.int .i64 a0_0, .int .i64 a0_1, (.slice A0_2 l0_2.length c0_2)] 82 (0, 0))) ∧ Aside0 (w'.heap[gb228]? = some (.cells #[.int .i64 0, .int .i64 0, (.slice none 0 0)] 82 (0, 0))) ∧ Aside0 (w'.heap[gb230]? = some (.cells #[.int .i64 (wrap64 (Int.tdiv (wrap64 ((wrap64 (a0_0 + a1)) - 1)) a1)), .int .i64 (wrap64 (Int.tdiv (wrap64 ((wrap64 (a0_1 + a1)) - 1)) a1)), u231002] 82 (0, 0))) ∧ Aside0 (Below w.heap.size w w'))
       case atStart => exact ⟨(0), (0), (wrap64 (x41_2 * a1)), (by first | rfl | (simp; done) | (simp [*]; done)), (by first | rfl | (simp; done) | (simp [*]; done)), (by first | rfl | (simp; done) | (simp [*]; done)), H', ⟨Nat.le_refl _⟩, ⟨by (with_reducible repeat (first | apply ZrA | apply ZrW | apply ZrD)); exact HO_231002.out⟩, ⟨by (with_reducible repeat (first | refine ZbW ?_ _ | refine ZbD ?_ | refine ZbA ?_ _)); exact BK227.out⟩, ⟨by (with_reducible repeat (first | refine ZbW ?_ _ | refine ZbD ?_ | refine ZbA ?_ _)); exact BK228.out⟩, ⟨by (with_reducible repeat (first | refine ZbW ?_ _ | refine ZbD ?_ | refine ZbA ?_ _)); exact BK230.out⟩, ⟨by repeat (first | (with_reducible first | exact HB.out | apply ZhA | apply ZhW | apply ZhD | refine ZhS ?_ GE227.out | refine ZhS ?_ GE228.out | refine ZhS ?_ GE230.out) | exact HB.out)⟩⟩
       case round =>
        clear H'
        try clear c1
        try clear c2
        try clear p2
        try clear c3
        try clear c5
        try clear p6
        try clear c7
        try clear c8
        try clear c8b0
        try clear c8b1
        try clear c9
        try clear c12
        try clear c13
        try clear c15
        try clear c18
        try clear c19
        try clear c21
        try clear c21b0
        try clear c21b1
        try clear c27
        try clear c28
        try clear c30
        try clear c30b0
        try clear c31
        try clear c32
        try clear c34
        try clear c34b0
        try clear hcz10_0
        try clear hcz10_1
        try clear hcz10_2
        try clear hcz13_0
        try clear hcz13_1
        try clear hcz13_2
        try clear hcz16_0
        try clear hcz16_1
        try clear hcz16_2
        try clear hcz20_0
        try clear hcz20_1
        try clear hcz20_2
        try clear hcz29_0
        try clear hcz29_1
        try clear hcz29_2
        try clear hcz33_0
        try clear hcz33_1
        try clear hcz33_2
        try clear hfz10_0
        try clear hfz10_1
        try clear hfz10_2
        try clear hfz13_0
        try clear hfz13_1
        try clear hfz13_2
        try clear hfz16_0
        try clear hfz16_1
        try clear hfz16_2
        try clear hfz20_0
        try clear hfz20_1
        try clear hfz20_2
        try clear hfz29_0
        try clear hfz29_1
        try clear hfz29_2
        try clear hfz33_0
        try clear hfz33_1
        try clear hfz33_2
        try clear p2
        try clear p6
        obtain ⟨x8_4, x9_4, x10_4, rfl, rfl, rfl, HA, HK4, HO_231002, BK227, BK228, BK230, HB⟩ := hrel
        cases gk with
        | zero => exact absurd HA.out (by simp [impl_Shrink.l2])
        | succ k4 =>
         have H := HA.out
         clear HA
         simp only [impl_Shrink.l2] at H
         obtain ⟨ji35, hji35⟩ : ∃ j_ : Int, (mn a0_1 (wrap64 ((wrap64 (x41_2 + 1)) * a1))) = j_ := ⟨_, rfl⟩
         replace H : (if x10_4 < (ji35) then (impl_Shrink.l3 k4 a1 x41_2 x46_3 x8_4 x9_4 x10_4 (wrap64 (x46_3 * a1)) (wrap64 (Int.tdiv (wrap64 ((wrap64 (a0_1 + a1)) - 1)) a1)) x41_2 (wrap64 (Int.tdiv (wrap64 ((wrap64 (a0_0 + a1)) - 1)) a1)) x46_3 a0_0 a0_1 l0_2 (wrap64 (Int.tdiv (wrap64 ((wrap64 (a0_0 + a1)) - 1)) a1)) (wrap64 (Int.tdiv (wrap64 ((wrap64 (a0_1 + a1)) - 1)) a1)) x231002_3) else (if x9_4 = 0 then (none) else (if x231002_3.length < 17592186044416 then (impl_Shrink.l1 k4 a1 x41_2 (wrap64 (Int.tdiv (wrap64 ((wrap64 (a0_1 + a1)) - 1)) a1)) x41_2 (wrap64 (Int.tdiv (wrap64 ((wrap64 (a0_0 + a1)) - 1)) a1)) (wrap64 (x46_3 + 1)) a0_0 a0_1 l0_2 (wrap64 (Int.tdiv (wrap64 ((wrap64 (a0_0 + a1)) - 1)) a1)) (wrap64 (Int.tdiv (wrap64 ((wrap64 (a0_1 + a1)) - 1)) a1)) (x231002_3 ++ [wrap64 (Int.tdiv (wrap64 (x8_4 + (wrap64 (Int.tdiv x9_4 2)))) x9_4)])) else (none)))) = some (r1, r2, r3) := by first | (rw [hji35] at H; exact H) | (simp only [hji35] at H ⊢; exact H)
         have hji35_ : (if (wrap64 ((wrap64 (x41_2 + 1)) * a1)) < a0_1 then (wrap64 ((wrap64 (x41_2 + 1)) * a1)) else a0_1) = ji35 := hji35
         by_cases c36 : x10_4 < (ji35)
         ·rw [if_pos c36] at H
          have c36b0 : decide (x10_4 < (ji35)) = true := decide_eq_true c36
          clear c36
          have H' := Zam H
          clear H
          have hnb37 := NB227_228.out
          have hnc37 := NB228_227.out
          have hnb38 := NB227_230.out
          have hnc38 := NB230_227.out
          have hcz39_0 : wr.cell? ⟨gb227, 0, none⟩ = some (.int .i64 a0_0) := (ZbC BK227.out 0).trans rfl
          have hcz39_1 : wr.cell? ⟨gb227, 1, none⟩ = some (.int .i64 a0_1) := (ZbC BK227.out 1).trans rfl
          have hcz39_2 : wr.cell? ⟨gb227, 2, none⟩ = some (.slice A0_2 l0_2.length c0_2) := (ZbC BK227.out 2).trans rfl
          have hfz39_0 := ZbF BK227.out 0
          have hfz39_1 := ZbF BK227.out 1
          have hfz39_2 := ZbF BK227.out 2
          go_wp2
          go_loopg [8, 9, 11] k4 (fun kq v8 v9 v11 w' => ∃ (x8_5 : Int) (x9_5 : Int) (x11_5 : Int), v8 = .int .i64 x8_5 ∧ v9 = .int .i64 x9_5 ∧ v11 = .int .i64 x11_5 ∧ Aside0 (impl_Shrink.l3 kq a1 x41_2 x46_3 x8_5 x9_5 x10_4 x11_5 (wrap64 (Int.tdiv (wrap64 ((wrap64 (a0_1 + a1)) - 1)) a1)) x41_2 (wrap64 (Int.tdiv (wrap64 ((wrap64 (a0_0 + a1)) - 1)) a1)) x46_3 a0_0 a0_1 l0_2 (wrap64 (Int.tdiv (wrap64 ((wrap64 (a0_0 + a1)) - 1)) a1)) (wrap64 (Int.tdiv (wrap64 ((wrap64 (a0_1 + a1)) - 1)) a1)) x231002_3 = some (r1, r2, r3)) ∧ Aside0 (kq ≤ k4) ∧ Aside0 (Kd.R (Kd.int .i64) 3 w' w.heap.size (fun _ => True) u231002 x231002_3) ∧ Aside0 (w'.heap[gb227]? = some (.cells #[.int .i64 a0_0, .int .i64 a0_1, (.slice A0_2 l0_2.length c0_2)] 82 (0, 0))) ∧ Aside0 (w'.heap[gb228]? = some (.cells #[.int .i64 0, .int .i64 0, (.slice none 0 0)] 82 (0, 0))) ∧ Aside0 (w'.heap[gb230]? = some (.cells #[.int .i64 (wrap64 (Int.tdiv (wrap64 ((wrap64 (a0_0 + a1)) - 1)) a1)), .int .i64 (wrap64 (Int.tdiv (wrap64 ((wrap64 (a0_1 + a1)) - 1)) a1)), u231002] 82 (0, 0))) ∧ Aside0 (Below w.heap.size w w'))
          case atStart => exact ⟨(x8_4), (x9_4), (wrap64 (x46_3 * a1)), (by first | rfl | (simp; done) | (simp [*]; done)), (by first | rfl | (simp; done) | (simp [*]; done)), (by first | rfl | (simp; done) | (simp [*]; done)), H', ⟨Nat.le_refl _⟩, ⟨by (with_reducible repeat (first | apply ZrA | apply ZrW | apply ZrD)); exact HO_231002.out⟩, ⟨by (with_reducible repeat (first | refine ZbW ?_ _ | refine ZbD ?_ | refine ZbA ?_ _)); exact BK227.out⟩, ⟨by (with_reducible repeat (first | refine ZbW ?_ _ | refine ZbD ?_ | refine ZbA ?_ _)); exact BK228.out⟩, ⟨by (with_reducible repeat (first | refine ZbW ?_ _ | refine ZbD ?_ | refine ZbA ?_ _)); exact BK230.out⟩, ⟨by repeat (first | (with_reducible first | exact HB.out | apply ZhA | apply ZhW | apply ZhD | refine ZhS ?_ GE227.out | refine ZhS ?_ GE228.out | refine ZhS ?_ GE230.out) | exact HB.out)⟩⟩
          case round =>
           clear H'
           try clear c1
           try clear c2
           try clear p2
           try clear c3
           try clear c5
           try clear p6
           try clear c7
           try clear c8
           try clear c8b0
           try clear c8b1
           try clear c9
           try clear c12
           try clear c13
           try clear c15
           try clear c18
           try clear c19
           try clear c21
           try clear c21b0
           try clear c21b1
           try clear c27
           try clear c28
           try clear c30
           try clear c30b0
           try clear c31
           try clear c32
           try clear c34
           try clear c34b0
           try clear c36
           try clear c36b0
           try clear c37
           try clear c38
           try clear hcz10_0
           try clear hcz10_1
           try clear hcz10_2
           try clear hcz13_0
           try clear hcz13_1
           try clear hcz13_2
           try clear hcz16_0
           try clear hcz16_1
           try clear hcz16_2
           try clear hcz20_0
           try clear hcz20_1
           try clear hcz20_2
           try clear hcz29_0
           try clear hcz29_1
           try clear hcz29_2
           try clear hcz33_0
           try clear hcz33_1
           try clear hcz33_2
           try clear hcz39_0
           try clear hcz39_1
           try clear hcz39_2
           try clear hfz10_0
           try clear hfz10_1
           try clear hfz10_2
           try clear hfz13_0
           try clear hfz13_1
           try clear hfz13_2
           try clear hfz16_0
           try clear hfz16_1
           try clear hfz16_2
           try clear hfz20_0
           try clear hfz20_1
           try clear hfz20_2
           try clear hfz29_0
           try clear hfz29_1
           try clear hfz29_2
           try clear hfz33_0
           try clear hfz33_1
           try clear hfz33_2
           try clear hfz39_0
           try clear hfz39_1
           try clear hfz39_2
           try clear p2
           try clear p6
           obtain ⟨x8_5, x9_5, x11_5, rfl, rfl, rfl, HA, HK5, HO_231002, BK227, BK228, BK230, HB⟩ := hrel
           cases gk with
           | zero => exact absurd HA.out (by simp [impl_Shrink.l3])
           | succ k5 =>
            have H := HA.out
            clear HA
            simp only [impl_Shrink.l3] at H
            obtain ⟨ji40, hji40⟩ : ∃ j_ : Int, (mn a0_0 (wrap64 ((wrap64 (x46_3 + 1)) * a1))) = j_ := ⟨_, rfl⟩
            replace H : (if x11_5 < (ji40) then (if 0 ≤ (wrap64 ((wrap64 (x10_4 * a0_0)) + x11_5)) then (if (wrap64 ((wrap64 (x10_4 * a0_0)) + x11_5)) < (l0_2.length : Int) then (impl_Shrink.l3 k5 a1 x41_2 x46_3 (wrap64 (x8_5 + (rd l0_2 (wrap64 ((wrap64 (x10_4 * a0_0)) + x11_5))))) (wrap64 (x9_5 + 1)) x10_4 (wrap64 (x11_5 + 1)) (wrap64 (Int.tdiv (wrap64 ((wrap64 (a0_1 + a1)) - 1)) a1)) x41_2 (wrap64 (Int.tdiv (wrap64 ((wrap64 (a0_0 + a1)) - 1)) a1)) x46_3 a0_0 a0_1 l0_2 (wrap64 (Int.tdiv (wrap64 ((wrap64 (a0_0 + a1)) - 1)) a1)) (wrap64 (Int.tdiv (wrap64 ((wrap64 (a0_1 + a1)) - 1)) a1)) x231002_3) else (none)) else (none)) else (impl_Shrink.l2 k5 a1 x41_2 x46_3 x8_5 x9_5 (wrap64 (x10_4 + 1)) (wrap64 (Int.tdiv (wrap64 ((wrap64 (a0_1 + a1)) - 1)) a1)) x41_2 (wrap64 (Int.tdiv (wrap64 ((wrap64 (a0_0 + a1)) - 1)) a1)) x46_3 a0_0 a0_1 l0_2 (wrap64 (Int.tdiv (wrap64 ((wrap64 (a0_0 + a1)) - 1)) a1)) (wrap64 (Int.tdiv (wrap64 ((wrap64 (a0_1 + a1)) - 1)) a1)) x231002_3)) = some (r1, r2, r3) := by first | (rw [hji40] at H; exact H) | (simp only [hji40] at H ⊢; exact H)
            have hji40_ : (if (wrap64 ((wrap64 (x46_3 + 1)) * a1)) < a0_0 then (wrap64 ((wrap64 (x46_3 + 1)) * a1)) else a0_0) = ji40 := hji40
            by_cases c41 : x11_5 < (ji40)
            rotate_left
            ·rw [if_neg c41] at H
             have c41b0 : decide (x11_5 < (ji40)) = false := decide_eq_false c41
             clear c41
             have H' := Zam H
             clear H
             have hnb48 := NB227_228.out
             have hnc48 := NB228_227.out
             have hnb49 := NB227_230.out
             have hnc49 := NB230_227.out
             have hcz50_0 : wr.cell? ⟨gb227, 0, none⟩ = some (.int .i64 a0_0) := (ZbC BK227.out 0).trans rfl
             have hcz50_1 : wr.cell? ⟨gb227, 1, none⟩ = some (.int .i64 a0_1) := (ZbC BK227.out 1).trans rfl
             have hcz50_2 : wr.cell? ⟨gb227, 2, none⟩ = some (.slice A0_2 l0_2.length c0_2) := (ZbC BK227.out 2).trans rfl
             have hfz50_0 := ZbF BK227.out 0
             have hfz50_1 := ZbF BK227.out 1
             have hfz50_2 := ZbF BK227.out 2
             go_wp2
             go_roundg k5
             case measure => have := HJ2.out; have := HK2.out; have := HK3.out; have := HK4.out; have := HK5.out; omega
             case rel => exact ⟨(x8_5), (x9_5), (wrap64 (x10_4 + 1)), (by first | rfl | (simp; done) | (simp [*]; done)), (by first | rfl | (simp; done) | (simp [*]; done)), (by first | rfl | (simp; done) | (simp [*]; done)), H', ⟨by have := HJ2.out; have := HK2.out; have := HK3.out; have := HK4.out; have := HK5.out; omega⟩, ⟨by (with_reducible repeat (first | apply ZrA | apply ZrW | apply ZrD)); exact HO_231002.out⟩, ⟨by (with_reducible repeat (first | refine ZbW ?_ _ | refine ZbD ?_ | refine ZbA ?_ _)); exact BK227.out⟩, ⟨by (with_reducible repeat (first | refine ZbW ?_ _ | refine ZbD ?_ | refine ZbA ?_ _)); exact BK228.out⟩, ⟨by (with_reducible repeat (first | refine ZbW ?_ _ | refine ZbD ?_ | refine ZbA ?_ _)); exact BK230.out⟩, ⟨by repeat (first | (with_reducible first | exact HB.out | apply ZhA | apply ZhW | apply ZhD | refine ZhS ?_ GE227.out | refine ZhS ?_ GE228.out | refine ZhS ?_ GE230.out) | exact HB.out)⟩⟩
            rw [if_pos c41] at H
            have c41b0 : decide (x11_5 < (ji40)) = true := decide_eq_true c41
            clear c41
            obtain ⟨ji42, hji42⟩ : ∃ j_ : Int, (wrap64 ((wrap64 (x10_4 * a0_0)) + x11_5)) = j_ := ⟨_, rfl⟩
            replace H : (if 0 ≤ (ji42) then (if (ji42) < (l0_2.length : Int) then (impl_Shrink.l3 k5 a1 x41_2 x46_3 (wrap64 (x8_5 + (rd l0_2 (ji42)))) (wrap64 (x9_5 + 1)) x10_4 (wrap64 (x11_5 + 1)) (wrap64 (Int.tdiv (wrap64 ((wrap64 (a0_1 + a1)) - 1)) a1)) x41_2 (wrap64 (Int.tdiv (wrap64 ((wrap64 (a0_0 + a1)) - 1)) a1)) x46_3 a0_0 a0_1 l0_2 (wrap64 (Int.tdiv (wrap64 ((wrap64 (a0_0 + a1)) - 1)) a1)) (wrap64 (Int.tdiv (wrap64 ((wrap64 (a0_1 + a1)) - 1)) a1)) x231002_3) else (none)) else (none)) = some (r1, r2, r3) := by first | (rw [hji42] at H; exact H) | (simp only [hji42] at H ⊢; exact H)
            have hji42w : (IntKind.i64.wrap ((wrap64 (x10_4 * a0_0)) + x11_5)) = ji42 := (i64_w _).trans hji42
            by_cases c43 : 0 ≤ (ji42)
            rotate_left
            ·rw [if_neg c43] at H
             exact absurd H (by simp)
            rw [if_pos c43] at H
            have c43b0 : decide (0 ≤ (ji42)) = true := decide_eq_true c43
            clear c43
            by_cases c44 : (ji42) < (l0_2.length : Int)
            rotate_left
            ·rw [if_neg c44] at H
             exact absurd H (by simp)
            rw [if_pos c44] at H
            have c44b0 : decide ((ji42) < (l0_2.length : Int)) = true := decide_eq_true c44
            clear c44
            have H' := Zam H
            clear H
            have hnb45 := NB227_228.out
            have hnc45 := NB228_227.out
            have hnb46 := NB227_230.out
            have hnc46 := NB230_227.out
            have hcz47_0 : wr.cell? ⟨gb227, 0, none⟩ = some (.int .i64 a0_0) := (ZbC BK227.out 0).trans rfl
            have hcz47_1 : wr.cell? ⟨gb227, 1, none⟩ = some (.int .i64 a0_1) := (ZbC BK227.out 1).trans rfl
            have hcz47_2 : wr.cell? ⟨gb227, 2, none⟩ = some (.slice A0_2 l0_2.length c0_2) := (ZbC BK227.out 2).trans rfl
            have hfz47_0 := ZbF BK227.out 0
            have hfz47_1 := ZbF BK227.out 1
            have hfz47_2 := ZbF BK227.out 2
            have p234 : 0 ≤ ((ji42) : Int) := of_decide_eq_true (by first | (with_reducible assumption) | assumption)
            have q234 : (ji42) < (l0_2.length : Int) := of_decide_eq_true (by first | (with_reducible assumption) | assumption)
            obtain ⟨ad234, e234, hx234_0⟩ := Kd.at_int HR0_2.out (ji42) p234 q234
            cases e234
            replace hx234_0 := (HB.out.cell (World.block_lt_of_cell? w _ hx234_0)).trans hx234_0
            replace p234 := eq_true p234
            replace q234 := eq_true q234
            go_wp2
            go_roundg k5
            case measure => have := HJ2.out; have := HK2.out; have := HK3.out; have := HK4.out; have := HK5.out; omega
            case rel => exact ⟨(wrap64 (x8_5 + (rd l0_2 (ji42)))), (wrap64 (x9_5 + 1)), (wrap64 (x11_5 + 1)), (by first | rfl | (simp; done) | (simp only [← hji42] <;> (first | rfl | simp)) | (simp [*]; done)), (by first | rfl | (simp; done) | (simp [*]; done)), (by first | rfl | (simp; done) | (simp [*]; done)), H', ⟨by have := HJ2.out; have := HK2.out; have := HK3.out; have := HK4.out; have := HK5.out; omega⟩, ⟨by (with_reducible repeat (first | apply ZrA | apply ZrW | apply ZrD)); exact HO_231002.out⟩, ⟨by (with_reducible repeat (first | refine ZbW ?_ _ | refine ZbD ?_ | refine ZbA ?_ _)); exact BK227.out⟩, ⟨by (with_reducible repeat (first | refine ZbW ?_ _ | refine ZbD ?_ | refine ZbA ?_ _)); exact BK228.out⟩, ⟨by (with_reducible repeat (first | refine ZbW ?_ _ | refine ZbD ?_ | refine ZbA ?_ _)); exact BK230.out⟩, ⟨by repeat (first | (with_reducible first | exact HB.out | apply ZhA | apply ZhW | apply ZhD | refine ZhS ?_ GE227.out | refine ZhS ?_ GE228.out | refine ZhS ?_ GE230.out) | exact HB.out)⟩⟩
         rw [if_neg c36] at H
         have c36b0 : decide (x10_4 < (ji35)) = false := decide_eq_false c36
         clear c36
         by_cases c51 : x9_4 = 0
         ·rw [if_pos c51] at H
          exact absurd H (by simp)
         rw [if_neg c51] at H
         have c51b0 : (x9_4 == 0) = false := beq_eq_false_iff_ne.mpr c51
         have c51b1 : (x9_4 != 0) = true := bne_iff_ne.mpr c51
         by_cases c52 : x231002_3.length < 17592186044416
         rotate_left
         ·rw [if_neg c52] at H
          exact absurd H (by simp)
         rw [if_pos c52] at H
         have LMc52 := Zam c52
         clear c52
         obtain ⟨y231, hy231⟩ : ∃ y_ : List Int, y_ = (x231002_3 ++ [wrap64 (Int.tdiv (wrap64 (x8_4 + (wrap64 (Int.tdiv x9_4 2)))) x9_4)]) := ⟨_, rfl⟩
         replace H : (impl_Shrink.l1 k4 a1 x41_2 (wrap64 (Int.tdiv (wrap64 ((wrap64 (a0_1 + a1)) - 1)) a1)) x41_2 (wrap64 (Int.tdiv (wrap64 ((wrap64 (a0_0 + a1)) - 1)) a1)) (wrap64 (x46_3 + 1)) a0_0 a0_1 l0_2 (wrap64 (Int.tdiv (wrap64 ((wrap64 (a0_0 + a1)) - 1)) a1)) (wrap64 (Int.tdiv (wrap64 ((wrap64 (a0_1 + a1)) - 1)) a1)) y231) = some (r1, r2, r3) := by first | (rw [hy231]; with_reducible exact H) | (have H2_ := (Option.bind_some _ _).symm.trans H; rw [hy231]; with_reducible exact H2_) | (have H2_ := (Option.bind_some _ _).symm.trans H; with_reducible exact H2_) | with_reducible exact H | (rw [hy231]; exact H) | exact H
         have Ny231 := Zam hy231
         clear hy231
         have H' := Zam H
         clear H
         have hnb53 := NB227_228.out
         have hnc53 := NB228_227.out
         have hnb54 := NB227_230.out
         have hnc54 := NB230_227.out
         have hcz55_0 : wr.cell? ⟨gb227, 0, none⟩ = some (.int .i64 a0_0) := (ZbC BK227.out 0).trans rfl
         have hcz55_1 : wr.cell? ⟨gb227, 1, none⟩ = some (.int .i64 a0_1) := (ZbC BK227.out 1).trans rfl
         have hcz55_2 : wr.cell? ⟨gb227, 2, none⟩ = some (.slice A0_2 l0_2.length c0_2) := (ZbC BK227.out 2).trans rfl
         have hfz55_0 := ZbF BK227.out 0
         have hfz55_1 := ZbF BK227.out 1
         have hfz55_2 := ZbF BK227.out 2
         try go_wp2
         have n0_ := Zam (ZrD HO_231002.out)
         have n1_ := Zam (ZbD BK227.out)
         have n2_ := Zam (ZbD BK228.out)
         have n3_ := Zam (ZbD BK230.out)
         have n4_ := Zam (ZhD HB.out)
         clear HO_231002
         clear BK227
         clear BK228
         clear BK230
         clear HB
         have HO_231002 := n0_
         have BK227 := n1_
         have BK228 := n2_
         have BK230 := n3_
         have HB := n4_
         clear n0_ n1_ n2_ n3_ n4_
         refine start_ (n := 12) (S := fun w' => w'.cell? ⟨gb230, 0, none⟩ = some (.int .i64 (wrap64 (Int.tdiv (wrap64 ((wrap64 (a0_0 + a1)) - 1)) a1))) ∧ w'.cell? ⟨gb230, 1, none⟩ = some (.int .i64 (wrap64 (Int.tdiv (wrap64 ((wrap64 (a0_1 + a1)) - 1)) a1))) ∧ w'.cell? ⟨gb230, 2, none⟩ = some (u231002)) (ds := [11]) #[false, false, false, false, false, false, false, false, false, false, false, false] (by kernel_rfl) rfl rfl ⟨(ZbC BK230.out 0).trans rfl, (ZbC BK230.out 1).trans rfl, (ZbC BK230.out 2).trans rfl⟩ (fun hHeld => ?_); refine with_tabW impl_Shrink.tab19 impl_Shrink.bits19 (fun HT_ HW_ => ?_)
         generalize wr.drew = w56 at HO_231002 BK227 BK228 BK230 HB hHeld ⊢
         refine pure_ (i := 0) (N := some 91) (v := ?_) (a' := ?_) #[true, false, false, false, false, false, false, false, false, false, false, false] rfl rfl (any_of HT_.out (by kernel_rfl)) (fun _ _ _ h => h) (Or.inl ⟨by rfl, ?_⟩) ?_ ?_
         rotate_left
         ·intro w'
          go_simp
          with_reducible rfl
         rotate_left
         ·simp only [Act.put, Zl1, Zl2, Zl3, i64_w, i32_w]
          rfl
         refine pure_ (i := 2) (N := some 93) (v := ?_) (a' := ?_) #[true, false, true, false, false, false, false, false, false, false, false, false] rfl rfl (any_of HT_.out (by kernel_rfl)) (fun _ _ _ h => h) (Or.inl ⟨by rfl, ?_⟩) ?_ ?_
         rotate_left
         ·intro w'
          go_simp
          with_reducible rfl
         rotate_left
         ·simp only [Act.put, Zl1, Zl2, Zl3, i64_w, i32_w]
          rfl
         refine pure_ (i := 3) (N := some 94) (v := ?_) (a' := ?_) #[true, false, true, true, false, false, false, false, false, false, false, false] rfl rfl (any_of HT_.out (by kernel_rfl)) (fun _ _ _ h => h) (Or.inl ⟨by rfl, ?_⟩) ?_ ?_
         rotate_left
         ·intro w'
          go_simp
          with_reducible rfl
         rotate_left
         ·simp only [Act.put, Zl1, Zl2, Zl3, i64_w, i32_w]
          rfl
         refine pure_ (i := 4) (N := some 95) (v := ?_) (a' := ?_) #[true, false, true, true, true, false, false, false, false, false, false, false] rfl rfl (any_of HT_.out (by kernel_rfl)) (fun _ _ _ h => h) (Or.inl ⟨by rfl, ?_⟩) ?_ ?_
         rotate_left
         ·intro w'
          go_simp
          with_reducible rfl
         rotate_left
         ·simp only [Act.put, Zl1, Zl2, Zl3, i64_w, i32_w]
          rfl
         refine pure_ (i := 5) (N := some 96) (v := ?_) (a' := ?_) #[true, false, true, true, true, true, false, false, false, false, false, false] rfl rfl (any_of HT_.out (by kernel_rfl)) (fun _ _ _ h => h) (Or.inl ⟨by rfl, ?_⟩) ?_ ?_
         rotate_left
         ·intro w'
          go_simp
          with_reducible rfl
         rotate_left
         ·simp only [Act.put, Zl1, Zl2, Zl3, i64_w, i32_w]
          rfl
         refine pure_ (i := 6) (N := some 97) (v := ?_) (a' := ?_) #[true, false, true, true, true, true, true, false, false, false, false, false] rfl rfl (any_of HT_.out (by kernel_rfl)) (fun _ _ _ h => h) (Or.inl ⟨by rfl, ?_⟩) ?_ ?_
         rotate_left
         ·intro w'
          go_simp
          with_reducible rfl
         rotate_left
         ·simp only [Act.put, Zl1, Zl2, Zl3, i64_w, i32_w]
          rfl
         refine pure_ (i := 7) (N := some 98) (v := ?_) (a' := ?_) #[true, false, true, true, true, true, true, true, false, false, false, false] rfl rfl (any_of HT_.out (by kernel_rfl)) (fun _ _ _ h => h) (Or.inl ⟨by rfl, ?_⟩) ?_ ?_
         rotate_left
         ·intro w'
          go_simp
          with_reducible rfl
         rotate_left
         ·simp only [Act.put, Zl1, Zl2, Zl3, i64_w, i32_w]
          rfl
         refine take_ (i := 1) (N := some 92) (v := ?_) (a' := ?_) #[true, true, true, true, true, true, true, true, false, false, false, false] rfl rfl (take_ofW HT_.out HW_.out (by kernel_rfl)) (fun _ _ _ h => h) (Or.inl ⟨by rfl, ?_⟩) hHeld ?_ ?_
         rotate_left
         ·rintro w' ⟨s0, s1, s2⟩
          go_simp
          with_reducible rfl
         rotate_left
         ·simp only [Act.put, Zl1, Zl2, Zl3, i64_w, i32_w]
          rfl
         refine one_ (i := 8) (N := some 99) #[true, true, true, true, true, true, true, true, true, false, false, false] rfl rfl (one_of HT_.out (by kernel_rfl)) (by decide) (fun K hK => ?_)
         refine value_ (w1 := ?_) (v := ?_) (by rfl) rfl ?_ ?_
         rotate_left 2
         ·go_simp
          constructor
          ·rfl
          ·rfl
         refine hK.out _ _ ⟨(ZbC (ZbA BK230.out _) 0).trans rfl, (ZbC (ZbA BK230.out _) 1).trans rfl, (ZbC (ZbA BK230.out _) 2).trans rfl⟩ (fun hHeld => ?_)
         clear hK K
         refine norm_ (a' := ?_) ?_ ?_
         rotate_left
         ·show Act.put _ (some 99) _ = _
          simp only [Act.put, Zl1, Zl2, Zl3, i64_w, i32_w]
          rfl
         refine one_ (i := 9) (N := some 100) #[true, true, true, true, true, true, true, true, true, true, false, false] rfl rfl (one_of HT_.out (by kernel_rfl)) (by decide) (fun K hK => ?_)
         refine Kd.R_append_step (Kd.int .i64) (w0 := w) w.heap.size (by rfl) (.tmp 92) (.tmp 99) 22 3 (.int .i64 0) 8 rfl Try.underlying22 info3 rfl (by decide) (by omega) u231002 x231002_3 (wrap64 (Int.tdiv (wrap64 (x8_4 + (wrap64 (Int.tdiv x9_4 2)))) x9_4)) [.int .i64 (wrap64 (Int.tdiv (wrap64 (x8_4 + (wrap64 (Int.tdiv x9_4 2)))) x9_4))] (fun _ => True) (fun _ => False) rfl rfl ?aP (fun _ hk => hk.elim) ?aF ?aO ?aB ?aS ?aL ?_
         (case aP => exact rfl)
         (case aB => exact (by repeat (first | (with_reducible first | exact HB.out | apply ZhA | apply ZhW | apply ZhD | refine ZhS ?_ GE227.out | refine ZhS ?_ GE228.out | refine ZhS ?_ GE230.out) | exact HB.out)))
         (case aF => exact (fun _ _ => trivial))
         (case aO => exact (by (with_reducible repeat (first | apply ZrA | apply ZrW | apply ZrD)); exact HO_231002.out))
         (case aS => exact (below_size (by repeat (first | (with_reducible first | exact HB.out | apply ZhA | apply ZhW | apply ZhD | refine ZhS ?_ GE227.out | refine ZhS ?_ GE228.out | refine ZhS ?_ GE230.out) | exact HB.out))))
         (case aL => have := LMc52.out; omega)
         intro v232 w57 ho hb hg hat
         rw [← Ny231.out] at ho
         have n0_ := Zam (blk_grown (g := gb227) (o := .cells #[.int .i64 a0_0, .int .i64 a0_1, .slice A0_2 l0_2.length c0_2] 82 (0, 0)) (by (with_reducible repeat (first | refine ZbW ?_ _ | refine ZbD ?_ | refine ZbA ?_ _)); exact BK227.out) hg (Kd.R_ne HO_231002.out BK227.out (by decide)))
         have n1_ := Zam (blk_grown (g := gb228) (o := .cells #[.int .i64 0, .int .i64 0, .slice none 0 0] 82 (0, 0)) (by (with_reducible repeat (first | refine ZbW ?_ _ | refine ZbD ?_ | refine ZbA ?_ _)); exact BK228.out) hg (Kd.R_ne HO_231002.out BK228.out (by decide)))
         have n2_ := Zam (blk_grown (g := gb230) (o := .cells #[.int .i64 (wrap64 (Int.tdiv (wrap64 ((wrap64 (a0_0 + a1)) - 1)) a1)), .int .i64 (wrap64 (Int.tdiv (wrap64 ((wrap64 (a0_1 + a1)) - 1)) a1)), u231002] 82 (0, 0)) (by (with_reducible repeat (first | refine ZbW ?_ _ | refine ZbD ?_ | refine ZbA ?_ _)); exact BK230.out) hg (Kd.R_ne HO_231002.out BK230.out (by decide)))
         have n3_ := Zam (hb)
         have n4_ := Zam (ho)
         clear BK227
         clear BK228
         clear BK230
         clear HB
         clear HO_231002
         have BK227 := n0_
         have BK228 := n1_
         have BK230 := n2_
         have HB := n3_
         have HO233 := n4_
         clear n0_ n1_ n2_ n3_ n4_
         clear ho hb hg hat
         obtain ⟨Ao58, co58, eo58⟩ := Kd.R_slice HO233.out
         (first | subst eo58 | (injection eo58 with f1_ f2_ f3_; have f4_ := f1_.symm; have f5_ := f3_.symm; clear f1_ f2_ f3_; subst f4_; subst f5_))
         refine hK.out _ _ ⟨(ZbC BK230.out 0).trans rfl, (ZbC BK230.out 1).trans rfl, (ZbC BK230.out 2).trans rfl⟩ (fun hHeld => ?_)
         clear hK K
         refine norm_ (a' := ?_) ?_ ?_
         rotate_left
         ·show Act.put _ (some 100) _ = _
          simp only [Act.put, Zl1, Zl2, Zl3, i64_w, i32_w]
          rfl
         refine pure_ (i := 10) (N := some 101) (v := ?_) (a' := ?_) #[true, true, true, true, true, true, true, true, true, true, true, false] rfl rfl (any_of HT_.out (by kernel_rfl)) (fun _ _ _ h => h) (Or.inl ⟨by rfl, ?_⟩) ?_ ?_
         rotate_left
         ·intro w'
          go_simp
          with_reducible rfl
         rotate_left
         ·simp only [Act.put, Zl1, Zl2, Zl3, i64_w, i32_w]
          rfl
         refine last_ (i := 11) (N := none) #[true, true, true, true, true, true, true, true, true, true, true, true] rfl rfl (one_of HT_.out (by kernel_rfl)) (by decide) (fun K hK => ?_)
         have hs59 : w57.cell? ⟨gb230, 2, none⟩ = some (u231002) := (ZbC BK230.out 2).trans rfl
         have hfs59 := ZbF BK230.out 2
         have hns59_0 := NB227_230.out
         have hns59_1 := NB228_230.out
         have hms59_0 := NB230_227.out
         have hms59_1 := NB230_228.out
         refine skip_ (w1 := ?_) (by rfl) rfl ?_ ?_
         rotate_left
         ·go_simp
          rfl
         refine hK.out _ _ ?_
         clear hK K
         refine done_ (done_of HT_.out (by kernel_rfl)) ?_
         try go_wp2
         go_roundg k4
         case measure => have := HJ2.out; have := HK2.out; have := HK3.out; have := HK4.out; omega
         case rel => exact ⟨(wrap64 (x46_3 + 1)), (y231), (.slice Ao58 y231.length co58), (by first | rfl | (simp; done) | (simp [*]; done)), H', ⟨by have := HJ2.out; have := HK2.out; have := HK3.out; have := HK4.out; omega⟩, ⟨by (with_reducible repeat (first | apply ZrA | apply ZrW | apply ZrD)); exact Kd.R_mono (Kd.R_far (p := ⟨gb230, 2, none⟩) (Kd.R_types HO233.out BK230.out (by decide)) (fun _ hk => hk.2) (.slice Ao58 y231.length co58)) (fun _ hk => trivial)⟩, ⟨by (with_reducible repeat (first | refine ZbW ?_ _ | refine ZbD ?_ | refine ZbA ?_ _)); refine blk_far ?_ NB227_230.out _; (with_reducible repeat (first | refine ZbW ?_ _ | refine ZbD ?_ | refine ZbA ?_ _)); exact BK227.out⟩, ⟨by (with_reducible repeat (first | refine ZbW ?_ _ | refine ZbD ?_ | refine ZbA ?_ _)); refine blk_far ?_ NB228_230.out _; (with_reducible repeat (first | refine ZbW ?_ _ | refine ZbD ?_ | refine ZbA ?_ _)); exact BK228.out⟩, ⟨by (with_reducible repeat (first | refine ZbW ?_ _ | refine ZbD ?_ | refine ZbA ?_ _)); refine blk_put (cs := #[.int .i64 (wrap64 (Int.tdiv (wrap64 ((wrap64 (a0_0 + a1)) - 1)) a1)), .int .i64 (wrap64 (Int.tdiv (wrap64 ((wrap64 (a0_1 + a1)) - 1)) a1)), u231002]) ?_ 2 _ rfl; (with_reducible repeat (first | refine ZbW ?_ _ | refine ZbD ?_ | refine ZbA ?_ _)); exact BK230.out⟩, ⟨by repeat (first | (with_reducible first | exact HB.out | apply ZhA | apply ZhW | apply ZhD | refine ZhS ?_ GE227.out | refine ZhS ?_ GE228.out | refine ZhS ?_ GE230.out) | exact HB.out)⟩⟩

end Go.Proofs.Ytidblealnaicpaa.PFnSizes

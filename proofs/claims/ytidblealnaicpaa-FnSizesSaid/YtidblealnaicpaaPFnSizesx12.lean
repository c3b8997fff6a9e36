-- written by myprint.py (a program of this session's over the kit's print)
import Derived.Test.YtidblealnaicpaaPFnSizesx0
import Derived.Test.YtidblealnaicpaaPFnSizesx3
import Derived.Test.YtidblealnaicpaaPFnSizesx4
import Derived.Test.YtidblealnaicpaaPFnSizesx11
namespace Go.Proofs.Ytidblealnaicpaa.PFnSizes
open Go.RowKit Go.Proofs.YtidblealnaicpaaW.PrintWords Go.Proofs.YtidblealnaicpaaW.PrintLast Go.Proofs.YtidblealnaicpaaW.PrintMore
attribute [local go_sem] max2_int min2_int max_two min_two max_three min_three max_four min_four   -- for this text's walks alone
set_option linter.unusedVariables false
set_option linter.unusedSimpArgs false

/-! ### spec_Resize: function 64 -/
mutual
def spec_Resize.j0 : Nat → Int → Int → Bool → Int → Int → List Int → Option (Int × Int × List Int)
 | 0, _, _, _, _, _, _ => none
 | k + 1, x1, x2, x26, x293000, x293001, x293002 => if x26 = true then (some (0, 0, ([] : List Int))) else (spec_Resize.l0 k x1 x2 0 x293000 x293001 x293002 x1 x2 ([] : List Int))
def spec_Resize.l0 : Nat → Int → Int → Int → Int → Int → List Int → Int → Int → List Int → Option (Int × Int × List Int)
 | 0, _, _, _, _, _, _, _, _, _ => none
 | k + 1, x1, x2, x8, x293000, x293001, x293002, x297000, x297001, x297002 => if x8 < x2 then ((spec_l7From.f x8 x293001 x2).bind fun t297 => (spec_Resize.l1 k x1 x2 x8 t297 0 x293000 x293001 x293002 x297000 x297001 x297002)) else (some (x297000, x297001, x297002))
def spec_Resize.l1 : Nat → Int → Int → Int → Int → Int → Int → Int → List Int → Int → Int → List Int → Option (Int × Int × List Int)
 | 0, _, _, _, _, _, _, _, _, _, _, _ => none
 | k + 1, x1, x2, x8, x9, x10, x293000, x293001, x293002, x297000, x297001, x297002 => if x10 < x1 then ((spec_l7From.f x10 x293000 x1).bind fun t298 => ((spec_l7At.f k x293000 x293001 x293002 (t298 / 256) (x9 / 256)).bind fun t299 => ((spec_l7At.f k x293000 x293001 x293002 (wrap64 ((t298 / 256) + 1)) (x9 / 256)).bind fun t300 => ((spec_l7At.f k x293000 x293001 x293002 (t298 / 256) (wrap64 ((x9 / 256) + 1))).bind fun t301 => ((spec_l7At.f k x293000 x293001 x293002 (wrap64 ((t298 / 256) + 1)) (wrap64 ((x9 / 256) + 1))).bind fun t302 => (if x297002.length < 17592186044416 then (spec_Resize.l1 k x1 x2 x8 x9 (wrap64 (x10 + 1)) x293000 x293001 x293002 x297000 x297001 (x297002 ++ [(wrap64 ((wrap64 ((wrap64 ((wrap64 (256 - (Go.bits .and .i64 x9 255))) * (wrap64 ((wrap64 ((wrap64 (256 - (Go.bits .and .i64 t298 255))) * t299)) + (wrap64 ((Go.bits .and .i64 t298 255) * t300)))))) + (wrap64 ((Go.bits .and .i64 x9 255) * (wrap64 ((wrap64 ((wrap64 (256 - (Go.bits .and .i64 t298 255))) * t301)) + (wrap64 ((Go.bits .and .i64 t298 255) * t302)))))))) + 32768)) / 65536])) else (none))))))) else (spec_Resize.l0 k x1 x2 (wrap64 (x8 + 1)) x293000 x293001 x293002 x297000 x297001 x297002)
end
def spec_Resize.f (k : Nat) (a0_0 : Int) (a0_1 : Int) (l0_2 : List Int) (a1 : Int) (a2 : Int) : Option (Int × Int × List Int) := (spec_GoodPlane.f k a0_0 a0_1 l0_2).bind fun t294 => (if t294 = true then ((spec_l7Sides.f a1 a2).bind fun t295 => (spec_Resize.j0 k a1 a2 (!t295) a0_0 a0_1 l0_2)) else (spec_Resize.j0 k a1 a2 true a0_0 a0_1 l0_2))
theorem spec_Resize.mono_l : ∀ k, (∀ y0 y1 y2 y3 y4 y5, LeO (spec_Resize.j0 k y0 y1 y2 y3 y4 y5) (spec_Resize.j0 (k + 1) y0 y1 y2 y3 y4 y5)) ∧ (∀ y0 y1 y2 y3 y4 y5 y6 y7 y8, LeO (spec_Resize.l0 k y0 y1 y2 y3 y4 y5 y6 y7 y8) (spec_Resize.l0 (k + 1) y0 y1 y2 y3 y4 y5 y6 y7 y8)) ∧ (∀ y0 y1 y2 y3 y4 y5 y6 y7 y8 y9 y10, LeO (spec_Resize.l1 k y0 y1 y2 y3 y4 y5 y6 y7 y8 y9 y10) (spec_Resize.l1 (k + 1) y0 y1 y2 y3 y4 y5 y6 y7 y8 y9 y10))
 | 0 => ⟨fun _ _ _ _ _ _ r h => by simp [spec_Resize.j0] at h, fun _ _ _ _ _ _ _ _ _ r h => by simp [spec_Resize.l0] at h, fun _ _ _ _ _ _ _ _ _ _ _ r h => by simp [spec_Resize.l1] at h⟩
 | k + 1 => by
  obtain ⟨ih0, ih1, ih2⟩ := spec_Resize.mono_l k
  refine ⟨?_, ?_, ?_⟩
  ·intro y0 y1 y2 y3 y4 y5
   unfold spec_Resize.j0
   repeat' first
   | (with_reducible exact ih0 _ _ _ _ _ _)
   | (with_reducible exact ih1 _ _ _ _ _ _ _ _ _)
   | (with_reducible exact ih2 _ _ _ _ _ _ _ _ _ _ _)
   | (with_reducible exact spec_GoodPlane.mono _ _ _ _)
   | (with_reducible exact spec_l7At.mono _ _ _ _ _ _)
   | (with_reducible exact LeO.refl _)
   | (with_reducible exact LeO.none _)
   | (with_reducible refine LeO.ite ?_ ?_)
   | (with_reducible refine LeO.bind ?_ (fun _ => ?_))
   | exact ih0 _ _ _ _ _ _
   | exact ih1 _ _ _ _ _ _ _ _ _
   | exact ih2 _ _ _ _ _ _ _ _ _ _ _
   | exact spec_GoodPlane.mono _ _ _ _
   | exact spec_l7At.mono _ _ _ _ _ _
   | exact LeO.none _
   | refine LeO.ite ?_ ?_
   | refine LeO.bind ?_ (fun _ => ?_)
  ·intro y0 y1 y2 y3 y4 y5 y6 y7 y8
   unfold spec_Resize.l0
   repeat' first
   | (with_reducible exact ih0 _ _ _ _ _ _)
   | (with_reducible exact ih1 _ _ _ _ _ _ _ _ _)
   | (with_reducible exact ih2 _ _ _ _ _ _ _ _ _ _ _)
   | (with_reducible exact spec_GoodPlane.mono _ _ _ _)
   | (with_reducible exact spec_l7At.mono _ _ _ _ _ _)
   | (with_reducible exact LeO.refl _)
   | (with_reducible exact LeO.none _)
   | (with_reducible refine LeO.ite ?_ ?_)
   | (with_reducible refine LeO.bind ?_ (fun _ => ?_))
   | exact ih0 _ _ _ _ _ _
   | exact ih1 _ _ _ _ _ _ _ _ _
   | exact ih2 _ _ _ _ _ _ _ _ _ _ _
   | exact spec_GoodPlane.mono _ _ _ _
   | exact spec_l7At.mono _ _ _ _ _ _
   | exact LeO.none _
   | refine LeO.ite ?_ ?_
   | refine LeO.bind ?_ (fun _ => ?_)
  ·intro y0 y1 y2 y3 y4 y5 y6 y7 y8 y9 y10
   unfold spec_Resize.l1
   repeat' first
   | (with_reducible exact ih0 _ _ _ _ _ _)
   | (with_reducible exact ih1 _ _ _ _ _ _ _ _ _)
   | (with_reducible exact ih2 _ _ _ _ _ _ _ _ _ _ _)
   | (with_reducible exact spec_GoodPlane.mono _ _ _ _)
   | (with_reducible exact spec_l7At.mono _ _ _ _ _ _)
   | (with_reducible exact LeO.refl _)
   | (with_reducible exact LeO.none _)
   | (with_reducible refine LeO.ite ?_ ?_)
   | (with_reducible refine LeO.bind ?_ (fun _ => ?_))
   | exact ih0 _ _ _ _ _ _
   | exact ih1 _ _ _ _ _ _ _ _ _
   | exact ih2 _ _ _ _ _ _ _ _ _ _ _
   | exact spec_GoodPlane.mono _ _ _ _
   | exact spec_l7At.mono _ _ _ _ _ _
   | exact LeO.none _
   | refine LeO.ite ?_ ?_
   | refine LeO.bind ?_ (fun _ => ?_)
theorem spec_Resize.mono : ∀ a0 a1 a2 a3 a4 k, LeO (spec_Resize.f k a0 a1 a2 a3 a4) (spec_Resize.f (k + 1) a0 a1 a2 a3 a4) := by
 intro a0 a1 a2 a3 a4 k
 obtain ⟨ih0, ih1, ih2⟩ := spec_Resize.mono_l k
 unfold spec_Resize.f
 repeat' first
   | (with_reducible exact ih0 _ _ _ _ _ _)
   | (with_reducible exact ih1 _ _ _ _ _ _ _ _ _)
   | (with_reducible exact ih2 _ _ _ _ _ _ _ _ _ _ _)
   | (with_reducible exact spec_GoodPlane.mono _ _ _ _)
   | (with_reducible exact spec_l7At.mono _ _ _ _ _ _)
   | (with_reducible exact LeO.refl _)
   | (with_reducible exact LeO.none _)
   | (with_reducible refine LeO.ite ?_ ?_)
   | (with_reducible refine LeO.bind ?_ (fun _ => ?_))
   | exact ih0 _ _ _ _ _ _
   | exact ih1 _ _ _ _ _ _ _ _ _
   | exact ih2 _ _ _ _ _ _ _ _ _ _ _
   | exact spec_GoodPlane.mono _ _ _ _
   | exact spec_l7At.mono _ _ _ _ _ _
   | exact LeO.none _
   | refine LeO.ite ?_ ?_
   | refine LeO.bind ?_ (fun _ => ?_)
def spec_Resize.T16 : Bool × List (List Nat × List Nat) := (true, [([], []), ([0], [0]), ([], []), ([], []), ([], []), ([2, 3, 4], [2, 3, 4]), ([1, 5], [1, 5]), ([], []), ([], []), ([], []), ([9], [9]), ([], []), ([8, 10, 11, 5], [8, 10, 11]), ([7, 12], [7, 12]), ([6, 13], [6, 13]), ([14, 12, 0, 1, 2, 3, 4, 5, 6, 7, 8, 9, 10, 11, 12, 13, 14], [14])])
def spec_Resize.B16 : List Nat := [0, 1, 0, 0, 0, 28, 63, 0, 0, 0, 512, 0, 3900, 8124, 16383, 32767]
theorem spec_Resize.tab16 : rtab .any (opsOf Try.f64 16) = spec_Resize.T16 := by kernel_rfl
theorem spec_Resize.bits16 : waitsOk spec_Resize.T16.2 spec_Resize.B16 = true := by kernel_rfl
def spec_Resize.T17 : Bool × List (List Nat × List Nat) := (true, [([], []), ([0], [0]), ([], []), ([], []), ([], []), ([4], [4]), ([2, 3, 5], [2, 3, 5]), ([1, 6], [1, 6]), ([], []), ([], []), ([], []), ([10], [10]), ([], []), ([12], [12]), ([9, 11, 13, 6], [9, 11, 13]), ([8, 14], [8, 14]), ([7, 15], [7, 15]), ([16, 14, 0, 1, 2, 3, 4, 5, 6, 7, 8, 9, 10, 11, 12, 13, 14, 15, 16], [16])])
def spec_Resize.B17 : List Nat := [0, 1, 0, 0, 0, 16, 60, 127, 0, 0, 0, 1024, 0, 4096, 15996, 32636, 65535, 131071]
theorem spec_Resize.tab17 : rtab .any (opsOf Try.f64 17) = spec_Resize.T17 := by kernel_rfl
theorem spec_Resize.bits17 : waitsOk spec_Resize.T17.2 spec_Resize.B17 = true := by kernel_rfl
set_option maxHeartbeats 8000000 in
set_option maxRecDepth 100000 in
theorem spec_Resize.calls (k : Nat) (a0_0 : Int) (a0_1 : Int) (A0_2 : Option Addr) (c0_2 : Nat) (l0_2 : List Int) (a1 : Int) (a2 : Int) (r1 : Int) (r2 : Int) (r3 : List Int) (w : World) (hr0_2 : Kd.C (Kd.int .i64) w A0_2 l0_2.length l0_2) (hc0_2 : l0_2.length ≤ c0_2) (h : spec_Resize.f k a0_0 a0_1 l0_2 a1 a2 = some (r1, r2, r3)) :
  Calls Try.prog 64 #[.agg #[.int .i64 a0_0, .int .i64 a0_1, .slice A0_2 l0_2.length c0_2], .int .i64 a1, .int .i64 a2] w fun e w' => ∃ v2_ : Value, e = .returned (.agg #[.int .i64 r1, .int .i64 r2, v2_]) ∧ Kd.R (Kd.int .i64) 3 w' w.heap.size (fun _ => True) v2_ r3 ∧ Below w.heap.size w w' := by
 have hu82 := Try.underlying82
 have HR0_2 := Zam hr0_2
 have HC0_2 := Zam hc0_2
 clear hr0_2 hc0_2
 have HB := Zam (Below.refl w.heap.size w)
 have H : ((spec_GoodPlane.f k a0_0 a0_1 l0_2).bind fun t294 => (if t294 = true then ((spec_l7Sides.f a1 a2).bind fun t295 => (spec_Resize.j0 k a1 a2 (!t295) a0_0 a0_1 l0_2)) else (spec_Resize.j0 k a1 a2 true a0_0 a0_1 l0_2))) = some (r1, r2, r3) := h
 clear h
 have HC4 := Zam H
 clear H
 go_enter Try.func64, Try.ntmps64
 go_upto_region 1 with (first | ((with_reducible refine gate_dst (N := 3) rfl ?_); refine box_event ?hg (N := 3) ?hd (cs := #[.int .i64 a0_0, .int .i64 a0_1, .slice A0_2 l0_2.length c0_2]) (t := 82) ?hr ?_; (case hd => rfl); (case hg => rfl); (case hr => first | (go_simp; done) | (go_simp; rfl)); intro gb292 hg w5 hbox hb; have n0_ := Zam (ZbS (by repeat (first | (with_reducible first | exact HB.out | apply ZhA | apply ZhW | apply ZhD) | exact HB.out)) hb); have n1_ := Zam (hbox); have n2_ := Zam ((by rw [hg]; exact (below_size (by repeat (first | (with_reducible first | exact HB.out | apply ZhA | apply ZhW | apply ZhD) | exact HB.out))) : w.heap.size ≤ gb292)); have n3_ := n2_; clear HB; have HB := n0_; have BK292 := n1_; have GW292 := n2_; have GE292 := n3_; clear n0_ n1_ n2_ n3_; clear hb hbox hg) | ((with_reducible refine gate_dst (N := 6) rfl ?_); refine box_event ?hg (N := 6) ?hd (cs := #[.int .i64 0, .int .i64 0, .slice none 0 0]) (t := 82) ?hr ?_; (case hd => rfl); (case hg => rfl); (case hr => first | (go_simp; done) | (go_simp; rfl)); intro gb293 hg w6 hbox hb; have n0_ := Zam (ZbB (g := gb292) (o := .cells #[.int .i64 a0_0, .int .i64 a0_1, .slice A0_2 l0_2.length c0_2] 82 (0, 0)) (by (with_reducible repeat (first | refine ZbW ?_ _ | refine ZbD ?_ | refine ZbA ?_ _)); exact BK292.out) hb); have n1_ := Zam (ZbS (by repeat (first | (with_reducible first | exact HB.out | apply ZhA | apply ZhW | apply ZhD | refine ZhS ?_ GE292.out) | exact HB.out)) hb); have n2_ := Zam (hbox); have n3_ := Zam ((by rw [hg]; exact (below_size (by repeat (first | (with_reducible first | exact HB.out | apply ZhA | apply ZhW | apply ZhD | refine ZhS ?_ GE292.out) | exact HB.out))) : w.heap.size ≤ gb293)); have n4_ := n3_; have n5_ := Zam ((by rw [hg]; exact Nat.ne_of_lt (blk_lt (g := gb292) (o := .cells #[.int .i64 a0_0, .int .i64 a0_1, .slice A0_2 l0_2.length c0_2] 82 (0, 0)) (by (with_reducible repeat (first | refine ZbW ?_ _ | refine ZbD ?_ | refine ZbA ?_ _)); exact BK292.out)) : gb292 ≠ gb293)); have n6_ := Zam ((by rw [hg]; exact Nat.ne_of_gt (blk_lt (g := gb292) (o := .cells #[.int .i64 a0_0, .int .i64 a0_1, .slice A0_2 l0_2.length c0_2] 82 (0, 0)) (by (with_reducible repeat (first | refine ZbW ?_ _ | refine ZbD ?_ | refine ZbA ?_ _)); exact BK292.out)) : gb293 ≠ gb292)); clear BK292 HB; have BK292 := n0_; have HB := n1_; have BK293 := n2_; have GW293 := n3_; have GE293 := n4_; have NB292_293 := n5_; have NB293_292 := n6_; clear n0_ n1_ n2_ n3_ n4_ n5_ n6_; clear hb hbox hg))
 (try simp only [Act.put, Zl1, Zl2, Zl3])
 go_cut [26] (fun v26 wc => ∃ (kq : Nat) (x26_3 : Bool), v26 = .bool x26_3 ∧ Aside0 (spec_Resize.j0 kq a1 a2 x26_3 a0_0 a0_1 l0_2 = some (r1, r2, r3)) ∧ Aside0 (kq ≤ k) ∧ Aside0 (wc.heap[gb292]? = some (.cells #[.int .i64 a0_0, .int .i64 a0_1, (.slice A0_2 l0_2.length c0_2)] 82 (0, 0))) ∧ Aside0 (wc.heap[gb293]? = some (.cells #[.int .i64 0, .int .i64 0, (.slice none 0 0)] 82 (0, 0))) ∧ Aside0 (Below w.heap.size w wc))
 case first =>
  have H := HC4.out
  clear HC4
  replace H := Zob.mp H
  obtain ⟨t294, A70, H⟩ := H
  replace H : (if t294 = true then ((spec_l7Sides.f a1 a2).bind fun t295 => (spec_Resize.j0 k a1 a2 (!t295) a0_0 a0_1 l0_2)) else (spec_Resize.j0 k a1 a2 true a0_0 a0_1 l0_2)) = some (r1, r2, r3) := H
  have A7 := Zam A70
  clear A70
  by_cases c8 : t294 = true
  rotate_left
  ·replace c8 := Bool.eq_false_iff.mpr c8
   subst c8
   replace H : (spec_Resize.j0 k a1 a2 true a0_0 a0_1 l0_2) = some (r1, r2, r3) := by rw [if_neg (show ¬ (false = true) by decide)] at H; exact H
   have H' := Zam H
   clear H
   have hnb13 := NB292_293.out
   have hnc13 := NB293_292.out
   have hcz14_0 : w6.cell? ⟨gb292, 0, none⟩ = some (.int .i64 a0_0) := (ZbC BK292.out 0).trans rfl
   have hcz14_1 : w6.cell? ⟨gb292, 1, none⟩ = some (.int .i64 a0_1) := (ZbC BK292.out 1).trans rfl
   have hcz14_2 : w6.cell? ⟨gb292, 2, none⟩ = some (.slice A0_2 l0_2.length c0_2) := (ZbC BK292.out 2).trans rfl
   have hfz14_0 := ZbF BK292.out 0
   have hfz14_1 := ZbF BK292.out 1
   have hfz14_2 := ZbF BK292.out 2
   go_wp2_with (first | ((with_reducible refine gate_callee (f := 58) rfl ?_); refine goesL_ (some 19) rfl rfl Try.func58 (by kernel_rfl) rfl #[.agg #[.int .i64 a0_0, .int .i64 a0_1, .slice A0_2 l0_2.length c0_2]] rfl (by (try simp only [Zm1, Zm2, Zm3]); first | done | rfl | (simp only [ZlL, ZlT]; rfl)) ?_; (with_reducible refine (spec_GoodPlane.calls k a0_0 a0_1 _ _ l0_2 false _ ?side1 ?side2 A7.out).mono ?_); (case side1 => repeat (first | exact (Kd.C_below HR0_2.out HB.out) | (with_reducible refine Kd.C_alloc ?_ _) | (with_reducible refine Kd.C_drewN ?_ _) | (with_reducible refine Kd.C_drew ?_))); (case side2 => exact HC0_2.out); rintro e w15 ⟨rfl, hb⟩; refine ⟨_, rfl, ?_⟩; have n0_ := Zam (ZbB (g := gb292) (o := .cells #[.int .i64 a0_0, .int .i64 a0_1, .slice A0_2 l0_2.length c0_2] 82 (0, 0)) (by (with_reducible repeat (first | refine ZbW ?_ _ | refine ZbD ?_ | refine ZbA ?_ _)); exact BK292.out) hb); have n1_ := Zam (ZbB (g := gb293) (o := .cells #[.int .i64 0, .int .i64 0, .slice none 0 0] 82 (0, 0)) (by (with_reducible repeat (first | refine ZbW ?_ _ | refine ZbD ?_ | refine ZbA ?_ _)); exact BK293.out) hb); have n2_ := Zam (ZbS (by repeat (first | (with_reducible first | exact HB.out | apply ZhA | apply ZhW | apply ZhD | refine ZhS ?_ GE292.out | refine ZhS ?_ GE293.out) | exact HB.out)) hb); clear BK292 BK293 HB; have BK292 := n0_; have BK293 := n1_; have HB := n2_; clear n0_ n1_ n2_; (try clear hb); (try clear hb2); (try clear hk); (try clear hi)))
   go_meet
   case rel => exact ⟨_, (true), (by first | rfl | (simp; done) | (simp [*]; done)), H', ⟨by first | omega | exact Nat.le_refl _⟩, ⟨by (with_reducible repeat (first | refine ZbW ?_ _ | refine ZbD ?_ | refine ZbA ?_ _)); exact BK292.out⟩, ⟨by (with_reducible repeat (first | refine ZbW ?_ _ | refine ZbD ?_ | refine ZbA ?_ _)); exact BK293.out⟩, ⟨by repeat (first | (with_reducible first | exact HB.out | apply ZhA | apply ZhW | apply ZhD | refine ZhS ?_ GE292.out | refine ZhS ?_ GE293.out) | exact HB.out)⟩⟩
  subst c8
  replace H : ((spec_l7Sides.f a1 a2).bind fun t295 => (spec_Resize.j0 k a1 a2 (!t295) a0_0 a0_1 l0_2)) = some (r1, r2, r3) := by rw [if_pos rfl] at H; exact H
  replace H := Zob.mp H
  obtain ⟨t295, A90, H⟩ := H
  replace H : (spec_Resize.j0 k a1 a2 (!t295) a0_0 a0_1 l0_2) = some (r1, r2, r3) := H
  have A9 := Zam A90
  clear A90
  have H' := Zam H
  clear H
  have hnb10 := NB292_293.out
  have hnc10 := NB293_292.out
  have hcz11_0 : w6.cell? ⟨gb292, 0, none⟩ = some (.int .i64 a0_0) := (ZbC BK292.out 0).trans rfl
  have hcz11_1 : w6.cell? ⟨gb292, 1, none⟩ = some (.int .i64 a0_1) := (ZbC BK292.out 1).trans rfl
  have hcz11_2 : w6.cell? ⟨gb292, 2, none⟩ = some (.slice A0_2 l0_2.length c0_2) := (ZbC BK292.out 2).trans rfl
  have hfz11_0 := ZbF BK292.out 0
  have hfz11_1 := ZbF BK292.out 1
  have hfz11_2 := ZbF BK292.out 2
  go_wp2_with (first | ((with_reducible refine gate_callee (f := 58) rfl ?_); refine goesL_ (some 19) rfl rfl Try.func58 (by kernel_rfl) rfl #[.agg #[.int .i64 a0_0, .int .i64 a0_1, .slice A0_2 l0_2.length c0_2]] rfl (by (try simp only [Zm1, Zm2, Zm3]); first | done | rfl | (simp only [ZlL, ZlT]; rfl)) ?_; (with_reducible refine (spec_GoodPlane.calls k a0_0 a0_1 _ _ l0_2 true _ ?side1 ?side2 A7.out).mono ?_); (case side1 => repeat (first | exact (Kd.C_below HR0_2.out HB.out) | (with_reducible refine Kd.C_alloc ?_ _) | (with_reducible refine Kd.C_drewN ?_ _) | (with_reducible refine Kd.C_drew ?_))); (case side2 => exact HC0_2.out); rintro e w12 ⟨rfl, hb⟩; refine ⟨_, rfl, ?_⟩; have n0_ := Zam (ZbB (g := gb292) (o := .cells #[.int .i64 a0_0, .int .i64 a0_1, .slice A0_2 l0_2.length c0_2] 82 (0, 0)) (by (with_reducible repeat (first | refine ZbW ?_ _ | refine ZbD ?_ | refine ZbA ?_ _)); exact BK292.out) hb); have n1_ := Zam (ZbB (g := gb293) (o := .cells #[.int .i64 0, .int .i64 0, .slice none 0 0] 82 (0, 0)) (by (with_reducible repeat (first | refine ZbW ?_ _ | refine ZbD ?_ | refine ZbA ?_ _)); exact BK293.out) hb); have n2_ := Zam (ZbS (by repeat (first | (with_reducible first | exact HB.out | apply ZhA | apply ZhW | apply ZhD | refine ZhS ?_ GE292.out | refine ZhS ?_ GE293.out) | exact HB.out)) hb); clear BK292 BK293 HB; have BK292 := n0_; have BK293 := n1_; have HB := n2_; clear n0_ n1_ n2_; (try clear hb); (try clear hb2); (try clear hk); (try clear hi)) | (go_at_call 130; (with_reducible refine (spec_l7Sides.calls a1 a2 t295 _ A9.out).mono ?_); rintro e w' ⟨rfl, ⟨nd, rfl⟩⟩))
  go_meet
  case rel => exact ⟨_, (!t295), (by first | rfl | (simp; done) | (simp [*]; done)), H', ⟨by first | omega | exact Nat.le_refl _⟩, ⟨by (with_reducible repeat (first | refine ZbW ?_ _ | refine ZbD ?_ | refine ZbA ?_ _)); exact BK292.out⟩, ⟨by (with_reducible repeat (first | refine ZbW ?_ _ | refine ZbD ?_ | refine ZbA ?_ _)); exact BK293.out⟩, ⟨by repeat (first | (with_reducible first | exact HB.out | apply ZhA | apply ZhW | apply ZhD | refine ZhS ?_ GE292.out | refine ZhS ?_ GE293.out) | exact HB.out)⟩⟩
 case rest =>
  clear HC4
  try clear c1
  try clear p2
  try clear c5
  try clear c6
  try clear c8
  try clear c10
  try clear c13
  try clear hcz11_0
  try clear hcz11_1
  try clear hcz11_2
  try clear hcz14_0
  try clear hcz14_1
  try clear hcz14_2
  try clear hfz11_0
  try clear hfz11_1
  try clear hfz11_2
  try clear hfz14_0
  try clear hfz14_1
  try clear hfz14_2
  obtain ⟨kq, x26_3, rfl, HA, HJ3, BK292, BK293, HB⟩ := hcut
  cases kq with
  | zero => exact absurd HA.out (by simp [spec_Resize.j0])
  | succ kj3 =>
   have H := HA.out
   clear HA
   simp only [spec_Resize.j0] at H
   by_cases c16 : x26_3 = true
   ·subst c16
    replace H : (some (0, 0, ([] : List Int))) = some (r1, r2, r3) := by rw [if_pos rfl] at H; exact H
    simp only [Option.some.injEq, Prod.mk.injEq] at H
    obtain ⟨rfl, rfl, rfl⟩ := H
    have hnb17 := NB293_292.out
    have hnc17 := NB292_293.out
    have hcz18_0 : wc.cell? ⟨gb293, 0, none⟩ = some (.int .i64 0) := (ZbC BK293.out 0).trans rfl
    have hcz18_1 : wc.cell? ⟨gb293, 1, none⟩ = some (.int .i64 0) := (ZbC BK293.out 1).trans rfl
    have hcz18_2 : wc.cell? ⟨gb293, 2, none⟩ = some (.slice none 0 0) := (ZbC BK293.out 2).trans rfl
    have hfz18_0 := ZbF BK293.out 0
    have hfz18_1 := ZbF BK293.out 1
    have hfz18_2 := ZbF BK293.out 2
    go_wp2
    refine bodyPost_ret (results_cell_row rfl _ _ gb293 82 #[.int .i64 0, .int .i64 0, .slice none 0 0] (0, 0) _ rfl (set3_blk BK293.out) Try.underlying82 rfl (by kernel_rfl)) rfl ?_
    exact ⟨_, by first | rfl | (simp [*, errW_none, errW_some] <;> rfl), by first | exact Kd.R_nil _ _ _ _ _ | exact Kd.N_nil _ _ _ _ _ | exact Kd.V_nil _ _ _ _ _ | exact Kd.Q_nil _ _ _ _ _ | exact Kd.S_nil _ _ _ _ _, by repeat (first | (with_reducible first | exact HB.out | apply ZhA | apply ZhW | apply ZhD | refine ZhS ?_ GE292.out | refine ZhS ?_ GE293.out) | exact HB.out)⟩
   replace c16 := Bool.eq_false_iff.mpr c16
   subst c16
   replace H : (spec_Resize.l0 kj3 a1 a2 0 a0_0 a0_1 l0_2 a1 a2 ([] : List Int)) = some (r1, r2, r3) := by rw [if_neg (show ¬ (false = true) by decide)] at H; exact H
   have H' := Zam H
   clear H
   go_wp2_with (first | ((with_reducible refine gate_dst (N := 7) rfl ?_); refine box_event ?hg (N := 7) ?hd (cs := #[.int .i64 0, .int .i64 0, .slice none 0 0]) (t := 82) ?hr ?_; (case hd => rfl); (case hg => rfl); (case hr => first | (go_simp; done) | (go_simp; rfl)); intro gb296 hg w19 hbox hb; have n0_ := Zam (ZbB (g := gb292) (o := .cells #[.int .i64 a0_0, .int .i64 a0_1, .slice A0_2 l0_2.length c0_2] 82 (0, 0)) (by (with_reducible repeat (first | refine ZbW ?_ _ | refine ZbD ?_ | refine ZbA ?_ _)); exact BK292.out) hb); have n1_ := Zam (ZbB (g := gb293) (o := .cells #[.int .i64 0, .int .i64 0, .slice none 0 0] 82 (0, 0)) (by (with_reducible repeat (first | refine ZbW ?_ _ | refine ZbD ?_ | refine ZbA ?_ _)); exact BK293.out) hb); have n2_ := Zam (ZbS (by repeat (first | (with_reducible first | exact HB.out | apply ZhA | apply ZhW | apply ZhD | refine ZhS ?_ GE292.out | refine ZhS ?_ GE293.out) | exact HB.out)) hb); have n3_ := Zam (hbox); have n4_ := Zam ((by rw [hg]; exact (below_size (by repeat (first | (with_reducible first | exact HB.out | apply ZhA | apply ZhW | apply ZhD | refine ZhS ?_ GE292.out | refine ZhS ?_ GE293.out) | exact HB.out))) : w.heap.size ≤ gb296)); have n5_ := n4_; have n6_ := Zam ((by rw [hg]; exact Nat.ne_of_lt (blk_lt (g := gb292) (o := .cells #[.int .i64 a0_0, .int .i64 a0_1, .slice A0_2 l0_2.length c0_2] 82 (0, 0)) (by (with_reducible repeat (first | refine ZbW ?_ _ | refine ZbD ?_ | refine ZbA ?_ _)); exact BK292.out)) : gb292 ≠ gb296)); have n7_ := Zam ((by rw [hg]; exact Nat.ne_of_gt (blk_lt (g := gb292) (o := .cells #[.int .i64 a0_0, .int .i64 a0_1, .slice A0_2 l0_2.length c0_2] 82 (0, 0)) (by (with_reducible repeat (first | refine ZbW ?_ _ | refine ZbD ?_ | refine ZbA ?_ _)); exact BK292.out)) : gb296 ≠ gb292)); have n8_ := Zam ((by rw [hg]; exact Nat.ne_of_lt (blk_lt (g := gb293) (o := .cells #[.int .i64 0, .int .i64 0, .slice none 0 0] 82 (0, 0)) (by (with_reducible repeat (first | refine ZbW ?_ _ | refine ZbD ?_ | refine ZbA ?_ _)); exact BK293.out)) : gb293 ≠ gb296)); have n9_ := Zam ((by rw [hg]; exact Nat.ne_of_gt (blk_lt (g := gb293) (o := .cells #[.int .i64 0, .int .i64 0, .slice none 0 0] 82 (0, 0)) (by (with_reducible repeat (first | refine ZbW ?_ _ | refine ZbD ?_ | refine ZbA ?_ _)); exact BK293.out)) : gb296 ≠ gb293)); clear BK292 BK293 HB; have BK292 := n0_; have BK293 := n1_; have HB := n2_; have BK296 := n3_; have GW296 := n4_; have GE296 := n5_; have NB292_296 := n6_; have NB296_292 := n7_; have NB293_296 := n8_; have NB296_293 := n9_; clear n0_ n1_ n2_ n3_ n4_ n5_ n6_ n7_ n8_ n9_; clear hb hbox hg; have hnb20 := NB296_292.out; have hnc20 := NB292_296.out; have hnb21 := NB296_293.out; have hnc21 := NB293_296.out; have hcz22_0 : w19.cell? ⟨gb296, 0, none⟩ = some (.int .i64 0) := (ZbC BK296.out 0).trans rfl; have hcz22_1 : w19.cell? ⟨gb296, 1, none⟩ = some (.int .i64 0) := (ZbC BK296.out 1).trans rfl; have hcz22_2 : w19.cell? ⟨gb296, 2, none⟩ = some (.slice none 0 0) := (ZbC BK296.out 2).trans rfl; have hfz22_0 := ZbF BK296.out 0; have hfz22_1 := ZbF BK296.out 1; have hfz22_2 := ZbF BK296.out 2))
   go_loopg [8] kj3 (fun kq v8 w' => ∃ (x8_2 : Int) (x297002_2 : List Int) (u297002 : Value), v8 = .int .i64 x8_2 ∧ Aside0 (spec_Resize.l0 kq a1 a2 x8_2 a0_0 a0_1 l0_2 a1 a2 x297002_2 = some (r1, r2, r3)) ∧ Aside0 (kq ≤ kj3) ∧ Aside0 (Kd.R (Kd.int .i64) 3 w' w.heap.size (fun _ => True) u297002 x297002_2) ∧ Aside0 (w'.heap[gb292]? = some (.cells #[.int .i64 a0_0, .int .i64 a0_1, (.slice A0_2 l0_2.length c0_2)] 82 (0, 0))) ∧ Aside0 (w'.heap[gb293]? = some (.cells #[.int .i64 0, .int .i64 0, (.slice none 0 0)] 82 (0, 0))) ∧ Aside0 (w'.heap[gb296]? = some (.cells #[.int .i64 a1, .int .i64 a2, u297002] 82 (0, 0))) ∧ Aside0 (Below w.heap.size w w'))
   case atStart => exact ⟨(0), (([] : List Int)), (.slice none 0 0), (by first | rfl | (simp; done) | (simp [*]; done)), H', ⟨Nat.le_refl _⟩, ⟨by first | exact Kd.R_nil _ _ _ _ _ | exact Kd.N_nil _ _ _ _ _ | exact Kd.V_nil _ _ _ _ _ | exact Kd.Q_nil _ _ _ _ _ | exact Kd.S_nil _ _ _ _ _⟩, ⟨by (with_reducible repeat (first | refine ZbW ?_ _ | refine ZbD ?_ | refine ZbA ?_ _)); refine blk_far ?_ NB292_296.out _; (with_reducible repeat (first | refine ZbW ?_ _ | refine ZbD ?_ | refine ZbA ?_ _)); refine blk_far ?_ NB292_296.out _; (with_reducible repeat (first | refine ZbW ?_ _ | refine ZbD ?_ | refine ZbA ?_ _)); refine blk_far ?_ NB292_296.out _; (with_reducible repeat (first | refine ZbW ?_ _ | refine ZbD ?_ | refine ZbA ?_ _)); exact BK292.out⟩, ⟨by (with_reducible repeat (first | refine ZbW ?_ _ | refine ZbD ?_ | refine ZbA ?_ _)); refine blk_far ?_ NB293_296.out _; (with_reducible repeat (first | refine ZbW ?_ _ | refine ZbD ?_ | refine ZbA ?_ _)); refine blk_far ?_ NB293_296.out _; (with_reducible repeat (first | refine ZbW ?_ _ | refine ZbD ?_ | refine ZbA ?_ _)); refine blk_far ?_ NB293_296.out _; (with_reducible repeat (first | refine ZbW ?_ _ | refine ZbD ?_ | refine ZbA ?_ _)); exact BK293.out⟩, ⟨by (with_reducible repeat (first | refine ZbW ?_ _ | refine ZbD ?_ | refine ZbA ?_ _)); refine blk_put (cs := #[.int .i64 a1, .int .i64 a2, .slice none 0 0]) ?_ 2 _ rfl; (with_reducible repeat (first | refine ZbW ?_ _ | refine ZbD ?_ | refine ZbA ?_ _)); refine blk_put (cs := #[.int .i64 a1, .int .i64 0, .slice none 0 0]) ?_ 1 _ rfl; (with_reducible repeat (first | refine ZbW ?_ _ | refine ZbD ?_ | refine ZbA ?_ _)); refine blk_put (cs := #[.int .i64 0, .int .i64 0, .slice none 0 0]) ?_ 0 _ rfl; (with_reducible repeat (first | refine ZbW ?_ _ | refine ZbD ?_ | refine ZbA ?_ _)); exact BK296.out⟩, ⟨by repeat (first | (with_reducible first | exact HB.out | apply ZhA | apply ZhW | apply ZhD | refine ZhS ?_ GE292.out | refine ZhS ?_ GE293.out | refine ZhS ?_ GE296.out) | exact HB.out)⟩⟩
   case round =>
    clear H'
    try clear c1
    try clear c2
    try clear p2
    try clear c5
    try clear c6
    try clear c8
    try clear c10
    try clear c13
    try clear c16
    try clear c17
    try clear c20
    try clear c21
    try clear hcz11_0
    try clear hcz11_1
    try clear hcz11_2
    try clear hcz14_0
    try clear hcz14_1
    try clear hcz14_2
    try clear hcz18_0
    try clear hcz18_1
    try clear hcz18_2
    try clear hcz22_0
    try clear hcz22_1
    try clear hcz22_2
    try clear hfz11_0
    try clear hfz11_1
    try clear hfz11_2
    try clear hfz14_0
    try clear hfz14_1
    try clear hfz14_2
    try clear hfz18_0
    try clear hfz18_1
    try clear hfz18_2
    try clear hfz22_0
    try clear hfz22_1
    try clear hfz22_2
    try clear p2
    obtain ⟨x8_2, x297002_2, u297002, rfl, HA, HK2, HO_297002, BK292, BK293, BK296, HB⟩ := hrel
    cases gk with
    | zero => exact absurd HA.out (by simp [spec_Resize.l0])
    | succ k2 =>
     have H := HA.out
     clear HA
     simp only [spec_Resize.l0] at H
     by_cases c23 : x8_2 < a2
     rotate_left
     ·rw [if_neg c23] at H
      have c23b0 : decide (x8_2 < a2) = false := decide_eq_false c23
      clear c23
      simp only [Option.some.injEq, Prod.mk.injEq] at H
      obtain ⟨rfl, rfl, rfl⟩ := H
      have hnb49 := NB296_292.out
      have hnc49 := NB292_296.out
      have hnb50 := NB296_293.out
      have hnc50 := NB293_296.out
      have hcz51_0 : wr.cell? ⟨gb296, 0, none⟩ = some (.int .i64 a1) := (ZbC BK296.out 0).trans rfl
      have hcz51_1 : wr.cell? ⟨gb296, 1, none⟩ = some (.int .i64 a2) := (ZbC BK296.out 1).trans rfl
      have hcz51_2 : wr.cell? ⟨gb296, 2, none⟩ = some (u297002) := (ZbC BK296.out 2).trans rfl
      have hfz51_0 := ZbF BK296.out 0
      have hfz51_1 := ZbF BK296.out 1
      have hfz51_2 := ZbF BK296.out 2
      have hnb52 := NB293_292.out
      have hnc52 := NB292_293.out
      have hcz53_0 : wr.cell? ⟨gb293, 0, none⟩ = some (.int .i64 0) := (ZbC BK293.out 0).trans rfl
      have hcz53_1 : wr.cell? ⟨gb293, 1, none⟩ = some (.int .i64 0) := (ZbC BK293.out 1).trans rfl
      have hcz53_2 : wr.cell? ⟨gb293, 2, none⟩ = some (.slice none 0 0) := (ZbC BK293.out 2).trans rfl
      have hfz53_0 := ZbF BK293.out 0
      have hfz53_1 := ZbF BK293.out 1
      have hfz53_2 := ZbF BK293.out 2
      obtain ⟨Ao54, co54, eo54⟩ := Kd.R_slice HO_297002.out
      subst eo54
      go_wp2
      refine bodyPost_ret (results_cell_row rfl _ _ gb293 82 #[.int .i64 a1, .int .i64 a2, .slice Ao54 x297002_2.length co54] (0, 0) _ rfl (set3_blk BK293.out) Try.underlying82 rfl (by kernel_rfl)) rfl ?_
      exact ⟨_, by first | rfl | (simp [*, errW_none, errW_some] <;> rfl), by (with_reducible repeat (first | apply ZrA | apply ZrW | apply ZrD)); exact Kd.R_mono (set3_R (Kd.R_types HO_297002.out BK293.out (by decide)) (fun _ hk => hk.2)) (fun _ hk => trivial), by repeat (first | (with_reducible first | exact HB.out | apply ZhA | apply ZhW | apply ZhD | refine ZhS ?_ GE292.out | refine ZhS ?_ GE293.out | refine ZhS ?_ GE296.out) | exact HB.out)⟩
     rw [if_pos c23] at H
     have c23b0 : decide (x8_2 < a2) = true := decide_eq_true c23
     clear c23
     replace H := Zob.mp H
     obtain ⟨t297, A240, H⟩ := H
     replace H : (spec_Resize.l1 k2 a1 a2 x8_2 t297 0 a0_0 a0_1 l0_2 a1 a2 x297002_2) = some (r1, r2, r3) := H
     have A24 := Zam A240
     clear A240
     have H' := Zam H
     clear H
     have hnb25 := NB292_293.out
     have hnc25 := NB293_292.out
     have hnb26 := NB292_296.out
     have hnc26 := NB296_292.out
     have hcz27_0 : wr.cell? ⟨gb292, 0, none⟩ = some (.int .i64 a0_0) := (ZbC BK292.out 0).trans rfl
     have hcz27_1 : wr.cell? ⟨gb292, 1, none⟩ = some (.int .i64 a0_1) := (ZbC BK292.out 1).trans rfl
     have hcz27_2 : wr.cell? ⟨gb292, 2, none⟩ = some (.slice A0_2 l0_2.length c0_2) := (ZbC BK292.out 2).trans rfl
     have hfz27_0 := ZbF BK292.out 0
     have hfz27_1 := ZbF BK292.out 1
     have hfz27_2 := ZbF BK292.out 2
     go_wp2_with (first | ((with_reducible refine gate_callee (f := 138) rfl ?_); refine goesL_ (some 40) rfl rfl Try.func138 (by kernel_rfl) rfl #[.int .i64 x8_2, .int .i64 a0_1, .int .i64 a2] rfl (by (try simp only [Zm1, Zm2, Zm3]); first | done | rfl | (simp only [ZlL, ZlT]; rfl)) ?_; (with_reducible refine (spec_l7From.calls x8_2 a0_1 a2 t297 _ A24.out).mono ?_); rintro e w' ⟨rfl, ⟨nd, rfl⟩⟩; refine ⟨_, rfl, ?_⟩))
     go_loopg [10] k2 (fun kq v10 w' => ∃ (x10_3 : Int) (x297002_3 : List Int) (u297002 : Value), v10 = .int .i64 x10_3 ∧ Aside0 (spec_Resize.l1 kq a1 a2 x8_2 t297 x10_3 a0_0 a0_1 l0_2 a1 a2 x297002_3 = some (r1, r2, r3)) ∧ Aside0 (kq ≤ k2) ∧ Aside0 (Kd.R (Kd.int .i64) 3 w' w.heap.size (fun _ => True) u297002 x297002_3) ∧ Aside0 (w'.heap[gb292]? = some (.cells #[.int .i64 a0_0, .int .i64 a0_1, (.slice A0_2 l0_2.length c0_2)] 82 (0, 0))) ∧ Aside0 (w'.heap[gb293]? = some (.cells #[.int .i64 0, .int .i64 0, (.slice none 0 0)] 82 (0, 0))) ∧ Aside0 (w'.heap[gb296]? = some (.cells #[.int .i64 a1, .int .i64 a2, u297002] 82 (0, 0))) ∧ Aside0 (Below w.heap.size w w'))
     case atStart => exact ⟨(0), (x297002_2), (u297002), (by first | rfl | (simp; done) | (simp [*]; done)), H', ⟨Nat.le_refl _⟩, ⟨by (with_reducible repeat (first | apply ZrA | apply ZrW | apply ZrD)); exact HO_297002.out⟩, ⟨by (with_reducible repeat (first | refine ZbW ?_ _ | refine ZbD ?_ | refine ZbA ?_ _)); exact BK292.out⟩, ⟨by (with_reducible repeat (first | refine ZbW ?_ _ | refine ZbD ?_ | refine ZbA ?_ _)); exact BK293.out⟩, ⟨by (with_reducible repeat (first | refine ZbW ?_ _ | refine ZbD ?_ | refine ZbA ?_ _)); exact BK296.out⟩, ⟨by repeat (first | (with_reducible first | exact HB.out | apply ZhA | apply ZhW | apply ZhD | refine ZhS ?_ GE292.out | refine ZhS ?_ GE293.out | refine ZhS ?_ GE296.out) | exact HB.out)⟩⟩
     case round =>
      clear H'
      try clear c1
      try clear c2
      try clear p2
      try clear c5
      try clear c6
      try clear c8
      try clear c10
      try clear c13
      try clear c16
      try clear c17
      try clear c20
      try clear c21
      try clear c23
      try clear c23b0
      try clear c25
      try clear c26
      try clear hcz11_0
      try clear hcz11_1
      try clear hcz11_2
      try clear hcz14_0
      try clear hcz14_1
      try clear hcz14_2
      try clear hcz18_0
      try clear hcz18_1
      try clear hcz18_2
      try clear hcz22_0
      try clear hcz22_1
      try clear hcz22_2
      try clear hcz27_0
      try clear hcz27_1
      try clear hcz27_2
      try clear hfz11_0
      try clear hfz11_1
      try clear hfz11_2
      try clear hfz14_0
      try clear hfz14_1
      try clear hfz14_2
      try clear hfz18_0
      try clear hfz18_1
      try clear hfz18_2
      try clear hfz22_0
      try clear hfz22_1
      try clear hfz22_2
      try clear hfz27_0
      try clear hfz27_1
      try clear hfz27_2
      try clear p2
      obtain ⟨x10_3, x297002_3, u297002, rfl, HA, HK3, HO_297002, BK292, BK293, BK296, HB⟩ := hrel
      cases gk with
      | zero => exact absurd HA.out (by simp [spec_Resize.l1])
      | succ k3 =>
       have H := HA.out
       clear HA
       simp only [spec_Resize.l1] at H
       by_cases c28 : x10_3 < a1
       rotate_left
       ·rw [if_neg c28] at H
        have c28b0 : decide (x10_3 < a1) = false := decide_eq_false c28
        clear c28
        have H' := Zam H
        clear H
        go_wp2
        go_roundg k3
        case measure => have := HJ3.out; have := HK2.out; have := HK3.out; omega
        case rel => exact ⟨(wrap64 (x8_2 + 1)), (x297002_3), (u297002), (by first | rfl | (simp; done) | (simp [*]; done)), H', ⟨by have := HJ3.out; have := HK2.out; have := HK3.out; omega⟩, ⟨by (with_reducible repeat (first | apply ZrA | apply ZrW | apply ZrD)); exact HO_297002.out⟩, ⟨by (with_reducible repeat (first | refine ZbW ?_ _ | refine ZbD ?_ | refine ZbA ?_ _)); exact BK292.out⟩, ⟨by (with_reducible repeat (first | refine ZbW ?_ _ | refine ZbD ?_ | refine ZbA ?_ _)); exact BK293.out⟩, ⟨by (with_reducible repeat (first | refine ZbW ?_ _ | refine ZbD ?_ | refine ZbA ?_ _)); exact BK296.out⟩, ⟨by repeat (first | (with_reducible first | exact HB.out | apply ZhA | apply ZhW | apply ZhD | refine ZhS ?_ GE292.out | refine ZhS ?_ GE293.out | refine ZhS ?_ GE296.out) | exact HB.out)⟩⟩
       rw [if_pos c28] at H
       have c28b0 : decide (x10_3 < a1) = true := decide_eq_true c28
       clear c28
       replace H := Zob.mp H
       obtain ⟨t298, A290, H⟩ := H
       replace H : ((spec_l7At.f k3 a0_0 a0_1 l0_2 (t298 / 256) (t297 / 256)).bind fun t299 => ((spec_l7At.f k3 a0_0 a0_1 l0_2 (wrap64 ((t298 / 256) + 1)) (t297 / 256)).bind fun t300 => ((spec_l7At.f k3 a0_0 a0_1 l0_2 (t298 / 256) (wrap64 ((t297 / 256) + 1))).bind fun t301 => ((spec_l7At.f k3 a0_0 a0_1 l0_2 (wrap64 ((t298 / 256) + 1)) (wrap64 ((t297 / 256) + 1))).bind fun t302 => (if x297002_3.length < 17592186044416 then (spec_Resize.l1 k3 a1 a2 x8_2 t297 (wrap64 (x10_3 + 1)) a0_0 a0_1 l0_2 a1 a2 (x297002_3 ++ [(wrap64 ((wrap64 ((wrap64 ((wrap64 (256 - (Go.bits .and .i64 t297 255))) * (wrap64 ((wrap64 ((wrap64 (256 - (Go.bits .and .i64 t298 255))) * t299)) + (wrap64 ((Go.bits .and .i64 t298 255) * t300)))))) + (wrap64 ((Go.bits .and .i64 t297 255) * (wrap64 ((wrap64 ((wrap64 (256 - (Go.bits .and .i64 t298 255))) * t301)) + (wrap64 ((Go.bits .and .i64 t298 255) * t302)))))))) + 32768)) / 65536])) else (none)))))) = some (r1, r2, r3) := H
       have A29 := Zam A290
       clear A290
       replace H := Zob.mp H
       obtain ⟨t299, A300, H⟩ := H
       replace H : ((spec_l7At.f k3 a0_0 a0_1 l0_2 (wrap64 ((t298 / 256) + 1)) (t297 / 256)).bind fun t300 => ((spec_l7At.f k3 a0_0 a0_1 l0_2 (t298 / 256) (wrap64 ((t297 / 256) + 1))).bind fun t301 => ((spec_l7At.f k3 a0_0 a0_1 l0_2 (wrap64 ((t298 / 256) + 1)) (wrap64 ((t297 / 256) + 1))).bind fun t302 => (if x297002_3.length < 17592186044416 then (spec_Resize.l1 k3 a1 a2 x8_2 t297 (wrap64 (x10_3 + 1)) a0_0 a0_1 l0_2 a1 a2 (x297002_3 ++ [(wrap64 ((wrap64 ((wrap64 ((wrap64 (256 - (Go.bits .and .i64 t297 255))) * (wrap64 ((wrap64 ((wrap64 (256 - (Go.bits .and .i64 t298 255))) * t299)) + (wrap64 ((Go.bits .and .i64 t298 255) * t300)))))) + (wrap64 ((Go.bits .and .i64 t297 255) * (wrap64 ((wrap64 ((wrap64 (256 - (Go.bits .and .i64 t298 255))) * t301)) + (wrap64 ((Go.bits .and .i64 t298 255) * t302)))))))) + 32768)) / 65536])) else (none))))) = some (r1, r2, r3) := H
       have A30 := Zam A300
       clear A300
       replace H := Zob.mp H
       obtain ⟨t300, A310, H⟩ := H
       replace H : ((spec_l7At.f k3 a0_0 a0_1 l0_2 (t298 / 256) (wrap64 ((t297 / 256) + 1))).bind fun t301 => ((spec_l7At.f k3 a0_0 a0_1 l0_2 (wrap64 ((t298 / 256) + 1)) (wrap64 ((t297 / 256) + 1))).bind fun t302 => (if x297002_3.length < 17592186044416 then (spec_Resize.l1 k3 a1 a2 x8_2 t297 (wrap64 (x10_3 + 1)) a0_0 a0_1 l0_2 a1 a2 (x297002_3 ++ [(wrap64 ((wrap64 ((wrap64 ((wrap64 (256 - (Go.bits .and .i64 t297 255))) * (wrap64 ((wrap64 ((wrap64 (256 - (Go.bits .and .i64 t298 255))) * t299)) + (wrap64 ((Go.bits .and .i64 t298 255) * t300)))))) + (wrap64 ((Go.bits .and .i64 t297 255) * (wrap64 ((wrap64 ((wrap64 (256 - (Go.bits .and .i64 t298 255))) * t301)) + (wrap64 ((Go.bits .and .i64 t298 255) * t302)))))))) + 32768)) / 65536])) else (none)))) = some (r1, r2, r3) := H
       have A31 := Zam A310
       clear A310
       replace H := Zob.mp H
       obtain ⟨t301, A320, H⟩ := H
       replace H : ((spec_l7At.f k3 a0_0 a0_1 l0_2 (wrap64 ((t298 / 256) + 1)) (wrap64 ((t297 / 256) + 1))).bind fun t302 => (if x297002_3.length < 17592186044416 then (spec_Resize.l1 k3 a1 a2 x8_2 t297 (wrap64 (x10_3 + 1)) a0_0 a0_1 l0_2 a1 a2 (x297002_3 ++ [(wrap64 ((wrap64 ((wrap64 ((wrap64 (256 - (Go.bits .and .i64 t297 255))) * (wrap64 ((wrap64 ((wrap64 (256 - (Go.bits .and .i64 t298 255))) * t299)) + (wrap64 ((Go.bits .and .i64 t298 255) * t300)))))) + (wrap64 ((Go.bits .and .i64 t297 255) * (wrap64 ((wrap64 ((wrap64 (256 - (Go.bits .and .i64 t298 255))) * t301)) + (wrap64 ((Go.bits .and .i64 t298 255) * t302)))))))) + 32768)) / 65536])) else (none))) = some (r1, r2, r3) := H
       have A32 := Zam A320
       clear A320
       replace H := Zob.mp H
       obtain ⟨t302, A330, H⟩ := H
       replace H : (if x297002_3.length < 17592186044416 then (spec_Resize.l1 k3 a1 a2 x8_2 t297 (wrap64 (x10_3 + 1)) a0_0 a0_1 l0_2 a1 a2 (x297002_3 ++ [(wrap64 ((wrap64 ((wrap64 ((wrap64 (256 - (Go.bits .and .i64 t297 255))) * (wrap64 ((wrap64 ((wrap64 (256 - (Go.bits .and .i64 t298 255))) * t299)) + (wrap64 ((Go.bits .and .i64 t298 255) * t300)))))) + (wrap64 ((Go.bits .and .i64 t297 255) * (wrap64 ((wrap64 ((wrap64 (256 - (Go.bits .and .i64 t298 255))) * t301)) + (wrap64 ((Go.bits .and .i64 t298 255) * t302)))))))) + 32768)) / 65536])) else (none)) = some (r1, r2, r3) := H
       have A33 := Zam A330
       clear A330
       by_cases c34 : x297002_3.length < 17592186044416
       rotate_left
       ·rw [if_neg c34] at H
        exact absurd H (by simp)
       rw [if_pos c34] at H
       have LMc34 := Zam c34
       clear c34
       obtain ⟨y303, hy303⟩ : ∃ y_ : List Int, y_ = (x297002_3 ++ [(wrap64 ((wrap64 ((wrap64 ((wrap64 (256 - (Go.bits .and .i64 t297 255))) * (wrap64 ((wrap64 ((wrap64 (256 - (Go.bits .and .i64 t298 255))) * t299)) + (wrap64 ((Go.bits .and .i64 t298 255) * t300)))))) + (wrap64 ((Go.bits .and .i64 t297 255) * (wrap64 ((wrap64 ((wrap64 (256 - (Go.bits .and .i64 t298 255))) * t301)) + (wrap64 ((Go.bits .and .i64 t298 255) * t302)))))))) + 32768)) / 65536]) := ⟨_, rfl⟩
       replace H : (spec_Resize.l1 k3 a1 a2 x8_2 t297 (wrap64 (x10_3 + 1)) a0_0 a0_1 l0_2 a1 a2 y303) = some (r1, r2, r3) := by first | (rw [hy303]; with_reducible exact H) | (have H2_ := (Option.bind_some _ _).symm.trans H; rw [hy303]; with_reducible exact H2_) | (have H2_ := (Option.bind_some _ _).symm.trans H; with_reducible exact H2_) | with_reducible exact H | (rw [hy303]; exact H) | exact H
       have Ny303 := Zam hy303
       clear hy303
       have H' := Zam H
       clear H
       have hnb35 := NB292_293.out
       have hnc35 := NB293_292.out
       have hnb36 := NB292_296.out
       have hnc36 := NB296_292.out
       have hcz37_0 : wr.cell? ⟨gb292, 0, none⟩ = some (.int .i64 a0_0) := (ZbC BK292.out 0).trans rfl
       have hcz37_1 : wr.cell? ⟨gb292, 1, none⟩ = some (.int .i64 a0_1) := (ZbC BK292.out 1).trans rfl
       have hcz37_2 : wr.cell? ⟨gb292, 2, none⟩ = some (.slice A0_2 l0_2.length c0_2) := (ZbC BK292.out 2).trans rfl
       have hfz37_0 := ZbF BK292.out 0
       have hfz37_1 := ZbF BK292.out 1
       have hfz37_2 := ZbF BK292.out 2
       try go_wp2_with (first | ((with_reducible refine gate_callee (f := 138) rfl ?_); refine goesL_ (some 50) rfl rfl Try.func138 (by kernel_rfl) rfl #[.int .i64 x10_3, .int .i64 a0_0, .int .i64 a1] rfl (by (try simp only [Zm1, Zm2, Zm3]); first | done | rfl | (simp only [ZlL, ZlT]; rfl)) ?_; (with_reducible refine (spec_l7From.calls x10_3 a0_0 a1 t298 _ A29.out).mono ?_); rintro e w' ⟨rfl, ⟨nd, rfl⟩⟩; refine ⟨_, rfl, ?_⟩; (try (rw [drewN_self wr]; generalize hq_ : World.drewN wr _ = wr; have n0_ : Aside0 (Kd.R (Kd.int .i64) 3 wr w.heap.size (fun _ => True) u297002 x297002_3) := ⟨by rw [← hq_]; exact (by (with_reducible repeat (first | apply ZrA | apply ZrW | apply ZrD)); exact HO_297002.out)⟩; have n1_ : Aside0 (wr.heap[gb292]? = some (.cells #[.int .i64 a0_0, .int .i64 a0_1, .slice A0_2 l0_2.length c0_2] 82 (0, 0))) := ⟨by rw [← hq_]; exact (by (with_reducible repeat (first | refine ZbW ?_ _ | refine ZbD ?_ | refine ZbA ?_ _)); exact BK292.out)⟩; have n2_ : Aside0 (wr.heap[gb293]? = some (.cells #[.int .i64 0, .int .i64 0, .slice none 0 0] 82 (0, 0))) := ⟨by rw [← hq_]; exact (by (with_reducible repeat (first | refine ZbW ?_ _ | refine ZbD ?_ | refine ZbA ?_ _)); exact BK293.out)⟩; have n3_ : Aside0 (wr.heap[gb296]? = some (.cells #[.int .i64 a1, .int .i64 a2, u297002] 82 (0, 0))) := ⟨by rw [← hq_]; exact (by (with_reducible repeat (first | refine ZbW ?_ _ | refine ZbD ?_ | refine ZbA ?_ _)); exact BK296.out)⟩; have n4_ : Aside0 (Below w.heap.size w wr) := ⟨by rw [← hq_]; exact (by repeat (first | (with_reducible first | exact HB.out | apply ZhA | apply ZhW | apply ZhD | refine ZhS ?_ GE292.out | refine ZhS ?_ GE293.out | refine ZhS ?_ GE296.out) | exact HB.out))⟩; clear HO_297002 BK292 BK293 BK296 HB hq_; have HO_297002 := n0_; have BK292 := n1_; have BK293 := n2_; have BK296 := n3_; have HB := n4_; clear n0_ n1_ n2_ n3_ n4_))))
       have n0_ := Zam (ZrD HO_297002.out)
       have n1_ := Zam (ZbD BK292.out)
       have n2_ := Zam (ZbD BK293.out)
       have n3_ := Zam (ZbD BK296.out)
       have n4_ := Zam (ZhD HB.out)
       clear HO_297002
       clear BK292
       clear BK293
       clear BK296
       clear HB
       have HO_297002 := n0_
       have BK292 := n1_
       have BK293 := n2_
       have BK296 := n3_
       have HB := n4_
       clear n0_ n1_ n2_ n3_ n4_
       refine start_ (n := 16) (S := fun w' => w'.cell? ⟨gb292, 0, none⟩ = some (.int .i64 a0_0) ∧ w'.cell? ⟨gb292, 1, none⟩ = some (.int .i64 a0_1) ∧ w'.cell? ⟨gb292, 2, none⟩ = some (.slice A0_2 l0_2.length c0_2)) (ds := []) #[false, false, false, false, false, false, false, false, false, false, false, false, false, false, false, false] (by kernel_rfl) rfl rfl ⟨(ZbC BK292.out 0).trans rfl, (ZbC BK292.out 1).trans rfl, (ZbC BK292.out 2).trans rfl⟩ (fun hHeld => ?_); refine with_tabW spec_Resize.tab16 spec_Resize.bits16 (fun HT_ HW_ => ?_)
       generalize wr.drew = w38 at HO_297002 BK292 BK293 BK296 HB hHeld ⊢
       refine pure_ (i := 0) (N := some 59) (v := ?_) (a' := ?_) #[true, false, false, false, false, false, false, false, false, false, false, false, false, false, false, false] rfl rfl (any_of HT_.out (by kernel_rfl)) (fun _ _ _ h => h) (Or.inl ⟨by rfl, ?_⟩) ?_ ?_
       rotate_left
       ·intro w'
        go_simp
        with_reducible rfl
       rotate_left
       ·simp only [Act.put, Zl1, Zl2, Zl3, i64_w, i32_w]
        rfl
       refine pure_ (i := 1) (N := some 60) (v := ?_) (a' := ?_) #[true, true, false, false, false, false, false, false, false, false, false, false, false, false, false, false] rfl rfl (any_of HT_.out (by kernel_rfl)) (fun _ _ _ h => h) (Or.inl ⟨by rfl, ?_⟩) ?_ ?_
       rotate_left
       ·intro w'
        go_simp
        with_reducible rfl
       rotate_left
       ·simp only [Act.put, Zl1, Zl2, Zl3, i64_w, i32_w]
        rfl
       refine pure_ (i := 3) (N := some 62) (v := ?_) (a' := ?_) #[true, true, false, true, false, false, false, false, false, false, false, false, false, false, false, false] rfl rfl (any_of HT_.out (by kernel_rfl)) (fun _ _ _ h => h) (Or.inl ⟨by rfl, ?_⟩) ?_ ?_
       rotate_left
       ·intro w'
        go_simp
        with_reducible rfl
       rotate_left
       ·simp only [Act.put, Zl1, Zl2, Zl3, i64_w, i32_w]
        rfl
       refine pure_ (i := 4) (N := some 63) (v := ?_) (a' := ?_) #[true, true, false, true, true, false, false, false, false, false, false, false, false, false, false, false] rfl rfl (any_of HT_.out (by kernel_rfl)) (fun _ _ _ h => h) (Or.inl ⟨by rfl, ?_⟩) ?_ ?_
       rotate_left
       ·intro w'
        go_simp
        with_reducible rfl
       rotate_left
       ·simp only [Act.put, Zl1, Zl2, Zl3, i64_w, i32_w]
        rfl
       refine pure_ (i := 7) (N := some 66) (v := ?_) (a' := ?_) #[true, true, false, true, true, false, false, true, false, false, false, false, false, false, false, false] rfl rfl (any_of HT_.out (by kernel_rfl)) (fun _ _ _ h => h) (Or.inl ⟨by rfl, ?_⟩) ?_ ?_
       rotate_left
       ·intro w'
        go_simp
        with_reducible rfl
       rotate_left
       ·simp only [Act.put, Zl1, Zl2, Zl3, i64_w, i32_w]
        rfl
       refine pure_ (i := 9) (N := some 68) (v := ?_) (a' := ?_) #[true, true, false, true, true, false, false, true, false, true, false, false, false, false, false, false] rfl rfl (any_of HT_.out (by kernel_rfl)) (fun _ _ _ h => h) (Or.inl ⟨by rfl, ?_⟩) ?_ ?_
       rotate_left
       ·intro w'
        go_simp
        with_reducible rfl
       rotate_left
       ·simp only [Act.put, Zl1, Zl2, Zl3, i64_w, i32_w]
        rfl
       refine pure_ (i := 10) (N := some 69) (v := ?_) (a' := ?_) #[true, true, false, true, true, false, false, true, false, true, true, false, false, false, false, false] rfl rfl (any_of HT_.out (by kernel_rfl)) (fun _ _ _ h => h) (Or.inl ⟨by rfl, ?_⟩) ?_ ?_
       rotate_left
       ·intro w'
        go_simp
        with_reducible rfl
       rotate_left
       ·simp only [Act.put, Zl1, Zl2, Zl3, i64_w, i32_w]
        rfl
       refine pure_ (i := 11) (N := some 70) (v := ?_) (a' := ?_) #[true, true, false, true, true, false, false, true, false, true, true, true, false, false, false, false] rfl rfl (any_of HT_.out (by kernel_rfl)) (fun _ _ _ h => h) (Or.inl ⟨by rfl, ?_⟩) ?_ ?_
       rotate_left
       ·intro w'
        go_simp
        with_reducible rfl
       rotate_left
       ·simp only [Act.put, Zl1, Zl2, Zl3, i64_w, i32_w]
        rfl
       refine take_ (i := 2) (N := some 61) (v := ?_) (a' := ?_) #[true, true, true, true, true, false, false, true, false, true, true, true, false, false, false, false] rfl rfl (take_ofW HT_.out HW_.out (by kernel_rfl)) (fun _ _ _ h => h) (Or.inl ⟨by rfl, ?_⟩) hHeld ?_ ?_
       rotate_left
       ·rintro w' ⟨s0, s1, s2⟩
        go_simp
        with_reducible rfl
       rotate_left
       ·simp only [Act.put, Zl1, Zl2, Zl3, i64_w, i32_w]
        rfl
       refine take_ (i := 8) (N := some 67) (v := ?_) (a' := ?_) #[true, true, true, true, true, false, false, true, true, true, true, true, false, false, false, false] rfl rfl (take_ofW HT_.out HW_.out (by kernel_rfl)) (fun _ _ _ h => h) (Or.inl ⟨by rfl, ?_⟩) hHeld ?_ ?_
       rotate_left
       ·rintro w' ⟨s0, s1, s2⟩
        go_simp
        with_reducible rfl
       rotate_left
       ·simp only [Act.put, Zl1, Zl2, Zl3, i64_w, i32_w]
        rfl
       refine one_ (i := 5) (N := some 64) #[true, true, true, true, true, true, false, true, true, true, true, true, false, false, false, false] rfl rfl (one_of HT_.out (by kernel_rfl)) (by decide) (fun K hK => ?_)
       refine goes_ Try.func139 (by kernel_rfl) rfl #[.agg #[.int .i64 a0_0, .int .i64 a0_1, .slice A0_2 l0_2.length c0_2], .int .i64 (t298 / 256), .int .i64 (t297 / 256)] (by rfl) rfl rfl (by (try simp only [Zm1, Zm2, Zm3]); first | done | rfl | (simp only [ZlL, ZlT]; rfl)) ?_
       with_reducible refine (spec_l7At.calls k3 a0_0 a0_1 _ _ l0_2 (t298 / 256) (t297 / 256) t299 _ ?side1 ?side2 A30.out).mono ?_
       (case side1 => repeat (first | exact (Kd.C_below HR0_2.out HB.out) | (with_reducible refine Kd.C_alloc ?_ _) | (with_reducible refine Kd.C_drewN ?_ _) | (with_reducible refine Kd.C_drew ?_)))
       (case side2 => exact HC0_2.out)
       rintro e w39 ⟨rfl, hb⟩
       refine ⟨_, rfl, ?_⟩
       have n0_ := Zam (Kd.R_below (by (with_reducible repeat (first | apply ZrA | apply ZrW | apply ZrD)); exact HO_297002.out) hb)
       have n1_ := Zam (ZbB (g := gb292) (o := .cells #[.int .i64 a0_0, .int .i64 a0_1, .slice A0_2 l0_2.length c0_2] 82 (0, 0)) (by (with_reducible repeat (first | refine ZbW ?_ _ | refine ZbD ?_ | refine ZbA ?_ _)); exact BK292.out) hb)
       have n2_ := Zam (ZbB (g := gb293) (o := .cells #[.int .i64 0, .int .i64 0, .slice none 0 0] 82 (0, 0)) (by (with_reducible repeat (first | refine ZbW ?_ _ | refine ZbD ?_ | refine ZbA ?_ _)); exact BK293.out) hb)
       have n3_ := Zam (ZbB (g := gb296) (o := .cells #[.int .i64 a1, .int .i64 a2, u297002] 82 (0, 0)) (by (with_reducible repeat (first | refine ZbW ?_ _ | refine ZbD ?_ | refine ZbA ?_ _)); exact BK296.out) hb)
       have n4_ := Zam (ZbS (by repeat (first | (with_reducible first | exact HB.out | apply ZhA | apply ZhW | apply ZhD | refine ZhS ?_ GE292.out | refine ZhS ?_ GE293.out | refine ZhS ?_ GE296.out) | exact HB.out)) hb)
       clear HO_297002
       clear BK292
       clear BK293
       clear BK296
       clear HB
       have HO_297002 := n0_
       have BK292 := n1_
       have BK293 := n2_
       have BK296 := n3_
       have HB := n4_
       clear n0_ n1_ n2_ n3_ n4_
       (try clear hb)
       (try clear hb2)
       (try clear hk)
       (try clear hi)
       refine hK.out _ _ ⟨(ZbC BK292.out 0).trans rfl, (ZbC BK292.out 1).trans rfl, (ZbC BK292.out 2).trans rfl⟩ (fun hHeld => ?_)
       clear hK K
       refine norm_ (a' := ?_) ?_ ?_
       rotate_left
       ·show Act.put _ (some 64) _ = _
        simp only [Act.put, Zl1, Zl2, Zl3, i64_w, i32_w]
        rfl
       refine pure_ (i := 6) (N := some 65) (v := ?_) (a' := ?_) #[true, true, true, true, true, true, true, true, true, true, true, true, false, false, false, false] rfl rfl (any_of HT_.out (by kernel_rfl)) (fun _ _ _ h => h) (Or.inl ⟨by rfl, ?_⟩) ?_ ?_
       rotate_left
       ·intro w'
        go_simp
        with_reducible rfl
       rotate_left
       ·simp only [Act.put, Zl1, Zl2, Zl3, i64_w, i32_w]
        rfl
       refine one_ (i := 12) (N := some 71) #[true, true, true, true, true, true, true, true, true, true, true, true, true, false, false, false] rfl rfl (one_of HT_.out (by kernel_rfl)) (by decide) (fun K hK => ?_)
       refine goes_ Try.func139 (by kernel_rfl) rfl #[.agg #[.int .i64 a0_0, .int .i64 a0_1, .slice A0_2 l0_2.length c0_2], .int .i64 (wrap64 ((t298 / 256) + 1)), .int .i64 (t297 / 256)] (by rfl) rfl rfl (by (try simp only [Zm1, Zm2, Zm3]); first | done | rfl | (simp only [ZlL, ZlT]; rfl)) ?_
       with_reducible refine (spec_l7At.calls k3 a0_0 a0_1 _ _ l0_2 (wrap64 ((t298 / 256) + 1)) (t297 / 256) t300 _ ?side1 ?side2 A31.out).mono ?_
       (case side1 => repeat (first | exact (Kd.C_below HR0_2.out HB.out) | (with_reducible refine Kd.C_alloc ?_ _) | (with_reducible refine Kd.C_drewN ?_ _) | (with_reducible refine Kd.C_drew ?_)))
       (case side2 => exact HC0_2.out)
       rintro e w40 ⟨rfl, hb⟩
       refine ⟨_, rfl, ?_⟩
       have n0_ := Zam (Kd.R_below (by (with_reducible repeat (first | apply ZrA | apply ZrW | apply ZrD)); exact HO_297002.out) hb)
       have n1_ := Zam (ZbB (g := gb292) (o := .cells #[.int .i64 a0_0, .int .i64 a0_1, .slice A0_2 l0_2.length c0_2] 82 (0, 0)) (by (with_reducible repeat (first | refine ZbW ?_ _ | refine ZbD ?_ | refine ZbA ?_ _)); exact BK292.out) hb)
       have n2_ := Zam (ZbB (g := gb293) (o := .cells #[.int .i64 0, .int .i64 0, .slice none 0 0] 82 (0, 0)) (by (with_reducible repeat (first | refine ZbW ?_ _ | refine ZbD ?_ | refine ZbA ?_ _)); exact BK293.out) hb)
       have n3_ := Zam (ZbB (g := gb296) (o := .cells #[.int .i64 a1, .int .i64 a2, u297002] 82 (0, 0)) (by (with_reducible repeat (first | refine ZbW ?_ _ | refine ZbD ?_ | refine ZbA ?_ _)); exact BK296.out) hb)
       have n4_ := Zam (ZbS (by repeat (first | (with_reducible first | exact HB.out | apply ZhA | apply ZhW | apply ZhD | refine ZhS ?_ GE292.out | refine ZhS ?_ GE293.out | refine ZhS ?_ GE296.out) | exact HB.out)) hb)
       clear HO_297002
       clear BK292
       clear BK293
       clear BK296
       clear HB
       have HO_297002 := n0_
       have BK292 := n1_
       have BK293 := n2_
       have BK296 := n3_
       have HB := n4_
       clear n0_ n1_ n2_ n3_ n4_
       (try clear hb)
       (try clear hb2)
       (try clear hk)
       (try clear hi)
       refine hK.out _ _ ⟨(ZbC BK292.out 0).trans rfl, (ZbC BK292.out 1).trans rfl, (ZbC BK292.out 2).trans rfl⟩ (fun hHeld => ?_)
       clear hK K
       refine norm_ (a' := ?_) ?_ ?_
       rotate_left
       ·show Act.put _ (some 71) _ = _
        simp only [Act.put, Zl1, Zl2, Zl3, i64_w, i32_w]
        rfl
       refine pure_ (i := 13) (N := some 72) (v := ?_) (a' := ?_) #[true, true, true, true, true, true, true, true, true, true, true, true, true, true, false, false] rfl rfl (any_of HT_.out (by kernel_rfl)) (fun _ _ _ h => h) (Or.inl ⟨by rfl, ?_⟩) ?_ ?_
       rotate_left
       ·intro w'
        go_simp
        with_reducible rfl
       rotate_left
       ·simp only [Act.put, Zl1, Zl2, Zl3, i64_w, i32_w]
        rfl
       refine pure_ (i := 14) (N := some 73) (v := ?_) (a' := ?_) #[true, true, true, true, true, true, true, true, true, true, true, true, true, true, true, false] rfl rfl (any_of HT_.out (by kernel_rfl)) (fun _ _ _ h => h) (Or.inl ⟨by rfl, ?_⟩) ?_ ?_
       rotate_left
       ·intro w'
        go_simp
        with_reducible rfl
       rotate_left
       ·simp only [Act.put, Zl1, Zl2, Zl3, i64_w, i32_w]
        rfl
       refine pure_ (i := 15) (N := some 16) (v := ?_) (a' := ?_) #[true, true, true, true, true, true, true, true, true, true, true, true, true, true, true, true] rfl rfl (any_of HT_.out (by kernel_rfl)) (fun _ _ _ h => h) (Or.inl ⟨by rfl, ?_⟩) ?_ ?_
       rotate_left
       ·intro w'
        go_simp
        with_reducible rfl
       rotate_left
       ·simp only [Act.put, Zl1, Zl2, Zl3, i64_w, i32_w]
        rfl
       refine done_ (done_of HT_.out (by kernel_rfl)) ?_
       try go_wp2
       have n0_ := Zam (ZrD HO_297002.out)
       have n1_ := Zam (ZbD BK292.out)
       have n2_ := Zam (ZbD BK293.out)
       have n3_ := Zam (ZbD BK296.out)
       have n4_ := Zam (ZhD HB.out)
       clear HO_297002
       clear BK292
       clear BK293
       clear BK296
       clear HB
       have HO_297002 := n0_
       have BK292 := n1_
       have BK293 := n2_
       have BK296 := n3_
       have HB := n4_
       clear n0_ n1_ n2_ n3_ n4_
       refine start_ (n := 18) (S := fun w' => w'.cell? ⟨gb292, 0, none⟩ = some (.int .i64 a0_0) ∧ w'.cell? ⟨gb292, 1, none⟩ = some (.int .i64 a0_1) ∧ w'.cell? ⟨gb292, 2, none⟩ = some (.slice A0_2 l0_2.length c0_2)) (ds := []) #[false, false, false, false, false, false, false, false, false, false, false, false, false, false, false, false, false, false] (by kernel_rfl) rfl rfl ⟨(ZbC BK292.out 0).trans rfl, (ZbC BK292.out 1).trans rfl, (ZbC BK292.out 2).trans rfl⟩ (fun hHeld => ?_); refine with_tabW spec_Resize.tab17 spec_Resize.bits17 (fun HT_ HW_ => ?_)
       generalize w40.drew = w41 at HO_297002 BK292 BK293 BK296 HB hHeld ⊢
       refine pure_ (i := 0) (N := some 74) (v := ?_) (a' := ?_) #[true, false, false, false, false, false, false, false, false, false, false, false, false, false, false, false, false, false] rfl rfl (any_of HT_.out (by kernel_rfl)) (fun _ _ _ h => h) (Or.inl ⟨by rfl, ?_⟩) ?_ ?_
       rotate_left
       ·intro w'
        go_simp
        with_reducible rfl
       rotate_left
       ·simp only [Act.put, Zl1, Zl2, Zl3, i64_w, i32_w]
        rfl
       refine pure_ (i := 1) (N := some 75) (v := ?_) (a' := ?_) #[true, true, false, false, false, false, false, false, false, false, false, false, false, false, false, false, false, false] rfl rfl (any_of HT_.out (by kernel_rfl)) (fun _ _ _ h => h) (Or.inl ⟨by rfl, ?_⟩) ?_ ?_
       rotate_left
       ·intro w'
        go_simp
        with_reducible rfl
       rotate_left
       ·simp only [Act.put, Zl1, Zl2, Zl3, i64_w, i32_w]
        rfl
       refine pure_ (i := 3) (N := some 77) (v := ?_) (a' := ?_) #[true, true, false, true, false, false, false, false, false, false, false, false, false, false, false, false, false, false] rfl rfl (any_of HT_.out (by kernel_rfl)) (fun _ _ _ h => h) (Or.inl ⟨by rfl, ?_⟩) ?_ ?_
       rotate_left
       ·intro w'
        go_simp
        with_reducible rfl
       rotate_left
       ·simp only [Act.put, Zl1, Zl2, Zl3, i64_w, i32_w]
        rfl
       refine pure_ (i := 4) (N := some 78) (v := ?_) (a' := ?_) #[true, true, false, true, true, false, false, false, false, false, false, false, false, false, false, false, false, false] rfl rfl (any_of HT_.out (by kernel_rfl)) (fun _ _ _ h => h) (Or.inl ⟨by rfl, ?_⟩) ?_ ?_
       rotate_left
       ·intro w'
        go_simp
        with_reducible rfl
       rotate_left
       ·simp only [Act.put, Zl1, Zl2, Zl3, i64_w, i32_w]
        rfl
       refine pure_ (i := 5) (N := some 79) (v := ?_) (a' := ?_) #[true, true, false, true, true, true, false, false, false, false, false, false, false, false, false, false, false, false] rfl rfl (any_of HT_.out (by kernel_rfl)) (fun _ _ _ h => h) (Or.inl ⟨by rfl, ?_⟩) ?_ ?_
       rotate_left
       ·intro w'
        go_simp
        with_reducible rfl
       rotate_left
       ·simp only [Act.put, Zl1, Zl2, Zl3, i64_w, i32_w]
        rfl
       refine pure_ (i := 8) (N := some 82) (v := ?_) (a' := ?_) #[true, true, false, true, true, true, false, false, true, false, false, false, false, false, false, false, false, false] rfl rfl (any_of HT_.out (by kernel_rfl)) (fun _ _ _ h => h) (Or.inl ⟨by rfl, ?_⟩) ?_ ?_
       rotate_left
       ·intro w'
        go_simp
        with_reducible rfl
       rotate_left
       ·simp only [Act.put, Zl1, Zl2, Zl3, i64_w, i32_w]
        rfl
       refine pure_ (i := 10) (N := some 84) (v := ?_) (a' := ?_) #[true, true, false, true, true, true, false, false, true, false, true, false, false, false, false, false, false, false] rfl rfl (any_of HT_.out (by kernel_rfl)) (fun _ _ _ h => h) (Or.inl ⟨by rfl, ?_⟩) ?_ ?_
       rotate_left
       ·intro w'
        go_simp
        with_reducible rfl
       rotate_left
       ·simp only [Act.put, Zl1, Zl2, Zl3, i64_w, i32_w]
        rfl
       refine pure_ (i := 11) (N := some 85) (v := ?_) (a' := ?_) #[true, true, false, true, true, true, false, false, true, false, true, true, false, false, false, false, false, false] rfl rfl (any_of HT_.out (by kernel_rfl)) (fun _ _ _ h => h) (Or.inl ⟨by rfl, ?_⟩) ?_ ?_
       rotate_left
       ·intro w'
        go_simp
        with_reducible rfl
       rotate_left
       ·simp only [Act.put, Zl1, Zl2, Zl3, i64_w, i32_w]
        rfl
       refine pure_ (i := 12) (N := some 86) (v := ?_) (a' := ?_) #[true, true, false, true, true, true, false, false, true, false, true, true, true, false, false, false, false, false] rfl rfl (any_of HT_.out (by kernel_rfl)) (fun _ _ _ h => h) (Or.inl ⟨by rfl, ?_⟩) ?_ ?_
       rotate_left
       ·intro w'
        go_simp
        with_reducible rfl
       rotate_left
       ·simp only [Act.put, Zl1, Zl2, Zl3, i64_w, i32_w]
        rfl
       refine pure_ (i := 13) (N := some 87) (v := ?_) (a' := ?_) #[true, true, false, true, true, true, false, false, true, false, true, true, true, true, false, false, false, false] rfl rfl (any_of HT_.out (by kernel_rfl)) (fun _ _ _ h => h) (Or.inl ⟨by rfl, ?_⟩) ?_ ?_
       rotate_left
       ·intro w'
        go_simp
        with_reducible rfl
       rotate_left
       ·simp only [Act.put, Zl1, Zl2, Zl3, i64_w, i32_w]
        rfl
       refine take_ (i := 2) (N := some 76) (v := ?_) (a' := ?_) #[true, true, true, true, true, true, false, false, true, false, true, true, true, true, false, false, false, false] rfl rfl (take_ofW HT_.out HW_.out (by kernel_rfl)) (fun _ _ _ h => h) (Or.inl ⟨by rfl, ?_⟩) hHeld ?_ ?_
       rotate_left
       ·rintro w' ⟨s0, s1, s2⟩
        go_simp
        with_reducible rfl
       rotate_left
       ·simp only [Act.put, Zl1, Zl2, Zl3, i64_w, i32_w]
        rfl
       refine take_ (i := 9) (N := some 83) (v := ?_) (a' := ?_) #[true, true, true, true, true, true, false, false, true, true, true, true, true, true, false, false, false, false] rfl rfl (take_ofW HT_.out HW_.out (by kernel_rfl)) (fun _ _ _ h => h) (Or.inl ⟨by rfl, ?_⟩) hHeld ?_ ?_
       rotate_left
       ·rintro w' ⟨s0, s1, s2⟩
        go_simp
        with_reducible rfl
       rotate_left
       ·simp only [Act.put, Zl1, Zl2, Zl3, i64_w, i32_w]
        rfl
       refine one_ (i := 6) (N := some 80) #[true, true, true, true, true, true, true, false, true, true, true, true, true, true, false, false, false, false] rfl rfl (one_of HT_.out (by kernel_rfl)) (by decide) (fun K hK => ?_)
       refine goes_ Try.func139 (by kernel_rfl) rfl #[.agg #[.int .i64 a0_0, .int .i64 a0_1, .slice A0_2 l0_2.length c0_2], .int .i64 (t298 / 256), .int .i64 (wrap64 ((t297 / 256) + 1))] (by rfl) rfl rfl (by (try simp only [Zm1, Zm2, Zm3]); first | done | rfl | (simp only [ZlL, ZlT]; rfl)) ?_
       with_reducible refine (spec_l7At.calls k3 a0_0 a0_1 _ _ l0_2 (t298 / 256) (wrap64 ((t297 / 256) + 1)) t301 _ ?side1 ?side2 A32.out).mono ?_
       (case side1 => repeat (first | exact (Kd.C_below HR0_2.out HB.out) | (with_reducible refine Kd.C_alloc ?_ _) | (with_reducible refine Kd.C_drewN ?_ _) | (with_reducible refine Kd.C_drew ?_)))
       (case side2 => exact HC0_2.out)
       rintro e w42 ⟨rfl, hb⟩
       refine ⟨_, rfl, ?_⟩
       have n0_ := Zam (Kd.R_below (by (with_reducible repeat (first | apply ZrA | apply ZrW | apply ZrD)); exact HO_297002.out) hb)
       have n1_ := Zam (ZbB (g := gb292) (o := .cells #[.int .i64 a0_0, .int .i64 a0_1, .slice A0_2 l0_2.length c0_2] 82 (0, 0)) (by (with_reducible repeat (first | refine ZbW ?_ _ | refine ZbD ?_ | refine ZbA ?_ _)); exact BK292.out) hb)
       have n2_ := Zam (ZbB (g := gb293) (o := .cells #[.int .i64 0, .int .i64 0, .slice none 0 0] 82 (0, 0)) (by (with_reducible repeat (first | refine ZbW ?_ _ | refine ZbD ?_ | refine ZbA ?_ _)); exact BK293.out) hb)
       have n3_ := Zam (ZbB (g := gb296) (o := .cells #[.int .i64 a1, .int .i64 a2, u297002] 82 (0, 0)) (by (with_reducible repeat (first | refine ZbW ?_ _ | refine ZbD ?_ | refine ZbA ?_ _)); exact BK296.out) hb)
       have n4_ := Zam (ZbS (by repeat (first | (with_reducible first | exact HB.out | apply ZhA | apply ZhW | apply ZhD | refine ZhS ?_ GE292.out | refine ZhS ?_ GE293.out | refine ZhS ?_ GE296.out) | exact HB.out)) hb)
       clear HO_297002
       clear BK292
       clear BK293
       clear BK296
       clear HB
       have HO_297002 := n0_
       have BK292 := n1_
       have BK293 := n2_
       have BK296 := n3_
       have HB := n4_
       clear n0_ n1_ n2_ n3_ n4_
       (try clear hb)
       (try clear hb2)
       (try clear hk)
       (try clear hi)
       refine hK.out _ _ ⟨(ZbC BK292.out 0).trans rfl, (ZbC BK292.out 1).trans rfl, (ZbC BK292.out 2).trans rfl⟩ (fun hHeld => ?_)
       clear hK K
       refine norm_ (a' := ?_) ?_ ?_
       rotate_left
       ·show Act.put _ (some 80) _ = _
        simp only [Act.put, Zl1, Zl2, Zl3, i64_w, i32_w]
        rfl
       refine pure_ (i := 7) (N := some 81) (v := ?_) (a' := ?_) #[true, true, true, true, true, true, true, true, true, true, true, true, true, true, false, false, false, false] rfl rfl (any_of HT_.out (by kernel_rfl)) (fun _ _ _ h => h) (Or.inl ⟨by rfl, ?_⟩) ?_ ?_
       rotate_left
       ·intro w'
        go_simp
        with_reducible rfl
       rotate_left
       ·simp only [Act.put, Zl1, Zl2, Zl3, i64_w, i32_w]
        rfl
       refine one_ (i := 14) (N := some 88) #[true, true, true, true, true, true, true, true, true, true, true, true, true, true, true, false, false, false] rfl rfl (one_of HT_.out (by kernel_rfl)) (by decide) (fun K hK => ?_)
       refine goes_ Try.func139 (by kernel_rfl) rfl #[.agg #[.int .i64 a0_0, .int .i64 a0_1, .slice A0_2 l0_2.length c0_2], .int .i64 (wrap64 ((t298 / 256) + 1)), .int .i64 (wrap64 ((t297 / 256) + 1))] (by rfl) rfl rfl (by (try simp only [Zm1, Zm2, Zm3]); first | done | rfl | (simp only [ZlL, ZlT]; rfl)) ?_
       with_reducible refine (spec_l7At.calls k3 a0_0 a0_1 _ _ l0_2 (wrap64 ((t298 / 256) + 1)) (wrap64 ((t297 / 256) + 1)) t302 _ ?side1 ?side2 A33.out).mono ?_
       (case side1 => repeat (first | exact (Kd.C_below HR0_2.out HB.out) | (with_reducible refine Kd.C_alloc ?_ _) | (with_reducible refine Kd.C_drewN ?_ _) | (with_reducible refine Kd.C_drew ?_)))
       (case side2 => exact HC0_2.out)
       rintro e w43 ⟨rfl, hb⟩
       refine ⟨_, rfl, ?_⟩
       have n0_ := Zam (Kd.R_below (by (with_reducible repeat (first | apply ZrA | apply ZrW | apply ZrD)); exact HO_297002.out) hb)
       have n1_ := Zam (ZbB (g := gb292) (o := .cells #[.int .i64 a0_0, .int .i64 a0_1, .slice A0_2 l0_2.length c0_2] 82 (0, 0)) (by (with_reducible repeat (first | refine ZbW ?_ _ | refine ZbD ?_ | refine ZbA ?_ _)); exact BK292.out) hb)
       have n2_ := Zam (ZbB (g := gb293) (o := .cells #[.int .i64 0, .int .i64 0, .slice none 0 0] 82 (0, 0)) (by (with_reducible repeat (first | refine ZbW ?_ _ | refine ZbD ?_ | refine ZbA ?_ _)); exact BK293.out) hb)
       have n3_ := Zam (ZbB (g := gb296) (o := .cells #[.int .i64 a1, .int .i64 a2, u297002] 82 (0, 0)) (by (with_reducible repeat (first | refine ZbW ?_ _ | refine ZbD ?_ | refine ZbA ?_ _)); exact BK296.out) hb)
       have n4_ := Zam (ZbS (by repeat (first | (with_reducible first | exact HB.out | apply ZhA | apply ZhW | apply ZhD | refine ZhS ?_ GE292.out | refine ZhS ?_ GE293.out | refine ZhS ?_ GE296.out) | exact HB.out)) hb)
       clear HO_297002
       clear BK292
       clear BK293
       clear BK296
       clear HB
       have HO_297002 := n0_
       have BK292 := n1_
       have BK293 := n2_
       have BK296 := n3_
       have HB := n4_
       clear n0_ n1_ n2_ n3_ n4_
       (try clear hb)
       (try clear hb2)
       (try clear hk)
       (try clear hi)
       refine hK.out _ _ ⟨(ZbC BK292.out 0).trans rfl, (ZbC BK292.out 1).trans rfl, (ZbC BK292.out 2).trans rfl⟩ (fun hHeld => ?_)
       clear hK K
       refine norm_ (a' := ?_) ?_ ?_
       rotate_left
       ·show Act.put _ (some 88) _ = _
        simp only [Act.put, Zl1, Zl2, Zl3, i64_w, i32_w]
        rfl
       refine pure_ (i := 15) (N := some 89) (v := ?_) (a' := ?_) #[true, true, true, true, true, true, true, true, true, true, true, true, true, true, true, true, false, false] rfl rfl (any_of HT_.out (by kernel_rfl)) (fun _ _ _ h => h) (Or.inl ⟨by rfl, ?_⟩) ?_ ?_
       rotate_left
       ·intro w'
        go_simp
        with_reducible rfl
       rotate_left
       ·simp only [Act.put, Zl1, Zl2, Zl3, i64_w, i32_w]
        rfl
       refine pure_ (i := 16) (N := some 90) (v := ?_) (a' := ?_) #[true, true, true, true, true, true, true, true, true, true, true, true, true, true, true, true, true, false] rfl rfl (any_of HT_.out (by kernel_rfl)) (fun _ _ _ h => h) (Or.inl ⟨by rfl, ?_⟩) ?_ ?_
       rotate_left
       ·intro w'
        go_simp
        with_reducible rfl
       rotate_left
       ·simp only [Act.put, Zl1, Zl2, Zl3, i64_w, i32_w]
        rfl
       refine pure_ (i := 17) (N := some 17) (v := ?_) (a' := ?_) #[true, true, true, true, true, true, true, true, true, true, true, true, true, true, true, true, true, true] rfl rfl (any_of HT_.out (by kernel_rfl)) (fun _ _ _ h => h) (Or.inl ⟨by rfl, ?_⟩) ?_ ?_
       rotate_left
       ·intro w'
        go_simp
        with_reducible rfl
       rotate_left
       ·simp only [Act.put, Zl1, Zl2, Zl3, i64_w, i32_w]
        rfl
       refine done_ (done_of HT_.out (by kernel_rfl)) ?_
       have hnb44 := NB296_293.out
       have hnc44 := NB293_296.out
       have hcz45_0 : w43.cell? ⟨gb296, 0, none⟩ = some (.int .i64 a1) := (ZbC BK296.out 0).trans rfl
       have hcz45_1 : w43.cell? ⟨gb296, 1, none⟩ = some (.int .i64 a2) := (ZbC BK296.out 1).trans rfl
       have hcz45_2 : w43.cell? ⟨gb296, 2, none⟩ = some (u297002) := (ZbC BK296.out 2).trans rfl
       have hfz45_0 := ZbF BK296.out 0
       have hfz45_1 := ZbF BK296.out 1
       have hfz45_2 := ZbF BK296.out 2
       try go_wp2_with (first | ((with_reducible refine gate_builtin (b := .append) (xs := #[.tmp 92, .tmp 103]) rfl ?_); at_builtin; refine Kd.R_append (Kd.int .i64) (w0 := w) w.heap.size rfl (.tmp 92) (.tmp 103) 22 3 (.int .i64 0) 8 rfl Try.underlying22 info3 rfl (by decide) (by omega) u297002 x297002_3 ((wrap64 ((wrap64 ((wrap64 ((wrap64 (256 - (Go.bits .and .i64 t297 255))) * (wrap64 ((wrap64 ((wrap64 (256 - (Go.bits .and .i64 t298 255))) * t299)) + (wrap64 ((Go.bits .and .i64 t298 255) * t300)))))) + (wrap64 ((Go.bits .and .i64 t297 255) * (wrap64 ((wrap64 ((wrap64 (256 - (Go.bits .and .i64 t298 255))) * t301)) + (wrap64 ((Go.bits .and .i64 t298 255) * t302)))))))) + 32768)) / 65536) [.int .i64 ((wrap64 ((wrap64 ((wrap64 ((wrap64 (256 - (Go.bits .and .i64 t297 255))) * (wrap64 ((wrap64 ((wrap64 (256 - (Go.bits .and .i64 t298 255))) * t299)) + (wrap64 ((Go.bits .and .i64 t298 255) * t300)))))) + (wrap64 ((Go.bits .and .i64 t297 255) * (wrap64 ((wrap64 ((wrap64 (256 - (Go.bits .and .i64 t298 255))) * t301)) + (wrap64 ((Go.bits .and .i64 t298 255) * t302)))))))) + 32768)) / 65536)] (fun _ => True) (fun _ => False) rfl rfl ?aP (fun _ hk => hk.elim) ?aF ?aO ?aB ?aS ?aL ?_; (case aP => exact rfl); (case aB => exact (by repeat (first | (with_reducible first | exact HB.out | apply ZhA | apply ZhW | apply ZhD | refine ZhS ?_ GE292.out | refine ZhS ?_ GE293.out | refine ZhS ?_ GE296.out) | exact HB.out))); (case aF => exact (fun _ _ => trivial)); (case aO => exact (by (with_reducible repeat (first | apply ZrA | apply ZrW | apply ZrD)); exact HO_297002.out)); (case aS => exact (below_size (by repeat (first | (with_reducible first | exact HB.out | apply ZhA | apply ZhW | apply ZhD | refine ZhS ?_ GE292.out | refine ZhS ?_ GE293.out | refine ZhS ?_ GE296.out) | exact HB.out)))); (case aL => have := LMc34.out; omega); intro v304 w46 ho hb hg hat; rw [← Ny303.out] at ho; have n0_ := Zam (blk_grown (g := gb292) (o := .cells #[.int .i64 a0_0, .int .i64 a0_1, .slice A0_2 l0_2.length c0_2] 82 (0, 0)) (by (with_reducible repeat (first | refine ZbW ?_ _ | refine ZbD ?_ | refine ZbA ?_ _)); exact BK292.out) hg (Kd.R_ne HO_297002.out BK292.out (by decide))); have n1_ := Zam (blk_grown (g := gb293) (o := .cells #[.int .i64 0, .int .i64 0, .slice none 0 0] 82 (0, 0)) (by (with_reducible repeat (first | refine ZbW ?_ _ | refine ZbD ?_ | refine ZbA ?_ _)); exact BK293.out) hg (Kd.R_ne HO_297002.out BK293.out (by decide))); have n2_ := Zam (blk_grown (g := gb296) (o := .cells #[.int .i64 a1, .int .i64 a2, u297002] 82 (0, 0)) (by (with_reducible repeat (first | refine ZbW ?_ _ | refine ZbD ?_ | refine ZbA ?_ _)); exact BK296.out) hg (Kd.R_ne HO_297002.out BK296.out (by decide))); have n3_ := Zam (hb); have n4_ := Zam (ho); clear BK292 BK293 BK296 HB HO_297002; have BK292 := n0_; have BK293 := n1_; have BK296 := n2_; have HB := n3_; have HO305 := n4_; clear n0_ n1_ n2_ n3_ n4_; clear ho hb hg hat; obtain ⟨Ao47, co47, eo47⟩ := Kd.R_slice HO305.out; subst eo47; have hcz48_0 : w46.cell? ⟨gb296, 0, none⟩ = some (.int .i64 a1) := (ZbC BK296.out 0).trans rfl; have hcz48_1 : w46.cell? ⟨gb296, 1, none⟩ = some (.int .i64 a2) := (ZbC BK296.out 1).trans rfl; have hcz48_2 : w46.cell? ⟨gb296, 2, none⟩ = some (u297002) := (ZbC BK296.out 2).trans rfl; have hfz48_0 := ZbF BK296.out 0; have hfz48_1 := ZbF BK296.out 1; have hfz48_2 := ZbF BK296.out 2))
       go_roundg k3
       case measure => have := HJ3.out; have := HK2.out; have := HK3.out; omega
       case rel => exact ⟨(wrap64 (x10_3 + 1)), (y303), (.slice Ao47 y303.length co47), (by first | rfl | (simp; done) | (simp [*]; done)), H', ⟨by have := HJ3.out; have := HK2.out; have := HK3.out; omega⟩, ⟨by (with_reducible repeat (first | apply ZrA | apply ZrW | apply ZrD)); exact Kd.R_mono (Kd.R_far (p := ⟨gb296, 2, none⟩) (Kd.R_types HO305.out BK296.out (by decide)) (fun _ hk => hk.2) (.slice Ao47 y303.length co47)) (fun _ hk => trivial)⟩, ⟨by (with_reducible repeat (first | refine ZbW ?_ _ | refine ZbD ?_ | refine ZbA ?_ _)); refine blk_far ?_ NB292_296.out _; (with_reducible repeat (first | refine ZbW ?_ _ | refine ZbD ?_ | refine ZbA ?_ _)); exact BK292.out⟩, ⟨by (with_reducible repeat (first | refine ZbW ?_ _ | refine ZbD ?_ | refine ZbA ?_ _)); refine blk_far ?_ NB293_296.out _; (with_reducible repeat (first | refine ZbW ?_ _ | refine ZbD ?_ | refine ZbA ?_ _)); exact BK293.out⟩, ⟨by (with_reducible repeat (first | refine ZbW ?_ _ | refine ZbD ?_ | refine ZbA ?_ _)); refine blk_put (cs := #[.int .i64 a1, .int .i64 a2, u297002]) ?_ 2 _ rfl; (with_reducible repeat (first | refine ZbW ?_ _ | refine ZbD ?_ | refine ZbA ?_ _)); exact BK296.out⟩, ⟨by repeat (first | (with_reducible first | exact HB.out | apply ZhA | apply ZhW | apply ZhD | refine ZhS ?_ GE292.out | refine ZhS ?_ GE293.out | refine ZhS ?_ GE296.out) | exact HB.out)⟩⟩

end Go.Proofs.Ytidblealnaicpaa.PFnSizes

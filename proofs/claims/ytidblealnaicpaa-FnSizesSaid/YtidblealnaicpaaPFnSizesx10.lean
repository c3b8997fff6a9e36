-- written by myprint.py (a program of this session's over the kit's print)
import Derived.Test.YtidblealnaicpaaPFnSizesx0
namespace Go.Proofs.Ytidblealnaicpaa.PFnSizes
open Go.RowKit Go.Proofs.YtidblealnaicpaaW.PrintWords Go.Proofs.YtidblealnaicpaaW.PrintLast Go.Proofs.YtidblealnaicpaaW.PrintMore
attribute [local go_sem] max2_int min2_int max_two min_two max_three min_three max_four min_four   -- for this text's walks alone
set_option linter.unusedVariables false
set_option linter.unusedSimpArgs false

/-! ### spec_l7Shrink: function 137 -/
mutual
def spec_l7Shrink.l0 : Nat → Int → Int → Int → Int → List Int → Int → Int → List Int → Option (Int × Int × List Int)
 | 0, _, _, _, _, _, _, _, _ => none
 | k + 1, x1, x6, x268000, x268001, x268002, x270000, x270001, x270002 => if x6 < x270001 then (spec_l7Shrink.l1 k x1 x6 0 x268000 x268001 x268002 x270000 x270001 x270002) else (some (x270000, x270001, x270002))
def spec_l7Shrink.l1 : Nat → Int → Int → Int → Int → Int → List Int → Int → Int → List Int → Option (Int × Int × List Int)
 | 0, _, _, _, _, _, _, _, _, _ => none
 | k + 1, x1, x6, x7, x268000, x268001, x268002, x270000, x270001, x270002 => if x7 < x270000 then (spec_l7Shrink.l2 k x1 x6 x7 0 0 (wrap64 (x6 * x1)) x268000 x268001 x268002 x270000 x270001 x270002) else (spec_l7Shrink.l0 k x1 (wrap64 (x6 + 1)) x268000 x268001 x268002 x270000 x270001 x270002)
def spec_l7Shrink.l2 : Nat → Int → Int → Int → Int → Int → Int → Int → Int → List Int → Int → Int → List Int → Option (Int × Int × List Int)
 | 0, _, _, _, _, _, _, _, _, _, _, _, _ => none
 | k + 1, x1, x6, x7, x8, x9, x10, x268000, x268001, x268002, x270000, x270001, x270002 => if x10 < (wrap64 ((wrap64 (x6 * x1)) + x1)) then (spec_l7Shrink.j3 k x1 x6 x7 x8 x9 x10 (decide (x10 < x268001)) x268000 x268001 x268002 x270000 x270001 x270002) else (spec_l7Shrink.j3 k x1 x6 x7 x8 x9 x10 false x268000 x268001 x268002 x270000 x270001 x270002)
def spec_l7Shrink.j3 : Nat → Int → Int → Int → Int → Int → Int → Bool → Int → Int → List Int → Int → Int → List Int → Option (Int × Int × List Int)
 | 0, _, _, _, _, _, _, _, _, _, _, _, _, _ => none
 | k + 1, x1, x6, x7, x8, x9, x10, x54, x268000, x268001, x268002, x270000, x270001, x270002 => if x54 = true then (spec_l7Shrink.l3 k x1 x6 x7 x8 x9 x10 (wrap64 (x7 * x1)) x268000 x268001 x268002 x270000 x270001 x270002) else (if x9 = 0 then (none) else (if x270002.length < 17592186044416 then (spec_l7Shrink.l1 k x1 x6 (wrap64 (x7 + 1)) x268000 x268001 x268002 x270000 x270001 (x270002 ++ [wrap64 (Int.tdiv (wrap64 (x8 + (wrap64 (Int.tdiv x9 2)))) x9)])) else (none)))
def spec_l7Shrink.l3 : Nat → Int → Int → Int → Int → Int → Int → Int → Int → Int → List Int → Int → Int → List Int → Option (Int × Int × List Int)
 | 0, _, _, _, _, _, _, _, _, _, _, _, _, _ => none
 | k + 1, x1, x6, x7, x8, x9, x10, x11, x268000, x268001, x268002, x270000, x270001, x270002 => if x11 < (wrap64 ((wrap64 (x7 * x1)) + x1)) then (if x11 < x268000 then (if 0 ≤ (wrap64 ((wrap64 (x10 * x268000)) + x11)) then (if (wrap64 ((wrap64 (x10 * x268000)) + x11)) < (x268002.length : Int) then (spec_l7Shrink.l3 k x1 x6 x7 (wrap64 (x8 + (rd x268002 (wrap64 ((wrap64 (x10 * x268000)) + x11))))) (wrap64 (x9 + 1)) x10 (wrap64 (x11 + 1)) x268000 x268001 x268002 x270000 x270001 x270002) else (none)) else (none)) else (spec_l7Shrink.l2 k x1 x6 x7 x8 x9 (wrap64 (x10 + 1)) x268000 x268001 x268002 x270000 x270001 x270002)) else (spec_l7Shrink.l2 k x1 x6 x7 x8 x9 (wrap64 (x10 + 1)) x268000 x268001 x268002 x270000 x270001 x270002)
end
def spec_l7Shrink.f (k : Nat) (a0_0 : Int) (a0_1 : Int) (l0_2 : List Int) (a1 : Int) : Option (Int × Int × List Int) := if a1 = 0 then (none) else (spec_l7Shrink.l0 k a1 0 a0_0 a0_1 l0_2 (wrap64 (Int.tdiv (wrap64 ((wrap64 (a0_0 + a1)) - 1)) a1)) (wrap64 (Int.tdiv (wrap64 ((wrap64 (a0_1 + a1)) - 1)) a1)) ([] : List Int))
theorem spec_l7Shrink.mono_l : ∀ k, (∀ y0 y1 y2 y3 y4 y5 y6 y7, LeO (spec_l7Shrink.l0 k y0 y1 y2 y3 y4 y5 y6 y7) (spec_l7Shrink.l0 (k + 1) y0 y1 y2 y3 y4 y5 y6 y7)) ∧ (∀ y0 y1 y2 y3 y4 y5 y6 y7 y8, LeO (spec_l7Shrink.l1 k y0 y1 y2 y3 y4 y5 y6 y7 y8) (spec_l7Shrink.l1 (k + 1) y0 y1 y2 y3 y4 y5 y6 y7 y8)) ∧ (∀ y0 y1 y2 y3 y4 y5 y6 y7 y8 y9 y10 y11, LeO (spec_l7Shrink.l2 k y0 y1 y2 y3 y4 y5 y6 y7 y8 y9 y10 y11) (spec_l7Shrink.l2 (k + 1) y0 y1 y2 y3 y4 y5 y6 y7 y8 y9 y10 y11)) ∧ (∀ y0 y1 y2 y3 y4 y5 y6 y7 y8 y9 y10 y11 y12, LeO (spec_l7Shrink.j3 k y0 y1 y2 y3 y4 y5 y6 y7 y8 y9 y10 y11 y12) (spec_l7Shrink.j3 (k + 1) y0 y1 y2 y3 y4 y5 y6 y7 y8 y9 y10 y11 y12)) ∧ (∀ y0 y1 y2 y3 y4 y5 y6 y7 y8 y9 y10 y11 y12, LeO (spec_l7Shrink.l3 k y0 y1 y2 y3 y4 y5 y6 y7 y8 y9 y10 y11 y12) (spec_l7Shrink.l3 (k + 1) y0 y1 y2 y3 y4 y5 y6 y7 y8 y9 y10 y11 y12))
 | 0 => ⟨fun _ _ _ _ _ _ _ _ r h => by simp [spec_l7Shrink.l0] at h, fun _ _ _ _ _ _ _ _ _ r h => by simp [spec_l7Shrink.l1] at h, fun _ _ _ _ _ _ _ _ _ _ _ _ r h => by simp [spec_l7Shrink.l2] at h, fun _ _ _ _ _ _ _ _ _ _ _ _ _ r h => by simp [spec_l7Shrink.j3] at h, fun _ _ _ _ _ _ _ _ _ _ _ _ _ r h => by simp [spec_l7Shrink.l3] at h⟩
 | k + 1 => by
  obtain ⟨ih0, ih1, ih2, ih3, ih4⟩ := spec_l7Shrink.mono_l k
  refine ⟨?_, ?_, ?_, ?_, ?_⟩
  ·intro y0 y1 y2 y3 y4 y5 y6 y7
   unfold spec_l7Shrink.l0
   repeat' first
   | (with_reducible exact ih0 _ _ _ _ _ _ _ _)
   | (with_reducible exact ih1 _ _ _ _ _ _ _ _ _)
   | (with_reducible exact ih2 _ _ _ _ _ _ _ _ _ _ _ _)
   | (with_reducible exact ih3 _ _ _ _ _ _ _ _ _ _ _ _ _)
   | (with_reducible exact ih4 _ _ _ _ _ _ _ _ _ _ _ _ _)
   | (with_reducible exact LeO.refl _)
   | (with_reducible exact LeO.none _)
   | (with_reducible refine LeO.ite ?_ ?_)
   | (with_reducible refine LeO.bind ?_ (fun _ => ?_))
   | exact ih0 _ _ _ _ _ _ _ _
   | exact ih1 _ _ _ _ _ _ _ _ _
   | exact ih2 _ _ _ _ _ _ _ _ _ _ _ _
   | exact ih3 _ _ _ _ _ _ _ _ _ _ _ _ _
   | exact ih4 _ _ _ _ _ _ _ _ _ _ _ _ _
   | exact LeO.none _
   | refine LeO.ite ?_ ?_
   | refine LeO.bind ?_ (fun _ => ?_)
  ·intro y0 y1 y2 y3 y4 y5 y6 y7 y8
   unfold spec_l7Shrink.l1
   repeat' first
   | (with_reducible exact ih0 _ _ _ _ _ _ _ _)
   | (with_reducible exact ih1 _ _ _ _ _ _ _ _ _)
   | (with_reducible exact ih2 _ _ _ _ _ _ _ _ _ _ _ _)
   | (with_reducible exact ih3 _ _ _ _ _ _ _ _ _ _ _ _ _)
   | (with_reducible exact ih4 _ _ _ _ _ _ _ _ _ _ _ _ _)
   | (with_reducible exact LeO.refl _)
   | (with_reducible exact LeO.none _)
   | (with_reducible refine LeO.ite ?_ ?_)
   | (with_reducible refine LeO.bind ?_ (fun _ => ?_))
   | exact ih0 _ _ _ _ _ _ _ _
   | exact ih1 _ _ _ _ _ _ _ _ _
   | exact ih2 _ _ _ _ _ _ _ _ _ _ _ _
   | exact ih3 _ _ _ _ _ _ _ _ _ _ _ _ _
   | exact ih4 _ _ _ _ _ _ _ _ _ _ _ _ _
   | exact LeO.none _
   | refine LeO.ite ?_ ?_
   | refine LeO.bind ?_ (fun _ => ?_)
  ·intro y0 y1 y2 y3 y4 y5 y6 y7 y8 y9 y10 y11
   unfold spec_l7Shrink.l2
   repeat' first
   | (with_reducible exact ih0 _ _ _ _ _ _ _ _)
   | (with_reducible exact ih1 _ _ _ _ _ _ _ _ _)
   | (with_reducible exact ih2 _ _ _ _ _ _ _ _ _ _ _ _)
   | (with_reducible exact ih3 _ _ _ _ _ _ _ _ _ _ _ _ _)
   | (with_reducible exact ih4 _ _ _ _ _ _ _ _ _ _ _ _ _)
   | (with_reducible exact LeO.refl _)
   | (with_reducible exact LeO.none _)
   | (with_reducible refine LeO.ite ?_ ?_)
   | (with_reducible refine LeO.bind ?_ (fun _ => ?_))
   | exact ih0 _ _ _ _ _ _ _ _
   | exact ih1 _ _ _ _ _ _ _ _ _
   | exact ih2 _ _ _ _ _ _ _ _ _ _ _ _
   | exact ih3 _ _ _ _ _ _ _ _ _ _ _ _ _
   | exact ih4 _ _ _ _ _ _ _ _ _ _ _ _ _
   | exact LeO.none _
   | refine LeO.ite ?_ ?_
   | refine LeO.bind ?_ (fun _ => ?_)
  ·intro y0 y1 y2 y3 y4 y5 y6 y7 y8 y9 y10 y11 y12
   unfold spec_l7Shrink.j3
   repeat' first
   | (with_reducible exact ih0 _ _ _ _ _ _ _ _)
   | (with_reducible exact ih1 _ _ _ _ _ _ _ _ _)
   | (with_reducible exact ih2 _ _ _ _ _ _ _ _ _ _ _ _)
   | (with_reducible exact ih3 _ _ _ _ _ _ _ _ _ _ _ _ _)
   | (with_reducible exact ih4 _ _ _ _ _ _ _ _ _ _ _ _ _)
   | (with_reducible exact LeO.refl _)
   | (with_reducible exact LeO.none _)
   | (with_reducible refine LeO.ite ?_ ?_)
   | (with_reducible refine LeO.bind ?_ (fun _ => ?_))
   | exact ih0 _ _ _ _ _ _ _ _
   | exact ih1 _ _ _ _ _ _ _ _ _
   | exact ih2 _ _ _ _ _ _ _ _ _ _ _ _
   | exact ih3 _ _ _ _ _ _ _ _ _ _ _ _ _
   | exact ih4 _ _ _ _ _ _ _ _ _ _ _ _ _
   | exact LeO.none _
   | refine LeO.ite ?_ ?_
   | refine LeO.bind ?_ (fun _ => ?_)
  ·intro y0 y1 y2 y3 y4 y5 y6 y7 y8 y9 y10 y11 y12
   unfold spec_l7Shrink.l3
   repeat' first
   | (with_reducible exact ih0 _ _ _ _ _ _ _ _)
   | (with_reducible exact ih1 _ _ _ _ _ _ _ _ _)
   | (with_reducible exact ih2 _ _ _ _ _ _ _ _ _ _ _ _)
   | (with_reducible exact ih3 _ _ _ _ _ _ _ _ _ _ _ _ _)
   | (with_reducible exact ih4 _ _ _ _ _ _ _ _ _ _ _ _ _)
   | (with_reducible exact LeO.refl _)
   | (with_reducible exact LeO.none _)
   | (with_reducible refine LeO.ite ?_ ?_)
   | (with_reducible refine LeO.bind ?_ (fun _ => ?_))
   | exact ih0 _ _ _ _ _ _ _ _
   | exact ih1 _ _ _ _ _ _ _ _ _
   | exact ih2 _ _ _ _ _ _ _ _ _ _ _ _
   | exact ih3 _ _ _ _ _ _ _ _ _ _ _ _ _
   | exact ih4 _ _ _ _ _ _ _ _ _ _ _ _ _
   | exact LeO.none _
   | refine LeO.ite ?_ ?_
   | refine LeO.bind ?_ (fun _ => ?_)
theorem spec_l7Shrink.mono : ∀ a0 a1 a2 a3 k, LeO (spec_l7Shrink.f k a0 a1 a2 a3) (spec_l7Shrink.f (k + 1) a0 a1 a2 a3) := by
 intro a0 a1 a2 a3 k
 obtain ⟨ih0, ih1, ih2, ih3, ih4⟩ := spec_l7Shrink.mono_l k
 unfold spec_l7Shrink.f
 repeat' first
   | (with_reducible exact ih0 _ _ _ _ _ _ _ _)
   | (with_reducible exact ih1 _ _ _ _ _ _ _ _ _)
   | (with_reducible exact ih2 _ _ _ _ _ _ _ _ _ _ _ _)
   | (with_reducible exact ih3 _ _ _ _ _ _ _ _ _ _ _ _ _)
   | (with_reducible exact ih4 _ _ _ _ _ _ _ _ _ _ _ _ _)
   | (with_reducible exact LeO.refl _)
   | (with_reducible exact LeO.none _)
   | (with_reducible refine LeO.ite ?_ ?_)
   | (with_reducible refine LeO.bind ?_ (fun _ => ?_))
   | exact ih0 _ _ _ _ _ _ _ _
   | exact ih1 _ _ _ _ _ _ _ _ _
   | exact ih2 _ _ _ _ _ _ _ _ _ _ _ _
   | exact ih3 _ _ _ _ _ _ _ _ _ _ _ _ _
   | exact ih4 _ _ _ _ _ _ _ _ _ _ _ _ _
   | exact LeO.none _
   | refine LeO.ite ?_ ?_
   | refine LeO.bind ?_ (fun _ => ?_)
def spec_l7Shrink.T1 : Bool × List (List Nat × List Nat) := (true, [([], []), ([0], [0]), ([], []), ([1, 2], [1, 2]), ([3], [3]), ([], []), ([4, 5], [4, 5]), ([], []), ([7], [7]), ([], []), ([8, 9], [8, 9]), ([10], [10]), ([], []), ([11, 12], [11, 12]), ([6, 13], [6, 13]), ([], []), ([15, 14, 0, 1, 2, 3, 4, 5, 6, 7, 8, 9, 10, 11, 12, 13, 14, 15], [14, 15])])
def spec_l7Shrink.B1 : List Nat := [0, 1, 0, 7, 15, 0, 63, 0, 128, 0, 896, 1920, 0, 8064, 16383, 0, 65535]
theorem spec_l7Shrink.tab1 : rtab .any (opsOf Try.f137 1) = spec_l7Shrink.T1 := by kernel_rfl
theorem spec_l7Shrink.bits1 : waitsOk spec_l7Shrink.T1.2 spec_l7Shrink.B1 = true := by kernel_rfl
def spec_l7Shrink.T18 : Bool × List (List Nat × List Nat) := (true, [([], []), ([0], [0]), ([], []), ([], []), ([3], [3]), ([2, 4], [2, 4]), ([], []), ([5, 6], [5, 6]), ([7], [7]), ([1, 8], [1, 8]), ([0, 1, 2, 3, 4, 5, 6, 7, 8, 9], []), ([10, 9, 9, 0, 1, 2, 3, 4, 5, 6, 7, 8, 9], [9, 10])])
def spec_l7Shrink.B18 : List Nat := [0, 1, 0, 0, 8, 28, 0, 124, 252, 511, 1023, 2047]
theorem spec_l7Shrink.tab18 : rtab .any (opsOf Try.f137 18) = spec_l7Shrink.T18 := by kernel_rfl
theorem spec_l7Shrink.bits18 : waitsOk spec_l7Shrink.T18.2 spec_l7Shrink.B18 = true := by kernel_rfl
set_option maxHeartbeats 8000000 in
set_option maxRecDepth 100000 in
theorem spec_l7Shrink.calls (k : Nat) (a0_0 : Int) (a0_1 : Int) (A0_2 : Option Addr) (c0_2 : Nat) (l0_2 : List Int) (a1 : Int) (r1 : Int) (r2 : Int) (r3 : List Int) (w : World) (hr0_2 : Kd.C (Kd.int .i64) w A0_2 l0_2.length l0_2) (hc0_2 : l0_2.length ≤ c0_2) (h : spec_l7Shrink.f k a0_0 a0_1 l0_2 a1 = some (r1, r2, r3)) :
  Calls Try.prog 137 #[.agg #[.int .i64 a0_0, .int .i64 a0_1, .slice A0_2 l0_2.length c0_2], .int .i64 a1] w fun e w' => ∃ v2_ : Value, e = .returned (.agg #[.int .i64 r1, .int .i64 r2, v2_]) ∧ Kd.R (Kd.int .i64) 3 w' w.heap.size (fun _ => True) v2_ r3 ∧ Below w.heap.size w w' := by
 have hu82 := Try.underlying82
 have HR0_2 := Zam hr0_2
 have HC0_2 := Zam hc0_2
 clear hr0_2 hc0_2
 have HB := Zam (Below.refl w.heap.size w)
 have H : (if a1 = 0 then (none) else (spec_l7Shrink.l0 k a1 0 a0_0 a0_1 l0_2 (wrap64 (Int.tdiv (wrap64 ((wrap64 (a0_0 + a1)) - 1)) a1)) (wrap64 (Int.tdiv (wrap64 ((wrap64 (a0_1 + a1)) - 1)) a1)) ([] : List Int))) = some (r1, r2, r3) := h
 clear h
 by_cases c3 : a1 = 0
 ·rw [if_pos c3] at H
  exact absurd H (by simp)
 rw [if_neg c3] at H
 have c3b0 : (a1 == 0) = false := beq_eq_false_iff_ne.mpr c3
 have c3b1 : (a1 != 0) = true := bne_iff_ne.mpr c3
 have H' := Zam H
 clear H
 go_enter Try.func137, Try.ntmps137
 try go_wp2_with (first | ((with_reducible refine gate_dst (N := 2) rfl ?_); refine box_event ?hg (N := 2) ?hd (cs := #[.int .i64 a0_0, .int .i64 a0_1, .slice A0_2 l0_2.length c0_2]) (t := 82) ?hr ?_; (case hd => rfl); (case hg => rfl); (case hr => first | (go_simp; done) | (go_simp; rfl)); intro gb267 hg w4 hbox hb; have n0_ := Zam (ZbS (by repeat (first | (with_reducible first | exact HB.out | apply ZhA | apply ZhW | apply ZhD) | exact HB.out)) hb); have n1_ := Zam (hbox); have n2_ := Zam ((by rw [hg]; exact (below_size (by repeat (first | (with_reducible first | exact HB.out | apply ZhA | apply ZhW | apply ZhD) | exact HB.out))) : w.heap.size ≤ gb267)); have n3_ := n2_; clear HB; have HB := n0_; have BK267 := n1_; have GW267 := n2_; have GE267 := n3_; clear n0_ n1_ n2_ n3_; clear hb hbox hg) | ((with_reducible refine gate_dst (N := 4) rfl ?_); refine box_event ?hg (N := 4) ?hd (cs := #[.int .i64 0, .int .i64 0, .slice none 0 0]) (t := 82) ?hr ?_; (case hd => rfl); (case hg => rfl); (case hr => first | (go_simp; done) | (go_simp; rfl)); intro gb268 hg w5 hbox hb; have n0_ := Zam (ZbB (g := gb267) (o := .cells #[.int .i64 a0_0, .int .i64 a0_1, .slice A0_2 l0_2.length c0_2] 82 (0, 0)) (by (with_reducible repeat (first | refine ZbW ?_ _ | refine ZbD ?_ | refine ZbA ?_ _)); exact BK267.out) hb); have n1_ := Zam (ZbS (by repeat (first | (with_reducible first | exact HB.out | apply ZhA | apply ZhW | apply ZhD | refine ZhS ?_ GE267.out) | exact HB.out)) hb); have n2_ := Zam (hbox); have n3_ := Zam ((by rw [hg]; exact (below_size (by repeat (first | (with_reducible first | exact HB.out | apply ZhA | apply ZhW | apply ZhD | refine ZhS ?_ GE267.out) | exact HB.out))) : w.heap.size ≤ gb268)); have n4_ := n3_; have n5_ := Zam ((by rw [hg]; exact Nat.ne_of_lt (blk_lt (g := gb267) (o := .cells #[.int .i64 a0_0, .int .i64 a0_1, .slice A0_2 l0_2.length c0_2] 82 (0, 0)) (by (with_reducible repeat (first | refine ZbW ?_ _ | refine ZbD ?_ | refine ZbA ?_ _)); exact BK267.out)) : gb267 ≠ gb268)); have n6_ := Zam ((by rw [hg]; exact Nat.ne_of_gt (blk_lt (g := gb267) (o := .cells #[.int .i64 a0_0, .int .i64 a0_1, .slice A0_2 l0_2.length c0_2] 82 (0, 0)) (by (with_reducible repeat (first | refine ZbW ?_ _ | refine ZbD ?_ | refine ZbA ?_ _)); exact BK267.out)) : gb268 ≠ gb267)); clear BK267 HB; have BK267 := n0_; have HB := n1_; have BK268 := n2_; have GW268 := n3_; have GE268 := n4_; have NB267_268 := n5_; have NB268_267 := n6_; clear n0_ n1_ n2_ n3_ n4_ n5_ n6_; clear hb hbox hg))
 have n0_ := Zam (ZbD BK267.out)
 have n1_ := Zam (ZbD BK268.out)
 have n2_ := Zam (ZhD HB.out)
 clear BK267
 clear BK268
 clear HB
 have BK267 := n0_
 have BK268 := n1_
 have HB := n2_
 clear n0_ n1_ n2_
 refine start_ (n := 17) (S := fun w' => w'.cell? ⟨gb267, 0, none⟩ = some (.int .i64 a0_0) ∧ w'.cell? ⟨gb267, 1, none⟩ = some (.int .i64 a0_1) ∧ w'.cell? ⟨gb267, 2, none⟩ = some (.slice A0_2 l0_2.length c0_2)) (ds := []) #[false, false, false, false, false, false, false, false, false, false, false, false, false, false, false, false, false] (by kernel_rfl) rfl rfl ⟨(ZbC BK267.out 0).trans rfl, (ZbC BK267.out 1).trans rfl, (ZbC BK267.out 2).trans rfl⟩ (fun hHeld => ?_); refine with_tabW spec_l7Shrink.tab1 spec_l7Shrink.bits1 (fun HT_ HW_ => ?_)
 generalize w5.drew = w6 at BK267 BK268 HB hHeld ⊢
 refine pure_ (i := 0) (N := some 12) (v := ?_) (a' := ?_) #[true, false, false, false, false, false, false, false, false, false, false, false, false, false, false, false, false] rfl rfl (any_of HT_.out (by kernel_rfl)) (fun _ _ _ h => h) (Or.inl ⟨by rfl, ?_⟩) ?_ ?_
 rotate_left
 ·intro w'
  go_simp
  with_reducible rfl
 rotate_left
 ·simp only [Act.put, Zl1, Zl2, Zl3, i64_w, i32_w]
  rfl
 refine pure_ (i := 2) (N := some 14) (v := ?_) (a' := ?_) #[true, false, true, false, false, false, false, false, false, false, false, false, false, false, false, false, false] rfl rfl (any_of HT_.out (by kernel_rfl)) (fun _ _ _ h => h) (Or.inl ⟨by rfl, ?_⟩) ?_ ?_
 rotate_left
 ·intro w'
  go_simp
  with_reducible rfl
 rotate_left
 ·simp only [Act.put, Zl1, Zl2, Zl3, i64_w, i32_w]
  rfl
 refine pure_ (i := 5) (N := some 17) (v := ?_) (a' := ?_) #[true, false, true, false, false, true, false, false, false, false, false, false, false, false, false, false, false] rfl rfl (any_of HT_.out (by kernel_rfl)) (fun _ _ _ h => h) (Or.inl ⟨by rfl, ?_⟩) ?_ ?_
 rotate_left
 ·intro w'
  go_simp
  with_reducible rfl
 rotate_left
 ·simp only [Act.put, Zl1, Zl2, Zl3, i64_w, i32_w]
  rfl
 refine pure_ (i := 7) (N := some 19) (v := ?_) (a' := ?_) #[true, false, true, false, false, true, false, true, false, false, false, false, false, false, false, false, false] rfl rfl (any_of HT_.out (by kernel_rfl)) (fun _ _ _ h => h) (Or.inl ⟨by rfl, ?_⟩) ?_ ?_
 rotate_left
 ·intro w'
  go_simp
  with_reducible rfl
 rotate_left
 ·simp only [Act.put, Zl1, Zl2, Zl3, i64_w, i32_w]
  rfl
 refine pure_ (i := 9) (N := some 21) (v := ?_) (a' := ?_) #[true, false, true, false, false, true, false, true, false, true, false, false, false, false, false, false, false] rfl rfl (any_of HT_.out (by kernel_rfl)) (fun _ _ _ h => h) (Or.inl ⟨by rfl, ?_⟩) ?_ ?_
 rotate_left
 ·intro w'
  go_simp
  with_reducible rfl
 rotate_left
 ·simp only [Act.put, Zl1, Zl2, Zl3, i64_w, i32_w]
  rfl
 refine pure_ (i := 12) (N := some 24) (v := ?_) (a' := ?_) #[true, false, true, false, false, true, false, true, false, true, false, false, true, false, false, false, false] rfl rfl (any_of HT_.out (by kernel_rfl)) (fun _ _ _ h => h) (Or.inl ⟨by rfl, ?_⟩) ?_ ?_
 rotate_left
 ·intro w'
  go_simp
  with_reducible rfl
 rotate_left
 ·simp only [Act.put, Zl1, Zl2, Zl3, i64_w, i32_w]
  rfl
 refine take_ (i := 1) (N := some 13) (v := ?_) (a' := ?_) #[true, true, true, false, false, true, false, true, false, true, false, false, true, false, false, false, false] rfl rfl (take_ofW HT_.out HW_.out (by kernel_rfl)) (fun _ _ _ h => h) (Or.inl ⟨by rfl, ?_⟩) hHeld ?_ ?_
 rotate_left
 ·rintro w' ⟨s0, s1, s2⟩
  go_simp
  with_reducible rfl
 rotate_left
 ·simp only [Act.put, Zl1, Zl2, Zl3, i64_w, i32_w]
  rfl
 refine pure_ (i := 3) (N := some 15) (v := ?_) (a' := ?_) #[true, true, true, true, false, true, false, true, false, true, false, false, true, false, false, false, false] rfl rfl (any_of HT_.out (by kernel_rfl)) (fun _ _ _ h => h) (Or.inl ⟨by rfl, ?_⟩) ?_ ?_
 rotate_left
 ·intro w'
  go_simp
  with_reducible rfl
 rotate_left
 ·simp only [Act.put, Zl1, Zl2, Zl3, i64_w, i32_w]
  rfl
 refine pure_ (i := 4) (N := some 16) (v := ?_) (a' := ?_) #[true, true, true, true, true, true, false, true, false, true, false, false, true, false, false, false, false] rfl rfl (any_of HT_.out (by kernel_rfl)) (fun _ _ _ h => h) (Or.inl ⟨by rfl, ?_⟩) ?_ ?_
 rotate_left
 ·intro w'
  go_simp
  with_reducible rfl
 rotate_left
 ·simp only [Act.put, Zl1, Zl2, Zl3, i64_w, i32_w]
  rfl
 refine pure_ (i := 6) (N := some 18) (v := ?_) (a' := ?_) #[true, true, true, true, true, true, true, true, false, true, false, false, true, false, false, false, false] rfl rfl (any_of HT_.out (by kernel_rfl)) (fun _ _ _ h => h) (Or.inl ⟨by rfl, ?_⟩) ?_ ?_
 rotate_left
 ·intro w'
  go_simp
  with_reducible rfl
 rotate_left
 ·simp only [Act.put, Zl1, Zl2, Zl3, i64_w, i32_w]
  rfl
 refine take_ (i := 8) (N := some 20) (v := ?_) (a' := ?_) #[true, true, true, true, true, true, true, true, true, true, false, false, true, false, false, false, false] rfl rfl (take_ofW HT_.out HW_.out (by kernel_rfl)) (fun _ _ _ h => h) (Or.inl ⟨by rfl, ?_⟩) hHeld ?_ ?_
 rotate_left
 ·rintro w' ⟨s0, s1, s2⟩
  go_simp
  with_reducible rfl
 rotate_left
 ·simp only [Act.put, Zl1, Zl2, Zl3, i64_w, i32_w]
  rfl
 refine pure_ (i := 10) (N := some 22) (v := ?_) (a' := ?_) #[true, true, true, true, true, true, true, true, true, true, true, false, true, false, false, false, false] rfl rfl (any_of HT_.out (by kernel_rfl)) (fun _ _ _ h => h) (Or.inl ⟨by rfl, ?_⟩) ?_ ?_
 rotate_left
 ·intro w'
  go_simp
  with_reducible rfl
 rotate_left
 ·simp only [Act.put, Zl1, Zl2, Zl3, i64_w, i32_w]
  rfl
 refine pure_ (i := 11) (N := some 23) (v := ?_) (a' := ?_) #[true, true, true, true, true, true, true, true, true, true, true, true, true, false, false, false, false] rfl rfl (any_of HT_.out (by kernel_rfl)) (fun _ _ _ h => h) (Or.inl ⟨by rfl, ?_⟩) ?_ ?_
 rotate_left
 ·intro w'
  go_simp
  with_reducible rfl
 rotate_left
 ·simp only [Act.put, Zl1, Zl2, Zl3, i64_w, i32_w]
  rfl
 refine pure_ (i := 13) (N := some 25) (v := ?_) (a' := ?_) #[true, true, true, true, true, true, true, true, true, true, true, true, true, true, false, false, false] rfl rfl (any_of HT_.out (by kernel_rfl)) (fun _ _ _ h => h) (Or.inl ⟨by rfl, ?_⟩) ?_ ?_
 rotate_left
 ·intro w'
  go_simp
  with_reducible rfl
 rotate_left
 ·simp only [Act.put, Zl1, Zl2, Zl3, i64_w, i32_w]
  rfl
 refine pure_ (i := 14) (N := some 26) (v := ?_) (a' := ?_) #[true, true, true, true, true, true, true, true, true, true, true, true, true, true, true, false, false] rfl rfl (any_of HT_.out (by kernel_rfl)) (fun _ _ _ h => h) (Or.inl ⟨by rfl, ?_⟩) ?_ ?_
 rotate_left
 ·intro w'
  go_simp
  with_reducible rfl
 rotate_left
 ·simp only [Act.put, Zl1, Zl2, Zl3, i64_w, i32_w]
  rfl
 refine one_ (i := 15) (N := some 5) #[true, true, true, true, true, true, true, true, true, true, true, true, true, true, true, true, false] rfl rfl (one_of HT_.out (by kernel_rfl)) (by decide) (fun K hK => ?_)
 refine box_step ?hg (N := 5) ?hd (cs := #[.int .i64 0, .int .i64 0, .slice none 0 0]) (t := 82) ?hr ?_; (case hd => rfl); (case hg => rfl); (case hr => first | (go_simp; done) | (go_simp; rfl))
 intro gb269 hg w7 hbox hb
 have n0_ := Zam (ZbB (g := gb267) (o := .cells #[.int .i64 a0_0, .int .i64 a0_1, .slice A0_2 l0_2.length c0_2] 82 (0, 0)) (by (with_reducible repeat (first | refine ZbW ?_ _ | refine ZbD ?_ | refine ZbA ?_ _)); exact BK267.out) hb)
 have n1_ := Zam (ZbB (g := gb268) (o := .cells #[.int .i64 0, .int .i64 0, .slice none 0 0] 82 (0, 0)) (by (with_reducible repeat (first | refine ZbW ?_ _ | refine ZbD ?_ | refine ZbA ?_ _)); exact BK268.out) hb)
 have n2_ := Zam (ZbS (by repeat (first | (with_reducible first | exact HB.out | apply ZhA | apply ZhW | apply ZhD | refine ZhS ?_ GE267.out | refine ZhS ?_ GE268.out) | exact HB.out)) hb)
 have n3_ := Zam (hbox)
 have n4_ := Zam ((by rw [hg]; exact (below_size (by repeat (first | (with_reducible first | exact HB.out | apply ZhA | apply ZhW | apply ZhD | refine ZhS ?_ GE267.out | refine ZhS ?_ GE268.out) | exact HB.out))) : w.heap.size ≤ gb269))
 have n5_ := Zam ((by rw [hg]; exact (below_size (by repeat (first | (with_reducible first | exact HB.out | apply ZhA | apply ZhW | apply ZhD | refine ZhS ?_ GE267.out | refine ZhS ?_ GE268.out) | exact HB.out))) : w.heap.size ≤ gb269))
 have n6_ := Zam ((by rw [hg]; exact Nat.ne_of_lt (blk_lt (g := gb267) (o := .cells #[.int .i64 a0_0, .int .i64 a0_1, .slice A0_2 l0_2.length c0_2] 82 (0, 0)) (by (with_reducible repeat (first | refine ZbW ?_ _ | refine ZbD ?_ | refine ZbA ?_ _)); exact BK267.out)) : gb267 ≠ gb269))
 have n7_ := Zam ((by rw [hg]; exact Nat.ne_of_gt (blk_lt (g := gb267) (o := .cells #[.int .i64 a0_0, .int .i64 a0_1, .slice A0_2 l0_2.length c0_2] 82 (0, 0)) (by (with_reducible repeat (first | refine ZbW ?_ _ | refine ZbD ?_ | refine ZbA ?_ _)); exact BK267.out)) : gb269 ≠ gb267))
 have n8_ := Zam ((by rw [hg]; exact Nat.ne_of_lt (blk_lt (g := gb268) (o := .cells #[.int .i64 0, .int .i64 0, .slice none 0 0] 82 (0, 0)) (by (with_reducible repeat (first | refine ZbW ?_ _ | refine ZbD ?_ | refine ZbA ?_ _)); exact BK268.out)) : gb268 ≠ gb269))
 have n9_ := Zam ((by rw [hg]; exact Nat.ne_of_gt (blk_lt (g := gb268) (o := .cells #[.int .i64 0, .int .i64 0, .slice none 0 0] 82 (0, 0)) (by (with_reducible repeat (first | refine ZbW ?_ _ | refine ZbD ?_ | refine ZbA ?_ _)); exact BK268.out)) : gb269 ≠ gb268))
 clear BK267
 clear BK268
 clear HB
 have BK267 := n0_
 have BK268 := n1_
 have HB := n2_
 have BK269 := n3_
 have GW269 := n4_
 have GE269 := n5_
 have NB267_269 := n6_
 have NB269_267 := n7_
 have NB268_269 := n8_
 have NB269_268 := n9_
 clear n0_ n1_ n2_ n3_ n4_ n5_ n6_ n7_ n8_ n9_
 clear hb hbox hg
 refine hK.out _ _ ⟨(ZbC BK267.out 0).trans rfl, (ZbC BK267.out 1).trans rfl, (ZbC BK267.out 2).trans rfl⟩ (fun hHeld => ?_)
 clear hK K
 refine norm_ (a' := ?_) ?_ ?_
 rotate_left
 ·show Act.put _ (some 5) _ = _
  simp only [Act.put, Zl1, Zl2, Zl3, i64_w, i32_w]
  rfl
 refine one_ (i := 16) (N := none) #[true, true, true, true, true, true, true, true, true, true, true, true, true, true, true, true, true] rfl rfl (one_of HT_.out (by kernel_rfl)) (by decide) (fun K hK => ?_)
 have hs8 : w7.cell? ⟨gb269, 0, none⟩ = some (.int .i64 0) := (ZbC BK269.out 0).trans rfl
 have hfs8 := ZbF BK269.out 0
 have hns8_0 := NB267_269.out
 have hns8_1 := NB268_269.out
 have hms8_0 := NB269_267.out
 have hms8_1 := NB269_268.out
 have hs9 : w7.cell? ⟨gb269, 1, none⟩ = some (.int .i64 0) := (ZbC BK269.out 1).trans rfl
 have hfs9 := ZbF BK269.out 1
 have hns9_0 := NB267_269.out
 have hns9_1 := NB268_269.out
 have hms9_0 := NB269_267.out
 have hms9_1 := NB269_268.out
 have hs10 : w7.cell? ⟨gb269, 2, none⟩ = some (.slice none 0 0) := (ZbC BK269.out 2).trans rfl
 have hfs10 := ZbF BK269.out 2
 have hns10_0 := NB267_269.out
 have hns10_1 := NB268_269.out
 have hms10_0 := NB269_267.out
 have hms10_1 := NB269_268.out
 refine skip_ (w1 := ?_) (by rfl) rfl ?_ ?_
 rotate_left
 ·go_simp
  rfl
 refine hK.out _ _ ⟨((cell_far (p := ⟨gb269, _, none⟩) NB267_269.out _).trans (((cell_far (p := ⟨gb269, _, none⟩) NB267_269.out _).trans (((cell_far (p := ⟨gb269, _, none⟩) NB267_269.out _).trans (hHeld.1)))))), ((cell_far (p := ⟨gb269, _, none⟩) NB267_269.out _).trans (((cell_far (p := ⟨gb269, _, none⟩) NB267_269.out _).trans (((cell_far (p := ⟨gb269, _, none⟩) NB267_269.out _).trans (hHeld.2.1)))))), ((cell_far (p := ⟨gb269, _, none⟩) NB267_269.out _).trans (((cell_far (p := ⟨gb269, _, none⟩) NB267_269.out _).trans (((cell_far (p := ⟨gb269, _, none⟩) NB267_269.out _).trans (hHeld.2.2))))))⟩ (fun hHeld => ?_)
 clear hK K
 refine done_ (done_of HT_.out (by kernel_rfl)) ?_
 try go_wp2
 go_loopg [6] k (fun kq v6 w' => ∃ (x6_1 : Int) (x270002_1 : List Int) (u270002 : Value), v6 = .int .i64 x6_1 ∧ Aside0 (spec_l7Shrink.l0 kq a1 x6_1 a0_0 a0_1 l0_2 (wrap64 (Int.tdiv (wrap64 ((wrap64 (a0_0 + a1)) - 1)) a1)) (wrap64 (Int.tdiv (wrap64 ((wrap64 (a0_1 + a1)) - 1)) a1)) x270002_1 = some (r1, r2, r3)) ∧ Aside0 (kq ≤ k) ∧ Aside0 (Kd.R (Kd.int .i64) 3 w' w.heap.size (fun _ => True) u270002 x270002_1) ∧ Aside0 (w'.heap[gb267]? = some (.cells #[.int .i64 a0_0, .int .i64 a0_1, (.slice A0_2 l0_2.length c0_2)] 82 (0, 0))) ∧ Aside0 (w'.heap[gb268]? = some (.cells #[.int .i64 0, .int .i64 0, (.slice none 0 0)] 82 (0, 0))) ∧ Aside0 (w'.heap[gb269]? = some (.cells #[.int .i64 (wrap64 (Int.tdiv (wrap64 ((wrap64 (a0_0 + a1)) - 1)) a1)), .int .i64 (wrap64 (Int.tdiv (wrap64 ((wrap64 (a0_1 + a1)) - 1)) a1)), u270002] 82 (0, 0))) ∧ Aside0 (Below w.heap.size w w'))
 case atStart => exact ⟨(0), (([] : List Int)), (.slice none 0 0), (by first | rfl | (simp; done) | (simp [*]; done)), H', ⟨Nat.le_refl _⟩, ⟨by first | exact Kd.R_nil _ _ _ _ _ | exact Kd.N_nil _ _ _ _ _ | exact Kd.V_nil _ _ _ _ _ | exact Kd.Q_nil _ _ _ _ _ | exact Kd.S_nil _ _ _ _ _⟩, ⟨by (with_reducible repeat (first | refine ZbW ?_ _ | refine ZbD ?_ | refine ZbA ?_ _)); refine blk_far ?_ NB267_269.out _; (with_reducible repeat (first | refine ZbW ?_ _ | refine ZbD ?_ | refine ZbA ?_ _)); refine blk_far ?_ NB267_269.out _; (with_reducible repeat (first | refine ZbW ?_ _ | refine ZbD ?_ | refine ZbA ?_ _)); refine blk_far ?_ NB267_269.out _; (with_reducible repeat (first | refine ZbW ?_ _ | refine ZbD ?_ | refine ZbA ?_ _)); exact BK267.out⟩, ⟨by (with_reducible repeat (first | refine ZbW ?_ _ | refine ZbD ?_ | refine ZbA ?_ _)); refine blk_far ?_ NB268_269.out _; (with_reducible repeat (first | refine ZbW ?_ _ | refine ZbD ?_ | refine ZbA ?_ _)); refine blk_far ?_ NB268_269.out _; (with_reducible repeat (first | refine ZbW ?_ _ | refine ZbD ?_ | refine ZbA ?_ _)); refine blk_far ?_ NB268_269.out _; (with_reducible repeat (first | refine ZbW ?_ _ | refine ZbD ?_ | refine ZbA ?_ _)); exact BK268.out⟩, ⟨by (with_reducible repeat (first | refine ZbW ?_ _ | refine ZbD ?_ | refine ZbA ?_ _)); refine blk_put (cs := #[.int .i64 (wrap64 (Int.tdiv (wrap64 ((wrap64 (a0_0 + a1)) - 1)) a1)), .int .i64 (wrap64 (Int.tdiv (wrap64 ((wrap64 (a0_1 + a1)) - 1)) a1)), .slice none 0 0]) ?_ 2 _ rfl; (with_reducible repeat (first | refine ZbW ?_ _ | refine ZbD ?_ | refine ZbA ?_ _)); refine blk_put (cs := #[.int .i64 (wrap64 (Int.tdiv (wrap64 ((wrap64 (a0_0 + a1)) - 1)) a1)), .int .i64 0, .slice none 0 0]) ?_ 1 _ rfl; (with_reducible repeat (first | refine ZbW ?_ _ | refine ZbD ?_ | refine ZbA ?_ _)); refine blk_put (cs := #[.int .i64 0, .int .i64 0, .slice none 0 0]) ?_ 0 _ rfl; (with_reducible repeat (first | refine ZbW ?_ _ | refine ZbD ?_ | refine ZbA ?_ _)); exact BK269.out⟩, ⟨by repeat (first | (with_reducible first | exact HB.out | apply ZhA | apply ZhW | apply ZhD | refine ZhS ?_ GE267.out | refine ZhS ?_ GE268.out | refine ZhS ?_ GE269.out) | exact HB.out)⟩⟩
 case round =>
  clear H'
  try clear c1
  try clear p2
  try clear c3
  try clear c3b0
  try clear c3b1
  try clear p6
  obtain ⟨x6_1, x270002_1, u270002, rfl, HA, HK1, HO_270002, BK267, BK268, BK269, HB⟩ := hrel
  cases gk with
  | zero => exact absurd HA.out (by simp [spec_l7Shrink.l0])
  | succ k1 =>
   have H := HA.out
   clear HA
   simp only [spec_l7Shrink.l0] at H
   by_cases c11 : x6_1 < (wrap64 (Int.tdiv (wrap64 ((wrap64 (a0_1 + a1)) - 1)) a1))
   rotate_left
   ·rw [if_neg c11] at H
    have c11b0 : decide (x6_1 < (wrap64 (Int.tdiv (wrap64 ((wrap64 (a0_1 + a1)) - 1)) a1))) = false := decide_eq_false c11
    clear c11
    simp only [Option.some.injEq, Prod.mk.injEq] at H
    obtain ⟨rfl, rfl, rfl⟩ := H
    have hnb45 := NB269_267.out
    have hnc45 := NB267_269.out
    have hnb46 := NB269_268.out
    have hnc46 := NB268_269.out
    have hcz47_0 : wr.cell? ⟨gb269, 0, none⟩ = some (.int .i64 (wrap64 (Int.tdiv (wrap64 ((wrap64 (a0_0 + a1)) - 1)) a1))) := (ZbC BK269.out 0).trans rfl
    have hcz47_1 : wr.cell? ⟨gb269, 1, none⟩ = some (.int .i64 (wrap64 (Int.tdiv (wrap64 ((wrap64 (a0_1 + a1)) - 1)) a1))) := (ZbC BK269.out 1).trans rfl
    have hcz47_2 : wr.cell? ⟨gb269, 2, none⟩ = some (u270002) := (ZbC BK269.out 2).trans rfl
    have hfz47_0 := ZbF BK269.out 0
    have hfz47_1 := ZbF BK269.out 1
    have hfz47_2 := ZbF BK269.out 2
    have hnb48 := NB268_267.out
    have hnc48 := NB267_268.out
    have hcz49_0 : wr.cell? ⟨gb268, 0, none⟩ = some (.int .i64 0) := (ZbC BK268.out 0).trans rfl
    have hcz49_1 : wr.cell? ⟨gb268, 1, none⟩ = some (.int .i64 0) := (ZbC BK268.out 1).trans rfl
    have hcz49_2 : wr.cell? ⟨gb268, 2, none⟩ = some (.slice none 0 0) := (ZbC BK268.out 2).trans rfl
    have hfz49_0 := ZbF BK268.out 0
    have hfz49_1 := ZbF BK268.out 1
    have hfz49_2 := ZbF BK268.out 2
    obtain ⟨Ao50, co50, eo50⟩ := Kd.R_slice HO_270002.out
    subst eo50
    go_wp2
    refine bodyPost_ret (results_cell_row rfl _ _ gb268 82 #[.int .i64 (wrap64 (Int.tdiv (wrap64 ((wrap64 (a0_0 + a1)) - 1)) a1)), .int .i64 (wrap64 (Int.tdiv (wrap64 ((wrap64 (a0_1 + a1)) - 1)) a1)), .slice Ao50 x270002_1.length co50] (0, 0) _ rfl (set3_blk BK268.out) Try.underlying82 rfl (by kernel_rfl)) rfl ?_
    exact ⟨_, by first | rfl | (simp [*, errW_none, errW_some] <;> rfl), by (with_reducible repeat (first | apply ZrA | apply ZrW | apply ZrD)); exact Kd.R_mono (set3_R (Kd.R_types HO_270002.out BK268.out (by decide)) (fun _ hk => hk.2)) (fun _ hk => trivial), by repeat (first | (with_reducible first | exact HB.out | apply ZhA | apply ZhW | apply ZhD | refine ZhS ?_ GE267.out | refine ZhS ?_ GE268.out | refine ZhS ?_ GE269.out) | exact HB.out)⟩
   rw [if_pos c11] at H
   have c11b0 : decide (x6_1 < (wrap64 (Int.tdiv (wrap64 ((wrap64 (a0_1 + a1)) - 1)) a1))) = true := decide_eq_true c11
   clear c11
   have H' := Zam H
   clear H
   have hnb12 := NB269_267.out
   have hnc12 := NB267_269.out
   have hnb13 := NB269_268.out
   have hnc13 := NB268_269.out
   have hcz14_0 : wr.cell? ⟨gb269, 0, none⟩ = some (.int .i64 (wrap64 (Int.tdiv (wrap64 ((wrap64 (a0_0 + a1)) - 1)) a1))) := (ZbC BK269.out 0).trans rfl
   have hcz14_1 : wr.cell? ⟨gb269, 1, none⟩ = some (.int .i64 (wrap64 (Int.tdiv (wrap64 ((wrap64 (a0_1 + a1)) - 1)) a1))) := (ZbC BK269.out 1).trans rfl
   have hcz14_2 : wr.cell? ⟨gb269, 2, none⟩ = some (u270002) := (ZbC BK269.out 2).trans rfl
   have hfz14_0 := ZbF BK269.out 0
   have hfz14_1 := ZbF BK269.out 1
   have hfz14_2 := ZbF BK269.out 2
   go_wp2
   go_loopg [7] k1 (fun kq v7 w' => ∃ (x7_2 : Int) (x270002_2 : List Int) (u270002 : Value), v7 = .int .i64 x7_2 ∧ Aside0 (spec_l7Shrink.l1 kq a1 x6_1 x7_2 a0_0 a0_1 l0_2 (wrap64 (Int.tdiv (wrap64 ((wrap64 (a0_0 + a1)) - 1)) a1)) (wrap64 (Int.tdiv (wrap64 ((wrap64 (a0_1 + a1)) - 1)) a1)) x270002_2 = some (r1, r2, r3)) ∧ Aside0 (kq ≤ k1) ∧ Aside0 (Kd.R (Kd.int .i64) 3 w' w.heap.size (fun _ => True) u270002 x270002_2) ∧ Aside0 (w'.heap[gb267]? = some (.cells #[.int .i64 a0_0, .int .i64 a0_1, (.slice A0_2 l0_2.length c0_2)] 82 (0, 0))) ∧ Aside0 (w'.heap[gb268]? = some (.cells #[.int .i64 0, .int .i64 0, (.slice none 0 0)] 82 (0, 0))) ∧ Aside0 (w'.heap[gb269]? = some (.cells #[.int .i64 (wrap64 (Int.tdiv (wrap64 ((wrap64 (a0_0 + a1)) - 1)) a1)), .int .i64 (wrap64 (Int.tdiv (wrap64 ((wrap64 (a0_1 + a1)) - 1)) a1)), u270002] 82 (0, 0))) ∧ Aside0 (Below w.heap.size w w'))
   case atStart => exact ⟨(0), (x270002_1), (u270002), (by first | rfl | (simp; done) | (simp [*]; done)), H', ⟨Nat.le_refl _⟩, ⟨by (with_reducible repeat (first | apply ZrA | apply ZrW | apply ZrD)); exact HO_270002.out⟩, ⟨by (with_reducible repeat (first | refine ZbW ?_ _ | refine ZbD ?_ | refine ZbA ?_ _)); exact BK267.out⟩, ⟨by (with_reducible repeat (first | refine ZbW ?_ _ | refine ZbD ?_ | refine ZbA ?_ _)); exact BK268.out⟩, ⟨by (with_reducible repeat (first | refine ZbW ?_ _ | refine ZbD ?_ | refine ZbA ?_ _)); exact BK269.out⟩, ⟨by repeat (first | (with_reducible first | exact HB.out | apply ZhA | apply ZhW | apply ZhD | refine ZhS ?_ GE267.out | refine ZhS ?_ GE268.out | refine ZhS ?_ GE269.out) | exact HB.out)⟩⟩
   case round =>
    clear H'
    try clear c1
    try clear p2
    try clear c3
    try clear c3b0
    try clear c3b1
    try clear p6
    try clear c11
    try clear c11b0
    try clear c12
    try clear c13
    try clear hcz14_0
    try clear hcz14_1
    try clear hcz14_2
    try clear hfz14_0
    try clear hfz14_1
    try clear hfz14_2
    try clear p2
    try clear p6
    obtain ⟨x7_2, x270002_2, u270002, rfl, HA, HK2, HO_270002, BK267, BK268, BK269, HB⟩ := hrel
    cases gk with
    | zero => exact absurd HA.out (by simp [spec_l7Shrink.l1])
    | succ k2 =>
     have H := HA.out
     clear HA
     simp only [spec_l7Shrink.l1] at H
     by_cases c15 : x7_2 < (wrap64 (Int.tdiv (wrap64 ((wrap64 (a0_0 + a1)) - 1)) a1))
     rotate_left
     ·rw [if_neg c15] at H
      have c15b0 : decide (x7_2 < (wrap64 (Int.tdiv (wrap64 ((wrap64 (a0_0 + a1)) - 1)) a1))) = false := decide_eq_false c15
      clear c15
      have H' := Zam H
      clear H
      have hnb42 := NB269_267.out
      have hnc42 := NB267_269.out
      have hnb43 := NB269_268.out
      have hnc43 := NB268_269.out
      have hcz44_0 : wr.cell? ⟨gb269, 0, none⟩ = some (.int .i64 (wrap64 (Int.tdiv (wrap64 ((wrap64 (a0_0 + a1)) - 1)) a1))) := (ZbC BK269.out 0).trans rfl
      have hcz44_1 : wr.cell? ⟨gb269, 1, none⟩ = some (.int .i64 (wrap64 (Int.tdiv (wrap64 ((wrap64 (a0_1 + a1)) - 1)) a1))) := (ZbC BK269.out 1).trans rfl
      have hcz44_2 : wr.cell? ⟨gb269, 2, none⟩ = some (u270002) := (ZbC BK269.out 2).trans rfl
      have hfz44_0 := ZbF BK269.out 0
      have hfz44_1 := ZbF BK269.out 1
      have hfz44_2 := ZbF BK269.out 2
      go_wp2
      go_roundg k2
      case measure => have := HK1.out; have := HK2.out; omega
      case rel => exact ⟨(wrap64 (x6_1 + 1)), (x270002_2), (u270002), (by first | rfl | (simp; done) | (simp [*]; done)), H', ⟨by have := HK1.out; have := HK2.out; omega⟩, ⟨by (with_reducible repeat (first | apply ZrA | apply ZrW | apply ZrD)); exact HO_270002.out⟩, ⟨by (with_reducible repeat (first | refine ZbW ?_ _ | refine ZbD ?_ | refine ZbA ?_ _)); exact BK267.out⟩, ⟨by (with_reducible repeat (first | refine ZbW ?_ _ | refine ZbD ?_ | refine ZbA ?_ _)); exact BK268.out⟩, ⟨by (with_reducible repeat (first | refine ZbW ?_ _ | refine ZbD ?_ | refine ZbA ?_ _)); exact BK269.out⟩, ⟨by repeat (first | (with_reducible first | exact HB.out | apply ZhA | apply ZhW | apply ZhD | refine ZhS ?_ GE267.out | refine ZhS ?_ GE268.out | refine ZhS ?_ GE269.out) | exact HB.out)⟩⟩
     rw [if_pos c15] at H
     have c15b0 : decide (x7_2 < (wrap64 (Int.tdiv (wrap64 ((wrap64 (a0_0 + a1)) - 1)) a1))) = true := decide_eq_true c15
     clear c15
     have H' := Zam H
     clear H
     have hnb16 := NB269_267.out
     have hnc16 := NB267_269.out
     have hnb17 := NB269_268.out
     have hnc17 := NB268_269.out
     have hcz18_0 : wr.cell? ⟨gb269, 0, none⟩ = some (.int .i64 (wrap64 (Int.tdiv (wrap64 ((wrap64 (a0_0 + a1)) - 1)) a1))) := (ZbC BK269.out 0).trans rfl
     have hcz18_1 : wr.cell? ⟨gb269, 1, none⟩ = some (.int .i64 (wrap64 (Int.tdiv (wrap64 ((wrap64 (a0_1 + a1)) - 1)) a1))) := (ZbC BK269.out 1).trans rfl
     have hcz18_2 : wr.cell? ⟨gb269, 2, none⟩ = some (u270002) := (ZbC BK269.out 2).trans rfl
     have hfz18_0 := ZbF BK269.out 0
     have hfz18_1 := ZbF BK269.out 1
     have hfz18_2 := ZbF BK269.out 2
     go_wp2
     go_loopg [8, 9, 10] k2 (fun kq v8 v9 v10 w' => ∃ (x8_3 : Int) (x9_3 : Int) (x10_3 : Int), v8 = .int .i64 x8_3 ∧ v9 = .int .i64 x9_3 ∧ v10 = .int .i64 x10_3 ∧ Aside0 (spec_l7Shrink.l2 kq a1 x6_1 x7_2 x8_3 x9_3 x10_3 a0_0 a0_1 l0_2 (wrap64 (Int.tdiv (wrap64 ((wrap64 (a0_0 + a1)) - 1)) a1)) (wrap64 (Int.tdiv (wrap64 ((wrap64 (a0_1 + a1)) - 1)) a1)) x270002_2 = some (r1, r2, r3)) ∧ Aside0 (kq ≤ k2) ∧ Aside0 (Kd.R (Kd.int .i64) 3 w' w.heap.size (fun _ => True) u270002 x270002_2) ∧ Aside0 (w'.heap[gb267]? = some (.cells #[.int .i64 a0_0, .int .i64 a0_1, (.slice A0_2 l0_2.length c0_2)] 82 (0, 0))) ∧ Aside0 (w'.heap[gb268]? = some (.cells #[.int .i64 0, .int .i64 0, (.slice none 0 0)] 82 (0, 0))) ∧ Aside0 (w'.heap[gb269]? = some (.cells #[.int .i64 (wrap64 (Int.tdiv (wrap64 ((wrap64 (a0_0 + a1)) - 1)) a1)), .int .i64 (wrap64 (Int.tdiv (wrap64 ((wrap64 (a0_1 + a1)) - 1)) a1)), u270002] 82 (0, 0))) ∧ Aside0 (Below w.heap.size w w'))
     case atStart => exact ⟨(0), (0), (wrap64 (x6_1 * a1)), (by first | rfl | (simp; done) | (simp [*]; done)), (by first | rfl | (simp; done) | (simp [*]; done)), (by first | rfl | (simp; done) | (simp [*]; done)), H', ⟨Nat.le_refl _⟩, ⟨by (with_reducible repeat (first | apply ZrA | apply ZrW | apply ZrD)); exact HO_270002.out⟩, ⟨by (with_reducible repeat (first | refine ZbW ?_ _ | refine ZbD ?_ | refine ZbA ?_ _)); exact BK267.out⟩, ⟨by (with_reducible repeat (first | refine ZbW ?_ _ | refine ZbD ?_ | refine ZbA ?_ _)); exact BK268.out⟩, ⟨by (with_reducible repeat (first | refine ZbW ?_ _ | refine ZbD ?_ | refine ZbA ?_ _)); exact BK269.out⟩, ⟨by repeat (first | (with_reducible first | exact HB.out | apply ZhA | apply ZhW | apply ZhD | refine ZhS ?_ GE267.out | refine ZhS ?_ GE268.out | refine ZhS ?_ GE269.out) | exact HB.out)⟩⟩
     case round =>
      clear H'
      try clear c1
      try clear p2
      try clear c3
      try clear c3b0
      try clear c3b1
      try clear p6
      try clear c11
      try clear c11b0
      try clear c12
      try clear c13
      try clear c15
      try clear c15b0
      try clear c16
      try clear c17
      try clear hcz14_0
      try clear hcz14_1
      try clear hcz14_2
      try clear hcz18_0
      try clear hcz18_1
      try clear hcz18_2
      try clear hfz14_0
      try clear hfz14_1
      try clear hfz14_2
      try clear hfz18_0
      try clear hfz18_1
      try clear hfz18_2
      try clear p2
      try clear p6
      obtain ⟨x8_3, x9_3, x10_3, rfl, rfl, rfl, HA, HK3, HO_270002, BK267, BK268, BK269, HB⟩ := hrel
      cases gk with
      | zero => exact absurd HA.out (by simp [spec_l7Shrink.l2])
      | succ k3 =>
       have H := HA.out
       clear HA
       simp only [spec_l7Shrink.l2] at H
       have HC19 := Zam H
       clear H
       go_upto_region 11 with (fail)
       go_cut [54] (fun v54 wc => ∃ (kq : Nat) (x54_18 : Bool), v54 = .bool x54_18 ∧ Aside0 (spec_l7Shrink.j3 kq a1 x6_1 x7_2 x8_3 x9_3 x10_3 x54_18 a0_0 a0_1 l0_2 (wrap64 (Int.tdiv (wrap64 ((wrap64 (a0_0 + a1)) - 1)) a1)) (wrap64 (Int.tdiv (wrap64 ((wrap64 (a0_1 + a1)) - 1)) a1)) x270002_2 = some (r1, r2, r3)) ∧ Aside0 (kq ≤ k3) ∧ Aside0 (Kd.R (Kd.int .i64) 3 wc w.heap.size (fun _ => True) u270002 x270002_2) ∧ Aside0 (wc.heap[gb267]? = some (.cells #[.int .i64 a0_0, .int .i64 a0_1, (.slice A0_2 l0_2.length c0_2)] 82 (0, 0))) ∧ Aside0 (wc.heap[gb268]? = some (.cells #[.int .i64 0, .int .i64 0, (.slice none 0 0)] 82 (0, 0))) ∧ Aside0 (wc.heap[gb269]? = some (.cells #[.int .i64 (wrap64 (Int.tdiv (wrap64 ((wrap64 (a0_0 + a1)) - 1)) a1)), .int .i64 (wrap64 (Int.tdiv (wrap64 ((wrap64 (a0_1 + a1)) - 1)) a1)), u270002] 82 (0, 0))) ∧ Aside0 (Below w.heap.size w wc))
       case first =>
        have H := HC19.out
        clear HC19
        by_cases c20 : x10_3 < (wrap64 ((wrap64 (x6_1 * a1)) + a1))
        rotate_left
        ·rw [if_neg c20] at H
         have c20b0 : decide (x10_3 < (wrap64 ((wrap64 (x6_1 * a1)) + a1))) = false := decide_eq_false c20
         clear c20
         (first | rw [c20b0] | (simp only [i64_w, i32_w]; rw [c20b0]) | skip)
         have H' := Zam H
         clear H
         go_wp2
         go_meet
         case rel => exact ⟨_, (false), (by first | rfl | (simp; done) | (simp [*]; done)), H', ⟨by have := HK1.out; have := HK2.out; have := HK3.out; first | omega | exact Nat.le_refl _⟩, ⟨by (with_reducible repeat (first | apply ZrA | apply ZrW | apply ZrD)); exact HO_270002.out⟩, ⟨by (with_reducible repeat (first | refine ZbW ?_ _ | refine ZbD ?_ | refine ZbA ?_ _)); exact BK267.out⟩, ⟨by (with_reducible repeat (first | refine ZbW ?_ _ | refine ZbD ?_ | refine ZbA ?_ _)); exact BK268.out⟩, ⟨by (with_reducible repeat (first | refine ZbW ?_ _ | refine ZbD ?_ | refine ZbA ?_ _)); exact BK269.out⟩, ⟨by repeat (first | (with_reducible first | exact HB.out | apply ZhA | apply ZhW | apply ZhD | refine ZhS ?_ GE267.out | refine ZhS ?_ GE268.out | refine ZhS ?_ GE269.out) | exact HB.out)⟩⟩
        rw [if_pos c20] at H
        have c20b0 : decide (x10_3 < (wrap64 ((wrap64 (x6_1 * a1)) + a1))) = true := decide_eq_true c20
        clear c20
        (first | rw [c20b0] | (simp only [i64_w, i32_w]; rw [c20b0]) | skip)
        have H' := Zam H
        clear H
        have hnb21 := NB267_268.out
        have hnc21 := NB268_267.out
        have hnb22 := NB267_269.out
        have hnc22 := NB269_267.out
        have hcz23_0 : wr.cell? ⟨gb267, 0, none⟩ = some (.int .i64 a0_0) := (ZbC BK267.out 0).trans rfl
        have hcz23_1 : wr.cell? ⟨gb267, 1, none⟩ = some (.int .i64 a0_1) := (ZbC BK267.out 1).trans rfl
        have hcz23_2 : wr.cell? ⟨gb267, 2, none⟩ = some (.slice A0_2 l0_2.length c0_2) := (ZbC BK267.out 2).trans rfl
        have hfz23_0 := ZbF BK267.out 0
        have hfz23_1 := ZbF BK267.out 1
        have hfz23_2 := ZbF BK267.out 2
        go_wp2
        go_meet
        case rel => exact ⟨_, (decide (x10_3 < a0_1)), (by first | rfl | (simp; done) | (simp [*]; done)), H', ⟨by have := HK1.out; have := HK2.out; have := HK3.out; first | omega | exact Nat.le_refl _⟩, ⟨by (with_reducible repeat (first | apply ZrA | apply ZrW | apply ZrD)); exact HO_270002.out⟩, ⟨by (with_reducible repeat (first | refine ZbW ?_ _ | refine ZbD ?_ | refine ZbA ?_ _)); exact BK267.out⟩, ⟨by (with_reducible repeat (first | refine ZbW ?_ _ | refine ZbD ?_ | refine ZbA ?_ _)); exact BK268.out⟩, ⟨by (with_reducible repeat (first | refine ZbW ?_ _ | refine ZbD ?_ | refine ZbA ?_ _)); exact BK269.out⟩, ⟨by repeat (first | (with_reducible first | exact HB.out | apply ZhA | apply ZhW | apply ZhD | refine ZhS ?_ GE267.out | refine ZhS ?_ GE268.out | refine ZhS ?_ GE269.out) | exact HB.out)⟩⟩
       case rest =>
        clear HC19
        try clear c1
        try clear c2
        try clear p2
        try clear c3
        try clear c3b0
        try clear c3b1
        try clear p6
        try clear c11
        try clear c11b0
        try clear c12
        try clear c13
        try clear c15
        try clear c15b0
        try clear c16
        try clear c17
        try clear c20
        try clear c20b0
        try clear c21
        try clear c22
        try clear hcz14_0
        try clear hcz14_1
        try clear hcz14_2
        try clear hcz18_0
        try clear hcz18_1
        try clear hcz18_2
        try clear hcz23_0
        try clear hcz23_1
        try clear hcz23_2
        try clear hfz14_0
        try clear hfz14_1
        try clear hfz14_2
        try clear hfz18_0
        try clear hfz18_1
        try clear hfz18_2
        try clear hfz23_0
        try clear hfz23_1
        try clear hfz23_2
        try clear p2
        try clear p6
        obtain ⟨kq, x54_18, rfl, HA, HJ18, HO_270002, BK267, BK268, BK269, HB⟩ := hcut
        cases kq with
        | zero => exact absurd HA.out (by simp [spec_l7Shrink.j3])
        | succ kj18 =>
         have H := HA.out
         clear HA
         simp only [spec_l7Shrink.j3] at H
         by_cases c24 : x54_18 = true
         ·subst c24
          replace H : (spec_l7Shrink.l3 kj18 a1 x6_1 x7_2 x8_3 x9_3 x10_3 (wrap64 (x7_2 * a1)) a0_0 a0_1 l0_2 (wrap64 (Int.tdiv (wrap64 ((wrap64 (a0_0 + a1)) - 1)) a1)) (wrap64 (Int.tdiv (wrap64 ((wrap64 (a0_1 + a1)) - 1)) a1)) x270002_2) = some (r1, r2, r3) := by rw [if_pos rfl] at H; exact H
          have H' := Zam H
          clear H
          go_wp2
          go_loopg [8, 9, 11] kj18 (fun kq v8 v9 v11 w' => ∃ (x8_5 : Int) (x9_5 : Int) (x11_5 : Int), v8 = .int .i64 x8_5 ∧ v9 = .int .i64 x9_5 ∧ v11 = .int .i64 x11_5 ∧ Aside0 (spec_l7Shrink.l3 kq a1 x6_1 x7_2 x8_5 x9_5 x10_3 x11_5 a0_0 a0_1 l0_2 (wrap64 (Int.tdiv (wrap64 ((wrap64 (a0_0 + a1)) - 1)) a1)) (wrap64 (Int.tdiv (wrap64 ((wrap64 (a0_1 + a1)) - 1)) a1)) x270002_2 = some (r1, r2, r3)) ∧ Aside0 (kq ≤ kj18) ∧ Aside0 (Kd.R (Kd.int .i64) 3 w' w.heap.size (fun _ => True) u270002 x270002_2) ∧ Aside0 (w'.heap[gb267]? = some (.cells #[.int .i64 a0_0, .int .i64 a0_1, (.slice A0_2 l0_2.length c0_2)] 82 (0, 0))) ∧ Aside0 (w'.heap[gb268]? = some (.cells #[.int .i64 0, .int .i64 0, (.slice none 0 0)] 82 (0, 0))) ∧ Aside0 (w'.heap[gb269]? = some (.cells #[.int .i64 (wrap64 (Int.tdiv (wrap64 ((wrap64 (a0_0 + a1)) - 1)) a1)), .int .i64 (wrap64 (Int.tdiv (wrap64 ((wrap64 (a0_1 + a1)) - 1)) a1)), u270002] 82 (0, 0))) ∧ Aside0 (Below w.heap.size w w'))
          case atStart => exact ⟨(x8_3), (x9_3), (wrap64 (x7_2 * a1)), (by first | rfl | (simp; done) | (simp [*]; done)), (by first | rfl | (simp; done) | (simp [*]; done)), (by first | rfl | (simp; done) | (simp [*]; done)), H', ⟨Nat.le_refl _⟩, ⟨by (with_reducible repeat (first | apply ZrA | apply ZrW | apply ZrD)); exact HO_270002.out⟩, ⟨by (with_reducible repeat (first | refine ZbW ?_ _ | refine ZbD ?_ | refine ZbA ?_ _)); exact BK267.out⟩, ⟨by (with_reducible repeat (first | refine ZbW ?_ _ | refine ZbD ?_ | refine ZbA ?_ _)); exact BK268.out⟩, ⟨by (with_reducible repeat (first | refine ZbW ?_ _ | refine ZbD ?_ | refine ZbA ?_ _)); exact BK269.out⟩, ⟨by repeat (first | (with_reducible first | exact HB.out | apply ZhA | apply ZhW | apply ZhD | refine ZhS ?_ GE267.out | refine ZhS ?_ GE268.out | refine ZhS ?_ GE269.out) | exact HB.out)⟩⟩
          case round =>
           clear H'
           try clear c1
           try clear c2
           try clear p2
           try clear c3
           try clear c3b0
           try clear c3b1
           try clear p6
           try clear c11
           try clear c11b0
           try clear c12
           try clear c13
           try clear c15
           try clear c15b0
           try clear c16
           try clear c17
           try clear c20
           try clear c20b0
           try clear c21
           try clear c22
           try clear c24
           try clear hcz14_0
           try clear hcz14_1
           try clear hcz14_2
           try clear hcz18_0
           try clear hcz18_1
           try clear hcz18_2
           try clear hcz23_0
           try clear hcz23_1
           try clear hcz23_2
           try clear hfz14_0
           try clear hfz14_1
           try clear hfz14_2
           try clear hfz18_0
           try clear hfz18_1
           try clear hfz18_2
           try clear hfz23_0
           try clear hfz23_1
           try clear hfz23_2
           try clear p2
           try clear p6
           obtain ⟨x8_5, x9_5, x11_5, rfl, rfl, rfl, HA, HK5, HO_270002, BK267, BK268, BK269, HB⟩ := hrel
           cases gk with
           | zero => exact absurd HA.out (by simp [spec_l7Shrink.l3])
           | succ k5 =>
            have H := HA.out
            clear HA
            simp only [spec_l7Shrink.l3] at H
            by_cases c25 : x11_5 < (wrap64 ((wrap64 (x7_2 * a1)) + a1))
            rotate_left
            ·rw [if_neg c25] at H
             have c25b0 : decide (x11_5 < (wrap64 ((wrap64 (x7_2 * a1)) + a1))) = false := decide_eq_false c25
             clear c25
             have H' := Zam H
             clear H
             go_wp2
             go_roundg k5
             case measure => have := HK1.out; have := HK2.out; have := HK3.out; have := HJ18.out; have := HK5.out; omega
             case rel => exact ⟨(x8_5), (x9_5), (wrap64 (x10_3 + 1)), (by first | rfl | (simp; done) | (simp [*]; done)), (by first | rfl | (simp; done) | (simp [*]; done)), (by first | rfl | (simp; done) | (simp [*]; done)), H', ⟨by have := HK1.out; have := HK2.out; have := HK3.out; have := HJ18.out; have := HK5.out; omega⟩, ⟨by (with_reducible repeat (first | apply ZrA | apply ZrW | apply ZrD)); exact HO_270002.out⟩, ⟨by (with_reducible repeat (first | refine ZbW ?_ _ | refine ZbD ?_ | refine ZbA ?_ _)); exact BK267.out⟩, ⟨by (with_reducible repeat (first | refine ZbW ?_ _ | refine ZbD ?_ | refine ZbA ?_ _)); exact BK268.out⟩, ⟨by (with_reducible repeat (first | refine ZbW ?_ _ | refine ZbD ?_ | refine ZbA ?_ _)); exact BK269.out⟩, ⟨by repeat (first | (with_reducible first | exact HB.out | apply ZhA | apply ZhW | apply ZhD | refine ZhS ?_ GE267.out | refine ZhS ?_ GE268.out | refine ZhS ?_ GE269.out) | exact HB.out)⟩⟩
            rw [if_pos c25] at H
            have c25b0 : decide (x11_5 < (wrap64 ((wrap64 (x7_2 * a1)) + a1))) = true := decide_eq_true c25
            clear c25
            by_cases c26 : x11_5 < a0_0
            rotate_left
            ·rw [if_neg c26] at H
             have c26b0 : decide (x11_5 < a0_0) = false := decide_eq_false c26
             clear c26
             have H' := Zam H
             clear H
             have hnb33 := NB267_268.out
             have hnc33 := NB268_267.out
             have hnb34 := NB267_269.out
             have hnc34 := NB269_267.out
             have hcz35_0 : wr.cell? ⟨gb267, 0, none⟩ = some (.int .i64 a0_0) := (ZbC BK267.out 0).trans rfl
             have hcz35_1 : wr.cell? ⟨gb267, 1, none⟩ = some (.int .i64 a0_1) := (ZbC BK267.out 1).trans rfl
             have hcz35_2 : wr.cell? ⟨gb267, 2, none⟩ = some (.slice A0_2 l0_2.length c0_2) := (ZbC BK267.out 2).trans rfl
             have hfz35_0 := ZbF BK267.out 0
             have hfz35_1 := ZbF BK267.out 1
             have hfz35_2 := ZbF BK267.out 2
             go_wp2
             go_roundg k5
             case measure => have := HK1.out; have := HK2.out; have := HK3.out; have := HJ18.out; have := HK5.out; omega
             case rel => exact ⟨(x8_5), (x9_5), (wrap64 (x10_3 + 1)), (by first | rfl | (simp; done) | (simp [*]; done)), (by first | rfl | (simp; done) | (simp [*]; done)), (by first | rfl | (simp; done) | (simp [*]; done)), H', ⟨by have := HK1.out; have := HK2.out; have := HK3.out; have := HJ18.out; have := HK5.out; omega⟩, ⟨by (with_reducible repeat (first | apply ZrA | apply ZrW | apply ZrD)); exact HO_270002.out⟩, ⟨by (with_reducible repeat (first | refine ZbW ?_ _ | refine ZbD ?_ | refine ZbA ?_ _)); exact BK267.out⟩, ⟨by (with_reducible repeat (first | refine ZbW ?_ _ | refine ZbD ?_ | refine ZbA ?_ _)); exact BK268.out⟩, ⟨by (with_reducible repeat (first | refine ZbW ?_ _ | refine ZbD ?_ | refine ZbA ?_ _)); exact BK269.out⟩, ⟨by repeat (first | (with_reducible first | exact HB.out | apply ZhA | apply ZhW | apply ZhD | refine ZhS ?_ GE267.out | refine ZhS ?_ GE268.out | refine ZhS ?_ GE269.out) | exact HB.out)⟩⟩
            rw [if_pos c26] at H
            have c26b0 : decide (x11_5 < a0_0) = true := decide_eq_true c26
            clear c26
            obtain ⟨ji27, hji27⟩ : ∃ j_ : Int, (wrap64 ((wrap64 (x10_3 * a0_0)) + x11_5)) = j_ := ⟨_, rfl⟩
            replace H : (if 0 ≤ (ji27) then (if (ji27) < (l0_2.length : Int) then (spec_l7Shrink.l3 k5 a1 x6_1 x7_2 (wrap64 (x8_5 + (rd l0_2 (ji27)))) (wrap64 (x9_5 + 1)) x10_3 (wrap64 (x11_5 + 1)) a0_0 a0_1 l0_2 (wrap64 (Int.tdiv (wrap64 ((wrap64 (a0_0 + a1)) - 1)) a1)) (wrap64 (Int.tdiv (wrap64 ((wrap64 (a0_1 + a1)) - 1)) a1)) x270002_2) else (none)) else (none)) = some (r1, r2, r3) := by first | (rw [hji27] at H; exact H) | (simp only [hji27] at H ⊢; exact H)
            have hji27w : (IntKind.i64.wrap ((wrap64 (x10_3 * a0_0)) + x11_5)) = ji27 := (i64_w _).trans hji27
            by_cases c28 : 0 ≤ (ji27)
            rotate_left
            ·rw [if_neg c28] at H
             exact absurd H (by simp)
            rw [if_pos c28] at H
            have c28b0 : decide (0 ≤ (ji27)) = true := decide_eq_true c28
            clear c28
            by_cases c29 : (ji27) < (l0_2.length : Int)
            rotate_left
            ·rw [if_neg c29] at H
             exact absurd H (by simp)
            rw [if_pos c29] at H
            have c29b0 : decide ((ji27) < (l0_2.length : Int)) = true := decide_eq_true c29
            clear c29
            have H' := Zam H
            clear H
            have hnb30 := NB267_268.out
            have hnc30 := NB268_267.out
            have hnb31 := NB267_269.out
            have hnc31 := NB269_267.out
            have hcz32_0 : wr.cell? ⟨gb267, 0, none⟩ = some (.int .i64 a0_0) := (ZbC BK267.out 0).trans rfl
            have hcz32_1 : wr.cell? ⟨gb267, 1, none⟩ = some (.int .i64 a0_1) := (ZbC BK267.out 1).trans rfl
            have hcz32_2 : wr.cell? ⟨gb267, 2, none⟩ = some (.slice A0_2 l0_2.length c0_2) := (ZbC BK267.out 2).trans rfl
            have hfz32_0 := ZbF BK267.out 0
            have hfz32_1 := ZbF BK267.out 1
            have hfz32_2 := ZbF BK267.out 2
            have p273 : 0 ≤ ((ji27) : Int) := of_decide_eq_true (by first | (with_reducible assumption) | assumption)
            have q273 : (ji27) < (l0_2.length : Int) := of_decide_eq_true (by first | (with_reducible assumption) | assumption)
            obtain ⟨ad273, e273, hx273_0⟩ := Kd.at_int HR0_2.out (ji27) p273 q273
            cases e273
            replace hx273_0 := (HB.out.cell (World.block_lt_of_cell? w _ hx273_0)).trans hx273_0
            replace p273 := eq_true p273
            replace q273 := eq_true q273
            go_wp2
            go_roundg k5
            case measure => have := HK1.out; have := HK2.out; have := HK3.out; have := HJ18.out; have := HK5.out; omega
            case rel => exact ⟨(wrap64 (x8_5 + (rd l0_2 (ji27)))), (wrap64 (x9_5 + 1)), (wrap64 (x11_5 + 1)), (by first | rfl | (simp; done) | (simp only [← hji27] <;> (first | rfl | simp)) | (simp [*]; done)), (by first | rfl | (simp; done) | (simp [*]; done)), (by first | rfl | (simp; done) | (simp [*]; done)), H', ⟨by have := HK1.out; have := HK2.out; have := HK3.out; have := HJ18.out; have := HK5.out; omega⟩, ⟨by (with_reducible repeat (first | apply ZrA | apply ZrW | apply ZrD)); exact HO_270002.out⟩, ⟨by (with_reducible repeat (first | refine ZbW ?_ _ | refine ZbD ?_ | refine ZbA ?_ _)); exact BK267.out⟩, ⟨by (with_reducible repeat (first | refine ZbW ?_ _ | refine ZbD ?_ | refine ZbA ?_ _)); exact BK268.out⟩, ⟨by (with_reducible repeat (first | refine ZbW ?_ _ | refine ZbD ?_ | refine ZbA ?_ _)); exact BK269.out⟩, ⟨by repeat (first | (with_reducible first | exact HB.out | apply ZhA | apply ZhW | apply ZhD | refine ZhS ?_ GE267.out | refine ZhS ?_ GE268.out | refine ZhS ?_ GE269.out) | exact HB.out)⟩⟩
         replace c24 := Bool.eq_false_iff.mpr c24
         subst c24
         replace H : (if x9_3 = 0 then (none) else (if x270002_2.length < 17592186044416 then (spec_l7Shrink.l1 kj18 a1 x6_1 (wrap64 (x7_2 + 1)) a0_0 a0_1 l0_2 (wrap64 (Int.tdiv (wrap64 ((wrap64 (a0_0 + a1)) - 1)) a1)) (wrap64 (Int.tdiv (wrap64 ((wrap64 (a0_1 + a1)) - 1)) a1)) (x270002_2 ++ [wrap64 (Int.tdiv (wrap64 (x8_3 + (wrap64 (Int.tdiv x9_3 2)))) x9_3)])) else (none))) = some (r1, r2, r3) := by rw [if_neg (show ¬ (false = true) by decide)] at H; exact H
         by_cases c36 : x9_3 = 0
         ·rw [if_pos c36] at H
          exact absurd H (by simp)
         rw [if_neg c36] at H
         have c36b0 : (x9_3 == 0) = false := beq_eq_false_iff_ne.mpr c36
         have c36b1 : (x9_3 != 0) = true := bne_iff_ne.mpr c36
         by_cases c37 : x270002_2.length < 17592186044416
         rotate_left
         ·rw [if_neg c37] at H
          exact absurd H (by simp)
         rw [if_pos c37] at H
         have LMc37 := Zam c37
         clear c37
         obtain ⟨y270, hy270⟩ : ∃ y_ : List Int, y_ = (x270002_2 ++ [wrap64 (Int.tdiv (wrap64 (x8_3 + (wrap64 (Int.tdiv x9_3 2)))) x9_3)]) := ⟨_, rfl⟩
         replace H : (spec_l7Shrink.l1 kj18 a1 x6_1 (wrap64 (x7_2 + 1)) a0_0 a0_1 l0_2 (wrap64 (Int.tdiv (wrap64 ((wrap64 (a0_0 + a1)) - 1)) a1)) (wrap64 (Int.tdiv (wrap64 ((wrap64 (a0_1 + a1)) - 1)) a1)) y270) = some (r1, r2, r3) := by first | (rw [hy270]; with_reducible exact H) | (have H2_ := (Option.bind_some _ _).symm.trans H; rw [hy270]; with_reducible exact H2_) | (have H2_ := (Option.bind_some _ _).symm.trans H; with_reducible exact H2_) | with_reducible exact H | (rw [hy270]; exact H) | exact H
         have Ny270 := Zam hy270
         clear hy270
         have H' := Zam H
         clear H
         try go_wp2
         have n0_ := Zam (ZrD HO_270002.out)
         have n1_ := Zam (ZbD BK267.out)
         have n2_ := Zam (ZbD BK268.out)
         have n3_ := Zam (ZbD BK269.out)
         have n4_ := Zam (ZhD HB.out)
         clear HO_270002
         clear BK267
         clear BK268
         clear BK269
         clear HB
         have HO_270002 := n0_
         have BK267 := n1_
         have BK268 := n2_
         have BK269 := n3_
         have HB := n4_
         clear n0_ n1_ n2_ n3_ n4_
         refine start_ (n := 12) (S := fun w' => w'.cell? ⟨gb269, 0, none⟩ = some (.int .i64 (wrap64 (Int.tdiv (wrap64 ((wrap64 (a0_0 + a1)) - 1)) a1))) ∧ w'.cell? ⟨gb269, 1, none⟩ = some (.int .i64 (wrap64 (Int.tdiv (wrap64 ((wrap64 (a0_1 + a1)) - 1)) a1))) ∧ w'.cell? ⟨gb269, 2, none⟩ = some (u270002)) (ds := [11]) #[false, false, false, false, false, false, false, false, false, false, false, false] (by kernel_rfl) rfl rfl ⟨(ZbC BK269.out 0).trans rfl, (ZbC BK269.out 1).trans rfl, (ZbC BK269.out 2).trans rfl⟩ (fun hHeld => ?_); refine with_tabW spec_l7Shrink.tab18 spec_l7Shrink.bits18 (fun HT_ HW_ => ?_)
         generalize wc.drew = w38 at HO_270002 BK267 BK268 BK269 HB hHeld ⊢
         refine pure_ (i := 0) (N := some 89) (v := ?_) (a' := ?_) #[true, false, false, false, false, false, false, false, false, false, false, false] rfl rfl (any_of HT_.out (by kernel_rfl)) (fun _ _ _ h => h) (Or.inl ⟨by rfl, ?_⟩) ?_ ?_
         rotate_left
         ·intro w'
          go_simp
          with_reducible rfl
         rotate_left
         ·simp only [Act.put, Zl1, Zl2, Zl3, i64_w, i32_w]
          rfl
         refine pure_ (i := 2) (N := some 91) (v := ?_) (a' := ?_) #[true, false, true, false, false, false, false, false, false, false, false, false] rfl rfl (any_of HT_.out (by kernel_rfl)) (fun _ _ _ h => h) (Or.inl ⟨by rfl, ?_⟩) ?_ ?_
         rotate_left
         ·intro w'
          go_simp
          with_reducible rfl
         rotate_left
         ·simp only [Act.put, Zl1, Zl2, Zl3, i64_w, i32_w]
          rfl
         refine pure_ (i := 3) (N := some 92) (v := ?_) (a' := ?_) #[true, false, true, true, false, false, false, false, false, false, false, false] rfl rfl (any_of HT_.out (by kernel_rfl)) (fun _ _ _ h => h) (Or.inl ⟨by rfl, ?_⟩) ?_ ?_
         rotate_left
         ·intro w'
          go_simp
          with_reducible rfl
         rotate_left
         ·simp only [Act.put, Zl1, Zl2, Zl3, i64_w, i32_w]
          rfl
         refine pure_ (i := 4) (N := some 93) (v := ?_) (a' := ?_) #[true, false, true, true, true, false, false, false, false, false, false, false] rfl rfl (any_of HT_.out (by kernel_rfl)) (fun _ _ _ h => h) (Or.inl ⟨by rfl, ?_⟩) ?_ ?_
         rotate_left
         ·intro w'
          go_simp
          with_reducible rfl
         rotate_left
         ·simp only [Act.put, Zl1, Zl2, Zl3, i64_w, i32_w]
          rfl
         refine pure_ (i := 5) (N := some 94) (v := ?_) (a' := ?_) #[true, false, true, true, true, true, false, false, false, false, false, false] rfl rfl (any_of HT_.out (by kernel_rfl)) (fun _ _ _ h => h) (Or.inl ⟨by rfl, ?_⟩) ?_ ?_
         rotate_left
         ·intro w'
          go_simp
          with_reducible rfl
         rotate_left
         ·simp only [Act.put, Zl1, Zl2, Zl3, i64_w, i32_w]
          rfl
         refine pure_ (i := 6) (N := some 95) (v := ?_) (a' := ?_) #[true, false, true, true, true, true, true, false, false, false, false, false] rfl rfl (any_of HT_.out (by kernel_rfl)) (fun _ _ _ h => h) (Or.inl ⟨by rfl, ?_⟩) ?_ ?_
         rotate_left
         ·intro w'
          go_simp
          with_reducible rfl
         rotate_left
         ·simp only [Act.put, Zl1, Zl2, Zl3, i64_w, i32_w]
          rfl
         refine pure_ (i := 7) (N := some 96) (v := ?_) (a' := ?_) #[true, false, true, true, true, true, true, true, false, false, false, false] rfl rfl (any_of HT_.out (by kernel_rfl)) (fun _ _ _ h => h) (Or.inl ⟨by rfl, ?_⟩) ?_ ?_
         rotate_left
         ·intro w'
          go_simp
          with_reducible rfl
         rotate_left
         ·simp only [Act.put, Zl1, Zl2, Zl3, i64_w, i32_w]
          rfl
         refine take_ (i := 1) (N := some 90) (v := ?_) (a' := ?_) #[true, true, true, true, true, true, true, true, false, false, false, false] rfl rfl (take_ofW HT_.out HW_.out (by kernel_rfl)) (fun _ _ _ h => h) (Or.inl ⟨by rfl, ?_⟩) hHeld ?_ ?_
         rotate_left
         ·rintro w' ⟨s0, s1, s2⟩
          go_simp
          with_reducible rfl
         rotate_left
         ·simp only [Act.put, Zl1, Zl2, Zl3, i64_w, i32_w]
          rfl
         refine one_ (i := 8) (N := some 97) #[true, true, true, true, true, true, true, true, true, false, false, false] rfl rfl (one_of HT_.out (by kernel_rfl)) (by decide) (fun K hK => ?_)
         refine value_ (w1 := ?_) (v := ?_) (by rfl) rfl ?_ ?_
         rotate_left 2
         ·go_simp
          constructor
          ·rfl
          ·rfl
         refine hK.out _ _ ⟨(ZbC (ZbA BK269.out _) 0).trans rfl, (ZbC (ZbA BK269.out _) 1).trans rfl, (ZbC (ZbA BK269.out _) 2).trans rfl⟩ (fun hHeld => ?_)
         clear hK K
         refine norm_ (a' := ?_) ?_ ?_
         rotate_left
         ·show Act.put _ (some 97) _ = _
          simp only [Act.put, Zl1, Zl2, Zl3, i64_w, i32_w]
          rfl
         refine one_ (i := 9) (N := some 98) #[true, true, true, true, true, true, true, true, true, true, false, false] rfl rfl (one_of HT_.out (by kernel_rfl)) (by decide) (fun K hK => ?_)
         refine Kd.R_append_step (Kd.int .i64) (w0 := w) w.heap.size (by rfl) (.tmp 90) (.tmp 97) 22 3 (.int .i64 0) 8 rfl Try.underlying22 info3 rfl (by decide) (by omega) u270002 x270002_2 (wrap64 (Int.tdiv (wrap64 (x8_3 + (wrap64 (Int.tdiv x9_3 2)))) x9_3)) [.int .i64 (wrap64 (Int.tdiv (wrap64 (x8_3 + (wrap64 (Int.tdiv x9_3 2)))) x9_3))] (fun _ => True) (fun _ => False) rfl rfl ?aP (fun _ hk => hk.elim) ?aF ?aO ?aB ?aS ?aL ?_
         (case aP => exact rfl)
         (case aB => exact (by repeat (first | (with_reducible first | exact HB.out | apply ZhA | apply ZhW | apply ZhD | refine ZhS ?_ GE267.out | refine ZhS ?_ GE268.out | refine ZhS ?_ GE269.out) | exact HB.out)))
         (case aF => exact (fun _ _ => trivial))
         (case aO => exact (by (with_reducible repeat (first | apply ZrA | apply ZrW | apply ZrD)); exact HO_270002.out))
         (case aS => exact (below_size (by repeat (first | (with_reducible first | exact HB.out | apply ZhA | apply ZhW | apply ZhD | refine ZhS ?_ GE267.out | refine ZhS ?_ GE268.out | refine ZhS ?_ GE269.out) | exact HB.out))))
         (case aL => have := LMc37.out; omega)
         intro v271 w39 ho hb hg hat
         rw [← Ny270.out] at ho
         have n0_ := Zam (blk_grown (g := gb267) (o := .cells #[.int .i64 a0_0, .int .i64 a0_1, .slice A0_2 l0_2.length c0_2] 82 (0, 0)) (by (with_reducible repeat (first | refine ZbW ?_ _ | refine ZbD ?_ | refine ZbA ?_ _)); exact BK267.out) hg (Kd.R_ne HO_270002.out BK267.out (by decide)))
         have n1_ := Zam (blk_grown (g := gb268) (o := .cells #[.int .i64 0, .int .i64 0, .slice none 0 0] 82 (0, 0)) (by (with_reducible repeat (first | refine ZbW ?_ _ | refine ZbD ?_ | refine ZbA ?_ _)); exact BK268.out) hg (Kd.R_ne HO_270002.out BK268.out (by decide)))
         have n2_ := Zam (blk_grown (g := gb269) (o := .cells #[.int .i64 (wrap64 (Int.tdiv (wrap64 ((wrap64 (a0_0 + a1)) - 1)) a1)), .int .i64 (wrap64 (Int.tdiv (wrap64 ((wrap64 (a0_1 + a1)) - 1)) a1)), u270002] 82 (0, 0)) (by (with_reducible repeat (first | refine ZbW ?_ _ | refine ZbD ?_ | refine ZbA ?_ _)); exact BK269.out) hg (Kd.R_ne HO_270002.out BK269.out (by decide)))
         have n3_ := Zam (hb)
         have n4_ := Zam (ho)
         clear BK267
         clear BK268
         clear BK269
         clear HB
         clear HO_270002
         have BK267 := n0_
         have BK268 := n1_
         have BK269 := n2_
         have HB := n3_
         have HO272 := n4_
         clear n0_ n1_ n2_ n3_ n4_
         clear ho hb hg hat
         obtain ⟨Ao40, co40, eo40⟩ := Kd.R_slice HO272.out
         (first | subst eo40 | (injection eo40 with f1_ f2_ f3_; have f4_ := f1_.symm; have f5_ := f3_.symm; clear f1_ f2_ f3_; subst f4_; subst f5_))
         refine hK.out _ _ ⟨(ZbC BK269.out 0).trans rfl, (ZbC BK269.out 1).trans rfl, (ZbC BK269.out 2).trans rfl⟩ (fun hHeld => ?_)
         clear hK K
         refine norm_ (a' := ?_) ?_ ?_
         rotate_left
         ·show Act.put _ (some 98) _ = _
          simp only [Act.put, Zl1, Zl2, Zl3, i64_w, i32_w]
          rfl
         refine pure_ (i := 10) (N := some 99) (v := ?_) (a' := ?_) #[true, true, true, true, true, true, true, true, true, true, true, false] rfl rfl (any_of HT_.out (by kernel_rfl)) (fun _ _ _ h => h) (Or.inl ⟨by rfl, ?_⟩) ?_ ?_
         rotate_left
         ·intro w'
          go_simp
          with_reducible rfl
         rotate_left
         ·simp only [Act.put, Zl1, Zl2, Zl3, i64_w, i32_w]
          rfl
         refine last_ (i := 11) (N := none) #[true, true, true, true, true, true, true, true, true, true, true, true] rfl rfl (one_of HT_.out (by kernel_rfl)) (by decide) (fun K hK => ?_)
         have hs41 : w39.cell? ⟨gb269, 2, none⟩ = some (u270002) := (ZbC BK269.out 2).trans rfl
         have hfs41 := ZbF BK269.out 2
         have hns41_0 := NB267_269.out
         have hns41_1 := NB268_269.out
         have hms41_0 := NB269_267.out
         have hms41_1 := NB269_268.out
         refine skip_ (w1 := ?_) (by rfl) rfl ?_ ?_
         rotate_left
         ·go_simp
          rfl
         refine hK.out _ _ ?_
         clear hK K
         refine done_ (done_of HT_.out (by kernel_rfl)) ?_
         try go_wp2
         go_roundg kj18
         case measure => have := HK1.out; have := HK2.out; have := HK3.out; have := HJ18.out; omega
         case rel => exact ⟨(wrap64 (x7_2 + 1)), (y270), (.slice Ao40 y270.length co40), (by first | rfl | (simp; done) | (simp [*]; done)), H', ⟨by have := HK1.out; have := HK2.out; have := HK3.out; have := HJ18.out; omega⟩, ⟨by (with_reducible repeat (first | apply ZrA | apply ZrW | apply ZrD)); exact Kd.R_mono (Kd.R_far (p := ⟨gb269, 2, none⟩) (Kd.R_types HO272.out BK269.out (by decide)) (fun _ hk => hk.2) (.slice Ao40 y270.length co40)) (fun _ hk => trivial)⟩, ⟨by (with_reducible repeat (first | refine ZbW ?_ _ | refine ZbD ?_ | refine ZbA ?_ _)); refine blk_far ?_ NB267_269.out _; (with_reducible repeat (first | refine ZbW ?_ _ | refine ZbD ?_ | refine ZbA ?_ _)); exact BK267.out⟩, ⟨by (with_reducible repeat (first | refine ZbW ?_ _ | refine ZbD ?_ | refine ZbA ?_ _)); refine blk_far ?_ NB268_269.out _; (with_reducible repeat (first | refine ZbW ?_ _ | refine ZbD ?_ | refine ZbA ?_ _)); exact BK268.out⟩, ⟨by (with_reducible repeat (first | refine ZbW ?_ _ | refine ZbD ?_ | refine ZbA ?_ _)); refine blk_put (cs := #[.int .i64 (wrap64 (Int.tdiv (wrap64 ((wrap64 (a0_0 + a1)) - 1)) a1)), .int .i64 (wrap64 (Int.tdiv (wrap64 ((wrap64 (a0_1 + a1)) - 1)) a1)), u270002]) ?_ 2 _ rfl; (with_reducible repeat (first | refine ZbW ?_ _ | refine ZbD ?_ | refine ZbA ?_ _)); exact BK269.out⟩, ⟨by repeat (first | (with_reducible first | exact HB.out | apply ZhA | apply ZhW | apply ZhD | refine ZhS ?_ GE267.out | refine ZhS ?_ GE268.out | refine ZhS ?_ GE269.out) | exact HB.out)⟩⟩

end Go.Proofs.Ytidblealnaicpaa.PFnSizes

-- written by myprint.py (a program of this session's over the kit's print)
import Derived.Test.YtidblealnaicpaaPFnSizesx0
import Derived.Test.YtidblealnaicpaaPFnSizesx4
import Derived.Test.YtidblealnaicpaaPFnSizesx8
namespace Go.Proofs.Ytidblealnaicpaa.PFnSizes
open Go.RowKit Go.Proofs.YtidblealnaicpaaW.PrintWords Go.Proofs.YtidblealnaicpaaW.PrintLast Go.Proofs.YtidblealnaicpaaW.PrintMore
attribute [local go_sem] max2_int min2_int max_two min_two max_three min_three max_four min_four   -- for this text's walks alone
set_option linter.unusedVariables false
set_option linter.unusedSimpArgs false

/-! ### impl.Grow's literal (at): by hand -/
def impl_Grow_1.f (a0 : Int) (a1 : Int) (a2_0 : Int) (a2_1 : Int) (l2_2 : List Int) : Option Int := if 0 ≤ wrap64 (wrap64 (a1 * a2_0) + a0) then (if wrap64 (wrap64 (a1 * a2_0) + a0) < (l2_2.length : Int) then some (rd l2_2 (wrap64 (wrap64 (a1 * a2_0) + a0))) else none) else none
set_option maxHeartbeats 2000000 in
set_option maxRecDepth 100000 in
theorem impl_Grow_1.calls (a0 : Int) (a1 : Int) (g : Nat) (a2_0 : Int) (a2_1 : Int) (A2_2 : Option Addr) (c2_2 : Nat) (l2_2 : List Int) (r : Int) (w : World) (hb : w.heap[g]? = some (.cells #[.int .i64 a2_0, .int .i64 a2_1, .slice A2_2 l2_2.length c2_2] 82 (0, 0))) (hr : Kd.C (Kd.int .i64) w A2_2 l2_2.length l2_2) (hc : l2_2.length ≤ c2_2) (h : impl_Grow_1.f a0 a1 a2_0 a2_1 l2_2 = some r) :
  Calls Try.prog 135 #[.int .i64 a0, .int .i64 a1, .pointer (some ⟨g, 0, none⟩)] w fun e w' => e = .returned (.int .i64 r) ∧ Drawn0 w w' := by
 have hx0 : w.cell? ⟨g, 0, none⟩ = some (.int .i64 a2_0) := (ZbC hb 0).trans rfl
 have hx2 : w.cell? ⟨g, 2, none⟩ = some (.slice A2_2 l2_2.length c2_2) := (ZbC hb 2).trans rfl
 unfold impl_Grow_1.f at h
 by_cases c1 : 0 ≤ wrap64 (wrap64 (a1 * a2_0) + a0)
 case neg => rw [if_neg c1] at h; exact absurd h (by simp)
 rw [if_pos c1] at h
 by_cases c2 : wrap64 (wrap64 (a1 * a2_0) + a0) < (l2_2.length : Int)
 case neg => rw [if_neg c2] at h; exact absurd h (by simp)
 rw [if_pos c2] at h
 obtain rfl := Option.some.inj h
 obtain ⟨ad, ea, hxa⟩ := Kd.at_int hr (wrap64 (wrap64 (a1 * a2_0) + a0)) c1 c2
 cases ea
 have d1 : decide (0 ≤ wrap64 (wrap64 (a1 * a2_0) + a0)) = true := decide_eq_true c1
 have d2 : decide (wrap64 (wrap64 (a1 * a2_0) + a0) < (l2_2.length : Int)) = true := decide_eq_true c2
 replace c1 := eq_true c1
 replace c2 := eq_true c2
 go_enter Try.func135, Try.ntmps135
 go_wp2
 go_ret
 exact ⟨by first | rfl | (simp; done) | (simp [*]; done), by repeat (first | exact Drawn0.refl _ | apply Drawn0.step)⟩

/-! ### impl_Grow: function 62 -/
mutual
def impl_Grow.j0 : Nat → Int → Int → Bool → Int → Int → List Int → Option (Int × Int × List Int)
 | 0, _, _, _, _, _, _ => none
 | k + 1, x1, x2, x53, x255000, x255001, x255002 => if x53 = true then (some (0, 0, ([] : List Int))) else (impl_Grow.l0 k x1 x2 0 x255000 x255001 x255002 x1 x2 ([] : List Int))
def impl_Grow.l0 : Nat → Int → Int → Int → Int → Int → List Int → Int → Int → List Int → Option (Int × Int × List Int)
 | 0, _, _, _, _, _, _, _, _, _ => none
 | k + 1, x1, x59, x60, x255000, x255001, x255002, x258000, x258001, x258002 => if x60 < x59 then (impl_Grow.l1 k x1 x60 x59 x60 x1 0 x255000 x255001 x255002 x258000 x258001 x258002) else (some (x258000, x258001, x258002))
def impl_Grow.l1 : Nat → Int → Int → Int → Int → Int → Int → Int → Int → List Int → Int → Int → List Int → Option (Int × Int × List Int)
 | 0, _, _, _, _, _, _, _, _, _, _, _, _ => none
 | k + 1, x1, x9, x59, x60, x63, x64, x255000, x255001, x255002, x258000, x258001, x258002 => if x64 < x63 then ((impl_near.f x64 x255000).bind fun t258 => ((impl_near.f x9 x255001).bind fun t259 => ((impl_Grow_1.f (wrap64 (Int.tdiv x64 2)) (wrap64 (Int.tdiv x9 2)) x255000 x255001 x255002).bind fun t260 => ((impl_Grow_1.f t258 (wrap64 (Int.tdiv x9 2)) x255000 x255001 x255002).bind fun t261 => ((impl_Grow_1.f (wrap64 (Int.tdiv x64 2)) t259 x255000 x255001 x255002).bind fun t262 => ((impl_Grow_1.f t258 t259 x255000 x255001 x255002).bind fun t263 => (if x258002.length < 17592186044416 then (impl_Grow.l1 k x1 x9 x59 x60 x63 (wrap64 (x64 + 1)) x255000 x255001 x255002 x258000 x258001 (x258002 ++ [(wrap64 ((wrap64 ((wrap64 ((wrap64 ((wrap64 (9 * t260)) + (wrap64 (3 * t261)))) + (wrap64 (3 * t262)))) + t263)) + 8)) / 16])) else (none)))))))) else (impl_Grow.l0 k x1 x59 (wrap64 (x60 + 1)) x255000 x255001 x255002 x258000 x258001 x258002)
end
def impl_Grow.f (k : Nat) (a0_0 : Int) (a0_1 : Int) (l0_2 : List Int) (a1 : Int) (a2 : Int) : Option (Int × Int × List Int) := (impl_GoodPlane.f k a0_0 a0_1 l0_2).bind fun t256 => (if t256 = true then (if a1 = (wrap64 (2 * a0_0)) then (if a2 = (wrap64 (2 * a0_1)) then (impl_Grow.j0 k a1 a2 (decide ((wrap64 (a1 * a2)) > 4096)) a0_0 a0_1 l0_2) else (if a2 = (wrap64 ((wrap64 (2 * a0_1)) - 1)) then (impl_Grow.j0 k a1 a2 (decide ((wrap64 (a1 * a2)) > 4096)) a0_0 a0_1 l0_2) else (impl_Grow.j0 k a1 a2 true a0_0 a0_1 l0_2))) else (if a1 = (wrap64 ((wrap64 (2 * a0_0)) - 1)) then (if a2 = (wrap64 (2 * a0_1)) then (impl_Grow.j0 k a1 a2 (decide ((wrap64 (a1 * a2)) > 4096)) a0_0 a0_1 l0_2) else (if a2 = (wrap64 ((wrap64 (2 * a0_1)) - 1)) then (impl_Grow.j0 k a1 a2 (decide ((wrap64 (a1 * a2)) > 4096)) a0_0 a0_1 l0_2) else (impl_Grow.j0 k a1 a2 true a0_0 a0_1 l0_2))) else (impl_Grow.j0 k a1 a2 true a0_0 a0_1 l0_2))) else (impl_Grow.j0 k a1 a2 true a0_0 a0_1 l0_2))
theorem impl_Grow.mono_l : ∀ k, (∀ y0 y1 y2 y3 y4 y5, LeO (impl_Grow.j0 k y0 y1 y2 y3 y4 y5) (impl_Grow.j0 (k + 1) y0 y1 y2 y3 y4 y5)) ∧ (∀ y0 y1 y2 y3 y4 y5 y6 y7 y8, LeO (impl_Grow.l0 k y0 y1 y2 y3 y4 y5 y6 y7 y8) (impl_Grow.l0 (k + 1) y0 y1 y2 y3 y4 y5 y6 y7 y8)) ∧ (∀ y0 y1 y2 y3 y4 y5 y6 y7 y8 y9 y10 y11, LeO (impl_Grow.l1 k y0 y1 y2 y3 y4 y5 y6 y7 y8 y9 y10 y11) (impl_Grow.l1 (k + 1) y0 y1 y2 y3 y4 y5 y6 y7 y8 y9 y10 y11))
 | 0 => ⟨fun _ _ _ _ _ _ r h => by simp [impl_Grow.j0] at h, fun _ _ _ _ _ _ _ _ _ r h => by simp [impl_Grow.l0] at h, fun _ _ _ _ _ _ _ _ _ _ _ _ r h => by simp [impl_Grow.l1] at h⟩
 | k + 1 => by
  obtain ⟨ih0, ih1, ih2⟩ := impl_Grow.mono_l k
  refine ⟨?_, ?_, ?_⟩
  ·intro y0 y1 y2 y3 y4 y5
   unfold impl_Grow.j0
   repeat' first
   | (with_reducible exact ih0 _ _ _ _ _ _)
   | (with_reducible exact ih1 _ _ _ _ _ _ _ _ _)
   | (with_reducible exact ih2 _ _ _ _ _ _ _ _ _ _ _ _)
   | (with_reducible exact impl_GoodPlane.mono _ _ _ _)
   | (with_reducible exact LeO.refl _)
   | (with_reducible exact LeO.none _)
   | (with_reducible refine LeO.ite ?_ ?_)
   | (with_reducible refine LeO.bind ?_ (fun _ => ?_))
   | exact ih0 _ _ _ _ _ _
   | exact ih1 _ _ _ _ _ _ _ _ _
   | exact ih2 _ _ _ _ _ _ _ _ _ _ _ _
   | exact impl_GoodPlane.mono _ _ _ _
   | exact LeO.none _
   | refine LeO.ite ?_ ?_
   | refine LeO.bind ?_ (fun _ => ?_)
  ·intro y0 y1 y2 y3 y4 y5 y6 y7 y8
   unfold impl_Grow.l0
   repeat' first
   | (with_reducible exact ih0 _ _ _ _ _ _)
   | (with_reducible exact ih1 _ _ _ _ _ _ _ _ _)
   | (with_reducible exact ih2 _ _ _ _ _ _ _ _ _ _ _ _)
   | (with_reducible exact impl_GoodPlane.mono _ _ _ _)
   | (with_reducible exact LeO.refl _)
   | (with_reducible exact LeO.none _)
   | (with_reducible refine LeO.ite ?_ ?_)
   | (with_reducible refine LeO.bind ?_ (fun _ => ?_))
   | exact ih0 _ _ _ _ _ _
   | exact ih1 _ _ _ _ _ _ _ _ _
   | exact ih2 _ _ _ _ _ _ _ _ _ _ _ _
   | exact impl_GoodPlane.mono _ _ _ _
   | exact LeO.none _
   | refine LeO.ite ?_ ?_
   | refine LeO.bind ?_ (fun _ => ?_)
  ·intro y0 y1 y2 y3 y4 y5 y6 y7 y8 y9 y10 y11
   unfold impl_Grow.l1
   repeat' first
   | (with_reducible exact ih0 _ _ _ _ _ _)
   | (with_reducible exact ih1 _ _ _ _ _ _ _ _ _)
   | (with_reducible exact ih2 _ _ _ _ _ _ _ _ _ _ _ _)
   | (with_reducible exact impl_GoodPlane.mono _ _ _ _)
   | (with_reducible exact LeO.refl _)
   | (with_reducible exact LeO.none _)
   | (with_reducible refine LeO.ite ?_ ?_)
   | (with_reducible refine LeO.bind ?_ (fun _ => ?_))
   | exact ih0 _ _ _ _ _ _
   | exact ih1 _ _ _ _ _ _ _ _ _
   | exact ih2 _ _ _ _ _ _ _ _ _ _ _ _
   | exact impl_GoodPlane.mono _ _ _ _
   | exact LeO.none _
   | refine LeO.ite ?_ ?_
   | refine LeO.bind ?_ (fun _ => ?_)
theorem impl_Grow.mono : ∀ a0 a1 a2 a3 a4 k, LeO (impl_Grow.f k a0 a1 a2 a3 a4) (impl_Grow.f (k + 1) a0 a1 a2 a3 a4) := by
 intro a0 a1 a2 a3 a4 k
 obtain ⟨ih0, ih1, ih2⟩ := impl_Grow.mono_l k
 unfold impl_Grow.f
 repeat' first
   | (with_reducible exact ih0 _ _ _ _ _ _)
   | (with_reducible exact ih1 _ _ _ _ _ _ _ _ _)
   | (with_reducible exact ih2 _ _ _ _ _ _ _ _ _ _ _ _)
   | (with_reducible exact impl_GoodPlane.mono _ _ _ _)
   | (with_reducible exact LeO.refl _)
   | (with_reducible exact LeO.none _)
   | (with_reducible refine LeO.ite ?_ ?_)
   | (with_reducible refine LeO.bind ?_ (fun _ => ?_))
   | exact ih0 _ _ _ _ _ _
   | exact ih1 _ _ _ _ _ _ _ _ _
   | exact ih2 _ _ _ _ _ _ _ _ _ _ _ _
   | exact impl_GoodPlane.mono _ _ _ _
   | exact LeO.none _
   | refine LeO.ite ?_ ?_
   | refine LeO.bind ?_ (fun _ => ?_)
def impl_Grow.T11 : Bool × List (List Nat × List Nat) := (true, [([], []), ([0], [0]), ([], []), ([2], [2]), ([], []), ([], []), ([5], [5]), ([4, 6], [4, 6]), ([], []), ([], []), ([9], [9]), ([8, 10, 7], [8, 10]), ([1, 11, 0, 1], [1]), ([3, 12, 0, 1, 2, 3, 12], [3]), ([7, 13, 0, 1, 2, 3, 4, 5, 6, 7, 12, 13], [7]), ([11, 14, 0, 1, 2, 3, 4, 5, 6, 7, 8, 9, 10, 11, 12, 13, 14], [11])])
def impl_Grow.B11 : List Nat := [0, 1, 0, 4, 0, 0, 32, 112, 0, 0, 512, 2032, 4083, 8191, 16383, 32767]
theorem impl_Grow.tab11 : rtab .any (opsOf Try.f62 11) = impl_Grow.T11 := by kernel_rfl
theorem impl_Grow.bits11 : waitsOk impl_Grow.T11.2 impl_Grow.B11 = true := by kernel_rfl
def impl_Grow.T12 : Bool × List (List Nat × List Nat) := (true, [([], []), ([0], [0]), ([], []), ([], []), ([], []), ([2, 3, 4], [2, 3, 4]), ([5], [5]), ([], []), ([], []), ([], []), ([7, 8, 9, 5], [7, 8, 9]), ([10], [10]), ([6, 11], [6, 11]), ([], []), ([], []), ([], []), ([13, 14, 15, 10], [13, 14, 15]), ([16], [16]), ([12, 17], [12, 17]), ([], []), ([], []), ([], []), ([19, 20, 21, 16], [19, 20, 21]), ([18, 22], [18, 22]), ([23], [23]), ([24], [24]), ([25], [25]), ([1, 26, 22], [1, 26]), ([0, 1, 2, 3, 4, 5, 6, 7, 8, 9, 10, 11, 12, 13, 14, 15, 16, 17, 18, 19, 20, 21, 22, 23, 24, 25, 26, 27], []), ([28, 27, 27, 0, 1, 2, 3, 4, 5, 6, 7, 8, 9, 10, 11, 12, 13, 14, 15, 16, 17, 18, 19, 20, 21, 22, 23, 24, 25, 26, 27], [27, 28])])
def impl_Grow.B12 : List Nat := [0, 1, 0, 0, 0, 28, 60, 0, 0, 0, 956, 1980, 4092, 0, 0, 0, 59324, 124860, 262140, 0, 0, 0, 3794876, 8388604, 16777212, 33554428, 67108860, 134217727, 268435455, 536870911]
theorem impl_Grow.tab12 : rtab .any (opsOf Try.f62 12) = impl_Grow.T12 := by kernel_rfl
theorem impl_Grow.bits12 : waitsOk impl_Grow.T12.2 impl_Grow.B12 = true := by kernel_rfl
set_option maxHeartbeats 8000000 in
set_option maxRecDepth 100000 in
theorem impl_Grow.calls (k : Nat) (a0_0 : Int) (a0_1 : Int) (A0_2 : Option Addr) (c0_2 : Nat) (l0_2 : List Int) (a1 : Int) (a2 : Int) (r1 : Int) (r2 : Int) (r3 : List Int) (w : World) (hr0_2 : Kd.C (Kd.int .i64) w A0_2 l0_2.length l0_2) (hc0_2 : l0_2.length ≤ c0_2) (h : impl_Grow.f k a0_0 a0_1 l0_2 a1 a2 = some (r1, r2, r3)) :
  Calls Try.prog 62 #[.agg #[.int .i64 a0_0, .int .i64 a0_1, .slice A0_2 l0_2.length c0_2], .int .i64 a1, .int .i64 a2] w fun e w' => ∃ v2_ : Value, e = .returned (.agg #[.int .i64 r1, .int .i64 r2, v2_]) ∧ Kd.R (Kd.int .i64) 3 w' w.heap.size (fun _ => True) v2_ r3 ∧ Below w.heap.size w w' := by
 have hu82 := Try.underlying82
 have HR0_2 := Zam hr0_2
 have HC0_2 := Zam hc0_2
 clear hr0_2 hc0_2
 have HB := Zam (Below.refl w.heap.size w)
 have H : ((impl_GoodPlane.f k a0_0 a0_1 l0_2).bind fun t256 => (if t256 = true then (if a1 = (wrap64 (2 * a0_0)) then (if a2 = (wrap64 (2 * a0_1)) then (impl_Grow.j0 k a1 a2 (decide ((wrap64 (a1 * a2)) > 4096)) a0_0 a0_1 l0_2) else (if a2 = (wrap64 ((wrap64 (2 * a0_1)) - 1)) then (impl_Grow.j0 k a1 a2 (decide ((wrap64 (a1 * a2)) > 4096)) a0_0 a0_1 l0_2) else (impl_Grow.j0 k a1 a2 true a0_0 a0_1 l0_2))) else (if a1 = (wrap64 ((wrap64 (2 * a0_0)) - 1)) then (if a2 = (wrap64 (2 * a0_1)) then (impl_Grow.j0 k a1 a2 (decide ((wrap64 (a1 * a2)) > 4096)) a0_0 a0_1 l0_2) else (if a2 = (wrap64 ((wrap64 (2 * a0_1)) - 1)) then (impl_Grow.j0 k a1 a2 (decide ((wrap64 (a1 * a2)) > 4096)) a0_0 a0_1 l0_2) else (impl_Grow.j0 k a1 a2 true a0_0 a0_1 l0_2))) else (impl_Grow.j0 k a1 a2 true a0_0 a0_1 l0_2))) else (impl_Grow.j0 k a1 a2 true a0_0 a0_1 l0_2))) = some (r1, r2, r3) := h
 clear h
 have HC4 := Zam H
 clear H
 go_enter Try.func62, Try.ntmps62
 go_upto_region 1 with (first | ((with_reducible refine gate_dst (N := 3) rfl ?_); refine box_event ?hg (N := 3) ?hd (cs := #[.int .i64 a0_0, .int .i64 a0_1, .slice A0_2 l0_2.length c0_2]) (t := 82) ?hr ?_; (case hd => rfl); (case hg => rfl); (case hr => first | (go_simp; done) | (go_simp; rfl)); intro gb254 hg w5 hbox hb; have n0_ := Zam (ZbS (by repeat (first | (with_reducible first | exact HB.out | apply ZhA | apply ZhW | apply ZhD) | exact HB.out)) hb); have n1_ := Zam (hbox); have n2_ := Zam ((by rw [hg]; exact (below_size (by repeat (first | (with_reducible first | exact HB.out | apply ZhA | apply ZhW | apply ZhD) | exact HB.out))) : w.heap.size ≤ gb254)); have n3_ := n2_; clear HB; have HB := n0_; have BK254 := n1_; have GW254 := n2_; have GE254 := n3_; clear n0_ n1_ n2_ n3_; clear hb hbox hg) | ((with_reducible refine gate_dst (N := 6) rfl ?_); refine box_event ?hg (N := 6) ?hd (cs := #[.int .i64 0, .int .i64 0, .slice none 0 0]) (t := 82) ?hr ?_; (case hd => rfl); (case hg => rfl); (case hr => first | (go_simp; done) | (go_simp; rfl)); intro gb255 hg w6 hbox hb; have n0_ := Zam (ZbB (g := gb254) (o := .cells #[.int .i64 a0_0, .int .i64 a0_1, .slice A0_2 l0_2.length c0_2] 82 (0, 0)) (by (with_reducible repeat (first | refine ZbW ?_ _ | refine ZbD ?_ | refine ZbA ?_ _)); exact BK254.out) hb); have n1_ := Zam (ZbS (by repeat (first | (with_reducible first | exact HB.out | apply ZhA | apply ZhW | apply ZhD | refine ZhS ?_ GE254.out) | exact HB.out)) hb); have n2_ := Zam (hbox); have n3_ := Zam ((by rw [hg]; exact (below_size (by repeat (first | (with_reducible first | exact HB.out | apply ZhA | apply ZhW | apply ZhD | refine ZhS ?_ GE254.out) | exact HB.out))) : w.heap.size ≤ gb255)); have n4_ := n3_; have n5_ := Zam ((by rw [hg]; exact Nat.ne_of_lt (blk_lt (g := gb254) (o := .cells #[.int .i64 a0_0, .int .i64 a0_1, .slice A0_2 l0_2.length c0_2] 82 (0, 0)) (by (with_reducible repeat (first | refine ZbW ?_ _ | refine ZbD ?_ | refine ZbA ?_ _)); exact BK254.out)) : gb254 ≠ gb255)); have n6_ := Zam ((by rw [hg]; exact Nat.ne_of_gt (blk_lt (g := gb254) (o := .cells #[.int .i64 a0_0, .int .i64 a0_1, .slice A0_2 l0_2.length c0_2] 82 (0, 0)) (by (with_reducible repeat (first | refine ZbW ?_ _ | refine ZbD ?_ | refine ZbA ?_ _)); exact BK254.out)) : gb255 ≠ gb254)); clear BK254 HB; have BK254 := n0_; have HB := n1_; have BK255 := n2_; have GW255 := n3_; have GE255 := n4_; have NB254_255 := n5_; have NB255_254 := n6_; clear n0_ n1_ n2_ n3_ n4_ n5_ n6_; clear hb hbox hg))
 (try simp only [Act.put, Zl1, Zl2, Zl3])
 go_cut [53] (fun v53 wc => ∃ (kq : Nat) (x53_3 : Bool), v53 = .bool x53_3 ∧ Aside0 (impl_Grow.j0 kq a1 a2 x53_3 a0_0 a0_1 l0_2 = some (r1, r2, r3)) ∧ Aside0 (kq ≤ k) ∧ Aside0 (wc.heap[gb254]? = some (.cells #[.int .i64 a0_0, .int .i64 a0_1, (.slice A0_2 l0_2.length c0_2)] 82 (0, 0))) ∧ Aside0 (wc.heap[gb255]? = some (.cells #[.int .i64 0, .int .i64 0, (.slice none 0 0)] 82 (0, 0))) ∧ Aside0 (Below w.heap.size w wc))
 case first =>
  have H := HC4.out
  clear HC4
  replace H := Zob.mp H
  obtain ⟨t256, A70, H⟩ := H
  replace H : (if t256 = true then (if a1 = (wrap64 (2 * a0_0)) then (if a2 = (wrap64 (2 * a0_1)) then (impl_Grow.j0 k a1 a2 (decide ((wrap64 (a1 * a2)) > 4096)) a0_0 a0_1 l0_2) else (if a2 = (wrap64 ((wrap64 (2 * a0_1)) - 1)) then (impl_Grow.j0 k a1 a2 (decide ((wrap64 (a1 * a2)) > 4096)) a0_0 a0_1 l0_2) else (impl_Grow.j0 k a1 a2 true a0_0 a0_1 l0_2))) else (if a1 = (wrap64 ((wrap64 (2 * a0_0)) - 1)) then (if a2 = (wrap64 (2 * a0_1)) then (impl_Grow.j0 k a1 a2 (decide ((wrap64 (a1 * a2)) > 4096)) a0_0 a0_1 l0_2) else (if a2 = (wrap64 ((wrap64 (2 * a0_1)) - 1)) then (impl_Grow.j0 k a1 a2 (decide ((wrap64 (a1 * a2)) > 4096)) a0_0 a0_1 l0_2) else (impl_Grow.j0 k a1 a2 true a0_0 a0_1 l0_2))) else (impl_Grow.j0 k a1 a2 true a0_0 a0_1 l0_2))) else (impl_Grow.j0 k a1 a2 true a0_0 a0_1 l0_2)) = some (r1, r2, r3) := H
  have A7 := Zam A70
  clear A70
  by_cases c8 : t256 = true
  rotate_left
  ·replace c8 := Bool.eq_false_iff.mpr c8
   subst c8
   replace H : (impl_Grow.j0 k a1 a2 true a0_0 a0_1 l0_2) = some (r1, r2, r3) := by rw [if_neg (show ¬ (false = true) by decide)] at H; exact H
   have H' := Zam H
   clear H
   have hnb43 := NB254_255.out
   have hnc43 := NB255_254.out
   have hcz44_0 : w6.cell? ⟨gb254, 0, none⟩ = some (.int .i64 a0_0) := (ZbC BK254.out 0).trans rfl
   have hcz44_1 : w6.cell? ⟨gb254, 1, none⟩ = some (.int .i64 a0_1) := (ZbC BK254.out 1).trans rfl
   have hcz44_2 : w6.cell? ⟨gb254, 2, none⟩ = some (.slice A0_2 l0_2.length c0_2) := (ZbC BK254.out 2).trans rfl
   have hfz44_0 := ZbF BK254.out 0
   have hfz44_1 := ZbF BK254.out 1
   have hfz44_2 := ZbF BK254.out 2
   go_wp2_with (first | ((with_reducible refine gate_callee (f := 131) rfl ?_); refine goesL_ (some 16) rfl rfl Try.func131 (by kernel_rfl) rfl #[.agg #[.int .i64 a0_0, .int .i64 a0_1, .slice A0_2 l0_2.length c0_2]] rfl (by (try simp only [Zm1, Zm2, Zm3]); first | done | rfl | (simp only [ZlL, ZlT]; rfl)) ?_; (with_reducible refine (impl_GoodPlane.calls k a0_0 a0_1 _ _ l0_2 false _ ?side1 ?side2 A7.out).mono ?_); (case side1 => repeat (first | exact (Kd.C_below HR0_2.out HB.out) | (with_reducible refine Kd.C_alloc ?_ _) | (with_reducible refine Kd.C_drewN ?_ _) | (with_reducible refine Kd.C_drew ?_))); (case side2 => exact HC0_2.out); rintro e w45 ⟨rfl, hb⟩; refine ⟨_, rfl, ?_⟩; have n0_ := Zam (ZbB (g := gb254) (o := .cells #[.int .i64 a0_0, .int .i64 a0_1, .slice A0_2 l0_2.length c0_2] 82 (0, 0)) (by (with_reducible repeat (first | refine ZbW ?_ _ | refine ZbD ?_ | refine ZbA ?_ _)); exact BK254.out) hb); have n1_ := Zam (ZbB (g := gb255) (o := .cells #[.int .i64 0, .int .i64 0, .slice none 0 0] 82 (0, 0)) (by (with_reducible repeat (first | refine ZbW ?_ _ | refine ZbD ?_ | refine ZbA ?_ _)); exact BK255.out) hb); have n2_ := Zam (ZbS (by repeat (first | (with_reducible first | exact HB.out | apply ZhA | apply ZhW | apply ZhD | refine ZhS ?_ GE254.out | refine ZhS ?_ GE255.out) | exact HB.out)) hb); clear BK254 BK255 HB; have BK254 := n0_; have BK255 := n1_; have HB := n2_; clear n0_ n1_ n2_; (try clear hb); (try clear hb2); (try clear hk); (try clear hi)))
   go_meet
   case rel => exact ⟨_, (true), (by first | rfl | (simp; done) | (simp [*]; done)), H', ⟨by first | omega | exact Nat.le_refl _⟩, ⟨by (with_reducible repeat (first | refine ZbW ?_ _ | refine ZbD ?_ | refine ZbA ?_ _)); exact BK254.out⟩, ⟨by (with_reducible repeat (first | refine ZbW ?_ _ | refine ZbD ?_ | refine ZbA ?_ _)); exact BK255.out⟩, ⟨by repeat (first | (with_reducible first | exact HB.out | apply ZhA | apply ZhW | apply ZhD | refine ZhS ?_ GE254.out | refine ZhS ?_ GE255.out) | exact HB.out)⟩⟩
  subst c8
  replace H : (if a1 = (wrap64 (2 * a0_0)) then (if a2 = (wrap64 (2 * a0_1)) then (impl_Grow.j0 k a1 a2 (decide ((wrap64 (a1 * a2)) > 4096)) a0_0 a0_1 l0_2) else (if a2 = (wrap64 ((wrap64 (2 * a0_1)) - 1)) then (impl_Grow.j0 k a1 a2 (decide ((wrap64 (a1 * a2)) > 4096)) a0_0 a0_1 l0_2) else (impl_Grow.j0 k a1 a2 true a0_0 a0_1 l0_2))) else (if a1 = (wrap64 ((wrap64 (2 * a0_0)) - 1)) then (if a2 = (wrap64 (2 * a0_1)) then (impl_Grow.j0 k a1 a2 (decide ((wrap64 (a1 * a2)) > 4096)) a0_0 a0_1 l0_2) else (if a2 = (wrap64 ((wrap64 (2 * a0_1)) - 1)) then (impl_Grow.j0 k a1 a2 (decide ((wrap64 (a1 * a2)) > 4096)) a0_0 a0_1 l0_2) else (impl_Grow.j0 k a1 a2 true a0_0 a0_1 l0_2))) else (impl_Grow.j0 k a1 a2 true a0_0 a0_1 l0_2))) = some (r1, r2, r3) := by rw [if_pos rfl] at H; exact H
  by_cases c9 : a1 = (wrap64 (2 * a0_0))
  rw [if_pos c9] at H
  have c9b0 : (a1 == (wrap64 (2 * a0_0))) = true := beq_iff_eq.mpr c9
  have c9b1 : (a1 != (wrap64 (2 * a0_0))) = false := bne_eq_false_iff_eq.mpr c9
  clear c9
  (first | rw [c9b0] | (simp only [i64_w, i32_w]; rw [c9b0]) | skip)
  by_cases c10 : a2 = (wrap64 (2 * a0_1))
  rw [if_pos c10] at H
  have c10b0 : (a2 == (wrap64 (2 * a0_1))) = true := beq_iff_eq.mpr c10
  have c10b1 : (a2 != (wrap64 (2 * a0_1))) = false := bne_eq_false_iff_eq.mpr c10
  clear c10
  have H' := Zam H
  clear H
  rotate_left
  rw [if_neg c10] at H
  have c10b0 : (a2 == (wrap64 (2 * a0_1))) = false := beq_eq_false_iff_ne.mpr c10
  have c10b1 : (a2 != (wrap64 (2 * a0_1))) = true := bne_iff_ne.mpr c10
  by_cases c15 : a2 = (wrap64 ((wrap64 (2 * a0_1)) - 1))
  rw [if_pos c15] at H
  have c15b0 : (a2 == (wrap64 ((wrap64 (2 * a0_1)) - 1))) = true := beq_iff_eq.mpr c15
  have c15b1 : (a2 != (wrap64 ((wrap64 (2 * a0_1)) - 1))) = false := bne_eq_false_iff_eq.mpr c15
  clear c15
  have H' := Zam H
  clear H
  rotate_left
  ·rw [if_neg c15] at H
   have c15b0 : (a2 == (wrap64 ((wrap64 (2 * a0_1)) - 1))) = false := beq_eq_false_iff_ne.mpr c15
   have c15b1 : (a2 != (wrap64 ((wrap64 (2 * a0_1)) - 1))) = true := bne_iff_ne.mpr c15
   have H' := Zam H
   clear H
   have hnb20 := NB254_255.out
   have hnc20 := NB255_254.out
   have hcz21_0 : w6.cell? ⟨gb254, 0, none⟩ = some (.int .i64 a0_0) := (ZbC BK254.out 0).trans rfl
   have hcz21_1 : w6.cell? ⟨gb254, 1, none⟩ = some (.int .i64 a0_1) := (ZbC BK254.out 1).trans rfl
   have hcz21_2 : w6.cell? ⟨gb254, 2, none⟩ = some (.slice A0_2 l0_2.length c0_2) := (ZbC BK254.out 2).trans rfl
   have hfz21_0 := ZbF BK254.out 0
   have hfz21_1 := ZbF BK254.out 1
   have hfz21_2 := ZbF BK254.out 2
   go_wp2_with (first | ((with_reducible refine gate_callee (f := 131) rfl ?_); refine goesL_ (some 16) rfl rfl Try.func131 (by kernel_rfl) rfl #[.agg #[.int .i64 a0_0, .int .i64 a0_1, .slice A0_2 l0_2.length c0_2]] rfl (by (try simp only [Zm1, Zm2, Zm3]); first | done | rfl | (simp only [ZlL, ZlT]; rfl)) ?_; (with_reducible refine (impl_GoodPlane.calls k a0_0 a0_1 _ _ l0_2 true _ ?side1 ?side2 A7.out).mono ?_); (case side1 => repeat (first | exact (Kd.C_below HR0_2.out HB.out) | (with_reducible refine Kd.C_alloc ?_ _) | (with_reducible refine Kd.C_drewN ?_ _) | (with_reducible refine Kd.C_drew ?_))); (case side2 => exact HC0_2.out); rintro e w22 ⟨rfl, hb⟩; refine ⟨_, rfl, ?_⟩; have n0_ := Zam (ZbB (g := gb254) (o := .cells #[.int .i64 a0_0, .int .i64 a0_1, .slice A0_2 l0_2.length c0_2] 82 (0, 0)) (by (with_reducible repeat (first | refine ZbW ?_ _ | refine ZbD ?_ | refine ZbA ?_ _)); exact BK254.out) hb); have n1_ := Zam (ZbB (g := gb255) (o := .cells #[.int .i64 0, .int .i64 0, .slice none 0 0] 82 (0, 0)) (by (with_reducible repeat (first | refine ZbW ?_ _ | refine ZbD ?_ | refine ZbA ?_ _)); exact BK255.out) hb); have n2_ := Zam (ZbS (by repeat (first | (with_reducible first | exact HB.out | apply ZhA | apply ZhW | apply ZhD | refine ZhS ?_ GE254.out | refine ZhS ?_ GE255.out) | exact HB.out)) hb); clear BK254 BK255 HB; have BK254 := n0_; have BK255 := n1_; have HB := n2_; clear n0_ n1_ n2_; (try clear hb); (try clear hb2); (try clear hk); (try clear hi); have hcz23_0 : w22.cell? ⟨gb254, 0, none⟩ = some (.int .i64 a0_0) := (ZbC BK254.out 0).trans rfl; have hcz23_1 : w22.cell? ⟨gb254, 1, none⟩ = some (.int .i64 a0_1) := (ZbC BK254.out 1).trans rfl; have hcz23_2 : w22.cell? ⟨gb254, 2, none⟩ = some (.slice A0_2 l0_2.length c0_2) := (ZbC BK254.out 2).trans rfl; have hfz23_0 := ZbF BK254.out 0; have hfz23_1 := ZbF BK254.out 1; have hfz23_2 := ZbF BK254.out 2))
   go_meet
   case rel => exact ⟨_, (true), (by first | rfl | (simp; done) | (simp [*]; done)), H', ⟨by first | omega | exact Nat.le_refl _⟩, ⟨by (with_reducible repeat (first | refine ZbW ?_ _ | refine ZbD ?_ | refine ZbA ?_ _)); exact BK254.out⟩, ⟨by (with_reducible repeat (first | refine ZbW ?_ _ | refine ZbD ?_ | refine ZbA ?_ _)); exact BK255.out⟩, ⟨by repeat (first | (with_reducible first | exact HB.out | apply ZhA | apply ZhW | apply ZhD | refine ZhS ?_ GE254.out | refine ZhS ?_ GE255.out) | exact HB.out)⟩⟩
  rw [if_neg c9] at H
  have c9b0 : (a1 == (wrap64 (2 * a0_0))) = false := beq_eq_false_iff_ne.mpr c9
  have c9b1 : (a1 != (wrap64 (2 * a0_0))) = true := bne_iff_ne.mpr c9
  (first | rw [c9b0] | (simp only [i64_w, i32_w]; rw [c9b0]) | skip)
  by_cases c24 : a1 = (wrap64 ((wrap64 (2 * a0_0)) - 1))
  rw [if_pos c24] at H
  have c24b0 : (a1 == (wrap64 ((wrap64 (2 * a0_0)) - 1))) = true := beq_iff_eq.mpr c24
  have c24b1 : (a1 != (wrap64 ((wrap64 (2 * a0_0)) - 1))) = false := bne_eq_false_iff_eq.mpr c24
  clear c24
  by_cases c25 : a2 = (wrap64 (2 * a0_1))
  rw [if_pos c25] at H
  have c25b0 : (a2 == (wrap64 (2 * a0_1))) = true := beq_iff_eq.mpr c25
  have c25b1 : (a2 != (wrap64 (2 * a0_1))) = false := bne_eq_false_iff_eq.mpr c25
  clear c25
  have H' := Zam H
  clear H
  rotate_left
  rw [if_neg c25] at H
  have c25b0 : (a2 == (wrap64 (2 * a0_1))) = false := beq_eq_false_iff_ne.mpr c25
  have c25b1 : (a2 != (wrap64 (2 * a0_1))) = true := bne_iff_ne.mpr c25
  by_cases c30 : a2 = (wrap64 ((wrap64 (2 * a0_1)) - 1))
  rw [if_pos c30] at H
  have c30b0 : (a2 == (wrap64 ((wrap64 (2 * a0_1)) - 1))) = true := beq_iff_eq.mpr c30
  have c30b1 : (a2 != (wrap64 ((wrap64 (2 * a0_1)) - 1))) = false := bne_eq_false_iff_eq.mpr c30
  clear c30
  have H' := Zam H
  clear H
  rotate_left
  ·rw [if_neg c30] at H
   have c30b0 : (a2 == (wrap64 ((wrap64 (2 * a0_1)) - 1))) = false := beq_eq_false_iff_ne.mpr c30
   have c30b1 : (a2 != (wrap64 ((wrap64 (2 * a0_1)) - 1))) = true := bne_iff_ne.mpr c30
   have H' := Zam H
   clear H
   have hnb35 := NB254_255.out
   have hnc35 := NB255_254.out
   have hcz36_0 : w6.cell? ⟨gb254, 0, none⟩ = some (.int .i64 a0_0) := (ZbC BK254.out 0).trans rfl
   have hcz36_1 : w6.cell? ⟨gb254, 1, none⟩ = some (.int .i64 a0_1) := (ZbC BK254.out 1).trans rfl
   have hcz36_2 : w6.cell? ⟨gb254, 2, none⟩ = some (.slice A0_2 l0_2.length c0_2) := (ZbC BK254.out 2).trans rfl
   have hfz36_0 := ZbF BK254.out 0
   have hfz36_1 := ZbF BK254.out 1
   have hfz36_2 := ZbF BK254.out 2
   go_wp2_with (first | ((with_reducible refine gate_callee (f := 131) rfl ?_); refine goesL_ (some 16) rfl rfl Try.func131 (by kernel_rfl) rfl #[.agg #[.int .i64 a0_0, .int .i64 a0_1, .slice A0_2 l0_2.length c0_2]] rfl (by (try simp only [Zm1, Zm2, Zm3]); first | done | rfl | (simp only [ZlL, ZlT]; rfl)) ?_; (with_reducible refine (impl_GoodPlane.calls k a0_0 a0_1 _ _ l0_2 true _ ?side1 ?side2 A7.out).mono ?_); (case side1 => repeat (first | exact (Kd.C_below HR0_2.out HB.out) | (with_reducible refine Kd.C_alloc ?_ _) | (with_reducible refine Kd.C_drewN ?_ _) | (with_reducible refine Kd.C_drew ?_))); (case side2 => exact HC0_2.out); rintro e w37 ⟨rfl, hb⟩; refine ⟨_, rfl, ?_⟩; have n0_ := Zam (ZbB (g := gb254) (o := .cells #[.int .i64 a0_0, .int .i64 a0_1, .slice A0_2 l0_2.length c0_2] 82 (0, 0)) (by (with_reducible repeat (first | refine ZbW ?_ _ | refine ZbD ?_ | refine ZbA ?_ _)); exact BK254.out) hb); have n1_ := Zam (ZbB (g := gb255) (o := .cells #[.int .i64 0, .int .i64 0, .slice none 0 0] 82 (0, 0)) (by (with_reducible repeat (first | refine ZbW ?_ _ | refine ZbD ?_ | refine ZbA ?_ _)); exact BK255.out) hb); have n2_ := Zam (ZbS (by repeat (first | (with_reducible first | exact HB.out | apply ZhA | apply ZhW | apply ZhD | refine ZhS ?_ GE254.out | refine ZhS ?_ GE255.out) | exact HB.out)) hb); clear BK254 BK255 HB; have BK254 := n0_; have BK255 := n1_; have HB := n2_; clear n0_ n1_ n2_; (try clear hb); (try clear hb2); (try clear hk); (try clear hi); have hcz38_0 : w37.cell? ⟨gb254, 0, none⟩ = some (.int .i64 a0_0) := (ZbC BK254.out 0).trans rfl; have hcz38_1 : w37.cell? ⟨gb254, 1, none⟩ = some (.int .i64 a0_1) := (ZbC BK254.out 1).trans rfl; have hcz38_2 : w37.cell? ⟨gb254, 2, none⟩ = some (.slice A0_2 l0_2.length c0_2) := (ZbC BK254.out 2).trans rfl; have hfz38_0 := ZbF BK254.out 0; have hfz38_1 := ZbF BK254.out 1; have hfz38_2 := ZbF BK254.out 2))
   go_meet
   case rel => exact ⟨_, (true), (by first | rfl | (simp; done) | (simp [*]; done)), H', ⟨by first | omega | exact Nat.le_refl _⟩, ⟨by (with_reducible repeat (first | refine ZbW ?_ _ | refine ZbD ?_ | refine ZbA ?_ _)); exact BK254.out⟩, ⟨by (with_reducible repeat (first | refine ZbW ?_ _ | refine ZbD ?_ | refine ZbA ?_ _)); exact BK255.out⟩, ⟨by repeat (first | (with_reducible first | exact HB.out | apply ZhA | apply ZhW | apply ZhD | refine ZhS ?_ GE254.out | refine ZhS ?_ GE255.out) | exact HB.out)⟩⟩
  ·rw [if_neg c24] at H
   have c24b0 : (a1 == (wrap64 ((wrap64 (2 * a0_0)) - 1))) = false := beq_eq_false_iff_ne.mpr c24
   have c24b1 : (a1 != (wrap64 ((wrap64 (2 * a0_0)) - 1))) = true := bne_iff_ne.mpr c24
   have H' := Zam H
   clear H
   have hnb39 := NB254_255.out
   have hnc39 := NB255_254.out
   have hcz40_0 : w6.cell? ⟨gb254, 0, none⟩ = some (.int .i64 a0_0) := (ZbC BK254.out 0).trans rfl
   have hcz40_1 : w6.cell? ⟨gb254, 1, none⟩ = some (.int .i64 a0_1) := (ZbC BK254.out 1).trans rfl
   have hcz40_2 : w6.cell? ⟨gb254, 2, none⟩ = some (.slice A0_2 l0_2.length c0_2) := (ZbC BK254.out 2).trans rfl
   have hfz40_0 := ZbF BK254.out 0
   have hfz40_1 := ZbF BK254.out 1
   have hfz40_2 := ZbF BK254.out 2
   go_wp2_with (first | ((with_reducible refine gate_callee (f := 131) rfl ?_); refine goesL_ (some 16) rfl rfl Try.func131 (by kernel_rfl) rfl #[.agg #[.int .i64 a0_0, .int .i64 a0_1, .slice A0_2 l0_2.length c0_2]] rfl (by (try simp only [Zm1, Zm2, Zm3]); first | done | rfl | (simp only [ZlL, ZlT]; rfl)) ?_; (with_reducible refine (impl_GoodPlane.calls k a0_0 a0_1 _ _ l0_2 true _ ?side1 ?side2 A7.out).mono ?_); (case side1 => repeat (first | exact (Kd.C_below HR0_2.out HB.out) | (with_reducible refine Kd.C_alloc ?_ _) | (with_reducible refine Kd.C_drewN ?_ _) | (with_reducible refine Kd.C_drew ?_))); (case side2 => exact HC0_2.out); rintro e w41 ⟨rfl, hb⟩; refine ⟨_, rfl, ?_⟩; have n0_ := Zam (ZbB (g := gb254) (o := .cells #[.int .i64 a0_0, .int .i64 a0_1, .slice A0_2 l0_2.length c0_2] 82 (0, 0)) (by (with_reducible repeat (first | refine ZbW ?_ _ | refine ZbD ?_ | refine ZbA ?_ _)); exact BK254.out) hb); have n1_ := Zam (ZbB (g := gb255) (o := .cells #[.int .i64 0, .int .i64 0, .slice none 0 0] 82 (0, 0)) (by (with_reducible repeat (first | refine ZbW ?_ _ | refine ZbD ?_ | refine ZbA ?_ _)); exact BK255.out) hb); have n2_ := Zam (ZbS (by repeat (first | (with_reducible first | exact HB.out | apply ZhA | apply ZhW | apply ZhD | refine ZhS ?_ GE254.out | refine ZhS ?_ GE255.out) | exact HB.out)) hb); clear BK254 BK255 HB; have BK254 := n0_; have BK255 := n1_; have HB := n2_; clear n0_ n1_ n2_; (try clear hb); (try clear hb2); (try clear hk); (try clear hi); have hcz42_0 : w41.cell? ⟨gb254, 0, none⟩ = some (.int .i64 a0_0) := (ZbC BK254.out 0).trans rfl; have hcz42_1 : w41.cell? ⟨gb254, 1, none⟩ = some (.int .i64 a0_1) := (ZbC BK254.out 1).trans rfl; have hcz42_2 : w41.cell? ⟨gb254, 2, none⟩ = some (.slice A0_2 l0_2.length c0_2) := (ZbC BK254.out 2).trans rfl; have hfz42_0 := ZbF BK254.out 0; have hfz42_1 := ZbF BK254.out 1; have hfz42_2 := ZbF BK254.out 2))
   go_meet
   case rel => exact ⟨_, (true), (by first | rfl | (simp; done) | (simp [*]; done)), H', ⟨by first | omega | exact Nat.le_refl _⟩, ⟨by (with_reducible repeat (first | refine ZbW ?_ _ | refine ZbD ?_ | refine ZbA ?_ _)); exact BK254.out⟩, ⟨by (with_reducible repeat (first | refine ZbW ?_ _ | refine ZbD ?_ | refine ZbA ?_ _)); exact BK255.out⟩, ⟨by repeat (first | (with_reducible first | exact HB.out | apply ZhA | apply ZhW | apply ZhD | refine ZhS ?_ GE254.out | refine ZhS ?_ GE255.out) | exact HB.out)⟩⟩
  all_goals
   have hnb11 := NB254_255.out
   have hnc11 := NB255_254.out
   have hcz12_0 : w6.cell? ⟨gb254, 0, none⟩ = some (.int .i64 a0_0) := (ZbC BK254.out 0).trans rfl
   have hcz12_1 : w6.cell? ⟨gb254, 1, none⟩ = some (.int .i64 a0_1) := (ZbC BK254.out 1).trans rfl
   have hcz12_2 : w6.cell? ⟨gb254, 2, none⟩ = some (.slice A0_2 l0_2.length c0_2) := (ZbC BK254.out 2).trans rfl
   have hfz12_0 := ZbF BK254.out 0
   have hfz12_1 := ZbF BK254.out 1
   have hfz12_2 := ZbF BK254.out 2
   go_wp2_with (first | ((with_reducible refine gate_callee (f := 131) rfl ?_); refine goesL_ (some 16) rfl rfl Try.func131 (by kernel_rfl) rfl #[.agg #[.int .i64 a0_0, .int .i64 a0_1, .slice A0_2 l0_2.length c0_2]] rfl (by (try simp only [Zm1, Zm2, Zm3]); first | done | rfl | (simp only [ZlL, ZlT]; rfl)) ?_; (with_reducible refine (impl_GoodPlane.calls k a0_0 a0_1 _ _ l0_2 true _ ?side1 ?side2 A7.out).mono ?_); (case side1 => repeat (first | exact (Kd.C_below HR0_2.out HB.out) | (with_reducible refine Kd.C_alloc ?_ _) | (with_reducible refine Kd.C_drewN ?_ _) | (with_reducible refine Kd.C_drew ?_))); (case side2 => exact HC0_2.out); rintro e w13 ⟨rfl, hb⟩; refine ⟨_, rfl, ?_⟩; have n0_ := Zam (ZbB (g := gb254) (o := .cells #[.int .i64 a0_0, .int .i64 a0_1, .slice A0_2 l0_2.length c0_2] 82 (0, 0)) (by (with_reducible repeat (first | refine ZbW ?_ _ | refine ZbD ?_ | refine ZbA ?_ _)); exact BK254.out) hb); have n1_ := Zam (ZbB (g := gb255) (o := .cells #[.int .i64 0, .int .i64 0, .slice none 0 0] 82 (0, 0)) (by (with_reducible repeat (first | refine ZbW ?_ _ | refine ZbD ?_ | refine ZbA ?_ _)); exact BK255.out) hb); have n2_ := Zam (ZbS (by repeat (first | (with_reducible first | exact HB.out | apply ZhA | apply ZhW | apply ZhD | refine ZhS ?_ GE254.out | refine ZhS ?_ GE255.out) | exact HB.out)) hb); clear BK254 BK255 HB; have BK254 := n0_; have BK255 := n1_; have HB := n2_; clear n0_ n1_ n2_; (try clear hb); (try clear hb2); (try clear hk); (try clear hi); have hcz14_0 : w13.cell? ⟨gb254, 0, none⟩ = some (.int .i64 a0_0) := (ZbC BK254.out 0).trans rfl; have hcz14_1 : w13.cell? ⟨gb254, 1, none⟩ = some (.int .i64 a0_1) := (ZbC BK254.out 1).trans rfl; have hcz14_2 : w13.cell? ⟨gb254, 2, none⟩ = some (.slice A0_2 l0_2.length c0_2) := (ZbC BK254.out 2).trans rfl; have hfz14_0 := ZbF BK254.out 0; have hfz14_1 := ZbF BK254.out 1; have hfz14_2 := ZbF BK254.out 2))
   go_meet
   case rel => exact ⟨_, (decide ((wrap64 (a1 * a2)) > 4096)), (by first | rfl | (simp; done) | (simp [*]; done)), H', ⟨by first | omega | exact Nat.le_refl _⟩, ⟨by (with_reducible repeat (first | refine ZbW ?_ _ | refine ZbD ?_ | refine ZbA ?_ _)); exact BK254.out⟩, ⟨by (with_reducible repeat (first | refine ZbW ?_ _ | refine ZbD ?_ | refine ZbA ?_ _)); exact BK255.out⟩, ⟨by repeat (first | (with_reducible first | exact HB.out | apply ZhA | apply ZhW | apply ZhD | refine ZhS ?_ GE254.out | refine ZhS ?_ GE255.out) | exact HB.out)⟩⟩
 case rest =>
  clear HC4
  try clear c1
  try clear c2
  try clear p2
  try clear c3
  try clear c4
  try clear c6
  try clear p6
  try clear c8
  try clear c9
  try clear c9b0
  try clear c9b1
  try clear c10
  try clear c10b0
  try clear c10b1
  try clear c11
  try clear c13
  try clear c15
  try clear c15b0
  try clear c15b1
  try clear c16
  try clear c20
  try clear c24
  try clear c24b0
  try clear c24b1
  try clear c25
  try clear c25b0
  try clear c25b1
  try clear c26
  try clear c30
  try clear c30b0
  try clear c30b1
  try clear c31
  try clear c35
  try clear c39
  try clear c43
  try clear hcz12_0
  try clear hcz12_1
  try clear hcz12_2
  try clear hcz14_0
  try clear hcz14_1
  try clear hcz14_2
  try clear hcz17_0
  try clear hcz17_1
  try clear hcz17_2
  try clear hcz19_0
  try clear hcz19_1
  try clear hcz19_2
  try clear hcz21_0
  try clear hcz21_1
  try clear hcz21_2
  try clear hcz23_0
  try clear hcz23_1
  try clear hcz23_2
  try clear hcz27_0
  try clear hcz27_1
  try clear hcz27_2
  try clear hcz29_0
  try clear hcz29_1
  try clear hcz29_2
  try clear hcz32_0
  try clear hcz32_1
  try clear hcz32_2
  try clear hcz34_0
  try clear hcz34_1
  try clear hcz34_2
  try clear hcz36_0
  try clear hcz36_1
  try clear hcz36_2
  try clear hcz38_0
  try clear hcz38_1
  try clear hcz38_2
  try clear hcz40_0
  try clear hcz40_1
  try clear hcz40_2
  try clear hcz42_0
  try clear hcz42_1
  try clear hcz42_2
  try clear hcz44_0
  try clear hcz44_1
  try clear hcz44_2
  try clear hfz12_0
  try clear hfz12_1
  try clear hfz12_2
  try clear hfz14_0
  try clear hfz14_1
  try clear hfz14_2
  try clear hfz17_0
  try clear hfz17_1
  try clear hfz17_2
  try clear hfz19_0
  try clear hfz19_1
  try clear hfz19_2
  try clear hfz21_0
  try clear hfz21_1
  try clear hfz21_2
  try clear hfz23_0
  try clear hfz23_1
  try clear hfz23_2
  try clear hfz27_0
  try clear hfz27_1
  try clear hfz27_2
  try clear hfz29_0
  try clear hfz29_1
  try clear hfz29_2
  try clear hfz32_0
  try clear hfz32_1
  try clear hfz32_2
  try clear hfz34_0
  try clear hfz34_1
  try clear hfz34_2
  try clear hfz36_0
  try clear hfz36_1
  try clear hfz36_2
  try clear hfz38_0
  try clear hfz38_1
  try clear hfz38_2
  try clear hfz40_0
  try clear hfz40_1
  try clear hfz40_2
  try clear hfz42_0
  try clear hfz42_1
  try clear hfz42_2
  try clear hfz44_0
  try clear hfz44_1
  try clear hfz44_2
  obtain ⟨kq, x53_3, rfl, HA, HJ3, BK254, BK255, HB⟩ := hcut
  cases kq with
  | zero => exact absurd HA.out (by simp [impl_Grow.j0])
  | succ kj3 =>
   have H := HA.out
   clear HA
   simp only [impl_Grow.j0] at H
   by_cases c46 : x53_3 = true
   ·subst c46
    replace H : (some (0, 0, ([] : List Int))) = some (r1, r2, r3) := by rw [if_pos rfl] at H; exact H
    simp only [Option.some.injEq, Prod.mk.injEq] at H
    obtain ⟨rfl, rfl, rfl⟩ := H
    have hnb47 := NB255_254.out
    have hnc47 := NB254_255.out
    have hcz48_0 : wc.cell? ⟨gb255, 0, none⟩ = some (.int .i64 0) := (ZbC BK255.out 0).trans rfl
    have hcz48_1 : wc.cell? ⟨gb255, 1, none⟩ = some (.int .i64 0) := (ZbC BK255.out 1).trans rfl
    have hcz48_2 : wc.cell? ⟨gb255, 2, none⟩ = some (.slice none 0 0) := (ZbC BK255.out 2).trans rfl
    have hfz48_0 := ZbF BK255.out 0
    have hfz48_1 := ZbF BK255.out 1
    have hfz48_2 := ZbF BK255.out 2
    go_wp2
    refine bodyPost_ret (results_cell_row rfl _ _ gb255 82 #[.int .i64 0, .int .i64 0, .slice none 0 0] (0, 0) _ rfl (set3_blk BK255.out) Try.underlying82 rfl (by kernel_rfl)) rfl ?_
    exact ⟨_, by first | rfl | (simp [*, errW_none, errW_some] <;> rfl), by first | exact Kd.R_nil _ _ _ _ _ | exact Kd.N_nil _ _ _ _ _ | exact Kd.V_nil _ _ _ _ _ | exact Kd.Q_nil _ _ _ _ _ | exact Kd.S_nil _ _ _ _ _, by repeat (first | (with_reducible first | exact HB.out | apply ZhA | apply ZhW | apply ZhD | refine ZhS ?_ GE254.out | refine ZhS ?_ GE255.out) | exact HB.out)⟩
   replace c46 := Bool.eq_false_iff.mpr c46
   subst c46
   replace H : (impl_Grow.l0 kj3 a1 a2 0 a0_0 a0_1 l0_2 a1 a2 ([] : List Int)) = some (r1, r2, r3) := by rw [if_neg (show ¬ (false = true) by decide)] at H; exact H
   have H' := Zam H
   clear H
   go_wp2_with (first | ((with_reducible refine gate_dst (N := 7) rfl ?_); refine box_event ?hg (N := 7) ?hd (cs := #[.int .i64 0, .int .i64 0, .slice none 0 0]) (t := 82) ?hr ?_; (case hd => rfl); (case hg => rfl); (case hr => first | (go_simp; done) | (go_simp; rfl)); intro gb257 hg w49 hbox hb; have n0_ := Zam (ZbB (g := gb254) (o := .cells #[.int .i64 a0_0, .int .i64 a0_1, .slice A0_2 l0_2.length c0_2] 82 (0, 0)) (by (with_reducible repeat (first | refine ZbW ?_ _ | refine ZbD ?_ | refine ZbA ?_ _)); exact BK254.out) hb); have n1_ := Zam (ZbB (g := gb255) (o := .cells #[.int .i64 0, .int .i64 0, .slice none 0 0] 82 (0, 0)) (by (with_reducible repeat (first | refine ZbW ?_ _ | refine ZbD ?_ | refine ZbA ?_ _)); exact BK255.out) hb); have n2_ := Zam (ZbS (by repeat (first | (with_reducible first | exact HB.out | apply ZhA | apply ZhW | apply ZhD | refine ZhS ?_ GE254.out | refine ZhS ?_ GE255.out) | exact HB.out)) hb); have n3_ := Zam (hbox); have n4_ := Zam ((by rw [hg]; exact (below_size (by repeat (first | (with_reducible first | exact HB.out | apply ZhA | apply ZhW | apply ZhD | refine ZhS ?_ GE254.out | refine ZhS ?_ GE255.out) | exact HB.out))) : w.heap.size ≤ gb257)); have n5_ := n4_; have n6_ := Zam ((by rw [hg]; exact Nat.ne_of_lt (blk_lt (g := gb254) (o := .cells #[.int .i64 a0_0, .int .i64 a0_1, .slice A0_2 l0_2.length c0_2] 82 (0, 0)) (by (with_reducible repeat (first | refine ZbW ?_ _ | refine ZbD ?_ | refine ZbA ?_ _)); exact BK254.out)) : gb254 ≠ gb257)); have n7_ := Zam ((by rw [hg]; exact Nat.ne_of_gt (blk_lt (g := gb254) (o := .cells #[.int .i64 a0_0, .int .i64 a0_1, .slice A0_2 l0_2.length c0_2] 82 (0, 0)) (by (with_reducible repeat (first | refine ZbW ?_ _ | refine ZbD ?_ | refine ZbA ?_ _)); exact BK254.out)) : gb257 ≠ gb254)); have n8_ := Zam ((by rw [hg]; exact Nat.ne_of_lt (blk_lt (g := gb255) (o := .cells #[.int .i64 0, .int .i64 0, .slice none 0 0] 82 (0, 0)) (by (with_reducible repeat (first | refine ZbW ?_ _ | refine ZbD ?_ | refine ZbA ?_ _)); exact BK255.out)) : gb255 ≠ gb257)); have n9_ := Zam ((by rw [hg]; exact Nat.ne_of_gt (blk_lt (g := gb255) (o := .cells #[.int .i64 0, .int .i64 0, .slice none 0 0] 82 (0, 0)) (by (with_reducible repeat (first | refine ZbW ?_ _ | refine ZbD ?_ | refine ZbA ?_ _)); exact BK255.out)) : gb257 ≠ gb255)); clear BK254 BK255 HB; have BK254 := n0_; have BK255 := n1_; have HB := n2_; have BK257 := n3_; have GW257 := n4_; have GE257 := n5_; have NB254_257 := n6_; have NB257_254 := n7_; have NB255_257 := n8_; have NB257_255 := n9_; clear n0_ n1_ n2_ n3_ n4_ n5_ n6_ n7_ n8_ n9_; clear hb hbox hg; have hnb50 := NB257_254.out; have hnc50 := NB254_257.out; have hnb51 := NB257_255.out; have hnc51 := NB255_257.out; have hcz52_0 : w49.cell? ⟨gb257, 0, none⟩ = some (.int .i64 0) := (ZbC BK257.out 0).trans rfl; have hcz52_1 : w49.cell? ⟨gb257, 1, none⟩ = some (.int .i64 0) := (ZbC BK257.out 1).trans rfl; have hcz52_2 : w49.cell? ⟨gb257, 2, none⟩ = some (.slice none 0 0) := (ZbC BK257.out 2).trans rfl; have hfz52_0 := ZbF BK257.out 0; have hfz52_1 := ZbF BK257.out 1; have hfz52_2 := ZbF BK257.out 2))
   go_loopg [60] kj3 (fun kq v60 w' => ∃ (x60_2 : Int) (x258002_2 : List Int) (u258002 : Value), v60 = .int .i64 x60_2 ∧ Aside0 (impl_Grow.l0 kq a1 a2 x60_2 a0_0 a0_1 l0_2 a1 a2 x258002_2 = some (r1, r2, r3)) ∧ Aside0 (kq ≤ kj3) ∧ Aside0 (Kd.R (Kd.int .i64) 3 w' w.heap.size (fun _ => True) u258002 x258002_2) ∧ Aside0 (w'.heap[gb254]? = some (.cells #[.int .i64 a0_0, .int .i64 a0_1, (.slice A0_2 l0_2.length c0_2)] 82 (0, 0))) ∧ Aside0 (w'.heap[gb255]? = some (.cells #[.int .i64 0, .int .i64 0, (.slice none 0 0)] 82 (0, 0))) ∧ Aside0 (w'.heap[gb257]? = some (.cells #[.int .i64 a1, .int .i64 a2, u258002] 82 (0, 0))) ∧ Aside0 (Below w.heap.size w w'))
   case atStart => exact ⟨(0), (([] : List Int)), (.slice none 0 0), (by first | rfl | (simp; done) | (simp [*]; done)), H', ⟨Nat.le_refl _⟩, ⟨by first | exact Kd.R_nil _ _ _ _ _ | exact Kd.N_nil _ _ _ _ _ | exact Kd.V_nil _ _ _ _ _ | exact Kd.Q_nil _ _ _ _ _ | exact Kd.S_nil _ _ _ _ _⟩, ⟨by (with_reducible repeat (first | refine ZbW ?_ _ | refine ZbD ?_ | refine ZbA ?_ _)); refine blk_far ?_ NB254_257.out _; (with_reducible repeat (first | refine ZbW ?_ _ | refine ZbD ?_ | refine ZbA ?_ _)); refine blk_far ?_ NB254_257.out _; (with_reducible repeat (first | refine ZbW ?_ _ | refine ZbD ?_ | refine ZbA ?_ _)); refine blk_far ?_ NB254_257.out _; (with_reducible repeat (first | refine ZbW ?_ _ | refine ZbD ?_ | refine ZbA ?_ _)); exact BK254.out⟩, ⟨by (with_reducible repeat (first | refine ZbW ?_ _ | refine ZbD ?_ | refine ZbA ?_ _)); refine blk_far ?_ NB255_257.out _; (with_reducible repeat (first | refine ZbW ?_ _ | refine ZbD ?_ | refine ZbA ?_ _)); refine blk_far ?_ NB255_257.out _; (with_reducible repeat (first | refine ZbW ?_ _ | refine ZbD ?_ | refine ZbA ?_ _)); refine blk_far ?_ NB255_257.out _; (with_reducible repeat (first | refine ZbW ?_ _ | refine ZbD ?_ | refine ZbA ?_ _)); exact BK255.out⟩, ⟨by (with_reducible repeat (first | refine ZbW ?_ _ | refine ZbD ?_ | refine ZbA ?_ _)); refine blk_put (cs := #[.int .i64 a1, .int .i64 a2, .slice none 0 0]) ?_ 2 _ rfl; (with_reducible repeat (first | refine ZbW ?_ _ | refine ZbD ?_ | refine ZbA ?_ _)); refine blk_put (cs := #[.int .i64 a1, .int .i64 0, .slice none 0 0]) ?_ 1 _ rfl; (with_reducible repeat (first | refine ZbW ?_ _ | refine ZbD ?_ | refine ZbA ?_ _)); refine blk_put (cs := #[.int .i64 0, .int .i64 0, .slice none 0 0]) ?_ 0 _ rfl; (with_reducible repeat (first | refine ZbW ?_ _ | refine ZbD ?_ | refine ZbA ?_ _)); exact BK257.out⟩, ⟨by repeat (first | (with_reducible first | exact HB.out | apply ZhA | apply ZhW | apply ZhD | refine ZhS ?_ GE254.out | refine ZhS ?_ GE255.out | refine ZhS ?_ GE257.out) | exact HB.out)⟩⟩
   case round =>
    clear H'
    try clear c1
    try clear c2
    try clear p2
    try clear c3
    try clear c4
    try clear c5
    try clear c6
    try clear p6
    try clear c8
    try clear c9
    try clear c9b0
    try clear c9b1
    try clear c10
    try clear c10b0
    try clear c10b1
    try clear c11
    try clear c13
    try clear c15
    try clear c15b0
    try clear c15b1
    try clear c16
    try clear c20
    try clear c24
    try clear c24b0
    try clear c24b1
    try clear c25
    try clear c25b0
    try clear c25b1
    try clear c26
    try clear c30
    try clear c30b0
    try clear c30b1
    try clear c31
    try clear c35
    try clear c39
    try clear c43
    try clear c46
    try clear c47
    try clear c50
    try clear c51
    try clear hcz12_0
    try clear hcz12_1
    try clear hcz12_2
    try clear hcz14_0
    try clear hcz14_1
    try clear hcz14_2
    try clear hcz17_0
    try clear hcz17_1
    try clear hcz17_2
    try clear hcz19_0
    try clear hcz19_1
    try clear hcz19_2
    try clear hcz21_0
    try clear hcz21_1
    try clear hcz21_2
    try clear hcz23_0
    try clear hcz23_1
    try clear hcz23_2
    try clear hcz27_0
    try clear hcz27_1
    try clear hcz27_2
    try clear hcz29_0
    try clear hcz29_1
    try clear hcz29_2
    try clear hcz32_0
    try clear hcz32_1
    try clear hcz32_2
    try clear hcz34_0
    try clear hcz34_1
    try clear hcz34_2
    try clear hcz36_0
    try clear hcz36_1
    try clear hcz36_2
    try clear hcz38_0
    try clear hcz38_1
    try clear hcz38_2
    try clear hcz40_0
    try clear hcz40_1
    try clear hcz40_2
    try clear hcz42_0
    try clear hcz42_1
    try clear hcz42_2
    try clear hcz44_0
    try clear hcz44_1
    try clear hcz44_2
    try clear hcz48_0
    try clear hcz48_1
    try clear hcz48_2
    try clear hcz52_0
    try clear hcz52_1
    try clear hcz52_2
    try clear hfz12_0
    try clear hfz12_1
    try clear hfz12_2
    try clear hfz14_0
    try clear hfz14_1
    try clear hfz14_2
    try clear hfz17_0
    try clear hfz17_1
    try clear hfz17_2
    try clear hfz19_0
    try clear hfz19_1
    try clear hfz19_2
    try clear hfz21_0
    try clear hfz21_1
    try clear hfz21_2
    try clear hfz23_0
    try clear hfz23_1
    try clear hfz23_2
    try clear hfz27_0
    try clear hfz27_1
    try clear hfz27_2
    try clear hfz29_0
    try clear hfz29_1
    try clear hfz29_2
    try clear hfz32_0
    try clear hfz32_1
    try clear hfz32_2
    try clear hfz34_0
    try clear hfz34_1
    try clear hfz34_2
    try clear hfz36_0
    try clear hfz36_1
    try clear hfz36_2
    try clear hfz38_0
    try clear hfz38_1
    try clear hfz38_2
    try clear hfz40_0
    try clear hfz40_1
    try clear hfz40_2
    try clear hfz42_0
    try clear hfz42_1
    try clear hfz42_2
    try clear hfz44_0
    try clear hfz44_1
    try clear hfz44_2
    try clear hfz48_0
    try clear hfz48_1
    try clear hfz48_2
    try clear hfz52_0
    try clear hfz52_1
    try clear hfz52_2
    try clear p2
    try clear p6
    obtain ⟨x60_2, x258002_2, u258002, rfl, HA, HK2, HO_258002, BK254, BK255, BK257, HB⟩ := hrel
    cases gk with
    | zero => exact absurd HA.out (by simp [impl_Grow.l0])
    | succ k2 =>
     have H := HA.out
     clear HA
     simp only [impl_Grow.l0] at H
     by_cases c53 : x60_2 < a2
     rotate_left
     ·rw [if_neg c53] at H
      have c53b0 : decide (x60_2 < a2) = false := decide_eq_false c53
      clear c53
      simp only [Option.some.injEq, Prod.mk.injEq] at H
      obtain ⟨rfl, rfl, rfl⟩ := H
      have hnb69 := NB257_254.out
      have hnc69 := NB254_257.out
      have hnb70 := NB257_255.out
      have hnc70 := NB255_257.out
      have hcz71_0 : wr.cell? ⟨gb257, 0, none⟩ = some (.int .i64 a1) := (ZbC BK257.out 0).trans rfl
      have hcz71_1 : wr.cell? ⟨gb257, 1, none⟩ = some (.int .i64 a2) := (ZbC BK257.out 1).trans rfl
      have hcz71_2 : wr.cell? ⟨gb257, 2, none⟩ = some (u258002) := (ZbC BK257.out 2).trans rfl
      have hfz71_0 := ZbF BK257.out 0
      have hfz71_1 := ZbF BK257.out 1
      have hfz71_2 := ZbF BK257.out 2
      have hnb72 := NB255_254.out
      have hnc72 := NB254_255.out
      have hcz73_0 : wr.cell? ⟨gb255, 0, none⟩ = some (.int .i64 0) := (ZbC BK255.out 0).trans rfl
      have hcz73_1 : wr.cell? ⟨gb255, 1, none⟩ = some (.int .i64 0) := (ZbC BK255.out 1).trans rfl
      have hcz73_2 : wr.cell? ⟨gb255, 2, none⟩ = some (.slice none 0 0) := (ZbC BK255.out 2).trans rfl
      have hfz73_0 := ZbF BK255.out 0
      have hfz73_1 := ZbF BK255.out 1
      have hfz73_2 := ZbF BK255.out 2
      obtain ⟨Ao74, co74, eo74⟩ := Kd.R_slice HO_258002.out
      subst eo74
      go_wp2
      refine bodyPost_ret (results_cell_row rfl _ _ gb255 82 #[.int .i64 a1, .int .i64 a2, .slice Ao74 x258002_2.length co74] (0, 0) _ rfl (set3_blk BK255.out) Try.underlying82 rfl (by kernel_rfl)) rfl ?_
      exact ⟨_, by first | rfl | (simp [*, errW_none, errW_some] <;> rfl), by (with_reducible repeat (first | apply ZrA | apply ZrW | apply ZrD)); exact Kd.R_mono (set3_R (Kd.R_types HO_258002.out BK255.out (by decide)) (fun _ hk => hk.2)) (fun _ hk => trivial), by repeat (first | (with_reducible first | exact HB.out | apply ZhA | apply ZhW | apply ZhD | refine ZhS ?_ GE254.out | refine ZhS ?_ GE255.out | refine ZhS ?_ GE257.out) | exact HB.out)⟩
     rw [if_pos c53] at H
     have c53b0 : decide (x60_2 < a2) = true := decide_eq_true c53
     clear c53
     have H' := Zam H
     clear H
     go_wp2
     go_loopg [64] k2 (fun kq v64 w' => ∃ (x64_3 : Int) (x258002_3 : List Int) (u258002 : Value), v64 = .int .i64 x64_3 ∧ Aside0 (impl_Grow.l1 kq a1 x60_2 a2 x60_2 a1 x64_3 a0_0 a0_1 l0_2 a1 a2 x258002_3 = some (r1, r2, r3)) ∧ Aside0 (kq ≤ k2) ∧ Aside0 (Kd.R (Kd.int .i64) 3 w' w.heap.size (fun _ => True) u258002 x258002_3) ∧ Aside0 (w'.heap[gb254]? = some (.cells #[.int .i64 a0_0, .int .i64 a0_1, (.slice A0_2 l0_2.length c0_2)] 82 (0, 0))) ∧ Aside0 (w'.heap[gb255]? = some (.cells #[.int .i64 0, .int .i64 0, (.slice none 0 0)] 82 (0, 0))) ∧ Aside0 (w'.heap[gb257]? = some (.cells #[.int .i64 a1, .int .i64 a2, u258002] 82 (0, 0))) ∧ Aside0 (Below w.heap.size w w'))
     case atStart => exact ⟨(0), (x258002_2), (u258002), (by first | rfl | (simp; done) | (simp [*]; done)), H', ⟨Nat.le_refl _⟩, ⟨by (with_reducible repeat (first | apply ZrA | apply ZrW | apply ZrD)); exact HO_258002.out⟩, ⟨by (with_reducible repeat (first | refine ZbW ?_ _ | refine ZbD ?_ | refine ZbA ?_ _)); exact BK254.out⟩, ⟨by (with_reducible repeat (first | refine ZbW ?_ _ | refine ZbD ?_ | refine ZbA ?_ _)); exact BK255.out⟩, ⟨by (with_reducible repeat (first | refine ZbW ?_ _ | refine ZbD ?_ | refine ZbA ?_ _)); exact BK257.out⟩, ⟨by repeat (first | (with_reducible first | exact HB.out | apply ZhA | apply ZhW | apply ZhD | refine ZhS ?_ GE254.out | refine ZhS ?_ GE255.out | refine ZhS ?_ GE257.out) | exact HB.out)⟩⟩
     case round =>
      clear H'
      try clear c1
      try clear c2
      try clear p2
      try clear c3
      try clear c4
      try clear c5
      try clear c6
      try clear p6
      try clear c8
      try clear c9
      try clear c9b0
      try clear c9b1
      try clear c10
      try clear c10b0
      try clear c10b1
      try clear c11
      try clear c13
      try clear c15
      try clear c15b0
      try clear c15b1
      try clear c16
      try clear c20
      try clear c24
      try clear c24b0
      try clear c24b1
      try clear c25
      try clear c25b0
      try clear c25b1
      try clear c26
      try clear c30
      try clear c30b0
      try clear c30b1
      try clear c31
      try clear c35
      try clear c39
      try clear c43
      try clear c46
      try clear c47
      try clear c50
      try clear c51
      try clear c53
      try clear c53b0
      try clear hcz12_0
      try clear hcz12_1
      try clear hcz12_2
      try clear hcz14_0
      try clear hcz14_1
      try clear hcz14_2
      try clear hcz17_0
      try clear hcz17_1
      try clear hcz17_2
      try clear hcz19_0
      try clear hcz19_1
      try clear hcz19_2
      try clear hcz21_0
      try clear hcz21_1
      try clear hcz21_2
      try clear hcz23_0
      try clear hcz23_1
      try clear hcz23_2
      try clear hcz27_0
      try clear hcz27_1
      try clear hcz27_2
      try clear hcz29_0
      try clear hcz29_1
      try clear hcz29_2
      try clear hcz32_0
      try clear hcz32_1
      try clear hcz32_2
      try clear hcz34_0
      try clear hcz34_1
      try clear hcz34_2
      try clear hcz36_0
      try clear hcz36_1
      try clear hcz36_2
      try clear hcz38_0
      try clear hcz38_1
      try clear hcz38_2
      try clear hcz40_0
      try clear hcz40_1
      try clear hcz40_2
      try clear hcz42_0
      try clear hcz42_1
      try clear hcz42_2
      try clear hcz44_0
      try clear hcz44_1
      try clear hcz44_2
      try clear hcz48_0
      try clear hcz48_1
      try clear hcz48_2
      try clear hcz52_0
      try clear hcz52_1
      try clear hcz52_2
      try clear hfz12_0
      try clear hfz12_1
      try clear hfz12_2
      try clear hfz14_0
      try clear hfz14_1
      try clear hfz14_2
      try clear hfz17_0
      try clear hfz17_1
      try clear hfz17_2
      try clear hfz19_0
      try clear hfz19_1
      try clear hfz19_2
      try clear hfz21_0
      try clear hfz21_1
      try clear hfz21_2
      try clear hfz23_0
      try clear hfz23_1
      try clear hfz23_2
      try clear hfz27_0
      try clear hfz27_1
      try clear hfz27_2
      try clear hfz29_0
      try clear hfz29_1
      try clear hfz29_2
      try clear hfz32_0
      try clear hfz32_1
      try clear hfz32_2
      try clear hfz34_0
      try clear hfz34_1
      try clear hfz34_2
      try clear hfz36_0
      try clear hfz36_1
      try clear hfz36_2
      try clear hfz38_0
      try clear hfz38_1
      try clear hfz38_2
      try clear hfz40_0
      try clear hfz40_1
      try clear hfz40_2
      try clear hfz42_0
      try clear hfz42_1
      try clear hfz42_2
      try clear hfz44_0
      try clear hfz44_1
      try clear hfz44_2
      try clear hfz48_0
      try clear hfz48_1
      try clear hfz48_2
      try clear hfz52_0
      try clear hfz52_1
      try clear hfz52_2
      try clear p2
      try clear p6
      obtain ⟨x64_3, x258002_3, u258002, rfl, HA, HK3, HO_258002, BK254, BK255, BK257, HB⟩ := hrel
      cases gk with
      | zero => exact absurd HA.out (by simp [impl_Grow.l1])
      | succ k3 =>
       have H := HA.out
       clear HA
       simp only [impl_Grow.l1] at H
       by_cases c54 : x64_3 < a1
       rotate_left
       ·rw [if_neg c54] at H
        have c54b0 : decide (x64_3 < a1) = false := decide_eq_false c54
        clear c54
        have H' := Zam H
        clear H
        go_wp2
        go_roundg k3
        case measure => have := HJ3.out; have := HK2.out; have := HK3.out; omega
        case rel => exact ⟨(wrap64 (x60_2 + 1)), (x258002_3), (u258002), (by first | rfl | (simp; done) | (simp [*]; done)), H', ⟨by have := HJ3.out; have := HK2.out; have := HK3.out; omega⟩, ⟨by (with_reducible repeat (first | apply ZrA | apply ZrW | apply ZrD)); exact HO_258002.out⟩, ⟨by (with_reducible repeat (first | refine ZbW ?_ _ | refine ZbD ?_ | refine ZbA ?_ _)); exact BK254.out⟩, ⟨by (with_reducible repeat (first | refine ZbW ?_ _ | refine ZbD ?_ | refine ZbA ?_ _)); exact BK255.out⟩, ⟨by (with_reducible repeat (first | refine ZbW ?_ _ | refine ZbD ?_ | refine ZbA ?_ _)); exact BK257.out⟩, ⟨by repeat (first | (with_reducible first | exact HB.out | apply ZhA | apply ZhW | apply ZhD | refine ZhS ?_ GE254.out | refine ZhS ?_ GE255.out | refine ZhS ?_ GE257.out) | exact HB.out)⟩⟩
       rw [if_pos c54] at H
       have c54b0 : decide (x64_3 < a1) = true := decide_eq_true c54
       clear c54
       replace H := Zob.mp H
       obtain ⟨t258, A550, H⟩ := H
       replace H : ((impl_near.f x60_2 a0_1).bind fun t259 => ((impl_Grow_1.f (wrap64 (Int.tdiv x64_3 2)) (wrap64 (Int.tdiv x60_2 2)) a0_0 a0_1 l0_2).bind fun t260 => ((impl_Grow_1.f t258 (wrap64 (Int.tdiv x60_2 2)) a0_0 a0_1 l0_2).bind fun t261 => ((impl_Grow_1.f (wrap64 (Int.tdiv x64_3 2)) t259 a0_0 a0_1 l0_2).bind fun t262 => ((impl_Grow_1.f t258 t259 a0_0 a0_1 l0_2).bind fun t263 => (if x258002_3.length < 17592186044416 then (impl_Grow.l1 k3 a1 x60_2 a2 x60_2 a1 (wrap64 (x64_3 + 1)) a0_0 a0_1 l0_2 a1 a2 (x258002_3 ++ [(wrap64 ((wrap64 ((wrap64 ((wrap64 ((wrap64 (9 * t260)) + (wrap64 (3 * t261)))) + (wrap64 (3 * t262)))) + t263)) + 8)) / 16])) else (none))))))) = some (r1, r2, r3) := H
       have A55 := Zam A550
       clear A550
       replace H := Zob.mp H
       obtain ⟨t259, A560, H⟩ := H
       replace H : ((impl_Grow_1.f (wrap64 (Int.tdiv x64_3 2)) (wrap64 (Int.tdiv x60_2 2)) a0_0 a0_1 l0_2).bind fun t260 => ((impl_Grow_1.f t258 (wrap64 (Int.tdiv x60_2 2)) a0_0 a0_1 l0_2).bind fun t261 => ((impl_Grow_1.f (wrap64 (Int.tdiv x64_3 2)) t259 a0_0 a0_1 l0_2).bind fun t262 => ((impl_Grow_1.f t258 t259 a0_0 a0_1 l0_2).bind fun t263 => (if x258002_3.length < 17592186044416 then (impl_Grow.l1 k3 a1 x60_2 a2 x60_2 a1 (wrap64 (x64_3 + 1)) a0_0 a0_1 l0_2 a1 a2 (x258002_3 ++ [(wrap64 ((wrap64 ((wrap64 ((wrap64 ((wrap64 (9 * t260)) + (wrap64 (3 * t261)))) + (wrap64 (3 * t262)))) + t263)) + 8)) / 16])) else (none)))))) = some (r1, r2, r3) := H
       have A56 := Zam A560
       clear A560
       replace H := Zob.mp H
       obtain ⟨t260, A570, H⟩ := H
       replace H : ((impl_Grow_1.f t258 (wrap64 (Int.tdiv x60_2 2)) a0_0 a0_1 l0_2).bind fun t261 => ((impl_Grow_1.f (wrap64 (Int.tdiv x64_3 2)) t259 a0_0 a0_1 l0_2).bind fun t262 => ((impl_Grow_1.f t258 t259 a0_0 a0_1 l0_2).bind fun t263 => (if x258002_3.length < 17592186044416 then (impl_Grow.l1 k3 a1 x60_2 a2 x60_2 a1 (wrap64 (x64_3 + 1)) a0_0 a0_1 l0_2 a1 a2 (x258002_3 ++ [(wrap64 ((wrap64 ((wrap64 ((wrap64 ((wrap64 (9 * t260)) + (wrap64 (3 * t261)))) + (wrap64 (3 * t262)))) + t263)) + 8)) / 16])) else (none))))) = some (r1, r2, r3) := H
       have A57 := Zam A570
       clear A570
       replace H := Zob.mp H
       obtain ⟨t261, A580, H⟩ := H
       replace H : ((impl_Grow_1.f (wrap64 (Int.tdiv x64_3 2)) t259 a0_0 a0_1 l0_2).bind fun t262 => ((impl_Grow_1.f t258 t259 a0_0 a0_1 l0_2).bind fun t263 => (if x258002_3.length < 17592186044416 then (impl_Grow.l1 k3 a1 x60_2 a2 x60_2 a1 (wrap64 (x64_3 + 1)) a0_0 a0_1 l0_2 a1 a2 (x258002_3 ++ [(wrap64 ((wrap64 ((wrap64 ((wrap64 ((wrap64 (9 * t260)) + (wrap64 (3 * t261)))) + (wrap64 (3 * t262)))) + t263)) + 8)) / 16])) else (none)))) = some (r1, r2, r3) := H
       have A58 := Zam A580
       clear A580
       replace H := Zob.mp H
       obtain ⟨t262, A590, H⟩ := H
       replace H : ((impl_Grow_1.f t258 t259 a0_0 a0_1 l0_2).bind fun t263 => (if x258002_3.length < 17592186044416 then (impl_Grow.l1 k3 a1 x60_2 a2 x60_2 a1 (wrap64 (x64_3 + 1)) a0_0 a0_1 l0_2 a1 a2 (x258002_3 ++ [(wrap64 ((wrap64 ((wrap64 ((wrap64 ((wrap64 (9 * t260)) + (wrap64 (3 * t261)))) + (wrap64 (3 * t262)))) + t263)) + 8)) / 16])) else (none))) = some (r1, r2, r3) := H
       have A59 := Zam A590
       clear A590
       replace H := Zob.mp H
       obtain ⟨t263, A600, H⟩ := H
       replace H : (if x258002_3.length < 17592186044416 then (impl_Grow.l1 k3 a1 x60_2 a2 x60_2 a1 (wrap64 (x64_3 + 1)) a0_0 a0_1 l0_2 a1 a2 (x258002_3 ++ [(wrap64 ((wrap64 ((wrap64 ((wrap64 ((wrap64 (9 * t260)) + (wrap64 (3 * t261)))) + (wrap64 (3 * t262)))) + t263)) + 8)) / 16])) else (none)) = some (r1, r2, r3) := H
       have A60 := Zam A600
       clear A600
       by_cases c61 : x258002_3.length < 17592186044416
       rotate_left
       ·rw [if_neg c61] at H
        exact absurd H (by simp)
       rw [if_pos c61] at H
       have LMc61 := Zam c61
       clear c61
       obtain ⟨y264, hy264⟩ : ∃ y_ : List Int, y_ = (x258002_3 ++ [(wrap64 ((wrap64 ((wrap64 ((wrap64 ((wrap64 (9 * t260)) + (wrap64 (3 * t261)))) + (wrap64 (3 * t262)))) + t263)) + 8)) / 16]) := ⟨_, rfl⟩
       replace H : (impl_Grow.l1 k3 a1 x60_2 a2 x60_2 a1 (wrap64 (x64_3 + 1)) a0_0 a0_1 l0_2 a1 a2 y264) = some (r1, r2, r3) := by first | (rw [hy264]; with_reducible exact H) | (have H2_ := (Option.bind_some _ _).symm.trans H; rw [hy264]; with_reducible exact H2_) | (have H2_ := (Option.bind_some _ _).symm.trans H; with_reducible exact H2_) | with_reducible exact H | (rw [hy264]; exact H) | exact H
       have Ny264 := Zam hy264
       clear hy264
       have H' := Zam H
       clear H
       try go_wp2
       have n0_ := Zam (ZrD HO_258002.out)
       have n1_ := Zam (ZbD BK254.out)
       have n2_ := Zam (ZbD BK255.out)
       have n3_ := Zam (ZbD BK257.out)
       have n4_ := Zam (ZhD HB.out)
       clear HO_258002
       clear BK254
       clear BK255
       clear BK257
       clear HB
       have HO_258002 := n0_
       have BK254 := n1_
       have BK255 := n2_
       have BK257 := n3_
       have HB := n4_
       clear n0_ n1_ n2_ n3_ n4_
       refine start_ (n := 16) (S := fun w' => w'.cell? ⟨gb254, 0, none⟩ = some (.int .i64 a0_0) ∧ w'.cell? ⟨gb254, 1, none⟩ = some (.int .i64 a0_1) ∧ w'.cell? ⟨gb254, 2, none⟩ = some (.slice A0_2 l0_2.length c0_2)) (ds := []) #[false, false, false, false, false, false, false, false, false, false, false, false, false, false, false, false] (by kernel_rfl) rfl rfl ⟨(ZbC BK254.out 0).trans rfl, (ZbC BK254.out 1).trans rfl, (ZbC BK254.out 2).trans rfl⟩ (fun hHeld => ?_); refine with_tabW impl_Grow.tab11 impl_Grow.bits11 (fun HT_ HW_ => ?_)
       generalize wr.drew = w62 at HO_258002 BK254 BK255 BK257 HB hHeld ⊢
       refine pure_ (i := 0) (N := some 67) (v := ?_) (a' := ?_) #[true, false, false, false, false, false, false, false, false, false, false, false, false, false, false, false] rfl rfl (any_of HT_.out (by kernel_rfl)) (fun _ _ _ h => h) (Or.inl ⟨by rfl, ?_⟩) ?_ ?_
       rotate_left
       ·intro w'
        go_simp
        with_reducible rfl
       rotate_left
       ·simp only [Act.put, Zl1, Zl2, Zl3, i64_w, i32_w]
        rfl
       refine pure_ (i := 1) (N := some 68) (v := ?_) (a' := ?_) #[true, true, false, false, false, false, false, false, false, false, false, false, false, false, false, false] rfl rfl (any_of HT_.out (by kernel_rfl)) (fun _ _ _ h => h) (Or.inl ⟨by rfl, ?_⟩) ?_ ?_
       rotate_left
       ·intro w'
        go_simp
        with_reducible rfl
       rotate_left
       ·simp only [Act.put, Zl1, Zl2, Zl3, i64_w, i32_w]
        rfl
       refine pure_ (i := 2) (N := some 69) (v := ?_) (a' := ?_) #[true, true, true, false, false, false, false, false, false, false, false, false, false, false, false, false] rfl rfl (any_of HT_.out (by kernel_rfl)) (fun _ _ _ h => h) (Or.inl ⟨by rfl, ?_⟩) ?_ ?_
       rotate_left
       ·intro w'
        go_simp
        with_reducible rfl
       rotate_left
       ·simp only [Act.put, Zl1, Zl2, Zl3, i64_w, i32_w]
        rfl
       refine pure_ (i := 3) (N := some 70) (v := ?_) (a' := ?_) #[true, true, true, true, false, false, false, false, false, false, false, false, false, false, false, false] rfl rfl (any_of HT_.out (by kernel_rfl)) (fun _ _ _ h => h) (Or.inl ⟨by rfl, ?_⟩) ?_ ?_
       rotate_left
       ·intro w'
        go_simp
        with_reducible rfl
       rotate_left
       ·simp only [Act.put, Zl1, Zl2, Zl3, i64_w, i32_w]
        rfl
       refine pure_ (i := 4) (N := some 71) (v := ?_) (a' := ?_) #[true, true, true, true, true, false, false, false, false, false, false, false, false, false, false, false] rfl rfl (any_of HT_.out (by kernel_rfl)) (fun _ _ _ h => h) (Or.inl ⟨by rfl, ?_⟩) ?_ ?_
       rotate_left
       ·intro w'
        go_simp
        with_reducible rfl
       rotate_left
       ·simp only [Act.put, Zl1, Zl2, Zl3, i64_w, i32_w]
        rfl
       refine pure_ (i := 5) (N := some 72) (v := ?_) (a' := ?_) #[true, true, true, true, true, true, false, false, false, false, false, false, false, false, false, false] rfl rfl (any_of HT_.out (by kernel_rfl)) (fun _ _ _ h => h) (Or.inl ⟨by rfl, ?_⟩) ?_ ?_
       rotate_left
       ·intro w'
        go_simp
        with_reducible rfl
       rotate_left
       ·simp only [Act.put, Zl1, Zl2, Zl3, i64_w, i32_w]
        rfl
       refine pure_ (i := 8) (N := some 75) (v := ?_) (a' := ?_) #[true, true, true, true, true, true, false, false, true, false, false, false, false, false, false, false] rfl rfl (any_of HT_.out (by kernel_rfl)) (fun _ _ _ h => h) (Or.inl ⟨by rfl, ?_⟩) ?_ ?_
       rotate_left
       ·intro w'
        go_simp
        with_reducible rfl
       rotate_left
       ·simp only [Act.put, Zl1, Zl2, Zl3, i64_w, i32_w]
        rfl
       refine pure_ (i := 9) (N := some 76) (v := ?_) (a' := ?_) #[true, true, true, true, true, true, false, false, true, true, false, false, false, false, false, false] rfl rfl (any_of HT_.out (by kernel_rfl)) (fun _ _ _ h => h) (Or.inl ⟨by rfl, ?_⟩) ?_ ?_
       rotate_left
       ·intro w'
        go_simp
        with_reducible rfl
       rotate_left
       ·simp only [Act.put, Zl1, Zl2, Zl3, i64_w, i32_w]
        rfl
       refine take_ (i := 6) (N := some 73) (v := ?_) (a' := ?_) #[true, true, true, true, true, true, true, false, true, true, false, false, false, false, false, false] rfl rfl (take_ofW HT_.out HW_.out (by kernel_rfl)) (fun _ _ _ h => h) (Or.inl ⟨by rfl, ?_⟩) hHeld ?_ ?_
       rotate_left
       ·rintro w' ⟨s0, s1, s2⟩
        go_simp
        with_reducible rfl
       rotate_left
       ·simp only [Act.put, Zl1, Zl2, Zl3, i64_w, i32_w]
        rfl
       refine take_ (i := 10) (N := some 77) (v := ?_) (a' := ?_) #[true, true, true, true, true, true, true, false, true, true, true, false, false, false, false, false] rfl rfl (take_ofW HT_.out HW_.out (by kernel_rfl)) (fun _ _ _ h => h) (Or.inl ⟨by rfl, ?_⟩) hHeld ?_ ?_
       rotate_left
       ·rintro w' ⟨s0, s1, s2⟩
        go_simp
        with_reducible rfl
       rotate_left
       ·simp only [Act.put, Zl1, Zl2, Zl3, i64_w, i32_w]
        rfl
       refine one_ (i := 7) (N := some 74) #[true, true, true, true, true, true, true, true, true, true, true, false, false, false, false, false] rfl rfl (one_of HT_.out (by kernel_rfl)) (by decide) (fun K hK => ?_)
       refine goes_ Try.func136 (by kernel_rfl) rfl #[.int .i64 x64_3, .int .i64 a0_0] (by rfl) rfl rfl (by (try simp only [Zm1, Zm2, Zm3]); first | done | rfl | (simp only [ZlL, ZlT]; rfl)) ?_
       with_reducible refine (impl_near.calls x64_3 a0_0 t258 _ A55.out).mono ?_
       rintro e w63 ⟨rfl, hb⟩
       refine ⟨_, rfl, ?_⟩
       have n0_ := Zam (Kd.R_below (by (with_reducible repeat (first | apply ZrA | apply ZrW | apply ZrD)); exact HO_258002.out) hb)
       have n1_ := Zam (ZbB (g := gb254) (o := .cells #[.int .i64 a0_0, .int .i64 a0_1, .slice A0_2 l0_2.length c0_2] 82 (0, 0)) (by (with_reducible repeat (first | refine ZbW ?_ _ | refine ZbD ?_ | refine ZbA ?_ _)); exact BK254.out) hb)
       have n2_ := Zam (ZbB (g := gb255) (o := .cells #[.int .i64 0, .int .i64 0, .slice none 0 0] 82 (0, 0)) (by (with_reducible repeat (first | refine ZbW ?_ _ | refine ZbD ?_ | refine ZbA ?_ _)); exact BK255.out) hb)
       have n3_ := Zam (ZbB (g := gb257) (o := .cells #[.int .i64 a1, .int .i64 a2, u258002] 82 (0, 0)) (by (with_reducible repeat (first | refine ZbW ?_ _ | refine ZbD ?_ | refine ZbA ?_ _)); exact BK257.out) hb)
       have n4_ := Zam (ZbS (by repeat (first | (with_reducible first | exact HB.out | apply ZhA | apply ZhW | apply ZhD | refine ZhS ?_ GE254.out | refine ZhS ?_ GE255.out | refine ZhS ?_ GE257.out) | exact HB.out)) hb)
       clear HO_258002
       clear BK254
       clear BK255
       clear BK257
       clear HB
       have HO_258002 := n0_
       have BK254 := n1_
       have BK255 := n2_
       have BK257 := n3_
       have HB := n4_
       clear n0_ n1_ n2_ n3_ n4_
       (try clear hb)
       (try clear hb2)
       (try clear hk)
       (try clear hi)
       refine hK.out _ _ ⟨(ZbC BK254.out 0).trans rfl, (ZbC BK254.out 1).trans rfl, (ZbC BK254.out 2).trans rfl⟩ (fun hHeld => ?_)
       clear hK K
       refine norm_ (a' := ?_) ?_ ?_
       rotate_left
       ·show Act.put _ (some 74) _ = _
        simp only [Act.put, Zl1, Zl2, Zl3, i64_w, i32_w]
        rfl
       refine one_ (i := 11) (N := some 78) #[true, true, true, true, true, true, true, true, true, true, true, true, false, false, false, false] rfl rfl (one_of HT_.out (by kernel_rfl)) (by decide) (fun K hK => ?_)
       refine goes_ Try.func136 (by kernel_rfl) rfl #[.int .i64 x60_2, .int .i64 a0_1] (by rfl) rfl rfl (by (try simp only [Zm1, Zm2, Zm3]); first | done | rfl | (simp only [ZlL, ZlT]; rfl)) ?_
       with_reducible refine (impl_near.calls x60_2 a0_1 t259 _ A56.out).mono ?_
       rintro e w64 ⟨rfl, hb⟩
       refine ⟨_, rfl, ?_⟩
       have n0_ := Zam (Kd.R_below (by (with_reducible repeat (first | apply ZrA | apply ZrW | apply ZrD)); exact HO_258002.out) hb)
       have n1_ := Zam (ZbB (g := gb254) (o := .cells #[.int .i64 a0_0, .int .i64 a0_1, .slice A0_2 l0_2.length c0_2] 82 (0, 0)) (by (with_reducible repeat (first | refine ZbW ?_ _ | refine ZbD ?_ | refine ZbA ?_ _)); exact BK254.out) hb)
       have n2_ := Zam (ZbB (g := gb255) (o := .cells #[.int .i64 0, .int .i64 0, .slice none 0 0] 82 (0, 0)) (by (with_reducible repeat (first | refine ZbW ?_ _ | refine ZbD ?_ | refine ZbA ?_ _)); exact BK255.out) hb)
       have n3_ := Zam (ZbB (g := gb257) (o := .cells #[.int .i64 a1, .int .i64 a2, u258002] 82 (0, 0)) (by (with_reducible repeat (first | refine ZbW ?_ _ | refine ZbD ?_ | refine ZbA ?_ _)); exact BK257.out) hb)
       have n4_ := Zam (ZbS (by repeat (first | (with_reducible first | exact HB.out | apply ZhA | apply ZhW | apply ZhD | refine ZhS ?_ GE254.out | refine ZhS ?_ GE255.out | refine ZhS ?_ GE257.out) | exact HB.out)) hb)
       clear HO_258002
       clear BK254
       clear BK255
       clear BK257
       clear HB
       have HO_258002 := n0_
       have BK254 := n1_
       have BK255 := n2_
       have BK257 := n3_
       have HB := n4_
       clear n0_ n1_ n2_ n3_ n4_
       (try clear hb)
       (try clear hb2)
       (try clear hk)
       (try clear hi)
       refine hK.out _ _ ⟨(ZbC BK254.out 0).trans rfl, (ZbC BK254.out 1).trans rfl, (ZbC BK254.out 2).trans rfl⟩ (fun hHeld => ?_)
       clear hK K
       refine norm_ (a' := ?_) ?_ ?_
       rotate_left
       ·show Act.put _ (some 78) _ = _
        simp only [Act.put, Zl1, Zl2, Zl3, i64_w, i32_w]
        rfl
       refine pure_ (i := 12) (N := some 11) (v := ?_) (a' := ?_) #[true, true, true, true, true, true, true, true, true, true, true, true, true, false, false, false] rfl rfl (any_of HT_.out (by kernel_rfl)) (fun _ _ _ h => h) (Or.inl ⟨by rfl, ?_⟩) ?_ ?_
       rotate_left
       ·intro w'
        go_simp
        with_reducible rfl
       rotate_left
       ·simp only [Act.put, Zl1, Zl2, Zl3, i64_w, i32_w]
        rfl
       refine pure_ (i := 13) (N := some 12) (v := ?_) (a' := ?_) #[true, true, true, true, true, true, true, true, true, true, true, true, true, true, false, false] rfl rfl (any_of HT_.out (by kernel_rfl)) (fun _ _ _ h => h) (Or.inl ⟨by rfl, ?_⟩) ?_ ?_
       rotate_left
       ·intro w'
        go_simp
        with_reducible rfl
       rotate_left
       ·simp only [Act.put, Zl1, Zl2, Zl3, i64_w, i32_w]
        rfl
       refine pure_ (i := 14) (N := some 13) (v := ?_) (a' := ?_) #[true, true, true, true, true, true, true, true, true, true, true, true, true, true, true, false] rfl rfl (any_of HT_.out (by kernel_rfl)) (fun _ _ _ h => h) (Or.inl ⟨by rfl, ?_⟩) ?_ ?_
       rotate_left
       ·intro w'
        go_simp
        with_reducible rfl
       rotate_left
       ·simp only [Act.put, Zl1, Zl2, Zl3, i64_w, i32_w]
        rfl
       refine pure_ (i := 15) (N := some 14) (v := ?_) (a' := ?_) #[true, true, true, true, true, true, true, true, true, true, true, true, true, true, true, true] rfl rfl (any_of HT_.out (by kernel_rfl)) (fun _ _ _ h => h) (Or.inl ⟨by rfl, ?_⟩) ?_ ?_
       rotate_left
       ·intro w'
        go_simp
        with_reducible rfl
       rotate_left
       ·simp only [Act.put, Zl1, Zl2, Zl3, i64_w, i32_w]
        rfl
       refine done_ (done_of HT_.out (by kernel_rfl)) ?_
       try go_wp2
       have n0_ := Zam (ZrD HO_258002.out)
       have n1_ := Zam (ZbD BK254.out)
       have n2_ := Zam (ZbD BK255.out)
       have n3_ := Zam (ZbD BK257.out)
       have n4_ := Zam (ZhD HB.out)
       clear HO_258002
       clear BK254
       clear BK255
       clear BK257
       clear HB
       have HO_258002 := n0_
       have BK254 := n1_
       have BK255 := n2_
       have BK257 := n3_
       have HB := n4_
       clear n0_ n1_ n2_ n3_ n4_
       refine start_ (n := 30) (S := fun w' => w'.cell? ⟨gb257, 0, none⟩ = some (.int .i64 a1) ∧ w'.cell? ⟨gb257, 1, none⟩ = some (.int .i64 a2) ∧ w'.cell? ⟨gb257, 2, none⟩ = some (u258002) ∧ w'.cell? ⟨gb254, 0, none⟩ = some (.int .i64 a0_0) ∧ w'.cell? ⟨gb254, 1, none⟩ = some (.int .i64 a0_1) ∧ w'.cell? ⟨gb254, 2, none⟩ = some (.slice A0_2 l0_2.length c0_2)) (ds := [29]) #[false, false, false, false, false, false, false, false, false, false, false, false, false, false, false, false, false, false, false, false, false, false, false, false, false, false, false, false, false, false] (by kernel_rfl) rfl rfl ⟨(ZbC BK257.out 0).trans rfl, (ZbC BK257.out 1).trans rfl, (ZbC BK257.out 2).trans rfl, (ZbC BK254.out 0).trans rfl, (ZbC BK254.out 1).trans rfl, (ZbC BK254.out 2).trans rfl⟩ (fun hHeld => ?_); refine with_tabW impl_Grow.tab12 impl_Grow.bits12 (fun HT_ HW_ => ?_)
       generalize w64.drew = w65 at HO_258002 BK254 BK255 BK257 HB hHeld ⊢
       refine pure_ (i := 0) (N := some 79) (v := ?_) (a' := ?_) #[true, false, false, false, false, false, false, false, false, false, false, false, false, false, false, false, false, false, false, false, false, false, false, false, false, false, false, false, false, false] rfl rfl (any_of HT_.out (by kernel_rfl)) (fun _ _ _ h => h) (Or.inl ⟨by rfl, ?_⟩) ?_ ?_
       rotate_left
       ·intro w'
        go_simp
        with_reducible rfl
       rotate_left
       ·simp only [Act.put, Zl1, Zl2, Zl3, i64_w, i32_w]
        rfl
       refine pure_ (i := 2) (N := some 81) (v := ?_) (a' := ?_) #[true, false, true, false, false, false, false, false, false, false, false, false, false, false, false, false, false, false, false, false, false, false, false, false, false, false, false, false, false, false] rfl rfl (any_of HT_.out (by kernel_rfl)) (fun _ _ _ h => h) (Or.inl ⟨by rfl, ?_⟩) ?_ ?_
       rotate_left
       ·intro w'
        go_simp
        with_reducible rfl
       rotate_left
       ·simp only [Act.put, Zl1, Zl2, Zl3, i64_w, i32_w]
        rfl
       refine pure_ (i := 3) (N := some 82) (v := ?_) (a' := ?_) #[true, false, true, true, false, false, false, false, false, false, false, false, false, false, false, false, false, false, false, false, false, false, false, false, false, false, false, false, false, false] rfl rfl (any_of HT_.out (by kernel_rfl)) (fun _ _ _ h => h) (Or.inl ⟨by rfl, ?_⟩) ?_ ?_
       rotate_left
       ·intro w'
        go_simp
        with_reducible rfl
       rotate_left
       ·simp only [Act.put, Zl1, Zl2, Zl3, i64_w, i32_w]
        rfl
       refine pure_ (i := 4) (N := some 83) (v := ?_) (a' := ?_) #[true, false, true, true, true, false, false, false, false, false, false, false, false, false, false, false, false, false, false, false, false, false, false, false, false, false, false, false, false, false] rfl rfl (any_of HT_.out (by kernel_rfl)) (fun _ _ _ h => h) (Or.inl ⟨by rfl, ?_⟩) ?_ ?_
       rotate_left
       ·intro w'
        go_simp
        with_reducible rfl
       rotate_left
       ·simp only [Act.put, Zl1, Zl2, Zl3, i64_w, i32_w]
        rfl
       refine pure_ (i := 7) (N := some 86) (v := ?_) (a' := ?_) #[true, false, true, true, true, false, false, true, false, false, false, false, false, false, false, false, false, false, false, false, false, false, false, false, false, false, false, false, false, false] rfl rfl (any_of HT_.out (by kernel_rfl)) (fun _ _ _ h => h) (Or.inl ⟨by rfl, ?_⟩) ?_ ?_
       rotate_left
       ·intro w'
        go_simp
        with_reducible rfl
       rotate_left
       ·simp only [Act.put, Zl1, Zl2, Zl3, i64_w, i32_w]
        rfl
       refine pure_ (i := 8) (N := some 87) (v := ?_) (a' := ?_) #[true, false, true, true, true, false, false, true, true, false, false, false, false, false, false, false, false, false, false, false, false, false, false, false, false, false, false, false, false, false] rfl rfl (any_of HT_.out (by kernel_rfl)) (fun _ _ _ h => h) (Or.inl ⟨by rfl, ?_⟩) ?_ ?_
       rotate_left
       ·intro w'
        go_simp
        with_reducible rfl
       rotate_left
       ·simp only [Act.put, Zl1, Zl2, Zl3, i64_w, i32_w]
        rfl
       refine pure_ (i := 9) (N := some 88) (v := ?_) (a' := ?_) #[true, false, true, true, true, false, false, true, true, true, false, false, false, false, false, false, false, false, false, false, false, false, false, false, false, false, false, false, false, false] rfl rfl (any_of HT_.out (by kernel_rfl)) (fun _ _ _ h => h) (Or.inl ⟨by rfl, ?_⟩) ?_ ?_
       rotate_left
       ·intro w'
        go_simp
        with_reducible rfl
       rotate_left
       ·simp only [Act.put, Zl1, Zl2, Zl3, i64_w, i32_w]
        rfl
       refine pure_ (i := 13) (N := some 92) (v := ?_) (a' := ?_) #[true, false, true, true, true, false, false, true, true, true, false, false, false, true, false, false, false, false, false, false, false, false, false, false, false, false, false, false, false, false] rfl rfl (any_of HT_.out (by kernel_rfl)) (fun _ _ _ h => h) (Or.inl ⟨by rfl, ?_⟩) ?_ ?_
       rotate_left
       ·intro w'
        go_simp
        with_reducible rfl
       rotate_left
       ·simp only [Act.put, Zl1, Zl2, Zl3, i64_w, i32_w]
        rfl
       refine pure_ (i := 14) (N := some 93) (v := ?_) (a' := ?_) #[true, false, true, true, true, false, false, true, true, true, false, false, false, true, true, false, false, false, false, false, false, false, false, false, false, false, false, false, false, false] rfl rfl (any_of HT_.out (by kernel_rfl)) (fun _ _ _ h => h) (Or.inl ⟨by rfl, ?_⟩) ?_ ?_
       rotate_left
       ·intro w'
        go_simp
        with_reducible rfl
       rotate_left
       ·simp only [Act.put, Zl1, Zl2, Zl3, i64_w, i32_w]
        rfl
       refine pure_ (i := 15) (N := some 94) (v := ?_) (a' := ?_) #[true, false, true, true, true, false, false, true, true, true, false, false, false, true, true, true, false, false, false, false, false, false, false, false, false, false, false, false, false, false] rfl rfl (any_of HT_.out (by kernel_rfl)) (fun _ _ _ h => h) (Or.inl ⟨by rfl, ?_⟩) ?_ ?_
       rotate_left
       ·intro w'
        go_simp
        with_reducible rfl
       rotate_left
       ·simp only [Act.put, Zl1, Zl2, Zl3, i64_w, i32_w]
        rfl
       refine pure_ (i := 19) (N := some 98) (v := ?_) (a' := ?_) #[true, false, true, true, true, false, false, true, true, true, false, false, false, true, true, true, false, false, false, true, false, false, false, false, false, false, false, false, false, false] rfl rfl (any_of HT_.out (by kernel_rfl)) (fun _ _ _ h => h) (Or.inl ⟨by rfl, ?_⟩) ?_ ?_
       rotate_left
       ·intro w'
        go_simp
        with_reducible rfl
       rotate_left
       ·simp only [Act.put, Zl1, Zl2, Zl3, i64_w, i32_w]
        rfl
       refine pure_ (i := 20) (N := some 99) (v := ?_) (a' := ?_) #[true, false, true, true, true, false, false, true, true, true, false, false, false, true, true, true, false, false, false, true, true, false, false, false, false, false, false, false, false, false] rfl rfl (any_of HT_.out (by kernel_rfl)) (fun _ _ _ h => h) (Or.inl ⟨by rfl, ?_⟩) ?_ ?_
       rotate_left
       ·intro w'
        go_simp
        with_reducible rfl
       rotate_left
       ·simp only [Act.put, Zl1, Zl2, Zl3, i64_w, i32_w]
        rfl
       refine pure_ (i := 21) (N := some 100) (v := ?_) (a' := ?_) #[true, false, true, true, true, false, false, true, true, true, false, false, false, true, true, true, false, false, false, true, true, true, false, false, false, false, false, false, false, false] rfl rfl (any_of HT_.out (by kernel_rfl)) (fun _ _ _ h => h) (Or.inl ⟨by rfl, ?_⟩) ?_ ?_
       rotate_left
       ·intro w'
        go_simp
        with_reducible rfl
       rotate_left
       ·simp only [Act.put, Zl1, Zl2, Zl3, i64_w, i32_w]
        rfl
       refine take_ (i := 1) (N := some 80) (v := ?_) (a' := ?_) #[true, true, true, true, true, false, false, true, true, true, false, false, false, true, true, true, false, false, false, true, true, true, false, false, false, false, false, false, false, false] rfl rfl (take_ofW HT_.out HW_.out (by kernel_rfl)) (fun _ _ _ h => h) (Or.inl ⟨by rfl, ?_⟩) hHeld ?_ ?_
       rotate_left
       ·rintro w' ⟨s0, s1, s2, s3, s4, s5⟩
        go_simp
        with_reducible rfl
       rotate_left
       ·simp only [Act.put, Zl1, Zl2, Zl3, i64_w, i32_w]
        rfl
       refine one_ (i := 5) (N := some 84) #[true, true, true, true, true, true, false, true, true, true, false, false, false, true, true, true, false, false, false, true, true, true, false, false, false, false, false, false, false, false] rfl rfl (one_of HT_.out (by kernel_rfl)) (by decide) (fun K hK => ?_)
       refine goesC_ (n := 81) Try.func135 (by kernel_rfl) rfl #[.int .i64 (wrap64 (Int.tdiv x64_3 2)), .int .i64 (wrap64 (Int.tdiv x60_2 2)), .pointer (some ⟨gb254, 0, none⟩)] (by rfl) rfl rfl (by rfl) (by simp only [Zm1, Zm2, Zm3, List.append_toArray, List.cons_append, List.nil_append]; rfl) ?_
       with_reducible refine (impl_Grow_1.calls (wrap64 (Int.tdiv x64_3 2)) (wrap64 (Int.tdiv x60_2 2)) gb254 a0_0 a0_1 A0_2 c0_2 l0_2 t260 _ ?side3 ?side1 ?side2 A57.out).mono ?_
       (case side1 => repeat (first | exact (Kd.C_below HR0_2.out HB.out) | (with_reducible refine Kd.C_alloc ?_ _) | (with_reducible refine Kd.C_drewN ?_ _) | (with_reducible refine Kd.C_drew ?_)))
       (case side2 => exact HC0_2.out)
       (case side3 => exact by (with_reducible repeat (first | refine ZbW ?_ _ | refine ZbD ?_ | refine ZbA ?_ _)); exact BK254.out)
       rintro e w' ⟨rfl, ⟨nd, rfl⟩⟩
       refine ⟨_, rfl, ?_⟩
       refine hK.out _ _ ⟨(ZbC BK257.out 0).trans rfl, (ZbC BK257.out 1).trans rfl, (ZbC BK257.out 2).trans rfl, (ZbC BK254.out 0).trans rfl, (ZbC BK254.out 1).trans rfl, (ZbC BK254.out 2).trans rfl⟩ (fun hHeld => ?_)
       clear hK K
       refine norm_ (a' := ?_) ?_ ?_
       rotate_left
       ·show Act.put _ (some 84) _ = _
        simp only [Act.put, Zl1, Zl2, Zl3, i64_w, i32_w]
        rfl
       refine pure_ (i := 6) (N := some 85) (v := ?_) (a' := ?_) #[true, true, true, true, true, true, true, true, true, true, false, false, false, true, true, true, false, false, false, true, true, true, false, false, false, false, false, false, false, false] rfl rfl (any_of HT_.out (by kernel_rfl)) (fun _ _ _ h => h) (Or.inl ⟨by rfl, ?_⟩) ?_ ?_
       rotate_left
       ·intro w'
        go_simp
        with_reducible rfl
       rotate_left
       ·simp only [Act.put, Zl1, Zl2, Zl3, i64_w, i32_w]
        rfl
       refine one_ (i := 10) (N := some 89) #[true, true, true, true, true, true, true, true, true, true, true, false, false, true, true, true, false, false, false, true, true, true, false, false, false, false, false, false, false, false] rfl rfl (one_of HT_.out (by kernel_rfl)) (by decide) (fun K hK => ?_)
       refine goesC_ (n := 86) Try.func135 (by kernel_rfl) rfl #[.int .i64 t258, .int .i64 (wrap64 (Int.tdiv x60_2 2)), .pointer (some ⟨gb254, 0, none⟩)] (by rfl) rfl rfl (by rfl) (by simp only [Zm1, Zm2, Zm3, List.append_toArray, List.cons_append, List.nil_append]; rfl) ?_
       with_reducible refine (impl_Grow_1.calls t258 (wrap64 (Int.tdiv x60_2 2)) gb254 a0_0 a0_1 A0_2 c0_2 l0_2 t261 _ ?side3 ?side1 ?side2 A58.out).mono ?_
       (case side1 => repeat (first | exact (Kd.C_below HR0_2.out (by repeat (first | (with_reducible first | exact HB.out | apply ZhA | apply ZhW | apply ZhD | refine ZhS ?_ GE254.out | refine ZhS ?_ GE255.out | refine ZhS ?_ GE257.out) | exact HB.out))) | (with_reducible refine Kd.C_alloc ?_ _) | (with_reducible refine Kd.C_drewN ?_ _) | (with_reducible refine Kd.C_drew ?_)))
       (case side2 => exact HC0_2.out)
       (case side3 => exact by (with_reducible repeat (first | refine ZbW ?_ _ | refine ZbD ?_ | refine ZbA ?_ _)); exact BK254.out)
       rintro e w' ⟨rfl, ⟨nd, rfl⟩⟩
       refine ⟨_, rfl, ?_⟩
       refine hK.out _ _ ⟨(ZbC BK257.out 0).trans rfl, (ZbC BK257.out 1).trans rfl, (ZbC BK257.out 2).trans rfl, (ZbC BK254.out 0).trans rfl, (ZbC BK254.out 1).trans rfl, (ZbC BK254.out 2).trans rfl⟩ (fun hHeld => ?_)
       clear hK K
       refine norm_ (a' := ?_) ?_ ?_
       rotate_left
       ·show Act.put _ (some 89) _ = _
        simp only [Act.put, Zl1, Zl2, Zl3, i64_w, i32_w]
        rfl
       refine pure_ (i := 11) (N := some 90) (v := ?_) (a' := ?_) #[true, true, true, true, true, true, true, true, true, true, true, true, false, true, true, true, false, false, false, true, true, true, false, false, false, false, false, false, false, false] rfl rfl (any_of HT_.out (by kernel_rfl)) (fun _ _ _ h => h) (Or.inl ⟨by rfl, ?_⟩) ?_ ?_
       rotate_left
       ·intro w'
        go_simp
        with_reducible rfl
       rotate_left
       ·simp only [Act.put, Zl1, Zl2, Zl3, i64_w, i32_w]
        rfl
       refine pure_ (i := 12) (N := some 91) (v := ?_) (a' := ?_) #[true, true, true, true, true, true, true, true, true, true, true, true, true, true, true, true, false, false, false, true, true, true, false, false, false, false, false, false, false, false] rfl rfl (any_of HT_.out (by kernel_rfl)) (fun _ _ _ h => h) (Or.inl ⟨by rfl, ?_⟩) ?_ ?_
       rotate_left
       ·intro w'
        go_simp
        with_reducible rfl
       rotate_left
       ·simp only [Act.put, Zl1, Zl2, Zl3, i64_w, i32_w]
        rfl
       refine one_ (i := 16) (N := some 95) #[true, true, true, true, true, true, true, true, true, true, true, true, true, true, true, true, true, false, false, true, true, true, false, false, false, false, false, false, false, false] rfl rfl (one_of HT_.out (by kernel_rfl)) (by decide) (fun K hK => ?_)
       refine goesC_ (n := 92) Try.func135 (by kernel_rfl) rfl #[.int .i64 (wrap64 (Int.tdiv x64_3 2)), .int .i64 t259, .pointer (some ⟨gb254, 0, none⟩)] (by rfl) rfl rfl (by rfl) (by simp only [Zm1, Zm2, Zm3, List.append_toArray, List.cons_append, List.nil_append]; rfl) ?_
       with_reducible refine (impl_Grow_1.calls (wrap64 (Int.tdiv x64_3 2)) t259 gb254 a0_0 a0_1 A0_2 c0_2 l0_2 t262 _ ?side3 ?side1 ?side2 A59.out).mono ?_
       (case side1 => repeat (first | exact (Kd.C_below HR0_2.out (by repeat (first | (with_reducible first | exact HB.out | apply ZhA | apply ZhW | apply ZhD | refine ZhS ?_ GE254.out | refine ZhS ?_ GE255.out | refine ZhS ?_ GE257.out) | exact HB.out))) | (with_reducible refine Kd.C_alloc ?_ _) | (with_reducible refine Kd.C_drewN ?_ _) | (with_reducible refine Kd.C_drew ?_)))
       (case side2 => exact HC0_2.out)
       (case side3 => exact by (with_reducible repeat (first | refine ZbW ?_ _ | refine ZbD ?_ | refine ZbA ?_ _)); exact BK254.out)
       rintro e w' ⟨rfl, ⟨nd, rfl⟩⟩
       refine ⟨_, rfl, ?_⟩
       refine hK.out _ _ ⟨(ZbC BK257.out 0).trans rfl, (ZbC BK257.out 1).trans rfl, (ZbC BK257.out 2).trans rfl, (ZbC BK254.out 0).trans rfl, (ZbC BK254.out 1).trans rfl, (ZbC BK254.out 2).trans rfl⟩ (fun hHeld => ?_)
       clear hK K
       refine norm_ (a' := ?_) ?_ ?_
       rotate_left
       ·show Act.put _ (some 95) _ = _
        simp only [Act.put, Zl1, Zl2, Zl3, i64_w, i32_w]
        rfl
       refine pure_ (i := 17) (N := some 96) (v := ?_) (a' := ?_) #[true, true, true, true, true, true, true, true, true, true, true, true, true, true, true, true, true, true, false, true, true, true, false, false, false, false, false, false, false, false] rfl rfl (any_of HT_.out (by kernel_rfl)) (fun _ _ _ h => h) (Or.inl ⟨by rfl, ?_⟩) ?_ ?_
       rotate_left
       ·intro w'
        go_simp
        with_reducible rfl
       rotate_left
       ·simp only [Act.put, Zl1, Zl2, Zl3, i64_w, i32_w]
        rfl
       refine pure_ (i := 18) (N := some 97) (v := ?_) (a' := ?_) #[true, true, true, true, true, true, true, true, true, true, true, true, true, true, true, true, true, true, true, true, true, true, false, false, false, false, false, false, false, false] rfl rfl (any_of HT_.out (by kernel_rfl)) (fun _ _ _ h => h) (Or.inl ⟨by rfl, ?_⟩) ?_ ?_
       rotate_left
       ·intro w'
        go_simp
        with_reducible rfl
       rotate_left
       ·simp only [Act.put, Zl1, Zl2, Zl3, i64_w, i32_w]
        rfl
       refine one_ (i := 22) (N := some 101) #[true, true, true, true, true, true, true, true, true, true, true, true, true, true, true, true, true, true, true, true, true, true, true, false, false, false, false, false, false, false] rfl rfl (one_of HT_.out (by kernel_rfl)) (by decide) (fun K hK => ?_)
       refine goesC_ (n := 98) Try.func135 (by kernel_rfl) rfl #[.int .i64 t258, .int .i64 t259, .pointer (some ⟨gb254, 0, none⟩)] (by rfl) rfl rfl (by rfl) (by simp only [Zm1, Zm2, Zm3, List.append_toArray, List.cons_append, List.nil_append]; rfl) ?_
       with_reducible refine (impl_Grow_1.calls t258 t259 gb254 a0_0 a0_1 A0_2 c0_2 l0_2 t263 _ ?side3 ?side1 ?side2 A60.out).mono ?_
       (case side1 => repeat (first | exact (Kd.C_below HR0_2.out (by repeat (first | (with_reducible first | exact HB.out | apply ZhA | apply ZhW | apply ZhD | refine ZhS ?_ GE254.out | refine ZhS ?_ GE255.out | refine ZhS ?_ GE257.out) | exact HB.out))) | (with_reducible refine Kd.C_alloc ?_ _) | (with_reducible refine Kd.C_drewN ?_ _) | (with_reducible refine Kd.C_drew ?_)))
       (case side2 => exact HC0_2.out)
       (case side3 => exact by (with_reducible repeat (first | refine ZbW ?_ _ | refine ZbD ?_ | refine ZbA ?_ _)); exact BK254.out)
       rintro e w' ⟨rfl, ⟨nd, rfl⟩⟩
       refine ⟨_, rfl, ?_⟩
       refine hK.out _ _ ⟨(ZbC BK257.out 0).trans rfl, (ZbC BK257.out 1).trans rfl, (ZbC BK257.out 2).trans rfl, (ZbC BK254.out 0).trans rfl, (ZbC BK254.out 1).trans rfl, (ZbC BK254.out 2).trans rfl⟩ (fun hHeld => ?_)
       clear hK K
       refine norm_ (a' := ?_) ?_ ?_
       rotate_left
       ·show Act.put _ (some 101) _ = _
        simp only [Act.put, Zl1, Zl2, Zl3, i64_w, i32_w]
        rfl
       refine pure_ (i := 23) (N := some 102) (v := ?_) (a' := ?_) #[true, true, true, true, true, true, true, true, true, true, true, true, true, true, true, true, true, true, true, true, true, true, true, true, false, false, false, false, false, false] rfl rfl (any_of HT_.out (by kernel_rfl)) (fun _ _ _ h => h) (Or.inl ⟨by rfl, ?_⟩) ?_ ?_
       rotate_left
       ·intro w'
        go_simp
        with_reducible rfl
       rotate_left
       ·simp only [Act.put, Zl1, Zl2, Zl3, i64_w, i32_w]
        rfl
       refine pure_ (i := 24) (N := some 103) (v := ?_) (a' := ?_) #[true, true, true, true, true, true, true, true, true, true, true, true, true, true, true, true, true, true, true, true, true, true, true, true, true, false, false, false, false, false] rfl rfl (any_of HT_.out (by kernel_rfl)) (fun _ _ _ h => h) (Or.inl ⟨by rfl, ?_⟩) ?_ ?_
       rotate_left
       ·intro w'
        go_simp
        with_reducible rfl
       rotate_left
       ·simp only [Act.put, Zl1, Zl2, Zl3, i64_w, i32_w]
        rfl
       refine pure_ (i := 25) (N := some 104) (v := ?_) (a' := ?_) #[true, true, true, true, true, true, true, true, true, true, true, true, true, true, true, true, true, true, true, true, true, true, true, true, true, true, false, false, false, false] rfl rfl (any_of HT_.out (by kernel_rfl)) (fun _ _ _ h => h) (Or.inl ⟨by rfl, ?_⟩) ?_ ?_
       rotate_left
       ·intro w'
        go_simp
        with_reducible rfl
       rotate_left
       ·simp only [Act.put, Zl1, Zl2, Zl3, i64_w, i32_w]
        rfl
       refine one_ (i := 26) (N := some 105) #[true, true, true, true, true, true, true, true, true, true, true, true, true, true, true, true, true, true, true, true, true, true, true, true, true, true, true, false, false, false] rfl rfl (one_of HT_.out (by kernel_rfl)) (by decide) (fun K hK => ?_)
       refine value_ (w1 := ?_) (v := ?_) (by rfl) rfl ?_ ?_
       rotate_left 2
       ·go_simp
        constructor
        ·rfl
        ·rfl
       refine hK.out _ _ ⟨(ZbC (ZbA BK257.out _) 0).trans rfl, (ZbC (ZbA BK257.out _) 1).trans rfl, (ZbC (ZbA BK257.out _) 2).trans rfl, (ZbC (ZbA BK254.out _) 0).trans rfl, (ZbC (ZbA BK254.out _) 1).trans rfl, (ZbC (ZbA BK254.out _) 2).trans rfl⟩ (fun hHeld => ?_)
       clear hK K
       refine norm_ (a' := ?_) ?_ ?_
       rotate_left
       ·show Act.put _ (some 105) _ = _
        simp only [Act.put, Zl1, Zl2, Zl3, i64_w, i32_w]
        rfl
       refine one_ (i := 27) (N := some 106) #[true, true, true, true, true, true, true, true, true, true, true, true, true, true, true, true, true, true, true, true, true, true, true, true, true, true, true, true, false, false] rfl rfl (one_of HT_.out (by kernel_rfl)) (by decide) (fun K hK => ?_)
       refine Kd.R_append_step (Kd.int .i64) (w0 := w) w.heap.size (by rfl) (.tmp 80) (.tmp 105) 22 3 (.int .i64 0) 8 rfl Try.underlying22 info3 rfl (by decide) (by omega) u258002 x258002_3 ((wrap64 ((wrap64 ((wrap64 ((wrap64 ((wrap64 (9 * t260)) + (wrap64 (3 * t261)))) + (wrap64 (3 * t262)))) + t263)) + 8)) / 16) [.int .i64 ((wrap64 ((wrap64 ((wrap64 ((wrap64 ((wrap64 (9 * t260)) + (wrap64 (3 * t261)))) + (wrap64 (3 * t262)))) + t263)) + 8)) / 16)] (fun _ => True) (fun _ => False) rfl rfl ?aP (fun _ hk => hk.elim) ?aF ?aO ?aB ?aS ?aL ?_
       (case aP => exact rfl)
       (case aB => exact (by repeat (first | (with_reducible first | exact HB.out | apply ZhA | apply ZhW | apply ZhD | refine ZhS ?_ GE254.out | refine ZhS ?_ GE255.out | refine ZhS ?_ GE257.out) | exact HB.out)))
       (case aF => exact (fun _ _ => trivial))
       (case aO => exact (by (with_reducible repeat (first | apply ZrA | apply ZrW | apply ZrD)); exact HO_258002.out))
       (case aS => exact (below_size (by repeat (first | (with_reducible first | exact HB.out | apply ZhA | apply ZhW | apply ZhD | refine ZhS ?_ GE254.out | refine ZhS ?_ GE255.out | refine ZhS ?_ GE257.out) | exact HB.out))))
       (case aL => have := LMc61.out; omega)
       intro v265 w66 ho hb hg hat
       rw [← Ny264.out] at ho
       have n0_ := Zam (blk_grown (g := gb254) (o := .cells #[.int .i64 a0_0, .int .i64 a0_1, .slice A0_2 l0_2.length c0_2] 82 (0, 0)) (by (with_reducible repeat (first | refine ZbW ?_ _ | refine ZbD ?_ | refine ZbA ?_ _)); exact BK254.out) hg (Kd.R_ne HO_258002.out BK254.out (by decide)))
       have n1_ := Zam (blk_grown (g := gb255) (o := .cells #[.int .i64 0, .int .i64 0, .slice none 0 0] 82 (0, 0)) (by (with_reducible repeat (first | refine ZbW ?_ _ | refine ZbD ?_ | refine ZbA ?_ _)); exact BK255.out) hg (Kd.R_ne HO_258002.out BK255.out (by decide)))
       have n2_ := Zam (blk_grown (g := gb257) (o := .cells #[.int .i64 a1, .int .i64 a2, u258002] 82 (0, 0)) (by (with_reducible repeat (first | refine ZbW ?_ _ | refine ZbD ?_ | refine ZbA ?_ _)); exact BK257.out) hg (Kd.R_ne HO_258002.out BK257.out (by decide)))
       have n3_ := Zam (hb)
       have n4_ := Zam (ho)
       clear BK254
       clear BK255
       clear BK257
       clear HB
       clear HO_258002
       have BK254 := n0_
       have BK255 := n1_
       have BK257 := n2_
       have HB := n3_
       have HO266 := n4_
       clear n0_ n1_ n2_ n3_ n4_
       clear ho hb hg hat
       obtain ⟨Ao67, co67, eo67⟩ := Kd.R_slice HO266.out
       (first | subst eo67 | (injection eo67 with f1_ f2_ f3_; have f4_ := f1_.symm; have f5_ := f3_.symm; clear f1_ f2_ f3_; subst f4_; subst f5_))
       refine hK.out _ _ ⟨(ZbC BK257.out 0).trans rfl, (ZbC BK257.out 1).trans rfl, (ZbC BK257.out 2).trans rfl, (ZbC BK254.out 0).trans rfl, (ZbC BK254.out 1).trans rfl, (ZbC BK254.out 2).trans rfl⟩ (fun hHeld => ?_)
       clear hK K
       refine norm_ (a' := ?_) ?_ ?_
       rotate_left
       ·show Act.put _ (some 106) _ = _
        simp only [Act.put, Zl1, Zl2, Zl3, i64_w, i32_w]
        rfl
       refine pure_ (i := 28) (N := some 107) (v := ?_) (a' := ?_) #[true, true, true, true, true, true, true, true, true, true, true, true, true, true, true, true, true, true, true, true, true, true, true, true, true, true, true, true, true, false] rfl rfl (any_of HT_.out (by kernel_rfl)) (fun _ _ _ h => h) (Or.inl ⟨by rfl, ?_⟩) ?_ ?_
       rotate_left
       ·intro w'
        go_simp
        with_reducible rfl
       rotate_left
       ·simp only [Act.put, Zl1, Zl2, Zl3, i64_w, i32_w]
        rfl
       refine last_ (i := 29) (N := none) #[true, true, true, true, true, true, true, true, true, true, true, true, true, true, true, true, true, true, true, true, true, true, true, true, true, true, true, true, true, true] rfl rfl (one_of HT_.out (by kernel_rfl)) (by decide) (fun K hK => ?_)
       have hs68 : w66.cell? ⟨gb257, 2, none⟩ = some (u258002) := (ZbC BK257.out 2).trans rfl
       have hfs68 := ZbF BK257.out 2
       have hns68_0 := NB254_257.out
       have hns68_1 := NB255_257.out
       have hms68_0 := NB257_254.out
       have hms68_1 := NB257_255.out
       refine skip_ (w1 := ?_) (by rfl) rfl ?_ ?_
       rotate_left
       ·go_simp
        rfl
       refine hK.out _ _ ?_
       clear hK K
       refine done_ (done_of HT_.out (by kernel_rfl)) ?_
       try go_wp2
       go_roundg k3
       case measure => have := HJ3.out; have := HK2.out; have := HK3.out; omega
       case rel => exact ⟨(wrap64 (x64_3 + 1)), (y264), (.slice Ao67 y264.length co67), (by first | rfl | (simp; done) | (simp [*]; done)), H', ⟨by have := HJ3.out; have := HK2.out; have := HK3.out; omega⟩, ⟨by (with_reducible repeat (first | apply ZrA | apply ZrW | apply ZrD)); exact Kd.R_mono (Kd.R_far (p := ⟨gb257, 2, none⟩) (Kd.R_types HO266.out BK257.out (by decide)) (fun _ hk => hk.2) (.slice Ao67 y264.length co67)) (fun _ hk => trivial)⟩, ⟨by (with_reducible repeat (first | refine ZbW ?_ _ | refine ZbD ?_ | refine ZbA ?_ _)); refine blk_far ?_ NB254_257.out _; (with_reducible repeat (first | refine ZbW ?_ _ | refine ZbD ?_ | refine ZbA ?_ _)); exact BK254.out⟩, ⟨by (with_reducible repeat (first | refine ZbW ?_ _ | refine ZbD ?_ | refine ZbA ?_ _)); refine blk_far ?_ NB255_257.out _; (with_reducible repeat (first | refine ZbW ?_ _ | refine ZbD ?_ | refine ZbA ?_ _)); exact BK255.out⟩, ⟨by (with_reducible repeat (first | refine ZbW ?_ _ | refine ZbD ?_ | refine ZbA ?_ _)); refine blk_put (cs := #[.int .i64 a1, .int .i64 a2, u258002]) ?_ 2 _ rfl; (with_reducible repeat (first | refine ZbW ?_ _ | refine ZbD ?_ | refine ZbA ?_ _)); exact BK257.out⟩, ⟨by repeat (first | (with_reducible first | exact HB.out | apply ZhA | apply ZhW | apply ZhD | refine ZhS ?_ GE254.out | refine ZhS ?_ GE255.out | refine ZhS ?_ GE257.out) | exact HB.out)⟩⟩

end Go.Proofs.Ytidblealnaicpaa.PFnSizes

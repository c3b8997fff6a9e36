-- written by myprint.py (a program of this session's over the kit's print)
import Derived.Test.YtidblealnaicpaaPFnSizesx0
import Derived.Test.YtidblealnaicpaaPFnSizesx4
import Derived.Test.YtidblealnaicpaaPFnSizesx6
namespace Go.Proofs.Ytidblealnaicpaa.PFnSizes
open Go.RowKit Go.Proofs.YtidblealnaicpaaW.PrintWords Go.Proofs.YtidblealnaicpaaW.PrintLast Go.Proofs.YtidblealnaicpaaW.PrintMore
attribute [local go_sem] max2_int min2_int max_two min_two max_three min_three max_four min_four   -- for this text's walks alone
set_option linter.unusedVariables false
set_option linter.unusedSimpArgs false

/-! ### impl.Resize's literal (at): by hand -/
def impl_Resize_1.f (a0 : Int) (a1 : Int) (a2_0 : Int) (a2_1 : Int) (l2_2 : List Int) : Option Int := if 0 ≤ wrap64 (wrap64 (a1 * a2_0) + a0) then (if wrap64 (wrap64 (a1 * a2_0) + a0) < (l2_2.length : Int) then some (rd l2_2 (wrap64 (wrap64 (a1 * a2_0) + a0))) else none) else none
set_option maxHeartbeats 2000000 in
set_option maxRecDepth 100000 in
theorem impl_Resize_1.calls (a0 : Int) (a1 : Int) (g : Nat) (a2_0 : Int) (a2_1 : Int) (A2_2 : Option Addr) (c2_2 : Nat) (l2_2 : List Int) (r : Int) (w : World) (hb : w.heap[g]? = some (.cells #[.int .i64 a2_0, .int .i64 a2_1, .slice A2_2 l2_2.length c2_2] 82 (0, 0))) (hr : Kd.C (Kd.int .i64) w A2_2 l2_2.length l2_2) (hc : l2_2.length ≤ c2_2) (h : impl_Resize_1.f a0 a1 a2_0 a2_1 l2_2 = some r) :
  Calls Try.prog 133 #[.int .i64 a0, .int .i64 a1, .pointer (some ⟨g, 0, none⟩)] w fun e w' => e = .returned (.int .i64 r) ∧ Drawn0 w w' := by
 have hx0 : w.cell? ⟨g, 0, none⟩ = some (.int .i64 a2_0) := (ZbC hb 0).trans rfl
 have hx2 : w.cell? ⟨g, 2, none⟩ = some (.slice A2_2 l2_2.length c2_2) := (ZbC hb 2).trans rfl
 unfold impl_Resize_1.f at h
 by_cases c1 : 0 ≤ wrap64 (wrap64 (a1 * a2_0) + a0)
 case neg => rw [if_neg c1] at h; exact absurd h (by simp)
 rw [if_pos c1] at h
 by_cases c2 : wrap64 (wrap64 (a1 * a2_0) + a0) < (l2_2.length : Int)
 case neg => rw [if_neg c2] at h; exact absurd h (by simp)
 rw [if_pos c2] at h
 obtain rfl := Option.some.inj h
 obtain ⟨ad, ea, hxa⟩ := Kd.at_int hr (wrap64 (wrap64 (a1 * a2_0) + a0)) c1 c2
 cases ea
 have d1 : decide (0 ≤ wrap64 (wrap64 (a1 * a2_0) + a0)) = true := decide_eq_true c1
 have d2 : decide (wrap64 (wrap64 (a1 * a2_0) + a0) < (l2_2.length : Int)) = true := decide_eq_true c2
 replace c1 := eq_true c1
 replace c2 := eq_true c2
 go_enter Try.func133, Try.ntmps133
 go_wp2
 go_ret
 exact ⟨by first | rfl | (simp; done) | (simp [*]; done), by repeat (first | exact Drawn0.refl _ | apply Drawn0.step)⟩

/-! ### impl_Resize: function 60 -/
mutual
def impl_Resize.j0 : Nat → Int → Int → Bool → Int → Int → List Int → Option (Int × Int × List Int)
 | 0, _, _, _, _, _, _ => none
 | k + 1, x1, x2, x25, x236000, x236001, x236002 => if x25 = true then (some (0, 0, ([] : List Int))) else (impl_Resize.l0 k x1 x2 x2 0 x236000 x236001 x236002 x1 x2 ([] : List Int))
def impl_Resize.l0 : Nat → Int → Int → Int → Int → Int → Int → List Int → Int → Int → List Int → Option (Int × Int × List Int)
 | 0, _, _, _, _, _, _, _, _, _, _ => none
 | k + 1, x1, x2, x31, x32, x236000, x236001, x236002, x240000, x240001, x240002 => if x32 < x31 then ((impl_place.f x32 x236001 x2).bind fun bt240 => (impl_Resize.l1 k x1 x2 bt240.1 bt240.2.1 bt240.2.2 x31 x32 x1 0 x236000 x236001 x236002 x240000 x240001 x240002)) else (some (x240000, x240001, x240002))
def impl_Resize.l1 : Nat → Int → Int → Int → Int → Int → Int → Int → Int → Int → Int → Int → List Int → Int → Int → List Int → Option (Int × Int × List Int)
 | 0, _, _, _, _, _, _, _, _, _, _, _, _, _, _, _ => none
 | k + 1, x1, x2, x10, x11, x12, x31, x32, x44, x45, x236000, x236001, x236002, x240000, x240001, x240002 => if x45 < x44 then ((impl_place.f x45 x236000 x1).bind fun bt243 => ((impl_Resize_1.f bt243.1 x10 x236000 x236001 x236002).bind fun t246 => ((impl_Resize_1.f bt243.2.1 x10 x236000 x236001 x236002).bind fun t247 => ((impl_Resize_1.f bt243.1 x11 x236000 x236001 x236002).bind fun t248 => ((impl_Resize_1.f bt243.2.1 x11 x236000 x236001 x236002).bind fun t249 => (if x240002.length < 17592186044416 then (impl_Resize.l1 k x1 x2 x10 x11 x12 x31 x32 x44 (wrap64 (x45 + 1)) x236000 x236001 x236002 x240000 x240001 (x240002 ++ [(wrap64 ((wrap64 ((wrap64 ((wrap64 (256 - x12)) * (wrap64 ((wrap64 ((wrap64 (256 - bt243.2.2)) * t246)) + (wrap64 (bt243.2.2 * t247)))))) + (wrap64 (x12 * (wrap64 ((wrap64 ((wrap64 (256 - bt243.2.2)) * t248)) + (wrap64 (bt243.2.2 * t249)))))))) + 32768)) / 65536])) else (none))))))) else (impl_Resize.l0 k x1 x2 x31 (wrap64 (x32 + 1)) x236000 x236001 x236002 x240000 x240001 x240002)
end
def impl_Resize.f (k : Nat) (a0_0 : Int) (a0_1 : Int) (l0_2 : List Int) (a1 : Int) (a2 : Int) : Option (Int × Int × List Int) := (impl_GoodPlane.f k a0_0 a0_1 l0_2).bind fun t237 => (if t237 = true then ((impl_goodSides.f a1 a2).bind fun t238 => (impl_Resize.j0 k a1 a2 (!t238) a0_0 a0_1 l0_2)) else (impl_Resize.j0 k a1 a2 true a0_0 a0_1 l0_2))
theorem impl_Resize.mono_l : ∀ k, (∀ y0 y1 y2 y3 y4 y5, LeO (impl_Resize.j0 k y0 y1 y2 y3 y4 y5) (impl_Resize.j0 (k + 1) y0 y1 y2 y3 y4 y5)) ∧ (∀ y0 y1 y2 y3 y4 y5 y6 y7 y8 y9, LeO (impl_Resize.l0 k y0 y1 y2 y3 y4 y5 y6 y7 y8 y9) (impl_Resize.l0 (k + 1) y0 y1 y2 y3 y4 y5 y6 y7 y8 y9)) ∧ (∀ y0 y1 y2 y3 y4 y5 y6 y7 y8 y9 y10 y11 y12 y13 y14, LeO (impl_Resize.l1 k y0 y1 y2 y3 y4 y5 y6 y7 y8 y9 y10 y11 y12 y13 y14) (impl_Resize.l1 (k + 1) y0 y1 y2 y3 y4 y5 y6 y7 y8 y9 y10 y11 y12 y13 y14))
 | 0 => ⟨fun _ _ _ _ _ _ r h => by simp [impl_Resize.j0] at h, fun _ _ _ _ _ _ _ _ _ _ r h => by simp [impl_Resize.l0] at h, fun _ _ _ _ _ _ _ _ _ _ _ _ _ _ _ r h => by simp [impl_Resize.l1] at h⟩
 | k + 1 => by
  obtain ⟨ih0, ih1, ih2⟩ := impl_Resize.mono_l k
  refine ⟨?_, ?_, ?_⟩
  ·intro y0 y1 y2 y3 y4 y5
   unfold impl_Resize.j0
   repeat' first
   | (with_reducible exact ih0 _ _ _ _ _ _)
   | (with_reducible exact ih1 _ _ _ _ _ _ _ _ _ _)
   | (with_reducible exact ih2 _ _ _ _ _ _ _ _ _ _ _ _ _ _ _)
   | (with_reducible exact impl_GoodPlane.mono _ _ _ _)
   | (with_reducible exact LeO.refl _)
   | (with_reducible exact LeO.none _)
   | (with_reducible refine LeO.ite ?_ ?_)
   | (with_reducible refine LeO.bind ?_ (fun _ => ?_))
   | exact ih0 _ _ _ _ _ _
   | exact ih1 _ _ _ _ _ _ _ _ _ _
   | exact ih2 _ _ _ _ _ _ _ _ _ _ _ _ _ _ _
   | exact impl_GoodPlane.mono _ _ _ _
   | exact LeO.none _
   | refine LeO.ite ?_ ?_
   | refine LeO.bind ?_ (fun _ => ?_)
  ·intro y0 y1 y2 y3 y4 y5 y6 y7 y8 y9
   unfold impl_Resize.l0
   repeat' first
   | (with_reducible exact ih0 _ _ _ _ _ _)
   | (with_reducible exact ih1 _ _ _ _ _ _ _ _ _ _)
   | (with_reducible exact ih2 _ _ _ _ _ _ _ _ _ _ _ _ _ _ _)
   | (with_reducible exact impl_GoodPlane.mono _ _ _ _)
   | (with_reducible exact LeO.refl _)
   | (with_reducible exact LeO.none _)
   | (with_reducible refine LeO.ite ?_ ?_)
   | (with_reducible refine LeO.bind ?_ (fun _ => ?_))
   | exact ih0 _ _ _ _ _ _
   | exact ih1 _ _ _ _ _ _ _ _ _ _
   | exact ih2 _ _ _ _ _ _ _ _ _ _ _ _ _ _ _
   | exact impl_GoodPlane.mono _ _ _ _
   | exact LeO.none _
   | refine LeO.ite ?_ ?_
   | refine LeO.bind ?_ (fun _ => ?_)
  ·intro y0 y1 y2 y3 y4 y5 y6 y7 y8 y9 y10 y11 y12 y13 y14
   unfold impl_Resize.l1
   repeat' first
   | (with_reducible exact ih0 _ _ _ _ _ _)
   | (with_reducible exact ih1 _ _ _ _ _ _ _ _ _ _)
   | (with_reducible exact ih2 _ _ _ _ _ _ _ _ _ _ _ _ _ _ _)
   | (with_reducible exact impl_GoodPlane.mono _ _ _ _)
   | (with_reducible exact LeO.refl _)
   | (with_reducible exact LeO.none _)
   | (with_reducible refine LeO.ite ?_ ?_)
   | (with_reducible refine LeO.bind ?_ (fun _ => ?_))
   | exact ih0 _ _ _ _ _ _
   | exact ih1 _ _ _ _ _ _ _ _ _ _
   | exact ih2 _ _ _ _ _ _ _ _ _ _ _ _ _ _ _
   | exact impl_GoodPlane.mono _ _ _ _
   | exact LeO.none _
   | refine LeO.ite ?_ ?_
   | refine LeO.bind ?_ (fun _ => ?_)
theorem impl_Resize.mono : ∀ a0 a1 a2 a3 a4 k, LeO (impl_Resize.f k a0 a1 a2 a3 a4) (impl_Resize.f (k + 1) a0 a1 a2 a3 a4) := by
 intro a0 a1 a2 a3 a4 k
 obtain ⟨ih0, ih1, ih2⟩ := impl_Resize.mono_l k
 unfold impl_Resize.f
 repeat' first
   | (with_reducible exact ih0 _ _ _ _ _ _)
   | (with_reducible exact ih1 _ _ _ _ _ _ _ _ _ _)
   | (with_reducible exact ih2 _ _ _ _ _ _ _ _ _ _ _ _ _ _ _)
   | (with_reducible exact impl_GoodPlane.mono _ _ _ _)
   | (with_reducible exact LeO.refl _)
   | (with_reducible exact LeO.none _)
   | (with_reducible refine LeO.ite ?_ ?_)
   | (with_reducible refine LeO.bind ?_ (fun _ => ?_))
   | exact ih0 _ _ _ _ _ _
   | exact ih1 _ _ _ _ _ _ _ _ _ _
   | exact ih2 _ _ _ _ _ _ _ _ _ _ _ _ _ _ _
   | exact impl_GoodPlane.mono _ _ _ _
   | exact LeO.none _
   | refine LeO.ite ?_ ?_
   | refine LeO.bind ?_ (fun _ => ?_)
def impl_Resize.T13 : Bool × List (List Nat × List Nat) := (true, [([], []), ([0], [0]), ([], []), ([2], [2]), ([], []), ([4], [4]), ([], []), ([], []), ([], []), ([6, 7, 8], [6, 7, 8]), ([5, 9], [5, 9]), ([], []), ([], []), ([], []), ([], []), ([12, 13, 14, 9], [12, 13, 14]), ([11, 15], [11, 15]), ([10, 16], [10, 16]), ([3, 17], [3, 17]), ([], []), ([], []), ([20], [20]), ([], []), ([], []), ([], []), ([22, 23, 24, 15], [22, 23, 24]), ([21, 25], [21, 25]), ([], []), ([], []), ([], []), ([], []), ([28, 29, 30, 25], [28, 29, 30]), ([27, 31], [27, 31]), ([26, 32], [26, 32]), ([19, 33], [19, 33]), ([18, 34], [18, 34]), ([35], [35]), ([36], [36]), ([37], [37]), ([1, 38, 31], [1, 38]), ([0, 1, 2, 3, 4, 5, 6, 7, 8, 9, 10, 11, 12, 13, 14, 15, 16, 17, 18, 19, 20, 21, 22, 23, 24, 25, 26, 27, 28, 29, 30, 31, 32, 33, 34, 35, 36, 37, 38, 39], []), ([40, 39, 39, 0, 1, 2, 3, 4, 5, 6, 7, 8, 9, 10, 11, 12, 13, 14, 15, 16, 17, 18, 19, 20, 21, 22, 23, 24, 25, 26, 27, 28, 29, 30, 31, 32, 33, 34, 35, 36, 37, 38, 39], [39, 40])])
def impl_Resize.B13 : List Nat := [0, 1, 0, 4, 0, 16, 0, 0, 0, 448, 1008, 0, 0, 0, 0, 29632, 64448, 131056, 262140, 0, 0, 1048576, 0, 0, 0, 29422528, 66122688, 0, 0, 0, 0, 1942025152, 4223726528, 8588948416, 17179407296, 34359738364, 68719476732, 137438953468, 274877906940, 549755813887, 1099511627775, 2199023255551]
theorem impl_Resize.tab13 : rtab .any (opsOf Try.f60 13) = impl_Resize.T13 := by kernel_rfl
theorem impl_Resize.bits13 : waitsOk impl_Resize.T13.2 impl_Resize.B13 = true := by kernel_rfl
set_option maxHeartbeats 8000000 in
set_option maxRecDepth 100000 in
theorem impl_Resize.calls (k : Nat) (a0_0 : Int) (a0_1 : Int) (A0_2 : Option Addr) (c0_2 : Nat) (l0_2 : List Int) (a1 : Int) (a2 : Int) (r1 : Int) (r2 : Int) (r3 : List Int) (w : World) (hr0_2 : Kd.C (Kd.int .i64) w A0_2 l0_2.length l0_2) (hc0_2 : l0_2.length ≤ c0_2) (h : impl_Resize.f k a0_0 a0_1 l0_2 a1 a2 = some (r1, r2, r3)) :
  Calls Try.prog 60 #[.agg #[.int .i64 a0_0, .int .i64 a0_1, .slice A0_2 l0_2.length c0_2], .int .i64 a1, .int .i64 a2] w fun e w' => ∃ v2_ : Value, e = .returned (.agg #[.int .i64 r1, .int .i64 r2, v2_]) ∧ Kd.R (Kd.int .i64) 3 w' w.heap.size (fun _ => True) v2_ r3 ∧ Below w.heap.size w w' := by
 have hu82 := Try.underlying82
 have HR0_2 := Zam hr0_2
 have HC0_2 := Zam hc0_2
 clear hr0_2 hc0_2
 have HB := Zam (Below.refl w.heap.size w)
 have H : ((impl_GoodPlane.f k a0_0 a0_1 l0_2).bind fun t237 => (if t237 = true then ((impl_goodSides.f a1 a2).bind fun t238 => (impl_Resize.j0 k a1 a2 (!t238) a0_0 a0_1 l0_2)) else (impl_Resize.j0 k a1 a2 true a0_0 a0_1 l0_2))) = some (r1, r2, r3) := h
 clear h
 have HC4 := Zam H
 clear H
 go_enter Try.func60, Try.ntmps60
 go_upto_region 1 with (first | ((with_reducible refine gate_dst (N := 3) rfl ?_); refine box_event ?hg (N := 3) ?hd (cs := #[.int .i64 a0_0, .int .i64 a0_1, .slice A0_2 l0_2.length c0_2]) (t := 82) ?hr ?_; (case hd => rfl); (case hg => rfl); (case hr => first | (go_simp; done) | (go_simp; rfl)); intro gb235 hg w5 hbox hb; have n0_ := Zam (ZbS (by repeat (first | (with_reducible first | exact HB.out | apply ZhA | apply ZhW | apply ZhD) | exact HB.out)) hb); have n1_ := Zam (hbox); have n2_ := Zam ((by rw [hg]; exact (below_size (by repeat (first | (with_reducible first | exact HB.out | apply ZhA | apply ZhW | apply ZhD) | exact HB.out))) : w.heap.size ≤ gb235)); have n3_ := n2_; clear HB; have HB := n0_; have BK235 := n1_; have GW235 := n2_; have GE235 := n3_; clear n0_ n1_ n2_ n3_; clear hb hbox hg) | ((with_reducible refine gate_dst (N := 6) rfl ?_); refine box_event ?hg (N := 6) ?hd (cs := #[.int .i64 0, .int .i64 0, .slice none 0 0]) (t := 82) ?hr ?_; (case hd => rfl); (case hg => rfl); (case hr => first | (go_simp; done) | (go_simp; rfl)); intro gb236 hg w6 hbox hb; have n0_ := Zam (ZbB (g := gb235) (o := .cells #[.int .i64 a0_0, .int .i64 a0_1, .slice A0_2 l0_2.length c0_2] 82 (0, 0)) (by (with_reducible repeat (first | refine ZbW ?_ _ | refine ZbD ?_ | refine ZbA ?_ _)); exact BK235.out) hb); have n1_ := Zam (ZbS (by repeat (first | (with_reducible first | exact HB.out | apply ZhA | apply ZhW | apply ZhD | refine ZhS ?_ GE235.out) | exact HB.out)) hb); have n2_ := Zam (hbox); have n3_ := Zam ((by rw [hg]; exact (below_size (by repeat (first | (with_reducible first | exact HB.out | apply ZhA | apply ZhW | apply ZhD | refine ZhS ?_ GE235.out) | exact HB.out))) : w.heap.size ≤ gb236)); have n4_ := n3_; have n5_ := Zam ((by rw [hg]; exact Nat.ne_of_lt (blk_lt (g := gb235) (o := .cells #[.int .i64 a0_0, .int .i64 a0_1, .slice A0_2 l0_2.length c0_2] 82 (0, 0)) (by (with_reducible repeat (first | refine ZbW ?_ _ | refine ZbD ?_ | refine ZbA ?_ _)); exact BK235.out)) : gb235 ≠ gb236)); have n6_ := Zam ((by rw [hg]; exact Nat.ne_of_gt (blk_lt (g := gb235) (o := .cells #[.int .i64 a0_0, .int .i64 a0_1, .slice A0_2 l0_2.length c0_2] 82 (0, 0)) (by (with_reducible repeat (first | refine ZbW ?_ _ | refine ZbD ?_ | refine ZbA ?_ _)); exact BK235.out)) : gb236 ≠ gb235)); clear BK235 HB; have BK235 := n0_; have HB := n1_; have BK236 := n2_; have GW236 := n3_; have GE236 := n4_; have NB235_236 := n5_; have NB236_235 := n6_; clear n0_ n1_ n2_ n3_ n4_ n5_ n6_; clear hb hbox hg))
 (try simp only [Act.put, Zl1, Zl2, Zl3])
 go_cut [25] (fun v25 wc => ∃ (kq : Nat) (x25_3 : Bool), v25 = .bool x25_3 ∧ Aside0 (impl_Resize.j0 kq a1 a2 x25_3 a0_0 a0_1 l0_2 = some (r1, r2, r3)) ∧ Aside0 (kq ≤ k) ∧ Aside0 (wc.heap[gb235]? = some (.cells #[.int .i64 a0_0, .int .i64 a0_1, (.slice A0_2 l0_2.length c0_2)] 82 (0, 0))) ∧ Aside0 (wc.heap[gb236]? = some (.cells #[.int .i64 0, .int .i64 0, (.slice none 0 0)] 82 (0, 0))) ∧ Aside0 (Below w.heap.size w wc))
 case first =>
  have H := HC4.out
  clear HC4
  replace H := Zob.mp H
  obtain ⟨t237, A70, H⟩ := H
  replace H : (if t237 = true then ((impl_goodSides.f a1 a2).bind fun t238 => (impl_Resize.j0 k a1 a2 (!t238) a0_0 a0_1 l0_2)) else (impl_Resize.j0 k a1 a2 true a0_0 a0_1 l0_2)) = some (r1, r2, r3) := H
  have A7 := Zam A70
  clear A70
  by_cases c8 : t237 = true
  rotate_left
  ·replace c8 := Bool.eq_false_iff.mpr c8
   subst c8
   replace H : (impl_Resize.j0 k a1 a2 true a0_0 a0_1 l0_2) = some (r1, r2, r3) := by rw [if_neg (show ¬ (false = true) by decide)] at H; exact H
   have H' := Zam H
   clear H
   have hnb13 := NB235_236.out
   have hnc13 := NB236_235.out
   have hcz14_0 : w6.cell? ⟨gb235, 0, none⟩ = some (.int .i64 a0_0) := (ZbC BK235.out 0).trans rfl
   have hcz14_1 : w6.cell? ⟨gb235, 1, none⟩ = some (.int .i64 a0_1) := (ZbC BK235.out 1).trans rfl
   have hcz14_2 : w6.cell? ⟨gb235, 2, none⟩ = some (.slice A0_2 l0_2.length c0_2) := (ZbC BK235.out 2).trans rfl
   have hfz14_0 := ZbF BK235.out 0
   have hfz14_1 := ZbF BK235.out 1
   have hfz14_2 := ZbF BK235.out 2
   go_wp2_with (first | ((with_reducible refine gate_callee (f := 131) rfl ?_); refine goesL_ (some 18) rfl rfl Try.func131 (by kernel_rfl) rfl #[.agg #[.int .i64 a0_0, .int .i64 a0_1, .slice A0_2 l0_2.length c0_2]] rfl (by (try simp only [Zm1, Zm2, Zm3]); first | done | rfl | (simp only [ZlL, ZlT]; rfl)) ?_; (with_reducible refine (impl_GoodPlane.calls k a0_0 a0_1 _ _ l0_2 false _ ?side1 ?side2 A7.out).mono ?_); (case side1 => repeat (first | exact (Kd.C_below HR0_2.out HB.out) | (with_reducible refine Kd.C_alloc ?_ _) | (with_reducible refine Kd.C_drewN ?_ _) | (with_reducible refine Kd.C_drew ?_))); (case side2 => exact HC0_2.out); rintro e w15 ⟨rfl, hb⟩; refine ⟨_, rfl, ?_⟩; have n0_ := Zam (ZbB (g := gb235) (o := .cells #[.int .i64 a0_0, .int .i64 a0_1, .slice A0_2 l0_2.length c0_2] 82 (0, 0)) (by (with_reducible repeat (first | refine ZbW ?_ _ | refine ZbD ?_ | refine ZbA ?_ _)); exact BK235.out) hb); have n1_ := Zam (ZbB (g := gb236) (o := .cells #[.int .i64 0, .int .i64 0, .slice none 0 0] 82 (0, 0)) (by (with_reducible repeat (first | refine ZbW ?_ _ | refine ZbD ?_ | refine ZbA ?_ _)); exact BK236.out) hb); have n2_ := Zam (ZbS (by repeat (first | (with_reducible first | exact HB.out | apply ZhA | apply ZhW | apply ZhD | refine ZhS ?_ GE235.out | refine ZhS ?_ GE236.out) | exact HB.out)) hb); clear BK235 BK236 HB; have BK235 := n0_; have BK236 := n1_; have HB := n2_; clear n0_ n1_ n2_; (try clear hb); (try clear hb2); (try clear hk); (try clear hi)))
   go_meet
   case rel => exact ⟨_, (true), (by first | rfl | (simp; done) | (simp [*]; done)), H', ⟨by first | omega | exact Nat.le_refl _⟩, ⟨by (with_reducible repeat (first | refine ZbW ?_ _ | refine ZbD ?_ | refine ZbA ?_ _)); exact BK235.out⟩, ⟨by (with_reducible repeat (first | refine ZbW ?_ _ | refine ZbD ?_ | refine ZbA ?_ _)); exact BK236.out⟩, ⟨by repeat (first | (with_reducible first | exact HB.out | apply ZhA | apply ZhW | apply ZhD | refine ZhS ?_ GE235.out | refine ZhS ?_ GE236.out) | exact HB.out)⟩⟩
  subst c8
  replace H : ((impl_goodSides.f a1 a2).bind fun t238 => (impl_Resize.j0 k a1 a2 (!t238) a0_0 a0_1 l0_2)) = some (r1, r2, r3) := by rw [if_pos rfl] at H; exact H
  replace H := Zob.mp H
  obtain ⟨t238, A90, H⟩ := H
  replace H : (impl_Resize.j0 k a1 a2 (!t238) a0_0 a0_1 l0_2) = some (r1, r2, r3) := H
  have A9 := Zam A90
  clear A90
  have H' := Zam H
  clear H
  have hnb10 := NB235_236.out
  have hnc10 := NB236_235.out
  have hcz11_0 : w6.cell? ⟨gb235, 0, none⟩ = some (.int .i64 a0_0) := (ZbC BK235.out 0).trans rfl
  have hcz11_1 : w6.cell? ⟨gb235, 1, none⟩ = some (.int .i64 a0_1) := (ZbC BK235.out 1).trans rfl
  have hcz11_2 : w6.cell? ⟨gb235, 2, none⟩ = some (.slice A0_2 l0_2.length c0_2) := (ZbC BK235.out 2).trans rfl
  have hfz11_0 := ZbF BK235.out 0
  have hfz11_1 := ZbF BK235.out 1
  have hfz11_2 := ZbF BK235.out 2
  go_wp2_with (first | ((with_reducible refine gate_callee (f := 131) rfl ?_); refine goesL_ (some 18) rfl rfl Try.func131 (by kernel_rfl) rfl #[.agg #[.int .i64 a0_0, .int .i64 a0_1, .slice A0_2 l0_2.length c0_2]] rfl (by (try simp only [Zm1, Zm2, Zm3]); first | done | rfl | (simp only [ZlL, ZlT]; rfl)) ?_; (with_reducible refine (impl_GoodPlane.calls k a0_0 a0_1 _ _ l0_2 true _ ?side1 ?side2 A7.out).mono ?_); (case side1 => repeat (first | exact (Kd.C_below HR0_2.out HB.out) | (with_reducible refine Kd.C_alloc ?_ _) | (with_reducible refine Kd.C_drewN ?_ _) | (with_reducible refine Kd.C_drew ?_))); (case side2 => exact HC0_2.out); rintro e w12 ⟨rfl, hb⟩; refine ⟨_, rfl, ?_⟩; have n0_ := Zam (ZbB (g := gb235) (o := .cells #[.int .i64 a0_0, .int .i64 a0_1, .slice A0_2 l0_2.length c0_2] 82 (0, 0)) (by (with_reducible repeat (first | refine ZbW ?_ _ | refine ZbD ?_ | refine ZbA ?_ _)); exact BK235.out) hb); have n1_ := Zam (ZbB (g := gb236) (o := .cells #[.int .i64 0, .int .i64 0, .slice none 0 0] 82 (0, 0)) (by (with_reducible repeat (first | refine ZbW ?_ _ | refine ZbD ?_ | refine ZbA ?_ _)); exact BK236.out) hb); have n2_ := Zam (ZbS (by repeat (first | (with_reducible first | exact HB.out | apply ZhA | apply ZhW | apply ZhD | refine ZhS ?_ GE235.out | refine ZhS ?_ GE236.out) | exact HB.out)) hb); clear BK235 BK236 HB; have BK235 := n0_; have BK236 := n1_; have HB := n2_; clear n0_ n1_ n2_; (try clear hb); (try clear hb2); (try clear hk); (try clear hi)) | (go_at_call 132; (with_reducible refine (impl_goodSides.calls a1 a2 t238 _ A9.out).mono ?_); rintro e w' ⟨rfl, ⟨nd, rfl⟩⟩))
  go_meet
  case rel => exact ⟨_, (!t238), (by first | rfl | (simp; done) | (simp [*]; done)), H', ⟨by first | omega | exact Nat.le_refl _⟩, ⟨by (with_reducible repeat (first | refine ZbW ?_ _ | refine ZbD ?_ | refine ZbA ?_ _)); exact BK235.out⟩, ⟨by (with_reducible repeat (first | refine ZbW ?_ _ | refine ZbD ?_ | refine ZbA ?_ _)); exact BK236.out⟩, ⟨by repeat (first | (with_reducible first | exact HB.out | apply ZhA | apply ZhW | apply ZhD | refine ZhS ?_ GE235.out | refine ZhS ?_ GE236.out) | exact HB.out)⟩⟩
 case rest =>
  clear HC4
  try clear c1
  try clear p2
  try clear c6
  try clear c8
  try clear c10
  try clear c13
  try clear hcz11_0
  try clear hcz11_1
  try clear hcz11_2
  try clear hcz14_0
  try clear hcz14_1
  try clear hcz14_2
  try clear hfz11_0
  try clear hfz11_1
  try clear hfz11_2
  try clear hfz14_0
  try clear hfz14_1
  try clear hfz14_2
  obtain ⟨kq, x25_3, rfl, HA, HJ3, BK235, BK236, HB⟩ := hcut
  cases kq with
  | zero => exact absurd HA.out (by simp [impl_Resize.j0])
  | succ kj3 =>
   have H := HA.out
   clear HA
   simp only [impl_Resize.j0] at H
   by_cases c16 : x25_3 = true
   ·subst c16
    replace H : (some (0, 0, ([] : List Int))) = some (r1, r2, r3) := by rw [if_pos rfl] at H; exact H
    simp only [Option.some.injEq, Prod.mk.injEq] at H
    obtain ⟨rfl, rfl, rfl⟩ := H
    have hnb17 := NB236_235.out
    have hnc17 := NB235_236.out
    have hcz18_0 : wc.cell? ⟨gb236, 0, none⟩ = some (.int .i64 0) := (ZbC BK236.out 0).trans rfl
    have hcz18_1 : wc.cell? ⟨gb236, 1, none⟩ = some (.int .i64 0) := (ZbC BK236.out 1).trans rfl
    have hcz18_2 : wc.cell? ⟨gb236, 2, none⟩ = some (.slice none 0 0) := (ZbC BK236.out 2).trans rfl
    have hfz18_0 := ZbF BK236.out 0
    have hfz18_1 := ZbF BK236.out 1
    have hfz18_2 := ZbF BK236.out 2
    go_wp2
    refine bodyPost_ret (results_cell_row rfl _ _ gb236 82 #[.int .i64 0, .int .i64 0, .slice none 0 0] (0, 0) _ rfl (set3_blk BK236.out) Try.underlying82 rfl (by kernel_rfl)) rfl ?_
    exact ⟨_, by first | rfl | (simp [*, errW_none, errW_some] <;> rfl), by first | exact Kd.R_nil _ _ _ _ _ | exact Kd.N_nil _ _ _ _ _ | exact Kd.V_nil _ _ _ _ _ | exact Kd.Q_nil _ _ _ _ _ | exact Kd.S_nil _ _ _ _ _, by repeat (first | (with_reducible first | exact HB.out | apply ZhA | apply ZhW | apply ZhD | refine ZhS ?_ GE235.out | refine ZhS ?_ GE236.out) | exact HB.out)⟩
   replace c16 := Bool.eq_false_iff.mpr c16
   subst c16
   replace H : (impl_Resize.l0 kj3 a1 a2 a2 0 a0_0 a0_1 l0_2 a1 a2 ([] : List Int)) = some (r1, r2, r3) := by rw [if_neg (show ¬ (false = true) by decide)] at H; exact H
   have H' := Zam H
   clear H
   go_wp2_with (first | ((with_reducible refine gate_dst (N := 7) rfl ?_); refine box_event ?hg (N := 7) ?hd (cs := #[.int .i64 0, .int .i64 0, .slice none 0 0]) (t := 82) ?hr ?_; (case hd => rfl); (case hg => rfl); (case hr => first | (go_simp; done) | (go_simp; rfl)); intro gb239 hg w19 hbox hb; have n0_ := Zam (ZbB (g := gb235) (o := .cells #[.int .i64 a0_0, .int .i64 a0_1, .slice A0_2 l0_2.length c0_2] 82 (0, 0)) (by (with_reducible repeat (first | refine ZbW ?_ _ | refine ZbD ?_ | refine ZbA ?_ _)); exact BK235.out) hb); have n1_ := Zam (ZbB (g := gb236) (o := .cells #[.int .i64 0, .int .i64 0, .slice none 0 0] 82 (0, 0)) (by (with_reducible repeat (first | refine ZbW ?_ _ | refine ZbD ?_ | refine ZbA ?_ _)); exact BK236.out) hb); have n2_ := Zam (ZbS (by repeat (first | (with_reducible first | exact HB.out | apply ZhA | apply ZhW | apply ZhD | refine ZhS ?_ GE235.out | refine ZhS ?_ GE236.out) | exact HB.out)) hb); have n3_ := Zam (hbox); have n4_ := Zam ((by rw [hg]; exact (below_size (by repeat (first | (with_reducible first | exact HB.out | apply ZhA | apply ZhW | apply ZhD | refine ZhS ?_ GE235.out | refine ZhS ?_ GE236.out) | exact HB.out))) : w.heap.size ≤ gb239)); have n5_ := n4_; have n6_ := Zam ((by rw [hg]; exact Nat.ne_of_lt (blk_lt (g := gb235) (o := .cells #[.int .i64 a0_0, .int .i64 a0_1, .slice A0_2 l0_2.length c0_2] 82 (0, 0)) (by (with_reducible repeat (first | refine ZbW ?_ _ | refine ZbD ?_ | refine ZbA ?_ _)); exact BK235.out)) : gb235 ≠ gb239)); have n7_ := Zam ((by rw [hg]; exact Nat.ne_of_gt (blk_lt (g := gb235) (o := .cells #[.int .i64 a0_0, .int .i64 a0_1, .slice A0_2 l0_2.length c0_2] 82 (0, 0)) (by (with_reducible repeat (first | refine ZbW ?_ _ | refine ZbD ?_ | refine ZbA ?_ _)); exact BK235.out)) : gb239 ≠ gb235)); have n8_ := Zam ((by rw [hg]; exact Nat.ne_of_lt (blk_lt (g := gb236) (o := .cells #[.int .i64 0, .int .i64 0, .slice none 0 0] 82 (0, 0)) (by (with_reducible repeat (first | refine ZbW ?_ _ | refine ZbD ?_ | refine ZbA ?_ _)); exact BK236.out)) : gb236 ≠ gb239)); have n9_ := Zam ((by rw [hg]; exact Nat.ne_of_gt (blk_lt (g := gb236) (o := .cells #[.int .i64 0, .int .i64 0, .slice none 0 0] 82 (0, 0)) (by (with_reducible repeat (first | refine ZbW ?_ _ | refine ZbD ?_ | refine ZbA ?_ _)); exact BK236.out)) : gb239 ≠ gb236)); clear BK235 BK236 HB; have BK235 := n0_; have BK236 := n1_; have HB := n2_; have BK239 := n3_; have GW239 := n4_; have GE239 := n5_; have NB235_239 := n6_; have NB239_235 := n7_; have NB236_239 := n8_; have NB239_236 := n9_; clear n0_ n1_ n2_ n3_ n4_ n5_ n6_ n7_ n8_ n9_; clear hb hbox hg; have hnb20 := NB239_235.out; have hnc20 := NB235_239.out; have hnb21 := NB239_236.out; have hnc21 := NB236_239.out; have hcz22_0 : w19.cell? ⟨gb239, 0, none⟩ = some (.int .i64 0) := (ZbC BK239.out 0).trans rfl; have hcz22_1 : w19.cell? ⟨gb239, 1, none⟩ = some (.int .i64 0) := (ZbC BK239.out 1).trans rfl; have hcz22_2 : w19.cell? ⟨gb239, 2, none⟩ = some (.slice none 0 0) := (ZbC BK239.out 2).trans rfl; have hfz22_0 := ZbF BK239.out 0; have hfz22_1 := ZbF BK239.out 1; have hfz22_2 := ZbF BK239.out 2))
   go_loopg [32] kj3 (fun kq v32 w' => ∃ (x32_2 : Int) (x240002_2 : List Int) (u240002 : Value), v32 = .int .i64 x32_2 ∧ Aside0 (impl_Resize.l0 kq a1 a2 a2 x32_2 a0_0 a0_1 l0_2 a1 a2 x240002_2 = some (r1, r2, r3)) ∧ Aside0 (kq ≤ kj3) ∧ Aside0 (Kd.R (Kd.int .i64) 3 w' w.heap.size (fun _ => True) u240002 x240002_2) ∧ Aside0 (w'.heap[gb235]? = some (.cells #[.int .i64 a0_0, .int .i64 a0_1, (.slice A0_2 l0_2.length c0_2)] 82 (0, 0))) ∧ Aside0 (w'.heap[gb236]? = some (.cells #[.int .i64 0, .int .i64 0, (.slice none 0 0)] 82 (0, 0))) ∧ Aside0 (w'.heap[gb239]? = some (.cells #[.int .i64 a1, .int .i64 a2, u240002] 82 (0, 0))) ∧ Aside0 (Below w.heap.size w w'))
   case atStart => exact ⟨(0), (([] : List Int)), (.slice none 0 0), (by first | rfl | (simp; done) | (simp [*]; done)), H', ⟨Nat.le_refl _⟩, ⟨by first | exact Kd.R_nil _ _ _ _ _ | exact Kd.N_nil _ _ _ _ _ | exact Kd.V_nil _ _ _ _ _ | exact Kd.Q_nil _ _ _ _ _ | exact Kd.S_nil _ _ _ _ _⟩, ⟨by (with_reducible repeat (first | refine ZbW ?_ _ | refine ZbD ?_ | refine ZbA ?_ _)); refine blk_far ?_ NB235_239.out _; (with_reducible repeat (first | refine ZbW ?_ _ | refine ZbD ?_ | refine ZbA ?_ _)); refine blk_far ?_ NB235_239.out _; (with_reducible repeat (first | refine ZbW ?_ _ | refine ZbD ?_ | refine ZbA ?_ _)); refine blk_far ?_ NB235_239.out _; (with_reducible repeat (first | refine ZbW ?_ _ | refine ZbD ?_ | refine ZbA ?_ _)); exact BK235.out⟩, ⟨by (with_reducible repeat (first | refine ZbW ?_ _ | refine ZbD ?_ | refine ZbA ?_ _)); refine blk_far ?_ NB236_239.out _; (with_reducible repeat (first | refine ZbW ?_ _ | refine ZbD ?_ | refine ZbA ?_ _)); refine blk_far ?_ NB236_239.out _; (with_reducible repeat (first | refine ZbW ?_ _ | refine ZbD ?_ | refine ZbA ?_ _)); refine blk_far ?_ NB236_239.out _; (with_reducible repeat (first | refine ZbW ?_ _ | refine ZbD ?_ | refine ZbA ?_ _)); exact BK236.out⟩, ⟨by (with_reducible repeat (first | refine ZbW ?_ _ | refine ZbD ?_ | refine ZbA ?_ _)); refine blk_put (cs := #[.int .i64 a1, .int .i64 a2, .slice none 0 0]) ?_ 2 _ rfl; (with_reducible repeat (first | refine ZbW ?_ _ | refine ZbD ?_ | refine ZbA ?_ _)); refine blk_put (cs := #[.int .i64 a1, .int .i64 0, .slice none 0 0]) ?_ 1 _ rfl; (with_reducible repeat (first | refine ZbW ?_ _ | refine ZbD ?_ | refine ZbA ?_ _)); refine blk_put (cs := #[.int .i64 0, .int .i64 0, .slice none 0 0]) ?_ 0 _ rfl; (with_reducible repeat (first | refine ZbW ?_ _ | refine ZbD ?_ | refine ZbA ?_ _)); exact BK239.out⟩, ⟨by repeat (first | (with_reducible first | exact HB.out | apply ZhA | apply ZhW | apply ZhD | refine ZhS ?_ GE235.out | refine ZhS ?_ GE236.out | refine ZhS ?_ GE239.out) | exact HB.out)⟩⟩
   case round =>
    clear H'
    try clear c1
    try clear c2
    try clear p2
    try clear c6
    try clear c8
    try clear c10
    try clear c13
    try clear c16
    try clear c17
    try clear c20
    try clear c21
    try clear hcz11_0
    try clear hcz11_1
    try clear hcz11_2
    try clear hcz14_0
    try clear hcz14_1
    try clear hcz14_2
    try clear hcz18_0
    try clear hcz18_1
    try clear hcz18_2
    try clear hcz22_0
    try clear hcz22_1
    try clear hcz22_2
    try clear hfz11_0
    try clear hfz11_1
    try clear hfz11_2
    try clear hfz14_0
    try clear hfz14_1
    try clear hfz14_2
    try clear hfz18_0
    try clear hfz18_1
    try clear hfz18_2
    try clear hfz22_0
    try clear hfz22_1
    try clear hfz22_2
    try clear p2
    obtain ⟨x32_2, x240002_2, u240002, rfl, HA, HK2, HO_240002, BK235, BK236, BK239, HB⟩ := hrel
    cases gk with
    | zero => exact absurd HA.out (by simp [impl_Resize.l0])
    | succ k2 =>
     have H := HA.out
     clear HA
     simp only [impl_Resize.l0] at H
     by_cases c23 : x32_2 < a2
     rotate_left
     ·rw [if_neg c23] at H
      have c23b0 : decide (x32_2 < a2) = false := decide_eq_false c23
      clear c23
      simp only [Option.some.injEq, Prod.mk.injEq] at H
      obtain ⟨rfl, rfl, rfl⟩ := H
      have hnb44 := NB239_235.out
      have hnc44 := NB235_239.out
      have hnb45 := NB239_236.out
      have hnc45 := NB236_239.out
      have hcz46_0 : wr.cell? ⟨gb239, 0, none⟩ = some (.int .i64 a1) := (ZbC BK239.out 0).trans rfl
      have hcz46_1 : wr.cell? ⟨gb239, 1, none⟩ = some (.int .i64 a2) := (ZbC BK239.out 1).trans rfl
      have hcz46_2 : wr.cell? ⟨gb239, 2, none⟩ = some (u240002) := (ZbC BK239.out 2).trans rfl
      have hfz46_0 := ZbF BK239.out 0
      have hfz46_1 := ZbF BK239.out 1
      have hfz46_2 := ZbF BK239.out 2
      have hnb47 := NB236_235.out
      have hnc47 := NB235_236.out
      have hcz48_0 : wr.cell? ⟨gb236, 0, none⟩ = some (.int .i64 0) := (ZbC BK236.out 0).trans rfl
      have hcz48_1 : wr.cell? ⟨gb236, 1, none⟩ = some (.int .i64 0) := (ZbC BK236.out 1).trans rfl
      have hcz48_2 : wr.cell? ⟨gb236, 2, none⟩ = some (.slice none 0 0) := (ZbC BK236.out 2).trans rfl
      have hfz48_0 := ZbF BK236.out 0
      have hfz48_1 := ZbF BK236.out 1
      have hfz48_2 := ZbF BK236.out 2
      obtain ⟨Ao49, co49, eo49⟩ := Kd.R_slice HO_240002.out
      subst eo49
      go_wp2
      refine bodyPost_ret (results_cell_row rfl _ _ gb236 82 #[.int .i64 a1, .int .i64 a2, .slice Ao49 x240002_2.length co49] (0, 0) _ rfl (set3_blk BK236.out) Try.underlying82 rfl (by kernel_rfl)) rfl ?_
      exact ⟨_, by first | rfl | (simp [*, errW_none, errW_some] <;> rfl), by (with_reducible repeat (first | apply ZrA | apply ZrW | apply ZrD)); exact Kd.R_mono (set3_R (Kd.R_types HO_240002.out BK236.out (by decide)) (fun _ hk => hk.2)) (fun _ hk => trivial), by repeat (first | (with_reducible first | exact HB.out | apply ZhA | apply ZhW | apply ZhD | refine ZhS ?_ GE235.out | refine ZhS ?_ GE236.out | refine ZhS ?_ GE239.out) | exact HB.out)⟩
     rw [if_pos c23] at H
     have c23b0 : decide (x32_2 < a2) = true := decide_eq_true c23
     clear c23
     replace H := Zob.mp H
     obtain ⟨⟨t240, t241, t242⟩, A240, H⟩ := H
     replace H : (impl_Resize.l1 k2 a1 a2 t240 t241 t242 a2 x32_2 a1 0 a0_0 a0_1 l0_2 a1 a2 x240002_2) = some (r1, r2, r3) := H
     have A24 := Zam A240
     clear A240
     have H' := Zam H
     clear H
     have hnb25 := NB235_236.out
     have hnc25 := NB236_235.out
     have hnb26 := NB235_239.out
     have hnc26 := NB239_235.out
     have hcz27_0 : wr.cell? ⟨gb235, 0, none⟩ = some (.int .i64 a0_0) := (ZbC BK235.out 0).trans rfl
     have hcz27_1 : wr.cell? ⟨gb235, 1, none⟩ = some (.int .i64 a0_1) := (ZbC BK235.out 1).trans rfl
     have hcz27_2 : wr.cell? ⟨gb235, 2, none⟩ = some (.slice A0_2 l0_2.length c0_2) := (ZbC BK235.out 2).trans rfl
     have hfz27_0 := ZbF BK235.out 0
     have hfz27_1 := ZbF BK235.out 1
     have hfz27_2 := ZbF BK235.out 2
     go_wp2_with (first | ((with_reducible refine gate_callee (f := 134) rfl ?_); refine goesL_ (some 40) rfl rfl Try.func134 (by kernel_rfl) rfl #[.int .i64 x32_2, .int .i64 a0_1, .int .i64 a2] rfl (by (try simp only [Zm1, Zm2, Zm3]); first | done | rfl | (simp only [ZlL, ZlT]; rfl)) ?_; (with_reducible refine (impl_place.calls x32_2 a0_1 a2 t240 t241 t242 _ A24.out).mono ?_); rintro e w28 ⟨rfl, hb⟩; refine ⟨_, rfl, ?_⟩; have n0_ := Zam (Kd.R_below (by (with_reducible repeat (first | apply ZrA | apply ZrW | apply ZrD)); exact HO_240002.out) hb); have n1_ := Zam (ZbB (g := gb235) (o := .cells #[.int .i64 a0_0, .int .i64 a0_1, .slice A0_2 l0_2.length c0_2] 82 (0, 0)) (by (with_reducible repeat (first | refine ZbW ?_ _ | refine ZbD ?_ | refine ZbA ?_ _)); exact BK235.out) hb); have n2_ := Zam (ZbB (g := gb236) (o := .cells #[.int .i64 0, .int .i64 0, .slice none 0 0] 82 (0, 0)) (by (with_reducible repeat (first | refine ZbW ?_ _ | refine ZbD ?_ | refine ZbA ?_ _)); exact BK236.out) hb); have n3_ := Zam (ZbB (g := gb239) (o := .cells #[.int .i64 a1, .int .i64 a2, u240002] 82 (0, 0)) (by (with_reducible repeat (first | refine ZbW ?_ _ | refine ZbD ?_ | refine ZbA ?_ _)); exact BK239.out) hb); have n4_ := Zam (ZbS (by repeat (first | (with_reducible first | exact HB.out | apply ZhA | apply ZhW | apply ZhD | refine ZhS ?_ GE235.out | refine ZhS ?_ GE236.out | refine ZhS ?_ GE239.out) | exact HB.out)) hb); clear HO_240002 BK235 BK236 BK239 HB; have HO_240002 := n0_; have BK235 := n1_; have BK236 := n2_; have BK239 := n3_; have HB := n4_; clear n0_ n1_ n2_ n3_ n4_; (try clear hb); (try clear hb2); (try clear hk); (try clear hi)))
     go_loopg [45] k2 (fun kq v45 w' => ∃ (x45_3 : Int) (x240002_3 : List Int) (u240002 : Value), v45 = .int .i64 x45_3 ∧ Aside0 (impl_Resize.l1 kq a1 a2 t240 t241 t242 a2 x32_2 a1 x45_3 a0_0 a0_1 l0_2 a1 a2 x240002_3 = some (r1, r2, r3)) ∧ Aside0 (kq ≤ k2) ∧ Aside0 (Kd.R (Kd.int .i64) 3 w' w.heap.size (fun _ => True) u240002 x240002_3) ∧ Aside0 (w'.heap[gb235]? = some (.cells #[.int .i64 a0_0, .int .i64 a0_1, (.slice A0_2 l0_2.length c0_2)] 82 (0, 0))) ∧ Aside0 (w'.heap[gb236]? = some (.cells #[.int .i64 0, .int .i64 0, (.slice none 0 0)] 82 (0, 0))) ∧ Aside0 (w'.heap[gb239]? = some (.cells #[.int .i64 a1, .int .i64 a2, u240002] 82 (0, 0))) ∧ Aside0 (Below w.heap.size w w'))
     case atStart => exact ⟨(0), (x240002_2), (u240002), (by first | rfl | (simp; done) | (simp [*]; done)), H', ⟨Nat.le_refl _⟩, ⟨by (with_reducible repeat (first | apply ZrA | apply ZrW | apply ZrD)); exact HO_240002.out⟩, ⟨by (with_reducible repeat (first | refine ZbW ?_ _ | refine ZbD ?_ | refine ZbA ?_ _)); exact BK235.out⟩, ⟨by (with_reducible repeat (first | refine ZbW ?_ _ | refine ZbD ?_ | refine ZbA ?_ _)); exact BK236.out⟩, ⟨by (with_reducible repeat (first | refine ZbW ?_ _ | refine ZbD ?_ | refine ZbA ?_ _)); exact BK239.out⟩, ⟨by repeat (first | (with_reducible first | exact HB.out | apply ZhA | apply ZhW | apply ZhD | refine ZhS ?_ GE235.out | refine ZhS ?_ GE236.out | refine ZhS ?_ GE239.out) | exact HB.out)⟩⟩
     case round =>
      clear H'
      try clear c1
      try clear c2
      try clear p2
      try clear c6
      try clear c8
      try clear c10
      try clear c13
      try clear c16
      try clear c17
      try clear c20
      try clear c21
      try clear c23
      try clear c23b0
      try clear c25
      try clear c26
      try clear hcz11_0
      try clear hcz11_1
      try clear hcz11_2
      try clear hcz14_0
      try clear hcz14_1
      try clear hcz14_2
      try clear hcz18_0
      try clear hcz18_1
      try clear hcz18_2
      try clear hcz22_0
      try clear hcz22_1
      try clear hcz22_2
      try clear hcz27_0
      try clear hcz27_1
      try clear hcz27_2
      try clear hfz11_0
      try clear hfz11_1
      try clear hfz11_2
      try clear hfz14_0
      try clear hfz14_1
      try clear hfz14_2
      try clear hfz18_0
      try clear hfz18_1
      try clear hfz18_2
      try clear hfz22_0
      try clear hfz22_1
      try clear hfz22_2
      try clear hfz27_0
      try clear hfz27_1
      try clear hfz27_2
      try clear p2
      obtain ⟨x45_3, x240002_3, u240002, rfl, HA, HK3, HO_240002, BK235, BK236, BK239, HB⟩ := hrel
      cases gk with
      | zero => exact absurd HA.out (by simp [impl_Resize.l1])
      | succ k3 =>
       have H := HA.out
       clear HA
       simp only [impl_Resize.l1] at H
       by_cases c29 : x45_3 < a1
       rotate_left
       ·rw [if_neg c29] at H
        have c29b0 : decide (x45_3 < a1) = false := decide_eq_false c29
        clear c29
        have H' := Zam H
        clear H
        go_wp2
        go_roundg k3
        case measure => have := HJ3.out; have := HK2.out; have := HK3.out; omega
        case rel => exact ⟨(wrap64 (x32_2 + 1)), (x240002_3), (u240002), (by first | rfl | (simp; done) | (simp [*]; done)), H', ⟨by have := HJ3.out; have := HK2.out; have := HK3.out; omega⟩, ⟨by (with_reducible repeat (first | apply ZrA | apply ZrW | apply ZrD)); exact HO_240002.out⟩, ⟨by (with_reducible repeat (first | refine ZbW ?_ _ | refine ZbD ?_ | refine ZbA ?_ _)); exact BK235.out⟩, ⟨by (with_reducible repeat (first | refine ZbW ?_ _ | refine ZbD ?_ | refine ZbA ?_ _)); exact BK236.out⟩, ⟨by (with_reducible repeat (first | refine ZbW ?_ _ | refine ZbD ?_ | refine ZbA ?_ _)); exact BK239.out⟩, ⟨by repeat (first | (with_reducible first | exact HB.out | apply ZhA | apply ZhW | apply ZhD | refine ZhS ?_ GE235.out | refine ZhS ?_ GE236.out | refine ZhS ?_ GE239.out) | exact HB.out)⟩⟩
       rw [if_pos c29] at H
       have c29b0 : decide (x45_3 < a1) = true := decide_eq_true c29
       clear c29
       replace H := Zob.mp H
       obtain ⟨⟨t243, t244, t245⟩, A300, H⟩ := H
       replace H : ((impl_Resize_1.f t243 t240 a0_0 a0_1 l0_2).bind fun t246 => ((impl_Resize_1.f t244 t240 a0_0 a0_1 l0_2).bind fun t247 => ((impl_Resize_1.f t243 t241 a0_0 a0_1 l0_2).bind fun t248 => ((impl_Resize_1.f t244 t241 a0_0 a0_1 l0_2).bind fun t249 => (if x240002_3.length < 17592186044416 then (impl_Resize.l1 k3 a1 a2 t240 t241 t242 a2 x32_2 a1 (wrap64 (x45_3 + 1)) a0_0 a0_1 l0_2 a1 a2 (x240002_3 ++ [(wrap64 ((wrap64 ((wrap64 ((wrap64 (256 - t242)) * (wrap64 ((wrap64 ((wrap64 (256 - t245)) * t246)) + (wrap64 (t245 * t247)))))) + (wrap64 (t242 * (wrap64 ((wrap64 ((wrap64 (256 - t245)) * t248)) + (wrap64 (t245 * t249)))))))) + 32768)) / 65536])) else (none)))))) = some (r1, r2, r3) := H
       have A30 := Zam A300
       clear A300
       replace H := Zob.mp H
       obtain ⟨t246, A310, H⟩ := H
       replace H : ((impl_Resize_1.f t244 t240 a0_0 a0_1 l0_2).bind fun t247 => ((impl_Resize_1.f t243 t241 a0_0 a0_1 l0_2).bind fun t248 => ((impl_Resize_1.f t244 t241 a0_0 a0_1 l0_2).bind fun t249 => (if x240002_3.length < 17592186044416 then (impl_Resize.l1 k3 a1 a2 t240 t241 t242 a2 x32_2 a1 (wrap64 (x45_3 + 1)) a0_0 a0_1 l0_2 a1 a2 (x240002_3 ++ [(wrap64 ((wrap64 ((wrap64 ((wrap64 (256 - t242)) * (wrap64 ((wrap64 ((wrap64 (256 - t245)) * t246)) + (wrap64 (t245 * t247)))))) + (wrap64 (t242 * (wrap64 ((wrap64 ((wrap64 (256 - t245)) * t248)) + (wrap64 (t245 * t249)))))))) + 32768)) / 65536])) else (none))))) = some (r1, r2, r3) := H
       have A31 := Zam A310
       clear A310
       replace H := Zob.mp H
       obtain ⟨t247, A320, H⟩ := H
       replace H : ((impl_Resize_1.f t243 t241 a0_0 a0_1 l0_2).bind fun t248 => ((impl_Resize_1.f t244 t241 a0_0 a0_1 l0_2).bind fun t249 => (if x240002_3.length < 17592186044416 then (impl_Resize.l1 k3 a1 a2 t240 t241 t242 a2 x32_2 a1 (wrap64 (x45_3 + 1)) a0_0 a0_1 l0_2 a1 a2 (x240002_3 ++ [(wrap64 ((wrap64 ((wrap64 ((wrap64 (256 - t242)) * (wrap64 ((wrap64 ((wrap64 (256 - t245)) * t246)) + (wrap64 (t245 * t247)))))) + (wrap64 (t242 * (wrap64 ((wrap64 ((wrap64 (256 - t245)) * t248)) + (wrap64 (t245 * t249)))))))) + 32768)) / 65536])) else (none)))) = some (r1, r2, r3) := H
       have A32 := Zam A320
       clear A320
       replace H := Zob.mp H
       obtain ⟨t248, A330, H⟩ := H
       replace H : ((impl_Resize_1.f t244 t241 a0_0 a0_1 l0_2).bind fun t249 => (if x240002_3.length < 17592186044416 then (impl_Resize.l1 k3 a1 a2 t240 t241 t242 a2 x32_2 a1 (wrap64 (x45_3 + 1)) a0_0 a0_1 l0_2 a1 a2 (x240002_3 ++ [(wrap64 ((wrap64 ((wrap64 ((wrap64 (256 - t242)) * (wrap64 ((wrap64 ((wrap64 (256 - t245)) * t246)) + (wrap64 (t245 * t247)))))) + (wrap64 (t242 * (wrap64 ((wrap64 ((wrap64 (256 - t245)) * t248)) + (wrap64 (t245 * t249)))))))) + 32768)) / 65536])) else (none))) = some (r1, r2, r3) := H
       have A33 := Zam A330
       clear A330
       replace H := Zob.mp H
       obtain ⟨t249, A340, H⟩ := H
       replace H : (if x240002_3.length < 17592186044416 then (impl_Resize.l1 k3 a1 a2 t240 t241 t242 a2 x32_2 a1 (wrap64 (x45_3 + 1)) a0_0 a0_1 l0_2 a1 a2 (x240002_3 ++ [(wrap64 ((wrap64 ((wrap64 ((wrap64 (256 - t242)) * (wrap64 ((wrap64 ((wrap64 (256 - t245)) * t246)) + (wrap64 (t245 * t247)))))) + (wrap64 (t242 * (wrap64 ((wrap64 ((wrap64 (256 - t245)) * t248)) + (wrap64 (t245 * t249)))))))) + 32768)) / 65536])) else (none)) = some (r1, r2, r3) := H
       have A34 := Zam A340
       clear A340
       by_cases c35 : x240002_3.length < 17592186044416
       rotate_left
       ·rw [if_neg c35] at H
        exact absurd H (by simp)
       rw [if_pos c35] at H
       have LMc35 := Zam c35
       clear c35
       obtain ⟨y250, hy250⟩ : ∃ y_ : List Int, y_ = (x240002_3 ++ [(wrap64 ((wrap64 ((wrap64 ((wrap64 (256 - t242)) * (wrap64 ((wrap64 ((wrap64 (256 - t245)) * t246)) + (wrap64 (t245 * t247)))))) + (wrap64 (t242 * (wrap64 ((wrap64 ((wrap64 (256 - t245)) * t248)) + (wrap64 (t245 * t249)))))))) + 32768)) / 65536]) := ⟨_, rfl⟩
       replace H : (impl_Resize.l1 k3 a1 a2 t240 t241 t242 a2 x32_2 a1 (wrap64 (x45_3 + 1)) a0_0 a0_1 l0_2 a1 a2 y250) = some (r1, r2, r3) := by first | (rw [hy250]; with_reducible exact H) | (have H2_ := (Option.bind_some _ _).symm.trans H; rw [hy250]; with_reducible exact H2_) | (have H2_ := (Option.bind_some _ _).symm.trans H; with_reducible exact H2_) | with_reducible exact H | (rw [hy250]; exact H) | exact H
       have Ny250 := Zam hy250
       clear hy250
       have H' := Zam H
       clear H
       have hnb36 := NB235_236.out
       have hnc36 := NB236_235.out
       have hnb37 := NB235_239.out
       have hnc37 := NB239_235.out
       have hcz38_0 : wr.cell? ⟨gb235, 0, none⟩ = some (.int .i64 a0_0) := (ZbC BK235.out 0).trans rfl
       have hcz38_1 : wr.cell? ⟨gb235, 1, none⟩ = some (.int .i64 a0_1) := (ZbC BK235.out 1).trans rfl
       have hcz38_2 : wr.cell? ⟨gb235, 2, none⟩ = some (.slice A0_2 l0_2.length c0_2) := (ZbC BK235.out 2).trans rfl
       have hfz38_0 := ZbF BK235.out 0
       have hfz38_1 := ZbF BK235.out 1
       have hfz38_2 := ZbF BK235.out 2
       try go_wp2_with (first | ((with_reducible refine gate_callee (f := 134) rfl ?_); refine goesL_ (some 53) rfl rfl Try.func134 (by kernel_rfl) rfl #[.int .i64 x45_3, .int .i64 a0_0, .int .i64 a1] rfl (by (try simp only [Zm1, Zm2, Zm3]); first | done | rfl | (simp only [ZlL, ZlT]; rfl)) ?_; (with_reducible refine (impl_place.calls x45_3 a0_0 a1 t243 t244 t245 _ A30.out).mono ?_); rintro e w39 ⟨rfl, hb⟩; refine ⟨_, rfl, ?_⟩; have n0_ := Zam (Kd.R_below (by (with_reducible repeat (first | apply ZrA | apply ZrW | apply ZrD)); exact HO_240002.out) hb); have n1_ := Zam (ZbB (g := gb235) (o := .cells #[.int .i64 a0_0, .int .i64 a0_1, .slice A0_2 l0_2.length c0_2] 82 (0, 0)) (by (with_reducible repeat (first | refine ZbW ?_ _ | refine ZbD ?_ | refine ZbA ?_ _)); exact BK235.out) hb); have n2_ := Zam (ZbB (g := gb236) (o := .cells #[.int .i64 0, .int .i64 0, .slice none 0 0] 82 (0, 0)) (by (with_reducible repeat (first | refine ZbW ?_ _ | refine ZbD ?_ | refine ZbA ?_ _)); exact BK236.out) hb); have n3_ := Zam (ZbB (g := gb239) (o := .cells #[.int .i64 a1, .int .i64 a2, u240002] 82 (0, 0)) (by (with_reducible repeat (first | refine ZbW ?_ _ | refine ZbD ?_ | refine ZbA ?_ _)); exact BK239.out) hb); have n4_ := Zam (ZbS (by repeat (first | (with_reducible first | exact HB.out | apply ZhA | apply ZhW | apply ZhD | refine ZhS ?_ GE235.out | refine ZhS ?_ GE236.out | refine ZhS ?_ GE239.out) | exact HB.out)) hb); clear HO_240002 BK235 BK236 BK239 HB; have HO_240002 := n0_; have BK235 := n1_; have BK236 := n2_; have BK239 := n3_; have HB := n4_; clear n0_ n1_ n2_ n3_ n4_; (try clear hb); (try clear hb2); (try clear hk); (try clear hi)))
       have n0_ := Zam (ZrD HO_240002.out)
       have n1_ := Zam (ZbD BK235.out)
       have n2_ := Zam (ZbD BK236.out)
       have n3_ := Zam (ZbD BK239.out)
       have n4_ := Zam (ZhD HB.out)
       clear HO_240002
       clear BK235
       clear BK236
       clear BK239
       clear HB
       have HO_240002 := n0_
       have BK235 := n1_
       have BK236 := n2_
       have BK239 := n3_
       have HB := n4_
       clear n0_ n1_ n2_ n3_ n4_
       refine start_ (n := 42) (S := fun w' => w'.cell? ⟨gb239, 0, none⟩ = some (.int .i64 a1) ∧ w'.cell? ⟨gb239, 1, none⟩ = some (.int .i64 a2) ∧ w'.cell? ⟨gb239, 2, none⟩ = some (u240002) ∧ w'.cell? ⟨gb235, 0, none⟩ = some (.int .i64 a0_0) ∧ w'.cell? ⟨gb235, 1, none⟩ = some (.int .i64 a0_1) ∧ w'.cell? ⟨gb235, 2, none⟩ = some (.slice A0_2 l0_2.length c0_2)) (ds := [41]) #[false, false, false, false, false, false, false, false, false, false, false, false, false, false, false, false, false, false, false, false, false, false, false, false, false, false, false, false, false, false, false, false, false, false, false, false, false, false, false, false, false, false] (by kernel_rfl) rfl rfl ⟨(ZbC BK239.out 0).trans rfl, (ZbC BK239.out 1).trans rfl, (ZbC BK239.out 2).trans rfl, (ZbC BK235.out 0).trans rfl, (ZbC BK235.out 1).trans rfl, (ZbC BK235.out 2).trans rfl⟩ (fun hHeld => ?_); refine with_tabW impl_Resize.tab13 impl_Resize.bits13 (fun HT_ HW_ => ?_)
       generalize w39.drew = w40 at HO_240002 BK235 BK236 BK239 HB hHeld ⊢
       refine pure_ (i := 0) (N := some 57) (v := ?_) (a' := ?_) #[true, false, false, false, false, false, false, false, false, false, false, false, false, false, false, false, false, false, false, false, false, false, false, false, false, false, false, false, false, false, false, false, false, false, false, false, false, false, false, false, false, false] rfl rfl (any_of HT_.out (by kernel_rfl)) (fun _ _ _ h => h) (Or.inl ⟨by rfl, ?_⟩) ?_ ?_
       rotate_left
       ·intro w'
        go_simp
        with_reducible rfl
       rotate_left
       ·simp only [Act.put, Zl1, Zl2, Zl3, i64_w, i32_w]
        rfl
       refine pure_ (i := 2) (N := some 59) (v := ?_) (a' := ?_) #[true, false, true, false, false, false, false, false, false, false, false, false, false, false, false, false, false, false, false, false, false, false, false, false, false, false, false, false, false, false, false, false, false, false, false, false, false, false, false, false, false, false] rfl rfl (any_of HT_.out (by kernel_rfl)) (fun _ _ _ h => h) (Or.inl ⟨by rfl, ?_⟩) ?_ ?_
       rotate_left
       ·intro w'
        go_simp
        with_reducible rfl
       rotate_left
       ·simp only [Act.put, Zl1, Zl2, Zl3, i64_w, i32_w]
        rfl
       refine pure_ (i := 3) (N := some 60) (v := ?_) (a' := ?_) #[true, false, true, true, false, false, false, false, false, false, false, false, false, false, false, false, false, false, false, false, false, false, false, false, false, false, false, false, false, false, false, false, false, false, false, false, false, false, false, false, false, false] rfl rfl (any_of HT_.out (by kernel_rfl)) (fun _ _ _ h => h) (Or.inl ⟨by rfl, ?_⟩) ?_ ?_
       rotate_left
       ·intro w'
        go_simp
        with_reducible rfl
       rotate_left
       ·simp only [Act.put, Zl1, Zl2, Zl3, i64_w, i32_w]
        rfl
       refine pure_ (i := 4) (N := some 61) (v := ?_) (a' := ?_) #[true, false, true, true, true, false, false, false, false, false, false, false, false, false, false, false, false, false, false, false, false, false, false, false, false, false, false, false, false, false, false, false, false, false, false, false, false, false, false, false, false, false] rfl rfl (any_of HT_.out (by kernel_rfl)) (fun _ _ _ h => h) (Or.inl ⟨by rfl, ?_⟩) ?_ ?_
       rotate_left
       ·intro w'
        go_simp
        with_reducible rfl
       rotate_left
       ·simp only [Act.put, Zl1, Zl2, Zl3, i64_w, i32_w]
        rfl
       refine pure_ (i := 5) (N := some 62) (v := ?_) (a' := ?_) #[true, false, true, true, true, true, false, false, false, false, false, false, false, false, false, false, false, false, false, false, false, false, false, false, false, false, false, false, false, false, false, false, false, false, false, false, false, false, false, false, false, false] rfl rfl (any_of HT_.out (by kernel_rfl)) (fun _ _ _ h => h) (Or.inl ⟨by rfl, ?_⟩) ?_ ?_
       rotate_left
       ·intro w'
        go_simp
        with_reducible rfl
       rotate_left
       ·simp only [Act.put, Zl1, Zl2, Zl3, i64_w, i32_w]
        rfl
       refine pure_ (i := 6) (N := some 63) (v := ?_) (a' := ?_) #[true, false, true, true, true, true, true, false, false, false, false, false, false, false, false, false, false, false, false, false, false, false, false, false, false, false, false, false, false, false, false, false, false, false, false, false, false, false, false, false, false, false] rfl rfl (any_of HT_.out (by kernel_rfl)) (fun _ _ _ h => h) (Or.inl ⟨by rfl, ?_⟩) ?_ ?_
       rotate_left
       ·intro w'
        go_simp
        with_reducible rfl
       rotate_left
       ·simp only [Act.put, Zl1, Zl2, Zl3, i64_w, i32_w]
        rfl
       refine pure_ (i := 7) (N := some 64) (v := ?_) (a' := ?_) #[true, false, true, true, true, true, true, true, false, false, false, false, false, false, false, false, false, false, false, false, false, false, false, false, false, false, false, false, false, false, false, false, false, false, false, false, false, false, false, false, false, false] rfl rfl (any_of HT_.out (by kernel_rfl)) (fun _ _ _ h => h) (Or.inl ⟨by rfl, ?_⟩) ?_ ?_
       rotate_left
       ·intro w'
        go_simp
        with_reducible rfl
       rotate_left
       ·simp only [Act.put, Zl1, Zl2, Zl3, i64_w, i32_w]
        rfl
       refine pure_ (i := 8) (N := some 65) (v := ?_) (a' := ?_) #[true, false, true, true, true, true, true, true, true, false, false, false, false, false, false, false, false, false, false, false, false, false, false, false, false, false, false, false, false, false, false, false, false, false, false, false, false, false, false, false, false, false] rfl rfl (any_of HT_.out (by kernel_rfl)) (fun _ _ _ h => h) (Or.inl ⟨by rfl, ?_⟩) ?_ ?_
       rotate_left
       ·intro w'
        go_simp
        with_reducible rfl
       rotate_left
       ·simp only [Act.put, Zl1, Zl2, Zl3, i64_w, i32_w]
        rfl
       refine pure_ (i := 11) (N := some 68) (v := ?_) (a' := ?_) #[true, false, true, true, true, true, true, true, true, false, false, true, false, false, false, false, false, false, false, false, false, false, false, false, false, false, false, false, false, false, false, false, false, false, false, false, false, false, false, false, false, false] rfl rfl (any_of HT_.out (by kernel_rfl)) (fun _ _ _ h => h) (Or.inl ⟨by rfl, ?_⟩) ?_ ?_
       rotate_left
       ·intro w'
        go_simp
        with_reducible rfl
       rotate_left
       ·simp only [Act.put, Zl1, Zl2, Zl3, i64_w, i32_w]
        rfl
       refine pure_ (i := 12) (N := some 69) (v := ?_) (a' := ?_) #[true, false, true, true, true, true, true, true, true, false, false, true, true, false, false, false, false, false, false, false, false, false, false, false, false, false, false, false, false, false, false, false, false, false, false, false, false, false, false, false, false, false] rfl rfl (any_of HT_.out (by kernel_rfl)) (fun _ _ _ h => h) (Or.inl ⟨by rfl, ?_⟩) ?_ ?_
       rotate_left
       ·intro w'
        go_simp
        with_reducible rfl
       rotate_left
       ·simp only [Act.put, Zl1, Zl2, Zl3, i64_w, i32_w]
        rfl
       refine pure_ (i := 13) (N := some 70) (v := ?_) (a' := ?_) #[true, false, true, true, true, true, true, true, true, false, false, true, true, true, false, false, false, false, false, false, false, false, false, false, false, false, false, false, false, false, false, false, false, false, false, false, false, false, false, false, false, false] rfl rfl (any_of HT_.out (by kernel_rfl)) (fun _ _ _ h => h) (Or.inl ⟨by rfl, ?_⟩) ?_ ?_
       rotate_left
       ·intro w'
        go_simp
        with_reducible rfl
       rotate_left
       ·simp only [Act.put, Zl1, Zl2, Zl3, i64_w, i32_w]
        rfl
       refine pure_ (i := 14) (N := some 71) (v := ?_) (a' := ?_) #[true, false, true, true, true, true, true, true, true, false, false, true, true, true, true, false, false, false, false, false, false, false, false, false, false, false, false, false, false, false, false, false, false, false, false, false, false, false, false, false, false, false] rfl rfl (any_of HT_.out (by kernel_rfl)) (fun _ _ _ h => h) (Or.inl ⟨by rfl, ?_⟩) ?_ ?_
       rotate_left
       ·intro w'
        go_simp
        with_reducible rfl
       rotate_left
       ·simp only [Act.put, Zl1, Zl2, Zl3, i64_w, i32_w]
        rfl
       refine pure_ (i := 19) (N := some 76) (v := ?_) (a' := ?_) #[true, false, true, true, true, true, true, true, true, false, false, true, true, true, true, false, false, false, false, true, false, false, false, false, false, false, false, false, false, false, false, false, false, false, false, false, false, false, false, false, false, false] rfl rfl (any_of HT_.out (by kernel_rfl)) (fun _ _ _ h => h) (Or.inl ⟨by rfl, ?_⟩) ?_ ?_
       rotate_left
       ·intro w'
        go_simp
        with_reducible rfl
       rotate_left
       ·simp only [Act.put, Zl1, Zl2, Zl3, i64_w, i32_w]
        rfl
       refine pure_ (i := 20) (N := some 77) (v := ?_) (a' := ?_) #[true, false, true, true, true, true, true, true, true, false, false, true, true, true, true, false, false, false, false, true, true, false, false, false, false, false, false, false, false, false, false, false, false, false, false, false, false, false, false, false, false, false] rfl rfl (any_of HT_.out (by kernel_rfl)) (fun _ _ _ h => h) (Or.inl ⟨by rfl, ?_⟩) ?_ ?_
       rotate_left
       ·intro w'
        go_simp
        with_reducible rfl
       rotate_left
       ·simp only [Act.put, Zl1, Zl2, Zl3, i64_w, i32_w]
        rfl
       refine pure_ (i := 21) (N := some 78) (v := ?_) (a' := ?_) #[true, false, true, true, true, true, true, true, true, false, false, true, true, true, true, false, false, false, false, true, true, true, false, false, false, false, false, false, false, false, false, false, false, false, false, false, false, false, false, false, false, false] rfl rfl (any_of HT_.out (by kernel_rfl)) (fun _ _ _ h => h) (Or.inl ⟨by rfl, ?_⟩) ?_ ?_
       rotate_left
       ·intro w'
        go_simp
        with_reducible rfl
       rotate_left
       ·simp only [Act.put, Zl1, Zl2, Zl3, i64_w, i32_w]
        rfl
       refine pure_ (i := 22) (N := some 79) (v := ?_) (a' := ?_) #[true, false, true, true, true, true, true, true, true, false, false, true, true, true, true, false, false, false, false, true, true, true, true, false, false, false, false, false, false, false, false, false, false, false, false, false, false, false, false, false, false, false] rfl rfl (any_of HT_.out (by kernel_rfl)) (fun _ _ _ h => h) (Or.inl ⟨by rfl, ?_⟩) ?_ ?_
       rotate_left
       ·intro w'
        go_simp
        with_reducible rfl
       rotate_left
       ·simp only [Act.put, Zl1, Zl2, Zl3, i64_w, i32_w]
        rfl
       refine pure_ (i := 23) (N := some 80) (v := ?_) (a' := ?_) #[true, false, true, true, true, true, true, true, true, false, false, true, true, true, true, false, false, false, false, true, true, true, true, true, false, false, false, false, false, false, false, false, false, false, false, false, false, false, false, false, false, false] rfl rfl (any_of HT_.out (by kernel_rfl)) (fun _ _ _ h => h) (Or.inl ⟨by rfl, ?_⟩) ?_ ?_
       rotate_left
       ·intro w'
        go_simp
        with_reducible rfl
       rotate_left
       ·simp only [Act.put, Zl1, Zl2, Zl3, i64_w, i32_w]
        rfl
       refine pure_ (i := 24) (N := some 81) (v := ?_) (a' := ?_) #[true, false, true, true, true, true, true, true, true, false, false, true, true, true, true, false, false, false, false, true, true, true, true, true, true, false, false, false, false, false, false, false, false, false, false, false, false, false, false, false, false, false] rfl rfl (any_of HT_.out (by kernel_rfl)) (fun _ _ _ h => h) (Or.inl ⟨by rfl, ?_⟩) ?_ ?_
       rotate_left
       ·intro w'
        go_simp
        with_reducible rfl
       rotate_left
       ·simp only [Act.put, Zl1, Zl2, Zl3, i64_w, i32_w]
        rfl
       refine pure_ (i := 27) (N := some 84) (v := ?_) (a' := ?_) #[true, false, true, true, true, true, true, true, true, false, false, true, true, true, true, false, false, false, false, true, true, true, true, true, true, false, false, true, false, false, false, false, false, false, false, false, false, false, false, false, false, false] rfl rfl (any_of HT_.out (by kernel_rfl)) (fun _ _ _ h => h) (Or.inl ⟨by rfl, ?_⟩) ?_ ?_
       rotate_left
       ·intro w'
        go_simp
        with_reducible rfl
       rotate_left
       ·simp only [Act.put, Zl1, Zl2, Zl3, i64_w, i32_w]
        rfl
       refine pure_ (i := 28) (N := some 85) (v := ?_) (a' := ?_) #[true, false, true, true, true, true, true, true, true, false, false, true, true, true, true, false, false, false, false, true, true, true, true, true, true, false, false, true, true, false, false, false, false, false, false, false, false, false, false, false, false, false] rfl rfl (any_of HT_.out (by kernel_rfl)) (fun _ _ _ h => h) (Or.inl ⟨by rfl, ?_⟩) ?_ ?_
       rotate_left
       ·intro w'
        go_simp
        with_reducible rfl
       rotate_left
       ·simp only [Act.put, Zl1, Zl2, Zl3, i64_w, i32_w]
        rfl
       refine pure_ (i := 29) (N := some 86) (v := ?_) (a' := ?_) #[true, false, true, true, true, true, true, true, true, false, false, true, true, true, true, false, false, false, false, true, true, true, true, true, true, false, false, true, true, true, false, false, false, false, false, false, false, false, false, false, false, false] rfl rfl (any_of HT_.out (by kernel_rfl)) (fun _ _ _ h => h) (Or.inl ⟨by rfl, ?_⟩) ?_ ?_
       rotate_left
       ·intro w'
        go_simp
        with_reducible rfl
       rotate_left
       ·simp only [Act.put, Zl1, Zl2, Zl3, i64_w, i32_w]
        rfl
       refine pure_ (i := 30) (N := some 87) (v := ?_) (a' := ?_) #[true, false, true, true, true, true, true, true, true, false, false, true, true, true, true, false, false, false, false, true, true, true, true, true, true, false, false, true, true, true, true, false, false, false, false, false, false, false, false, false, false, false] rfl rfl (any_of HT_.out (by kernel_rfl)) (fun _ _ _ h => h) (Or.inl ⟨by rfl, ?_⟩) ?_ ?_
       rotate_left
       ·intro w'
        go_simp
        with_reducible rfl
       rotate_left
       ·simp only [Act.put, Zl1, Zl2, Zl3, i64_w, i32_w]
        rfl
       refine take_ (i := 1) (N := some 58) (v := ?_) (a' := ?_) #[true, true, true, true, true, true, true, true, true, false, false, true, true, true, true, false, false, false, false, true, true, true, true, true, true, false, false, true, true, true, true, false, false, false, false, false, false, false, false, false, false, false] rfl rfl (take_ofW HT_.out HW_.out (by kernel_rfl)) (fun _ _ _ h => h) (Or.inl ⟨by rfl, ?_⟩) hHeld ?_ ?_
       rotate_left
       ·rintro w' ⟨s0, s1, s2, s3, s4, s5⟩
        go_simp
        with_reducible rfl
       rotate_left
       ·simp only [Act.put, Zl1, Zl2, Zl3, i64_w, i32_w]
        rfl
       refine one_ (i := 9) (N := some 66) #[true, true, true, true, true, true, true, true, true, true, false, true, true, true, true, false, false, false, false, true, true, true, true, true, true, false, false, true, true, true, true, false, false, false, false, false, false, false, false, false, false, false] rfl rfl (one_of HT_.out (by kernel_rfl)) (by decide) (fun K hK => ?_)
       refine goesC_ (n := 63) Try.func133 (by kernel_rfl) rfl #[.int .i64 t243, .int .i64 t240, .pointer (some ⟨gb235, 0, none⟩)] (by rfl) rfl rfl (by rfl) (by simp only [Zm1, Zm2, Zm3, List.append_toArray, List.cons_append, List.nil_append]; rfl) ?_
       with_reducible refine (impl_Resize_1.calls t243 t240 gb235 a0_0 a0_1 A0_2 c0_2 l0_2 t246 _ ?side3 ?side1 ?side2 A31.out).mono ?_
       (case side1 => repeat (first | exact (Kd.C_below HR0_2.out HB.out) | (with_reducible refine Kd.C_alloc ?_ _) | (with_reducible refine Kd.C_drewN ?_ _) | (with_reducible refine Kd.C_drew ?_)))
       (case side2 => exact HC0_2.out)
       (case side3 => exact by (with_reducible repeat (first | refine ZbW ?_ _ | refine ZbD ?_ | refine ZbA ?_ _)); exact BK235.out)
       rintro e w' ⟨rfl, ⟨nd, rfl⟩⟩
       refine ⟨_, rfl, ?_⟩
       refine hK.out _ _ ⟨(ZbC BK239.out 0).trans rfl, (ZbC BK239.out 1).trans rfl, (ZbC BK239.out 2).trans rfl, (ZbC BK235.out 0).trans rfl, (ZbC BK235.out 1).trans rfl, (ZbC BK235.out 2).trans rfl⟩ (fun hHeld => ?_)
       clear hK K
       refine norm_ (a' := ?_) ?_ ?_
       rotate_left
       ·show Act.put _ (some 66) _ = _
        simp only [Act.put, Zl1, Zl2, Zl3, i64_w, i32_w]
        rfl
       refine pure_ (i := 10) (N := some 67) (v := ?_) (a' := ?_) #[true, true, true, true, true, true, true, true, true, true, true, true, true, true, true, false, false, false, false, true, true, true, true, true, true, false, false, true, true, true, true, false, false, false, false, false, false, false, false, false, false, false] rfl rfl (any_of HT_.out (by kernel_rfl)) (fun _ _ _ h => h) (Or.inl ⟨by rfl, ?_⟩) ?_ ?_
       rotate_left
       ·intro w'
        go_simp
        with_reducible rfl
       rotate_left
       ·simp only [Act.put, Zl1, Zl2, Zl3, i64_w, i32_w]
        rfl
       refine one_ (i := 15) (N := some 72) #[true, true, true, true, true, true, true, true, true, true, true, true, true, true, true, true, false, false, false, true, true, true, true, true, true, false, false, true, true, true, true, false, false, false, false, false, false, false, false, false, false, false] rfl rfl (one_of HT_.out (by kernel_rfl)) (by decide) (fun K hK => ?_)
       refine goesC_ (n := 69) Try.func133 (by kernel_rfl) rfl #[.int .i64 t244, .int .i64 t240, .pointer (some ⟨gb235, 0, none⟩)] (by rfl) rfl rfl (by rfl) (by simp only [Zm1, Zm2, Zm3, List.append_toArray, List.cons_append, List.nil_append]; rfl) ?_
       with_reducible refine (impl_Resize_1.calls t244 t240 gb235 a0_0 a0_1 A0_2 c0_2 l0_2 t247 _ ?side3 ?side1 ?side2 A32.out).mono ?_
       (case side1 => repeat (first | exact (Kd.C_below HR0_2.out (by repeat (first | (with_reducible first | exact HB.out | apply ZhA | apply ZhW | apply ZhD | refine ZhS ?_ GE235.out | refine ZhS ?_ GE236.out | refine ZhS ?_ GE239.out) | exact HB.out))) | (with_reducible refine Kd.C_alloc ?_ _) | (with_reducible refine Kd.C_drewN ?_ _) | (with_reducible refine Kd.C_drew ?_)))
       (case side2 => exact HC0_2.out)
       (case side3 => exact by (with_reducible repeat (first | refine ZbW ?_ _ | refine ZbD ?_ | refine ZbA ?_ _)); exact BK235.out)
       rintro e w' ⟨rfl, ⟨nd, rfl⟩⟩
       refine ⟨_, rfl, ?_⟩
       refine hK.out _ _ ⟨(ZbC BK239.out 0).trans rfl, (ZbC BK239.out 1).trans rfl, (ZbC BK239.out 2).trans rfl, (ZbC BK235.out 0).trans rfl, (ZbC BK235.out 1).trans rfl, (ZbC BK235.out 2).trans rfl⟩ (fun hHeld => ?_)
       clear hK K
       refine norm_ (a' := ?_) ?_ ?_
       rotate_left
       ·show Act.put _ (some 72) _ = _
        simp only [Act.put, Zl1, Zl2, Zl3, i64_w, i32_w]
        rfl
       refine pure_ (i := 16) (N := some 73) (v := ?_) (a' := ?_) #[true, true, true, true, true, true, true, true, true, true, true, true, true, true, true, true, true, false, false, true, true, true, true, true, true, false, false, true, true, true, true, false, false, false, false, false, false, false, false, false, false, false] rfl rfl (any_of HT_.out (by kernel_rfl)) (fun _ _ _ h => h) (Or.inl ⟨by rfl, ?_⟩) ?_ ?_
       rotate_left
       ·intro w'
        go_simp
        with_reducible rfl
       rotate_left
       ·simp only [Act.put, Zl1, Zl2, Zl3, i64_w, i32_w]
        rfl
       refine pure_ (i := 17) (N := some 74) (v := ?_) (a' := ?_) #[true, true, true, true, true, true, true, true, true, true, true, true, true, true, true, true, true, true, false, true, true, true, true, true, true, false, false, true, true, true, true, false, false, false, false, false, false, false, false, false, false, false] rfl rfl (any_of HT_.out (by kernel_rfl)) (fun _ _ _ h => h) (Or.inl ⟨by rfl, ?_⟩) ?_ ?_
       rotate_left
       ·intro w'
        go_simp
        with_reducible rfl
       rotate_left
       ·simp only [Act.put, Zl1, Zl2, Zl3, i64_w, i32_w]
        rfl
       refine pure_ (i := 18) (N := some 75) (v := ?_) (a' := ?_) #[true, true, true, true, true, true, true, true, true, true, true, true, true, true, true, true, true, true, true, true, true, true, true, true, true, false, false, true, true, true, true, false, false, false, false, false, false, false, false, false, false, false] rfl rfl (any_of HT_.out (by kernel_rfl)) (fun _ _ _ h => h) (Or.inl ⟨by rfl, ?_⟩) ?_ ?_
       rotate_left
       ·intro w'
        go_simp
        with_reducible rfl
       rotate_left
       ·simp only [Act.put, Zl1, Zl2, Zl3, i64_w, i32_w]
        rfl
       refine one_ (i := 25) (N := some 82) #[true, true, true, true, true, true, true, true, true, true, true, true, true, true, true, true, true, true, true, true, true, true, true, true, true, true, false, true, true, true, true, false, false, false, false, false, false, false, false, false, false, false] rfl rfl (one_of HT_.out (by kernel_rfl)) (by decide) (fun K hK => ?_)
       refine goesC_ (n := 79) Try.func133 (by kernel_rfl) rfl #[.int .i64 t243, .int .i64 t241, .pointer (some ⟨gb235, 0, none⟩)] (by rfl) rfl rfl (by rfl) (by simp only [Zm1, Zm2, Zm3, List.append_toArray, List.cons_append, List.nil_append]; rfl) ?_
       with_reducible refine (impl_Resize_1.calls t243 t241 gb235 a0_0 a0_1 A0_2 c0_2 l0_2 t248 _ ?side3 ?side1 ?side2 A33.out).mono ?_
       (case side1 => repeat (first | exact (Kd.C_below HR0_2.out (by repeat (first | (with_reducible first | exact HB.out | apply ZhA | apply ZhW | apply ZhD | refine ZhS ?_ GE235.out | refine ZhS ?_ GE236.out | refine ZhS ?_ GE239.out) | exact HB.out))) | (with_reducible refine Kd.C_alloc ?_ _) | (with_reducible refine Kd.C_drewN ?_ _) | (with_reducible refine Kd.C_drew ?_)))
       (case side2 => exact HC0_2.out)
       (case side3 => exact by (with_reducible repeat (first | refine ZbW ?_ _ | refine ZbD ?_ | refine ZbA ?_ _)); exact BK235.out)
       rintro e w' ⟨rfl, ⟨nd, rfl⟩⟩
       refine ⟨_, rfl, ?_⟩
       refine hK.out _ _ ⟨(ZbC BK239.out 0).trans rfl, (ZbC BK239.out 1).trans rfl, (ZbC BK239.out 2).trans rfl, (ZbC BK235.out 0).trans rfl, (ZbC BK235.out 1).trans rfl, (ZbC BK235.out 2).trans rfl⟩ (fun hHeld => ?_)
       clear hK K
       refine norm_ (a' := ?_) ?_ ?_
       rotate_left
       ·show Act.put _ (some 82) _ = _
        simp only [Act.put, Zl1, Zl2, Zl3, i64_w, i32_w]
        rfl
       refine pure_ (i := 26) (N := some 83) (v := ?_) (a' := ?_) #[true, true, true, true, true, true, true, true, true, true, true, true, true, true, true, true, true, true, true, true, true, true, true, true, true, true, true, true, true, true, true, false, false, false, false, false, false, false, false, false, false, false] rfl rfl (any_of HT_.out (by kernel_rfl)) (fun _ _ _ h => h) (Or.inl ⟨by rfl, ?_⟩) ?_ ?_
       rotate_left
       ·intro w'
        go_simp
        with_reducible rfl
       rotate_left
       ·simp only [Act.put, Zl1, Zl2, Zl3, i64_w, i32_w]
        rfl
       refine one_ (i := 31) (N := some 88) #[true, true, true, true, true, true, true, true, true, true, true, true, true, true, true, true, true, true, true, true, true, true, true, true, true, true, true, true, true, true, true, true, false, false, false, false, false, false, false, false, false, false] rfl rfl (one_of HT_.out (by kernel_rfl)) (by decide) (fun K hK => ?_)
       refine goesC_ (n := 85) Try.func133 (by kernel_rfl) rfl #[.int .i64 t244, .int .i64 t241, .pointer (some ⟨gb235, 0, none⟩)] (by rfl) rfl rfl (by rfl) (by simp only [Zm1, Zm2, Zm3, List.append_toArray, List.cons_append, List.nil_append]; rfl) ?_
       with_reducible refine (impl_Resize_1.calls t244 t241 gb235 a0_0 a0_1 A0_2 c0_2 l0_2 t249 _ ?side3 ?side1 ?side2 A34.out).mono ?_
       (case side1 => repeat (first | exact (Kd.C_below HR0_2.out (by repeat (first | (with_reducible first | exact HB.out | apply ZhA | apply ZhW | apply ZhD | refine ZhS ?_ GE235.out | refine ZhS ?_ GE236.out | refine ZhS ?_ GE239.out) | exact HB.out))) | (with_reducible refine Kd.C_alloc ?_ _) | (with_reducible refine Kd.C_drewN ?_ _) | (with_reducible refine Kd.C_drew ?_)))
       (case side2 => exact HC0_2.out)
       (case side3 => exact by (with_reducible repeat (first | refine ZbW ?_ _ | refine ZbD ?_ | refine ZbA ?_ _)); exact BK235.out)
       rintro e w' ⟨rfl, ⟨nd, rfl⟩⟩
       refine ⟨_, rfl, ?_⟩
       refine hK.out _ _ ⟨(ZbC BK239.out 0).trans rfl, (ZbC BK239.out 1).trans rfl, (ZbC BK239.out 2).trans rfl, (ZbC BK235.out 0).trans rfl, (ZbC BK235.out 1).trans rfl, (ZbC BK235.out 2).trans rfl⟩ (fun hHeld => ?_)
       clear hK K
       refine norm_ (a' := ?_) ?_ ?_
       rotate_left
       ·show Act.put _ (some 88) _ = _
        simp only [Act.put, Zl1, Zl2, Zl3, i64_w, i32_w]
        rfl
       refine pure_ (i := 32) (N := some 89) (v := ?_) (a' := ?_) #[true, true, true, true, true, true, true, true, true, true, true, true, true, true, true, true, true, true, true, true, true, true, true, true, true, true, true, true, true, true, true, true, true, false, false, false, false, false, false, false, false, false] rfl rfl (any_of HT_.out (by kernel_rfl)) (fun _ _ _ h => h) (Or.inl ⟨by rfl, ?_⟩) ?_ ?_
       rotate_left
       ·intro w'
        go_simp
        with_reducible rfl
       rotate_left
       ·simp only [Act.put, Zl1, Zl2, Zl3, i64_w, i32_w]
        rfl
       refine pure_ (i := 33) (N := some 90) (v := ?_) (a' := ?_) #[true, true, true, true, true, true, true, true, true, true, true, true, true, true, true, true, true, true, true, true, true, true, true, true, true, true, true, true, true, true, true, true, true, true, false, false, false, false, false, false, false, false] rfl rfl (any_of HT_.out (by kernel_rfl)) (fun _ _ _ h => h) (Or.inl ⟨by rfl, ?_⟩) ?_ ?_
       rotate_left
       ·intro w'
        go_simp
        with_reducible rfl
       rotate_left
       ·simp only [Act.put, Zl1, Zl2, Zl3, i64_w, i32_w]
        rfl
       refine pure_ (i := 34) (N := some 91) (v := ?_) (a' := ?_) #[true, true, true, true, true, true, true, true, true, true, true, true, true, true, true, true, true, true, true, true, true, true, true, true, true, true, true, true, true, true, true, true, true, true, true, false, false, false, false, false, false, false] rfl rfl (any_of HT_.out (by kernel_rfl)) (fun _ _ _ h => h) (Or.inl ⟨by rfl, ?_⟩) ?_ ?_
       rotate_left
       ·intro w'
        go_simp
        with_reducible rfl
       rotate_left
       ·simp only [Act.put, Zl1, Zl2, Zl3, i64_w, i32_w]
        rfl
       refine pure_ (i := 35) (N := some 92) (v := ?_) (a' := ?_) #[true, true, true, true, true, true, true, true, true, true, true, true, true, true, true, true, true, true, true, true, true, true, true, true, true, true, true, true, true, true, true, true, true, true, true, true, false, false, false, false, false, false] rfl rfl (any_of HT_.out (by kernel_rfl)) (fun _ _ _ h => h) (Or.inl ⟨by rfl, ?_⟩) ?_ ?_
       rotate_left
       ·intro w'
        go_simp
        with_reducible rfl
       rotate_left
       ·simp only [Act.put, Zl1, Zl2, Zl3, i64_w, i32_w]
        rfl
       refine pure_ (i := 36) (N := some 93) (v := ?_) (a' := ?_) #[true, true, true, true, true, true, true, true, true, true, true, true, true, true, true, true, true, true, true, true, true, true, true, true, true, true, true, true, true, true, true, true, true, true, true, true, true, false, false, false, false, false] rfl rfl (any_of HT_.out (by kernel_rfl)) (fun _ _ _ h => h) (Or.inl ⟨by rfl, ?_⟩) ?_ ?_
       rotate_left
       ·intro w'
        go_simp
        with_reducible rfl
       rotate_left
       ·simp only [Act.put, Zl1, Zl2, Zl3, i64_w, i32_w]
        rfl
       refine pure_ (i := 37) (N := some 94) (v := ?_) (a' := ?_) #[true, true, true, true, true, true, true, true, true, true, true, true, true, true, true, true, true, true, true, true, true, true, true, true, true, true, true, true, true, true, true, true, true, true, true, true, true, true, false, false, false, false] rfl rfl (any_of HT_.out (by kernel_rfl)) (fun _ _ _ h => h) (Or.inl ⟨by rfl, ?_⟩) ?_ ?_
       rotate_left
       ·intro w'
        go_simp
        with_reducible rfl
       rotate_left
       ·simp only [Act.put, Zl1, Zl2, Zl3, i64_w, i32_w]
        rfl
       refine one_ (i := 38) (N := some 95) #[true, true, true, true, true, true, true, true, true, true, true, true, true, true, true, true, true, true, true, true, true, true, true, true, true, true, true, true, true, true, true, true, true, true, true, true, true, true, true, false, false, false] rfl rfl (one_of HT_.out (by kernel_rfl)) (by decide) (fun K hK => ?_)
       refine value_ (w1 := ?_) (v := ?_) (by rfl) rfl ?_ ?_
       rotate_left 2
       ·go_simp
        constructor
        ·rfl
        ·rfl
       refine hK.out _ _ ⟨(ZbC (ZbA BK239.out _) 0).trans rfl, (ZbC (ZbA BK239.out _) 1).trans rfl, (ZbC (ZbA BK239.out _) 2).trans rfl, (ZbC (ZbA BK235.out _) 0).trans rfl, (ZbC (ZbA BK235.out _) 1).trans rfl, (ZbC (ZbA BK235.out _) 2).trans rfl⟩ (fun hHeld => ?_)
       clear hK K
       refine norm_ (a' := ?_) ?_ ?_
       rotate_left
       ·show Act.put _ (some 95) _ = _
        simp only [Act.put, Zl1, Zl2, Zl3, i64_w, i32_w]
        rfl
       refine one_ (i := 39) (N := some 96) #[true, true, true, true, true, true, true, true, true, true, true, true, true, true, true, true, true, true, true, true, true, true, true, true, true, true, true, true, true, true, true, true, true, true, true, true, true, true, true, true, false, false] rfl rfl (one_of HT_.out (by kernel_rfl)) (by decide) (fun K hK => ?_)
       refine Kd.R_append_step (Kd.int .i64) (w0 := w) w.heap.size (by rfl) (.tmp 58) (.tmp 95) 22 3 (.int .i64 0) 8 rfl Try.underlying22 info3 rfl (by decide) (by omega) u240002 x240002_3 ((wrap64 ((wrap64 ((wrap64 ((wrap64 (256 - t242)) * (wrap64 ((wrap64 ((wrap64 (256 - t245)) * t246)) + (wrap64 (t245 * t247)))))) + (wrap64 (t242 * (wrap64 ((wrap64 ((wrap64 (256 - t245)) * t248)) + (wrap64 (t245 * t249)))))))) + 32768)) / 65536) [.int .i64 ((wrap64 ((wrap64 ((wrap64 ((wrap64 (256 - t242)) * (wrap64 ((wrap64 ((wrap64 (256 - t245)) * t246)) + (wrap64 (t245 * t247)))))) + (wrap64 (t242 * (wrap64 ((wrap64 ((wrap64 (256 - t245)) * t248)) + (wrap64 (t245 * t249)))))))) + 32768)) / 65536)] (fun _ => True) (fun _ => False) rfl rfl ?aP (fun _ hk => hk.elim) ?aF ?aO ?aB ?aS ?aL ?_
       (case aP => exact rfl)
       (case aB => exact (by repeat (first | (with_reducible first | exact HB.out | apply ZhA | apply ZhW | apply ZhD | refine ZhS ?_ GE235.out | refine ZhS ?_ GE236.out | refine ZhS ?_ GE239.out) | exact HB.out)))
       (case aF => exact (fun _ _ => trivial))
       (case aO => exact (by (with_reducible repeat (first | apply ZrA | apply ZrW | apply ZrD)); exact HO_240002.out))
       (case aS => exact (below_size (by repeat (first | (with_reducible first | exact HB.out | apply ZhA | apply ZhW | apply ZhD | refine ZhS ?_ GE235.out | refine ZhS ?_ GE236.out | refine ZhS ?_ GE239.out) | exact HB.out))))
       (case aL => have := LMc35.out; omega)
       intro v251 w41 ho hb hg hat
       rw [← Ny250.out] at ho
       have n0_ := Zam (blk_grown (g := gb235) (o := .cells #[.int .i64 a0_0, .int .i64 a0_1, .slice A0_2 l0_2.length c0_2] 82 (0, 0)) (by (with_reducible repeat (first | refine ZbW ?_ _ | refine ZbD ?_ | refine ZbA ?_ _)); exact BK235.out) hg (Kd.R_ne HO_240002.out BK235.out (by decide)))
       have n1_ := Zam (blk_grown (g := gb236) (o := .cells #[.int .i64 0, .int .i64 0, .slice none 0 0] 82 (0, 0)) (by (with_reducible repeat (first | refine ZbW ?_ _ | refine ZbD ?_ | refine ZbA ?_ _)); exact BK236.out) hg (Kd.R_ne HO_240002.out BK236.out (by decide)))
       have n2_ := Zam (blk_grown (g := gb239) (o := .cells #[.int .i64 a1, .int .i64 a2, u240002] 82 (0, 0)) (by (with_reducible repeat (first | refine ZbW ?_ _ | refine ZbD ?_ | refine ZbA ?_ _)); exact BK239.out) hg (Kd.R_ne HO_240002.out BK239.out (by decide)))
       have n3_ := Zam (hb)
       have n4_ := Zam (ho)
       clear BK235
       clear BK236
       clear BK239
       clear HB
       clear HO_240002
       have BK235 := n0_
       have BK236 := n1_
       have BK239 := n2_
       have HB := n3_
       have HO252 := n4_
       clear n0_ n1_ n2_ n3_ n4_
       clear ho hb hg hat
       obtain ⟨Ao42, co42, eo42⟩ := Kd.R_slice HO252.out
       (first | subst eo42 | (injection eo42 with f1_ f2_ f3_; have f4_ := f1_.symm; have f5_ := f3_.symm; clear f1_ f2_ f3_; subst f4_; subst f5_))
       refine hK.out _ _ ⟨(ZbC BK239.out 0).trans rfl, (ZbC BK239.out 1).trans rfl, (ZbC BK239.out 2).trans rfl, (ZbC BK235.out 0).trans rfl, (ZbC BK235.out 1).trans rfl, (ZbC BK235.out 2).trans rfl⟩ (fun hHeld => ?_)
       clear hK K
       refine norm_ (a' := ?_) ?_ ?_
       rotate_left
       ·show Act.put _ (some 96) _ = _
        simp only [Act.put, Zl1, Zl2, Zl3, i64_w, i32_w]
        rfl
       refine pure_ (i := 40) (N := some 97) (v := ?_) (a' := ?_) #[true, true, true, true, true, true, true, true, true, true, true, true, true, true, true, true, true, true, true, true, true, true, true, true, true, true, true, true, true, true, true, true, true, true, true, true, true, true, true, true, true, false] rfl rfl (any_of HT_.out (by kernel_rfl)) (fun _ _ _ h => h) (Or.inl ⟨by rfl, ?_⟩) ?_ ?_
       rotate_left
       ·intro w'
        go_simp
        with_reducible rfl
       rotate_left
       ·simp only [Act.put, Zl1, Zl2, Zl3, i64_w, i32_w]
        rfl
       refine last_ (i := 41) (N := none) #[true, true, true, true, true, true, true, true, true, true, true, true, true, true, true, true, true, true, true, true, true, true, true, true, true, true, true, true, true, true, true, true, true, true, true, true, true, true, true, true, true, true] rfl rfl (one_of HT_.out (by kernel_rfl)) (by decide) (fun K hK => ?_)
       have hs43 : w41.cell? ⟨gb239, 2, none⟩ = some (u240002) := (ZbC BK239.out 2).trans rfl
       have hfs43 := ZbF BK239.out 2
       have hns43_0 := NB235_239.out
       have hns43_1 := NB236_239.out
       have hms43_0 := NB239_235.out
       have hms43_1 := NB239_236.out
       refine skip_ (w1 := ?_) (by rfl) rfl ?_ ?_
       rotate_left
       ·go_simp
        rfl
       refine hK.out _ _ ?_
       clear hK K
       refine done_ (done_of HT_.out (by kernel_rfl)) ?_
       try go_wp2
       go_roundg k3
       case measure => have := HJ3.out; have := HK2.out; have := HK3.out; omega
       case rel => exact ⟨(wrap64 (x45_3 + 1)), (y250), (.slice Ao42 y250.length co42), (by first | rfl | (simp; done) | (simp [*]; done)), H', ⟨by have := HJ3.out; have := HK2.out; have := HK3.out; omega⟩, ⟨by (with_reducible repeat (first | apply ZrA | apply ZrW | apply ZrD)); exact Kd.R_mono (Kd.R_far (p := ⟨gb239, 2, none⟩) (Kd.R_types HO252.out BK239.out (by decide)) (fun _ hk => hk.2) (.slice Ao42 y250.length co42)) (fun _ hk => trivial)⟩, ⟨by (with_reducible repeat (first | refine ZbW ?_ _ | refine ZbD ?_ | refine ZbA ?_ _)); refine blk_far ?_ NB235_239.out _; (with_reducible repeat (first | refine ZbW ?_ _ | refine ZbD ?_ | refine ZbA ?_ _)); exact BK235.out⟩, ⟨by (with_reducible repeat (first | refine ZbW ?_ _ | refine ZbD ?_ | refine ZbA ?_ _)); refine blk_far ?_ NB236_239.out _; (with_reducible repeat (first | refine ZbW ?_ _ | refine ZbD ?_ | refine ZbA ?_ _)); exact BK236.out⟩, ⟨by (with_reducible repeat (first | refine ZbW ?_ _ | refine ZbD ?_ | refine ZbA ?_ _)); refine blk_put (cs := #[.int .i64 a1, .int .i64 a2, u240002]) ?_ 2 _ rfl; (with_reducible repeat (first | refine ZbW ?_ _ | refine ZbD ?_ | refine ZbA ?_ _)); exact BK239.out⟩, ⟨by repeat (first | (with_reducible first | exact HB.out | apply ZhA | apply ZhW | apply ZhD | refine ZhS ?_ GE235.out | refine ZhS ?_ GE236.out | refine ZhS ?_ GE239.out) | exact HB.out)⟩⟩

end Go.Proofs.Ytidblealnaicpaa.PFnSizes

-- written by myprint.py (a program of this session's over the kit's print)
import Derived.Test.YtidblealnaicpaaPFnSizesx0
import Derived.Test.YtidblealnaicpaaPFnSizesx3
import Derived.Test.YtidblealnaicpaaPFnSizesx4
import Derived.Test.YtidblealnaicpaaPFnSizesx11
namespace Go.Proofs.Ytidblealnaicpaa.PFnSizes
open Go.RowKit Go.Proofs.YtidblealnaicpaaW.PrintWords Go.Proofs.YtidblealnaicpaaW.PrintLast Go.Proofs.YtidblealnaicpaaW.PrintMore
attribute [local go_sem] max2_int min2_int max_two min_two max_three min_three max_four min_four   -- for this text's walks alone
set_option linter.unusedVariables false
set_option linter.unusedSimpArgs false

/-! ### spec_l7Grow: function 140 -/
mutual
def spec_l7Grow.l0 : Nat → Int → Int → Int → Int → Int → List Int → Int → Int → List Int → Option (Int × Int × List Int)
 | 0, _, _, _, _, _, _, _, _, _ => none
 | k + 1, x1, x2, x8, x307000, x307001, x307002, x309000, x309001, x309002 => if x8 < x2 then (spec_l7Grow.l1 k x1 x2 x8 0 x307000 x307001 x307002 x309000 x309001 x309002) else (some (x309000, x309001, x309002))
def spec_l7Grow.l1 : Nat → Int → Int → Int → Int → Int → Int → List Int → Int → Int → List Int → Option (Int × Int × List Int)
 | 0, _, _, _, _, _, _, _, _, _, _ => none
 | k + 1, x1, x2, x8, x9, x307000, x307001, x307002, x309000, x309001, x309002 => if x9 < x1 then ((spec_l7At.f k x307000 x307001 x307002 (wrap64 (Int.tdiv x9 2)) (wrap64 (Int.tdiv x8 2))).bind fun t309 => ((spec_l7At.f k x307000 x307001 x307002 (wrap64 ((wrap64 ((wrap64 (Int.tdiv x9 2)) - 1)) + (wrap64 ((Int.tmod x9 2) * 2)))) (wrap64 (Int.tdiv x8 2))).bind fun t310 => ((spec_l7At.f k x307000 x307001 x307002 (wrap64 (Int.tdiv x9 2)) (wrap64 ((wrap64 ((wrap64 (Int.tdiv x8 2)) - 1)) + (wrap64 ((Int.tmod x8 2) * 2))))).bind fun t311 => ((spec_l7At.f k x307000 x307001 x307002 (wrap64 ((wrap64 ((wrap64 (Int.tdiv x9 2)) - 1)) + (wrap64 ((Int.tmod x9 2) * 2)))) (wrap64 ((wrap64 ((wrap64 (Int.tdiv x8 2)) - 1)) + (wrap64 ((Int.tmod x8 2) * 2))))).bind fun t312 => (if x309002.length < 17592186044416 then (spec_l7Grow.l1 k x1 x2 x8 (wrap64 (x9 + 1)) x307000 x307001 x307002 x309000 x309001 (x309002 ++ [(wrap64 ((wrap64 ((wrap64 ((wrap64 ((wrap64 (9 * t309)) + (wrap64 (3 * t310)))) + (wrap64 (3 * t311)))) + t312)) + 8)) / 16])) else (none)))))) else (spec_l7Grow.l0 k x1 x2 (wrap64 (x8 + 1)) x307000 x307001 x307002 x309000 x309001 x309002)
end
def spec_l7Grow.f (k : Nat) (a0_0 : Int) (a0_1 : Int) (l0_2 : List Int) (a1 : Int) (a2 : Int) : Option (Int × Int × List Int) := spec_l7Grow.l0 k a1 a2 0 a0_0 a0_1 l0_2 a1 a2 ([] : List Int)
theorem spec_l7Grow.mono_l : ∀ k, (∀ y0 y1 y2 y3 y4 y5 y6 y7 y8, LeO (spec_l7Grow.l0 k y0 y1 y2 y3 y4 y5 y6 y7 y8) (spec_l7Grow.l0 (k + 1) y0 y1 y2 y3 y4 y5 y6 y7 y8)) ∧ (∀ y0 y1 y2 y3 y4 y5 y6 y7 y8 y9, LeO (spec_l7Grow.l1 k y0 y1 y2 y3 y4 y5 y6 y7 y8 y9) (spec_l7Grow.l1 (k + 1) y0 y1 y2 y3 y4 y5 y6 y7 y8 y9))
 | 0 => ⟨fun _ _ _ _ _ _ _ _ _ r h => by simp [spec_l7Grow.l0] at h, fun _ _ _ _ _ _ _ _ _ _ r h => by simp [spec_l7Grow.l1] at h⟩
 | k + 1 => by
  obtain ⟨ih0, ih1⟩ := spec_l7Grow.mono_l k
  refine ⟨?_, ?_⟩
  ·intro y0 y1 y2 y3 y4 y5 y6 y7 y8
   unfold spec_l7Grow.l0
   repeat' first
   | (with_reducible exact ih0 _ _ _ _ _ _ _ _ _)
   | (with_reducible exact ih1 _ _ _ _ _ _ _ _ _ _)
   | (with_reducible exact spec_l7At.mono _ _ _ _ _ _)
   | (with_reducible exact LeO.refl _)
   | (with_reducible exact LeO.none _)
   | (with_reducible refine LeO.ite ?_ ?_)
   | (with_reducible refine LeO.bind ?_ (fun _ => ?_))
   | exact ih0 _ _ _ _ _ _ _ _ _
   | exact ih1 _ _ _ _ _ _ _ _ _ _
   | exact spec_l7At.mono _ _ _ _ _ _
   | exact LeO.none _
   | refine LeO.ite ?_ ?_
   | refine LeO.bind ?_ (fun _ => ?_)
  ·intro y0 y1 y2 y3 y4 y5 y6 y7 y8 y9
   unfold spec_l7Grow.l1
   repeat' first
   | (with_reducible exact ih0 _ _ _ _ _ _ _ _ _)
   | (with_reducible exact ih1 _ _ _ _ _ _ _ _ _ _)
   | (with_reducible exact spec_l7At.mono _ _ _ _ _ _)
   | (with_reducible exact LeO.refl _)
   | (with_reducible exact LeO.none _)
   | (with_reducible refine LeO.ite ?_ ?_)
   | (with_reducible refine LeO.bind ?_ (fun _ => ?_))
   | exact ih0 _ _ _ _ _ _ _ _ _
   | exact ih1 _ _ _ _ _ _ _ _ _ _
   | exact spec_l7At.mono _ _ _ _ _ _
   | exact LeO.none _
   | refine LeO.ite ?_ ?_
   | refine LeO.bind ?_ (fun _ => ?_)
theorem spec_l7Grow.mono : ∀ a0 a1 a2 a3 a4 k, LeO (spec_l7Grow.f k a0 a1 a2 a3 a4) (spec_l7Grow.f (k + 1) a0 a1 a2 a3 a4) := by
 intro a0 a1 a2 a3 a4 k
 obtain ⟨ih0, ih1⟩ := spec_l7Grow.mono_l k
 unfold spec_l7Grow.f
 repeat' first
   | (with_reducible exact ih0 _ _ _ _ _ _ _ _ _)
   | (with_reducible exact ih1 _ _ _ _ _ _ _ _ _ _)
   | (with_reducible exact spec_l7At.mono _ _ _ _ _ _)
   | (with_reducible exact LeO.refl _)
   | (with_reducible exact LeO.none _)
   | (with_reducible refine LeO.ite ?_ ?_)
   | (with_reducible refine LeO.bind ?_ (fun _ => ?_))
   | exact ih0 _ _ _ _ _ _ _ _ _
   | exact ih1 _ _ _ _ _ _ _ _ _ _
   | exact spec_l7At.mono _ _ _ _ _ _
   | exact LeO.none _
   | refine LeO.ite ?_ ?_
   | refine LeO.bind ?_ (fun _ => ?_)
def spec_l7Grow.T12 : Bool × List (List Nat × List Nat) := (true, [([], []), ([], []), ([], []), ([0, 1, 2], [0, 1, 2]), ([3], [3]), ([], []), ([], []), ([], []), ([5, 6, 7, 3], [5, 6, 7]), ([8], [8]), ([4, 9], [4, 9]), ([], []), ([], []), ([], []), ([11, 12, 13, 8], [11, 12, 13]), ([14], [14]), ([10, 15], [10, 15]), ([], []), ([], []), ([], []), ([17, 18, 19, 14], [17, 18, 19]), ([16, 20], [16, 20]), ([21, 20, 0, 1, 2, 3, 4, 5, 6, 7, 8, 9, 10, 11, 12, 13, 14, 15, 16, 17, 18, 19, 20, 21], [21])])
def spec_l7Grow.B12 : List Nat := [0, 0, 0, 7, 15, 0, 0, 0, 239, 495, 1023, 0, 0, 0, 14831, 31215, 65535, 0, 0, 0, 948719, 2097151, 4194303]
theorem spec_l7Grow.tab12 : rtab .any (opsOf Try.f140 12) = spec_l7Grow.T12 := by kernel_rfl
theorem spec_l7Grow.bits12 : waitsOk spec_l7Grow.T12.2 spec_l7Grow.B12 = true := by kernel_rfl
set_option maxHeartbeats 8000000 in
set_option maxRecDepth 100000 in
theorem spec_l7Grow.calls (k : Nat) (a0_0 : Int) (a0_1 : Int) (A0_2 : Option Addr) (c0_2 : Nat) (l0_2 : List Int) (a1 : Int) (a2 : Int) (r1 : Int) (r2 : Int) (r3 : List Int) (w : World) (hr0_2 : Kd.C (Kd.int .i64) w A0_2 l0_2.length l0_2) (hc0_2 : l0_2.length ≤ c0_2) (h : spec_l7Grow.f k a0_0 a0_1 l0_2 a1 a2 = some (r1, r2, r3)) :
  Calls Try.prog 140 #[.agg #[.int .i64 a0_0, .int .i64 a0_1, .slice A0_2 l0_2.length c0_2], .int .i64 a1, .int .i64 a2] w fun e w' => ∃ v2_ : Value, e = .returned (.agg #[.int .i64 r1, .int .i64 r2, v2_]) ∧ Kd.R (Kd.int .i64) 3 w' w.heap.size (fun _ => True) v2_ r3 ∧ Below w.heap.size w w' := by
 have hu82 := Try.underlying82
 have HR0_2 := Zam hr0_2
 have HC0_2 := Zam hc0_2
 clear hr0_2 hc0_2
 have HB := Zam (Below.refl w.heap.size w)
 have H : (spec_l7Grow.l0 k a1 a2 0 a0_0 a0_1 l0_2 a1 a2 ([] : List Int)) = some (r1, r2, r3) := h
 clear h
 have H' := Zam H
 clear H
 go_enter Try.func140, Try.ntmps140
 go_wp2_with (first | ((with_reducible refine gate_dst (N := 3) rfl ?_); refine box_event ?hg (N := 3) ?hd (cs := #[.int .i64 a0_0, .int .i64 a0_1, .slice A0_2 l0_2.length c0_2]) (t := 82) ?hr ?_; (case hd => rfl); (case hg => rfl); (case hr => first | (go_simp; done) | (go_simp; rfl)); intro gb306 hg w4 hbox hb; have n0_ := Zam (ZbS (by repeat (first | (with_reducible first | exact HB.out | apply ZhA | apply ZhW | apply ZhD) | exact HB.out)) hb); have n1_ := Zam (hbox); have n2_ := Zam ((by rw [hg]; exact (below_size (by repeat (first | (with_reducible first | exact HB.out | apply ZhA | apply ZhW | apply ZhD) | exact HB.out))) : w.heap.size ≤ gb306)); have n3_ := n2_; clear HB; have HB := n0_; have BK306 := n1_; have GW306 := n2_; have GE306 := n3_; clear n0_ n1_ n2_ n3_; clear hb hbox hg) | ((with_reducible refine gate_dst (N := 6) rfl ?_); refine box_event ?hg (N := 6) ?hd (cs := #[.int .i64 0, .int .i64 0, .slice none 0 0]) (t := 82) ?hr ?_; (case hd => rfl); (case hg => rfl); (case hr => first | (go_simp; done) | (go_simp; rfl)); intro gb307 hg w5 hbox hb; have n0_ := Zam (ZbB (g := gb306) (o := .cells #[.int .i64 a0_0, .int .i64 a0_1, .slice A0_2 l0_2.length c0_2] 82 (0, 0)) (by (with_reducible repeat (first | refine ZbW ?_ _ | refine ZbD ?_ | refine ZbA ?_ _)); exact BK306.out) hb); have n1_ := Zam (ZbS (by repeat (first | (with_reducible first | exact HB.out | apply ZhA | apply ZhW | apply ZhD | refine ZhS ?_ GE306.out) | exact HB.out)) hb); have n2_ := Zam (hbox); have n3_ := Zam ((by rw [hg]; exact (below_size (by repeat (first | (with_reducible first | exact HB.out | apply ZhA | apply ZhW | apply ZhD | refine ZhS ?_ GE306.out) | exact HB.out))) : w.heap.size ≤ gb307)); have n4_ := n3_; have n5_ := Zam ((by rw [hg]; exact Nat.ne_of_lt (blk_lt (g := gb306) (o := .cells #[.int .i64 a0_0, .int .i64 a0_1, .slice A0_2 l0_2.length c0_2] 82 (0, 0)) (by (with_reducible repeat (first | refine ZbW ?_ _ | refine ZbD ?_ | refine ZbA ?_ _)); exact BK306.out)) : gb306 ≠ gb307)); have n6_ := Zam ((by rw [hg]; exact Nat.ne_of_gt (blk_lt (g := gb306) (o := .cells #[.int .i64 a0_0, .int .i64 a0_1, .slice A0_2 l0_2.length c0_2] 82 (0, 0)) (by (with_reducible repeat (first | refine ZbW ?_ _ | refine ZbD ?_ | refine ZbA ?_ _)); exact BK306.out)) : gb307 ≠ gb306)); clear BK306 HB; have BK306 := n0_; have HB := n1_; have BK307 := n2_; have GW307 := n3_; have GE307 := n4_; have NB306_307 := n5_; have NB307_306 := n6_; clear n0_ n1_ n2_ n3_ n4_ n5_ n6_; clear hb hbox hg) | ((with_reducible refine gate_dst (N := 7) rfl ?_); refine box_event ?hg (N := 7) ?hd (cs := #[.int .i64 0, .int .i64 0, .slice none 0 0]) (t := 82) ?hr ?_; (case hd => rfl); (case hg => rfl); (case hr => first | (go_simp; done) | (go_simp; rfl)); intro gb308 hg w6 hbox hb; have n0_ := Zam (ZbB (g := gb306) (o := .cells #[.int .i64 a0_0, .int .i64 a0_1, .slice A0_2 l0_2.length c0_2] 82 (0, 0)) (by (with_reducible repeat (first | refine ZbW ?_ _ | refine ZbD ?_ | refine ZbA ?_ _)); exact BK306.out) hb); have n1_ := Zam (ZbB (g := gb307) (o := .cells #[.int .i64 0, .int .i64 0, .slice none 0 0] 82 (0, 0)) (by (with_reducible repeat (first | refine ZbW ?_ _ | refine ZbD ?_ | refine ZbA ?_ _)); exact BK307.out) hb); have n2_ := Zam (ZbS (by repeat (first | (with_reducible first | exact HB.out | apply ZhA | apply ZhW | apply ZhD | refine ZhS ?_ GE306.out | refine ZhS ?_ GE307.out) | exact HB.out)) hb); have n3_ := Zam (hbox); have n4_ := Zam ((by rw [hg]; exact (below_size (by repeat (first | (with_reducible first | exact HB.out | apply ZhA | apply ZhW | apply ZhD | refine ZhS ?_ GE306.out | refine ZhS ?_ GE307.out) | exact HB.out))) : w.heap.size ≤ gb308)); have n5_ := n4_; have n6_ := Zam ((by rw [hg]; exact Nat.ne_of_lt (blk_lt (g := gb306) (o := .cells #[.int .i64 a0_0, .int .i64 a0_1, .slice A0_2 l0_2.length c0_2] 82 (0, 0)) (by (with_reducible repeat (first | refine ZbW ?_ _ | refine ZbD ?_ | refine ZbA ?_ _)); exact BK306.out)) : gb306 ≠ gb308)); have n7_ := Zam ((by rw [hg]; exact Nat.ne_of_gt (blk_lt (g := gb306) (o := .cells #[.int .i64 a0_0, .int .i64 a0_1, .slice A0_2 l0_2.length c0_2] 82 (0, 0)) (by (with_reducible repeat (first | refine ZbW ?_ _ | refine ZbD ?_ | refine ZbA ?_ _)); exact BK306.out)) : gb308 ≠ gb306)); have n8_ := Zam ((by rw [hg]; exact Nat.ne_of_lt (blk_lt (g := gb307) (o := .cells #[.int .i64 0, .int .i64 0, .slice none 0 0] 82 (0, 0)) (by (with_reducible repeat (first | refine ZbW ?_ _ | refine ZbD ?_ | refine ZbA ?_ _)); exact BK307.out)) : gb307 ≠ gb308)); have n9_ := Zam ((by rw [hg]; exact Nat.ne_of_gt (blk_lt (g := gb307) (o := .cells #[.int .i64 0, .int .i64 0, .slice none 0 0] 82 (0, 0)) (by (with_reducible repeat (first | refine ZbW ?_ _ | refine ZbD ?_ | refine ZbA ?_ _)); exact BK307.out)) : gb308 ≠ gb307)); clear BK306 BK307 HB; have BK306 := n0_; have BK307 := n1_; have HB := n2_; have BK308 := n3_; have GW308 := n4_; have GE308 := n5_; have NB306_308 := n6_; have NB308_306 := n7_; have NB307_308 := n8_; have NB308_307 := n9_; clear n0_ n1_ n2_ n3_ n4_ n5_ n6_ n7_ n8_ n9_; clear hb hbox hg; have hnb7 := NB308_306.out; have hnc7 := NB306_308.out; have hnb8 := NB308_307.out; have hnc8 := NB307_308.out; have hcz9_0 : w6.cell? ⟨gb308, 0, none⟩ = some (.int .i64 0) := (ZbC BK308.out 0).trans rfl; have hcz9_1 : w6.cell? ⟨gb308, 1, none⟩ = some (.int .i64 0) := (ZbC BK308.out 1).trans rfl; have hcz9_2 : w6.cell? ⟨gb308, 2, none⟩ = some (.slice none 0 0) := (ZbC BK308.out 2).trans rfl; have hfz9_0 := ZbF BK308.out 0; have hfz9_1 := ZbF BK308.out 1; have hfz9_2 := ZbF BK308.out 2))
 go_loopg [8] k (fun kq v8 w' => ∃ (x8_1 : Int) (x309002_1 : List Int) (u309002 : Value), v8 = .int .i64 x8_1 ∧ Aside0 (spec_l7Grow.l0 kq a1 a2 x8_1 a0_0 a0_1 l0_2 a1 a2 x309002_1 = some (r1, r2, r3)) ∧ Aside0 (kq ≤ k) ∧ Aside0 (Kd.R (Kd.int .i64) 3 w' w.heap.size (fun _ => True) u309002 x309002_1) ∧ Aside0 (w'.heap[gb306]? = some (.cells #[.int .i64 a0_0, .int .i64 a0_1, (.slice A0_2 l0_2.length c0_2)] 82 (0, 0))) ∧ Aside0 (w'.heap[gb307]? = some (.cells #[.int .i64 0, .int .i64 0, (.slice none 0 0)] 82 (0, 0))) ∧ Aside0 (w'.heap[gb308]? = some (.cells #[.int .i64 a1, .int .i64 a2, u309002] 82 (0, 0))) ∧ Aside0 (Below w.heap.size w w'))
 case atStart => exact ⟨(0), (([] : List Int)), (.slice none 0 0), (by first | rfl | (simp; done) | (simp [*]; done)), H', ⟨Nat.le_refl _⟩, ⟨by first | exact Kd.R_nil _ _ _ _ _ | exact Kd.N_nil _ _ _ _ _ | exact Kd.V_nil _ _ _ _ _ | exact Kd.Q_nil _ _ _ _ _ | exact Kd.S_nil _ _ _ _ _⟩, ⟨by (with_reducible repeat (first | refine ZbW ?_ _ | refine ZbD ?_ | refine ZbA ?_ _)); refine blk_far ?_ NB306_308.out _; (with_reducible repeat (first | refine ZbW ?_ _ | refine ZbD ?_ | refine ZbA ?_ _)); refine blk_far ?_ NB306_308.out _; (with_reducible repeat (first | refine ZbW ?_ _ | refine ZbD ?_ | refine ZbA ?_ _)); refine blk_far ?_ NB306_308.out _; (with_reducible repeat (first | refine ZbW ?_ _ | refine ZbD ?_ | refine ZbA ?_ _)); exact BK306.out⟩, ⟨by (with_reducible repeat (first | refine ZbW ?_ _ | refine ZbD ?_ | refine ZbA ?_ _)); refine blk_far ?_ NB307_308.out _; (with_reducible repeat (first | refine ZbW ?_ _ | refine ZbD ?_ | refine ZbA ?_ _)); refine blk_far ?_ NB307_308.out _; (with_reducible repeat (first | refine ZbW ?_ _ | refine ZbD ?_ | refine ZbA ?_ _)); refine blk_far ?_ NB307_308.out _; (with_reducible repeat (first | refine ZbW ?_ _ | refine ZbD ?_ | refine ZbA ?_ _)); exact BK307.out⟩, ⟨by (with_reducible repeat (first | refine ZbW ?_ _ | refine ZbD ?_ | refine ZbA ?_ _)); refine blk_put (cs := #[.int .i64 a1, .int .i64 a2, .slice none 0 0]) ?_ 2 _ rfl; (with_reducible repeat (first | refine ZbW ?_ _ | refine ZbD ?_ | refine ZbA ?_ _)); refine blk_put (cs := #[.int .i64 a1, .int .i64 0, .slice none 0 0]) ?_ 1 _ rfl; (with_reducible repeat (first | refine ZbW ?_ _ | refine ZbD ?_ | refine ZbA ?_ _)); refine blk_put (cs := #[.int .i64 0, .int .i64 0, .slice none 0 0]) ?_ 0 _ rfl; (with_reducible repeat (first | refine ZbW ?_ _ | refine ZbD ?_ | refine ZbA ?_ _)); exact BK308.out⟩, ⟨by repeat (first | (with_reducible first | exact HB.out | apply ZhA | apply ZhW | apply ZhD | refine ZhS ?_ GE306.out | refine ZhS ?_ GE307.out | refine ZhS ?_ GE308.out) | exact HB.out)⟩⟩
 case round =>
  clear H'
  try clear c1
  try clear p2
  try clear c7
  try clear c8
  try clear hcz9_0
  try clear hcz9_1
  try clear hcz9_2
  try clear hfz9_0
  try clear hfz9_1
  try clear hfz9_2
  obtain ⟨x8_1, x309002_1, u309002, rfl, HA, HK1, HO_309002, BK306, BK307, BK308, HB⟩ := hrel
  cases gk with
  | zero => exact absurd HA.out (by simp [spec_l7Grow.l0])
  | succ k1 =>
   have H := HA.out
   clear HA
   simp only [spec_l7Grow.l0] at H
   by_cases c10 : x8_1 < a2
   rotate_left
   ·rw [if_neg c10] at H
    have c10b0 : decide (x8_1 < a2) = false := decide_eq_false c10
    clear c10
    simp only [Option.some.injEq, Prod.mk.injEq] at H
    obtain ⟨rfl, rfl, rfl⟩ := H
    have hnb28 := NB308_306.out
    have hnc28 := NB306_308.out
    have hnb29 := NB308_307.out
    have hnc29 := NB307_308.out
    have hcz30_0 : wr.cell? ⟨gb308, 0, none⟩ = some (.int .i64 a1) := (ZbC BK308.out 0).trans rfl
    have hcz30_1 : wr.cell? ⟨gb308, 1, none⟩ = some (.int .i64 a2) := (ZbC BK308.out 1).trans rfl
    have hcz30_2 : wr.cell? ⟨gb308, 2, none⟩ = some (u309002) := (ZbC BK308.out 2).trans rfl
    have hfz30_0 := ZbF BK308.out 0
    have hfz30_1 := ZbF BK308.out 1
    have hfz30_2 := ZbF BK308.out 2
    have hnb31 := NB307_306.out
    have hnc31 := NB306_307.out
    have hcz32_0 : wr.cell? ⟨gb307, 0, none⟩ = some (.int .i64 0) := (ZbC BK307.out 0).trans rfl
    have hcz32_1 : wr.cell? ⟨gb307, 1, none⟩ = some (.int .i64 0) := (ZbC BK307.out 1).trans rfl
    have hcz32_2 : wr.cell? ⟨gb307, 2, none⟩ = some (.slice none 0 0) := (ZbC BK307.out 2).trans rfl
    have hfz32_0 := ZbF BK307.out 0
    have hfz32_1 := ZbF BK307.out 1
    have hfz32_2 := ZbF BK307.out 2
    obtain ⟨Ao33, co33, eo33⟩ := Kd.R_slice HO_309002.out
    subst eo33
    go_wp2
    refine bodyPost_ret (results_cell_row rfl _ _ gb307 82 #[.int .i64 a1, .int .i64 a2, .slice Ao33 x309002_1.length co33] (0, 0) _ rfl (set3_blk BK307.out) Try.underlying82 rfl (by kernel_rfl)) rfl ?_
    exact ⟨_, by first | rfl | (simp [*, errW_none, errW_some] <;> rfl), by (with_reducible repeat (first | apply ZrA | apply ZrW | apply ZrD)); exact Kd.R_mono (set3_R (Kd.R_types HO_309002.out BK307.out (by decide)) (fun _ hk => hk.2)) (fun _ hk => trivial), by repeat (first | (with_reducible first | exact HB.out | apply ZhA | apply ZhW | apply ZhD | refine ZhS ?_ GE306.out | refine ZhS ?_ GE307.out | refine ZhS ?_ GE308.out) | exact HB.out)⟩
   rw [if_pos c10] at H
   have c10b0 : decide (x8_1 < a2) = true := decide_eq_true c10
   clear c10
   have H' := Zam H
   clear H
   go_wp2
   go_loopg [9] k1 (fun kq v9 w' => ∃ (x9_2 : Int) (x309002_2 : List Int) (u309002 : Value), v9 = .int .i64 x9_2 ∧ Aside0 (spec_l7Grow.l1 kq a1 a2 x8_1 x9_2 a0_0 a0_1 l0_2 a1 a2 x309002_2 = some (r1, r2, r3)) ∧ Aside0 (kq ≤ k1) ∧ Aside0 (Kd.R (Kd.int .i64) 3 w' w.heap.size (fun _ => True) u309002 x309002_2) ∧ Aside0 (w'.heap[gb306]? = some (.cells #[.int .i64 a0_0, .int .i64 a0_1, (.slice A0_2 l0_2.length c0_2)] 82 (0, 0))) ∧ Aside0 (w'.heap[gb307]? = some (.cells #[.int .i64 0, .int .i64 0, (.slice none 0 0)] 82 (0, 0))) ∧ Aside0 (w'.heap[gb308]? = some (.cells #[.int .i64 a1, .int .i64 a2, u309002] 82 (0, 0))) ∧ Aside0 (Below w.heap.size w w'))
   case atStart => exact ⟨(0), (x309002_1), (u309002), (by first | rfl | (simp; done) | (simp [*]; done)), H', ⟨Nat.le_refl _⟩, ⟨by (with_reducible repeat (first | apply ZrA | apply ZrW | apply ZrD)); exact HO_309002.out⟩, ⟨by (with_reducible repeat (first | refine ZbW ?_ _ | refine ZbD ?_ | refine ZbA ?_ _)); exact BK306.out⟩, ⟨by (with_reducible repeat (first | refine ZbW ?_ _ | refine ZbD ?_ | refine ZbA ?_ _)); exact BK307.out⟩, ⟨by (with_reducible repeat (first | refine ZbW ?_ _ | refine ZbD ?_ | refine ZbA ?_ _)); exact BK308.out⟩, ⟨by repeat (first | (with_reducible first | exact HB.out | apply ZhA | apply ZhW | apply ZhD | refine ZhS ?_ GE306.out | refine ZhS ?_ GE307.out | refine ZhS ?_ GE308.out) | exact HB.out)⟩⟩
   case round =>
    clear H'
    try clear c1
    try clear p2
    try clear c7
    try clear c8
    try clear c10
    try clear c10b0
    try clear hcz9_0
    try clear hcz9_1
    try clear hcz9_2
    try clear hfz9_0
    try clear hfz9_1
    try clear hfz9_2
    try clear p2
    obtain ⟨x9_2, x309002_2, u309002, rfl, HA, HK2, HO_309002, BK306, BK307, BK308, HB⟩ := hrel
    cases gk with
    | zero => exact absurd HA.out (by simp [spec_l7Grow.l1])
    | succ k2 =>
     have H := HA.out
     clear HA
     simp only [spec_l7Grow.l1] at H
     by_cases c11 : x9_2 < a1
     rotate_left
     ·rw [if_neg c11] at H
      have c11b0 : decide (x9_2 < a1) = false := decide_eq_false c11
      clear c11
      have H' := Zam H
      clear H
      go_wp2
      go_roundg k2
      case measure => have := HK1.out; have := HK2.out; omega
      case rel => exact ⟨(wrap64 (x8_1 + 1)), (x309002_2), (u309002), (by first | rfl | (simp; done) | (simp [*]; done)), H', ⟨by have := HK1.out; have := HK2.out; omega⟩, ⟨by (with_reducible repeat (first | apply ZrA | apply ZrW | apply ZrD)); exact HO_309002.out⟩, ⟨by (with_reducible repeat (first | refine ZbW ?_ _ | refine ZbD ?_ | refine ZbA ?_ _)); exact BK306.out⟩, ⟨by (with_reducible repeat (first | refine ZbW ?_ _ | refine ZbD ?_ | refine ZbA ?_ _)); exact BK307.out⟩, ⟨by (with_reducible repeat (first | refine ZbW ?_ _ | refine ZbD ?_ | refine ZbA ?_ _)); exact BK308.out⟩, ⟨by repeat (first | (with_reducible first | exact HB.out | apply ZhA | apply ZhW | apply ZhD | refine ZhS ?_ GE306.out | refine ZhS ?_ GE307.out | refine ZhS ?_ GE308.out) | exact HB.out)⟩⟩
     rw [if_pos c11] at H
     have c11b0 : decide (x9_2 < a1) = true := decide_eq_true c11
     clear c11
     replace H := Zob.mp H
     obtain ⟨t309, A120, H⟩ := H
     replace H : ((spec_l7At.f k2 a0_0 a0_1 l0_2 (wrap64 ((wrap64 ((wrap64 (Int.tdiv x9_2 2)) - 1)) + (wrap64 ((Int.tmod x9_2 2) * 2)))) (wrap64 (Int.tdiv x8_1 2))).bind fun t310 => ((spec_l7At.f k2 a0_0 a0_1 l0_2 (wrap64 (Int.tdiv x9_2 2)) (wrap64 ((wrap64 ((wrap64 (Int.tdiv x8_1 2)) - 1)) + (wrap64 ((Int.tmod x8_1 2) * 2))))).bind fun t311 => ((spec_l7At.f k2 a0_0 a0_1 l0_2 (wrap64 ((wrap64 ((wrap64 (Int.tdiv x9_2 2)) - 1)) + (wrap64 ((Int.tmod x9_2 2) * 2)))) (wrap64 ((wrap64 ((wrap64 (Int.tdiv x8_1 2)) - 1)) + (wrap64 ((Int.tmod x8_1 2) * 2))))).bind fun t312 => (if x309002_2.length < 17592186044416 then (spec_l7Grow.l1 k2 a1 a2 x8_1 (wrap64 (x9_2 + 1)) a0_0 a0_1 l0_2 a1 a2 (x309002_2 ++ [(wrap64 ((wrap64 ((wrap64 ((wrap64 ((wrap64 (9 * t309)) + (wrap64 (3 * t310)))) + (wrap64 (3 * t311)))) + t312)) + 8)) / 16])) else (none))))) = some (r1, r2, r3) := H
     have A12 := Zam A120
     clear A120
     replace H := Zob.mp H
     obtain ⟨t310, A130, H⟩ := H
     replace H : ((spec_l7At.f k2 a0_0 a0_1 l0_2 (wrap64 (Int.tdiv x9_2 2)) (wrap64 ((wrap64 ((wrap64 (Int.tdiv x8_1 2)) - 1)) + (wrap64 ((Int.tmod x8_1 2) * 2))))).bind fun t311 => ((spec_l7At.f k2 a0_0 a0_1 l0_2 (wrap64 ((wrap64 ((wrap64 (Int.tdiv x9_2 2)) - 1)) + (wrap64 ((Int.tmod x9_2 2) * 2)))) (wrap64 ((wrap64 ((wrap64 (Int.tdiv x8_1 2)) - 1)) + (wrap64 ((Int.tmod x8_1 2) * 2))))).bind fun t312 => (if x309002_2.length < 17592186044416 then (spec_l7Grow.l1 k2 a1 a2 x8_1 (wrap64 (x9_2 + 1)) a0_0 a0_1 l0_2 a1 a2 (x309002_2 ++ [(wrap64 ((wrap64 ((wrap64 ((wrap64 ((wrap64 (9 * t309)) + (wrap64 (3 * t310)))) + (wrap64 (3 * t311)))) + t312)) + 8)) / 16])) else (none)))) = some (r1, r2, r3) := H
     have A13 := Zam A130
     clear A130
     replace H := Zob.mp H
     obtain ⟨t311, A140, H⟩ := H
     replace H : ((spec_l7At.f k2 a0_0 a0_1 l0_2 (wrap64 ((wrap64 ((wrap64 (Int.tdiv x9_2 2)) - 1)) + (wrap64 ((Int.tmod x9_2 2) * 2)))) (wrap64 ((wrap64 ((wrap64 (Int.tdiv x8_1 2)) - 1)) + (wrap64 ((Int.tmod x8_1 2) * 2))))).bind fun t312 => (if x309002_2.length < 17592186044416 then (spec_l7Grow.l1 k2 a1 a2 x8_1 (wrap64 (x9_2 + 1)) a0_0 a0_1 l0_2 a1 a2 (x309002_2 ++ [(wrap64 ((wrap64 ((wrap64 ((wrap64 ((wrap64 (9 * t309)) + (wrap64 (3 * t310)))) + (wrap64 (3 * t311)))) + t312)) + 8)) / 16])) else (none))) = some (r1, r2, r3) := H
     have A14 := Zam A140
     clear A140
     replace H := Zob.mp H
     obtain ⟨t312, A150, H⟩ := H
     replace H : (if x309002_2.length < 17592186044416 then (spec_l7Grow.l1 k2 a1 a2 x8_1 (wrap64 (x9_2 + 1)) a0_0 a0_1 l0_2 a1 a2 (x309002_2 ++ [(wrap64 ((wrap64 ((wrap64 ((wrap64 ((wrap64 (9 * t309)) + (wrap64 (3 * t310)))) + (wrap64 (3 * t311)))) + t312)) + 8)) / 16])) else (none)) = some (r1, r2, r3) := H
     have A15 := Zam A150
     clear A150
     by_cases c16 : x309002_2.length < 17592186044416
     rotate_left
     ·rw [if_neg c16] at H
      exact absurd H (by simp)
     rw [if_pos c16] at H
     have LMc16 := Zam c16
     clear c16
     obtain ⟨y313, hy313⟩ : ∃ y_ : List Int, y_ = (x309002_2 ++ [(wrap64 ((wrap64 ((wrap64 ((wrap64 ((wrap64 (9 * t309)) + (wrap64 (3 * t310)))) + (wrap64 (3 * t311)))) + t312)) + 8)) / 16]) := ⟨_, rfl⟩
     replace H : (spec_l7Grow.l1 k2 a1 a2 x8_1 (wrap64 (x9_2 + 1)) a0_0 a0_1 l0_2 a1 a2 y313) = some (r1, r2, r3) := by first | (rw [hy313]; with_reducible exact H) | (have H2_ := (Option.bind_some _ _).symm.trans H; rw [hy313]; with_reducible exact H2_) | (have H2_ := (Option.bind_some _ _).symm.trans H; with_reducible exact H2_) | with_reducible exact H | (rw [hy313]; exact H) | exact H
     have Ny313 := Zam hy313
     clear hy313
     have H' := Zam H
     clear H
     try go_wp2
     have n0_ := Zam (ZrD HO_309002.out)
     have n1_ := Zam (ZbD BK306.out)
     have n2_ := Zam (ZbD BK307.out)
     have n3_ := Zam (ZbD BK308.out)
     have n4_ := Zam (ZhD HB.out)
     clear HO_309002
     clear BK306
     clear BK307
     clear BK308
     clear HB
     have HO_309002 := n0_
     have BK306 := n1_
     have BK307 := n2_
     have BK308 := n3_
     have HB := n4_
     clear n0_ n1_ n2_ n3_ n4_
     refine start_ (n := 23) (S := fun w' => w'.cell? ⟨gb306, 0, none⟩ = some (.int .i64 a0_0) ∧ w'.cell? ⟨gb306, 1, none⟩ = some (.int .i64 a0_1) ∧ w'.cell? ⟨gb306, 2, none⟩ = some (.slice A0_2 l0_2.length c0_2)) (ds := []) #[false, false, false, false, false, false, false, false, false, false, false, false, false, false, false, false, false, false, false, false, false, false, false] (by kernel_rfl) rfl rfl ⟨(ZbC BK306.out 0).trans rfl, (ZbC BK306.out 1).trans rfl, (ZbC BK306.out 2).trans rfl⟩ (fun hHeld => ?_); refine with_tabW spec_l7Grow.tab12 spec_l7Grow.bits12 (fun HT_ HW_ => ?_)
     generalize wr.drew = w17 at HO_309002 BK306 BK307 BK308 HB hHeld ⊢
     refine pure_ (i := 1) (N := some 45) (v := ?_) (a' := ?_) #[false, true, false, false, false, false, false, false, false, false, false, false, false, false, false, false, false, false, false, false, false, false, false] rfl rfl (any_of HT_.out (by kernel_rfl)) (fun _ _ _ h => h) (Or.inl ⟨by rfl, ?_⟩) ?_ ?_
     rotate_left
     ·intro w'
      go_simp
      with_reducible rfl
     rotate_left
     ·simp only [Act.put, Zl1, Zl2, Zl3, i64_w, i32_w]
      rfl
     refine pure_ (i := 2) (N := some 46) (v := ?_) (a' := ?_) #[false, true, true, false, false, false, false, false, false, false, false, false, false, false, false, false, false, false, false, false, false, false, false] rfl rfl (any_of HT_.out (by kernel_rfl)) (fun _ _ _ h => h) (Or.inl ⟨by rfl, ?_⟩) ?_ ?_
     rotate_left
     ·intro w'
      go_simp
      with_reducible rfl
     rotate_left
     ·simp only [Act.put, Zl1, Zl2, Zl3, i64_w, i32_w]
      rfl
     refine pure_ (i := 6) (N := some 50) (v := ?_) (a' := ?_) #[false, true, true, false, false, false, true, false, false, false, false, false, false, false, false, false, false, false, false, false, false, false, false] rfl rfl (any_of HT_.out (by kernel_rfl)) (fun _ _ _ h => h) (Or.inl ⟨by rfl, ?_⟩) ?_ ?_
     rotate_left
     ·intro w'
      go_simp
      with_reducible rfl
     rotate_left
     ·simp only [Act.put, Zl1, Zl2, Zl3, i64_w, i32_w]
      rfl
     refine pure_ (i := 7) (N := some 51) (v := ?_) (a' := ?_) #[false, true, true, false, false, false, true, true, false, false, false, false, false, false, false, false, false, false, false, false, false, false, false] rfl rfl (any_of HT_.out (by kernel_rfl)) (fun _ _ _ h => h) (Or.inl ⟨by rfl, ?_⟩) ?_ ?_
     rotate_left
     ·intro w'
      go_simp
      with_reducible rfl
     rotate_left
     ·simp only [Act.put, Zl1, Zl2, Zl3, i64_w, i32_w]
      rfl
     refine pure_ (i := 12) (N := some 56) (v := ?_) (a' := ?_) #[false, true, true, false, false, false, true, true, false, false, false, false, true, false, false, false, false, false, false, false, false, false, false] rfl rfl (any_of HT_.out (by kernel_rfl)) (fun _ _ _ h => h) (Or.inl ⟨by rfl, ?_⟩) ?_ ?_
     rotate_left
     ·intro w'
      go_simp
      with_reducible rfl
     rotate_left
     ·simp only [Act.put, Zl1, Zl2, Zl3, i64_w, i32_w]
      rfl
     refine pure_ (i := 13) (N := some 57) (v := ?_) (a' := ?_) #[false, true, true, false, false, false, true, true, false, false, false, false, true, true, false, false, false, false, false, false, false, false, false] rfl rfl (any_of HT_.out (by kernel_rfl)) (fun _ _ _ h => h) (Or.inl ⟨by rfl, ?_⟩) ?_ ?_
     rotate_left
     ·intro w'
      go_simp
      with_reducible rfl
     rotate_left
     ·simp only [Act.put, Zl1, Zl2, Zl3, i64_w, i32_w]
      rfl
     refine pure_ (i := 18) (N := some 62) (v := ?_) (a' := ?_) #[false, true, true, false, false, false, true, true, false, false, false, false, true, true, false, false, false, false, true, false, false, false, false] rfl rfl (any_of HT_.out (by kernel_rfl)) (fun _ _ _ h => h) (Or.inl ⟨by rfl, ?_⟩) ?_ ?_
     rotate_left
     ·intro w'
      go_simp
      with_reducible rfl
     rotate_left
     ·simp only [Act.put, Zl1, Zl2, Zl3, i64_w, i32_w]
      rfl
     refine pure_ (i := 19) (N := some 63) (v := ?_) (a' := ?_) #[false, true, true, false, false, false, true, true, false, false, false, false, true, true, false, false, false, false, true, true, false, false, false] rfl rfl (any_of HT_.out (by kernel_rfl)) (fun _ _ _ h => h) (Or.inl ⟨by rfl, ?_⟩) ?_ ?_
     rotate_left
     ·intro w'
      go_simp
      with_reducible rfl
     rotate_left
     ·simp only [Act.put, Zl1, Zl2, Zl3, i64_w, i32_w]
      rfl
     refine take_ (i := 0) (N := some 44) (v := ?_) (a' := ?_) #[true, true, true, false, false, false, true, true, false, false, false, false, true, true, false, false, false, false, true, true, false, false, false] rfl rfl (take_ofW HT_.out HW_.out (by kernel_rfl)) (fun _ _ _ h => h) (Or.inl ⟨by rfl, ?_⟩) hHeld ?_ ?_
     rotate_left
     ·rintro w' ⟨s0, s1, s2⟩
      go_simp
      with_reducible rfl
     rotate_left
     ·simp only [Act.put, Zl1, Zl2, Zl3, i64_w, i32_w]
      rfl
     refine take_ (i := 5) (N := some 49) (v := ?_) (a' := ?_) #[true, true, true, false, false, true, true, true, false, false, false, false, true, true, false, false, false, false, true, true, false, false, false] rfl rfl (take_ofW HT_.out HW_.out (by kernel_rfl)) (fun _ _ _ h => h) (Or.inl ⟨by rfl, ?_⟩) hHeld ?_ ?_
     rotate_left
     ·rintro w' ⟨s0, s1, s2⟩
      go_simp
      with_reducible rfl
     rotate_left
     ·simp only [Act.put, Zl1, Zl2, Zl3, i64_w, i32_w]
      rfl
     refine take_ (i := 11) (N := some 55) (v := ?_) (a' := ?_) #[true, true, true, false, false, true, true, true, false, false, false, true, true, true, false, false, false, false, true, true, false, false, false] rfl rfl (take_ofW HT_.out HW_.out (by kernel_rfl)) (fun _ _ _ h => h) (Or.inl ⟨by rfl, ?_⟩) hHeld ?_ ?_
     rotate_left
     ·rintro w' ⟨s0, s1, s2⟩
      go_simp
      with_reducible rfl
     rotate_left
     ·simp only [Act.put, Zl1, Zl2, Zl3, i64_w, i32_w]
      rfl
     refine take_ (i := 17) (N := some 61) (v := ?_) (a' := ?_) #[true, true, true, false, false, true, true, true, false, false, false, true, true, true, false, false, false, true, true, true, false, false, false] rfl rfl (take_ofW HT_.out HW_.out (by kernel_rfl)) (fun _ _ _ h => h) (Or.inl ⟨by rfl, ?_⟩) hHeld ?_ ?_
     rotate_left
     ·rintro w' ⟨s0, s1, s2⟩
      go_simp
      with_reducible rfl
     rotate_left
     ·simp only [Act.put, Zl1, Zl2, Zl3, i64_w, i32_w]
      rfl
     refine one_ (i := 3) (N := some 47) #[true, true, true, true, false, true, true, true, false, false, false, true, true, true, false, false, false, true, true, true, false, false, false] rfl rfl (one_of HT_.out (by kernel_rfl)) (by decide) (fun K hK => ?_)
     refine goes_ Try.func139 (by kernel_rfl) rfl #[.agg #[.int .i64 a0_0, .int .i64 a0_1, .slice A0_2 l0_2.length c0_2], .int .i64 (wrap64 (Int.tdiv x9_2 2)), .int .i64 (wrap64 (Int.tdiv x8_1 2))] (by rfl) rfl rfl (by (try simp only [Zm1, Zm2, Zm3]); first | done | rfl | (simp only [ZlL, ZlT]; rfl)) ?_
     with_reducible refine (spec_l7At.calls k2 a0_0 a0_1 _ _ l0_2 (wrap64 (Int.tdiv x9_2 2)) (wrap64 (Int.tdiv x8_1 2)) t309 _ ?side1 ?side2 A12.out).mono ?_
     (case side1 => repeat (first | exact (Kd.C_below HR0_2.out HB.out) | (with_reducible refine Kd.C_alloc ?_ _) | (with_reducible refine Kd.C_drewN ?_ _) | (with_reducible refine Kd.C_drew ?_)))
     (case side2 => exact HC0_2.out)
     rintro e w18 ⟨rfl, hb⟩
     refine ⟨_, rfl, ?_⟩
     have n0_ := Zam (Kd.R_below (by (with_reducible repeat (first | apply ZrA | apply ZrW | apply ZrD)); exact HO_309002.out) hb)
     have n1_ := Zam (ZbB (g := gb306) (o := .cells #[.int .i64 a0_0, .int .i64 a0_1, .slice A0_2 l0_2.length c0_2] 82 (0, 0)) (by (with_reducible repeat (first | refine ZbW ?_ _ | refine ZbD ?_ | refine ZbA ?_ _)); exact BK306.out) hb)
     have n2_ := Zam (ZbB (g := gb307) (o := .cells #[.int .i64 0, .int .i64 0, .slice none 0 0] 82 (0, 0)) (by (with_reducible repeat (first | refine ZbW ?_ _ | refine ZbD ?_ | refine ZbA ?_ _)); exact BK307.out) hb)
     have n3_ := Zam (ZbB (g := gb308) (o := .cells #[.int .i64 a1, .int .i64 a2, u309002] 82 (0, 0)) (by (with_reducible repeat (first | refine ZbW ?_ _ | refine ZbD ?_ | refine ZbA ?_ _)); exact BK308.out) hb)
     have n4_ := Zam (ZbS (by repeat (first | (with_reducible first | exact HB.out | apply ZhA | apply ZhW | apply ZhD | refine ZhS ?_ GE306.out | refine ZhS ?_ GE307.out | refine ZhS ?_ GE308.out) | exact HB.out)) hb)
     clear HO_309002
     clear BK306
     clear BK307
     clear BK308
     clear HB
     have HO_309002 := n0_
     have BK306 := n1_
     have BK307 := n2_
     have BK308 := n3_
     have HB := n4_
     clear n0_ n1_ n2_ n3_ n4_
     (try clear hb)
     (try clear hb2)
     (try clear hk)
     (try clear hi)
     refine hK.out _ _ ⟨(ZbC BK306.out 0).trans rfl, (ZbC BK306.out 1).trans rfl, (ZbC BK306.out 2).trans rfl⟩ (fun hHeld => ?_)
     clear hK K
     refine norm_ (a' := ?_) ?_ ?_
     rotate_left
     ·show Act.put _ (some 47) _ = _
      simp only [Act.put, Zl1, Zl2, Zl3, i64_w, i32_w]
      rfl
     refine pure_ (i := 4) (N := some 48) (v := ?_) (a' := ?_) #[true, true, true, true, true, true, true, true, false, false, false, true, true, true, false, false, false, true, true, true, false, false, false] rfl rfl (any_of HT_.out (by kernel_rfl)) (fun _ _ _ h => h) (Or.inl ⟨by rfl, ?_⟩) ?_ ?_
     rotate_left
     ·intro w'
      go_simp
      with_reducible rfl
     rotate_left
     ·simp only [Act.put, Zl1, Zl2, Zl3, i64_w, i32_w]
      rfl
     refine one_ (i := 8) (N := some 52) #[true, true, true, true, true, true, true, true, true, false, false, true, true, true, false, false, false, true, true, true, false, false, false] rfl rfl (one_of HT_.out (by kernel_rfl)) (by decide) (fun K hK => ?_)
     refine goes_ Try.func139 (by kernel_rfl) rfl #[.agg #[.int .i64 a0_0, .int .i64 a0_1, .slice A0_2 l0_2.length c0_2], .int .i64 (wrap64 ((wrap64 ((wrap64 (Int.tdiv x9_2 2)) - 1)) + (wrap64 ((Int.tmod x9_2 2) * 2)))), .int .i64 (wrap64 (Int.tdiv x8_1 2))] (by rfl) rfl rfl (by (try simp only [Zm1, Zm2, Zm3]); first | done | rfl | (simp only [ZlL, ZlT]; rfl)) ?_
     with_reducible refine (spec_l7At.calls k2 a0_0 a0_1 _ _ l0_2 (wrap64 ((wrap64 ((wrap64 (Int.tdiv x9_2 2)) - 1)) + (wrap64 ((Int.tmod x9_2 2) * 2)))) (wrap64 (Int.tdiv x8_1 2)) t310 _ ?side1 ?side2 A13.out).mono ?_
     (case side1 => repeat (first | exact (Kd.C_below HR0_2.out HB.out) | (with_reducible refine Kd.C_alloc ?_ _) | (with_reducible refine Kd.C_drewN ?_ _) | (with_reducible refine Kd.C_drew ?_)))
     (case side2 => exact HC0_2.out)
     rintro e w19 ⟨rfl, hb⟩
     refine ⟨_, rfl, ?_⟩
     have n0_ := Zam (Kd.R_below (by (with_reducible repeat (first | apply ZrA | apply ZrW | apply ZrD)); exact HO_309002.out) hb)
     have n1_ := Zam (ZbB (g := gb306) (o := .cells #[.int .i64 a0_0, .int .i64 a0_1, .slice A0_2 l0_2.length c0_2] 82 (0, 0)) (by (with_reducible repeat (first | refine ZbW ?_ _ | refine ZbD ?_ | refine ZbA ?_ _)); exact BK306.out) hb)
     have n2_ := Zam (ZbB (g := gb307) (o := .cells #[.int .i64 0, .int .i64 0, .slice none 0 0] 82 (0, 0)) (by (with_reducible repeat (first | refine ZbW ?_ _ | refine ZbD ?_ | refine ZbA ?_ _)); exact BK307.out) hb)
     have n3_ := Zam (ZbB (g := gb308) (o := .cells #[.int .i64 a1, .int .i64 a2, u309002] 82 (0, 0)) (by (with_reducible repeat (first | refine ZbW ?_ _ | refine ZbD ?_ | refine ZbA ?_ _)); exact BK308.out) hb)
     have n4_ := Zam (ZbS (by repeat (first | (with_reducible first | exact HB.out | apply ZhA | apply ZhW | apply ZhD | refine ZhS ?_ GE306.out | refine ZhS ?_ GE307.out | refine ZhS ?_ GE308.out) | exact HB.out)) hb)
     clear HO_309002
     clear BK306
     clear BK307
     clear BK308
     clear HB
     have HO_309002 := n0_
     have BK306 := n1_
     have BK307 := n2_
     have BK308 := n3_
     have HB := n4_
     clear n0_ n1_ n2_ n3_ n4_
     (try clear hb)
     (try clear hb2)
     (try clear hk)
     (try clear hi)
     refine hK.out _ _ ⟨(ZbC BK306.out 0).trans rfl, (ZbC BK306.out 1).trans rfl, (ZbC BK306.out 2).trans rfl⟩ (fun hHeld => ?_)
     clear hK K
     refine norm_ (a' := ?_) ?_ ?_
     rotate_left
     ·show Act.put _ (some 52) _ = _
      simp only [Act.put, Zl1, Zl2, Zl3, i64_w, i32_w]
      rfl
     refine pure_ (i := 9) (N := some 53) (v := ?_) (a' := ?_) #[true, true, true, true, true, true, true, true, true, true, false, true, true, true, false, false, false, true, true, true, false, false, false] rfl rfl (any_of HT_.out (by kernel_rfl)) (fun _ _ _ h => h) (Or.inl ⟨by rfl, ?_⟩) ?_ ?_
     rotate_left
     ·intro w'
      go_simp
      with_reducible rfl
     rotate_left
     ·simp only [Act.put, Zl1, Zl2, Zl3, i64_w, i32_w]
      rfl
     refine pure_ (i := 10) (N := some 54) (v := ?_) (a' := ?_) #[true, true, true, true, true, true, true, true, true, true, true, true, true, true, false, false, false, true, true, true, false, false, false] rfl rfl (any_of HT_.out (by kernel_rfl)) (fun _ _ _ h => h) (Or.inl ⟨by rfl, ?_⟩) ?_ ?_
     rotate_left
     ·intro w'
      go_simp
      with_reducible rfl
     rotate_left
     ·simp only [Act.put, Zl1, Zl2, Zl3, i64_w, i32_w]
      rfl
     refine one_ (i := 14) (N := some 58) #[true, true, true, true, true, true, true, true, true, true, true, true, true, true, true, false, false, true, true, true, false, false, false] rfl rfl (one_of HT_.out (by kernel_rfl)) (by decide) (fun K hK => ?_)
     refine goes_ Try.func139 (by kernel_rfl) rfl #[.agg #[.int .i64 a0_0, .int .i64 a0_1, .slice A0_2 l0_2.length c0_2], .int .i64 (wrap64 (Int.tdiv x9_2 2)), .int .i64 (wrap64 ((wrap64 ((wrap64 (Int.tdiv x8_1 2)) - 1)) + (wrap64 ((Int.tmod x8_1 2) * 2))))] (by rfl) rfl rfl (by (try simp only [Zm1, Zm2, Zm3]); first | done | rfl | (simp only [ZlL, ZlT]; rfl)) ?_
     with_reducible refine (spec_l7At.calls k2 a0_0 a0_1 _ _ l0_2 (wrap64 (Int.tdiv x9_2 2)) (wrap64 ((wrap64 ((wrap64 (Int.tdiv x8_1 2)) - 1)) + (wrap64 ((Int.tmod x8_1 2) * 2)))) t311 _ ?side1 ?side2 A14.out).mono ?_
     (case side1 => repeat (first | exact (Kd.C_below HR0_2.out HB.out) | (with_reducible refine Kd.C_alloc ?_ _) | (with_reducible refine Kd.C_drewN ?_ _) | (with_reducible refine Kd.C_drew ?_)))
     (case side2 => exact HC0_2.out)
     rintro e w20 ⟨rfl, hb⟩
     refine ⟨_, rfl, ?_⟩
     have n0_ := Zam (Kd.R_below (by (with_reducible repeat (first | apply ZrA | apply ZrW | apply ZrD)); exact HO_309002.out) hb)
     have n1_ := Zam (ZbB (g := gb306) (o := .cells #[.int .i64 a0_0, .int .i64 a0_1, .slice A0_2 l0_2.length c0_2] 82 (0, 0)) (by (with_reducible repeat (first | refine ZbW ?_ _ | refine ZbD ?_ | refine ZbA ?_ _)); exact BK306.out) hb)
     have n2_ := Zam (ZbB (g := gb307) (o := .cells #[.int .i64 0, .int .i64 0, .slice none 0 0] 82 (0, 0)) (by (with_reducible repeat (first | refine ZbW ?_ _ | refine ZbD ?_ | refine ZbA ?_ _)); exact BK307.out) hb)
     have n3_ := Zam (ZbB (g := gb308) (o := .cells #[.int .i64 a1, .int .i64 a2, u309002] 82 (0, 0)) (by (with_reducible repeat (first | refine ZbW ?_ _ | refine ZbD ?_ | refine ZbA ?_ _)); exact BK308.out) hb)
     have n4_ := Zam (ZbS (by repeat (first | (with_reducible first | exact HB.out | apply ZhA | apply ZhW | apply ZhD | refine ZhS ?_ GE306.out | refine ZhS ?_ GE307.out | refine ZhS ?_ GE308.out) | exact HB.out)) hb)
     clear HO_309002
     clear BK306
     clear BK307
     clear BK308
     clear HB
     have HO_309002 := n0_
     have BK306 := n1_
     have BK307 := n2_
     have BK308 := n3_
     have HB := n4_
     clear n0_ n1_ n2_ n3_ n4_
     (try clear hb)
     (try clear hb2)
     (try clear hk)
     (try clear hi)
     refine hK.out _ _ ⟨(ZbC BK306.out 0).trans rfl, (ZbC BK306.out 1).trans rfl, (ZbC BK306.out 2).trans rfl⟩ (fun hHeld => ?_)
     clear hK K
     refine norm_ (a' := ?_) ?_ ?_
     rotate_left
     ·show Act.put _ (some 58) _ = _
      simp only [Act.put, Zl1, Zl2, Zl3, i64_w, i32_w]
      rfl
     refine pure_ (i := 15) (N := some 59) (v := ?_) (a' := ?_) #[true, true, true, true, true, true, true, true, true, true, true, true, true, true, true, true, false, true, true, true, false, false, false] rfl rfl (any_of HT_.out (by kernel_rfl)) (fun _ _ _ h => h) (Or.inl ⟨by rfl, ?_⟩) ?_ ?_
     rotate_left
     ·intro w'
      go_simp
      with_reducible rfl
     rotate_left
     ·simp only [Act.put, Zl1, Zl2, Zl3, i64_w, i32_w]
      rfl
     refine pure_ (i := 16) (N := some 60) (v := ?_) (a' := ?_) #[true, true, true, true, true, true, true, true, true, true, true, true, true, true, true, true, true, true, true, true, false, false, false] rfl rfl (any_of HT_.out (by kernel_rfl)) (fun _ _ _ h => h) (Or.inl ⟨by rfl, ?_⟩) ?_ ?_
     rotate_left
     ·intro w'
      go_simp
      with_reducible rfl
     rotate_left
     ·simp only [Act.put, Zl1, Zl2, Zl3, i64_w, i32_w]
      rfl
     refine one_ (i := 20) (N := some 64) #[true, true, true, true, true, true, true, true, true, true, true, true, true, true, true, true, true, true, true, true, true, false, false] rfl rfl (one_of HT_.out (by kernel_rfl)) (by decide) (fun K hK => ?_)
     refine goes_ Try.func139 (by kernel_rfl) rfl #[.agg #[.int .i64 a0_0, .int .i64 a0_1, .slice A0_2 l0_2.length c0_2], .int .i64 (wrap64 ((wrap64 ((wrap64 (Int.tdiv x9_2 2)) - 1)) + (wrap64 ((Int.tmod x9_2 2) * 2)))), .int .i64 (wrap64 ((wrap64 ((wrap64 (Int.tdiv x8_1 2)) - 1)) + (wrap64 ((Int.tmod x8_1 2) * 2))))] (by rfl) rfl rfl (by (try simp only [Zm1, Zm2, Zm3]); first | done | rfl | (simp only [ZlL, ZlT]; rfl)) ?_
     with_reducible refine (spec_l7At.calls k2 a0_0 a0_1 _ _ l0_2 (wrap64 ((wrap64 ((wrap64 (Int.tdiv x9_2 2)) - 1)) + (wrap64 ((Int.tmod x9_2 2) * 2)))) (wrap64 ((wrap64 ((wrap64 (Int.tdiv x8_1 2)) - 1)) + (wrap64 ((Int.tmod x8_1 2) * 2)))) t312 _ ?side1 ?side2 A15.out).mono ?_
     (case side1 => repeat (first | exact (Kd.C_below HR0_2.out HB.out) | (with_reducible refine Kd.C_alloc ?_ _) | (with_reducible refine Kd.C_drewN ?_ _) | (with_reducible refine Kd.C_drew ?_)))
     (case side2 => exact HC0_2.out)
     rintro e w21 ⟨rfl, hb⟩
     refine ⟨_, rfl, ?_⟩
     have n0_ := Zam (Kd.R_below (by (with_reducible repeat (first | apply ZrA | apply ZrW | apply ZrD)); exact HO_309002.out) hb)
     have n1_ := Zam (ZbB (g := gb306) (o := .cells #[.int .i64 a0_0, .int .i64 a0_1, .slice A0_2 l0_2.length c0_2] 82 (0, 0)) (by (with_reducible repeat (first | refine ZbW ?_ _ | refine ZbD ?_ | refine ZbA ?_ _)); exact BK306.out) hb)
     have n2_ := Zam (ZbB (g := gb307) (o := .cells #[.int .i64 0, .int .i64 0, .slice none 0 0] 82 (0, 0)) (by (with_reducible repeat (first | refine ZbW ?_ _ | refine ZbD ?_ | refine ZbA ?_ _)); exact BK307.out) hb)
     have n3_ := Zam (ZbB (g := gb308) (o := .cells #[.int .i64 a1, .int .i64 a2, u309002] 82 (0, 0)) (by (with_reducible repeat (first | refine ZbW ?_ _ | refine ZbD ?_ | refine ZbA ?_ _)); exact BK308.out) hb)
     have n4_ := Zam (ZbS (by repeat (first | (with_reducible first | exact HB.out | apply ZhA | apply ZhW | apply ZhD | refine ZhS ?_ GE306.out | refine ZhS ?_ GE307.out | refine ZhS ?_ GE308.out) | exact HB.out)) hb)
     clear HO_309002
     clear BK306
     clear BK307
     clear BK308
     clear HB
     have HO_309002 := n0_
     have BK306 := n1_
     have BK307 := n2_
     have BK308 := n3_
     have HB := n4_
     clear n0_ n1_ n2_ n3_ n4_
     (try clear hb)
     (try clear hb2)
     (try clear hk)
     (try clear hi)
     refine hK.out _ _ ⟨(ZbC BK306.out 0).trans rfl, (ZbC BK306.out 1).trans rfl, (ZbC BK306.out 2).trans rfl⟩ (fun hHeld => ?_)
     clear hK K
     refine norm_ (a' := ?_) ?_ ?_
     rotate_left
     ·show Act.put _ (some 64) _ = _
      simp only [Act.put, Zl1, Zl2, Zl3, i64_w, i32_w]
      rfl
     refine pure_ (i := 21) (N := some 65) (v := ?_) (a' := ?_) #[true, true, true, true, true, true, true, true, true, true, true, true, true, true, true, true, true, true, true, true, true, true, false] rfl rfl (any_of HT_.out (by kernel_rfl)) (fun _ _ _ h => h) (Or.inl ⟨by rfl, ?_⟩) ?_ ?_
     rotate_left
     ·intro w'
      go_simp
      with_reducible rfl
     rotate_left
     ·simp only [Act.put, Zl1, Zl2, Zl3, i64_w, i32_w]
      rfl
     refine pure_ (i := 22) (N := some 14) (v := ?_) (a' := ?_) #[true, true, true, true, true, true, true, true, true, true, true, true, true, true, true, true, true, true, true, true, true, true, true] rfl rfl (any_of HT_.out (by kernel_rfl)) (fun _ _ _ h => h) (Or.inl ⟨by rfl, ?_⟩) ?_ ?_
     rotate_left
     ·intro w'
      go_simp
      with_reducible rfl
     rotate_left
     ·simp only [Act.put, Zl1, Zl2, Zl3, i64_w, i32_w]
      rfl
     refine done_ (done_of HT_.out (by kernel_rfl)) ?_
     have hnb22 := NB308_306.out
     have hnc22 := NB306_308.out
     have hnb23 := NB308_307.out
     have hnc23 := NB307_308.out
     have hcz24_0 : w21.cell? ⟨gb308, 0, none⟩ = some (.int .i64 a1) := (ZbC BK308.out 0).trans rfl
     have hcz24_1 : w21.cell? ⟨gb308, 1, none⟩ = some (.int .i64 a2) := (ZbC BK308.out 1).trans rfl
     have hcz24_2 : w21.cell? ⟨gb308, 2, none⟩ = some (u309002) := (ZbC BK308.out 2).trans rfl
     have hfz24_0 := ZbF BK308.out 0
     have hfz24_1 := ZbF BK308.out 1
     have hfz24_2 := ZbF BK308.out 2
     try go_wp2_with (first | ((with_reducible refine gate_builtin (b := .append) (xs := #[.tmp 67, .tmp 71]) rfl ?_); at_builtin; refine Kd.R_append (Kd.int .i64) (w0 := w) w.heap.size rfl (.tmp 67) (.tmp 71) 22 3 (.int .i64 0) 8 rfl Try.underlying22 info3 rfl (by decide) (by omega) u309002 x309002_2 ((wrap64 ((wrap64 ((wrap64 ((wrap64 ((wrap64 (9 * t309)) + (wrap64 (3 * t310)))) + (wrap64 (3 * t311)))) + t312)) + 8)) / 16) [.int .i64 ((wrap64 ((wrap64 ((wrap64 ((wrap64 ((wrap64 (9 * t309)) + (wrap64 (3 * t310)))) + (wrap64 (3 * t311)))) + t312)) + 8)) / 16)] (fun _ => True) (fun _ => False) rfl rfl ?aP (fun _ hk => hk.elim) ?aF ?aO ?aB ?aS ?aL ?_; (case aP => exact rfl); (case aB => exact (by repeat (first | (with_reducible first | exact HB.out | apply ZhA | apply ZhW | apply ZhD | refine ZhS ?_ GE306.out | refine ZhS ?_ GE307.out | refine ZhS ?_ GE308.out) | exact HB.out))); (case aF => exact (fun _ _ => trivial)); (case aO => exact (by (with_reducible repeat (first | apply ZrA | apply ZrW | apply ZrD)); exact HO_309002.out)); (case aS => exact (below_size (by repeat (first | (with_reducible first | exact HB.out | apply ZhA | apply ZhW | apply ZhD | refine ZhS ?_ GE306.out | refine ZhS ?_ GE307.out | refine ZhS ?_ GE308.out) | exact HB.out)))); (case aL => have := LMc16.out; omega); intro v314 w25 ho hb hg hat; rw [← Ny313.out] at ho; have n0_ := Zam (blk_grown (g := gb306) (o := .cells #[.int .i64 a0_0, .int .i64 a0_1, .slice A0_2 l0_2.length c0_2] 82 (0, 0)) (by (with_reducible repeat (first | refine ZbW ?_ _ | refine ZbD ?_ | refine ZbA ?_ _)); exact BK306.out) hg (Kd.R_ne HO_309002.out BK306.out (by decide))); have n1_ := Zam (blk_grown (g := gb307) (o := .cells #[.int .i64 0, .int .i64 0, .slice none 0 0] 82 (0, 0)) (by (with_reducible repeat (first | refine ZbW ?_ _ | refine ZbD ?_ | refine ZbA ?_ _)); exact BK307.out) hg (Kd.R_ne HO_309002.out BK307.out (by decide))); have n2_ := Zam (blk_grown (g := gb308) (o := .cells #[.int .i64 a1, .int .i64 a2, u309002] 82 (0, 0)) (by (with_reducible repeat (first | refine ZbW ?_ _ | refine ZbD ?_ | refine ZbA ?_ _)); exact BK308.out) hg (Kd.R_ne HO_309002.out BK308.out (by decide))); have n3_ := Zam (hb); have n4_ := Zam (ho); clear BK306 BK307 BK308 HB HO_309002; have BK306 := n0_; have BK307 := n1_; have BK308 := n2_; have HB := n3_; have HO315 := n4_; clear n0_ n1_ n2_ n3_ n4_; clear ho hb hg hat; obtain ⟨Ao26, co26, eo26⟩ := Kd.R_slice HO315.out; subst eo26; have hcz27_0 : w25.cell? ⟨gb308, 0, none⟩ = some (.int .i64 a1) := (ZbC BK308.out 0).trans rfl; have hcz27_1 : w25.cell? ⟨gb308, 1, none⟩ = some (.int .i64 a2) := (ZbC BK308.out 1).trans rfl; have hcz27_2 : w25.cell? ⟨gb308, 2, none⟩ = some (u309002) := (ZbC BK308.out 2).trans rfl; have hfz27_0 := ZbF BK308.out 0; have hfz27_1 := ZbF BK308.out 1; have hfz27_2 := ZbF BK308.out 2))
     go_roundg k2
     case measure => have := HK1.out; have := HK2.out; omega
     case rel => exact ⟨(wrap64 (x9_2 + 1)), (y313), (.slice Ao26 y313.length co26), (by first | rfl | (simp; done) | (simp [*]; done)), H', ⟨by have := HK1.out; have := HK2.out; omega⟩, ⟨by (with_reducible repeat (first | apply ZrA | apply ZrW | apply ZrD)); exact Kd.R_mono (Kd.R_far (p := ⟨gb308, 2, none⟩) (Kd.R_types HO315.out BK308.out (by decide)) (fun _ hk => hk.2) (.slice Ao26 y313.length co26)) (fun _ hk => trivial)⟩, ⟨by (with_reducible repeat (first | refine ZbW ?_ _ | refine ZbD ?_ | refine ZbA ?_ _)); refine blk_far ?_ NB306_308.out _; (with_reducible repeat (first | refine ZbW ?_ _ | refine ZbD ?_ | refine ZbA ?_ _)); exact BK306.out⟩, ⟨by (with_reducible repeat (first | refine ZbW ?_ _ | refine ZbD ?_ | refine ZbA ?_ _)); refine blk_far ?_ NB307_308.out _; (with_reducible repeat (first | refine ZbW ?_ _ | refine ZbD ?_ | refine ZbA ?_ _)); exact BK307.out⟩, ⟨by (with_reducible repeat (first | refine ZbW ?_ _ | refine ZbD ?_ | refine ZbA ?_ _)); refine blk_put (cs := #[.int .i64 a1, .int .i64 a2, u309002]) ?_ 2 _ rfl; (with_reducible repeat (first | refine ZbW ?_ _ | refine ZbD ?_ | refine ZbA ?_ _)); exact BK308.out⟩, ⟨by repeat (first | (with_reducible first | exact HB.out | apply ZhA | apply ZhW | apply ZhD | refine ZhS ?_ GE306.out | refine ZhS ?_ GE307.out | refine ZhS ?_ GE308.out) | exact HB.out)⟩⟩

/-! ### spec_Grow: function 65 -/
def spec_Grow.f (k : Nat) (a0_0 : Int) (a0_1 : Int) (l0_2 : List Int) (a1 : Int) (a2 : Int) : Option (Int × Int × List Int) := (spec_GoodPlane.f k a0_0 a0_1 l0_2).bind fun t318 => (if t318 = true then (if a1 = (wrap64 (2 * a0_0)) then (if a2 = (wrap64 (2 * a0_1)) then ((spec_l7Sides.f a1 a2).bind fun t319 => (if t319 = true then ((spec_l7Grow.f k a0_0 a0_1 l0_2 a1 a2).bind fun bt320 => (some (bt320.1, bt320.2.1, bt320.2.2))) else (some (0, 0, ([] : List Int))))) else (if a2 = (wrap64 ((wrap64 (2 * a0_1)) - 1)) then ((spec_l7Sides.f a1 a2).bind fun t325 => (if t325 = true then ((spec_l7Grow.f k a0_0 a0_1 l0_2 a1 a2).bind fun bt326 => (some (bt326.1, bt326.2.1, bt326.2.2))) else (some (0, 0, ([] : List Int))))) else (some (0, 0, ([] : List Int))))) else (if a1 = (wrap64 ((wrap64 (2 * a0_0)) - 1)) then (if a2 = (wrap64 (2 * a0_1)) then ((spec_l7Sides.f a1 a2).bind fun t331 => (if t331 = true then ((spec_l7Grow.f k a0_0 a0_1 l0_2 a1 a2).bind fun bt332 => (some (bt332.1, bt332.2.1, bt332.2.2))) else (some (0, 0, ([] : List Int))))) else (if a2 = (wrap64 ((wrap64 (2 * a0_1)) - 1)) then ((spec_l7Sides.f a1 a2).bind fun t337 => (if t337 = true then ((spec_l7Grow.f k a0_0 a0_1 l0_2 a1 a2).bind fun bt338 => (some (bt338.1, bt338.2.1, bt338.2.2))) else (some (0, 0, ([] : List Int))))) else (some (0, 0, ([] : List Int))))) else (some (0, 0, ([] : List Int))))) else (some (0, 0, ([] : List Int))))
theorem spec_Grow.mono : ∀ a0 a1 a2 a3 a4 k, LeO (spec_Grow.f k a0 a1 a2 a3 a4) (spec_Grow.f (k + 1) a0 a1 a2 a3 a4) := by
 intro a0 a1 a2 a3 a4 k
 unfold spec_Grow.f
 repeat' first
   | (with_reducible exact spec_GoodPlane.mono _ _ _ _)
   | (with_reducible exact spec_l7Grow.mono _ _ _ _ _ _)
   | (with_reducible exact LeO.refl _)
   | (with_reducible exact LeO.none _)
   | (with_reducible refine LeO.ite ?_ ?_)
   | (with_reducible refine LeO.bind ?_ (fun _ => ?_))
   | exact spec_GoodPlane.mono _ _ _ _
   | exact spec_l7Grow.mono _ _ _ _ _ _
   | exact LeO.none _
   | refine LeO.ite ?_ ?_
   | refine LeO.bind ?_ (fun _ => ?_)
set_option maxHeartbeats 8000000 in
set_option maxRecDepth 100000 in
theorem spec_Grow.calls (k : Nat) (a0_0 : Int) (a0_1 : Int) (A0_2 : Option Addr) (c0_2 : Nat) (l0_2 : List Int) (a1 : Int) (a2 : Int) (r1 : Int) (r2 : Int) (r3 : List Int) (w : World) (hr0_2 : Kd.C (Kd.int .i64) w A0_2 l0_2.length l0_2) (hc0_2 : l0_2.length ≤ c0_2) (h : spec_Grow.f k a0_0 a0_1 l0_2 a1 a2 = some (r1, r2, r3)) :
  Calls Try.prog 65 #[.agg #[.int .i64 a0_0, .int .i64 a0_1, .slice A0_2 l0_2.length c0_2], .int .i64 a1, .int .i64 a2] w fun e w' => ∃ v2_ : Value, e = .returned (.agg #[.int .i64 r1, .int .i64 r2, v2_]) ∧ Kd.R (Kd.int .i64) 3 w' w.heap.size (fun _ => True) v2_ r3 ∧ Below w.heap.size w w' := by
 have hu82 := Try.underlying82
 have HR0_2 := Zam hr0_2
 have HC0_2 := Zam hc0_2
 clear hr0_2 hc0_2
 have HB := Zam (Below.refl w.heap.size w)
 have H : ((spec_GoodPlane.f k a0_0 a0_1 l0_2).bind fun t318 => (if t318 = true then (if a1 = (wrap64 (2 * a0_0)) then (if a2 = (wrap64 (2 * a0_1)) then ((spec_l7Sides.f a1 a2).bind fun t319 => (if t319 = true then ((spec_l7Grow.f k a0_0 a0_1 l0_2 a1 a2).bind fun bt320 => (some (bt320.1, bt320.2.1, bt320.2.2))) else (some (0, 0, ([] : List Int))))) else (if a2 = (wrap64 ((wrap64 (2 * a0_1)) - 1)) then ((spec_l7Sides.f a1 a2).bind fun t325 => (if t325 = true then ((spec_l7Grow.f k a0_0 a0_1 l0_2 a1 a2).bind fun bt326 => (some (bt326.1, bt326.2.1, bt326.2.2))) else (some (0, 0, ([] : List Int))))) else (some (0, 0, ([] : List Int))))) else (if a1 = (wrap64 ((wrap64 (2 * a0_0)) - 1)) then (if a2 = (wrap64 (2 * a0_1)) then ((spec_l7Sides.f a1 a2).bind fun t331 => (if t331 = true then ((spec_l7Grow.f k a0_0 a0_1 l0_2 a1 a2).bind fun bt332 => (some (bt332.1, bt332.2.1, bt332.2.2))) else (some (0, 0, ([] : List Int))))) else (if a2 = (wrap64 ((wrap64 (2 * a0_1)) - 1)) then ((spec_l7Sides.f a1 a2).bind fun t337 => (if t337 = true then ((spec_l7Grow.f k a0_0 a0_1 l0_2 a1 a2).bind fun bt338 => (some (bt338.1, bt338.2.1, bt338.2.2))) else (some (0, 0, ([] : List Int))))) else (some (0, 0, ([] : List Int))))) else (some (0, 0, ([] : List Int))))) else (some (0, 0, ([] : List Int))))) = some (r1, r2, r3) := h
 clear h
 replace H := Zob.mp H
 obtain ⟨t318, A40, H⟩ := H
 replace H : (if t318 = true then (if a1 = (wrap64 (2 * a0_0)) then (if a2 = (wrap64 (2 * a0_1)) then ((spec_l7Sides.f a1 a2).bind fun t319 => (if t319 = true then ((spec_l7Grow.f k a0_0 a0_1 l0_2 a1 a2).bind fun bt320 => (some (bt320.1, bt320.2.1, bt320.2.2))) else (some (0, 0, ([] : List Int))))) else (if a2 = (wrap64 ((wrap64 (2 * a0_1)) - 1)) then ((spec_l7Sides.f a1 a2).bind fun t325 => (if t325 = true then ((spec_l7Grow.f k a0_0 a0_1 l0_2 a1 a2).bind fun bt326 => (some (bt326.1, bt326.2.1, bt326.2.2))) else (some (0, 0, ([] : List Int))))) else (some (0, 0, ([] : List Int))))) else (if a1 = (wrap64 ((wrap64 (2 * a0_0)) - 1)) then (if a2 = (wrap64 (2 * a0_1)) then ((spec_l7Sides.f a1 a2).bind fun t331 => (if t331 = true then ((spec_l7Grow.f k a0_0 a0_1 l0_2 a1 a2).bind fun bt332 => (some (bt332.1, bt332.2.1, bt332.2.2))) else (some (0, 0, ([] : List Int))))) else (if a2 = (wrap64 ((wrap64 (2 * a0_1)) - 1)) then ((spec_l7Sides.f a1 a2).bind fun t337 => (if t337 = true then ((spec_l7Grow.f k a0_0 a0_1 l0_2 a1 a2).bind fun bt338 => (some (bt338.1, bt338.2.1, bt338.2.2))) else (some (0, 0, ([] : List Int))))) else (some (0, 0, ([] : List Int))))) else (some (0, 0, ([] : List Int))))) else (some (0, 0, ([] : List Int)))) = some (r1, r2, r3) := H
 have A4 := Zam A40
 clear A40
 by_cases c5 : t318 = true
 rotate_left
 ·replace c5 := Bool.eq_false_iff.mpr c5
  subst c5
  replace H : (some (0, 0, ([] : List Int))) = some (r1, r2, r3) := by rw [if_neg (show ¬ (false = true) by decide)] at H; exact H
  simp only [Option.some.injEq, Prod.mk.injEq] at H
  obtain ⟨rfl, rfl, rfl⟩ := H
  go_enter Try.func65, Try.ntmps65
  go_wp2_with (first | ((with_reducible refine gate_dst (N := 3) rfl ?_); refine box_event ?hg (N := 3) ?hd (cs := #[.int .i64 a0_0, .int .i64 a0_1, .slice A0_2 l0_2.length c0_2]) (t := 82) ?hr ?_; (case hd => rfl); (case hg => rfl); (case hr => first | (go_simp; done) | (go_simp; rfl)); intro gb316 hg w109 hbox hb; have n0_ := Zam (ZbS (by repeat (first | (with_reducible first | exact HB.out | apply ZhA | apply ZhW | apply ZhD) | exact HB.out)) hb); have n1_ := Zam (hbox); have n2_ := Zam ((by rw [hg]; exact (below_size (by repeat (first | (with_reducible first | exact HB.out | apply ZhA | apply ZhW | apply ZhD) | exact HB.out))) : w.heap.size ≤ gb316)); have n3_ := n2_; clear HB; have HB := n0_; have BK316 := n1_; have GW316 := n2_; have GE316 := n3_; clear n0_ n1_ n2_ n3_; clear hb hbox hg) | ((with_reducible refine gate_dst (N := 6) rfl ?_); refine box_event ?hg (N := 6) ?hd (cs := #[.int .i64 0, .int .i64 0, .slice none 0 0]) (t := 82) ?hr ?_; (case hd => rfl); (case hg => rfl); (case hr => first | (go_simp; done) | (go_simp; rfl)); intro gb317 hg w110 hbox hb; have n0_ := Zam (ZbB (g := gb316) (o := .cells #[.int .i64 a0_0, .int .i64 a0_1, .slice A0_2 l0_2.length c0_2] 82 (0, 0)) (by (with_reducible repeat (first | refine ZbW ?_ _ | refine ZbD ?_ | refine ZbA ?_ _)); exact BK316.out) hb); have n1_ := Zam (ZbS (by repeat (first | (with_reducible first | exact HB.out | apply ZhA | apply ZhW | apply ZhD | refine ZhS ?_ GE316.out) | exact HB.out)) hb); have n2_ := Zam (hbox); have n3_ := Zam ((by rw [hg]; exact (below_size (by repeat (first | (with_reducible first | exact HB.out | apply ZhA | apply ZhW | apply ZhD | refine ZhS ?_ GE316.out) | exact HB.out))) : w.heap.size ≤ gb317)); have n4_ := n3_; have n5_ := Zam ((by rw [hg]; exact Nat.ne_of_lt (blk_lt (g := gb316) (o := .cells #[.int .i64 a0_0, .int .i64 a0_1, .slice A0_2 l0_2.length c0_2] 82 (0, 0)) (by (with_reducible repeat (first | refine ZbW ?_ _ | refine ZbD ?_ | refine ZbA ?_ _)); exact BK316.out)) : gb316 ≠ gb317)); have n6_ := Zam ((by rw [hg]; exact Nat.ne_of_gt (blk_lt (g := gb316) (o := .cells #[.int .i64 a0_0, .int .i64 a0_1, .slice A0_2 l0_2.length c0_2] 82 (0, 0)) (by (with_reducible repeat (first | refine ZbW ?_ _ | refine ZbD ?_ | refine ZbA ?_ _)); exact BK316.out)) : gb317 ≠ gb316)); clear BK316 HB; have BK316 := n0_; have HB := n1_; have BK317 := n2_; have GW317 := n3_; have GE317 := n4_; have NB316_317 := n5_; have NB317_316 := n6_; clear n0_ n1_ n2_ n3_ n4_ n5_ n6_; clear hb hbox hg; have hnb111 := NB316_317.out; have hnc111 := NB317_316.out; have hcz112_0 : w110.cell? ⟨gb316, 0, none⟩ = some (.int .i64 a0_0) := (ZbC BK316.out 0).trans rfl; have hcz112_1 : w110.cell? ⟨gb316, 1, none⟩ = some (.int .i64 a0_1) := (ZbC BK316.out 1).trans rfl; have hcz112_2 : w110.cell? ⟨gb316, 2, none⟩ = some (.slice A0_2 l0_2.length c0_2) := (ZbC BK316.out 2).trans rfl; have hfz112_0 := ZbF BK316.out 0; have hfz112_1 := ZbF BK316.out 1; have hfz112_2 := ZbF BK316.out 2) | ((with_reducible refine gate_callee (f := 58) rfl ?_); refine goesL_ (some 8) rfl rfl Try.func58 (by kernel_rfl) rfl #[.agg #[.int .i64 a0_0, .int .i64 a0_1, .slice A0_2 l0_2.length c0_2]] rfl (by (try simp only [Zm1, Zm2, Zm3]); first | done | rfl | (simp only [ZlL, ZlT]; rfl)) ?_; (with_reducible refine (spec_GoodPlane.calls k a0_0 a0_1 _ _ l0_2 false _ ?side1 ?side2 A4.out).mono ?_); (case side1 => repeat (first | exact (Kd.C_below HR0_2.out HB.out) | (with_reducible refine Kd.C_alloc ?_ _) | (with_reducible refine Kd.C_drewN ?_ _) | (with_reducible refine Kd.C_drew ?_))); (case side2 => exact HC0_2.out); rintro e w113 ⟨rfl, hb⟩; refine ⟨_, rfl, ?_⟩; have n0_ := Zam (ZbB (g := gb316) (o := .cells #[.int .i64 a0_0, .int .i64 a0_1, .slice A0_2 l0_2.length c0_2] 82 (0, 0)) (by (with_reducible repeat (first | refine ZbW ?_ _ | refine ZbD ?_ | refine ZbA ?_ _)); exact BK316.out) hb); have n1_ := Zam (ZbB (g := gb317) (o := .cells #[.int .i64 0, .int .i64 0, .slice none 0 0] 82 (0, 0)) (by (with_reducible repeat (first | refine ZbW ?_ _ | refine ZbD ?_ | refine ZbA ?_ _)); exact BK317.out) hb); have n2_ := Zam (ZbS (by repeat (first | (with_reducible first | exact HB.out | apply ZhA | apply ZhW | apply ZhD | refine ZhS ?_ GE316.out | refine ZhS ?_ GE317.out) | exact HB.out)) hb); clear BK316 BK317 HB; have BK316 := n0_; have BK317 := n1_; have HB := n2_; clear n0_ n1_ n2_; (try clear hb); (try clear hb2); (try clear hk); (try clear hi); have hcz114_0 : w113.cell? ⟨gb317, 0, none⟩ = some (.int .i64 0) := (ZbC BK317.out 0).trans rfl; have hcz114_1 : w113.cell? ⟨gb317, 1, none⟩ = some (.int .i64 0) := (ZbC BK317.out 1).trans rfl; have hcz114_2 : w113.cell? ⟨gb317, 2, none⟩ = some (.slice none 0 0) := (ZbC BK317.out 2).trans rfl; have hfz114_0 := ZbF BK317.out 0; have hfz114_1 := ZbF BK317.out 1; have hfz114_2 := ZbF BK317.out 2))
  refine bodyPost_ret (results_cell_row rfl _ _ gb317 82 #[.int .i64 0, .int .i64 0, .slice none 0 0] (0, 0) _ rfl (set3_blk BK317.out) Try.underlying82 rfl (by kernel_rfl)) rfl ?_
  exact ⟨_, by first | rfl | (simp [*, errW_none, errW_some] <;> rfl), by first | exact Kd.R_nil _ _ _ _ _ | exact Kd.N_nil _ _ _ _ _ | exact Kd.V_nil _ _ _ _ _ | exact Kd.Q_nil _ _ _ _ _ | exact Kd.S_nil _ _ _ _ _, by repeat (first | (with_reducible first | exact HB.out | apply ZhA | apply ZhW | apply ZhD | refine ZhS ?_ GE316.out | refine ZhS ?_ GE317.out) | exact HB.out)⟩
 subst c5
 replace H : (if a1 = (wrap64 (2 * a0_0)) then (if a2 = (wrap64 (2 * a0_1)) then ((spec_l7Sides.f a1 a2).bind fun t319 => (if t319 = true then ((spec_l7Grow.f k a0_0 a0_1 l0_2 a1 a2).bind fun bt320 => (some (bt320.1, bt320.2.1, bt320.2.2))) else (some (0, 0, ([] : List Int))))) else (if a2 = (wrap64 ((wrap64 (2 * a0_1)) - 1)) then ((spec_l7Sides.f a1 a2).bind fun t325 => (if t325 = true then ((spec_l7Grow.f k a0_0 a0_1 l0_2 a1 a2).bind fun bt326 => (some (bt326.1, bt326.2.1, bt326.2.2))) else (some (0, 0, ([] : List Int))))) else (some (0, 0, ([] : List Int))))) else (if a1 = (wrap64 ((wrap64 (2 * a0_0)) - 1)) then (if a2 = (wrap64 (2 * a0_1)) then ((spec_l7Sides.f a1 a2).bind fun t331 => (if t331 = true then ((spec_l7Grow.f k a0_0 a0_1 l0_2 a1 a2).bind fun bt332 => (some (bt332.1, bt332.2.1, bt332.2.2))) else (some (0, 0, ([] : List Int))))) else (if a2 = (wrap64 ((wrap64 (2 * a0_1)) - 1)) then ((spec_l7Sides.f a1 a2).bind fun t337 => (if t337 = true then ((spec_l7Grow.f k a0_0 a0_1 l0_2 a1 a2).bind fun bt338 => (some (bt338.1, bt338.2.1, bt338.2.2))) else (some (0, 0, ([] : List Int))))) else (some (0, 0, ([] : List Int))))) else (some (0, 0, ([] : List Int))))) = some (r1, r2, r3) := by rw [if_pos rfl] at H; exact H
 by_cases c6 : a1 = (wrap64 (2 * a0_0))
 rw [if_pos c6] at H
 have c6b0 : (a1 == (wrap64 (2 * a0_0))) = true := beq_iff_eq.mpr c6
 have c6b1 : (a1 != (wrap64 (2 * a0_0))) = false := bne_eq_false_iff_eq.mpr c6
 clear c6
 by_cases c7 : a2 = (wrap64 (2 * a0_1))
 rw [if_pos c7] at H
 have c7b0 : (a2 == (wrap64 (2 * a0_1))) = true := beq_iff_eq.mpr c7
 have c7b1 : (a2 != (wrap64 (2 * a0_1))) = false := bne_eq_false_iff_eq.mpr c7
 clear c7
 replace H := Zob.mp H
 obtain ⟨t319, A80, H⟩ := H
 replace H : (if t319 = true then ((spec_l7Grow.f k a0_0 a0_1 l0_2 a1 a2).bind fun bt320 => (some (bt320.1, bt320.2.1, bt320.2.2))) else (some (0, 0, ([] : List Int)))) = some (r1, r2, r3) := H
 have A8 := Zam A80
 clear A80
 by_cases c9 : t319 = true
 ·subst c9
  replace H : ((spec_l7Grow.f k a0_0 a0_1 l0_2 a1 a2).bind fun bt320 => (some (bt320.1, bt320.2.1, bt320.2.2))) = some (r1, r2, r3) := by rw [if_pos rfl] at H; exact H
  replace H := Zob.mp H
  obtain ⟨⟨t320, t321, t322⟩, A100, H⟩ := H
  replace H : (some (t320, t321, t322)) = some (r1, r2, r3) := H
  have A10 := Zam A100
  clear A100
  simp only [Option.some.injEq, Prod.mk.injEq] at H
  obtain ⟨rfl, rfl, rfl⟩ := H
  go_enter Try.func65, Try.ntmps65
  go_wp2_with (first | ((with_reducible refine gate_dst (N := 3) rfl ?_); refine box_event ?hg (N := 3) ?hd (cs := #[.int .i64 a0_0, .int .i64 a0_1, .slice A0_2 l0_2.length c0_2]) (t := 82) ?hr ?_; (case hd => rfl); (case hg => rfl); (case hr => first | (go_simp; done) | (go_simp; rfl)); intro gb316 hg w11 hbox hb; have n0_ := Zam (ZbS (by repeat (first | (with_reducible first | exact HB.out | apply ZhA | apply ZhW | apply ZhD) | exact HB.out)) hb); have n1_ := Zam (hbox); have n2_ := Zam ((by rw [hg]; exact (below_size (by repeat (first | (with_reducible first | exact HB.out | apply ZhA | apply ZhW | apply ZhD) | exact HB.out))) : w.heap.size ≤ gb316)); have n3_ := n2_; clear HB; have HB := n0_; have BK316 := n1_; have GW316 := n2_; have GE316 := n3_; clear n0_ n1_ n2_ n3_; clear hb hbox hg) | ((with_reducible refine gate_dst (N := 6) rfl ?_); refine box_event ?hg (N := 6) ?hd (cs := #[.int .i64 0, .int .i64 0, .slice none 0 0]) (t := 82) ?hr ?_; (case hd => rfl); (case hg => rfl); (case hr => first | (go_simp; done) | (go_simp; rfl)); intro gb317 hg w12 hbox hb; have n0_ := Zam (ZbB (g := gb316) (o := .cells #[.int .i64 a0_0, .int .i64 a0_1, .slice A0_2 l0_2.length c0_2] 82 (0, 0)) (by (with_reducible repeat (first | refine ZbW ?_ _ | refine ZbD ?_ | refine ZbA ?_ _)); exact BK316.out) hb); have n1_ := Zam (ZbS (by repeat (first | (with_reducible first | exact HB.out | apply ZhA | apply ZhW | apply ZhD | refine ZhS ?_ GE316.out) | exact HB.out)) hb); have n2_ := Zam (hbox); have n3_ := Zam ((by rw [hg]; exact (below_size (by repeat (first | (with_reducible first | exact HB.out | apply ZhA | apply ZhW | apply ZhD | refine ZhS ?_ GE316.out) | exact HB.out))) : w.heap.size ≤ gb317)); have n4_ := n3_; have n5_ := Zam ((by rw [hg]; exact Nat.ne_of_lt (blk_lt (g := gb316) (o := .cells #[.int .i64 a0_0, .int .i64 a0_1, .slice A0_2 l0_2.length c0_2] 82 (0, 0)) (by (with_reducible repeat (first | refine ZbW ?_ _ | refine ZbD ?_ | refine ZbA ?_ _)); exact BK316.out)) : gb316 ≠ gb317)); have n6_ := Zam ((by rw [hg]; exact Nat.ne_of_gt (blk_lt (g := gb316) (o := .cells #[.int .i64 a0_0, .int .i64 a0_1, .slice A0_2 l0_2.length c0_2] 82 (0, 0)) (by (with_reducible repeat (first | refine ZbW ?_ _ | refine ZbD ?_ | refine ZbA ?_ _)); exact BK316.out)) : gb317 ≠ gb316)); clear BK316 HB; have BK316 := n0_; have HB := n1_; have BK317 := n2_; have GW317 := n3_; have GE317 := n4_; have NB316_317 := n5_; have NB317_316 := n6_; clear n0_ n1_ n2_ n3_ n4_ n5_ n6_; clear hb hbox hg; have hnb13 := NB316_317.out; have hnc13 := NB317_316.out; have hcz14_0 : w12.cell? ⟨gb316, 0, none⟩ = some (.int .i64 a0_0) := (ZbC BK316.out 0).trans rfl; have hcz14_1 : w12.cell? ⟨gb316, 1, none⟩ = some (.int .i64 a0_1) := (ZbC BK316.out 1).trans rfl; have hcz14_2 : w12.cell? ⟨gb316, 2, none⟩ = some (.slice A0_2 l0_2.length c0_2) := (ZbC BK316.out 2).trans rfl; have hfz14_0 := ZbF BK316.out 0; have hfz14_1 := ZbF BK316.out 1; have hfz14_2 := ZbF BK316.out 2) | ((with_reducible refine gate_callee (f := 58) rfl ?_); refine goesL_ (some 8) rfl rfl Try.func58 (by kernel_rfl) rfl #[.agg #[.int .i64 a0_0, .int .i64 a0_1, .slice A0_2 l0_2.length c0_2]] rfl (by (try simp only [Zm1, Zm2, Zm3]); first | done | rfl | (simp only [ZlL, ZlT]; rfl)) ?_; (with_reducible refine (spec_GoodPlane.calls k a0_0 a0_1 _ _ l0_2 true _ ?side1 ?side2 A4.out).mono ?_); (case side1 => repeat (first | exact (Kd.C_below HR0_2.out HB.out) | (with_reducible refine Kd.C_alloc ?_ _) | (with_reducible refine Kd.C_drewN ?_ _) | (with_reducible refine Kd.C_drew ?_))); (case side2 => exact HC0_2.out); rintro e w15 ⟨rfl, hb⟩; refine ⟨_, rfl, ?_⟩; have n0_ := Zam (ZbB (g := gb316) (o := .cells #[.int .i64 a0_0, .int .i64 a0_1, .slice A0_2 l0_2.length c0_2] 82 (0, 0)) (by (with_reducible repeat (first | refine ZbW ?_ _ | refine ZbD ?_ | refine ZbA ?_ _)); exact BK316.out) hb); have n1_ := Zam (ZbB (g := gb317) (o := .cells #[.int .i64 0, .int .i64 0, .slice none 0 0] 82 (0, 0)) (by (with_reducible repeat (first | refine ZbW ?_ _ | refine ZbD ?_ | refine ZbA ?_ _)); exact BK317.out) hb); have n2_ := Zam (ZbS (by repeat (first | (with_reducible first | exact HB.out | apply ZhA | apply ZhW | apply ZhD | refine ZhS ?_ GE316.out | refine ZhS ?_ GE317.out) | exact HB.out)) hb); clear BK316 BK317 HB; have BK316 := n0_; have BK317 := n1_; have HB := n2_; clear n0_ n1_ n2_; (try clear hb); (try clear hb2); (try clear hk); (try clear hi); have hcz16_0 : w15.cell? ⟨gb316, 0, none⟩ = some (.int .i64 a0_0) := (ZbC BK316.out 0).trans rfl; have hcz16_1 : w15.cell? ⟨gb316, 1, none⟩ = some (.int .i64 a0_1) := (ZbC BK316.out 1).trans rfl; have hcz16_2 : w15.cell? ⟨gb316, 2, none⟩ = some (.slice A0_2 l0_2.length c0_2) := (ZbC BK316.out 2).trans rfl; have hfz16_0 := ZbF BK316.out 0; have hfz16_1 := ZbF BK316.out 1; have hfz16_2 := ZbF BK316.out 2) | (go_at_call 130; (with_reducible refine (spec_l7Sides.calls a1 a2 true _ A8.out).mono ?_); rintro e w' ⟨rfl, ⟨nd, rfl⟩⟩; (try (rw [drewN_self w15]; generalize hq_ : World.drewN w15 _ = w15; have n0_ : Aside0 (w15.heap[gb316]? = some (.cells #[.int .i64 a0_0, .int .i64 a0_1, .slice A0_2 l0_2.length c0_2] 82 (0, 0))) := ⟨by rw [← hq_]; exact (by (with_reducible repeat (first | refine ZbW ?_ _ | refine ZbD ?_ | refine ZbA ?_ _)); exact BK316.out)⟩; have n1_ : Aside0 (w15.heap[gb317]? = some (.cells #[.int .i64 0, .int .i64 0, .slice none 0 0] 82 (0, 0))) := ⟨by rw [← hq_]; exact (by (with_reducible repeat (first | refine ZbW ?_ _ | refine ZbD ?_ | refine ZbA ?_ _)); exact BK317.out)⟩; have n2_ : Aside0 (Below w.heap.size w w15) := ⟨by rw [← hq_]; exact (by repeat (first | (with_reducible first | exact HB.out | apply ZhA | apply ZhW | apply ZhD | refine ZhS ?_ GE316.out | refine ZhS ?_ GE317.out) | exact HB.out))⟩; clear BK316 BK317 HB hq_; have BK316 := n0_; have BK317 := n1_; have HB := n2_; clear n0_ n1_ n2_; have hcy_0 : w15.cell? ⟨gb316, 0, none⟩ = some (.int .i64 a0_0) := (ZbC BK316.out 0).trans rfl; have hcy_1 : w15.cell? ⟨gb316, 1, none⟩ = some (.int .i64 a0_1) := (ZbC BK316.out 1).trans rfl; have hcy_2 : w15.cell? ⟨gb316, 2, none⟩ = some (.slice A0_2 l0_2.length c0_2) := (ZbC BK316.out 2).trans rfl))) | ((with_reducible refine gate_callee (f := 140) rfl ?_); refine goesL_ (some 50) rfl rfl Try.func140 (by kernel_rfl) rfl #[.agg #[.int .i64 a0_0, .int .i64 a0_1, .slice A0_2 l0_2.length c0_2], .int .i64 a1, .int .i64 a2] rfl (by (try simp only [Zm1, Zm2, Zm3]); first | done | rfl | (simp only [ZlL, ZlT]; rfl)) ?_; (with_reducible refine (spec_l7Grow.calls k a0_0 a0_1 _ _ l0_2 a1 a2 t320 t321 t322 _ ?side1 ?side2 A10.out).mono ?_); (case side1 => repeat (first | exact (Kd.C_below HR0_2.out HB.out) | (with_reducible refine Kd.C_alloc ?_ _) | (with_reducible refine Kd.C_drewN ?_ _) | (with_reducible refine Kd.C_drew ?_))); (case side2 => exact HC0_2.out); rintro e w17 ⟨v323, rfl, ho0, hb⟩; refine ⟨_, rfl, ?_⟩; have n0_ := Zam (Kd.R_lower ho0 (below_size (by repeat (first | (with_reducible first | exact HB.out | apply ZhA | apply ZhW | apply ZhD | refine ZhS ?_ GE316.out | refine ZhS ?_ GE317.out) | exact HB.out)))); have n1_ := Zam (ZbB (g := gb316) (o := .cells #[.int .i64 a0_0, .int .i64 a0_1, .slice A0_2 l0_2.length c0_2] 82 (0, 0)) (by (with_reducible repeat (first | refine ZbW ?_ _ | refine ZbD ?_ | refine ZbA ?_ _)); exact BK316.out) hb); have n2_ := Zam (ZbB (g := gb317) (o := .cells #[.int .i64 0, .int .i64 0, .slice none 0 0] 82 (0, 0)) (by (with_reducible repeat (first | refine ZbW ?_ _ | refine ZbD ?_ | refine ZbA ?_ _)); exact BK317.out) hb); have n3_ := Zam (ZbS (by repeat (first | (with_reducible first | exact HB.out | apply ZhA | apply ZhW | apply ZhD | refine ZhS ?_ GE316.out | refine ZhS ?_ GE317.out) | exact HB.out)) hb); clear BK316 BK317 HB; have HO324 := n0_; have BK316 := n1_; have BK317 := n2_; have HB := n3_; clear n0_ n1_ n2_ n3_; (try clear hb); (try clear hb2); (try clear hk); (try clear hi); (try clear ho0); have hcz18_0 : w17.cell? ⟨gb317, 0, none⟩ = some (.int .i64 0) := (ZbC BK317.out 0).trans rfl; have hcz18_1 : w17.cell? ⟨gb317, 1, none⟩ = some (.int .i64 0) := (ZbC BK317.out 1).trans rfl; have hcz18_2 : w17.cell? ⟨gb317, 2, none⟩ = some (.slice none 0 0) := (ZbC BK317.out 2).trans rfl; have hfz18_0 := ZbF BK317.out 0; have hfz18_1 := ZbF BK317.out 1; have hfz18_2 := ZbF BK317.out 2; obtain ⟨Ao19, co19, eo19⟩ := Kd.R_slice HO324.out; subst eo19))
  refine bodyPost_ret (results_cell_row rfl _ _ gb317 82 #[.int .i64 t320, .int .i64 t321, .slice Ao19 t322.length co19] (0, 0) _ rfl (set3_blk BK317.out) Try.underlying82 rfl (by kernel_rfl)) rfl ?_
  exact ⟨_, by first | rfl | (simp [*, errW_none, errW_some] <;> rfl), by (with_reducible repeat (first | apply ZrA | apply ZrW | apply ZrD)); exact Kd.R_mono (set3_R (Kd.R_types HO324.out BK317.out (by decide)) (fun _ hk => hk.2)) (fun _ hk => trivial), by repeat (first | (with_reducible first | exact HB.out | apply ZhA | apply ZhW | apply ZhD | refine ZhS ?_ GE316.out | refine ZhS ?_ GE317.out) | exact HB.out)⟩
 replace c9 := Bool.eq_false_iff.mpr c9
 subst c9
 replace H : (some (0, 0, ([] : List Int))) = some (r1, r2, r3) := by rw [if_neg (show ¬ (false = true) by decide)] at H; exact H
 simp only [Option.some.injEq, Prod.mk.injEq] at H
 obtain ⟨rfl, rfl, rfl⟩ := H
 rotate_left
 rw [if_neg c7] at H
 have c7b0 : (a2 == (wrap64 (2 * a0_1))) = false := beq_eq_false_iff_ne.mpr c7
 have c7b1 : (a2 != (wrap64 (2 * a0_1))) = true := bne_iff_ne.mpr c7
 by_cases c27 : a2 = (wrap64 ((wrap64 (2 * a0_1)) - 1))
 rw [if_pos c27] at H
 have c27b0 : (a2 == (wrap64 ((wrap64 (2 * a0_1)) - 1))) = true := beq_iff_eq.mpr c27
 have c27b1 : (a2 != (wrap64 ((wrap64 (2 * a0_1)) - 1))) = false := bne_eq_false_iff_eq.mpr c27
 clear c27
 replace H := Zob.mp H
 obtain ⟨t325, A280, H⟩ := H
 replace H : (if t325 = true then ((spec_l7Grow.f k a0_0 a0_1 l0_2 a1 a2).bind fun bt326 => (some (bt326.1, bt326.2.1, bt326.2.2))) else (some (0, 0, ([] : List Int)))) = some (r1, r2, r3) := H
 have A28 := Zam A280
 clear A280
 by_cases c29 : t325 = true
 ·subst c29
  replace H : ((spec_l7Grow.f k a0_0 a0_1 l0_2 a1 a2).bind fun bt326 => (some (bt326.1, bt326.2.1, bt326.2.2))) = some (r1, r2, r3) := by rw [if_pos rfl] at H; exact H
  replace H := Zob.mp H
  obtain ⟨⟨t326, t327, t328⟩, A300, H⟩ := H
  replace H : (some (t326, t327, t328)) = some (r1, r2, r3) := H
  have A30 := Zam A300
  clear A300
  simp only [Option.some.injEq, Prod.mk.injEq] at H
  obtain ⟨rfl, rfl, rfl⟩ := H
  go_enter Try.func65, Try.ntmps65
  go_wp2_with (first | ((with_reducible refine gate_dst (N := 3) rfl ?_); refine box_event ?hg (N := 3) ?hd (cs := #[.int .i64 a0_0, .int .i64 a0_1, .slice A0_2 l0_2.length c0_2]) (t := 82) ?hr ?_; (case hd => rfl); (case hg => rfl); (case hr => first | (go_simp; done) | (go_simp; rfl)); intro gb316 hg w31 hbox hb; have n0_ := Zam (ZbS (by repeat (first | (with_reducible first | exact HB.out | apply ZhA | apply ZhW | apply ZhD) | exact HB.out)) hb); have n1_ := Zam (hbox); have n2_ := Zam ((by rw [hg]; exact (below_size (by repeat (first | (with_reducible first | exact HB.out | apply ZhA | apply ZhW | apply ZhD) | exact HB.out))) : w.heap.size ≤ gb316)); have n3_ := n2_; clear HB; have HB := n0_; have BK316 := n1_; have GW316 := n2_; have GE316 := n3_; clear n0_ n1_ n2_ n3_; clear hb hbox hg) | ((with_reducible refine gate_dst (N := 6) rfl ?_); refine box_event ?hg (N := 6) ?hd (cs := #[.int .i64 0, .int .i64 0, .slice none 0 0]) (t := 82) ?hr ?_; (case hd => rfl); (case hg => rfl); (case hr => first | (go_simp; done) | (go_simp; rfl)); intro gb317 hg w32 hbox hb; have n0_ := Zam (ZbB (g := gb316) (o := .cells #[.int .i64 a0_0, .int .i64 a0_1, .slice A0_2 l0_2.length c0_2] 82 (0, 0)) (by (with_reducible repeat (first | refine ZbW ?_ _ | refine ZbD ?_ | refine ZbA ?_ _)); exact BK316.out) hb); have n1_ := Zam (ZbS (by repeat (first | (with_reducible first | exact HB.out | apply ZhA | apply ZhW | apply ZhD | refine ZhS ?_ GE316.out) | exact HB.out)) hb); have n2_ := Zam (hbox); have n3_ := Zam ((by rw [hg]; exact (below_size (by repeat (first | (with_reducible first | exact HB.out | apply ZhA | apply ZhW | apply ZhD | refine ZhS ?_ GE316.out) | exact HB.out))) : w.heap.size ≤ gb317)); have n4_ := n3_; have n5_ := Zam ((by rw [hg]; exact Nat.ne_of_lt (blk_lt (g := gb316) (o := .cells #[.int .i64 a0_0, .int .i64 a0_1, .slice A0_2 l0_2.length c0_2] 82 (0, 0)) (by (with_reducible repeat (first | refine ZbW ?_ _ | refine ZbD ?_ | refine ZbA ?_ _)); exact BK316.out)) : gb316 ≠ gb317)); have n6_ := Zam ((by rw [hg]; exact Nat.ne_of_gt (blk_lt (g := gb316) (o := .cells #[.int .i64 a0_0, .int .i64 a0_1, .slice A0_2 l0_2.length c0_2] 82 (0, 0)) (by (with_reducible repeat (first | refine ZbW ?_ _ | refine ZbD ?_ | refine ZbA ?_ _)); exact BK316.out)) : gb317 ≠ gb316)); clear BK316 HB; have BK316 := n0_; have HB := n1_; have BK317 := n2_; have GW317 := n3_; have GE317 := n4_; have NB316_317 := n5_; have NB317_316 := n6_; clear n0_ n1_ n2_ n3_ n4_ n5_ n6_; clear hb hbox hg; have hnb33 := NB316_317.out; have hnc33 := NB317_316.out; have hcz34_0 : w32.cell? ⟨gb316, 0, none⟩ = some (.int .i64 a0_0) := (ZbC BK316.out 0).trans rfl; have hcz34_1 : w32.cell? ⟨gb316, 1, none⟩ = some (.int .i64 a0_1) := (ZbC BK316.out 1).trans rfl; have hcz34_2 : w32.cell? ⟨gb316, 2, none⟩ = some (.slice A0_2 l0_2.length c0_2) := (ZbC BK316.out 2).trans rfl; have hfz34_0 := ZbF BK316.out 0; have hfz34_1 := ZbF BK316.out 1; have hfz34_2 := ZbF BK316.out 2) | ((with_reducible refine gate_callee (f := 58) rfl ?_); refine goesL_ (some 8) rfl rfl Try.func58 (by kernel_rfl) rfl #[.agg #[.int .i64 a0_0, .int .i64 a0_1, .slice A0_2 l0_2.length c0_2]] rfl (by (try simp only [Zm1, Zm2, Zm3]); first | done | rfl | (simp only [ZlL, ZlT]; rfl)) ?_; (with_reducible refine (spec_GoodPlane.calls k a0_0 a0_1 _ _ l0_2 true _ ?side1 ?side2 A4.out).mono ?_); (case side1 => repeat (first | exact (Kd.C_below HR0_2.out HB.out) | (with_reducible refine Kd.C_alloc ?_ _) | (with_reducible refine Kd.C_drewN ?_ _) | (with_reducible refine Kd.C_drew ?_))); (case side2 => exact HC0_2.out); rintro e w35 ⟨rfl, hb⟩; refine ⟨_, rfl, ?_⟩; have n0_ := Zam (ZbB (g := gb316) (o := .cells #[.int .i64 a0_0, .int .i64 a0_1, .slice A0_2 l0_2.length c0_2] 82 (0, 0)) (by (with_reducible repeat (first | refine ZbW ?_ _ | refine ZbD ?_ | refine ZbA ?_ _)); exact BK316.out) hb); have n1_ := Zam (ZbB (g := gb317) (o := .cells #[.int .i64 0, .int .i64 0, .slice none 0 0] 82 (0, 0)) (by (with_reducible repeat (first | refine ZbW ?_ _ | refine ZbD ?_ | refine ZbA ?_ _)); exact BK317.out) hb); have n2_ := Zam (ZbS (by repeat (first | (with_reducible first | exact HB.out | apply ZhA | apply ZhW | apply ZhD | refine ZhS ?_ GE316.out | refine ZhS ?_ GE317.out) | exact HB.out)) hb); clear BK316 BK317 HB; have BK316 := n0_; have BK317 := n1_; have HB := n2_; clear n0_ n1_ n2_; (try clear hb); (try clear hb2); (try clear hk); (try clear hi); have hcz36_0 : w35.cell? ⟨gb316, 0, none⟩ = some (.int .i64 a0_0) := (ZbC BK316.out 0).trans rfl; have hcz36_1 : w35.cell? ⟨gb316, 1, none⟩ = some (.int .i64 a0_1) := (ZbC BK316.out 1).trans rfl; have hcz36_2 : w35.cell? ⟨gb316, 2, none⟩ = some (.slice A0_2 l0_2.length c0_2) := (ZbC BK316.out 2).trans rfl; have hfz36_0 := ZbF BK316.out 0; have hfz36_1 := ZbF BK316.out 1; have hfz36_2 := ZbF BK316.out 2) | (go_at_call 130; (with_reducible refine (spec_l7Sides.calls a1 a2 true _ A28.out).mono ?_); rintro e w' ⟨rfl, ⟨nd, rfl⟩⟩; (try (rw [drewN_self w35]; generalize hq_ : World.drewN w35 _ = w35; have n0_ : Aside0 (w35.heap[gb316]? = some (.cells #[.int .i64 a0_0, .int .i64 a0_1, .slice A0_2 l0_2.length c0_2] 82 (0, 0))) := ⟨by rw [← hq_]; exact (by (with_reducible repeat (first | refine ZbW ?_ _ | refine ZbD ?_ | refine ZbA ?_ _)); exact BK316.out)⟩; have n1_ : Aside0 (w35.heap[gb317]? = some (.cells #[.int .i64 0, .int .i64 0, .slice none 0 0] 82 (0, 0))) := ⟨by rw [← hq_]; exact (by (with_reducible repeat (first | refine ZbW ?_ _ | refine ZbD ?_ | refine ZbA ?_ _)); exact BK317.out)⟩; have n2_ : Aside0 (Below w.heap.size w w35) := ⟨by rw [← hq_]; exact (by repeat (first | (with_reducible first | exact HB.out | apply ZhA | apply ZhW | apply ZhD | refine ZhS ?_ GE316.out | refine ZhS ?_ GE317.out) | exact HB.out))⟩; clear BK316 BK317 HB hq_; have BK316 := n0_; have BK317 := n1_; have HB := n2_; clear n0_ n1_ n2_; have hcy_0 : w35.cell? ⟨gb316, 0, none⟩ = some (.int .i64 a0_0) := (ZbC BK316.out 0).trans rfl; have hcy_1 : w35.cell? ⟨gb316, 1, none⟩ = some (.int .i64 a0_1) := (ZbC BK316.out 1).trans rfl; have hcy_2 : w35.cell? ⟨gb316, 2, none⟩ = some (.slice A0_2 l0_2.length c0_2) := (ZbC BK316.out 2).trans rfl))) | ((with_reducible refine gate_callee (f := 140) rfl ?_); refine goesL_ (some 50) rfl rfl Try.func140 (by kernel_rfl) rfl #[.agg #[.int .i64 a0_0, .int .i64 a0_1, .slice A0_2 l0_2.length c0_2], .int .i64 a1, .int .i64 a2] rfl (by (try simp only [Zm1, Zm2, Zm3]); first | done | rfl | (simp only [ZlL, ZlT]; rfl)) ?_; (with_reducible refine (spec_l7Grow.calls k a0_0 a0_1 _ _ l0_2 a1 a2 t326 t327 t328 _ ?side1 ?side2 A30.out).mono ?_); (case side1 => repeat (first | exact (Kd.C_below HR0_2.out HB.out) | (with_reducible refine Kd.C_alloc ?_ _) | (with_reducible refine Kd.C_drewN ?_ _) | (with_reducible refine Kd.C_drew ?_))); (case side2 => exact HC0_2.out); rintro e w37 ⟨v329, rfl, ho0, hb⟩; refine ⟨_, rfl, ?_⟩; have n0_ := Zam (Kd.R_lower ho0 (below_size (by repeat (first | (with_reducible first | exact HB.out | apply ZhA | apply ZhW | apply ZhD | refine ZhS ?_ GE316.out | refine ZhS ?_ GE317.out) | exact HB.out)))); have n1_ := Zam (ZbB (g := gb316) (o := .cells #[.int .i64 a0_0, .int .i64 a0_1, .slice A0_2 l0_2.length c0_2] 82 (0, 0)) (by (with_reducible repeat (first | refine ZbW ?_ _ | refine ZbD ?_ | refine ZbA ?_ _)); exact BK316.out) hb); have n2_ := Zam (ZbB (g := gb317) (o := .cells #[.int .i64 0, .int .i64 0, .slice none 0 0] 82 (0, 0)) (by (with_reducible repeat (first | refine ZbW ?_ _ | refine ZbD ?_ | refine ZbA ?_ _)); exact BK317.out) hb); have n3_ := Zam (ZbS (by repeat (first | (with_reducible first | exact HB.out | apply ZhA | apply ZhW | apply ZhD | refine ZhS ?_ GE316.out | refine ZhS ?_ GE317.out) | exact HB.out)) hb); clear BK316 BK317 HB; have HO330 := n0_; have BK316 := n1_; have BK317 := n2_; have HB := n3_; clear n0_ n1_ n2_ n3_; (try clear hb); (try clear hb2); (try clear hk); (try clear hi); (try clear ho0); have hcz38_0 : w37.cell? ⟨gb317, 0, none⟩ = some (.int .i64 0) := (ZbC BK317.out 0).trans rfl; have hcz38_1 : w37.cell? ⟨gb317, 1, none⟩ = some (.int .i64 0) := (ZbC BK317.out 1).trans rfl; have hcz38_2 : w37.cell? ⟨gb317, 2, none⟩ = some (.slice none 0 0) := (ZbC BK317.out 2).trans rfl; have hfz38_0 := ZbF BK317.out 0; have hfz38_1 := ZbF BK317.out 1; have hfz38_2 := ZbF BK317.out 2; obtain ⟨Ao39, co39, eo39⟩ := Kd.R_slice HO330.out; subst eo39))
  refine bodyPost_ret (results_cell_row rfl _ _ gb317 82 #[.int .i64 t326, .int .i64 t327, .slice Ao39 t328.length co39] (0, 0) _ rfl (set3_blk BK317.out) Try.underlying82 rfl (by kernel_rfl)) rfl ?_
  exact ⟨_, by first | rfl | (simp [*, errW_none, errW_some] <;> rfl), by (with_reducible repeat (first | apply ZrA | apply ZrW | apply ZrD)); exact Kd.R_mono (set3_R (Kd.R_types HO330.out BK317.out (by decide)) (fun _ hk => hk.2)) (fun _ hk => trivial), by repeat (first | (with_reducible first | exact HB.out | apply ZhA | apply ZhW | apply ZhD | refine ZhS ?_ GE316.out | refine ZhS ?_ GE317.out) | exact HB.out)⟩
 replace c29 := Bool.eq_false_iff.mpr c29
 subst c29
 have A8 := A28
 replace H : (some (0, 0, ([] : List Int))) = some (r1, r2, r3) := by rw [if_neg (show ¬ (false = true) by decide)] at H; exact H
 simp only [Option.some.injEq, Prod.mk.injEq] at H
 obtain ⟨rfl, rfl, rfl⟩ := H
 rotate_left
 ·rw [if_neg c27] at H
  have c27b0 : (a2 == (wrap64 ((wrap64 (2 * a0_1)) - 1))) = false := beq_eq_false_iff_ne.mpr c27
  have c27b1 : (a2 != (wrap64 ((wrap64 (2 * a0_1)) - 1))) = true := bne_iff_ne.mpr c27
  simp only [Option.some.injEq, Prod.mk.injEq] at H
  obtain ⟨rfl, rfl, rfl⟩ := H
  go_enter Try.func65, Try.ntmps65
  go_wp2_with (first | ((with_reducible refine gate_dst (N := 3) rfl ?_); refine box_event ?hg (N := 3) ?hd (cs := #[.int .i64 a0_0, .int .i64 a0_1, .slice A0_2 l0_2.length c0_2]) (t := 82) ?hr ?_; (case hd => rfl); (case hg => rfl); (case hr => first | (go_simp; done) | (go_simp; rfl)); intro gb316 hg w47 hbox hb; have n0_ := Zam (ZbS (by repeat (first | (with_reducible first | exact HB.out | apply ZhA | apply ZhW | apply ZhD) | exact HB.out)) hb); have n1_ := Zam (hbox); have n2_ := Zam ((by rw [hg]; exact (below_size (by repeat (first | (with_reducible first | exact HB.out | apply ZhA | apply ZhW | apply ZhD) | exact HB.out))) : w.heap.size ≤ gb316)); have n3_ := n2_; clear HB; have HB := n0_; have BK316 := n1_; have GW316 := n2_; have GE316 := n3_; clear n0_ n1_ n2_ n3_; clear hb hbox hg) | ((with_reducible refine gate_dst (N := 6) rfl ?_); refine box_event ?hg (N := 6) ?hd (cs := #[.int .i64 0, .int .i64 0, .slice none 0 0]) (t := 82) ?hr ?_; (case hd => rfl); (case hg => rfl); (case hr => first | (go_simp; done) | (go_simp; rfl)); intro gb317 hg w48 hbox hb; have n0_ := Zam (ZbB (g := gb316) (o := .cells #[.int .i64 a0_0, .int .i64 a0_1, .slice A0_2 l0_2.length c0_2] 82 (0, 0)) (by (with_reducible repeat (first | refine ZbW ?_ _ | refine ZbD ?_ | refine ZbA ?_ _)); exact BK316.out) hb); have n1_ := Zam (ZbS (by repeat (first | (with_reducible first | exact HB.out | apply ZhA | apply ZhW | apply ZhD | refine ZhS ?_ GE316.out) | exact HB.out)) hb); have n2_ := Zam (hbox); have n3_ := Zam ((by rw [hg]; exact (below_size (by repeat (first | (with_reducible first | exact HB.out | apply ZhA | apply ZhW | apply ZhD | refine ZhS ?_ GE316.out) | exact HB.out))) : w.heap.size ≤ gb317)); have n4_ := n3_; have n5_ := Zam ((by rw [hg]; exact Nat.ne_of_lt (blk_lt (g := gb316) (o := .cells #[.int .i64 a0_0, .int .i64 a0_1, .slice A0_2 l0_2.length c0_2] 82 (0, 0)) (by (with_reducible repeat (first | refine ZbW ?_ _ | refine ZbD ?_ | refine ZbA ?_ _)); exact BK316.out)) : gb316 ≠ gb317)); have n6_ := Zam ((by rw [hg]; exact Nat.ne_of_gt (blk_lt (g := gb316) (o := .cells #[.int .i64 a0_0, .int .i64 a0_1, .slice A0_2 l0_2.length c0_2] 82 (0, 0)) (by (with_reducible repeat (first | refine ZbW ?_ _ | refine ZbD ?_ | refine ZbA ?_ _)); exact BK316.out)) : gb317 ≠ gb316)); clear BK316 HB; have BK316 := n0_; have HB := n1_; have BK317 := n2_; have GW317 := n3_; have GE317 := n4_; have NB316_317 := n5_; have NB317_316 := n6_; clear n0_ n1_ n2_ n3_ n4_ n5_ n6_; clear hb hbox hg; have hnb49 := NB316_317.out; have hnc49 := NB317_316.out; have hcz50_0 : w48.cell? ⟨gb316, 0, none⟩ = some (.int .i64 a0_0) := (ZbC BK316.out 0).trans rfl; have hcz50_1 : w48.cell? ⟨gb316, 1, none⟩ = some (.int .i64 a0_1) := (ZbC BK316.out 1).trans rfl; have hcz50_2 : w48.cell? ⟨gb316, 2, none⟩ = some (.slice A0_2 l0_2.length c0_2) := (ZbC BK316.out 2).trans rfl; have hfz50_0 := ZbF BK316.out 0; have hfz50_1 := ZbF BK316.out 1; have hfz50_2 := ZbF BK316.out 2) | ((with_reducible refine gate_callee (f := 58) rfl ?_); refine goesL_ (some 8) rfl rfl Try.func58 (by kernel_rfl) rfl #[.agg #[.int .i64 a0_0, .int .i64 a0_1, .slice A0_2 l0_2.length c0_2]] rfl (by (try simp only [Zm1, Zm2, Zm3]); first | done | rfl | (simp only [ZlL, ZlT]; rfl)) ?_; (with_reducible refine (spec_GoodPlane.calls k a0_0 a0_1 _ _ l0_2 true _ ?side1 ?side2 A4.out).mono ?_); (case side1 => repeat (first | exact (Kd.C_below HR0_2.out HB.out) | (with_reducible refine Kd.C_alloc ?_ _) | (with_reducible refine Kd.C_drewN ?_ _) | (with_reducible refine Kd.C_drew ?_))); (case side2 => exact HC0_2.out); rintro e w51 ⟨rfl, hb⟩; refine ⟨_, rfl, ?_⟩; have n0_ := Zam (ZbB (g := gb316) (o := .cells #[.int .i64 a0_0, .int .i64 a0_1, .slice A0_2 l0_2.length c0_2] 82 (0, 0)) (by (with_reducible repeat (first | refine ZbW ?_ _ | refine ZbD ?_ | refine ZbA ?_ _)); exact BK316.out) hb); have n1_ := Zam (ZbB (g := gb317) (o := .cells #[.int .i64 0, .int .i64 0, .slice none 0 0] 82 (0, 0)) (by (with_reducible repeat (first | refine ZbW ?_ _ | refine ZbD ?_ | refine ZbA ?_ _)); exact BK317.out) hb); have n2_ := Zam (ZbS (by repeat (first | (with_reducible first | exact HB.out | apply ZhA | apply ZhW | apply ZhD | refine ZhS ?_ GE316.out | refine ZhS ?_ GE317.out) | exact HB.out)) hb); clear BK316 BK317 HB; have BK316 := n0_; have BK317 := n1_; have HB := n2_; clear n0_ n1_ n2_; (try clear hb); (try clear hb2); (try clear hk); (try clear hi); have hcz52_0 : w51.cell? ⟨gb316, 0, none⟩ = some (.int .i64 a0_0) := (ZbC BK316.out 0).trans rfl; have hcz52_1 : w51.cell? ⟨gb316, 1, none⟩ = some (.int .i64 a0_1) := (ZbC BK316.out 1).trans rfl; have hcz52_2 : w51.cell? ⟨gb316, 2, none⟩ = some (.slice A0_2 l0_2.length c0_2) := (ZbC BK316.out 2).trans rfl; have hfz52_0 := ZbF BK316.out 0; have hfz52_1 := ZbF BK316.out 1; have hfz52_2 := ZbF BK316.out 2; have hcz53_0 : w51.cell? ⟨gb317, 0, none⟩ = some (.int .i64 0) := (ZbC BK317.out 0).trans rfl; have hcz53_1 : w51.cell? ⟨gb317, 1, none⟩ = some (.int .i64 0) := (ZbC BK317.out 1).trans rfl; have hcz53_2 : w51.cell? ⟨gb317, 2, none⟩ = some (.slice none 0 0) := (ZbC BK317.out 2).trans rfl; have hfz53_0 := ZbF BK317.out 0; have hfz53_1 := ZbF BK317.out 1; have hfz53_2 := ZbF BK317.out 2))
  refine bodyPost_ret (results_cell_row rfl _ _ gb317 82 #[.int .i64 0, .int .i64 0, .slice none 0 0] (0, 0) _ rfl (set3_blk BK317.out) Try.underlying82 rfl (by kernel_rfl)) rfl ?_
  exact ⟨_, by first | rfl | (simp [*, errW_none, errW_some] <;> rfl), by first | exact Kd.R_nil _ _ _ _ _ | exact Kd.N_nil _ _ _ _ _ | exact Kd.V_nil _ _ _ _ _ | exact Kd.Q_nil _ _ _ _ _ | exact Kd.S_nil _ _ _ _ _, by repeat (first | (with_reducible first | exact HB.out | apply ZhA | apply ZhW | apply ZhD | refine ZhS ?_ GE316.out | refine ZhS ?_ GE317.out) | exact HB.out)⟩
 rw [if_neg c6] at H
 have c6b0 : (a1 == (wrap64 (2 * a0_0))) = false := beq_eq_false_iff_ne.mpr c6
 have c6b1 : (a1 != (wrap64 (2 * a0_0))) = true := bne_iff_ne.mpr c6
 by_cases c54 : a1 = (wrap64 ((wrap64 (2 * a0_0)) - 1))
 rw [if_pos c54] at H
 have c54b0 : (a1 == (wrap64 ((wrap64 (2 * a0_0)) - 1))) = true := beq_iff_eq.mpr c54
 have c54b1 : (a1 != (wrap64 ((wrap64 (2 * a0_0)) - 1))) = false := bne_eq_false_iff_eq.mpr c54
 clear c54
 by_cases c55 : a2 = (wrap64 (2 * a0_1))
 rw [if_pos c55] at H
 have c55b0 : (a2 == (wrap64 (2 * a0_1))) = true := beq_iff_eq.mpr c55
 have c55b1 : (a2 != (wrap64 (2 * a0_1))) = false := bne_eq_false_iff_eq.mpr c55
 clear c55
 replace H := Zob.mp H
 obtain ⟨t331, A560, H⟩ := H
 replace H : (if t331 = true then ((spec_l7Grow.f k a0_0 a0_1 l0_2 a1 a2).bind fun bt332 => (some (bt332.1, bt332.2.1, bt332.2.2))) else (some (0, 0, ([] : List Int)))) = some (r1, r2, r3) := H
 have A56 := Zam A560
 clear A560
 by_cases c57 : t331 = true
 ·subst c57
  replace H : ((spec_l7Grow.f k a0_0 a0_1 l0_2 a1 a2).bind fun bt332 => (some (bt332.1, bt332.2.1, bt332.2.2))) = some (r1, r2, r3) := by rw [if_pos rfl] at H; exact H
  replace H := Zob.mp H
  obtain ⟨⟨t332, t333, t334⟩, A580, H⟩ := H
  replace H : (some (t332, t333, t334)) = some (r1, r2, r3) := H
  have A58 := Zam A580
  clear A580
  simp only [Option.some.injEq, Prod.mk.injEq] at H
  obtain ⟨rfl, rfl, rfl⟩ := H
  go_enter Try.func65, Try.ntmps65
  go_wp2_with (first | ((with_reducible refine gate_dst (N := 3) rfl ?_); refine box_event ?hg (N := 3) ?hd (cs := #[.int .i64 a0_0, .int .i64 a0_1, .slice A0_2 l0_2.length c0_2]) (t := 82) ?hr ?_; (case hd => rfl); (case hg => rfl); (case hr => first | (go_simp; done) | (go_simp; rfl)); intro gb316 hg w59 hbox hb; have n0_ := Zam (ZbS (by repeat (first | (with_reducible first | exact HB.out | apply ZhA | apply ZhW | apply ZhD) | exact HB.out)) hb); have n1_ := Zam (hbox); have n2_ := Zam ((by rw [hg]; exact (below_size (by repeat (first | (with_reducible first | exact HB.out | apply ZhA | apply ZhW | apply ZhD) | exact HB.out))) : w.heap.size ≤ gb316)); have n3_ := n2_; clear HB; have HB := n0_; have BK316 := n1_; have GW316 := n2_; have GE316 := n3_; clear n0_ n1_ n2_ n3_; clear hb hbox hg) | ((with_reducible refine gate_dst (N := 6) rfl ?_); refine box_event ?hg (N := 6) ?hd (cs := #[.int .i64 0, .int .i64 0, .slice none 0 0]) (t := 82) ?hr ?_; (case hd => rfl); (case hg => rfl); (case hr => first | (go_simp; done) | (go_simp; rfl)); intro gb317 hg w60 hbox hb; have n0_ := Zam (ZbB (g := gb316) (o := .cells #[.int .i64 a0_0, .int .i64 a0_1, .slice A0_2 l0_2.length c0_2] 82 (0, 0)) (by (with_reducible repeat (first | refine ZbW ?_ _ | refine ZbD ?_ | refine ZbA ?_ _)); exact BK316.out) hb); have n1_ := Zam (ZbS (by repeat (first | (with_reducible first | exact HB.out | apply ZhA | apply ZhW | apply ZhD | refine ZhS ?_ GE316.out) | exact HB.out)) hb); have n2_ := Zam (hbox); have n3_ := Zam ((by rw [hg]; exact (below_size (by repeat (first | (with_reducible first | exact HB.out | apply ZhA | apply ZhW | apply ZhD | refine ZhS ?_ GE316.out) | exact HB.out))) : w.heap.size ≤ gb317)); have n4_ := n3_; have n5_ := Zam ((by rw [hg]; exact Nat.ne_of_lt (blk_lt (g := gb316) (o := .cells #[.int .i64 a0_0, .int .i64 a0_1, .slice A0_2 l0_2.length c0_2] 82 (0, 0)) (by (with_reducible repeat (first | refine ZbW ?_ _ | refine ZbD ?_ | refine ZbA ?_ _)); exact BK316.out)) : gb316 ≠ gb317)); have n6_ := Zam ((by rw [hg]; exact Nat.ne_of_gt (blk_lt (g := gb316) (o := .cells #[.int .i64 a0_0, .int .i64 a0_1, .slice A0_2 l0_2.length c0_2] 82 (0, 0)) (by (with_reducible repeat (first | refine ZbW ?_ _ | refine ZbD ?_ | refine ZbA ?_ _)); exact BK316.out)) : gb317 ≠ gb316)); clear BK316 HB; have BK316 := n0_; have HB := n1_; have BK317 := n2_; have GW317 := n3_; have GE317 := n4_; have NB316_317 := n5_; have NB317_316 := n6_; clear n0_ n1_ n2_ n3_ n4_ n5_ n6_; clear hb hbox hg; have hnb61 := NB316_317.out; have hnc61 := NB317_316.out; have hcz62_0 : w60.cell? ⟨gb316, 0, none⟩ = some (.int .i64 a0_0) := (ZbC BK316.out 0).trans rfl; have hcz62_1 : w60.cell? ⟨gb316, 1, none⟩ = some (.int .i64 a0_1) := (ZbC BK316.out 1).trans rfl; have hcz62_2 : w60.cell? ⟨gb316, 2, none⟩ = some (.slice A0_2 l0_2.length c0_2) := (ZbC BK316.out 2).trans rfl; have hfz62_0 := ZbF BK316.out 0; have hfz62_1 := ZbF BK316.out 1; have hfz62_2 := ZbF BK316.out 2) | ((with_reducible refine gate_callee (f := 58) rfl ?_); refine goesL_ (some 8) rfl rfl Try.func58 (by kernel_rfl) rfl #[.agg #[.int .i64 a0_0, .int .i64 a0_1, .slice A0_2 l0_2.length c0_2]] rfl (by (try simp only [Zm1, Zm2, Zm3]); first | done | rfl | (simp only [ZlL, ZlT]; rfl)) ?_; (with_reducible refine (spec_GoodPlane.calls k a0_0 a0_1 _ _ l0_2 true _ ?side1 ?side2 A4.out).mono ?_); (case side1 => repeat (first | exact (Kd.C_below HR0_2.out HB.out) | (with_reducible refine Kd.C_alloc ?_ _) | (with_reducible refine Kd.C_drewN ?_ _) | (with_reducible refine Kd.C_drew ?_))); (case side2 => exact HC0_2.out); rintro e w63 ⟨rfl, hb⟩; refine ⟨_, rfl, ?_⟩; have n0_ := Zam (ZbB (g := gb316) (o := .cells #[.int .i64 a0_0, .int .i64 a0_1, .slice A0_2 l0_2.length c0_2] 82 (0, 0)) (by (with_reducible repeat (first | refine ZbW ?_ _ | refine ZbD ?_ | refine ZbA ?_ _)); exact BK316.out) hb); have n1_ := Zam (ZbB (g := gb317) (o := .cells #[.int .i64 0, .int .i64 0, .slice none 0 0] 82 (0, 0)) (by (with_reducible repeat (first | refine ZbW ?_ _ | refine ZbD ?_ | refine ZbA ?_ _)); exact BK317.out) hb); have n2_ := Zam (ZbS (by repeat (first | (with_reducible first | exact HB.out | apply ZhA | apply ZhW | apply ZhD | refine ZhS ?_ GE316.out | refine ZhS ?_ GE317.out) | exact HB.out)) hb); clear BK316 BK317 HB; have BK316 := n0_; have BK317 := n1_; have HB := n2_; clear n0_ n1_ n2_; (try clear hb); (try clear hb2); (try clear hk); (try clear hi); have hcz64_0 : w63.cell? ⟨gb316, 0, none⟩ = some (.int .i64 a0_0) := (ZbC BK316.out 0).trans rfl; have hcz64_1 : w63.cell? ⟨gb316, 1, none⟩ = some (.int .i64 a0_1) := (ZbC BK316.out 1).trans rfl; have hcz64_2 : w63.cell? ⟨gb316, 2, none⟩ = some (.slice A0_2 l0_2.length c0_2) := (ZbC BK316.out 2).trans rfl; have hfz64_0 := ZbF BK316.out 0; have hfz64_1 := ZbF BK316.out 1; have hfz64_2 := ZbF BK316.out 2) | (go_at_call 130; (with_reducible refine (spec_l7Sides.calls a1 a2 true _ A56.out).mono ?_); rintro e w' ⟨rfl, ⟨nd, rfl⟩⟩; (try (rw [drewN_self w63]; generalize hq_ : World.drewN w63 _ = w63; have n0_ : Aside0 (w63.heap[gb316]? = some (.cells #[.int .i64 a0_0, .int .i64 a0_1, .slice A0_2 l0_2.length c0_2] 82 (0, 0))) := ⟨by rw [← hq_]; exact (by (with_reducible repeat (first | refine ZbW ?_ _ | refine ZbD ?_ | refine ZbA ?_ _)); exact BK316.out)⟩; have n1_ : Aside0 (w63.heap[gb317]? = some (.cells #[.int .i64 0, .int .i64 0, .slice none 0 0] 82 (0, 0))) := ⟨by rw [← hq_]; exact (by (with_reducible repeat (first | refine ZbW ?_ _ | refine ZbD ?_ | refine ZbA ?_ _)); exact BK317.out)⟩; have n2_ : Aside0 (Below w.heap.size w w63) := ⟨by rw [← hq_]; exact (by repeat (first | (with_reducible first | exact HB.out | apply ZhA | apply ZhW | apply ZhD | refine ZhS ?_ GE316.out | refine ZhS ?_ GE317.out) | exact HB.out))⟩; clear BK316 BK317 HB hq_; have BK316 := n0_; have BK317 := n1_; have HB := n2_; clear n0_ n1_ n2_; have hcy_0 : w63.cell? ⟨gb316, 0, none⟩ = some (.int .i64 a0_0) := (ZbC BK316.out 0).trans rfl; have hcy_1 : w63.cell? ⟨gb316, 1, none⟩ = some (.int .i64 a0_1) := (ZbC BK316.out 1).trans rfl; have hcy_2 : w63.cell? ⟨gb316, 2, none⟩ = some (.slice A0_2 l0_2.length c0_2) := (ZbC BK316.out 2).trans rfl))) | ((with_reducible refine gate_callee (f := 140) rfl ?_); refine goesL_ (some 50) rfl rfl Try.func140 (by kernel_rfl) rfl #[.agg #[.int .i64 a0_0, .int .i64 a0_1, .slice A0_2 l0_2.length c0_2], .int .i64 a1, .int .i64 a2] rfl (by (try simp only [Zm1, Zm2, Zm3]); first | done | rfl | (simp only [ZlL, ZlT]; rfl)) ?_; (with_reducible refine (spec_l7Grow.calls k a0_0 a0_1 _ _ l0_2 a1 a2 t332 t333 t334 _ ?side1 ?side2 A58.out).mono ?_); (case side1 => repeat (first | exact (Kd.C_below HR0_2.out HB.out) | (with_reducible refine Kd.C_alloc ?_ _) | (with_reducible refine Kd.C_drewN ?_ _) | (with_reducible refine Kd.C_drew ?_))); (case side2 => exact HC0_2.out); rintro e w65 ⟨v335, rfl, ho0, hb⟩; refine ⟨_, rfl, ?_⟩; have n0_ := Zam (Kd.R_lower ho0 (below_size (by repeat (first | (with_reducible first | exact HB.out | apply ZhA | apply ZhW | apply ZhD | refine ZhS ?_ GE316.out | refine ZhS ?_ GE317.out) | exact HB.out)))); have n1_ := Zam (ZbB (g := gb316) (o := .cells #[.int .i64 a0_0, .int .i64 a0_1, .slice A0_2 l0_2.length c0_2] 82 (0, 0)) (by (with_reducible repeat (first | refine ZbW ?_ _ | refine ZbD ?_ | refine ZbA ?_ _)); exact BK316.out) hb); have n2_ := Zam (ZbB (g := gb317) (o := .cells #[.int .i64 0, .int .i64 0, .slice none 0 0] 82 (0, 0)) (by (with_reducible repeat (first | refine ZbW ?_ _ | refine ZbD ?_ | refine ZbA ?_ _)); exact BK317.out) hb); have n3_ := Zam (ZbS (by repeat (first | (with_reducible first | exact HB.out | apply ZhA | apply ZhW | apply ZhD | refine ZhS ?_ GE316.out | refine ZhS ?_ GE317.out) | exact HB.out)) hb); clear BK316 BK317 HB; have HO336 := n0_; have BK316 := n1_; have BK317 := n2_; have HB := n3_; clear n0_ n1_ n2_ n3_; (try clear hb); (try clear hb2); (try clear hk); (try clear hi); (try clear ho0); have hcz66_0 : w65.cell? ⟨gb317, 0, none⟩ = some (.int .i64 0) := (ZbC BK317.out 0).trans rfl; have hcz66_1 : w65.cell? ⟨gb317, 1, none⟩ = some (.int .i64 0) := (ZbC BK317.out 1).trans rfl; have hcz66_2 : w65.cell? ⟨gb317, 2, none⟩ = some (.slice none 0 0) := (ZbC BK317.out 2).trans rfl; have hfz66_0 := ZbF BK317.out 0; have hfz66_1 := ZbF BK317.out 1; have hfz66_2 := ZbF BK317.out 2; obtain ⟨Ao67, co67, eo67⟩ := Kd.R_slice HO336.out; subst eo67))
  refine bodyPost_ret (results_cell_row rfl _ _ gb317 82 #[.int .i64 t332, .int .i64 t333, .slice Ao67 t334.length co67] (0, 0) _ rfl (set3_blk BK317.out) Try.underlying82 rfl (by kernel_rfl)) rfl ?_
  exact ⟨_, by first | rfl | (simp [*, errW_none, errW_some] <;> rfl), by (with_reducible repeat (first | apply ZrA | apply ZrW | apply ZrD)); exact Kd.R_mono (set3_R (Kd.R_types HO336.out BK317.out (by decide)) (fun _ hk => hk.2)) (fun _ hk => trivial), by repeat (first | (with_reducible first | exact HB.out | apply ZhA | apply ZhW | apply ZhD | refine ZhS ?_ GE316.out | refine ZhS ?_ GE317.out) | exact HB.out)⟩
 replace c57 := Bool.eq_false_iff.mpr c57
 subst c57
 have A8 := A56
 replace H : (some (0, 0, ([] : List Int))) = some (r1, r2, r3) := by rw [if_neg (show ¬ (false = true) by decide)] at H; exact H
 simp only [Option.some.injEq, Prod.mk.injEq] at H
 obtain ⟨rfl, rfl, rfl⟩ := H
 rotate_left
 rw [if_neg c55] at H
 have c55b0 : (a2 == (wrap64 (2 * a0_1))) = false := beq_eq_false_iff_ne.mpr c55
 have c55b1 : (a2 != (wrap64 (2 * a0_1))) = true := bne_iff_ne.mpr c55
 by_cases c75 : a2 = (wrap64 ((wrap64 (2 * a0_1)) - 1))
 rw [if_pos c75] at H
 have c75b0 : (a2 == (wrap64 ((wrap64 (2 * a0_1)) - 1))) = true := beq_iff_eq.mpr c75
 have c75b1 : (a2 != (wrap64 ((wrap64 (2 * a0_1)) - 1))) = false := bne_eq_false_iff_eq.mpr c75
 clear c75
 replace H := Zob.mp H
 obtain ⟨t337, A760, H⟩ := H
 replace H : (if t337 = true then ((spec_l7Grow.f k a0_0 a0_1 l0_2 a1 a2).bind fun bt338 => (some (bt338.1, bt338.2.1, bt338.2.2))) else (some (0, 0, ([] : List Int)))) = some (r1, r2, r3) := H
 have A76 := Zam A760
 clear A760
 by_cases c77 : t337 = true
 ·subst c77
  replace H : ((spec_l7Grow.f k a0_0 a0_1 l0_2 a1 a2).bind fun bt338 => (some (bt338.1, bt338.2.1, bt338.2.2))) = some (r1, r2, r3) := by rw [if_pos rfl] at H; exact H
  replace H := Zob.mp H
  obtain ⟨⟨t338, t339, t340⟩, A780, H⟩ := H
  replace H : (some (t338, t339, t340)) = some (r1, r2, r3) := H
  have A78 := Zam A780
  clear A780
  simp only [Option.some.injEq, Prod.mk.injEq] at H
  obtain ⟨rfl, rfl, rfl⟩ := H
  go_enter Try.func65, Try.ntmps65
  go_wp2_with (first | ((with_reducible refine gate_dst (N := 3) rfl ?_); refine box_event ?hg (N := 3) ?hd (cs := #[.int .i64 a0_0, .int .i64 a0_1, .slice A0_2 l0_2.length c0_2]) (t := 82) ?hr ?_; (case hd => rfl); (case hg => rfl); (case hr => first | (go_simp; done) | (go_simp; rfl)); intro gb316 hg w79 hbox hb; have n0_ := Zam (ZbS (by repeat (first | (with_reducible first | exact HB.out | apply ZhA | apply ZhW | apply ZhD) | exact HB.out)) hb); have n1_ := Zam (hbox); have n2_ := Zam ((by rw [hg]; exact (below_size (by repeat (first | (with_reducible first | exact HB.out | apply ZhA | apply ZhW | apply ZhD) | exact HB.out))) : w.heap.size ≤ gb316)); have n3_ := n2_; clear HB; have HB := n0_; have BK316 := n1_; have GW316 := n2_; have GE316 := n3_; clear n0_ n1_ n2_ n3_; clear hb hbox hg) | ((with_reducible refine gate_dst (N := 6) rfl ?_); refine box_event ?hg (N := 6) ?hd (cs := #[.int .i64 0, .int .i64 0, .slice none 0 0]) (t := 82) ?hr ?_; (case hd => rfl); (case hg => rfl); (case hr => first | (go_simp; done) | (go_simp; rfl)); intro gb317 hg w80 hbox hb; have n0_ := Zam (ZbB (g := gb316) (o := .cells #[.int .i64 a0_0, .int .i64 a0_1, .slice A0_2 l0_2.length c0_2] 82 (0, 0)) (by (with_reducible repeat (first | refine ZbW ?_ _ | refine ZbD ?_ | refine ZbA ?_ _)); exact BK316.out) hb); have n1_ := Zam (ZbS (by repeat (first | (with_reducible first | exact HB.out | apply ZhA | apply ZhW | apply ZhD | refine ZhS ?_ GE316.out) | exact HB.out)) hb); have n2_ := Zam (hbox); have n3_ := Zam ((by rw [hg]; exact (below_size (by repeat (first | (with_reducible first | exact HB.out | apply ZhA | apply ZhW | apply ZhD | refine ZhS ?_ GE316.out) | exact HB.out))) : w.heap.size ≤ gb317)); have n4_ := n3_; have n5_ := Zam ((by rw [hg]; exact Nat.ne_of_lt (blk_lt (g := gb316) (o := .cells #[.int .i64 a0_0, .int .i64 a0_1, .slice A0_2 l0_2.length c0_2] 82 (0, 0)) (by (with_reducible repeat (first | refine ZbW ?_ _ | refine ZbD ?_ | refine ZbA ?_ _)); exact BK316.out)) : gb316 ≠ gb317)); have n6_ := Zam ((by rw [hg]; exact Nat.ne_of_gt (blk_lt (g := gb316) (o := .cells #[.int .i64 a0_0, .int .i64 a0_1, .slice A0_2 l0_2.length c0_2] 82 (0, 0)) (by (with_reducible repeat (first | refine ZbW ?_ _ | refine ZbD ?_ | refine ZbA ?_ _)); exact BK316.out)) : gb317 ≠ gb316)); clear BK316 HB; have BK316 := n0_; have HB := n1_; have BK317 := n2_; have GW317 := n3_; have GE317 := n4_; have NB316_317 := n5_; have NB317_316 := n6_; clear n0_ n1_ n2_ n3_ n4_ n5_ n6_; clear hb hbox hg; have hnb81 := NB316_317.out; have hnc81 := NB317_316.out; have hcz82_0 : w80.cell? ⟨gb316, 0, none⟩ = some (.int .i64 a0_0) := (ZbC BK316.out 0).trans rfl; have hcz82_1 : w80.cell? ⟨gb316, 1, none⟩ = some (.int .i64 a0_1) := (ZbC BK316.out 1).trans rfl; have hcz82_2 : w80.cell? ⟨gb316, 2, none⟩ = some (.slice A0_2 l0_2.length c0_2) := (ZbC BK316.out 2).trans rfl; have hfz82_0 := ZbF BK316.out 0; have hfz82_1 := ZbF BK316.out 1; have hfz82_2 := ZbF BK316.out 2) | ((with_reducible refine gate_callee (f := 58) rfl ?_); refine goesL_ (some 8) rfl rfl Try.func58 (by kernel_rfl) rfl #[.agg #[.int .i64 a0_0, .int .i64 a0_1, .slice A0_2 l0_2.length c0_2]] rfl (by (try simp only [Zm1, Zm2, Zm3]); first | done | rfl | (simp only [ZlL, ZlT]; rfl)) ?_; (with_reducible refine (spec_GoodPlane.calls k a0_0 a0_1 _ _ l0_2 true _ ?side1 ?side2 A4.out).mono ?_); (case side1 => repeat (first | exact (Kd.C_below HR0_2.out HB.out) | (with_reducible refine Kd.C_alloc ?_ _) | (with_reducible refine Kd.C_drewN ?_ _) | (with_reducible refine Kd.C_drew ?_))); (case side2 => exact HC0_2.out); rintro e w83 ⟨rfl, hb⟩; refine ⟨_, rfl, ?_⟩; have n0_ := Zam (ZbB (g := gb316) (o := .cells #[.int .i64 a0_0, .int .i64 a0_1, .slice A0_2 l0_2.length c0_2] 82 (0, 0)) (by (with_reducible repeat (first | refine ZbW ?_ _ | refine ZbD ?_ | refine ZbA ?_ _)); exact BK316.out) hb); have n1_ := Zam (ZbB (g := gb317) (o := .cells #[.int .i64 0, .int .i64 0, .slice none 0 0] 82 (0, 0)) (by (with_reducible repeat (first | refine ZbW ?_ _ | refine ZbD ?_ | refine ZbA ?_ _)); exact BK317.out) hb); have n2_ := Zam (ZbS (by repeat (first | (with_reducible first | exact HB.out | apply ZhA | apply ZhW | apply ZhD | refine ZhS ?_ GE316.out | refine ZhS ?_ GE317.out) | exact HB.out)) hb); clear BK316 BK317 HB; have BK316 := n0_; have BK317 := n1_; have HB := n2_; clear n0_ n1_ n2_; (try clear hb); (try clear hb2); (try clear hk); (try clear hi); have hcz84_0 : w83.cell? ⟨gb316, 0, none⟩ = some (.int .i64 a0_0) := (ZbC BK316.out 0).trans rfl; have hcz84_1 : w83.cell? ⟨gb316, 1, none⟩ = some (.int .i64 a0_1) := (ZbC BK316.out 1).trans rfl; have hcz84_2 : w83.cell? ⟨gb316, 2, none⟩ = some (.slice A0_2 l0_2.length c0_2) := (ZbC BK316.out 2).trans rfl; have hfz84_0 := ZbF BK316.out 0; have hfz84_1 := ZbF BK316.out 1; have hfz84_2 := ZbF BK316.out 2) | (go_at_call 130; (with_reducible refine (spec_l7Sides.calls a1 a2 true _ A76.out).mono ?_); rintro e w' ⟨rfl, ⟨nd, rfl⟩⟩; (try (rw [drewN_self w83]; generalize hq_ : World.drewN w83 _ = w83; have n0_ : Aside0 (w83.heap[gb316]? = some (.cells #[.int .i64 a0_0, .int .i64 a0_1, .slice A0_2 l0_2.length c0_2] 82 (0, 0))) := ⟨by rw [← hq_]; exact (by (with_reducible repeat (first | refine ZbW ?_ _ | refine ZbD ?_ | refine ZbA ?_ _)); exact BK316.out)⟩; have n1_ : Aside0 (w83.heap[gb317]? = some (.cells #[.int .i64 0, .int .i64 0, .slice none 0 0] 82 (0, 0))) := ⟨by rw [← hq_]; exact (by (with_reducible repeat (first | refine ZbW ?_ _ | refine ZbD ?_ | refine ZbA ?_ _)); exact BK317.out)⟩; have n2_ : Aside0 (Below w.heap.size w w83) := ⟨by rw [← hq_]; exact (by repeat (first | (with_reducible first | exact HB.out | apply ZhA | apply ZhW | apply ZhD | refine ZhS ?_ GE316.out | refine ZhS ?_ GE317.out) | exact HB.out))⟩; clear BK316 BK317 HB hq_; have BK316 := n0_; have BK317 := n1_; have HB := n2_; clear n0_ n1_ n2_; have hcy_0 : w83.cell? ⟨gb316, 0, none⟩ = some (.int .i64 a0_0) := (ZbC BK316.out 0).trans rfl; have hcy_1 : w83.cell? ⟨gb316, 1, none⟩ = some (.int .i64 a0_1) := (ZbC BK316.out 1).trans rfl; have hcy_2 : w83.cell? ⟨gb316, 2, none⟩ = some (.slice A0_2 l0_2.length c0_2) := (ZbC BK316.out 2).trans rfl))) | ((with_reducible refine gate_callee (f := 140) rfl ?_); refine goesL_ (some 50) rfl rfl Try.func140 (by kernel_rfl) rfl #[.agg #[.int .i64 a0_0, .int .i64 a0_1, .slice A0_2 l0_2.length c0_2], .int .i64 a1, .int .i64 a2] rfl (by (try simp only [Zm1, Zm2, Zm3]); first | done | rfl | (simp only [ZlL, ZlT]; rfl)) ?_; (with_reducible refine (spec_l7Grow.calls k a0_0 a0_1 _ _ l0_2 a1 a2 t338 t339 t340 _ ?side1 ?side2 A78.out).mono ?_); (case side1 => repeat (first | exact (Kd.C_below HR0_2.out HB.out) | (with_reducible refine Kd.C_alloc ?_ _) | (with_reducible refine Kd.C_drewN ?_ _) | (with_reducible refine Kd.C_drew ?_))); (case side2 => exact HC0_2.out); rintro e w85 ⟨v341, rfl, ho0, hb⟩; refine ⟨_, rfl, ?_⟩; have n0_ := Zam (Kd.R_lower ho0 (below_size (by repeat (first | (with_reducible first | exact HB.out | apply ZhA | apply ZhW | apply ZhD | refine ZhS ?_ GE316.out | refine ZhS ?_ GE317.out) | exact HB.out)))); have n1_ := Zam (ZbB (g := gb316) (o := .cells #[.int .i64 a0_0, .int .i64 a0_1, .slice A0_2 l0_2.length c0_2] 82 (0, 0)) (by (with_reducible repeat (first | refine ZbW ?_ _ | refine ZbD ?_ | refine ZbA ?_ _)); exact BK316.out) hb); have n2_ := Zam (ZbB (g := gb317) (o := .cells #[.int .i64 0, .int .i64 0, .slice none 0 0] 82 (0, 0)) (by (with_reducible repeat (first | refine ZbW ?_ _ | refine ZbD ?_ | refine ZbA ?_ _)); exact BK317.out) hb); have n3_ := Zam (ZbS (by repeat (first | (with_reducible first | exact HB.out | apply ZhA | apply ZhW | apply ZhD | refine ZhS ?_ GE316.out | refine ZhS ?_ GE317.out) | exact HB.out)) hb); clear BK316 BK317 HB; have HO342 := n0_; have BK316 := n1_; have BK317 := n2_; have HB := n3_; clear n0_ n1_ n2_ n3_; (try clear hb); (try clear hb2); (try clear hk); (try clear hi); (try clear ho0); have hcz86_0 : w85.cell? ⟨gb317, 0, none⟩ = some (.int .i64 0) := (ZbC BK317.out 0).trans rfl; have hcz86_1 : w85.cell? ⟨gb317, 1, none⟩ = some (.int .i64 0) := (ZbC BK317.out 1).trans rfl; have hcz86_2 : w85.cell? ⟨gb317, 2, none⟩ = some (.slice none 0 0) := (ZbC BK317.out 2).trans rfl; have hfz86_0 := ZbF BK317.out 0; have hfz86_1 := ZbF BK317.out 1; have hfz86_2 := ZbF BK317.out 2; obtain ⟨Ao87, co87, eo87⟩ := Kd.R_slice HO342.out; subst eo87))
  refine bodyPost_ret (results_cell_row rfl _ _ gb317 82 #[.int .i64 t338, .int .i64 t339, .slice Ao87 t340.length co87] (0, 0) _ rfl (set3_blk BK317.out) Try.underlying82 rfl (by kernel_rfl)) rfl ?_
  exact ⟨_, by first | rfl | (simp [*, errW_none, errW_some] <;> rfl), by (with_reducible repeat (first | apply ZrA | apply ZrW | apply ZrD)); exact Kd.R_mono (set3_R (Kd.R_types HO342.out BK317.out (by decide)) (fun _ hk => hk.2)) (fun _ hk => trivial), by repeat (first | (with_reducible first | exact HB.out | apply ZhA | apply ZhW | apply ZhD | refine ZhS ?_ GE316.out | refine ZhS ?_ GE317.out) | exact HB.out)⟩
 replace c77 := Bool.eq_false_iff.mpr c77
 subst c77
 have A8 := A76
 replace H : (some (0, 0, ([] : List Int))) = some (r1, r2, r3) := by rw [if_neg (show ¬ (false = true) by decide)] at H; exact H
 simp only [Option.some.injEq, Prod.mk.injEq] at H
 obtain ⟨rfl, rfl, rfl⟩ := H
 rotate_left
 ·rw [if_neg c75] at H
  have c75b0 : (a2 == (wrap64 ((wrap64 (2 * a0_1)) - 1))) = false := beq_eq_false_iff_ne.mpr c75
  have c75b1 : (a2 != (wrap64 ((wrap64 (2 * a0_1)) - 1))) = true := bne_iff_ne.mpr c75
  simp only [Option.some.injEq, Prod.mk.injEq] at H
  obtain ⟨rfl, rfl, rfl⟩ := H
  go_enter Try.func65, Try.ntmps65
  go_wp2_with (first | ((with_reducible refine gate_dst (N := 3) rfl ?_); refine box_event ?hg (N := 3) ?hd (cs := #[.int .i64 a0_0, .int .i64 a0_1, .slice A0_2 l0_2.length c0_2]) (t := 82) ?hr ?_; (case hd => rfl); (case hg => rfl); (case hr => first | (go_simp; done) | (go_simp; rfl)); intro gb316 hg w95 hbox hb; have n0_ := Zam (ZbS (by repeat (first | (with_reducible first | exact HB.out | apply ZhA | apply ZhW | apply ZhD) | exact HB.out)) hb); have n1_ := Zam (hbox); have n2_ := Zam ((by rw [hg]; exact (below_size (by repeat (first | (with_reducible first | exact HB.out | apply ZhA | apply ZhW | apply ZhD) | exact HB.out))) : w.heap.size ≤ gb316)); have n3_ := n2_; clear HB; have HB := n0_; have BK316 := n1_; have GW316 := n2_; have GE316 := n3_; clear n0_ n1_ n2_ n3_; clear hb hbox hg) | ((with_reducible refine gate_dst (N := 6) rfl ?_); refine box_event ?hg (N := 6) ?hd (cs := #[.int .i64 0, .int .i64 0, .slice none 0 0]) (t := 82) ?hr ?_; (case hd => rfl); (case hg => rfl); (case hr => first | (go_simp; done) | (go_simp; rfl)); intro gb317 hg w96 hbox hb; have n0_ := Zam (ZbB (g := gb316) (o := .cells #[.int .i64 a0_0, .int .i64 a0_1, .slice A0_2 l0_2.length c0_2] 82 (0, 0)) (by (with_reducible repeat (first | refine ZbW ?_ _ | refine ZbD ?_ | refine ZbA ?_ _)); exact BK316.out) hb); have n1_ := Zam (ZbS (by repeat (first | (with_reducible first | exact HB.out | apply ZhA | apply ZhW | apply ZhD | refine ZhS ?_ GE316.out) | exact HB.out)) hb); have n2_ := Zam (hbox); have n3_ := Zam ((by rw [hg]; exact (below_size (by repeat (first | (with_reducible first | exact HB.out | apply ZhA | apply ZhW | apply ZhD | refine ZhS ?_ GE316.out) | exact HB.out))) : w.heap.size ≤ gb317)); have n4_ := n3_; have n5_ := Zam ((by rw [hg]; exact Nat.ne_of_lt (blk_lt (g := gb316) (o := .cells #[.int .i64 a0_0, .int .i64 a0_1, .slice A0_2 l0_2.length c0_2] 82 (0, 0)) (by (with_reducible repeat (first | refine ZbW ?_ _ | refine ZbD ?_ | refine ZbA ?_ _)); exact BK316.out)) : gb316 ≠ gb317)); have n6_ := Zam ((by rw [hg]; exact Nat.ne_of_gt (blk_lt (g := gb316) (o := .cells #[.int .i64 a0_0, .int .i64 a0_1, .slice A0_2 l0_2.length c0_2] 82 (0, 0)) (by (with_reducible repeat (first | refine ZbW ?_ _ | refine ZbD ?_ | refine ZbA ?_ _)); exact BK316.out)) : gb317 ≠ gb316)); clear BK316 HB; have BK316 := n0_; have HB := n1_; have BK317 := n2_; have GW317 := n3_; have GE317 := n4_; have NB316_317 := n5_; have NB317_316 := n6_; clear n0_ n1_ n2_ n3_ n4_ n5_ n6_; clear hb hbox hg; have hnb97 := NB316_317.out; have hnc97 := NB317_316.out; have hcz98_0 : w96.cell? ⟨gb316, 0, none⟩ = some (.int .i64 a0_0) := (ZbC BK316.out 0).trans rfl; have hcz98_1 : w96.cell? ⟨gb316, 1, none⟩ = some (.int .i64 a0_1) := (ZbC BK316.out 1).trans rfl; have hcz98_2 : w96.cell? ⟨gb316, 2, none⟩ = some (.slice A0_2 l0_2.length c0_2) := (ZbC BK316.out 2).trans rfl; have hfz98_0 := ZbF BK316.out 0; have hfz98_1 := ZbF BK316.out 1; have hfz98_2 := ZbF BK316.out 2) | ((with_reducible refine gate_callee (f := 58) rfl ?_); refine goesL_ (some 8) rfl rfl Try.func58 (by kernel_rfl) rfl #[.agg #[.int .i64 a0_0, .int .i64 a0_1, .slice A0_2 l0_2.length c0_2]] rfl (by (try simp only [Zm1, Zm2, Zm3]); first | done | rfl | (simp only [ZlL, ZlT]; rfl)) ?_; (with_reducible refine (spec_GoodPlane.calls k a0_0 a0_1 _ _ l0_2 true _ ?side1 ?side2 A4.out).mono ?_); (case side1 => repeat (first | exact (Kd.C_below HR0_2.out HB.out) | (with_reducible refine Kd.C_alloc ?_ _) | (with_reducible refine Kd.C_drewN ?_ _) | (with_reducible refine Kd.C_drew ?_))); (case side2 => exact HC0_2.out); rintro e w99 ⟨rfl, hb⟩; refine ⟨_, rfl, ?_⟩; have n0_ := Zam (ZbB (g := gb316) (o := .cells #[.int .i64 a0_0, .int .i64 a0_1, .slice A0_2 l0_2.length c0_2] 82 (0, 0)) (by (with_reducible repeat (first | refine ZbW ?_ _ | refine ZbD ?_ | refine ZbA ?_ _)); exact BK316.out) hb); have n1_ := Zam (ZbB (g := gb317) (o := .cells #[.int .i64 0, .int .i64 0, .slice none 0 0] 82 (0, 0)) (by (with_reducible repeat (first | refine ZbW ?_ _ | refine ZbD ?_ | refine ZbA ?_ _)); exact BK317.out) hb); have n2_ := Zam (ZbS (by repeat (first | (with_reducible first | exact HB.out | apply ZhA | apply ZhW | apply ZhD | refine ZhS ?_ GE316.out | refine ZhS ?_ GE317.out) | exact HB.out)) hb); clear BK316 BK317 HB; have BK316 := n0_; have BK317 := n1_; have HB := n2_; clear n0_ n1_ n2_; (try clear hb); (try clear hb2); (try clear hk); (try clear hi); have hcz100_0 : w99.cell? ⟨gb316, 0, none⟩ = some (.int .i64 a0_0) := (ZbC BK316.out 0).trans rfl; have hcz100_1 : w99.cell? ⟨gb316, 1, none⟩ = some (.int .i64 a0_1) := (ZbC BK316.out 1).trans rfl; have hcz100_2 : w99.cell? ⟨gb316, 2, none⟩ = some (.slice A0_2 l0_2.length c0_2) := (ZbC BK316.out 2).trans rfl; have hfz100_0 := ZbF BK316.out 0; have hfz100_1 := ZbF BK316.out 1; have hfz100_2 := ZbF BK316.out 2; have hcz101_0 : w99.cell? ⟨gb317, 0, none⟩ = some (.int .i64 0) := (ZbC BK317.out 0).trans rfl; have hcz101_1 : w99.cell? ⟨gb317, 1, none⟩ = some (.int .i64 0) := (ZbC BK317.out 1).trans rfl; have hcz101_2 : w99.cell? ⟨gb317, 2, none⟩ = some (.slice none 0 0) := (ZbC BK317.out 2).trans rfl; have hfz101_0 := ZbF BK317.out 0; have hfz101_1 := ZbF BK317.out 1; have hfz101_2 := ZbF BK317.out 2))
  refine bodyPost_ret (results_cell_row rfl _ _ gb317 82 #[.int .i64 0, .int .i64 0, .slice none 0 0] (0, 0) _ rfl (set3_blk BK317.out) Try.underlying82 rfl (by kernel_rfl)) rfl ?_
  exact ⟨_, by first | rfl | (simp [*, errW_none, errW_some] <;> rfl), by first | exact Kd.R_nil _ _ _ _ _ | exact Kd.N_nil _ _ _ _ _ | exact Kd.V_nil _ _ _ _ _ | exact Kd.Q_nil _ _ _ _ _ | exact Kd.S_nil _ _ _ _ _, by repeat (first | (with_reducible first | exact HB.out | apply ZhA | apply ZhW | apply ZhD | refine ZhS ?_ GE316.out | refine ZhS ?_ GE317.out) | exact HB.out)⟩
 ·rw [if_neg c54] at H
  have c54b0 : (a1 == (wrap64 ((wrap64 (2 * a0_0)) - 1))) = false := beq_eq_false_iff_ne.mpr c54
  have c54b1 : (a1 != (wrap64 ((wrap64 (2 * a0_0)) - 1))) = true := bne_iff_ne.mpr c54
  simp only [Option.some.injEq, Prod.mk.injEq] at H
  obtain ⟨rfl, rfl, rfl⟩ := H
  go_enter Try.func65, Try.ntmps65
  go_wp2_with (first | ((with_reducible refine gate_dst (N := 3) rfl ?_); refine box_event ?hg (N := 3) ?hd (cs := #[.int .i64 a0_0, .int .i64 a0_1, .slice A0_2 l0_2.length c0_2]) (t := 82) ?hr ?_; (case hd => rfl); (case hg => rfl); (case hr => first | (go_simp; done) | (go_simp; rfl)); intro gb316 hg w102 hbox hb; have n0_ := Zam (ZbS (by repeat (first | (with_reducible first | exact HB.out | apply ZhA | apply ZhW | apply ZhD) | exact HB.out)) hb); have n1_ := Zam (hbox); have n2_ := Zam ((by rw [hg]; exact (below_size (by repeat (first | (with_reducible first | exact HB.out | apply ZhA | apply ZhW | apply ZhD) | exact HB.out))) : w.heap.size ≤ gb316)); have n3_ := n2_; clear HB; have HB := n0_; have BK316 := n1_; have GW316 := n2_; have GE316 := n3_; clear n0_ n1_ n2_ n3_; clear hb hbox hg) | ((with_reducible refine gate_dst (N := 6) rfl ?_); refine box_event ?hg (N := 6) ?hd (cs := #[.int .i64 0, .int .i64 0, .slice none 0 0]) (t := 82) ?hr ?_; (case hd => rfl); (case hg => rfl); (case hr => first | (go_simp; done) | (go_simp; rfl)); intro gb317 hg w103 hbox hb; have n0_ := Zam (ZbB (g := gb316) (o := .cells #[.int .i64 a0_0, .int .i64 a0_1, .slice A0_2 l0_2.length c0_2] 82 (0, 0)) (by (with_reducible repeat (first | refine ZbW ?_ _ | refine ZbD ?_ | refine ZbA ?_ _)); exact BK316.out) hb); have n1_ := Zam (ZbS (by repeat (first | (with_reducible first | exact HB.out | apply ZhA | apply ZhW | apply ZhD | refine ZhS ?_ GE316.out) | exact HB.out)) hb); have n2_ := Zam (hbox); have n3_ := Zam ((by rw [hg]; exact (below_size (by repeat (first | (with_reducible first | exact HB.out | apply ZhA | apply ZhW | apply ZhD | refine ZhS ?_ GE316.out) | exact HB.out))) : w.heap.size ≤ gb317)); have n4_ := n3_; have n5_ := Zam ((by rw [hg]; exact Nat.ne_of_lt (blk_lt (g := gb316) (o := .cells #[.int .i64 a0_0, .int .i64 a0_1, .slice A0_2 l0_2.length c0_2] 82 (0, 0)) (by (with_reducible repeat (first | refine ZbW ?_ _ | refine ZbD ?_ | refine ZbA ?_ _)); exact BK316.out)) : gb316 ≠ gb317)); have n6_ := Zam ((by rw [hg]; exact Nat.ne_of_gt (blk_lt (g := gb316) (o := .cells #[.int .i64 a0_0, .int .i64 a0_1, .slice A0_2 l0_2.length c0_2] 82 (0, 0)) (by (with_reducible repeat (first | refine ZbW ?_ _ | refine ZbD ?_ | refine ZbA ?_ _)); exact BK316.out)) : gb317 ≠ gb316)); clear BK316 HB; have BK316 := n0_; have HB := n1_; have BK317 := n2_; have GW317 := n3_; have GE317 := n4_; have NB316_317 := n5_; have NB317_316 := n6_; clear n0_ n1_ n2_ n3_ n4_ n5_ n6_; clear hb hbox hg; have hnb104 := NB316_317.out; have hnc104 := NB317_316.out; have hcz105_0 : w103.cell? ⟨gb316, 0, none⟩ = some (.int .i64 a0_0) := (ZbC BK316.out 0).trans rfl; have hcz105_1 : w103.cell? ⟨gb316, 1, none⟩ = some (.int .i64 a0_1) := (ZbC BK316.out 1).trans rfl; have hcz105_2 : w103.cell? ⟨gb316, 2, none⟩ = some (.slice A0_2 l0_2.length c0_2) := (ZbC BK316.out 2).trans rfl; have hfz105_0 := ZbF BK316.out 0; have hfz105_1 := ZbF BK316.out 1; have hfz105_2 := ZbF BK316.out 2) | ((with_reducible refine gate_callee (f := 58) rfl ?_); refine goesL_ (some 8) rfl rfl Try.func58 (by kernel_rfl) rfl #[.agg #[.int .i64 a0_0, .int .i64 a0_1, .slice A0_2 l0_2.length c0_2]] rfl (by (try simp only [Zm1, Zm2, Zm3]); first | done | rfl | (simp only [ZlL, ZlT]; rfl)) ?_; (with_reducible refine (spec_GoodPlane.calls k a0_0 a0_1 _ _ l0_2 true _ ?side1 ?side2 A4.out).mono ?_); (case side1 => repeat (first | exact (Kd.C_below HR0_2.out HB.out) | (with_reducible refine Kd.C_alloc ?_ _) | (with_reducible refine Kd.C_drewN ?_ _) | (with_reducible refine Kd.C_drew ?_))); (case side2 => exact HC0_2.out); rintro e w106 ⟨rfl, hb⟩; refine ⟨_, rfl, ?_⟩; have n0_ := Zam (ZbB (g := gb316) (o := .cells #[.int .i64 a0_0, .int .i64 a0_1, .slice A0_2 l0_2.length c0_2] 82 (0, 0)) (by (with_reducible repeat (first | refine ZbW ?_ _ | refine ZbD ?_ | refine ZbA ?_ _)); exact BK316.out) hb); have n1_ := Zam (ZbB (g := gb317) (o := .cells #[.int .i64 0, .int .i64 0, .slice none 0 0] 82 (0, 0)) (by (with_reducible repeat (first | refine ZbW ?_ _ | refine ZbD ?_ | refine ZbA ?_ _)); exact BK317.out) hb); have n2_ := Zam (ZbS (by repeat (first | (with_reducible first | exact HB.out | apply ZhA | apply ZhW | apply ZhD | refine ZhS ?_ GE316.out | refine ZhS ?_ GE317.out) | exact HB.out)) hb); clear BK316 BK317 HB; have BK316 := n0_; have BK317 := n1_; have HB := n2_; clear n0_ n1_ n2_; (try clear hb); (try clear hb2); (try clear hk); (try clear hi); have hcz107_0 : w106.cell? ⟨gb316, 0, none⟩ = some (.int .i64 a0_0) := (ZbC BK316.out 0).trans rfl; have hcz107_1 : w106.cell? ⟨gb316, 1, none⟩ = some (.int .i64 a0_1) := (ZbC BK316.out 1).trans rfl; have hcz107_2 : w106.cell? ⟨gb316, 2, none⟩ = some (.slice A0_2 l0_2.length c0_2) := (ZbC BK316.out 2).trans rfl; have hfz107_0 := ZbF BK316.out 0; have hfz107_1 := ZbF BK316.out 1; have hfz107_2 := ZbF BK316.out 2; have hcz108_0 : w106.cell? ⟨gb317, 0, none⟩ = some (.int .i64 0) := (ZbC BK317.out 0).trans rfl; have hcz108_1 : w106.cell? ⟨gb317, 1, none⟩ = some (.int .i64 0) := (ZbC BK317.out 1).trans rfl; have hcz108_2 : w106.cell? ⟨gb317, 2, none⟩ = some (.slice none 0 0) := (ZbC BK317.out 2).trans rfl; have hfz108_0 := ZbF BK317.out 0; have hfz108_1 := ZbF BK317.out 1; have hfz108_2 := ZbF BK317.out 2))
  refine bodyPost_ret (results_cell_row rfl _ _ gb317 82 #[.int .i64 0, .int .i64 0, .slice none 0 0] (0, 0) _ rfl (set3_blk BK317.out) Try.underlying82 rfl (by kernel_rfl)) rfl ?_
  exact ⟨_, by first | rfl | (simp [*, errW_none, errW_some] <;> rfl), by first | exact Kd.R_nil _ _ _ _ _ | exact Kd.N_nil _ _ _ _ _ | exact Kd.V_nil _ _ _ _ _ | exact Kd.Q_nil _ _ _ _ _ | exact Kd.S_nil _ _ _ _ _, by repeat (first | (with_reducible first | exact HB.out | apply ZhA | apply ZhW | apply ZhD | refine ZhS ?_ GE316.out | refine ZhS ?_ GE317.out) | exact HB.out)⟩
 all_goals
  go_enter Try.func65, Try.ntmps65
  go_wp2_with (first | ((with_reducible refine gate_dst (N := 3) rfl ?_); refine box_event ?hg (N := 3) ?hd (cs := #[.int .i64 a0_0, .int .i64 a0_1, .slice A0_2 l0_2.length c0_2]) (t := 82) ?hr ?_; (case hd => rfl); (case hg => rfl); (case hr => first | (go_simp; done) | (go_simp; rfl)); intro gb316 hg w20 hbox hb; have n0_ := Zam (ZbS (by repeat (first | (with_reducible first | exact HB.out | apply ZhA | apply ZhW | apply ZhD) | exact HB.out)) hb); have n1_ := Zam (hbox); have n2_ := Zam ((by rw [hg]; exact (below_size (by repeat (first | (with_reducible first | exact HB.out | apply ZhA | apply ZhW | apply ZhD) | exact HB.out))) : w.heap.size ≤ gb316)); have n3_ := n2_; clear HB; have HB := n0_; have BK316 := n1_; have GW316 := n2_; have GE316 := n3_; clear n0_ n1_ n2_ n3_; clear hb hbox hg) | ((with_reducible refine gate_dst (N := 6) rfl ?_); refine box_event ?hg (N := 6) ?hd (cs := #[.int .i64 0, .int .i64 0, .slice none 0 0]) (t := 82) ?hr ?_; (case hd => rfl); (case hg => rfl); (case hr => first | (go_simp; done) | (go_simp; rfl)); intro gb317 hg w21 hbox hb; have n0_ := Zam (ZbB (g := gb316) (o := .cells #[.int .i64 a0_0, .int .i64 a0_1, .slice A0_2 l0_2.length c0_2] 82 (0, 0)) (by (with_reducible repeat (first | refine ZbW ?_ _ | refine ZbD ?_ | refine ZbA ?_ _)); exact BK316.out) hb); have n1_ := Zam (ZbS (by repeat (first | (with_reducible first | exact HB.out | apply ZhA | apply ZhW | apply ZhD | refine ZhS ?_ GE316.out) | exact HB.out)) hb); have n2_ := Zam (hbox); have n3_ := Zam ((by rw [hg]; exact (below_size (by repeat (first | (with_reducible first | exact HB.out | apply ZhA | apply ZhW | apply ZhD | refine ZhS ?_ GE316.out) | exact HB.out))) : w.heap.size ≤ gb317)); have n4_ := n3_; have n5_ := Zam ((by rw [hg]; exact Nat.ne_of_lt (blk_lt (g := gb316) (o := .cells #[.int .i64 a0_0, .int .i64 a0_1, .slice A0_2 l0_2.length c0_2] 82 (0, 0)) (by (with_reducible repeat (first | refine ZbW ?_ _ | refine ZbD ?_ | refine ZbA ?_ _)); exact BK316.out)) : gb316 ≠ gb317)); have n6_ := Zam ((by rw [hg]; exact Nat.ne_of_gt (blk_lt (g := gb316) (o := .cells #[.int .i64 a0_0, .int .i64 a0_1, .slice A0_2 l0_2.length c0_2] 82 (0, 0)) (by (with_reducible repeat (first | refine ZbW ?_ _ | refine ZbD ?_ | refine ZbA ?_ _)); exact BK316.out)) : gb317 ≠ gb316)); clear BK316 HB; have BK316 := n0_; have HB := n1_; have BK317 := n2_; have GW317 := n3_; have GE317 := n4_; have NB316_317 := n5_; have NB317_316 := n6_; clear n0_ n1_ n2_ n3_ n4_ n5_ n6_; clear hb hbox hg; have hnb22 := NB316_317.out; have hnc22 := NB317_316.out; have hcz23_0 : w21.cell? ⟨gb316, 0, none⟩ = some (.int .i64 a0_0) := (ZbC BK316.out 0).trans rfl; have hcz23_1 : w21.cell? ⟨gb316, 1, none⟩ = some (.int .i64 a0_1) := (ZbC BK316.out 1).trans rfl; have hcz23_2 : w21.cell? ⟨gb316, 2, none⟩ = some (.slice A0_2 l0_2.length c0_2) := (ZbC BK316.out 2).trans rfl; have hfz23_0 := ZbF BK316.out 0; have hfz23_1 := ZbF BK316.out 1; have hfz23_2 := ZbF BK316.out 2) | ((with_reducible refine gate_callee (f := 58) rfl ?_); refine goesL_ (some 8) rfl rfl Try.func58 (by kernel_rfl) rfl #[.agg #[.int .i64 a0_0, .int .i64 a0_1, .slice A0_2 l0_2.length c0_2]] rfl (by (try simp only [Zm1, Zm2, Zm3]); first | done | rfl | (simp only [ZlL, ZlT]; rfl)) ?_; (with_reducible refine (spec_GoodPlane.calls k a0_0 a0_1 _ _ l0_2 true _ ?side1 ?side2 A4.out).mono ?_); (case side1 => repeat (first | exact (Kd.C_below HR0_2.out HB.out) | (with_reducible refine Kd.C_alloc ?_ _) | (with_reducible refine Kd.C_drewN ?_ _) | (with_reducible refine Kd.C_drew ?_))); (case side2 => exact HC0_2.out); rintro e w24 ⟨rfl, hb⟩; refine ⟨_, rfl, ?_⟩; have n0_ := Zam (ZbB (g := gb316) (o := .cells #[.int .i64 a0_0, .int .i64 a0_1, .slice A0_2 l0_2.length c0_2] 82 (0, 0)) (by (with_reducible repeat (first | refine ZbW ?_ _ | refine ZbD ?_ | refine ZbA ?_ _)); exact BK316.out) hb); have n1_ := Zam (ZbB (g := gb317) (o := .cells #[.int .i64 0, .int .i64 0, .slice none 0 0] 82 (0, 0)) (by (with_reducible repeat (first | refine ZbW ?_ _ | refine ZbD ?_ | refine ZbA ?_ _)); exact BK317.out) hb); have n2_ := Zam (ZbS (by repeat (first | (with_reducible first | exact HB.out | apply ZhA | apply ZhW | apply ZhD | refine ZhS ?_ GE316.out | refine ZhS ?_ GE317.out) | exact HB.out)) hb); clear BK316 BK317 HB; have BK316 := n0_; have BK317 := n1_; have HB := n2_; clear n0_ n1_ n2_; (try clear hb); (try clear hb2); (try clear hk); (try clear hi); have hcz25_0 : w24.cell? ⟨gb316, 0, none⟩ = some (.int .i64 a0_0) := (ZbC BK316.out 0).trans rfl; have hcz25_1 : w24.cell? ⟨gb316, 1, none⟩ = some (.int .i64 a0_1) := (ZbC BK316.out 1).trans rfl; have hcz25_2 : w24.cell? ⟨gb316, 2, none⟩ = some (.slice A0_2 l0_2.length c0_2) := (ZbC BK316.out 2).trans rfl; have hfz25_0 := ZbF BK316.out 0; have hfz25_1 := ZbF BK316.out 1; have hfz25_2 := ZbF BK316.out 2) | (go_at_call 130; (with_reducible refine (spec_l7Sides.calls a1 a2 false _ A8.out).mono ?_); rintro e w' ⟨rfl, ⟨nd, rfl⟩⟩; (try (rw [drewN_self w24]; generalize hq_ : World.drewN w24 _ = w24; have n0_ : Aside0 (w24.heap[gb316]? = some (.cells #[.int .i64 a0_0, .int .i64 a0_1, .slice A0_2 l0_2.length c0_2] 82 (0, 0))) := ⟨by rw [← hq_]; exact (by (with_reducible repeat (first | refine ZbW ?_ _ | refine ZbD ?_ | refine ZbA ?_ _)); exact BK316.out)⟩; have n1_ : Aside0 (w24.heap[gb317]? = some (.cells #[.int .i64 0, .int .i64 0, .slice none 0 0] 82 (0, 0))) := ⟨by rw [← hq_]; exact (by (with_reducible repeat (first | refine ZbW ?_ _ | refine ZbD ?_ | refine ZbA ?_ _)); exact BK317.out)⟩; have n2_ : Aside0 (Below w.heap.size w w24) := ⟨by rw [← hq_]; exact (by repeat (first | (with_reducible first | exact HB.out | apply ZhA | apply ZhW | apply ZhD | refine ZhS ?_ GE316.out | refine ZhS ?_ GE317.out) | exact HB.out))⟩; clear BK316 BK317 HB hq_; have BK316 := n0_; have BK317 := n1_; have HB := n2_; clear n0_ n1_ n2_)); have hcz26_0 : w24.cell? ⟨gb317, 0, none⟩ = some (.int .i64 0) := (ZbC BK317.out 0).trans rfl; have hcz26_1 : w24.cell? ⟨gb317, 1, none⟩ = some (.int .i64 0) := (ZbC BK317.out 1).trans rfl; have hcz26_2 : w24.cell? ⟨gb317, 2, none⟩ = some (.slice none 0 0) := (ZbC BK317.out 2).trans rfl; have hfz26_0 := ZbF BK317.out 0; have hfz26_1 := ZbF BK317.out 1; have hfz26_2 := ZbF BK317.out 2))
  refine bodyPost_ret (results_cell_row rfl _ _ gb317 82 #[.int .i64 0, .int .i64 0, .slice none 0 0] (0, 0) _ rfl (set3_blk BK317.out) Try.underlying82 rfl (by kernel_rfl)) rfl ?_
  exact ⟨_, by first | rfl | (simp [*, errW_none, errW_some] <;> rfl), by first | exact Kd.R_nil _ _ _ _ _ | exact Kd.N_nil _ _ _ _ _ | exact Kd.V_nil _ _ _ _ _ | exact Kd.Q_nil _ _ _ _ _ | exact Kd.S_nil _ _ _ _ _, by repeat (first | (with_reducible first | exact HB.out | apply ZhA | apply ZhW | apply ZhD | refine ZhS ?_ GE316.out | refine ZhS ?_ GE317.out) | exact HB.out)⟩

end Go.Proofs.Ytidblealnaicpaa.PFnSizes

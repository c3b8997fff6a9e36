-- written by myprint.py (a program of this session's over the kit's print)
import Derived.Test.YtidblealnaicpaaPFnSizesx0
import Derived.Test.YtidblealnaicpaaPFnSizesx4
import Derived.Test.YtidblealnaicpaaPFnSizesx10
namespace Go.Proofs.Ytidblealnaicpaa.PFnSizes
open Go.RowKit Go.Proofs.YtidblealnaicpaaW.PrintWords Go.Proofs.YtidblealnaicpaaW.PrintLast Go.Proofs.YtidblealnaicpaaW.PrintMore
attribute [local go_sem] max2_int min2_int max_two min_two max_three min_three max_four min_four   -- for this text's walks alone
set_option linter.unusedVariables false
set_option linter.unusedSimpArgs false

/-! ### spec_Shrink: function 63 -/
def spec_Shrink.f (k : Nat) (a0_0 : Int) (a0_1 : Int) (l0_2 : List Int) (a1 : Int) : Option (Int × Int × List Int) := (spec_GoodPlane.f k a0_0 a0_1 l0_2).bind fun t276 => (if t276 = true then (if a1 = 2 then ((spec_l7Shrink.f k a0_0 a0_1 l0_2 a1).bind fun bt277 => (some (bt277.1, bt277.2.1, bt277.2.2))) else (if a1 = 4 then ((spec_l7Shrink.f k a0_0 a0_1 l0_2 a1).bind fun bt282 => (some (bt282.1, bt282.2.1, bt282.2.2))) else (some (0, 0, ([] : List Int))))) else (some (0, 0, ([] : List Int))))
theorem spec_Shrink.mono : ∀ a0 a1 a2 a3 k, LeO (spec_Shrink.f k a0 a1 a2 a3) (spec_Shrink.f (k + 1) a0 a1 a2 a3) := by
 intro a0 a1 a2 a3 k
 unfold spec_Shrink.f
 repeat' first
   | (with_reducible exact spec_GoodPlane.mono _ _ _ _)
   | (with_reducible exact spec_l7Shrink.mono _ _ _ _ _)
   | (with_reducible exact LeO.refl _)
   | (with_reducible exact LeO.none _)
   | (with_reducible refine LeO.ite ?_ ?_)
   | (with_reducible refine LeO.bind ?_ (fun _ => ?_))
   | exact spec_GoodPlane.mono _ _ _ _
   | exact spec_l7Shrink.mono _ _ _ _ _
   | exact LeO.none _
   | refine LeO.ite ?_ ?_
   | refine LeO.bind ?_ (fun _ => ?_)
set_option maxHeartbeats 8000000 in
set_option maxRecDepth 100000 in
theorem spec_Shrink.calls (k : Nat) (a0_0 : Int) (a0_1 : Int) (A0_2 : Option Addr) (c0_2 : Nat) (l0_2 : List Int) (a1 : Int) (r1 : Int) (r2 : Int) (r3 : List Int) (w : World) (hr0_2 : Kd.C (Kd.int .i64) w A0_2 l0_2.length l0_2) (hc0_2 : l0_2.length ≤ c0_2) (h : spec_Shrink.f k a0_0 a0_1 l0_2 a1 = some (r1, r2, r3)) :
  Calls Try.prog 63 #[.agg #[.int .i64 a0_0, .int .i64 a0_1, .slice A0_2 l0_2.length c0_2], .int .i64 a1] w fun e w' => ∃ v2_ : Value, e = .returned (.agg #[.int .i64 r1, .int .i64 r2, v2_]) ∧ Kd.R (Kd.int .i64) 3 w' w.heap.size (fun _ => True) v2_ r3 ∧ Below w.heap.size w w' := by
 have hu82 := Try.underlying82
 have HR0_2 := Zam hr0_2
 have HC0_2 := Zam hc0_2
 clear hr0_2 hc0_2
 have HB := Zam (Below.refl w.heap.size w)
 have H : ((spec_GoodPlane.f k a0_0 a0_1 l0_2).bind fun t276 => (if t276 = true then (if a1 = 2 then ((spec_l7Shrink.f k a0_0 a0_1 l0_2 a1).bind fun bt277 => (some (bt277.1, bt277.2.1, bt277.2.2))) else (if a1 = 4 then ((spec_l7Shrink.f k a0_0 a0_1 l0_2 a1).bind fun bt282 => (some (bt282.1, bt282.2.1, bt282.2.2))) else (some (0, 0, ([] : List Int))))) else (some (0, 0, ([] : List Int))))) = some (r1, r2, r3) := h
 clear h
 replace H := Zob.mp H
 obtain ⟨t276, A30, H⟩ := H
 replace H : (if t276 = true then (if a1 = 2 then ((spec_l7Shrink.f k a0_0 a0_1 l0_2 a1).bind fun bt277 => (some (bt277.1, bt277.2.1, bt277.2.2))) else (if a1 = 4 then ((spec_l7Shrink.f k a0_0 a0_1 l0_2 a1).bind fun bt282 => (some (bt282.1, bt282.2.1, bt282.2.2))) else (some (0, 0, ([] : List Int))))) else (some (0, 0, ([] : List Int)))) = some (r1, r2, r3) := H
 have A3 := Zam A30
 clear A30
 by_cases c4 : t276 = true
 rotate_left
 ·replace c4 := Bool.eq_false_iff.mpr c4
  subst c4
  replace H : (some (0, 0, ([] : List Int))) = some (r1, r2, r3) := by rw [if_neg (show ¬ (false = true) by decide)] at H; exact H
  simp only [Option.some.injEq, Prod.mk.injEq] at H
  obtain ⟨rfl, rfl, rfl⟩ := H
  go_enter Try.func63, Try.ntmps63
  go_wp2_with (first | ((with_reducible refine gate_dst (N := 2) rfl ?_); refine box_event ?hg (N := 2) ?hd (cs := #[.int .i64 a0_0, .int .i64 a0_1, .slice A0_2 l0_2.length c0_2]) (t := 82) ?hr ?_; (case hd => rfl); (case hg => rfl); (case hr => first | (go_simp; done) | (go_simp; rfl)); intro gb274 hg w33 hbox hb; have n0_ := Zam (ZbS (by repeat (first | (with_reducible first | exact HB.out | apply ZhA | apply ZhW | apply ZhD) | exact HB.out)) hb); have n1_ := Zam (hbox); have n2_ := Zam ((by rw [hg]; exact (below_size (by repeat (first | (with_reducible first | exact HB.out | apply ZhA | apply ZhW | apply ZhD) | exact HB.out))) : w.heap.size ≤ gb274)); have n3_ := n2_; clear HB; have HB := n0_; have BK274 := n1_; have GW274 := n2_; have GE274 := n3_; clear n0_ n1_ n2_ n3_; clear hb hbox hg) | ((with_reducible refine gate_dst (N := 4) rfl ?_); refine box_event ?hg (N := 4) ?hd (cs := #[.int .i64 0, .int .i64 0, .slice none 0 0]) (t := 82) ?hr ?_; (case hd => rfl); (case hg => rfl); (case hr => first | (go_simp; done) | (go_simp; rfl)); intro gb275 hg w34 hbox hb; have n0_ := Zam (ZbB (g := gb274) (o := .cells #[.int .i64 a0_0, .int .i64 a0_1, .slice A0_2 l0_2.length c0_2] 82 (0, 0)) (by (with_reducible repeat (first | refine ZbW ?_ _ | refine ZbD ?_ | refine ZbA ?_ _)); exact BK274.out) hb); have n1_ := Zam (ZbS (by repeat (first | (with_reducible first | exact HB.out | apply ZhA | apply ZhW | apply ZhD | refine ZhS ?_ GE274.out) | exact HB.out)) hb); have n2_ := Zam (hbox); have n3_ := Zam ((by rw [hg]; exact (below_size (by repeat (first | (with_reducible first | exact HB.out | apply ZhA | apply ZhW | apply ZhD | refine ZhS ?_ GE274.out) | exact HB.out))) : w.heap.size ≤ gb275)); have n4_ := n3_; have n5_ := Zam ((by rw [hg]; exact Nat.ne_of_lt (blk_lt (g := gb274) (o := .cells #[.int .i64 a0_0, .int .i64 a0_1, .slice A0_2 l0_2.length c0_2] 82 (0, 0)) (by (with_reducible repeat (first | refine ZbW ?_ _ | refine ZbD ?_ | refine ZbA ?_ _)); exact BK274.out)) : gb274 ≠ gb275)); have n6_ := Zam ((by rw [hg]; exact Nat.ne_of_gt (blk_lt (g := gb274) (o := .cells #[.int .i64 a0_0, .int .i64 a0_1, .slice A0_2 l0_2.length c0_2] 82 (0, 0)) (by (with_reducible repeat (first | refine ZbW ?_ _ | refine ZbD ?_ | refine ZbA ?_ _)); exact BK274.out)) : gb275 ≠ gb274)); clear BK274 HB; have BK274 := n0_; have HB := n1_; have BK275 := n2_; have GW275 := n3_; have GE275 := n4_; have NB274_275 := n5_; have NB275_274 := n6_; clear n0_ n1_ n2_ n3_ n4_ n5_ n6_; clear hb hbox hg; have hnb35 := NB274_275.out; have hnc35 := NB275_274.out; have hcz36_0 : w34.cell? ⟨gb274, 0, none⟩ = some (.int .i64 a0_0) := (ZbC BK274.out 0).trans rfl; have hcz36_1 : w34.cell? ⟨gb274, 1, none⟩ = some (.int .i64 a0_1) := (ZbC BK274.out 1).trans rfl; have hcz36_2 : w34.cell? ⟨gb274, 2, none⟩ = some (.slice A0_2 l0_2.length c0_2) := (ZbC BK274.out 2).trans rfl; have hfz36_0 := ZbF BK274.out 0; have hfz36_1 := ZbF BK274.out 1; have hfz36_2 := ZbF BK274.out 2) | ((with_reducible refine gate_callee (f := 58) rfl ?_); refine goesL_ (some 6) rfl rfl Try.func58 (by kernel_rfl) rfl #[.agg #[.int .i64 a0_0, .int .i64 a0_1, .slice A0_2 l0_2.length c0_2]] rfl (by (try simp only [Zm1, Zm2, Zm3]); first | done | rfl | (simp only [ZlL, ZlT]; rfl)) ?_; (with_reducible refine (spec_GoodPlane.calls k a0_0 a0_1 _ _ l0_2 false _ ?side1 ?side2 A3.out).mono ?_); (case side1 => repeat (first | exact (Kd.C_below HR0_2.out HB.out) | (with_reducible refine Kd.C_alloc ?_ _) | (with_reducible refine Kd.C_drewN ?_ _) | (with_reducible refine Kd.C_drew ?_))); (case side2 => exact HC0_2.out); rintro e w37 ⟨rfl, hb⟩; refine ⟨_, rfl, ?_⟩; have n0_ := Zam (ZbB (g := gb274) (o := .cells #[.int .i64 a0_0, .int .i64 a0_1, .slice A0_2 l0_2.length c0_2] 82 (0, 0)) (by (with_reducible repeat (first | refine ZbW ?_ _ | refine ZbD ?_ | refine ZbA ?_ _)); exact BK274.out) hb); have n1_ := Zam (ZbB (g := gb275) (o := .cells #[.int .i64 0, .int .i64 0, .slice none 0 0] 82 (0, 0)) (by (with_reducible repeat (first | refine ZbW ?_ _ | refine ZbD ?_ | refine ZbA ?_ _)); exact BK275.out) hb); have n2_ := Zam (ZbS (by repeat (first | (with_reducible first | exact HB.out | apply ZhA | apply ZhW | apply ZhD | refine ZhS ?_ GE274.out | refine ZhS ?_ GE275.out) | exact HB.out)) hb); clear BK274 BK275 HB; have BK274 := n0_; have BK275 := n1_; have HB := n2_; clear n0_ n1_ n2_; (try clear hb); (try clear hb2); (try clear hk); (try clear hi); have hcz38_0 : w37.cell? ⟨gb275, 0, none⟩ = some (.int .i64 0) := (ZbC BK275.out 0).trans rfl; have hcz38_1 : w37.cell? ⟨gb275, 1, none⟩ = some (.int .i64 0) := (ZbC BK275.out 1).trans rfl; have hcz38_2 : w37.cell? ⟨gb275, 2, none⟩ = some (.slice none 0 0) := (ZbC BK275.out 2).trans rfl; have hfz38_0 := ZbF BK275.out 0; have hfz38_1 := ZbF BK275.out 1; have hfz38_2 := ZbF BK275.out 2))
  refine bodyPost_ret (results_cell_row rfl _ _ gb275 82 #[.int .i64 0, .int .i64 0, .slice none 0 0] (0, 0) _ rfl (set3_blk BK275.out) Try.underlying82 rfl (by kernel_rfl)) rfl ?_
  exact ⟨_, by first | rfl | (simp [*, errW_none, errW_some] <;> rfl), by first | exact Kd.R_nil _ _ _ _ _ | exact Kd.N_nil _ _ _ _ _ | exact Kd.V_nil _ _ _ _ _ | exact Kd.Q_nil _ _ _ _ _ | exact Kd.S_nil _ _ _ _ _, by repeat (first | (with_reducible first | exact HB.out | apply ZhA | apply ZhW | apply ZhD | refine ZhS ?_ GE274.out | refine ZhS ?_ GE275.out) | exact HB.out)⟩
 subst c4
 replace H : (if a1 = 2 then ((spec_l7Shrink.f k a0_0 a0_1 l0_2 a1).bind fun bt277 => (some (bt277.1, bt277.2.1, bt277.2.2))) else (if a1 = 4 then ((spec_l7Shrink.f k a0_0 a0_1 l0_2 a1).bind fun bt282 => (some (bt282.1, bt282.2.1, bt282.2.2))) else (some (0, 0, ([] : List Int))))) = some (r1, r2, r3) := by rw [if_pos rfl] at H; exact H
 by_cases c5 : a1 = 2
 ·rw [if_pos c5] at H
  have c5b0 : (a1 == 2) = true := beq_iff_eq.mpr c5
  have c5b1 : (a1 != 2) = false := bne_eq_false_iff_eq.mpr c5
  clear c5
  replace H := Zob.mp H
  obtain ⟨⟨t277, t278, t279⟩, A60, H⟩ := H
  replace H : (some (t277, t278, t279)) = some (r1, r2, r3) := H
  have A6 := Zam A60
  clear A60
  simp only [Option.some.injEq, Prod.mk.injEq] at H
  obtain ⟨rfl, rfl, rfl⟩ := H
  go_enter Try.func63, Try.ntmps63
  go_wp2_with (first | ((with_reducible refine gate_dst (N := 2) rfl ?_); refine box_event ?hg (N := 2) ?hd (cs := #[.int .i64 a0_0, .int .i64 a0_1, .slice A0_2 l0_2.length c0_2]) (t := 82) ?hr ?_; (case hd => rfl); (case hg => rfl); (case hr => first | (go_simp; done) | (go_simp; rfl)); intro gb274 hg w7 hbox hb; have n0_ := Zam (ZbS (by repeat (first | (with_reducible first | exact HB.out | apply ZhA | apply ZhW | apply ZhD) | exact HB.out)) hb); have n1_ := Zam (hbox); have n2_ := Zam ((by rw [hg]; exact (below_size (by repeat (first | (with_reducible first | exact HB.out | apply ZhA | apply ZhW | apply ZhD) | exact HB.out))) : w.heap.size ≤ gb274)); have n3_ := n2_; clear HB; have HB := n0_; have BK274 := n1_; have GW274 := n2_; have GE274 := n3_; clear n0_ n1_ n2_ n3_; clear hb hbox hg) | ((with_reducible refine gate_dst (N := 4) rfl ?_); refine box_event ?hg (N := 4) ?hd (cs := #[.int .i64 0, .int .i64 0, .slice none 0 0]) (t := 82) ?hr ?_; (case hd => rfl); (case hg => rfl); (case hr => first | (go_simp; done) | (go_simp; rfl)); intro gb275 hg w8 hbox hb; have n0_ := Zam (ZbB (g := gb274) (o := .cells #[.int .i64 a0_0, .int .i64 a0_1, .slice A0_2 l0_2.length c0_2] 82 (0, 0)) (by (with_reducible repeat (first | refine ZbW ?_ _ | refine ZbD ?_ | refine ZbA ?_ _)); exact BK274.out) hb); have n1_ := Zam (ZbS (by repeat (first | (with_reducible first | exact HB.out | apply ZhA | apply ZhW | apply ZhD | refine ZhS ?_ GE274.out) | exact HB.out)) hb); have n2_ := Zam (hbox); have n3_ := Zam ((by rw [hg]; exact (below_size (by repeat (first | (with_reducible first | exact HB.out | apply ZhA | apply ZhW | apply ZhD | refine ZhS ?_ GE274.out) | exact HB.out))) : w.heap.size ≤ gb275)); have n4_ := n3_; have n5_ := Zam ((by rw [hg]; exact Nat.ne_of_lt (blk_lt (g := gb274) (o := .cells #[.int .i64 a0_0, .int .i64 a0_1, .slice A0_2 l0_2.length c0_2] 82 (0, 0)) (by (with_reducible repeat (first | refine ZbW ?_ _ | refine ZbD ?_ | refine ZbA ?_ _)); exact BK274.out)) : gb274 ≠ gb275)); have n6_ := Zam ((by rw [hg]; exact Nat.ne_of_gt (blk_lt (g := gb274) (o := .cells #[.int .i64 a0_0, .int .i64 a0_1, .slice A0_2 l0_2.length c0_2] 82 (0, 0)) (by (with_reducible repeat (first | refine ZbW ?_ _ | refine ZbD ?_ | refine ZbA ?_ _)); exact BK274.out)) : gb275 ≠ gb274)); clear BK274 HB; have BK274 := n0_; have HB := n1_; have BK275 := n2_; have GW275 := n3_; have GE275 := n4_; have NB274_275 := n5_; have NB275_274 := n6_; clear n0_ n1_ n2_ n3_ n4_ n5_ n6_; clear hb hbox hg; have hnb9 := NB274_275.out; have hnc9 := NB275_274.out; have hcz10_0 : w8.cell? ⟨gb274, 0, none⟩ = some (.int .i64 a0_0) := (ZbC BK274.out 0).trans rfl; have hcz10_1 : w8.cell? ⟨gb274, 1, none⟩ = some (.int .i64 a0_1) := (ZbC BK274.out 1).trans rfl; have hcz10_2 : w8.cell? ⟨gb274, 2, none⟩ = some (.slice A0_2 l0_2.length c0_2) := (ZbC BK274.out 2).trans rfl; have hfz10_0 := ZbF BK274.out 0; have hfz10_1 := ZbF BK274.out 1; have hfz10_2 := ZbF BK274.out 2) | ((with_reducible refine gate_callee (f := 58) rfl ?_); refine goesL_ (some 6) rfl rfl Try.func58 (by kernel_rfl) rfl #[.agg #[.int .i64 a0_0, .int .i64 a0_1, .slice A0_2 l0_2.length c0_2]] rfl (by (try simp only [Zm1, Zm2, Zm3]); first | done | rfl | (simp only [ZlL, ZlT]; rfl)) ?_; (with_reducible refine (spec_GoodPlane.calls k a0_0 a0_1 _ _ l0_2 true _ ?side1 ?side2 A3.out).mono ?_); (case side1 => repeat (first | exact (Kd.C_below HR0_2.out HB.out) | (with_reducible refine Kd.C_alloc ?_ _) | (with_reducible refine Kd.C_drewN ?_ _) | (with_reducible refine Kd.C_drew ?_))); (case side2 => exact HC0_2.out); rintro e w11 ⟨rfl, hb⟩; refine ⟨_, rfl, ?_⟩; have n0_ := Zam (ZbB (g := gb274) (o := .cells #[.int .i64 a0_0, .int .i64 a0_1, .slice A0_2 l0_2.length c0_2] 82 (0, 0)) (by (with_reducible repeat (first | refine ZbW ?_ _ | refine ZbD ?_ | refine ZbA ?_ _)); exact BK274.out) hb); have n1_ := Zam (ZbB (g := gb275) (o := .cells #[.int .i64 0, .int .i64 0, .slice none 0 0] 82 (0, 0)) (by (with_reducible repeat (first | refine ZbW ?_ _ | refine ZbD ?_ | refine ZbA ?_ _)); exact BK275.out) hb); have n2_ := Zam (ZbS (by repeat (first | (with_reducible first | exact HB.out | apply ZhA | apply ZhW | apply ZhD | refine ZhS ?_ GE274.out | refine ZhS ?_ GE275.out) | exact HB.out)) hb); clear BK274 BK275 HB; have BK274 := n0_; have BK275 := n1_; have HB := n2_; clear n0_ n1_ n2_; (try clear hb); (try clear hb2); (try clear hk); (try clear hi); have hcz12_0 : w11.cell? ⟨gb274, 0, none⟩ = some (.int .i64 a0_0) := (ZbC BK274.out 0).trans rfl; have hcz12_1 : w11.cell? ⟨gb274, 1, none⟩ = some (.int .i64 a0_1) := (ZbC BK274.out 1).trans rfl; have hcz12_2 : w11.cell? ⟨gb274, 2, none⟩ = some (.slice A0_2 l0_2.length c0_2) := (ZbC BK274.out 2).trans rfl; have hfz12_0 := ZbF BK274.out 0; have hfz12_1 := ZbF BK274.out 1; have hfz12_2 := ZbF BK274.out 2) | ((with_reducible refine gate_callee (f := 137) rfl ?_); refine goesL_ (some 19) rfl rfl Try.func137 (by kernel_rfl) rfl #[.agg #[.int .i64 a0_0, .int .i64 a0_1, .slice A0_2 l0_2.length c0_2], .int .i64 a1] rfl (by (try simp only [Zm1, Zm2, Zm3]); first | done | rfl | (simp only [ZlL, ZlT]; rfl)) ?_; (with_reducible refine (spec_l7Shrink.calls k a0_0 a0_1 _ _ l0_2 a1 t277 t278 t279 _ ?side1 ?side2 A6.out).mono ?_); (case side1 => repeat (first | exact (Kd.C_below HR0_2.out HB.out) | (with_reducible refine Kd.C_alloc ?_ _) | (with_reducible refine Kd.C_drewN ?_ _) | (with_reducible refine Kd.C_drew ?_))); (case side2 => exact HC0_2.out); rintro e w13 ⟨v280, rfl, ho0, hb⟩; refine ⟨_, rfl, ?_⟩; have n0_ := Zam (Kd.R_lower ho0 (below_size (by repeat (first | (with_reducible first | exact HB.out | apply ZhA | apply ZhW | apply ZhD | refine ZhS ?_ GE274.out | refine ZhS ?_ GE275.out) | exact HB.out)))); have n1_ := Zam (ZbB (g := gb274) (o := .cells #[.int .i64 a0_0, .int .i64 a0_1, .slice A0_2 l0_2.length c0_2] 82 (0, 0)) (by (with_reducible repeat (first | refine ZbW ?_ _ | refine ZbD ?_ | refine ZbA ?_ _)); exact BK274.out) hb); have n2_ := Zam (ZbB (g := gb275) (o := .cells #[.int .i64 0, .int .i64 0, .slice none 0 0] 82 (0, 0)) (by (with_reducible repeat (first | refine ZbW ?_ _ | refine ZbD ?_ | refine ZbA ?_ _)); exact BK275.out) hb); have n3_ := Zam (ZbS (by repeat (first | (with_reducible first | exact HB.out | apply ZhA | apply ZhW | apply ZhD | refine ZhS ?_ GE274.out | refine ZhS ?_ GE275.out) | exact HB.out)) hb); clear BK274 BK275 HB; have HO281 := n0_; have BK274 := n1_; have BK275 := n2_; have HB := n3_; clear n0_ n1_ n2_ n3_; (try clear hb); (try clear hb2); (try clear hk); (try clear hi); (try clear ho0); have hcz14_0 : w13.cell? ⟨gb275, 0, none⟩ = some (.int .i64 0) := (ZbC BK275.out 0).trans rfl; have hcz14_1 : w13.cell? ⟨gb275, 1, none⟩ = some (.int .i64 0) := (ZbC BK275.out 1).trans rfl; have hcz14_2 : w13.cell? ⟨gb275, 2, none⟩ = some (.slice none 0 0) := (ZbC BK275.out 2).trans rfl; have hfz14_0 := ZbF BK275.out 0; have hfz14_1 := ZbF BK275.out 1; have hfz14_2 := ZbF BK275.out 2; obtain ⟨Ao15, co15, eo15⟩ := Kd.R_slice HO281.out; subst eo15))
  refine bodyPost_ret (results_cell_row rfl _ _ gb275 82 #[.int .i64 t277, .int .i64 t278, .slice Ao15 t279.length co15] (0, 0) _ rfl (set3_blk BK275.out) Try.underlying82 rfl (by kernel_rfl)) rfl ?_
  exact ⟨_, by first | rfl | (simp [*, errW_none, errW_some] <;> rfl), by (with_reducible repeat (first | apply ZrA | apply ZrW | apply ZrD)); exact Kd.R_mono (set3_R (Kd.R_types HO281.out BK275.out (by decide)) (fun _ hk => hk.2)) (fun _ hk => trivial), by repeat (first | (with_reducible first | exact HB.out | apply ZhA | apply ZhW | apply ZhD | refine ZhS ?_ GE274.out | refine ZhS ?_ GE275.out) | exact HB.out)⟩
 rw [if_neg c5] at H
 have c5b0 : (a1 == 2) = false := beq_eq_false_iff_ne.mpr c5
 have c5b1 : (a1 != 2) = true := bne_iff_ne.mpr c5
 by_cases c16 : a1 = 4
 rotate_left
 ·rw [if_neg c16] at H
  have c16b0 : (a1 == 4) = false := beq_eq_false_iff_ne.mpr c16
  have c16b1 : (a1 != 4) = true := bne_iff_ne.mpr c16
  simp only [Option.some.injEq, Prod.mk.injEq] at H
  obtain ⟨rfl, rfl, rfl⟩ := H
  go_enter Try.func63, Try.ntmps63
  go_wp2_with (first | ((with_reducible refine gate_dst (N := 2) rfl ?_); refine box_event ?hg (N := 2) ?hd (cs := #[.int .i64 a0_0, .int .i64 a0_1, .slice A0_2 l0_2.length c0_2]) (t := 82) ?hr ?_; (case hd => rfl); (case hg => rfl); (case hr => first | (go_simp; done) | (go_simp; rfl)); intro gb274 hg w27 hbox hb; have n0_ := Zam (ZbS (by repeat (first | (with_reducible first | exact HB.out | apply ZhA | apply ZhW | apply ZhD) | exact HB.out)) hb); have n1_ := Zam (hbox); have n2_ := Zam ((by rw [hg]; exact (below_size (by repeat (first | (with_reducible first | exact HB.out | apply ZhA | apply ZhW | apply ZhD) | exact HB.out))) : w.heap.size ≤ gb274)); have n3_ := n2_; clear HB; have HB := n0_; have BK274 := n1_; have GW274 := n2_; have GE274 := n3_; clear n0_ n1_ n2_ n3_; clear hb hbox hg) | ((with_reducible refine gate_dst (N := 4) rfl ?_); refine box_event ?hg (N := 4) ?hd (cs := #[.int .i64 0, .int .i64 0, .slice none 0 0]) (t := 82) ?hr ?_; (case hd => rfl); (case hg => rfl); (case hr => first | (go_simp; done) | (go_simp; rfl)); intro gb275 hg w28 hbox hb; have n0_ := Zam (ZbB (g := gb274) (o := .cells #[.int .i64 a0_0, .int .i64 a0_1, .slice A0_2 l0_2.length c0_2] 82 (0, 0)) (by (with_reducible repeat (first | refine ZbW ?_ _ | refine ZbD ?_ | refine ZbA ?_ _)); exact BK274.out) hb); have n1_ := Zam (ZbS (by repeat (first | (with_reducible first | exact HB.out | apply ZhA | apply ZhW | apply ZhD | refine ZhS ?_ GE274.out) | exact HB.out)) hb); have n2_ := Zam (hbox); have n3_ := Zam ((by rw [hg]; exact (below_size (by repeat (first | (with_reducible first | exact HB.out | apply ZhA | apply ZhW | apply ZhD | refine ZhS ?_ GE274.out) | exact HB.out))) : w.heap.size ≤ gb275)); have n4_ := n3_; have n5_ := Zam ((by rw [hg]; exact Nat.ne_of_lt (blk_lt (g := gb274) (o := .cells #[.int .i64 a0_0, .int .i64 a0_1, .slice A0_2 l0_2.length c0_2] 82 (0, 0)) (by (with_reducible repeat (first | refine ZbW ?_ _ | refine ZbD ?_ | refine ZbA ?_ _)); exact BK274.out)) : gb274 ≠ gb275)); have n6_ := Zam ((by rw [hg]; exact Nat.ne_of_gt (blk_lt (g := gb274) (o := .cells #[.int .i64 a0_0, .int .i64 a0_1, .slice A0_2 l0_2.length c0_2] 82 (0, 0)) (by (with_reducible repeat (first | refine ZbW ?_ _ | refine ZbD ?_ | refine ZbA ?_ _)); exact BK274.out)) : gb275 ≠ gb274)); clear BK274 HB; have BK274 := n0_; have HB := n1_; have BK275 := n2_; have GW275 := n3_; have GE275 := n4_; have NB274_275 := n5_; have NB275_274 := n6_; clear n0_ n1_ n2_ n3_ n4_ n5_ n6_; clear hb hbox hg; have hnb29 := NB274_275.out; have hnc29 := NB275_274.out; have hcz30_0 : w28.cell? ⟨gb274, 0, none⟩ = some (.int .i64 a0_0) := (ZbC BK274.out 0).trans rfl; have hcz30_1 : w28.cell? ⟨gb274, 1, none⟩ = some (.int .i64 a0_1) := (ZbC BK274.out 1).trans rfl; have hcz30_2 : w28.cell? ⟨gb274, 2, none⟩ = some (.slice A0_2 l0_2.length c0_2) := (ZbC BK274.out 2).trans rfl; have hfz30_0 := ZbF BK274.out 0; have hfz30_1 := ZbF BK274.out 1; have hfz30_2 := ZbF BK274.out 2) | ((with_reducible refine gate_callee (f := 58) rfl ?_); refine goesL_ (some 6) rfl rfl Try.func58 (by kernel_rfl) rfl #[.agg #[.int .i64 a0_0, .int .i64 a0_1, .slice A0_2 l0_2.length c0_2]] rfl (by (try simp only [Zm1, Zm2, Zm3]); first | done | rfl | (simp only [ZlL, ZlT]; rfl)) ?_; (with_reducible refine (spec_GoodPlane.calls k a0_0 a0_1 _ _ l0_2 true _ ?side1 ?side2 A3.out).mono ?_); (case side1 => repeat (first | exact (Kd.C_below HR0_2.out HB.out) | (with_reducible refine Kd.C_alloc ?_ _) | (with_reducible refine Kd.C_drewN ?_ _) | (with_reducible refine Kd.C_drew ?_))); (case side2 => exact HC0_2.out); rintro e w31 ⟨rfl, hb⟩; refine ⟨_, rfl, ?_⟩; have n0_ := Zam (ZbB (g := gb274) (o := .cells #[.int .i64 a0_0, .int .i64 a0_1, .slice A0_2 l0_2.length c0_2] 82 (0, 0)) (by (with_reducible repeat (first | refine ZbW ?_ _ | refine ZbD ?_ | refine ZbA ?_ _)); exact BK274.out) hb); have n1_ := Zam (ZbB (g := gb275) (o := .cells #[.int .i64 0, .int .i64 0, .slice none 0 0] 82 (0, 0)) (by (with_reducible repeat (first | refine ZbW ?_ _ | refine ZbD ?_ | refine ZbA ?_ _)); exact BK275.out) hb); have n2_ := Zam (ZbS (by repeat (first | (with_reducible first | exact HB.out | apply ZhA | apply ZhW | apply ZhD | refine ZhS ?_ GE274.out | refine ZhS ?_ GE275.out) | exact HB.out)) hb); clear BK274 BK275 HB; have BK274 := n0_; have BK275 := n1_; have HB := n2_; clear n0_ n1_ n2_; (try clear hb); (try clear hb2); (try clear hk); (try clear hi); have hcz32_0 : w31.cell? ⟨gb275, 0, none⟩ = some (.int .i64 0) := (ZbC BK275.out 0).trans rfl; have hcz32_1 : w31.cell? ⟨gb275, 1, none⟩ = some (.int .i64 0) := (ZbC BK275.out 1).trans rfl; have hcz32_2 : w31.cell? ⟨gb275, 2, none⟩ = some (.slice none 0 0) := (ZbC BK275.out 2).trans rfl; have hfz32_0 := ZbF BK275.out 0; have hfz32_1 := ZbF BK275.out 1; have hfz32_2 := ZbF BK275.out 2))
  refine bodyPost_ret (results_cell_row rfl _ _ gb275 82 #[.int .i64 0, .int .i64 0, .slice none 0 0] (0, 0) _ rfl (set3_blk BK275.out) Try.underlying82 rfl (by kernel_rfl)) rfl ?_
  exact ⟨_, by first | rfl | (simp [*, errW_none, errW_some] <;> rfl), by first | exact Kd.R_nil _ _ _ _ _ | exact Kd.N_nil _ _ _ _ _ | exact Kd.V_nil _ _ _ _ _ | exact Kd.Q_nil _ _ _ _ _ | exact Kd.S_nil _ _ _ _ _, by repeat (first | (with_reducible first | exact HB.out | apply ZhA | apply ZhW | apply ZhD | refine ZhS ?_ GE274.out | refine ZhS ?_ GE275.out) | exact HB.out)⟩
 rw [if_pos c16] at H
 have c16b0 : (a1 == 4) = true := beq_iff_eq.mpr c16
 have c16b1 : (a1 != 4) = false := bne_eq_false_iff_eq.mpr c16
 clear c16
 replace H := Zob.mp H
 obtain ⟨⟨t282, t283, t284⟩, A170, H⟩ := H
 replace H : (some (t282, t283, t284)) = some (r1, r2, r3) := H
 have A17 := Zam A170
 clear A170
 simp only [Option.some.injEq, Prod.mk.injEq] at H
 obtain ⟨rfl, rfl, rfl⟩ := H
 go_enter Try.func63, Try.ntmps63
 go_wp2_with (first | ((with_reducible refine gate_dst (N := 2) rfl ?_); refine box_event ?hg (N := 2) ?hd (cs := #[.int .i64 a0_0, .int .i64 a0_1, .slice A0_2 l0_2.length c0_2]) (t := 82) ?hr ?_; (case hd => rfl); (case hg => rfl); (case hr => first | (go_simp; done) | (go_simp; rfl)); intro gb274 hg w18 hbox hb; have n0_ := Zam (ZbS (by repeat (first | (with_reducible first | exact HB.out | apply ZhA | apply ZhW | apply ZhD) | exact HB.out)) hb); have n1_ := Zam (hbox); have n2_ := Zam ((by rw [hg]; exact (below_size (by repeat (first | (with_reducible first | exact HB.out | apply ZhA | apply ZhW | apply ZhD) | exact HB.out))) : w.heap.size ≤ gb274)); have n3_ := n2_; clear HB; have HB := n0_; have BK274 := n1_; have GW274 := n2_; have GE274 := n3_; clear n0_ n1_ n2_ n3_; clear hb hbox hg) | ((with_reducible refine gate_dst (N := 4) rfl ?_); refine box_event ?hg (N := 4) ?hd (cs := #[.int .i64 0, .int .i64 0, .slice none 0 0]) (t := 82) ?hr ?_; (case hd => rfl); (case hg => rfl); (case hr => first | (go_simp; done) | (go_simp; rfl)); intro gb275 hg w19 hbox hb; have n0_ := Zam (ZbB (g := gb274) (o := .cells #[.int .i64 a0_0, .int .i64 a0_1, .slice A0_2 l0_2.length c0_2] 82 (0, 0)) (by (with_reducible repeat (first | refine ZbW ?_ _ | refine ZbD ?_ | refine ZbA ?_ _)); exact BK274.out) hb); have n1_ := Zam (ZbS (by repeat (first | (with_reducible first | exact HB.out | apply ZhA | apply ZhW | apply ZhD | refine ZhS ?_ GE274.out) | exact HB.out)) hb); have n2_ := Zam (hbox); have n3_ := Zam ((by rw [hg]; exact (below_size (by repeat (first | (with_reducible first | exact HB.out | apply ZhA | apply ZhW | apply ZhD | refine ZhS ?_ GE274.out) | exact HB.out))) : w.heap.size ≤ gb275)); have n4_ := n3_; have n5_ := Zam ((by rw [hg]; exact Nat.ne_of_lt (blk_lt (g := gb274) (o := .cells #[.int .i64 a0_0, .int .i64 a0_1, .slice A0_2 l0_2.length c0_2] 82 (0, 0)) (by (with_reducible repeat (first | refine ZbW ?_ _ | refine ZbD ?_ | refine ZbA ?_ _)); exact BK274.out)) : gb274 ≠ gb275)); have n6_ := Zam ((by rw [hg]; exact Nat.ne_of_gt (blk_lt (g := gb274) (o := .cells #[.int .i64 a0_0, .int .i64 a0_1, .slice A0_2 l0_2.length c0_2] 82 (0, 0)) (by (with_reducible repeat (first | refine ZbW ?_ _ | refine ZbD ?_ | refine ZbA ?_ _)); exact BK274.out)) : gb275 ≠ gb274)); clear BK274 HB; have BK274 := n0_; have HB := n1_; have BK275 := n2_; have GW275 := n3_; have GE275 := n4_; have NB274_275 := n5_; have NB275_274 := n6_; clear n0_ n1_ n2_ n3_ n4_ n5_ n6_; clear hb hbox hg; have hnb20 := NB274_275.out; have hnc20 := NB275_274.out; have hcz21_0 : w19.cell? ⟨gb274, 0, none⟩ = some (.int .i64 a0_0) := (ZbC BK274.out 0).trans rfl; have hcz21_1 : w19.cell? ⟨gb274, 1, none⟩ = some (.int .i64 a0_1) := (ZbC BK274.out 1).trans rfl; have hcz21_2 : w19.cell? ⟨gb274, 2, none⟩ = some (.slice A0_2 l0_2.length c0_2) := (ZbC BK274.out 2).trans rfl; have hfz21_0 := ZbF BK274.out 0; have hfz21_1 := ZbF BK274.out 1; have hfz21_2 := ZbF BK274.out 2) | ((with_reducible refine gate_callee (f := 58) rfl ?_); refine goesL_ (some 6) rfl rfl Try.func58 (by kernel_rfl) rfl #[.agg #[.int .i64 a0_0, .int .i64 a0_1, .slice A0_2 l0_2.length c0_2]] rfl (by (try simp only [Zm1, Zm2, Zm3]); first | done | rfl | (simp only [ZlL, ZlT]; rfl)) ?_; (with_reducible refine (spec_GoodPlane.calls k a0_0 a0_1 _ _ l0_2 true _ ?side1 ?side2 A3.out).mono ?_); (case side1 => repeat (first | exact (Kd.C_below HR0_2.out HB.out) | (with_reducible refine Kd.C_alloc ?_ _) | (with_reducible refine Kd.C_drewN ?_ _) | (with_reducible refine Kd.C_drew ?_))); (case side2 => exact HC0_2.out); rintro e w22 ⟨rfl, hb⟩; refine ⟨_, rfl, ?_⟩; have n0_ := Zam (ZbB (g := gb274) (o := .cells #[.int .i64 a0_0, .int .i64 a0_1, .slice A0_2 l0_2.length c0_2] 82 (0, 0)) (by (with_reducible repeat (first | refine ZbW ?_ _ | refine ZbD ?_ | refine ZbA ?_ _)); exact BK274.out) hb); have n1_ := Zam (ZbB (g := gb275) (o := .cells #[.int .i64 0, .int .i64 0, .slice none 0 0] 82 (0, 0)) (by (with_reducible repeat (first | refine ZbW ?_ _ | refine ZbD ?_ | refine ZbA ?_ _)); exact BK275.out) hb); have n2_ := Zam (ZbS (by repeat (first | (with_reducible first | exact HB.out | apply ZhA | apply ZhW | apply ZhD | refine ZhS ?_ GE274.out | refine ZhS ?_ GE275.out) | exact HB.out)) hb); clear BK274 BK275 HB; have BK274 := n0_; have BK275 := n1_; have HB := n2_; clear n0_ n1_ n2_; (try clear hb); (try clear hb2); (try clear hk); (try clear hi); have hcz23_0 : w22.cell? ⟨gb274, 0, none⟩ = some (.int .i64 a0_0) := (ZbC BK274.out 0).trans rfl; have hcz23_1 : w22.cell? ⟨gb274, 1, none⟩ = some (.int .i64 a0_1) := (ZbC BK274.out 1).trans rfl; have hcz23_2 : w22.cell? ⟨gb274, 2, none⟩ = some (.slice A0_2 l0_2.length c0_2) := (ZbC BK274.out 2).trans rfl; have hfz23_0 := ZbF BK274.out 0; have hfz23_1 := ZbF BK274.out 1; have hfz23_2 := ZbF BK274.out 2) | ((with_reducible refine gate_callee (f := 137) rfl ?_); refine goesL_ (some 19) rfl rfl Try.func137 (by kernel_rfl) rfl #[.agg #[.int .i64 a0_0, .int .i64 a0_1, .slice A0_2 l0_2.length c0_2], .int .i64 a1] rfl (by (try simp only [Zm1, Zm2, Zm3]); first | done | rfl | (simp only [ZlL, ZlT]; rfl)) ?_; (with_reducible refine (spec_l7Shrink.calls k a0_0 a0_1 _ _ l0_2 a1 t282 t283 t284 _ ?side1 ?side2 A17.out).mono ?_); (case side1 => repeat (first | exact (Kd.C_below HR0_2.out HB.out) | (with_reducible refine Kd.C_alloc ?_ _) | (with_reducible refine Kd.C_drewN ?_ _) | (with_reducible refine Kd.C_drew ?_))); (case side2 => exact HC0_2.out); rintro e w24 ⟨v285, rfl, ho0, hb⟩; refine ⟨_, rfl, ?_⟩; have n0_ := Zam (Kd.R_lower ho0 (below_size (by repeat (first | (with_reducible first | exact HB.out | apply ZhA | apply ZhW | apply ZhD | refine ZhS ?_ GE274.out | refine ZhS ?_ GE275.out) | exact HB.out)))); have n1_ := Zam (ZbB (g := gb274) (o := .cells #[.int .i64 a0_0, .int .i64 a0_1, .slice A0_2 l0_2.length c0_2] 82 (0, 0)) (by (with_reducible repeat (first | refine ZbW ?_ _ | refine ZbD ?_ | refine ZbA ?_ _)); exact BK274.out) hb); have n2_ := Zam (ZbB (g := gb275) (o := .cells #[.int .i64 0, .int .i64 0, .slice none 0 0] 82 (0, 0)) (by (with_reducible repeat (first | refine ZbW ?_ _ | refine ZbD ?_ | refine ZbA ?_ _)); exact BK275.out) hb); have n3_ := Zam (ZbS (by repeat (first | (with_reducible first | exact HB.out | apply ZhA | apply ZhW | apply ZhD | refine ZhS ?_ GE274.out | refine ZhS ?_ GE275.out) | exact HB.out)) hb); clear BK274 BK275 HB; have HO286 := n0_; have BK274 := n1_; have BK275 := n2_; have HB := n3_; clear n0_ n1_ n2_ n3_; (try clear hb); (try clear hb2); (try clear hk); (try clear hi); (try clear ho0); have hcz25_0 : w24.cell? ⟨gb275, 0, none⟩ = some (.int .i64 0) := (ZbC BK275.out 0).trans rfl; have hcz25_1 : w24.cell? ⟨gb275, 1, none⟩ = some (.int .i64 0) := (ZbC BK275.out 1).trans rfl; have hcz25_2 : w24.cell? ⟨gb275, 2, none⟩ = some (.slice none 0 0) := (ZbC BK275.out 2).trans rfl; have hfz25_0 := ZbF BK275.out 0; have hfz25_1 := ZbF BK275.out 1; have hfz25_2 := ZbF BK275.out 2; obtain ⟨Ao26, co26, eo26⟩ := Kd.R_slice HO286.out; subst eo26))
 refine bodyPost_ret (results_cell_row rfl _ _ gb275 82 #[.int .i64 t282, .int .i64 t283, .slice Ao26 t284.length co26] (0, 0) _ rfl (set3_blk BK275.out) Try.underlying82 rfl (by kernel_rfl)) rfl ?_
 exact ⟨_, by first | rfl | (simp [*, errW_none, errW_some] <;> rfl), by (with_reducible repeat (first | apply ZrA | apply ZrW | apply ZrD)); exact Kd.R_mono (set3_R (Kd.R_types HO286.out BK275.out (by decide)) (fun _ hk => hk.2)) (fun _ hk => trivial), by repeat (first | (with_reducible first | exact HB.out | apply ZhA | apply ZhW | apply ZhD | refine ZhS ?_ GE274.out | refine ZhS ?_ GE275.out) | exact HB.out)⟩

/-! ### spec_l7From: function 138 -/
def spec_l7From.f (a0 : Int) (a1 : Int) (a2 : Int) : Option (Int) := if (wrap64 (2 * a2)) = 0 then (none) else (if (wrap64 ((wrap64 (Int.tdiv (wrap64 ((wrap64 ((wrap64 ((wrap64 (2 * a0)) + 1)) * a1)) * 256)) (wrap64 (2 * a2)))) - 128)) < 0 then (some 0) else (some (wrap64 ((wrap64 (Int.tdiv (wrap64 ((wrap64 ((wrap64 ((wrap64 (2 * a0)) + 1)) * a1)) * 256)) (wrap64 (2 * a2)))) - 128))))
set_option maxHeartbeats 8000000 in
set_option maxRecDepth 100000 in
theorem spec_l7From.calls (a0 : Int) (a1 : Int) (a2 : Int) (r : Int) (w : World) (h : spec_l7From.f a0 a1 a2 = some r) :
  Calls Try.prog 138 #[.int .i64 a0, .int .i64 a1, .int .i64 a2] w fun e w' => e = .returned (.int .i64 r) ∧ Drawn0 w w' := by
 have H : (if (wrap64 (2 * a2)) = 0 then (none) else (if (wrap64 ((wrap64 (Int.tdiv (wrap64 ((wrap64 ((wrap64 ((wrap64 (2 * a0)) + 1)) * a1)) * 256)) (wrap64 (2 * a2)))) - 128)) < 0 then (some 0) else (some (wrap64 ((wrap64 (Int.tdiv (wrap64 ((wrap64 ((wrap64 ((wrap64 (2 * a0)) + 1)) * a1)) * 256)) (wrap64 (2 * a2)))) - 128))))) = some r := h
 clear h
 by_cases c4 : (wrap64 (2 * a2)) = 0
 ·rw [if_pos c4] at H
  exact absurd H (by simp)
 rw [if_neg c4] at H
 have c4b0 : ((wrap64 (2 * a2)) == 0) = false := beq_eq_false_iff_ne.mpr c4
 have c4b1 : ((wrap64 (2 * a2)) != 0) = true := bne_iff_ne.mpr c4
 by_cases c5 : (wrap64 ((wrap64 (Int.tdiv (wrap64 ((wrap64 ((wrap64 ((wrap64 (2 * a0)) + 1)) * a1)) * 256)) (wrap64 (2 * a2)))) - 128)) < 0
 rw [if_pos c5] at H
 have c5b0 : decide ((wrap64 ((wrap64 (Int.tdiv (wrap64 ((wrap64 ((wrap64 ((wrap64 (2 * a0)) + 1)) * a1)) * 256)) (wrap64 (2 * a2)))) - 128)) < 0) = true := decide_eq_true c5
 clear c5
 obtain rfl := Option.some.inj H
 rotate_left
 rw [if_neg c5] at H
 have c5b0 : decide ((wrap64 ((wrap64 (Int.tdiv (wrap64 ((wrap64 ((wrap64 ((wrap64 (2 * a0)) + 1)) * a1)) * 256)) (wrap64 (2 * a2)))) - 128)) < 0) = false := decide_eq_false c5
 clear c5
 obtain rfl := Option.some.inj H
 all_goals
  go_enter Try.func138, Try.ntmps138
  go_wp2
  go_ret
  exact ⟨by first | rfl | (simp; done) | (simp [*]; done), by repeat (first | exact Drawn0.refl _ | apply Drawn0.step)⟩

/-! ### spec_l7At: function 139 -/
mutual
def spec_l7At.j0 : Nat → Int → Int → Int → Int → List Int → Option (Int)
 | 0, _, _, _, _, _ => none
 | k + 1, x1, x2, x288000, x288001, x288002 => if x1 ≥ x288000 then (spec_l7At.j1 k (wrap64 (x288000 - 1)) x2 x288000 x288001 x288002) else (spec_l7At.j1 k x1 x2 x288000 x288001 x288002)
def spec_l7At.j1 : Nat → Int → Int → Int → Int → List Int → Option (Int)
 | 0, _, _, _, _, _ => none
 | k + 1, x1, x2, x288000, x288001, x288002 => if x2 < 0 then (if 0 ≥ x288001 then (if 0 ≤ (wrap64 ((wrap64 ((wrap64 (x288001 - 1)) * x288000)) + x1)) then (if (wrap64 ((wrap64 ((wrap64 (x288001 - 1)) * x288000)) + x1)) < (x288002.length : Int) then (some (rd x288002 (wrap64 ((wrap64 ((wrap64 (x288001 - 1)) * x288000)) + x1)))) else (none)) else (none)) else (if 0 ≤ (wrap64 ((wrap64 (0 * x288000)) + x1)) then (if (wrap64 ((wrap64 (0 * x288000)) + x1)) < (x288002.length : Int) then (some (rd x288002 (wrap64 ((wrap64 (0 * x288000)) + x1)))) else (none)) else (none))) else (if x2 ≥ x288001 then (if 0 ≤ (wrap64 ((wrap64 ((wrap64 (x288001 - 1)) * x288000)) + x1)) then (if (wrap64 ((wrap64 ((wrap64 (x288001 - 1)) * x288000)) + x1)) < (x288002.length : Int) then (some (rd x288002 (wrap64 ((wrap64 ((wrap64 (x288001 - 1)) * x288000)) + x1)))) else (none)) else (none)) else (if 0 ≤ (wrap64 ((wrap64 (x2 * x288000)) + x1)) then (if (wrap64 ((wrap64 (x2 * x288000)) + x1)) < (x288002.length : Int) then (some (rd x288002 (wrap64 ((wrap64 (x2 * x288000)) + x1)))) else (none)) else (none)))
end
def spec_l7At.f (k : Nat) (a0_0 : Int) (a0_1 : Int) (l0_2 : List Int) (a1 : Int) (a2 : Int) : Option (Int) := if a1 < 0 then (spec_l7At.j0 k 0 a2 a0_0 a0_1 l0_2) else (spec_l7At.j0 k a1 a2 a0_0 a0_1 l0_2)
theorem spec_l7At.mono_l : ∀ k, (∀ y0 y1 y2 y3 y4, LeO (spec_l7At.j0 k y0 y1 y2 y3 y4) (spec_l7At.j0 (k + 1) y0 y1 y2 y3 y4)) ∧ (∀ y0 y1 y2 y3 y4, LeO (spec_l7At.j1 k y0 y1 y2 y3 y4) (spec_l7At.j1 (k + 1) y0 y1 y2 y3 y4))
 | 0 => ⟨fun _ _ _ _ _ r h => by simp [spec_l7At.j0] at h, fun _ _ _ _ _ r h => by simp [spec_l7At.j1] at h⟩
 | k + 1 => by
  obtain ⟨ih0, ih1⟩ := spec_l7At.mono_l k
  refine ⟨?_, ?_⟩
  ·intro y0 y1 y2 y3 y4
   unfold spec_l7At.j0
   repeat' first
   | (with_reducible exact ih0 _ _ _ _ _)
   | (with_reducible exact ih1 _ _ _ _ _)
   | (with_reducible exact LeO.refl _)
   | (with_reducible exact LeO.none _)
   | (with_reducible refine LeO.ite ?_ ?_)
   | (with_reducible refine LeO.bind ?_ (fun _ => ?_))
   | exact ih0 _ _ _ _ _
   | exact ih1 _ _ _ _ _
   | exact LeO.none _
   | refine LeO.ite ?_ ?_
   | refine LeO.bind ?_ (fun _ => ?_)
  ·intro y0 y1 y2 y3 y4
   unfold spec_l7At.j1
   repeat' first
   | (with_reducible exact ih0 _ _ _ _ _)
   | (with_reducible exact ih1 _ _ _ _ _)
   | (with_reducible exact LeO.refl _)
   | (with_reducible exact LeO.none _)
   | (with_reducible refine LeO.ite ?_ ?_)
   | (with_reducible refine LeO.bind ?_ (fun _ => ?_))
   | exact ih0 _ _ _ _ _
   | exact ih1 _ _ _ _ _
   | exact LeO.none _
   | refine LeO.ite ?_ ?_
   | refine LeO.bind ?_ (fun _ => ?_)
theorem spec_l7At.mono : ∀ a0 a1 a2 a3 a4 k, LeO (spec_l7At.f k a0 a1 a2 a3 a4) (spec_l7At.f (k + 1) a0 a1 a2 a3 a4) := by
 intro a0 a1 a2 a3 a4 k
 obtain ⟨ih0, ih1⟩ := spec_l7At.mono_l k
 unfold spec_l7At.f
 repeat' first
   | (with_reducible exact ih0 _ _ _ _ _)
   | (with_reducible exact ih1 _ _ _ _ _)
   | (with_reducible exact LeO.refl _)
   | (with_reducible exact LeO.none _)
   | (with_reducible refine LeO.ite ?_ ?_)
   | (with_reducible refine LeO.bind ?_ (fun _ => ?_))
   | exact ih0 _ _ _ _ _
   | exact ih1 _ _ _ _ _
   | exact LeO.none _
   | refine LeO.ite ?_ ?_
   | refine LeO.bind ?_ (fun _ => ?_)
set_option maxHeartbeats 8000000 in
set_option maxRecDepth 100000 in
theorem spec_l7At.calls (k : Nat) (a0_0 : Int) (a0_1 : Int) (A0_2 : Option Addr) (c0_2 : Nat) (l0_2 : List Int) (a1 : Int) (a2 : Int) (r : Int) (w : World) (hr0_2 : Kd.C (Kd.int .i64) w A0_2 l0_2.length l0_2) (hc0_2 : l0_2.length ≤ c0_2) (h : spec_l7At.f k a0_0 a0_1 l0_2 a1 a2 = some r) :
  Calls Try.prog 139 #[.agg #[.int .i64 a0_0, .int .i64 a0_1, .slice A0_2 l0_2.length c0_2], .int .i64 a1, .int .i64 a2] w fun e w' => e = .returned (.int .i64 r) ∧ Below w.heap.size w w' := by
 have hu82 := Try.underlying82
 have HR0_2 := Zam hr0_2
 have HC0_2 := Zam hc0_2
 clear hr0_2 hc0_2
 have HB := Zam (Below.refl w.heap.size w)
 have H : (if a1 < 0 then (spec_l7At.j0 k 0 a2 a0_0 a0_1 l0_2) else (spec_l7At.j0 k a1 a2 a0_0 a0_1 l0_2)) = some r := h
 clear h
 have HC4 := Zam H
 clear H
 go_enter Try.func139, Try.ntmps139
 go_upto_if 8 with (first | ((with_reducible refine gate_dst (N := 3) rfl ?_); refine box_event ?hg (N := 3) ?hd (cs := #[.int .i64 a0_0, .int .i64 a0_1, .slice A0_2 l0_2.length c0_2]) (t := 82) ?hr ?_; (case hd => rfl); (case hg => rfl); (case hr => first | (go_simp; done) | (go_simp; rfl)); intro gb287 hg w5 hbox hb; have n0_ := Zam (ZbS (by repeat (first | (with_reducible first | exact HB.out | apply ZhA | apply ZhW | apply ZhD) | exact HB.out)) hb); have n1_ := Zam (hbox); have n2_ := Zam ((by rw [hg]; exact (below_size (by repeat (first | (with_reducible first | exact HB.out | apply ZhA | apply ZhW | apply ZhD) | exact HB.out))) : w.heap.size ≤ gb287)); have n3_ := n2_; clear HB; have HB := n0_; have BK287 := n1_; have GW287 := n2_; have GE287 := n3_; clear n0_ n1_ n2_ n3_; clear hb hbox hg))
 (try simp only [Act.put, Zl1, Zl2, Zl3])
 go_cut [1] (fun v1 wc => ∃ (kq : Nat) (x1_3 : Int), v1 = .int .i64 x1_3 ∧ Aside0 (spec_l7At.j0 kq x1_3 a2 a0_0 a0_1 l0_2 = some r) ∧ Aside0 (kq ≤ k) ∧ Aside0 (wc.heap[gb287]? = some (.cells #[.int .i64 a0_0, .int .i64 a0_1, (.slice A0_2 l0_2.length c0_2)] 82 (0, 0))) ∧ Aside0 (Below w.heap.size w wc))
 case first =>
  have H := HC4.out
  clear HC4
  by_cases c6 : a1 < 0
  ·rw [if_pos c6] at H
   have c6b0 : decide (a1 < 0) = true := decide_eq_true c6
   clear c6
   (first | rw [c6b0] | (simp only [i64_w, i32_w]; rw [c6b0]) | skip)
   have H' := Zam H
   clear H
   go_wp2
   go_meet
   case rel => exact ⟨_, (0), (by first | rfl | (simp; done) | (simp [*]; done)), H', ⟨by first | omega | exact Nat.le_refl _⟩, ⟨by (with_reducible repeat (first | refine ZbW ?_ _ | refine ZbD ?_ | refine ZbA ?_ _)); exact BK287.out⟩, ⟨by repeat (first | (with_reducible first | exact HB.out | apply ZhA | apply ZhW | apply ZhD | refine ZhS ?_ GE287.out) | exact HB.out)⟩⟩
  rw [if_neg c6] at H
  have c6b0 : decide (a1 < 0) = false := decide_eq_false c6
  clear c6
  (first | rw [c6b0] | (simp only [i64_w, i32_w]; rw [c6b0]) | skip)
  have H' := Zam H
  clear H
  go_wp2
  go_meet
  case rel => exact ⟨_, (a1), (by first | rfl | (simp; done) | (simp [*]; done)), H', ⟨by first | omega | exact Nat.le_refl _⟩, ⟨by (with_reducible repeat (first | refine ZbW ?_ _ | refine ZbD ?_ | refine ZbA ?_ _)); exact BK287.out⟩, ⟨by repeat (first | (with_reducible first | exact HB.out | apply ZhA | apply ZhW | apply ZhD | refine ZhS ?_ GE287.out) | exact HB.out)⟩⟩
 case rest =>
  clear HC4
  try clear c1
  try clear p2
  try clear c6
  try clear c6b0
  obtain ⟨kq, x1_3, rfl, HA, HJ3, BK287, HB⟩ := hcut
  cases kq with
  | zero => exact absurd HA.out (by simp [spec_l7At.j0])
  | succ kj3 =>
   have H := HA.out
   clear HA
   simp only [spec_l7At.j0] at H
   have HC7 := Zam H
   clear H
   have hcz8_0 : wc.cell? ⟨gb287, 0, none⟩ = some (.int .i64 a0_0) := (ZbC BK287.out 0).trans rfl
   have hcz8_1 : wc.cell? ⟨gb287, 1, none⟩ = some (.int .i64 a0_1) := (ZbC BK287.out 1).trans rfl
   have hcz8_2 : wc.cell? ⟨gb287, 2, none⟩ = some (.slice A0_2 l0_2.length c0_2) := (ZbC BK287.out 2).trans rfl
   have hfz8_0 := ZbF BK287.out 0
   have hfz8_1 := ZbF BK287.out 1
   have hfz8_2 := ZbF BK287.out 2
   go_upto_if 12 with (fail)
   go_cut [1] (fun v1 wc => ∃ (kq : Nat) (x1_6 : Int), v1 = .int .i64 x1_6 ∧ Aside0 (spec_l7At.j1 kq x1_6 a2 a0_0 a0_1 l0_2 = some r) ∧ Aside0 (kq ≤ kj3) ∧ Aside0 (wc.heap[gb287]? = some (.cells #[.int .i64 a0_0, .int .i64 a0_1, (.slice A0_2 l0_2.length c0_2)] 82 (0, 0))) ∧ Aside0 (Below w.heap.size w wc))
   case first =>
    have H := HC7.out
    clear HC7
    by_cases c9 : x1_3 ≥ a0_0
    rotate_left
    ·rw [if_neg c9] at H
     have c9b0 : decide (a0_0 ≤ x1_3) = false := decide_eq_false c9
     clear c9
     (first | rw [c9b0] | (simp only [i64_w, i32_w]; rw [c9b0]) | skip)
     have H' := Zam H
     clear H
     go_wp2
     go_meet
     case rel => exact ⟨_, (x1_3), (by first | rfl | (simp; done) | (simp [*]; done)), H', ⟨by have := HJ3.out; first | omega | exact Nat.le_refl _⟩, ⟨by (with_reducible repeat (first | refine ZbW ?_ _ | refine ZbD ?_ | refine ZbA ?_ _)); exact BK287.out⟩, ⟨by repeat (first | (with_reducible first | exact HB.out | apply ZhA | apply ZhW | apply ZhD | refine ZhS ?_ GE287.out) | exact HB.out)⟩⟩
    rw [if_pos c9] at H
    have c9b0 : decide (a0_0 ≤ x1_3) = true := decide_eq_true c9
    clear c9
    (first | rw [c9b0] | (simp only [i64_w, i32_w]; rw [c9b0]) | skip)
    have H' := Zam H
    clear H
    have hcz10_0 : wc.cell? ⟨gb287, 0, none⟩ = some (.int .i64 a0_0) := (ZbC BK287.out 0).trans rfl
    have hcz10_1 : wc.cell? ⟨gb287, 1, none⟩ = some (.int .i64 a0_1) := (ZbC BK287.out 1).trans rfl
    have hcz10_2 : wc.cell? ⟨gb287, 2, none⟩ = some (.slice A0_2 l0_2.length c0_2) := (ZbC BK287.out 2).trans rfl
    have hfz10_0 := ZbF BK287.out 0
    have hfz10_1 := ZbF BK287.out 1
    have hfz10_2 := ZbF BK287.out 2
    go_wp2
    go_meet
    case rel => exact ⟨_, (wrap64 (a0_0 - 1)), (by first | rfl | (simp; done) | (simp [*]; done)), H', ⟨by have := HJ3.out; first | omega | exact Nat.le_refl _⟩, ⟨by (with_reducible repeat (first | refine ZbW ?_ _ | refine ZbD ?_ | refine ZbA ?_ _)); exact BK287.out⟩, ⟨by repeat (first | (with_reducible first | exact HB.out | apply ZhA | apply ZhW | apply ZhD | refine ZhS ?_ GE287.out) | exact HB.out)⟩⟩
   case rest =>
    clear HC7
    try clear c1
    try clear p2
    try clear c6
    try clear c6b0
    try clear p6
    try clear c9
    try clear c9b0
    try clear hcz10_0
    try clear hcz10_1
    try clear hcz10_2
    try clear hcz8_0
    try clear hcz8_1
    try clear hcz8_2
    try clear hfz10_0
    try clear hfz10_1
    try clear hfz10_2
    try clear hfz8_0
    try clear hfz8_1
    try clear hfz8_2
    try clear p2
    obtain ⟨kq, x1_6, rfl, HA, HJ6, BK287, HB⟩ := hcut
    cases kq with
    | zero => exact absurd HA.out (by simp [spec_l7At.j1])
    | succ kj6 =>
     have H := HA.out
     clear HA
     simp only [spec_l7At.j1] at H
     by_cases c11 : a2 < 0
     ·rw [if_pos c11] at H
      have c11b0 : decide (a2 < 0) = true := decide_eq_true c11
      clear c11
      by_cases c12 : 0 ≥ a0_1
      rotate_left
      ·rw [if_neg c12] at H
       have c12b0 : decide (a0_1 ≤ 0) = false := decide_eq_false c12
       clear c12
       obtain ⟨ji17, hji17⟩ : ∃ j_ : Int, (wrap64 ((wrap64 (0 * a0_0)) + x1_6)) = j_ := ⟨_, rfl⟩
       replace H : (if 0 ≤ (ji17) then (if (ji17) < (l0_2.length : Int) then (some (rd l0_2 (ji17))) else (none)) else (none)) = some r := by first | (rw [hji17] at H; exact H) | (simp only [hji17] at H ⊢; exact H)
       have hji17w : (IntKind.i64.wrap ((wrap64 (0 * a0_0)) + x1_6)) = ji17 := (i64_w _).trans hji17
       have hji17z : wrap64 x1_6 = ji17 := by have h_ := hji17; rw [Int.zero_mul, show wrap64 0 = 0 from by unfold wrap64; omega, Int.zero_add] at h_; exact h_
       have hji17zw : IntKind.i64.wrap x1_6 = ji17 := (i64_w _).trans hji17z
       by_cases c18 : 0 ≤ (ji17)
       rotate_left
       ·rw [if_neg c18] at H
        exact absurd H (by simp)
       rw [if_pos c18] at H
       have c18b0 : decide (0 ≤ (ji17)) = true := decide_eq_true c18
       clear c18
       by_cases c19 : (ji17) < (l0_2.length : Int)
       rotate_left
       ·rw [if_neg c19] at H
        exact absurd H (by simp)
       rw [if_pos c19] at H
       have c19b0 : decide ((ji17) < (l0_2.length : Int)) = true := decide_eq_true c19
       clear c19
       obtain rfl := Option.some.inj H
       have hcz20_0 : wc.cell? ⟨gb287, 0, none⟩ = some (.int .i64 a0_0) := (ZbC BK287.out 0).trans rfl
       have hcz20_1 : wc.cell? ⟨gb287, 1, none⟩ = some (.int .i64 a0_1) := (ZbC BK287.out 1).trans rfl
       have hcz20_2 : wc.cell? ⟨gb287, 2, none⟩ = some (.slice A0_2 l0_2.length c0_2) := (ZbC BK287.out 2).trans rfl
       have hfz20_0 := ZbF BK287.out 0
       have hfz20_1 := ZbF BK287.out 1
       have hfz20_2 := ZbF BK287.out 2
       have p289 : 0 ≤ ((ji17) : Int) := of_decide_eq_true (by first | (with_reducible assumption) | assumption)
       have q289 : (ji17) < (l0_2.length : Int) := of_decide_eq_true (by first | (with_reducible assumption) | assumption)
       obtain ⟨ad289, e289, hx289_0⟩ := Kd.at_int HR0_2.out (ji17) p289 q289
       cases e289
       replace hx289_0 := (HB.out.cell (World.block_lt_of_cell? w _ hx289_0)).trans hx289_0
       replace p289 := eq_true p289
       replace q289 := eq_true q289
       go_wp2
       go_ret
       exact ⟨by first | rfl | (simp [*, errW_none, errW_some] <;> rfl), by repeat (first | (with_reducible first | exact HB.out | apply ZhA | apply ZhW | apply ZhD | refine ZhS ?_ GE287.out) | exact HB.out)⟩
      rw [if_pos c12] at H
      have c12b0 : decide (a0_1 ≤ 0) = true := decide_eq_true c12
      clear c12
      obtain ⟨ji13, hji13⟩ : ∃ j_ : Int, (wrap64 ((wrap64 ((wrap64 (a0_1 - 1)) * a0_0)) + x1_6)) = j_ := ⟨_, rfl⟩
      replace H : (if 0 ≤ (ji13) then (if (ji13) < (l0_2.length : Int) then (some (rd l0_2 (ji13))) else (none)) else (none)) = some r := by first | (rw [hji13] at H; exact H) | (simp only [hji13] at H ⊢; exact H)
      have hji13w : (IntKind.i64.wrap ((wrap64 ((wrap64 (a0_1 - 1)) * a0_0)) + x1_6)) = ji13 := (i64_w _).trans hji13
      by_cases c14 : 0 ≤ (ji13)
      rotate_left
      ·rw [if_neg c14] at H
       exact absurd H (by simp)
      rw [if_pos c14] at H
      have c14b0 : decide (0 ≤ (ji13)) = true := decide_eq_true c14
      clear c14
      by_cases c15 : (ji13) < (l0_2.length : Int)
      rotate_left
      ·rw [if_neg c15] at H
       exact absurd H (by simp)
      rw [if_pos c15] at H
      have c15b0 : decide ((ji13) < (l0_2.length : Int)) = true := decide_eq_true c15
      clear c15
      obtain rfl := Option.some.inj H
      have hcz16_0 : wc.cell? ⟨gb287, 0, none⟩ = some (.int .i64 a0_0) := (ZbC BK287.out 0).trans rfl
      have hcz16_1 : wc.cell? ⟨gb287, 1, none⟩ = some (.int .i64 a0_1) := (ZbC BK287.out 1).trans rfl
      have hcz16_2 : wc.cell? ⟨gb287, 2, none⟩ = some (.slice A0_2 l0_2.length c0_2) := (ZbC BK287.out 2).trans rfl
      have hfz16_0 := ZbF BK287.out 0
      have hfz16_1 := ZbF BK287.out 1
      have hfz16_2 := ZbF BK287.out 2
      have p288 : 0 ≤ ((ji13) : Int) := of_decide_eq_true (by first | (with_reducible assumption) | assumption)
      have q288 : (ji13) < (l0_2.length : Int) := of_decide_eq_true (by first | (with_reducible assumption) | assumption)
      obtain ⟨ad288, e288, hx288_0⟩ := Kd.at_int HR0_2.out (ji13) p288 q288
      cases e288
      replace hx288_0 := (HB.out.cell (World.block_lt_of_cell? w _ hx288_0)).trans hx288_0
      replace p288 := eq_true p288
      replace q288 := eq_true q288
      go_wp2
      go_ret
      exact ⟨by first | rfl | (simp [*, errW_none, errW_some] <;> rfl), by repeat (first | (with_reducible first | exact HB.out | apply ZhA | apply ZhW | apply ZhD | refine ZhS ?_ GE287.out) | exact HB.out)⟩
     rw [if_neg c11] at H
     have c11b0 : decide (a2 < 0) = false := decide_eq_false c11
     clear c11
     by_cases c21 : a2 ≥ a0_1
     rotate_left
     ·rw [if_neg c21] at H
      have c21b0 : decide (a0_1 ≤ a2) = false := decide_eq_false c21
      clear c21
      obtain ⟨ji26, hji26⟩ : ∃ j_ : Int, (wrap64 ((wrap64 (a2 * a0_0)) + x1_6)) = j_ := ⟨_, rfl⟩
      replace H : (if 0 ≤ (ji26) then (if (ji26) < (l0_2.length : Int) then (some (rd l0_2 (ji26))) else (none)) else (none)) = some r := by first | (rw [hji26] at H; exact H) | (simp only [hji26] at H ⊢; exact H)
      have hji26w : (IntKind.i64.wrap ((wrap64 (a2 * a0_0)) + x1_6)) = ji26 := (i64_w _).trans hji26
      by_cases c27 : 0 ≤ (ji26)
      rotate_left
      ·rw [if_neg c27] at H
       exact absurd H (by simp)
      rw [if_pos c27] at H
      have c27b0 : decide (0 ≤ (ji26)) = true := decide_eq_true c27
      clear c27
      by_cases c28 : (ji26) < (l0_2.length : Int)
      rotate_left
      ·rw [if_neg c28] at H
       exact absurd H (by simp)
      rw [if_pos c28] at H
      have c28b0 : decide ((ji26) < (l0_2.length : Int)) = true := decide_eq_true c28
      clear c28
      obtain rfl := Option.some.inj H
      have hcz29_0 : wc.cell? ⟨gb287, 0, none⟩ = some (.int .i64 a0_0) := (ZbC BK287.out 0).trans rfl
      have hcz29_1 : wc.cell? ⟨gb287, 1, none⟩ = some (.int .i64 a0_1) := (ZbC BK287.out 1).trans rfl
      have hcz29_2 : wc.cell? ⟨gb287, 2, none⟩ = some (.slice A0_2 l0_2.length c0_2) := (ZbC BK287.out 2).trans rfl
      have hfz29_0 := ZbF BK287.out 0
      have hfz29_1 := ZbF BK287.out 1
      have hfz29_2 := ZbF BK287.out 2
      have p291 : 0 ≤ ((ji26) : Int) := of_decide_eq_true (by first | (with_reducible assumption) | assumption)
      have q291 : (ji26) < (l0_2.length : Int) := of_decide_eq_true (by first | (with_reducible assumption) | assumption)
      obtain ⟨ad291, e291, hx291_0⟩ := Kd.at_int HR0_2.out (ji26) p291 q291
      cases e291
      replace hx291_0 := (HB.out.cell (World.block_lt_of_cell? w _ hx291_0)).trans hx291_0
      replace p291 := eq_true p291
      replace q291 := eq_true q291
      go_wp2
      go_ret
      exact ⟨by first | rfl | (simp [*, errW_none, errW_some] <;> rfl), by repeat (first | (with_reducible first | exact HB.out | apply ZhA | apply ZhW | apply ZhD | refine ZhS ?_ GE287.out) | exact HB.out)⟩
     rw [if_pos c21] at H
     have c21b0 : decide (a0_1 ≤ a2) = true := decide_eq_true c21
     clear c21
     obtain ⟨ji22, hji22⟩ : ∃ j_ : Int, (wrap64 ((wrap64 ((wrap64 (a0_1 - 1)) * a0_0)) + x1_6)) = j_ := ⟨_, rfl⟩
     replace H : (if 0 ≤ (ji22) then (if (ji22) < (l0_2.length : Int) then (some (rd l0_2 (ji22))) else (none)) else (none)) = some r := by first | (rw [hji22] at H; exact H) | (simp only [hji22] at H ⊢; exact H)
     have hji22w : (IntKind.i64.wrap ((wrap64 ((wrap64 (a0_1 - 1)) * a0_0)) + x1_6)) = ji22 := (i64_w _).trans hji22
     by_cases c23 : 0 ≤ (ji22)
     rotate_left
     ·rw [if_neg c23] at H
      exact absurd H (by simp)
     rw [if_pos c23] at H
     have c23b0 : decide (0 ≤ (ji22)) = true := decide_eq_true c23
     clear c23
     by_cases c24 : (ji22) < (l0_2.length : Int)
     rotate_left
     ·rw [if_neg c24] at H
      exact absurd H (by simp)
     rw [if_pos c24] at H
     have c24b0 : decide ((ji22) < (l0_2.length : Int)) = true := decide_eq_true c24
     clear c24
     obtain rfl := Option.some.inj H
     have hcz25_0 : wc.cell? ⟨gb287, 0, none⟩ = some (.int .i64 a0_0) := (ZbC BK287.out 0).trans rfl
     have hcz25_1 : wc.cell? ⟨gb287, 1, none⟩ = some (.int .i64 a0_1) := (ZbC BK287.out 1).trans rfl
     have hcz25_2 : wc.cell? ⟨gb287, 2, none⟩ = some (.slice A0_2 l0_2.length c0_2) := (ZbC BK287.out 2).trans rfl
     have hfz25_0 := ZbF BK287.out 0
     have hfz25_1 := ZbF BK287.out 1
     have hfz25_2 := ZbF BK287.out 2
     have p290 : 0 ≤ ((ji22) : Int) := of_decide_eq_true (by first | (with_reducible assumption) | assumption)
     have q290 : (ji22) < (l0_2.length : Int) := of_decide_eq_true (by first | (with_reducible assumption) | assumption)
     obtain ⟨ad290, e290, hx290_0⟩ := Kd.at_int HR0_2.out (ji22) p290 q290
     cases e290
     replace hx290_0 := (HB.out.cell (World.block_lt_of_cell? w _ hx290_0)).trans hx290_0
     replace p290 := eq_true p290
     replace q290 := eq_true q290
     go_wp2
     go_ret
     exact ⟨by first | rfl | (simp [*, errW_none, errW_some] <;> rfl), by repeat (first | (with_reducible first | exact HB.out | apply ZhA | apply ZhW | apply ZhD | refine ZhS ?_ GE287.out) | exact HB.out)⟩

end Go.Proofs.Ytidblealnaicpaa.PFnSizes

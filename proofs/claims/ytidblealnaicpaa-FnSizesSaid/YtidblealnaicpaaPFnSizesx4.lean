-- written by myprint.py (a program of this session's over the kit's print)
import Derived.Test.YtidblealnaicpaaPFnSizesx0
import Derived.Test.YtidblealnaicpaaPFnSizesx3
namespace Go.Proofs.Ytidblealnaicpaa.PFnSizes
open Go.RowKit Go.Proofs.YtidblealnaicpaaW.PrintWords Go.Proofs.YtidblealnaicpaaW.PrintLast Go.Proofs.YtidblealnaicpaaW.PrintMore
attribute [local go_sem] max2_int min2_int max_two min_two max_three min_three max_four min_four   -- for this text's walks alone
set_option linter.unusedVariables false
set_option linter.unusedSimpArgs false

/-! ### spec_GoodPlane: function 58 -/
mutual
def spec_GoodPlane.j0 : Nat → Bool → Int → Int → List Int → Option (Bool)
 | 0, _, _, _, _ => none
 | k + 1, x21, x219000, x219001, x219002 => if x21 = true then (some false) else (spec_GoodPlane.l0 k x219002 (x219002.length : Int) 0)
def spec_GoodPlane.l0 : Nat → List Int → Int → Int → Option (Bool)
 | 0, _, _, _ => none
 | k + 1, x23, x24, x25 => if x25 < x24 then (if 0 ≤ x25 then (if x25 < (x23.length : Int) then (if (rd x23 x25) < 0 then (some false) else (if (rd x23 x25) > 255 then (some false) else (spec_GoodPlane.l0 k x23 x24 (wrap64 (x25 + 1))))) else (none)) else (none)) else (some true)
end
def spec_GoodPlane.f (k : Nat) (a0_0 : Int) (a0_1 : Int) (l0_2 : List Int) : Option (Bool) := (spec_l7Sides.f a0_0 a0_1).bind fun t219 => (if t219 = true then (spec_GoodPlane.j0 k ((l0_2.length : Int) != (wrap64 (a0_0 * a0_1))) a0_0 a0_1 l0_2) else (spec_GoodPlane.j0 k true a0_0 a0_1 l0_2))
theorem spec_GoodPlane.mono_l : ∀ k, (∀ y0 y1 y2 y3, LeO (spec_GoodPlane.j0 k y0 y1 y2 y3) (spec_GoodPlane.j0 (k + 1) y0 y1 y2 y3)) ∧ (∀ y0 y1 y2, LeO (spec_GoodPlane.l0 k y0 y1 y2) (spec_GoodPlane.l0 (k + 1) y0 y1 y2))
 | 0 => ⟨fun _ _ _ _ r h => by simp [spec_GoodPlane.j0] at h, fun _ _ _ r h => by simp [spec_GoodPlane.l0] at h⟩
 | k + 1 => by
  obtain ⟨ih0, ih1⟩ := spec_GoodPlane.mono_l k
  refine ⟨?_, ?_⟩
  ·intro y0 y1 y2 y3
   unfold spec_GoodPlane.j0
   repeat' first
   | (with_reducible exact ih0 _ _ _ _)
   | (with_reducible exact ih1 _ _ _)
   | (with_reducible exact LeO.refl _)
   | (with_reducible exact LeO.none _)
   | (with_reducible refine LeO.ite ?_ ?_)
   | (with_reducible refine LeO.bind ?_ (fun _ => ?_))
   | exact ih0 _ _ _ _
   | exact ih1 _ _ _
   | exact LeO.none _
   | refine LeO.ite ?_ ?_
   | refine LeO.bind ?_ (fun _ => ?_)
  ·intro y0 y1 y2
   unfold spec_GoodPlane.l0
   repeat' first
   | (with_reducible exact ih0 _ _ _ _)
   | (with_reducible exact ih1 _ _ _)
   | (with_reducible exact LeO.refl _)
   | (with_reducible exact LeO.none _)
   | (with_reducible refine LeO.ite ?_ ?_)
   | (with_reducible refine LeO.bind ?_ (fun _ => ?_))
   | exact ih0 _ _ _ _
   | exact ih1 _ _ _
   | exact LeO.none _
   | refine LeO.ite ?_ ?_
   | refine LeO.bind ?_ (fun _ => ?_)
theorem spec_GoodPlane.mono : ∀ a0 a1 a2 k, LeO (spec_GoodPlane.f k a0 a1 a2) (spec_GoodPlane.f (k + 1) a0 a1 a2) := by
 intro a0 a1 a2 k
 obtain ⟨ih0, ih1⟩ := spec_GoodPlane.mono_l k
 unfold spec_GoodPlane.f
 repeat' first
   | (with_reducible exact ih0 _ _ _ _)
   | (with_reducible exact ih1 _ _ _)
   | (with_reducible exact LeO.refl _)
   | (with_reducible exact LeO.none _)
   | (with_reducible refine LeO.ite ?_ ?_)
   | (with_reducible refine LeO.bind ?_ (fun _ => ?_))
   | exact ih0 _ _ _ _
   | exact ih1 _ _ _
   | exact LeO.none _
   | refine LeO.ite ?_ ?_
   | refine LeO.bind ?_ (fun _ => ?_)
set_option maxHeartbeats 8000000 in
set_option maxRecDepth 100000 in
theorem spec_GoodPlane.calls (k : Nat) (a0_0 : Int) (a0_1 : Int) (A0_2 : Option Addr) (c0_2 : Nat) (l0_2 : List Int) (r : Bool) (w : World) (hr0_2 : Kd.C (Kd.int .i64) w A0_2 l0_2.length l0_2) (hc0_2 : l0_2.length ≤ c0_2) (h : spec_GoodPlane.f k a0_0 a0_1 l0_2 = some r) :
  Calls Try.prog 58 #[.agg #[.int .i64 a0_0, .int .i64 a0_1, .slice A0_2 l0_2.length c0_2]] w fun e w' => e = .returned (.bool r) ∧ Below w.heap.size w w' := by
 have hu82 := Try.underlying82
 have HR0_2 := Zam hr0_2
 have HC0_2 := Zam hc0_2
 clear hr0_2 hc0_2
 have HB := Zam (Below.refl w.heap.size w)
 have H : ((spec_l7Sides.f a0_0 a0_1).bind fun t219 => (if t219 = true then (spec_GoodPlane.j0 k ((l0_2.length : Int) != (wrap64 (a0_0 * a0_1))) a0_0 a0_1 l0_2) else (spec_GoodPlane.j0 k true a0_0 a0_1 l0_2))) = some r := h
 clear h
 have HC2 := Zam H
 clear H
 go_enter Try.func58, Try.ntmps58
 go_upto_region 1 with (first | ((with_reducible refine gate_dst (N := 1) rfl ?_); (try (refine gate_guard (by rfl) ?_; dsimp only)); refine box_event ?hg (N := 1) ?hd (cs := #[.int .i64 a0_0, .int .i64 a0_1, .slice A0_2 l0_2.length c0_2]) (t := 82) ?hr ?_; (case hd => rfl); (case hg => rfl); (case hr => first | (go_simp; done) | (go_simp; rfl)); intro gb218 hg w3 hbox hb; have n0_ := Zam (ZbS (by repeat (first | (with_reducible first | exact HB.out | apply ZhA | apply ZhW | apply ZhD) | exact HB.out)) hb); have n1_ := Zam (hbox); have n2_ := Zam ((by rw [hg]; exact (below_size (by repeat (first | (with_reducible first | exact HB.out | apply ZhA | apply ZhW | apply ZhD) | exact HB.out))) : w.heap.size ≤ gb218)); have n3_ := n2_; clear HB; have HB := n0_; have BK218 := n1_; have GW218 := n2_; have GE218 := n3_; clear n0_ n1_ n2_ n3_; clear hb hbox hg))
 (try simp only [Act.put, Zl1, Zl2, Zl3])
 go_cut [21] (fun v21 wc => ∃ (kq : Nat) (x21_1 : Bool), v21 = .bool x21_1 ∧ Aside0 (spec_GoodPlane.j0 kq x21_1 a0_0 a0_1 l0_2 = some r) ∧ Aside0 (kq ≤ k) ∧ Aside0 (wc.heap[gb218]? = some (.cells #[.int .i64 a0_0, .int .i64 a0_1, (.slice A0_2 l0_2.length c0_2)] 82 (0, 0))) ∧ Aside0 (Below w.heap.size w wc))
 case first =>
  have H := HC2.out
  clear HC2
  replace H := Zob.mp H
  obtain ⟨t219, A40, H⟩ := H
  replace H : (if t219 = true then (spec_GoodPlane.j0 k ((l0_2.length : Int) != (wrap64 (a0_0 * a0_1))) a0_0 a0_1 l0_2) else (spec_GoodPlane.j0 k true a0_0 a0_1 l0_2)) = some r := H
  have A4 := Zam A40
  clear A40
  by_cases c5 : t219 = true
  rotate_left
  ·replace c5 := Bool.eq_false_iff.mpr c5
   subst c5
   replace H : (spec_GoodPlane.j0 k true a0_0 a0_1 l0_2) = some r := by rw [if_neg (show ¬ (false = true) by decide)] at H; exact H
   have H' := Zam H
   clear H
   have hcz7_0 : w3.cell? ⟨gb218, 0, none⟩ = some (.int .i64 a0_0) := (ZbC BK218.out 0).trans rfl
   have hcz7_1 : w3.cell? ⟨gb218, 1, none⟩ = some (.int .i64 a0_1) := (ZbC BK218.out 1).trans rfl
   have hcz7_2 : w3.cell? ⟨gb218, 2, none⟩ = some (.slice A0_2 l0_2.length c0_2) := (ZbC BK218.out 2).trans rfl
   have hfz7_0 := ZbF BK218.out 0
   have hfz7_1 := ZbF BK218.out 1
   have hfz7_2 := ZbF BK218.out 2
   go_wp2_with (first | ((with_reducible refine gate_callee (f := 130) rfl ?_); refine goesL_ (some 9) rfl rfl Try.func130 (by kernel_rfl) rfl #[.int .i64 a0_0, .int .i64 a0_1] rfl (by (try simp only [Zm1, Zm2, Zm3]); first | done | rfl | (simp only [ZlL, ZlT]; rfl)) ?_; (with_reducible refine (spec_l7Sides.calls a0_0 a0_1 false _ A4.out).mono ?_); rintro e w' ⟨rfl, ⟨nd, rfl⟩⟩; refine ⟨_, rfl, ?_⟩))
   go_meet
   case rel => exact ⟨_, (true), (by first | rfl | (simp; done) | (simp [*]; done)), H', ⟨by first | omega | exact Nat.le_refl _⟩, ⟨by (with_reducible repeat (first | refine ZbW ?_ _ | refine ZbD ?_ | refine ZbA ?_ _)); exact BK218.out⟩, ⟨by repeat (first | (with_reducible first | exact HB.out | apply ZhA | apply ZhW | apply ZhD | refine ZhS ?_ GE218.out) | exact HB.out)⟩⟩
  subst c5
  replace H : (spec_GoodPlane.j0 k ((l0_2.length : Int) != (wrap64 (a0_0 * a0_1))) a0_0 a0_1 l0_2) = some r := by rw [if_pos rfl] at H; exact H
  have H' := Zam H
  clear H
  have hcz6_0 : w3.cell? ⟨gb218, 0, none⟩ = some (.int .i64 a0_0) := (ZbC BK218.out 0).trans rfl
  have hcz6_1 : w3.cell? ⟨gb218, 1, none⟩ = some (.int .i64 a0_1) := (ZbC BK218.out 1).trans rfl
  have hcz6_2 : w3.cell? ⟨gb218, 2, none⟩ = some (.slice A0_2 l0_2.length c0_2) := (ZbC BK218.out 2).trans rfl
  have hfz6_0 := ZbF BK218.out 0
  have hfz6_1 := ZbF BK218.out 1
  have hfz6_2 := ZbF BK218.out 2
  go_wp2_with (first | ((with_reducible refine gate_callee (f := 130) rfl ?_); refine goesL_ (some 9) rfl rfl Try.func130 (by kernel_rfl) rfl #[.int .i64 a0_0, .int .i64 a0_1] rfl (by (try simp only [Zm1, Zm2, Zm3]); first | done | rfl | (simp only [ZlL, ZlT]; rfl)) ?_; (with_reducible refine (spec_l7Sides.calls a0_0 a0_1 true _ A4.out).mono ?_); rintro e w' ⟨rfl, ⟨nd, rfl⟩⟩; refine ⟨_, rfl, ?_⟩))
  go_meet
  case rel => exact ⟨_, (((l0_2.length : Int) != (wrap64 (a0_0 * a0_1)))), (by first | rfl | (simp; done) | (simp [*]; done)), H', ⟨by first | omega | exact Nat.le_refl _⟩, ⟨by (with_reducible repeat (first | refine ZbW ?_ _ | refine ZbD ?_ | refine ZbA ?_ _)); exact BK218.out⟩, ⟨by repeat (first | (with_reducible first | exact HB.out | apply ZhA | apply ZhW | apply ZhD | refine ZhS ?_ GE218.out) | exact HB.out)⟩⟩
 case rest =>
  clear HC2
  try clear c1
  try clear p2
  try clear c5
  try clear p6
  try clear hcz6_0
  try clear hcz6_1
  try clear hcz6_2
  try clear hcz7_0
  try clear hcz7_1
  try clear hcz7_2
  try clear hfz6_0
  try clear hfz6_1
  try clear hfz6_2
  try clear hfz7_0
  try clear hfz7_1
  try clear hfz7_2
  obtain ⟨kq, x21_1, rfl, HA, HJ1, BK218, HB⟩ := hcut
  cases kq with
  | zero => exact absurd HA.out (by simp [spec_GoodPlane.j0])
  | succ kj1 =>
   have H := HA.out
   clear HA
   simp only [spec_GoodPlane.j0] at H
   by_cases c8 : x21_1 = true
   ·subst c8
    replace H : (some false) = some r := by rw [if_pos rfl] at H; exact H
    obtain rfl := Option.some.inj H
    go_wp2
    go_ret
    exact ⟨by first | rfl | (simp [*, errW_none, errW_some] <;> rfl), by repeat (first | (with_reducible first | exact HB.out | apply ZhA | apply ZhW | apply ZhD | refine ZhS ?_ GE218.out) | exact HB.out)⟩
   replace c8 := Bool.eq_false_iff.mpr c8
   subst c8
   replace H : (spec_GoodPlane.l0 kj1 l0_2 (l0_2.length : Int) 0) = some r := by rw [if_neg (show ¬ (false = true) by decide)] at H; exact H
   have H' := Zam H
   clear H
   have hcz9_0 : wc.cell? ⟨gb218, 0, none⟩ = some (.int .i64 a0_0) := (ZbC BK218.out 0).trans rfl
   have hcz9_1 : wc.cell? ⟨gb218, 1, none⟩ = some (.int .i64 a0_1) := (ZbC BK218.out 1).trans rfl
   have hcz9_2 : wc.cell? ⟨gb218, 2, none⟩ = some (.slice A0_2 l0_2.length c0_2) := (ZbC BK218.out 2).trans rfl
   have hfz9_0 := ZbF BK218.out 0
   have hfz9_1 := ZbF BK218.out 1
   have hfz9_2 := ZbF BK218.out 2
   go_wp2
   go_loopg [25] kj1 (fun kq v25 w' => ∃ (x25_2 : Int), v25 = .int .i64 x25_2 ∧ Aside0 (spec_GoodPlane.l0 kq l0_2 (l0_2.length : Int) x25_2 = some r) ∧ Aside0 (kq ≤ kj1) ∧ Aside0 (w'.heap[gb218]? = some (.cells #[.int .i64 a0_0, .int .i64 a0_1, (.slice A0_2 l0_2.length c0_2)] 82 (0, 0))) ∧ Aside0 (Below w.heap.size w w'))
   case atStart => exact ⟨(0), (by first | rfl | (simp; done) | (simp [*]; done)), H', ⟨Nat.le_refl _⟩, ⟨by (with_reducible repeat (first | refine ZbW ?_ _ | refine ZbD ?_ | refine ZbA ?_ _)); exact BK218.out⟩, ⟨by repeat (first | (with_reducible first | exact HB.out | apply ZhA | apply ZhW | apply ZhD | refine ZhS ?_ GE218.out) | exact HB.out)⟩⟩
   case round =>
    clear H'
    try clear c1
    try clear p2
    try clear c5
    try clear p6
    try clear c8
    try clear hcz6_0
    try clear hcz6_1
    try clear hcz6_2
    try clear hcz7_0
    try clear hcz7_1
    try clear hcz7_2
    try clear hcz9_0
    try clear hcz9_1
    try clear hcz9_2
    try clear hfz6_0
    try clear hfz6_1
    try clear hfz6_2
    try clear hfz7_0
    try clear hfz7_1
    try clear hfz7_2
    try clear hfz9_0
    try clear hfz9_1
    try clear hfz9_2
    try clear p2
    try clear p6
    obtain ⟨x25_2, rfl, HA, HK2, BK218, HB⟩ := hrel
    cases gk with
    | zero => exact absurd HA.out (by simp [spec_GoodPlane.l0])
    | succ k2 =>
     have H := HA.out
     clear HA
     simp only [spec_GoodPlane.l0] at H
     by_cases c10 : x25_2 < (l0_2.length : Int)
     rotate_left
     ·rw [if_neg c10] at H
      have c10b0 : decide (x25_2 < (l0_2.length : Int)) = false := decide_eq_false c10
      clear c10
      obtain rfl := Option.some.inj H
      go_wp2
      go_ret
      exact ⟨by first | rfl | (simp [*, errW_none, errW_some] <;> rfl), by repeat (first | (with_reducible first | exact HB.out | apply ZhA | apply ZhW | apply ZhD | refine ZhS ?_ GE218.out) | exact HB.out)⟩
     rw [if_pos c10] at H
     have c10b0 : decide (x25_2 < (l0_2.length : Int)) = true := decide_eq_true c10
     clear c10
     by_cases c11 : 0 ≤ x25_2
     rotate_left
     ·rw [if_neg c11] at H
      exact absurd H (by simp)
     rw [if_pos c11] at H
     have c11b0 : decide (0 ≤ x25_2) = true := decide_eq_true c11
     clear c11
     by_cases c12 : x25_2 < (l0_2.length : Int)
     rotate_left
     ·rw [if_neg c12] at H
      exact absurd H (by simp)
     rw [if_pos c12] at H
     have c12b0 : decide (x25_2 < (l0_2.length : Int)) = true := decide_eq_true c12
     clear c12
     by_cases c13 : (rd l0_2 x25_2) < 0
     rw [if_pos c13] at H
     have c13b0 : decide ((rd l0_2 x25_2) < 0) = true := decide_eq_true c13
     clear c13
     obtain rfl := Option.some.inj H
     rotate_left
     rw [if_neg c13] at H
     have c13b0 : decide ((rd l0_2 x25_2) < 0) = false := decide_eq_false c13
     clear c13
     by_cases c14 : (rd l0_2 x25_2) > 255
     rw [if_pos c14] at H
     have c14b0 : decide (255 < (rd l0_2 x25_2)) = true := decide_eq_true c14
     clear c14
     obtain rfl := Option.some.inj H
     rotate_left
     rw [if_neg c14] at H
     have c14b0 : decide (255 < (rd l0_2 x25_2)) = false := decide_eq_false c14
     clear c14
     have H' := Zam H
     clear H
     all_goals
      have p220 : 0 ≤ (x25_2 : Int) := of_decide_eq_true (by first | (with_reducible assumption) | assumption)
      have q220 : x25_2 < (l0_2.length : Int) := of_decide_eq_true (by first | (with_reducible assumption) | assumption)
      obtain ⟨ad220, e220, hx220_0⟩ := Kd.at_int HR0_2.out x25_2 p220 q220
      cases e220
      replace hx220_0 := (HB.out.cell (World.block_lt_of_cell? w _ hx220_0)).trans hx220_0
      replace p220 := eq_true p220
      replace q220 := eq_true q220
     ·go_wp2
      go_roundg k2
      case measure => have := HJ1.out; have := HK2.out; omega
      case rel => exact ⟨(wrap64 (x25_2 + 1)), (by first | rfl | (simp; done) | (simp [*]; done)), H', ⟨by have := HJ1.out; have := HK2.out; omega⟩, ⟨by (with_reducible repeat (first | refine ZbW ?_ _ | refine ZbD ?_ | refine ZbA ?_ _)); exact BK218.out⟩, ⟨by repeat (first | (with_reducible first | exact HB.out | apply ZhA | apply ZhW | apply ZhD | refine ZhS ?_ GE218.out) | exact HB.out)⟩⟩
     ·go_wp2
      go_ret
      exact ⟨by first | rfl | (simp [*, errW_none, errW_some] <;> rfl), by repeat (first | (with_reducible first | exact HB.out | apply ZhA | apply ZhW | apply ZhD | refine ZhS ?_ GE218.out) | exact HB.out)⟩
     ·go_wp2
      go_ret
      exact ⟨by first | rfl | (simp [*, errW_none, errW_some] <;> rfl), by repeat (first | (with_reducible first | exact HB.out | apply ZhA | apply ZhW | apply ZhD | refine ZhS ?_ GE218.out) | exact HB.out)⟩

/-! ### impl_goodSide: function 167 -/
def impl_goodSide.f (a0 : Int) : Option (Bool) := if a0 ≥ 1 then (some (decide (a0 ≤ 512))) else (some false)
set_option maxHeartbeats 8000000 in
set_option maxRecDepth 100000 in
theorem impl_goodSide.calls (a0 : Int) (r : Bool) (w : World) (h : impl_goodSide.f a0 = some r) :
  Calls Try.prog 167 #[.int .i64 a0] w fun e w' => e = .returned (.bool r) ∧ Drawn0 w w' := by
 have H : (if a0 ≥ 1 then (some (decide (a0 ≤ 512))) else (some false)) = some r := h
 clear h
 by_cases c2 : a0 ≥ 1
 rw [if_pos c2] at H
 have c2b0 : decide (1 ≤ a0) = true := decide_eq_true c2
 clear c2
 obtain rfl := Option.some.inj H
 rotate_left
 rw [if_neg c2] at H
 have c2b0 : decide (1 ≤ a0) = false := decide_eq_false c2
 clear c2
 obtain rfl := Option.some.inj H
 all_goals
  go_enter Try.func167, Try.ntmps167
  go_wp2
  go_ret
  exact ⟨by first | rfl | (simp; done) | (simp [*]; done), by repeat (first | exact Drawn0.refl _ | apply Drawn0.step)⟩

/-! ### impl_goodSides: function 132 -/
def impl_goodSides.f (a0 : Int) (a1 : Int) : Option (Bool) := (impl_goodSide.f a0).bind fun t221 => (if t221 = true then ((impl_goodSide.f a1).bind fun t222 => (if t222 = true then (some (decide ((wrap64 (a0 * a1)) ≤ 4096))) else (some false))) else (some false))
set_option maxHeartbeats 8000000 in
set_option maxRecDepth 100000 in
theorem impl_goodSides.calls (a0 : Int) (a1 : Int) (r : Bool) (w : World) (h : impl_goodSides.f a0 a1 = some r) :
  Calls Try.prog 132 #[.int .i64 a0, .int .i64 a1] w fun e w' => e = .returned (.bool r) ∧ Drawn0 w w' := by
 have H : ((impl_goodSide.f a0).bind fun t221 => (if t221 = true then ((impl_goodSide.f a1).bind fun t222 => (if t222 = true then (some (decide ((wrap64 (a0 * a1)) ≤ 4096))) else (some false))) else (some false))) = some r := h
 clear h
 replace H := Zob.mp H
 obtain ⟨t221, A30, H⟩ := H
 replace H : (if t221 = true then ((impl_goodSide.f a1).bind fun t222 => (if t222 = true then (some (decide ((wrap64 (a0 * a1)) ≤ 4096))) else (some false))) else (some false)) = some r := H
 have A3 := Zam A30
 clear A30
 by_cases c4 : t221 = true
 rotate_left
 ·replace c4 := Bool.eq_false_iff.mpr c4
  subst c4
  replace H : (some false) = some r := by rw [if_neg (show ¬ (false = true) by decide)] at H; exact H
  obtain rfl := Option.some.inj H
  go_enter Try.func132, Try.ntmps132
  go_wp2_with (first | ((with_reducible refine gate_callee (f := 167) rfl ?_); refine goesL_ (some 6) rfl rfl Try.func167 (by kernel_rfl) rfl #[.int .i64 a0] rfl (by (try simp only [Zm1, Zm2, Zm3]); first | done | rfl | (simp only [ZlL, ZlT]; rfl)) ?_; (with_reducible refine (impl_goodSide.calls a0 false _ A3.out).mono ?_); rintro e w' ⟨rfl, ⟨nd, rfl⟩⟩; refine ⟨_, rfl, ?_⟩))
  go_ret
  exact ⟨by first | rfl | (simp; done) | (simp [*]; done), by repeat (first | exact Drawn0.refl _ | apply Drawn0.step)⟩
 subst c4
 replace H : ((impl_goodSide.f a1).bind fun t222 => (if t222 = true then (some (decide ((wrap64 (a0 * a1)) ≤ 4096))) else (some false))) = some r := by rw [if_pos rfl] at H; exact H
 replace H := Zob.mp H
 obtain ⟨t222, A50, H⟩ := H
 replace H : (if t222 = true then (some (decide ((wrap64 (a0 * a1)) ≤ 4096))) else (some false)) = some r := H
 have A5 := Zam A50
 clear A50
 by_cases c6 : t222 = true
 ·subst c6
  replace H : (some (decide ((wrap64 (a0 * a1)) ≤ 4096))) = some r := by rw [if_pos rfl] at H; exact H
  obtain rfl := Option.some.inj H
  go_enter Try.func132, Try.ntmps132
  go_wp2_with (first | ((with_reducible refine gate_callee (f := 167) rfl ?_); refine goesL_ (some 6) rfl rfl Try.func167 (by kernel_rfl) rfl #[.int .i64 a0] rfl (by (try simp only [Zm1, Zm2, Zm3]); first | done | rfl | (simp only [ZlL, ZlT]; rfl)) ?_; (with_reducible refine (impl_goodSide.calls a0 true _ A3.out).mono ?_); rintro e w' ⟨rfl, ⟨nd, rfl⟩⟩; refine ⟨_, rfl, ?_⟩) | (go_at_call 167; (with_reducible refine (impl_goodSide.calls a1 true _ A5.out).mono ?_); rintro e w' ⟨rfl, ⟨nd, rfl⟩⟩))
  go_ret
  exact ⟨by first | rfl | (simp; done) | (simp [*]; done), by repeat (first | exact Drawn0.refl _ | apply Drawn0.step)⟩
 replace c6 := Bool.eq_false_iff.mpr c6
 subst c6
 replace H : (some false) = some r := by rw [if_neg (show ¬ (false = true) by decide)] at H; exact H
 obtain rfl := Option.some.inj H
 go_enter Try.func132, Try.ntmps132
 go_wp2_with (first | ((with_reducible refine gate_callee (f := 167) rfl ?_); refine goesL_ (some 6) rfl rfl Try.func167 (by kernel_rfl) rfl #[.int .i64 a0] rfl (by (try simp only [Zm1, Zm2, Zm3]); first | done | rfl | (simp only [ZlL, ZlT]; rfl)) ?_; (with_reducible refine (impl_goodSide.calls a0 true _ A3.out).mono ?_); rintro e w' ⟨rfl, ⟨nd, rfl⟩⟩; refine ⟨_, rfl, ?_⟩) | (go_at_call 167; (with_reducible refine (impl_goodSide.calls a1 false _ A5.out).mono ?_); rintro e w' ⟨rfl, ⟨nd, rfl⟩⟩))
 go_ret
 exact ⟨by first | rfl | (simp; done) | (simp [*]; done), by repeat (first | exact Drawn0.refl _ | apply Drawn0.step)⟩

/-! ### impl_inRange: function 169 -/
def impl_inRange.l0 : Nat → Int → List Int → Int → Int → Option (Bool)
 | 0, _, _, _, _ => none
 | k + 1, x1, x7, x8, x9 => if x9 < x8 then (if 0 ≤ x9 then (if x9 < (x7.length : Int) then (if (rd x7 x9) < 0 then (some false) else (if (rd x7 x9) > x1 then (some false) else (impl_inRange.l0 k x1 x7 x8 (wrap64 (x9 + 1))))) else (none)) else (none)) else (some true)
def impl_inRange.f (k : Nat) (l0 : List Int) (a1 : Int) : Option (Bool) := impl_inRange.l0 k a1 l0 (l0.length : Int) 0
theorem impl_inRange.mono_l : ∀ k, (∀ y0 y1 y2 y3, LeO (impl_inRange.l0 k y0 y1 y2 y3) (impl_inRange.l0 (k + 1) y0 y1 y2 y3))
 | 0 => fun _ _ _ _ r h => by simp [impl_inRange.l0] at h
 | k + 1 => by
  have ih0 := impl_inRange.mono_l k
  ·intro y0 y1 y2 y3
   unfold impl_inRange.l0
   repeat' first
   | (with_reducible exact ih0 _ _ _ _)
   | (with_reducible exact LeO.refl _)
   | (with_reducible exact LeO.none _)
   | (with_reducible refine LeO.ite ?_ ?_)
   | (with_reducible refine LeO.bind ?_ (fun _ => ?_))
   | exact ih0 _ _ _ _
   | exact LeO.none _
   | refine LeO.ite ?_ ?_
   | refine LeO.bind ?_ (fun _ => ?_)
theorem impl_inRange.mono : ∀ a0 a1 k, LeO (impl_inRange.f k a0 a1) (impl_inRange.f (k + 1) a0 a1) := by
 intro a0 a1 k
 have ih0 := impl_inRange.mono_l k
 unfold impl_inRange.f
 repeat' first
   | (with_reducible exact ih0 _ _ _ _)
   | (with_reducible exact LeO.refl _)
   | (with_reducible exact LeO.none _)
   | (with_reducible refine LeO.ite ?_ ?_)
   | (with_reducible refine LeO.bind ?_ (fun _ => ?_))
   | exact ih0 _ _ _ _
   | exact LeO.none _
   | refine LeO.ite ?_ ?_
   | refine LeO.bind ?_ (fun _ => ?_)
set_option maxHeartbeats 8000000 in
set_option maxRecDepth 100000 in
theorem impl_inRange.calls (k : Nat) (A0 : Option Addr) (c0 : Nat) (l0 : List Int) (a1 : Int) (r : Bool) (w : World) (hr0 : Kd.C (Kd.int .i64) w A0 l0.length l0) (hc0 : l0.length ≤ c0) (h : impl_inRange.f k l0 a1 = some r) :
  Calls Try.prog 169 #[.slice A0 l0.length c0, .int .i64 a1] w fun e w' => e = .returned (.bool r) ∧ Drawn0 w w' := by
 have HR0 := Zam hr0
 have HC0 := Zam hc0
 clear hr0 hc0
 have H : (impl_inRange.l0 k a1 l0 (l0.length : Int) 0) = some r := h
 clear h
 have H' := Zam H
 clear H
 go_enter Try.func169, Try.ntmps169
 go_wp2
 go_loopg [9] k (fun kq v9 w' => ∃ (x9_1 : Int), v9 = .int .i64 x9_1 ∧ Aside0 (impl_inRange.l0 kq a1 l0 (l0.length : Int) x9_1 = some r) ∧ Aside0 (kq ≤ k) ∧ Drawn0 w w')
 case atStart => exact ⟨(0), (by first | rfl | (simp; done) | (simp [*]; done)), H', ⟨Nat.le_refl _⟩, by repeat (first | exact Drawn0.refl _ | apply Drawn0.step)⟩
 case round =>
  clear H'
  try clear c1
  try clear p2
  obtain ⟨x9_1, rfl, HA, HK1, ⟨m1, rfl⟩⟩ := hrel
  cases gk with
  | zero => exact absurd HA.out (by simp [impl_inRange.l0])
  | succ k1 =>
   have H := HA.out
   clear HA
   simp only [impl_inRange.l0] at H
   by_cases c3 : x9_1 < (l0.length : Int)
   rotate_left
   ·rw [if_neg c3] at H
    have c3b0 : decide (x9_1 < (l0.length : Int)) = false := decide_eq_false c3
    clear c3
    obtain rfl := Option.some.inj H
    go_wp2
    go_ret
    exact ⟨by first | rfl | (simp; done) | (simp [*]; done), by repeat (first | exact Drawn0.refl _ | apply Drawn0.step)⟩
   rw [if_pos c3] at H
   have c3b0 : decide (x9_1 < (l0.length : Int)) = true := decide_eq_true c3
   clear c3
   by_cases c4 : 0 ≤ x9_1
   rotate_left
   ·rw [if_neg c4] at H
    exact absurd H (by simp)
   rw [if_pos c4] at H
   have c4b0 : decide (0 ≤ x9_1) = true := decide_eq_true c4
   clear c4
   by_cases c5 : x9_1 < (l0.length : Int)
   rotate_left
   ·rw [if_neg c5] at H
    exact absurd H (by simp)
   rw [if_pos c5] at H
   have c5b0 : decide (x9_1 < (l0.length : Int)) = true := decide_eq_true c5
   clear c5
   by_cases c6 : (rd l0 x9_1) < 0
   rw [if_pos c6] at H
   have c6b0 : decide ((rd l0 x9_1) < 0) = true := decide_eq_true c6
   clear c6
   obtain rfl := Option.some.inj H
   rotate_left
   rw [if_neg c6] at H
   have c6b0 : decide ((rd l0 x9_1) < 0) = false := decide_eq_false c6
   clear c6
   by_cases c7 : (rd l0 x9_1) > a1
   rw [if_pos c7] at H
   have c7b0 : decide (a1 < (rd l0 x9_1)) = true := decide_eq_true c7
   clear c7
   obtain rfl := Option.some.inj H
   rotate_left
   rw [if_neg c7] at H
   have c7b0 : decide (a1 < (rd l0 x9_1)) = false := decide_eq_false c7
   clear c7
   have H' := Zam H
   clear H
   all_goals
    have p223 : 0 ≤ (x9_1 : Int) := of_decide_eq_true (by first | (with_reducible assumption) | assumption)
    have q223 : x9_1 < (l0.length : Int) := of_decide_eq_true (by first | (with_reducible assumption) | assumption)
    obtain ⟨ad223, e223, hx223_0⟩ := Kd.at_int HR0.out x9_1 p223 q223
    cases e223
    replace p223 := eq_true p223
    replace q223 := eq_true q223
   ·go_wp2
    go_roundg k1
    case measure => have := HK1.out; omega
    case rel => exact ⟨(wrap64 (x9_1 + 1)), (by first | rfl | (simp; done) | (simp [*]; done)), H', ⟨by have := HK1.out; omega⟩, by repeat (first | exact Drawn0.refl _ | apply Drawn0.step)⟩
   ·go_wp2
    go_ret
    exact ⟨by first | rfl | (simp; done) | (simp [*]; done), by repeat (first | exact Drawn0.refl _ | apply Drawn0.step)⟩
   ·go_wp2
    go_ret
    exact ⟨by first | rfl | (simp; done) | (simp [*]; done), by repeat (first | exact Drawn0.refl _ | apply Drawn0.step)⟩

/-! ### impl_GoodPlane: function 131 -/
def impl_GoodPlane.f (k : Nat) (a0_0 : Int) (a0_1 : Int) (l0_2 : List Int) : Option (Bool) := (impl_goodSides.f a0_0 a0_1).bind fun t225 => (if t225 = true then (if (l0_2.length : Int) = (wrap64 (a0_0 * a0_1)) then ((impl_inRange.f k l0_2 255).bind fun t226 => (some t226)) else (some false)) else (some false))
theorem impl_GoodPlane.mono : ∀ a0 a1 a2 k, LeO (impl_GoodPlane.f k a0 a1 a2) (impl_GoodPlane.f (k + 1) a0 a1 a2) := by
 intro a0 a1 a2 k
 unfold impl_GoodPlane.f
 repeat' first
   | (with_reducible exact impl_inRange.mono _ _ _)
   | (with_reducible exact LeO.refl _)
   | (with_reducible exact LeO.none _)
   | (with_reducible refine LeO.ite ?_ ?_)
   | (with_reducible refine LeO.bind ?_ (fun _ => ?_))
   | exact impl_inRange.mono _ _ _
   | exact LeO.none _
   | refine LeO.ite ?_ ?_
   | refine LeO.bind ?_ (fun _ => ?_)
set_option maxHeartbeats 8000000 in
set_option maxRecDepth 100000 in
theorem impl_GoodPlane.calls (k : Nat) (a0_0 : Int) (a0_1 : Int) (A0_2 : Option Addr) (c0_2 : Nat) (l0_2 : List Int) (r : Bool) (w : World) (hr0_2 : Kd.C (Kd.int .i64) w A0_2 l0_2.length l0_2) (hc0_2 : l0_2.length ≤ c0_2) (h : impl_GoodPlane.f k a0_0 a0_1 l0_2 = some r) :
  Calls Try.prog 131 #[.agg #[.int .i64 a0_0, .int .i64 a0_1, .slice A0_2 l0_2.length c0_2]] w fun e w' => e = .returned (.bool r) ∧ Below w.heap.size w w' := by
 have hu82 := Try.underlying82
 have HR0_2 := Zam hr0_2
 have HC0_2 := Zam hc0_2
 clear hr0_2 hc0_2
 have HB := Zam (Below.refl w.heap.size w)
 have H : ((impl_goodSides.f a0_0 a0_1).bind fun t225 => (if t225 = true then (if (l0_2.length : Int) = (wrap64 (a0_0 * a0_1)) then ((impl_inRange.f k l0_2 255).bind fun t226 => (some t226)) else (some false)) else (some false))) = some r := h
 clear h
 replace H := Zob.mp H
 obtain ⟨t225, A20, H⟩ := H
 replace H : (if t225 = true then (if (l0_2.length : Int) = (wrap64 (a0_0 * a0_1)) then ((impl_inRange.f k l0_2 255).bind fun t226 => (some t226)) else (some false)) else (some false)) = some r := H
 have A2 := Zam A20
 clear A20
 by_cases c3 : t225 = true
 rotate_left
 ·replace c3 := Bool.eq_false_iff.mpr c3
  subst c3
  replace H : (some false) = some r := by rw [if_neg (show ¬ (false = true) by decide)] at H; exact H
  obtain rfl := Option.some.inj H
  go_enter Try.func131, Try.ntmps131
  go_wp2_with (first | ((with_reducible refine gate_dst (N := 1) rfl ?_); (try (refine gate_guard (by rfl) ?_; dsimp only)); refine box_event ?hg (N := 1) ?hd (cs := #[.int .i64 a0_0, .int .i64 a0_1, .slice A0_2 l0_2.length c0_2]) (t := 82) ?hr ?_; (case hd => rfl); (case hg => rfl); (case hr => first | (go_simp; done) | (go_simp; rfl)); intro gb224 hg w10 hbox hb; have n0_ := Zam (ZbS (by repeat (first | (with_reducible first | exact HB.out | apply ZhA | apply ZhW | apply ZhD) | exact HB.out)) hb); have n1_ := Zam (hbox); have n2_ := Zam ((by rw [hg]; exact (below_size (by repeat (first | (with_reducible first | exact HB.out | apply ZhA | apply ZhW | apply ZhD) | exact HB.out))) : w.heap.size ≤ gb224)); have n3_ := n2_; clear HB; have HB := n0_; have BK224 := n1_; have GW224 := n2_; have GE224 := n3_; clear n0_ n1_ n2_ n3_; clear hb hbox hg; have hcz11_0 : w10.cell? ⟨gb224, 0, none⟩ = some (.int .i64 a0_0) := (ZbC BK224.out 0).trans rfl; have hcz11_1 : w10.cell? ⟨gb224, 1, none⟩ = some (.int .i64 a0_1) := (ZbC BK224.out 1).trans rfl; have hcz11_2 : w10.cell? ⟨gb224, 2, none⟩ = some (.slice A0_2 l0_2.length c0_2) := (ZbC BK224.out 2).trans rfl; have hfz11_0 := ZbF BK224.out 0; have hfz11_1 := ZbF BK224.out 1; have hfz11_2 := ZbF BK224.out 2) | ((with_reducible refine gate_callee (f := 132) rfl ?_); refine goesL_ (some 7) rfl rfl Try.func132 (by kernel_rfl) rfl #[.int .i64 a0_0, .int .i64 a0_1] rfl (by (try simp only [Zm1, Zm2, Zm3]); first | done | rfl | (simp only [ZlL, ZlT]; rfl)) ?_; (with_reducible refine (impl_goodSides.calls a0_0 a0_1 false _ A2.out).mono ?_); rintro e w' ⟨rfl, ⟨nd, rfl⟩⟩; refine ⟨_, rfl, ?_⟩))
  go_ret
  exact ⟨by first | rfl | (simp [*, errW_none, errW_some] <;> rfl), by repeat (first | (with_reducible first | exact HB.out | apply ZhA | apply ZhW | apply ZhD | refine ZhS ?_ GE224.out) | exact HB.out)⟩
 subst c3
 replace H : (if (l0_2.length : Int) = (wrap64 (a0_0 * a0_1)) then ((impl_inRange.f k l0_2 255).bind fun t226 => (some t226)) else (some false)) = some r := by rw [if_pos rfl] at H; exact H
 by_cases c4 : (l0_2.length : Int) = (wrap64 (a0_0 * a0_1))
 rotate_left
 ·rw [if_neg c4] at H
  have c4b0 : ((l0_2.length : Int) == (wrap64 (a0_0 * a0_1))) = false := beq_eq_false_iff_ne.mpr c4
  have c4b1 : ((l0_2.length : Int) != (wrap64 (a0_0 * a0_1))) = true := bne_iff_ne.mpr c4
  obtain rfl := Option.some.inj H
  go_enter Try.func131, Try.ntmps131
  go_wp2_with (first | ((with_reducible refine gate_dst (N := 1) rfl ?_); (try (refine gate_guard (by rfl) ?_; dsimp only)); refine box_event ?hg (N := 1) ?hd (cs := #[.int .i64 a0_0, .int .i64 a0_1, .slice A0_2 l0_2.length c0_2]) (t := 82) ?hr ?_; (case hd => rfl); (case hg => rfl); (case hr => first | (go_simp; done) | (go_simp; rfl)); intro gb224 hg w8 hbox hb; have n0_ := Zam (ZbS (by repeat (first | (with_reducible first | exact HB.out | apply ZhA | apply ZhW | apply ZhD) | exact HB.out)) hb); have n1_ := Zam (hbox); have n2_ := Zam ((by rw [hg]; exact (below_size (by repeat (first | (with_reducible first | exact HB.out | apply ZhA | apply ZhW | apply ZhD) | exact HB.out))) : w.heap.size ≤ gb224)); have n3_ := n2_; clear HB; have HB := n0_; have BK224 := n1_; have GW224 := n2_; have GE224 := n3_; clear n0_ n1_ n2_ n3_; clear hb hbox hg; have hcz9_0 : w8.cell? ⟨gb224, 0, none⟩ = some (.int .i64 a0_0) := (ZbC BK224.out 0).trans rfl; have hcz9_1 : w8.cell? ⟨gb224, 1, none⟩ = some (.int .i64 a0_1) := (ZbC BK224.out 1).trans rfl; have hcz9_2 : w8.cell? ⟨gb224, 2, none⟩ = some (.slice A0_2 l0_2.length c0_2) := (ZbC BK224.out 2).trans rfl; have hfz9_0 := ZbF BK224.out 0; have hfz9_1 := ZbF BK224.out 1; have hfz9_2 := ZbF BK224.out 2) | ((with_reducible refine gate_callee (f := 132) rfl ?_); refine goesL_ (some 7) rfl rfl Try.func132 (by kernel_rfl) rfl #[.int .i64 a0_0, .int .i64 a0_1] rfl (by (try simp only [Zm1, Zm2, Zm3]); first | done | rfl | (simp only [ZlL, ZlT]; rfl)) ?_; (with_reducible refine (impl_goodSides.calls a0_0 a0_1 true _ A2.out).mono ?_); rintro e w' ⟨rfl, ⟨nd, rfl⟩⟩; refine ⟨_, rfl, ?_⟩))
  go_ret
  exact ⟨by first | rfl | (simp [*, errW_none, errW_some] <;> rfl), by repeat (first | (with_reducible first | exact HB.out | apply ZhA | apply ZhW | apply ZhD | refine ZhS ?_ GE224.out) | exact HB.out)⟩
 rw [if_pos c4] at H
 have c4b0 : ((l0_2.length : Int) == (wrap64 (a0_0 * a0_1))) = true := beq_iff_eq.mpr c4
 have c4b1 : ((l0_2.length : Int) != (wrap64 (a0_0 * a0_1))) = false := bne_eq_false_iff_eq.mpr c4
 clear c4
 replace H := Zob.mp H
 obtain ⟨t226, A50, H⟩ := H
 replace H : (some t226) = some r := H
 have A5 := Zam A50
 clear A50
 obtain rfl := Option.some.inj H
 go_enter Try.func131, Try.ntmps131
 go_wp2_with (first | ((with_reducible refine gate_dst (N := 1) rfl ?_); (try (refine gate_guard (by rfl) ?_; dsimp only)); refine box_event ?hg (N := 1) ?hd (cs := #[.int .i64 a0_0, .int .i64 a0_1, .slice A0_2 l0_2.length c0_2]) (t := 82) ?hr ?_; (case hd => rfl); (case hg => rfl); (case hr => first | (go_simp; done) | (go_simp; rfl)); intro gb224 hg w6 hbox hb; have n0_ := Zam (ZbS (by repeat (first | (with_reducible first | exact HB.out | apply ZhA | apply ZhW | apply ZhD) | exact HB.out)) hb); have n1_ := Zam (hbox); have n2_ := Zam ((by rw [hg]; exact (below_size (by repeat (first | (with_reducible first | exact HB.out | apply ZhA | apply ZhW | apply ZhD) | exact HB.out))) : w.heap.size ≤ gb224)); have n3_ := n2_; clear HB; have HB := n0_; have BK224 := n1_; have GW224 := n2_; have GE224 := n3_; clear n0_ n1_ n2_ n3_; clear hb hbox hg; have hcz7_0 : w6.cell? ⟨gb224, 0, none⟩ = some (.int .i64 a0_0) := (ZbC BK224.out 0).trans rfl; have hcz7_1 : w6.cell? ⟨gb224, 1, none⟩ = some (.int .i64 a0_1) := (ZbC BK224.out 1).trans rfl; have hcz7_2 : w6.cell? ⟨gb224, 2, none⟩ = some (.slice A0_2 l0_2.length c0_2) := (ZbC BK224.out 2).trans rfl; have hfz7_0 := ZbF BK224.out 0; have hfz7_1 := ZbF BK224.out 1; have hfz7_2 := ZbF BK224.out 2) | ((with_reducible refine gate_callee (f := 132) rfl ?_); refine goesL_ (some 7) rfl rfl Try.func132 (by kernel_rfl) rfl #[.int .i64 a0_0, .int .i64 a0_1] rfl (by (try simp only [Zm1, Zm2, Zm3]); first | done | rfl | (simp only [ZlL, ZlT]; rfl)) ?_; (with_reducible refine (impl_goodSides.calls a0_0 a0_1 true _ A2.out).mono ?_); rintro e w' ⟨rfl, ⟨nd, rfl⟩⟩; refine ⟨_, rfl, ?_⟩) | (go_at_call 169; (with_reducible refine (impl_inRange.calls k _ _ l0_2 255 t226 _ ?side1 ?side2 A5.out).mono ?_); (case side1 => repeat (first | exact (Kd.C_below HR0_2.out (by repeat (first | (with_reducible first | exact HB.out | apply ZhA | apply ZhW | apply ZhD | refine ZhS ?_ GE224.out) | exact HB.out))) | (with_reducible refine Kd.C_alloc ?_ _) | (with_reducible refine Kd.C_drewN ?_ _) | (with_reducible refine Kd.C_drew ?_))); (case side2 => exact HC0_2.out); rintro e w' ⟨rfl, ⟨nd, rfl⟩⟩))
 go_ret
 exact ⟨by first | rfl | (simp [*, errW_none, errW_some] <;> rfl), by repeat (first | (with_reducible first | exact HB.out | apply ZhA | apply ZhW | apply ZhD | refine ZhS ?_ GE224.out) | exact HB.out)⟩

end Go.Proofs.Ytidblealnaicpaa.PFnSizes

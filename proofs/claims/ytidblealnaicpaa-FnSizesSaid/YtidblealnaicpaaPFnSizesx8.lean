-- written by myprint.py (a program of this session's over the kit's print)
import Derived.Test.YtidblealnaicpaaPFnSizesx0
namespace Go.Proofs.Ytidblealnaicpaa.PFnSizes
open Go.RowKit Go.Proofs.YtidblealnaicpaaW.PrintWords Go.Proofs.YtidblealnaicpaaW.PrintLast Go.Proofs.YtidblealnaicpaaW.PrintMore
attribute [local go_sem] max2_int min2_int max_two min_two max_three min_three max_four min_four   -- for this text's walks alone
set_option linter.unusedVariables false
set_option linter.unusedSimpArgs false

/-! ### spec_Ends: function 61 -/
mutual
def spec_Ends.l0 : Nat → Int → Int → List Int → Int → Int → Option (Int × Int)
 | 0, _, _, _, _, _ => none
 | k + 1, x4, x5, x8, x9, x10 => if x10 < x9 then (if 0 ≤ x10 then (if x10 < (x8.length : Int) then (if x10 = 0 then (spec_Ends.j1 k x4 x5 x10 (rd x8 x10) x8 x9 x10 true) else (spec_Ends.j1 k x4 x5 x10 (rd x8 x10) x8 x9 x10 (decide ((rd x8 x10) < x4)))) else (none)) else (none)) else (some (x4, x5))
def spec_Ends.j1 : Nat → Int → Int → Int → Int → List Int → Int → Int → Bool → Option (Int × Int)
 | 0, _, _, _, _, _, _, _, _ => none
 | k + 1, x4, x5, x6, x7, x8, x9, x10, x21 => if x21 = true then (if x6 = 0 then (spec_Ends.l0 k x7 x7 x8 x9 (wrap64 (x10 + 1))) else (if x7 > x5 then (spec_Ends.l0 k x7 x7 x8 x9 (wrap64 (x10 + 1))) else (spec_Ends.l0 k x7 x5 x8 x9 (wrap64 (x10 + 1))))) else (if x6 = 0 then (spec_Ends.l0 k x4 x7 x8 x9 (wrap64 (x10 + 1))) else (if x7 > x5 then (spec_Ends.l0 k x4 x7 x8 x9 (wrap64 (x10 + 1))) else (spec_Ends.l0 k x4 x5 x8 x9 (wrap64 (x10 + 1)))))
end
def spec_Ends.f (k : Nat) (l0 : List Int) : Option (Int × Int) := spec_Ends.l0 k 0 0 l0 (l0.length : Int) 0
theorem spec_Ends.mono_l : ∀ k, (∀ y0 y1 y2 y3 y4, LeO (spec_Ends.l0 k y0 y1 y2 y3 y4) (spec_Ends.l0 (k + 1) y0 y1 y2 y3 y4)) ∧ (∀ y0 y1 y2 y3 y4 y5 y6 y7, LeO (spec_Ends.j1 k y0 y1 y2 y3 y4 y5 y6 y7) (spec_Ends.j1 (k + 1) y0 y1 y2 y3 y4 y5 y6 y7))
 | 0 => ⟨fun _ _ _ _ _ r h => by simp [spec_Ends.l0] at h, fun _ _ _ _ _ _ _ _ r h => by simp [spec_Ends.j1] at h⟩
 | k + 1 => by
  obtain ⟨ih0, ih1⟩ := spec_Ends.mono_l k
  refine ⟨?_, ?_⟩
  ·intro y0 y1 y2 y3 y4
   unfold spec_Ends.l0
   repeat' first
   | (with_reducible exact ih0 _ _ _ _ _)
   | (with_reducible exact ih1 _ _ _ _ _ _ _ _)
   | (with_reducible exact LeO.refl _)
   | (with_reducible exact LeO.none _)
   | (with_reducible refine LeO.ite ?_ ?_)
   | (with_reducible refine LeO.bind ?_ (fun _ => ?_))
   | exact ih0 _ _ _ _ _
   | exact ih1 _ _ _ _ _ _ _ _
   | exact LeO.none _
   | refine LeO.ite ?_ ?_
   | refine LeO.bind ?_ (fun _ => ?_)
  ·intro y0 y1 y2 y3 y4 y5 y6 y7
   unfold spec_Ends.j1
   repeat' first
   | (with_reducible exact ih0 _ _ _ _ _)
   | (with_reducible exact ih1 _ _ _ _ _ _ _ _)
   | (with_reducible exact LeO.refl _)
   | (with_reducible exact LeO.none _)
   | (with_reducible refine LeO.ite ?_ ?_)
   | (with_reducible refine LeO.bind ?_ (fun _ => ?_))
   | exact ih0 _ _ _ _ _
   | exact ih1 _ _ _ _ _ _ _ _
   | exact LeO.none _
   | refine LeO.ite ?_ ?_
   | refine LeO.bind ?_ (fun _ => ?_)
theorem spec_Ends.mono : ∀ a0 k, LeO (spec_Ends.f k a0) (spec_Ends.f (k + 1) a0) := by
 intro a0 k
 obtain ⟨ih0, ih1⟩ := spec_Ends.mono_l k
 unfold spec_Ends.f
 repeat' first
   | (with_reducible exact ih0 _ _ _ _ _)
   | (with_reducible exact ih1 _ _ _ _ _ _ _ _)
   | (with_reducible exact LeO.refl _)
   | (with_reducible exact LeO.none _)
   | (with_reducible refine LeO.ite ?_ ?_)
   | (with_reducible refine LeO.bind ?_ (fun _ => ?_))
   | exact ih0 _ _ _ _ _
   | exact ih1 _ _ _ _ _ _ _ _
   | exact LeO.none _
   | refine LeO.ite ?_ ?_
   | refine LeO.bind ?_ (fun _ => ?_)
set_option maxHeartbeats 8000000 in
set_option maxRecDepth 100000 in
theorem spec_Ends.calls (k : Nat) (A0 : Option Addr) (c0 : Nat) (l0 : List Int) (r1 : Int) (r2 : Int) (w : World) (hr0 : Kd.C (Kd.int .i64) w A0 l0.length l0) (hc0 : l0.length ≤ c0) (h : spec_Ends.f k l0 = some (r1, r2)) :
  Calls Try.prog 61 #[.slice A0 l0.length c0] w fun e w' => e = .returned (.tuple #[.int .i64 r1, .int .i64 r2]) ∧ Drawn0 w w' := by
 have HR0 := Zam hr0
 have HC0 := Zam hc0
 clear hr0 hc0
 have H : (spec_Ends.l0 k 0 0 l0 (l0.length : Int) 0) = some (r1, r2) := h
 clear h
 have H' := Zam H
 clear H
 go_enter Try.func61, Try.ntmps61
 go_wp2
 go_loopg [4, 5, 10] k (fun kq v4 v5 v10 w' => ∃ (x4_1 : Int) (x5_1 : Int) (x10_1 : Int), v4 = .int .i64 x4_1 ∧ v5 = .int .i64 x5_1 ∧ v10 = .int .i64 x10_1 ∧ Aside0 (spec_Ends.l0 kq x4_1 x5_1 l0 (l0.length : Int) x10_1 = some (r1, r2)) ∧ Aside0 (kq ≤ k) ∧ Drawn0 w w')
 case atStart => exact ⟨(0), (0), (0), (by first | rfl | (simp; done) | (simp [*]; done)), (by first | rfl | (simp; done) | (simp [*]; done)), (by first | rfl | (simp; done) | (simp [*]; done)), H', ⟨Nat.le_refl _⟩, by repeat (first | exact Drawn0.refl _ | apply Drawn0.step)⟩
 case round =>
  clear H'
  obtain ⟨x4_1, x5_1, x10_1, rfl, rfl, rfl, HA, HK1, ⟨m1, rfl⟩⟩ := hrel
  cases gk with
  | zero => exact absurd HA.out (by simp [spec_Ends.l0])
  | succ k1 =>
   have H := HA.out
   clear HA
   simp only [spec_Ends.l0] at H
   by_cases c2 : x10_1 < (l0.length : Int)
   rotate_left
   ·rw [if_neg c2] at H
    have c2b0 : decide (x10_1 < (l0.length : Int)) = false := decide_eq_false c2
    clear c2
    simp only [Option.some.injEq, Prod.mk.injEq] at H
    obtain ⟨rfl, rfl⟩ := H
    go_wp2
    go_ret2
    exact ⟨by first | rfl | (simp; done) | (simp [*]; done), by repeat (first | exact Drawn0.refl _ | apply Drawn0.step)⟩
   rw [if_pos c2] at H
   have c2b0 : decide (x10_1 < (l0.length : Int)) = true := decide_eq_true c2
   clear c2
   by_cases c3 : 0 ≤ x10_1
   rotate_left
   ·rw [if_neg c3] at H
    exact absurd H (by simp)
   rw [if_pos c3] at H
   have c3b0 : decide (0 ≤ x10_1) = true := decide_eq_true c3
   clear c3
   by_cases c4 : x10_1 < (l0.length : Int)
   rotate_left
   ·rw [if_neg c4] at H
    exact absurd H (by simp)
   rw [if_pos c4] at H
   have c4b0 : decide (x10_1 < (l0.length : Int)) = true := decide_eq_true c4
   clear c4
   have HC5 := Zam H
   clear H
   have p253 : 0 ≤ (x10_1 : Int) := of_decide_eq_true (by first | (with_reducible assumption) | assumption)
   have q253 : x10_1 < (l0.length : Int) := of_decide_eq_true (by first | (with_reducible assumption) | assumption)
   obtain ⟨ad253, e253, hx253_0⟩ := Kd.at_int HR0.out x10_1 p253 q253
   cases e253
   replace p253 := eq_true p253
   replace q253 := eq_true q253
   go_upto_region 6 with (fail)
   go_cut [21] (fun v21 wc => ∃ (kq : Nat) (x21_4 : Bool), v21 = .bool x21_4 ∧ Aside0 (spec_Ends.j1 kq x4_1 x5_1 x10_1 (rd l0 x10_1) l0 (l0.length : Int) x10_1 x21_4 = some (r1, r2)) ∧ Aside0 (kq ≤ k1) ∧ Drawn0 w wc)
   case first =>
    have H := HC5.out
    clear HC5
    by_cases c6 : x10_1 = 0
    ·rw [if_pos c6] at H
     have c6b0 : (x10_1 == 0) = true := beq_iff_eq.mpr c6
     have c6b1 : (x10_1 != 0) = false := bne_eq_false_iff_eq.mpr c6
     clear c6
     (first | rw [c6b0] | (simp only [i64_w, i32_w]; rw [c6b0]) | skip)
     have H' := Zam H
     clear H
     go_wp2
     go_meet
     case rel => exact ⟨_, (true), (by first | rfl | (simp; done) | (simp [*]; done)), H', ⟨by have := HK1.out; first | omega | exact Nat.le_refl _⟩, by repeat (first | exact Drawn0.refl _ | apply Drawn0.step)⟩
    rw [if_neg c6] at H
    have c6b0 : (x10_1 == 0) = false := beq_eq_false_iff_ne.mpr c6
    have c6b1 : (x10_1 != 0) = true := bne_iff_ne.mpr c6
    (first | rw [c6b0] | (simp only [i64_w, i32_w]; rw [c6b0]) | skip)
    have H' := Zam H
    clear H
    go_wp2
    go_meet
    case rel => exact ⟨_, (decide ((rd l0 x10_1) < x4_1)), (by first | rfl | (simp; done) | (simp [*]; done)), H', ⟨by have := HK1.out; first | omega | exact Nat.le_refl _⟩, by repeat (first | exact Drawn0.refl _ | apply Drawn0.step)⟩
   case rest =>
    clear HC5
    try clear c2
    try clear c2b0
    try clear p2
    try clear q2
    try clear hx2
    try clear c3
    try clear c3b0
    try clear c4
    try clear c4b0
    try clear c6
    try clear c6b0
    try clear c6b1
    try clear hx253_0
    try clear p253
    try clear q253
    obtain ⟨kq, x21_4, rfl, HA, HJ4, ⟨mc4, rfl⟩⟩ := hcut
    cases kq with
    | zero => exact absurd HA.out (by simp [spec_Ends.j1])
    | succ kj4 =>
     have H := HA.out
     clear HA
     simp only [spec_Ends.j1] at H
     by_cases c7 : x21_4 = true
     ·subst c7
      replace H : (if x10_1 = 0 then (spec_Ends.l0 kj4 (rd l0 x10_1) (rd l0 x10_1) l0 (l0.length : Int) (wrap64 (x10_1 + 1))) else (if (rd l0 x10_1) > x5_1 then (spec_Ends.l0 kj4 (rd l0 x10_1) (rd l0 x10_1) l0 (l0.length : Int) (wrap64 (x10_1 + 1))) else (spec_Ends.l0 kj4 (rd l0 x10_1) x5_1 l0 (l0.length : Int) (wrap64 (x10_1 + 1))))) = some (r1, r2) := by rw [if_pos rfl] at H; exact H
      by_cases c8 : x10_1 = 0
      rw [if_pos c8] at H
      have c8b0 : (x10_1 == 0) = true := beq_iff_eq.mpr c8
      have c8b1 : (x10_1 != 0) = false := bne_eq_false_iff_eq.mpr c8
      clear c8
      have H' := Zam H
      clear H
      rotate_left
      rw [if_neg c8] at H
      have c8b0 : (x10_1 == 0) = false := beq_eq_false_iff_ne.mpr c8
      have c8b1 : (x10_1 != 0) = true := bne_iff_ne.mpr c8
      by_cases c9 : (rd l0 x10_1) > x5_1
      rw [if_pos c9] at H
      have c9b0 : decide (x5_1 < (rd l0 x10_1)) = true := decide_eq_true c9
      clear c9
      have H' := Zam H
      clear H
      rotate_left
      ·rw [if_neg c9] at H
       have c9b0 : decide (x5_1 < (rd l0 x10_1)) = false := decide_eq_false c9
       clear c9
       have H' := Zam H
       clear H
       go_wp2
       go_roundg kj4
       case measure => have := HK1.out; have := HJ4.out; omega
       case rel => exact ⟨((rd l0 x10_1)), (x5_1), (wrap64 (x10_1 + 1)), (by first | rfl | (simp; done) | (simp [*]; done)), (by first | rfl | (simp; done) | (simp [*]; done)), (by first | rfl | (simp; done) | (simp [*]; done)), H', ⟨by have := HK1.out; have := HJ4.out; omega⟩, by repeat (first | exact Drawn0.refl _ | apply Drawn0.step)⟩
      all_goals
       go_wp2
       go_roundg kj4
       case measure => have := HK1.out; have := HJ4.out; omega
       case rel => exact ⟨((rd l0 x10_1)), ((rd l0 x10_1)), (wrap64 (x10_1 + 1)), (by first | rfl | (simp; done) | (simp [*]; done)), (by first | rfl | (simp; done) | (simp [*]; done)), (by first | rfl | (simp; done) | (simp [*]; done)), H', ⟨by have := HK1.out; have := HJ4.out; omega⟩, by repeat (first | exact Drawn0.refl _ | apply Drawn0.step)⟩
     replace c7 := Bool.eq_false_iff.mpr c7
     subst c7
     replace H : (if x10_1 = 0 then (spec_Ends.l0 kj4 x4_1 (rd l0 x10_1) l0 (l0.length : Int) (wrap64 (x10_1 + 1))) else (if (rd l0 x10_1) > x5_1 then (spec_Ends.l0 kj4 x4_1 (rd l0 x10_1) l0 (l0.length : Int) (wrap64 (x10_1 + 1))) else (spec_Ends.l0 kj4 x4_1 x5_1 l0 (l0.length : Int) (wrap64 (x10_1 + 1))))) = some (r1, r2) := by rw [if_neg (show ¬ (false = true) by decide)] at H; exact H
     by_cases c10 : x10_1 = 0
     ·rw [if_pos c10] at H
      have c10b0 : (x10_1 == 0) = true := beq_iff_eq.mpr c10
      have c10b1 : (x10_1 != 0) = false := bne_eq_false_iff_eq.mpr c10
      clear c10
      have H' := Zam H
      clear H
      go_wp2
      go_roundg kj4
      case measure => have := HK1.out; have := HJ4.out; omega
      case rel => exact ⟨(x4_1), ((rd l0 x10_1)), (wrap64 (x10_1 + 1)), (by first | rfl | (simp; done) | (simp [*]; done)), (by first | rfl | (simp; done) | (simp [*]; done)), (by first | rfl | (simp; done) | (simp [*]; done)), H', ⟨by have := HK1.out; have := HJ4.out; omega⟩, by repeat (first | exact Drawn0.refl _ | apply Drawn0.step)⟩
     rw [if_neg c10] at H
     have c10b0 : (x10_1 == 0) = false := beq_eq_false_iff_ne.mpr c10
     have c10b1 : (x10_1 != 0) = true := bne_iff_ne.mpr c10
     by_cases c11 : (rd l0 x10_1) > x5_1
     rotate_left
     ·rw [if_neg c11] at H
      have c11b0 : decide (x5_1 < (rd l0 x10_1)) = false := decide_eq_false c11
      clear c11
      have H' := Zam H
      clear H
      go_wp2
      go_roundg kj4
      case measure => have := HK1.out; have := HJ4.out; omega
      case rel => exact ⟨(x4_1), (x5_1), (wrap64 (x10_1 + 1)), (by first | rfl | (simp; done) | (simp [*]; done)), (by first | rfl | (simp; done) | (simp [*]; done)), (by first | rfl | (simp; done) | (simp [*]; done)), H', ⟨by have := HK1.out; have := HJ4.out; omega⟩, by repeat (first | exact Drawn0.refl _ | apply Drawn0.step)⟩
     rw [if_pos c11] at H
     have c11b0 : decide (x5_1 < (rd l0 x10_1)) = true := decide_eq_true c11
     clear c11
     have H' := Zam H
     clear H
     go_wp2
     go_roundg kj4
     case measure => have := HK1.out; have := HJ4.out; omega
     case rel => exact ⟨(x4_1), ((rd l0 x10_1)), (wrap64 (x10_1 + 1)), (by first | rfl | (simp; done) | (simp [*]; done)), (by first | rfl | (simp; done) | (simp [*]; done)), (by first | rfl | (simp; done) | (simp [*]; done)), H', ⟨by have := HK1.out; have := HJ4.out; omega⟩, by repeat (first | exact Drawn0.refl _ | apply Drawn0.step)⟩

/-! ### impl_near: function 136 -/
def impl_near.f (a0 : Int) (a1 : Int) : Option (Int) := if (Int.tmod a0 2) = 0 then (some (mx 0 (wrap64 ((wrap64 (Int.tdiv a0 2)) - 1)))) else (some (mn (wrap64 (a1 - 1)) (wrap64 ((wrap64 (Int.tdiv a0 2)) + 1))))
set_option maxHeartbeats 8000000 in
set_option maxRecDepth 100000 in
theorem impl_near.calls (a0 : Int) (a1 : Int) (r : Int) (w : World) (h : impl_near.f a0 a1 = some r) :
  Calls Try.prog 136 #[.int .i64 a0, .int .i64 a1] w fun e w' => e = .returned (.int .i64 r) ∧ Below w.heap.size w w' := by
 have HB := Zam (Below.refl w.heap.size w)
 have H : (if (Int.tmod a0 2) = 0 then (some (mx 0 (wrap64 ((wrap64 (Int.tdiv a0 2)) - 1)))) else (some (mn (wrap64 (a1 - 1)) (wrap64 ((wrap64 (Int.tdiv a0 2)) + 1))))) = some r := h
 clear h
 by_cases c3 : (Int.tmod a0 2) = 0
 rotate_left
 ·rw [if_neg c3] at H
  have c3b0 : ((Int.tmod a0 2) == 0) = false := beq_eq_false_iff_ne.mpr c3
  have c3b1 : ((Int.tmod a0 2) != 0) = true := bne_iff_ne.mpr c3
  obtain ⟨ji5, hji5⟩ : ∃ j_ : Int, (mn (wrap64 (a1 - 1)) (wrap64 ((wrap64 (Int.tdiv a0 2)) + 1))) = j_ := ⟨_, rfl⟩
  replace H : (some ji5) = some r := by first | (rw [hji5] at H; exact H) | (simp only [hji5] at H ⊢; exact H)
  have hji5_ : (if (wrap64 ((wrap64 (Int.tdiv a0 2)) + 1)) < (wrap64 (a1 - 1)) then (wrap64 ((wrap64 (Int.tdiv a0 2)) + 1)) else (wrap64 (a1 - 1))) = ji5 := hji5
  obtain rfl := Option.some.inj H
  go_enter Try.func136, Try.ntmps136
  go_wp2
  go_ret
  exact ⟨by first | rfl | (simp [*, errW_none, errW_some] <;> rfl), by repeat (first | (with_reducible first | exact HB.out | apply ZhA | apply ZhW | apply ZhD) | exact HB.out)⟩
 rw [if_pos c3] at H
 have c3b0 : ((Int.tmod a0 2) == 0) = true := beq_iff_eq.mpr c3
 have c3b1 : ((Int.tmod a0 2) != 0) = false := bne_eq_false_iff_eq.mpr c3
 clear c3
 obtain ⟨ji4, hji4⟩ : ∃ j_ : Int, (mx 0 (wrap64 ((wrap64 (Int.tdiv a0 2)) - 1))) = j_ := ⟨_, rfl⟩
 replace H : (some ji4) = some r := by first | (rw [hji4] at H; exact H) | (simp only [hji4] at H ⊢; exact H)
 (try (have hji4l : 0 ≤ ji4 := by (rw [← hji4]; unfold mx; (repeat' split) <;> omega)))
 (try (have hji4m : 0 ≤ ji4 := by omega))
 have hji4_ : (if 0 < (wrap64 ((wrap64 (Int.tdiv a0 2)) - 1)) then (wrap64 ((wrap64 (Int.tdiv a0 2)) - 1)) else 0) = ji4 := hji4
 obtain rfl := Option.some.inj H
 go_enter Try.func136, Try.ntmps136
 go_wp2
 go_ret
 exact ⟨by first | rfl | (simp [*, errW_none, errW_some] <;> rfl), by repeat (first | (with_reducible first | exact HB.out | apply ZhA | apply ZhW | apply ZhD) | exact HB.out)⟩

end Go.Proofs.Ytidblealnaicpaa.PFnSizes

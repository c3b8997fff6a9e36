-- written by myprint.py (a program of this session's over the kit's print)
import Derived.Test.YtglaedjadlappaaPFnExactBestMotionx0
import Derived.Test.YtglaedjadlappaaPFnExactBestMotionx1
namespace Go.Proofs.Ytglaedjadlappaa.PFnExactBestMotion
open Go.RowKit Go.Proofs.YtglaedjadlappaaW.PrintWords Go.Proofs.YtglaedjadlappaaW.PrintLast Go.Proofs.YtglaedjadlappaaW.PrintMore
attribute [local go_sem] max2_int min2_int max_two min_two max_three min_three max_four min_four   -- for this text's walks alone
set_option linter.unusedVariables false
set_option linter.unusedSimpArgs false

/-! ### spec_l13Half: function 201 -/
def spec_l13Half.f (l0 : List Int) (a1 : Int) : Option (Int) := if 0 ≤ (wrap64 (a1 - 2)) then (if (wrap64 (a1 - 2)) < (l0.length : Int) then (if 0 ≤ (wrap64 (a1 - 1)) then (if (wrap64 (a1 - 1)) < (l0.length : Int) then (if 0 ≤ a1 then (if a1 < (l0.length : Int) then (if 0 ≤ (wrap64 (a1 + 1)) then (if (wrap64 (a1 + 1)) < (l0.length : Int) then (if 0 ≤ (wrap64 (a1 + 2)) then (if (wrap64 (a1 + 2)) < (l0.length : Int) then (if 0 ≤ (wrap64 (a1 + 3)) then (if (wrap64 (a1 + 3)) < (l0.length : Int) then ((spec_l7Clip.f ((wrap64 ((wrap64 ((wrap64 ((wrap64 ((wrap64 ((wrap64 ((rd l0 (wrap64 (a1 - 2))) - (wrap64 (5 * (rd l0 (wrap64 (a1 - 1))))))) + (wrap64 (20 * (rd l0 a1))))) + (wrap64 (20 * (rd l0 (wrap64 (a1 + 1))))))) - (wrap64 (5 * (rd l0 (wrap64 (a1 + 2))))))) + (rd l0 (wrap64 (a1 + 3))))) + 16)) / 32)).bind fun t118 => (some t118)) else (none)) else (none)) else (none)) else (none)) else (none)) else (none)) else (none)) else (none)) else (none)) else (none)) else (none)) else (none)
set_option maxHeartbeats 8000000 in
set_option maxRecDepth 100000 in
theorem spec_l13Half.calls (A0 : Option Addr) (c0 : Nat) (l0 : List Int) (a1 : Int) (r : Int) (w : World) (hr0 : Kd.C (Kd.int .i64) w A0 l0.length l0) (hc0 : l0.length ≤ c0) (h : spec_l13Half.f l0 a1 = some r) :
    Calls Try.prog 201 #[.slice A0 l0.length c0, .int .i64 a1] w fun e w' => e = .returned (.int .i64 r) ∧ Drawn0 w w' := by
  have HR0 := Aside0.mk hr0
  have HC0 := Aside0.mk hc0
  clear hr0 hc0
  have H : (if 0 ≤ (wrap64 (a1 - 2)) then (if (wrap64 (a1 - 2)) < (l0.length : Int) then (if 0 ≤ (wrap64 (a1 - 1)) then (if (wrap64 (a1 - 1)) < (l0.length : Int) then (if 0 ≤ a1 then (if a1 < (l0.length : Int) then (if 0 ≤ (wrap64 (a1 + 1)) then (if (wrap64 (a1 + 1)) < (l0.length : Int) then (if 0 ≤ (wrap64 (a1 + 2)) then (if (wrap64 (a1 + 2)) < (l0.length : Int) then (if 0 ≤ (wrap64 (a1 + 3)) then (if (wrap64 (a1 + 3)) < (l0.length : Int) then ((spec_l7Clip.f ((wrap64 ((wrap64 ((wrap64 ((wrap64 ((wrap64 ((wrap64 ((rd l0 (wrap64 (a1 - 2))) - (wrap64 (5 * (rd l0 (wrap64 (a1 - 1))))))) + (wrap64 (20 * (rd l0 a1))))) + (wrap64 (20 * (rd l0 (wrap64 (a1 + 1))))))) - (wrap64 (5 * (rd l0 (wrap64 (a1 + 2))))))) + (rd l0 (wrap64 (a1 + 3))))) + 16)) / 32)).bind fun t118 => (some t118)) else (none)) else (none)) else (none)) else (none)) else (none)) else (none)) else (none)) else (none)) else (none)) else (none)) else (none)) else (none)) = some r := h
  clear h
  obtain ⟨ji3, hji3⟩ : ∃ j_ : Int, (wrap64 (a1 - 2)) = j_ := ⟨_, rfl⟩
  replace H : (if 0 ≤ (ji3) then (if (ji3) < (l0.length : Int) then (if 0 ≤ (wrap64 (a1 - 1)) then (if (wrap64 (a1 - 1)) < (l0.length : Int) then (if 0 ≤ a1 then (if a1 < (l0.length : Int) then (if 0 ≤ (wrap64 (a1 + 1)) then (if (wrap64 (a1 + 1)) < (l0.length : Int) then (if 0 ≤ (wrap64 (a1 + 2)) then (if (wrap64 (a1 + 2)) < (l0.length : Int) then (if 0 ≤ (wrap64 (a1 + 3)) then (if (wrap64 (a1 + 3)) < (l0.length : Int) then ((spec_l7Clip.f ((wrap64 ((wrap64 ((wrap64 ((wrap64 ((wrap64 ((wrap64 ((rd l0 (ji3)) - (wrap64 (5 * (rd l0 (wrap64 (a1 - 1))))))) + (wrap64 (20 * (rd l0 a1))))) + (wrap64 (20 * (rd l0 (wrap64 (a1 + 1))))))) - (wrap64 (5 * (rd l0 (wrap64 (a1 + 2))))))) + (rd l0 (wrap64 (a1 + 3))))) + 16)) / 32)).bind fun t118 => (some t118)) else (none)) else (none)) else (none)) else (none)) else (none)) else (none)) else (none)) else (none)) else (none)) else (none)) else (none)) else (none)) = some r := by first | (rw [hji3] at H; exact H) | (simp only [hji3] at H ⊢; exact H)
  have hji3w : (IntKind.i64.wrap (a1 - 2)) = ji3 := (i64_w _).trans hji3
  by_cases c4 : 0 ≤ (ji3)
  rotate_left
  · rw [if_neg c4] at H
    exact absurd H (by simp)
  rw [if_pos c4] at H
  have c4b0 : decide (0 ≤ (ji3)) = true := decide_eq_true c4
  clear c4
  by_cases c5 : (ji3) < (l0.length : Int)
  rotate_left
  · rw [if_neg c5] at H
    exact absurd H (by simp)
  rw [if_pos c5] at H
  have c5b0 : decide ((ji3) < (l0.length : Int)) = true := decide_eq_true c5
  clear c5
  obtain ⟨ji6, hji6⟩ : ∃ j_ : Int, (wrap64 (a1 - 1)) = j_ := ⟨_, rfl⟩
  replace H : (if 0 ≤ (ji6) then (if (ji6) < (l0.length : Int) then (if 0 ≤ a1 then (if a1 < (l0.length : Int) then (if 0 ≤ (wrap64 (a1 + 1)) then (if (wrap64 (a1 + 1)) < (l0.length : Int) then (if 0 ≤ (wrap64 (a1 + 2)) then (if (wrap64 (a1 + 2)) < (l0.length : Int) then (if 0 ≤ (wrap64 (a1 + 3)) then (if (wrap64 (a1 + 3)) < (l0.length : Int) then ((spec_l7Clip.f ((wrap64 ((wrap64 ((wrap64 ((wrap64 ((wrap64 ((wrap64 ((rd l0 (ji3)) - (wrap64 (5 * (rd l0 (ji6)))))) + (wrap64 (20 * (rd l0 a1))))) + (wrap64 (20 * (rd l0 (wrap64 (a1 + 1))))))) - (wrap64 (5 * (rd l0 (wrap64 (a1 + 2))))))) + (rd l0 (wrap64 (a1 + 3))))) + 16)) / 32)).bind fun t118 => (some t118)) else (none)) else (none)) else (none)) else (none)) else (none)) else (none)) else (none)) else (none)) else (none)) else (none)) = some r := by first | (rw [hji6] at H; exact H) | (simp only [hji6] at H ⊢; exact H)
  have hji6w : (IntKind.i64.wrap (a1 - 1)) = ji6 := (i64_w _).trans hji6
  by_cases c7 : 0 ≤ (ji6)
  rotate_left
  · rw [if_neg c7] at H
    exact absurd H (by simp)
  rw [if_pos c7] at H
  have c7b0 : decide (0 ≤ (ji6)) = true := decide_eq_true c7
  clear c7
  by_cases c8 : (ji6) < (l0.length : Int)
  rotate_left
  · rw [if_neg c8] at H
    exact absurd H (by simp)
  rw [if_pos c8] at H
  have c8b0 : decide ((ji6) < (l0.length : Int)) = true := decide_eq_true c8
  clear c8
  by_cases c9 : 0 ≤ a1
  rotate_left
  · rw [if_neg c9] at H
    exact absurd H (by simp)
  rw [if_pos c9] at H
  have c9b0 : decide (0 ≤ a1) = true := decide_eq_true c9
  clear c9
  by_cases c10 : a1 < (l0.length : Int)
  rotate_left
  · rw [if_neg c10] at H
    exact absurd H (by simp)
  rw [if_pos c10] at H
  have c10b0 : decide (a1 < (l0.length : Int)) = true := decide_eq_true c10
  clear c10
  obtain ⟨ji11, hji11⟩ : ∃ j_ : Int, (wrap64 (a1 + 1)) = j_ := ⟨_, rfl⟩
  replace H : (if 0 ≤ (ji11) then (if (ji11) < (l0.length : Int) then (if 0 ≤ (wrap64 (a1 + 2)) then (if (wrap64 (a1 + 2)) < (l0.length : Int) then (if 0 ≤ (wrap64 (a1 + 3)) then (if (wrap64 (a1 + 3)) < (l0.length : Int) then ((spec_l7Clip.f ((wrap64 ((wrap64 ((wrap64 ((wrap64 ((wrap64 ((wrap64 ((rd l0 (ji3)) - (wrap64 (5 * (rd l0 (ji6)))))) + (wrap64 (20 * (rd l0 a1))))) + (wrap64 (20 * (rd l0 (ji11)))))) - (wrap64 (5 * (rd l0 (wrap64 (a1 + 2))))))) + (rd l0 (wrap64 (a1 + 3))))) + 16)) / 32)).bind fun t118 => (some t118)) else (none)) else (none)) else (none)) else (none)) else (none)) else (none)) = some r := by first | (rw [hji11] at H; exact H) | (simp only [hji11] at H ⊢; exact H)
  have hji11w : (IntKind.i64.wrap (a1 + 1)) = ji11 := (i64_w _).trans hji11
  by_cases c12 : 0 ≤ (ji11)
  rotate_left
  · rw [if_neg c12] at H
    exact absurd H (by simp)
  rw [if_pos c12] at H
  have c12b0 : decide (0 ≤ (ji11)) = true := decide_eq_true c12
  clear c12
  by_cases c13 : (ji11) < (l0.length : Int)
  rotate_left
  · rw [if_neg c13] at H
    exact absurd H (by simp)
  rw [if_pos c13] at H
  have c13b0 : decide ((ji11) < (l0.length : Int)) = true := decide_eq_true c13
  clear c13
  obtain ⟨ji14, hji14⟩ : ∃ j_ : Int, (wrap64 (a1 + 2)) = j_ := ⟨_, rfl⟩
  replace H : (if 0 ≤ (ji14) then (if (ji14) < (l0.length : Int) then (if 0 ≤ (wrap64 (a1 + 3)) then (if (wrap64 (a1 + 3)) < (l0.length : Int) then ((spec_l7Clip.f ((wrap64 ((wrap64 ((wrap64 ((wrap64 ((wrap64 ((wrap64 ((rd l0 (ji3)) - (wrap64 (5 * (rd l0 (ji6)))))) + (wrap64 (20 * (rd l0 a1))))) + (wrap64 (20 * (rd l0 (ji11)))))) - (wrap64 (5 * (rd l0 (ji14)))))) + (rd l0 (wrap64 (a1 + 3))))) + 16)) / 32)).bind fun t118 => (some t118)) else (none)) else (none)) else (none)) else (none)) = some r := by first | (rw [hji14] at H; exact H) | (simp only [hji14] at H ⊢; exact H)
  have hji14w : (IntKind.i64.wrap (a1 + 2)) = ji14 := (i64_w _).trans hji14
  by_cases c15 : 0 ≤ (ji14)
  rotate_left
  · rw [if_neg c15] at H
    exact absurd H (by simp)
  rw [if_pos c15] at H
  have c15b0 : decide (0 ≤ (ji14)) = true := decide_eq_true c15
  clear c15
  by_cases c16 : (ji14) < (l0.length : Int)
  rotate_left
  · rw [if_neg c16] at H
    exact absurd H (by simp)
  rw [if_pos c16] at H
  have c16b0 : decide ((ji14) < (l0.length : Int)) = true := decide_eq_true c16
  clear c16
  obtain ⟨ji17, hji17⟩ : ∃ j_ : Int, (wrap64 (a1 + 3)) = j_ := ⟨_, rfl⟩
  replace H : (if 0 ≤ (ji17) then (if (ji17) < (l0.length : Int) then ((spec_l7Clip.f ((wrap64 ((wrap64 ((wrap64 ((wrap64 ((wrap64 ((wrap64 ((rd l0 (ji3)) - (wrap64 (5 * (rd l0 (ji6)))))) + (wrap64 (20 * (rd l0 a1))))) + (wrap64 (20 * (rd l0 (ji11)))))) - (wrap64 (5 * (rd l0 (ji14)))))) + (rd l0 (ji17)))) + 16)) / 32)).bind fun t118 => (some t118)) else (none)) else (none)) = some r := by first | (rw [hji17] at H; exact H) | (simp only [hji17] at H ⊢; exact H)
  have hji17w : (IntKind.i64.wrap (a1 + 3)) = ji17 := (i64_w _).trans hji17
  by_cases c18 : 0 ≤ (ji17)
  rotate_left
  · rw [if_neg c18] at H
    exact absurd H (by simp)
  rw [if_pos c18] at H
  have c18b0 : decide (0 ≤ (ji17)) = true := decide_eq_true c18
  clear c18
  by_cases c19 : (ji17) < (l0.length : Int)
  rotate_left
  · rw [if_neg c19] at H
    exact absurd H (by simp)
  rw [if_pos c19] at H
  have c19b0 : decide ((ji17) < (l0.length : Int)) = true := decide_eq_true c19
  clear c19
  replace H := Option.bind_eq_some_iff.mp H
  obtain ⟨t118, A200, H⟩ := H
  replace H : (some t118) = some r := H
  have A20 := Aside0.mk A200
  clear A200
  obtain rfl := Option.some.inj H
  have p112 : 0 ≤ ((ji3) : Int) := of_decide_eq_true (by first | (with_reducible assumption) | assumption)
  have q112 : (ji3) < (l0.length : Int) := of_decide_eq_true (by first | (with_reducible assumption) | assumption)
  obtain ⟨ad112, e112, hx112_0⟩ := Kd.at_int HR0.out (ji3) p112 q112
  cases e112
  replace p112 := eq_true p112
  replace q112 := eq_true q112
  have p113 : 0 ≤ ((ji6) : Int) := of_decide_eq_true (by first | (with_reducible assumption) | assumption)
  have q113 : (ji6) < (l0.length : Int) := of_decide_eq_true (by first | (with_reducible assumption) | assumption)
  obtain ⟨ad113, e113, hx113_0⟩ := Kd.at_int HR0.out (ji6) p113 q113
  obtain rfl : ad112 = ad113 := (by injection e113)
  replace p113 := eq_true p113
  replace q113 := eq_true q113
  have p114 : 0 ≤ (a1 : Int) := of_decide_eq_true (by first | (with_reducible assumption) | assumption)
  have q114 : a1 < (l0.length : Int) := of_decide_eq_true (by first | (with_reducible assumption) | assumption)
  obtain ⟨ad114, e114, hx114_0⟩ := Kd.at_int HR0.out a1 p114 q114
  obtain rfl : ad112 = ad114 := (by injection e114)
  replace p114 := eq_true p114
  replace q114 := eq_true q114
  have p115 : 0 ≤ ((ji11) : Int) := of_decide_eq_true (by first | (with_reducible assumption) | assumption)
  have q115 : (ji11) < (l0.length : Int) := of_decide_eq_true (by first | (with_reducible assumption) | assumption)
  obtain ⟨ad115, e115, hx115_0⟩ := Kd.at_int HR0.out (ji11) p115 q115
  obtain rfl : ad112 = ad115 := (by injection e115)
  replace p115 := eq_true p115
  replace q115 := eq_true q115
  have p116 : 0 ≤ ((ji14) : Int) := of_decide_eq_true (by first | (with_reducible assumption) | assumption)
  have q116 : (ji14) < (l0.length : Int) := of_decide_eq_true (by first | (with_reducible assumption) | assumption)
  obtain ⟨ad116, e116, hx116_0⟩ := Kd.at_int HR0.out (ji14) p116 q116
  obtain rfl : ad112 = ad116 := (by injection e116)
  replace p116 := eq_true p116
  replace q116 := eq_true q116
  have p117 : 0 ≤ ((ji17) : Int) := of_decide_eq_true (by first | (with_reducible assumption) | assumption)
  have q117 : (ji17) < (l0.length : Int) := of_decide_eq_true (by first | (with_reducible assumption) | assumption)
  obtain ⟨ad117, e117, hx117_0⟩ := Kd.at_int HR0.out (ji17) p117 q117
  obtain rfl : ad112 = ad117 := (by injection e117)
  replace p117 := eq_true p117
  replace q117 := eq_true q117
  go_enter Try.func201, Try.ntmps201
  iterate 3 (try go_wp2_with (first | (go_at_call 199; (with_reducible refine (spec_l7Clip.calls ((wrap64 ((wrap64 ((wrap64 ((wrap64 ((wrap64 ((wrap64 ((rd l0 (ji3)) - (wrap64 (5 * (rd l0 (ji6)))))) + (wrap64 (20 * (rd l0 a1))))) + (wrap64 (20 * (rd l0 (ji11)))))) - (wrap64 (5 * (rd l0 (ji14)))))) + (rd l0 (ji17)))) + 16)) / 32) t118 _ A20.out).mono ?_); rintro e w' ⟨rfl, ⟨nd, rfl⟩⟩; (try first | exact ⟨rfl, _, World.drewN_drewN _ _ _⟩ | exact ⟨rfl, _, Eq.trans (World.drewN_drewN _ _ _) (congrArg (World.drewN _) (Nat.add_assoc _ _ _))⟩))); try go_quiet (first | (go_at_call 199; (with_reducible refine (spec_l7Clip.calls ((wrap64 ((wrap64 ((wrap64 ((wrap64 ((wrap64 ((wrap64 ((rd l0 (ji3)) - (wrap64 (5 * (rd l0 (ji6)))))) + (wrap64 (20 * (rd l0 a1))))) + (wrap64 (20 * (rd l0 (ji11)))))) - (wrap64 (5 * (rd l0 (ji14)))))) + (rd l0 (ji17)))) + 16)) / 32) t118 _ A20.out).mono ?_); rintro e w' ⟨rfl, ⟨nd, rfl⟩⟩; (try first | exact ⟨rfl, _, World.drewN_drewN _ _ _⟩ | exact ⟨rfl, _, Eq.trans (World.drewN_drewN _ _ _) (congrArg (World.drewN _) (Nat.add_assoc _ _ _))⟩))))
  go_ret
  exact ⟨by first | rfl | (simp; done) | (simp only [← hji3, ← hji6, ← hji11, ← hji14, ← hji17] <;> (first | rfl | simp)) | (simp [*]; done), by repeat (first | exact Drawn0.refl _ | apply Drawn0.step)⟩

/-! ### spec_l13Quarter: function 188 -/
def spec_l13Quarter.f (l0 : List Int) (a1 : Int) (a2 : Int) : Option (Int) := if a2 = 0 then (if 0 ≤ a1 then (if a1 < (l0.length : Int) then (some (rd l0 a1)) else (none)) else (none)) else ((spec_l13Half.f l0 a1).bind fun t120 => (if a2 = 1 then (if 0 ≤ a1 then (if a1 < (l0.length : Int) then (some ((wrap64 ((wrap64 ((rd l0 a1) + t120)) + 1)) / 2)) else (none)) else (none)) else (if a2 = 3 then (if 0 ≤ (wrap64 (a1 + 1)) then (if (wrap64 (a1 + 1)) < (l0.length : Int) then (some ((wrap64 ((wrap64 (t120 + (rd l0 (wrap64 (a1 + 1))))) + 1)) / 2)) else (none)) else (none)) else (some t120))))
set_option maxHeartbeats 8000000 in
set_option maxRecDepth 100000 in
theorem spec_l13Quarter.calls (A0 : Option Addr) (c0 : Nat) (l0 : List Int) (a1 : Int) (a2 : Int) (r : Int) (w : World) (hr0 : Kd.C (Kd.int .i64) w A0 l0.length l0) (hc0 : l0.length ≤ c0) (h : spec_l13Quarter.f l0 a1 a2 = some r) :
    Calls Try.prog 188 #[.slice A0 l0.length c0, .int .i64 a1, .int .i64 a2] w fun e w' => e = .returned (.int .i64 r) ∧ Drawn0 w w' := by
  have HR0 := Aside0.mk hr0
  have HC0 := Aside0.mk hc0
  clear hr0 hc0
  have H : (if a2 = 0 then (if 0 ≤ a1 then (if a1 < (l0.length : Int) then (some (rd l0 a1)) else (none)) else (none)) else ((spec_l13Half.f l0 a1).bind fun t120 => (if a2 = 1 then (if 0 ≤ a1 then (if a1 < (l0.length : Int) then (some ((wrap64 ((wrap64 ((rd l0 a1) + t120)) + 1)) / 2)) else (none)) else (none)) else (if a2 = 3 then (if 0 ≤ (wrap64 (a1 + 1)) then (if (wrap64 (a1 + 1)) < (l0.length : Int) then (some ((wrap64 ((wrap64 (t120 + (rd l0 (wrap64 (a1 + 1))))) + 1)) / 2)) else (none)) else (none)) else (some t120))))) = some r := h
  clear h
  by_cases c4 : a2 = 0
  · rw [if_pos c4] at H
    have c4b0 : (a2 == 0) = true := beq_iff_eq.mpr c4
    have c4b1 : (a2 != 0) = false := bne_eq_false_iff_eq.mpr c4
    clear c4
    by_cases c5 : 0 ≤ a1
    rotate_left
    · rw [if_neg c5] at H
      exact absurd H (by simp)
    rw [if_pos c5] at H
    have c5b0 : decide (0 ≤ a1) = true := decide_eq_true c5
    clear c5
    by_cases c6 : a1 < (l0.length : Int)
    rotate_left
    · rw [if_neg c6] at H
      exact absurd H (by simp)
    rw [if_pos c6] at H
    have c6b0 : decide (a1 < (l0.length : Int)) = true := decide_eq_true c6
    clear c6
    obtain rfl := Option.some.inj H
    have p119 : 0 ≤ (a1 : Int) := of_decide_eq_true (by first | (with_reducible assumption) | assumption)
    have q119 : a1 < (l0.length : Int) := of_decide_eq_true (by first | (with_reducible assumption) | assumption)
    obtain ⟨ad119, e119, hx119_0⟩ := Kd.at_int HR0.out a1 p119 q119
    cases e119
    replace p119 := eq_true p119
    replace q119 := eq_true q119
    go_enter Try.func188, Try.ntmps188
    go_wp2
    go_ret
    exact ⟨by first | rfl | (simp; done) | (simp [*]; done), by repeat (first | exact Drawn0.refl _ | apply Drawn0.step)⟩
  rw [if_neg c4] at H
  have c4b0 : (a2 == 0) = false := beq_eq_false_iff_ne.mpr c4
  have c4b1 : (a2 != 0) = true := bne_iff_ne.mpr c4
  replace H := Option.bind_eq_some_iff.mp H
  obtain ⟨t120, A70, H⟩ := H
  replace H : (if a2 = 1 then (if 0 ≤ a1 then (if a1 < (l0.length : Int) then (some ((wrap64 ((wrap64 ((rd l0 a1) + t120)) + 1)) / 2)) else (none)) else (none)) else (if a2 = 3 then (if 0 ≤ (wrap64 (a1 + 1)) then (if (wrap64 (a1 + 1)) < (l0.length : Int) then (some ((wrap64 ((wrap64 (t120 + (rd l0 (wrap64 (a1 + 1))))) + 1)) / 2)) else (none)) else (none)) else (some t120))) = some r := H
  have A7 := Aside0.mk A70
  clear A70
  by_cases c8 : a2 = 1
  · rw [if_pos c8] at H
    have c8b0 : (a2 == 1) = true := beq_iff_eq.mpr c8
    have c8b1 : (a2 != 1) = false := bne_eq_false_iff_eq.mpr c8
    clear c8
    by_cases c9 : 0 ≤ a1
    rotate_left
    · rw [if_neg c9] at H
      exact absurd H (by simp)
    rw [if_pos c9] at H
    have c9b0 : decide (0 ≤ a1) = true := decide_eq_true c9
    clear c9
    by_cases c10 : a1 < (l0.length : Int)
    rotate_left
    · rw [if_neg c10] at H
      exact absurd H (by simp)
    rw [if_pos c10] at H
    have c10b0 : decide (a1 < (l0.length : Int)) = true := decide_eq_true c10
    clear c10
    obtain rfl := Option.some.inj H
    go_enter Try.func188, Try.ntmps188
    go_wp2_with (first | ((with_reducible refine gate_callee (f := 201) rfl ?_); refine goesL_ (some 16) rfl rfl Try.func201 (by kernel_rfl) rfl #[.slice A0 l0.length c0, .int .i64 a1] rfl (by (try simp only [List.map_toArray, List.map_cons, List.map_nil]); first | done | rfl | (simp only [List.length_drop, List.length_take]; rfl)) ?_; (with_reducible refine (spec_l13Half.calls _ _ l0 a1 t120 _ ?side1 ?side2 A7.out).mono ?_); (case side1 => repeat (first | exact HR0.out | (with_reducible refine Kd.C_alloc ?_ _) | (with_reducible refine Kd.C_drewN ?_ _) | (with_reducible refine Kd.C_drew ?_))); (case side2 => exact HC0.out); rintro e w' ⟨rfl, ⟨nd, rfl⟩⟩; refine ⟨_, rfl, ?_⟩; have p121 : 0 ≤ (a1 : Int) := of_decide_eq_true (by first | (with_reducible assumption) | assumption); have q121 : a1 < (l0.length : Int) := of_decide_eq_true (by first | (with_reducible assumption) | assumption); obtain ⟨ad121, e121, hx121_0⟩ := Kd.at_int HR0.out a1 p121 q121; cases e121; replace p121 := eq_true p121; replace q121 := eq_true q121))
    go_ret
    exact ⟨by first | rfl | (simp; done) | (simp [*]; done), by repeat (first | exact Drawn0.refl _ | apply Drawn0.step)⟩
  rw [if_neg c8] at H
  have c8b0 : (a2 == 1) = false := beq_eq_false_iff_ne.mpr c8
  have c8b1 : (a2 != 1) = true := bne_iff_ne.mpr c8
  by_cases c11 : a2 = 3
  rotate_left
  · rw [if_neg c11] at H
    have c11b0 : (a2 == 3) = false := beq_eq_false_iff_ne.mpr c11
    have c11b1 : (a2 != 3) = true := bne_iff_ne.mpr c11
    obtain rfl := Option.some.inj H
    go_enter Try.func188, Try.ntmps188
    go_wp2_with (first | ((with_reducible refine gate_callee (f := 201) rfl ?_); refine goesL_ (some 16) rfl rfl Try.func201 (by kernel_rfl) rfl #[.slice A0 l0.length c0, .int .i64 a1] rfl (by (try simp only [List.map_toArray, List.map_cons, List.map_nil]); first | done | rfl | (simp only [List.length_drop, List.length_take]; rfl)) ?_; (with_reducible refine (spec_l13Half.calls _ _ l0 a1 t120 _ ?side1 ?side2 A7.out).mono ?_); (case side1 => repeat (first | exact HR0.out | (with_reducible refine Kd.C_alloc ?_ _) | (with_reducible refine Kd.C_drewN ?_ _) | (with_reducible refine Kd.C_drew ?_))); (case side2 => exact HC0.out); rintro e w' ⟨rfl, ⟨nd, rfl⟩⟩; refine ⟨_, rfl, ?_⟩))
    go_ret
    exact ⟨by first | rfl | (simp; done) | (simp [*]; done), by repeat (first | exact Drawn0.refl _ | apply Drawn0.step)⟩
  rw [if_pos c11] at H
  have c11b0 : (a2 == 3) = true := beq_iff_eq.mpr c11
  have c11b1 : (a2 != 3) = false := bne_eq_false_iff_eq.mpr c11
  clear c11
  obtain ⟨ji12, hji12⟩ : ∃ j_ : Int, (wrap64 (a1 + 1)) = j_ := ⟨_, rfl⟩
  replace H : (if 0 ≤ (ji12) then (if (ji12) < (l0.length : Int) then (some ((wrap64 ((wrap64 (t120 + (rd l0 (ji12)))) + 1)) / 2)) else (none)) else (none)) = some r := by first | (rw [hji12] at H; exact H) | (simp only [hji12] at H ⊢; exact H)
  (try rw [hji12] at A7)
  have hji12w : (IntKind.i64.wrap (a1 + 1)) = ji12 := (i64_w _).trans hji12
  by_cases c13 : 0 ≤ (ji12)
  rotate_left
  · rw [if_neg c13] at H
    exact absurd H (by simp)
  rw [if_pos c13] at H
  have c13b0 : decide (0 ≤ (ji12)) = true := decide_eq_true c13
  clear c13
  by_cases c14 : (ji12) < (l0.length : Int)
  rotate_left
  · rw [if_neg c14] at H
    exact absurd H (by simp)
  rw [if_pos c14] at H
  have c14b0 : decide ((ji12) < (l0.length : Int)) = true := decide_eq_true c14
  clear c14
  obtain rfl := Option.some.inj H
  go_enter Try.func188, Try.ntmps188
  go_wp2_with (first | ((with_reducible refine gate_callee (f := 201) rfl ?_); refine goesL_ (some 16) rfl rfl Try.func201 (by kernel_rfl) rfl #[.slice A0 l0.length c0, .int .i64 a1] rfl (by (try simp only [List.map_toArray, List.map_cons, List.map_nil]); first | done | rfl | (simp only [List.length_drop, List.length_take]; rfl)) ?_; (with_reducible refine (spec_l13Half.calls _ _ l0 a1 t120 _ ?side1 ?side2 A7.out).mono ?_); (case side1 => repeat (first | exact HR0.out | (with_reducible refine Kd.C_alloc ?_ _) | (with_reducible refine Kd.C_drewN ?_ _) | (with_reducible refine Kd.C_drew ?_))); (case side2 => exact HC0.out); rintro e w' ⟨rfl, ⟨nd, rfl⟩⟩; refine ⟨_, rfl, ?_⟩; have p122 : 0 ≤ ((ji12) : Int) := of_decide_eq_true (by first | (with_reducible assumption) | assumption); have q122 : (ji12) < (l0.length : Int) := of_decide_eq_true (by first | (with_reducible assumption) | assumption); obtain ⟨ad122, e122, hx122_0⟩ := Kd.at_int HR0.out (ji12) p122 q122; cases e122; replace p122 := eq_true p122; replace q122 := eq_true q122))
  go_ret
  exact ⟨by first | rfl | (simp; done) | (simp only [← hji12] <;> (first | rfl | simp)) | (simp [*]; done), by repeat (first | exact Drawn0.refl _ | apply Drawn0.step)⟩

end Go.Proofs.Ytglaedjadlappaa.PFnExactBestMotion

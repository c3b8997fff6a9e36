-- written by myprint.py (a program of this session's over the kit's print)
import Derived.Test.YtglaedjadlappaaPFnExactSmoothx0
import Derived.Test.YtglaedjadlappaaPFnExactSmoothx1
namespace Go.Proofs.Ytglaedjadlappaa.PFnExactSmooth
open Go.RowKit Go.Proofs.YtglaedjadlappaaW.PrintWords Go.Proofs.YtglaedjadlappaaW.PrintLast Go.Proofs.YtglaedjadlappaaW.PrintMore
attribute [local go_sem] max2_int min2_int max_two min_two max_three min_three max_four min_four   -- for this text's walks alone
set_option linter.unusedVariables false
set_option linter.unusedSimpArgs false

/-! ### spec_l7Clip: function 199 -/
def spec_l7Clip.f (a0 : Int) : Option (Int) := if a0 < 0 then (some 0) else (if a0 > 255 then (some 255) else (some a0))
set_option maxHeartbeats 8000000 in
set_option maxRecDepth 100000 in
theorem spec_l7Clip.calls (a0 : Int) (r : Int) (w : World) (h : spec_l7Clip.f a0 = some r) :
    Calls Try.prog 199 #[.int .i64 a0] w fun e w' => e = .returned (.int .i64 r) ∧ Drawn0 w w' := by
  have H : (if a0 < 0 then (some 0) else (if a0 > 255 then (some 255) else (some a0))) = some r := h
  clear h
  by_cases c2 : a0 < 0
  · rw [if_pos c2] at H
    have c2b0 : decide (a0 < 0) = true := decide_eq_true c2
    clear c2
    obtain rfl := Option.some.inj H
    go_enter Try.func199, Try.ntmps199
    go_wp2
    go_ret
    exact ⟨by first | rfl | (simp; done) | (simp [*]; done), by repeat (first | exact Drawn0.refl _ | apply Drawn0.step)⟩
  · rw [if_neg c2] at H
    have c2b0 : decide (a0 < 0) = false := decide_eq_false c2
    clear c2
    by_cases c3 : a0 > 255
    · rw [if_pos c3] at H
      have c3b0 : decide (255 < a0) = true := decide_eq_true c3
      clear c3
      obtain rfl := Option.some.inj H
      go_enter Try.func199, Try.ntmps199
      go_wp2
      go_ret
      exact ⟨by first | rfl | (simp; done) | (simp [*]; done), by repeat (first | exact Drawn0.refl _ | apply Drawn0.step)⟩
    · rw [if_neg c3] at H
      have c3b0 : decide (255 < a0) = false := decide_eq_false c3
      clear c3
      obtain rfl := Option.some.inj H
      go_enter Try.func199, Try.ntmps199
      go_wp2
      go_ret
      exact ⟨by first | rfl | (simp; done) | (simp [*]; done), by repeat (first | exact Drawn0.refl _ | apply Drawn0.step)⟩

/-! ### spec_l13Edge: function 179 -/
mutual
def spec_l13Edge.j0 : Nat → Int → Int → Int → Int → Int → Bool → Option (Int × Int)
  | 0, _, _, _, _, _, _ => none
  | k + 1, x0, x1, x2, x3, x4, x42 => if x42 = true then (some (x1, x2)) else (if ((wrap64 ((wrap64 ((wrap64 (4 * (wrap64 (x2 - x1)))) + (wrap64 (x0 - x3)))) + 4)) / 8) < (wrap64 (-(wrap64 ((wrap64 (Int.tdiv x4 4)) + 1)))) then (spec_l13Edge.j1 k x1 x2 (wrap64 ((wrap64 (Int.tdiv x4 4)) + 1)) (wrap64 (-(wrap64 ((wrap64 (Int.tdiv x4 4)) + 1))))) else (spec_l13Edge.j1 k x1 x2 (wrap64 ((wrap64 (Int.tdiv x4 4)) + 1)) ((wrap64 ((wrap64 ((wrap64 (4 * (wrap64 (x2 - x1)))) + (wrap64 (x0 - x3)))) + 4)) / 8)))
def spec_l13Edge.j1 : Nat → Int → Int → Int → Int → Option (Int × Int)
  | 0, _, _, _, _ => none
  | k + 1, x1, x2, x12, x13 => if x13 > x12 then ((spec_l7Clip.f (wrap64 (x1 + x12))).bind fun t126 => ((spec_l7Clip.f (wrap64 (x2 - x12))).bind fun t127 => (some (t126, t127)))) else ((spec_l7Clip.f (wrap64 (x1 + x13))).bind fun t128 => ((spec_l7Clip.f (wrap64 (x2 - x13))).bind fun t129 => (some (t128, t129))))
end
def spec_l13Edge.f (k : Nat) (a0 : Int) (a1 : Int) (a2 : Int) (a3 : Int) (a4 : Int) : Option (Int × Int) := (spec_l4Abs.f (wrap64 (a2 - a1))).bind fun t123 => (if t123 ≥ (wrap64 (a4 + (wrap64 (Int.tdiv (wrap64 (a4 * a4)) 16)))) then (spec_l13Edge.j0 k a0 a1 a2 a3 a4 true) else ((spec_l4Abs.f (wrap64 (a1 - a0))).bind fun t124 => (if t124 ≥ (wrap64 (Int.tdiv a4 2)) then (spec_l13Edge.j0 k a0 a1 a2 a3 a4 true) else ((spec_l4Abs.f (wrap64 (a3 - a2))).bind fun t125 => (spec_l13Edge.j0 k a0 a1 a2 a3 a4 (decide (t125 ≥ (wrap64 (Int.tdiv a4 2)))))))))
theorem spec_l13Edge.mono_l : ∀ k, (∀ y0 y1 y2 y3 y4 y5, LeO (spec_l13Edge.j0 k y0 y1 y2 y3 y4 y5) (spec_l13Edge.j0 (k + 1) y0 y1 y2 y3 y4 y5)) ∧ (∀ y0 y1 y2 y3, LeO (spec_l13Edge.j1 k y0 y1 y2 y3) (spec_l13Edge.j1 (k + 1) y0 y1 y2 y3))
  | 0 => ⟨fun _ _ _ _ _ _ r h => by simp [spec_l13Edge.j0] at h, fun _ _ _ _ r h => by simp [spec_l13Edge.j1] at h⟩
  | k + 1 => by
    obtain ⟨ih0, ih1⟩ := spec_l13Edge.mono_l k
    refine ⟨?_, ?_⟩
    · intro y0 y1 y2 y3 y4 y5
      unfold spec_l13Edge.j0
      repeat' first
      | (with_reducible exact ih0 _ _ _ _ _ _)
      | (with_reducible exact ih1 _ _ _ _)
      | (with_reducible exact LeO.refl _)
      | (with_reducible exact LeO.none _)
      | (with_reducible refine LeO.ite ?_ ?_)
      | (with_reducible refine LeO.bind ?_ (fun _ => ?_))
      | exact ih0 _ _ _ _ _ _
      | exact ih1 _ _ _ _
      | exact LeO.none _
      | refine LeO.ite ?_ ?_
      | refine LeO.bind ?_ (fun _ => ?_)
    · intro y0 y1 y2 y3
      unfold spec_l13Edge.j1
      repeat' first
      | (with_reducible exact ih0 _ _ _ _ _ _)
      | (with_reducible exact ih1 _ _ _ _)
      | (with_reducible exact LeO.refl _)
      | (with_reducible exact LeO.none _)
      | (with_reducible refine LeO.ite ?_ ?_)
      | (with_reducible refine LeO.bind ?_ (fun _ => ?_))
      | exact ih0 _ _ _ _ _ _
      | exact ih1 _ _ _ _
      | exact LeO.none _
      | refine LeO.ite ?_ ?_
      | refine LeO.bind ?_ (fun _ => ?_)
theorem spec_l13Edge.mono : ∀ a0 a1 a2 a3 a4 k, LeO (spec_l13Edge.f k a0 a1 a2 a3 a4) (spec_l13Edge.f (k + 1) a0 a1 a2 a3 a4) := by
  intro a0 a1 a2 a3 a4 k
  obtain ⟨ih0, ih1⟩ := spec_l13Edge.mono_l k
  unfold spec_l13Edge.f
  repeat' first
      | (with_reducible exact ih0 _ _ _ _ _ _)
      | (with_reducible exact ih1 _ _ _ _)
      | (with_reducible exact LeO.refl _)
      | (with_reducible exact LeO.none _)
      | (with_reducible refine LeO.ite ?_ ?_)
      | (with_reducible refine LeO.bind ?_ (fun _ => ?_))
      | exact ih0 _ _ _ _ _ _
      | exact ih1 _ _ _ _
      | exact LeO.none _
      | refine LeO.ite ?_ ?_
      | refine LeO.bind ?_ (fun _ => ?_)
set_option maxHeartbeats 8000000 in
set_option maxRecDepth 100000 in
theorem spec_l13Edge.calls (k : Nat) (a0 : Int) (a1 : Int) (a2 : Int) (a3 : Int) (a4 : Int) (r1 : Int) (r2 : Int) (w : World) (h : spec_l13Edge.f k a0 a1 a2 a3 a4 = some (r1, r2)) :
    Calls Try.prog 179 #[.int .i64 a0, .int .i64 a1, .int .i64 a2, .int .i64 a3, .int .i64 a4] w fun e w' => e = .returned (.tuple #[.int .i64 r1, .int .i64 r2]) ∧ Drawn0 w w' := by
  have H : ((spec_l4Abs.f (wrap64 (a2 - a1))).bind fun t123 => (if t123 ≥ (wrap64 (a4 + (wrap64 (Int.tdiv (wrap64 (a4 * a4)) 16)))) then (spec_l13Edge.j0 k a0 a1 a2 a3 a4 true) else ((spec_l4Abs.f (wrap64 (a1 - a0))).bind fun t124 => (if t124 ≥ (wrap64 (Int.tdiv a4 2)) then (spec_l13Edge.j0 k a0 a1 a2 a3 a4 true) else ((spec_l4Abs.f (wrap64 (a3 - a2))).bind fun t125 => (spec_l13Edge.j0 k a0 a1 a2 a3 a4 (decide (t125 ≥ (wrap64 (Int.tdiv a4 2)))))))))) = some (r1, r2) := h
  clear h
  have HC6 := Aside0.mk H
  clear H
  go_enter Try.func179, Try.ntmps179
  go_upto_region 1 with (fail)
  go_cut [42] (fun v42 wc => ∃ (kq : Nat) (x42_5 : Bool), v42 = .bool x42_5 ∧ Aside0 (spec_l13Edge.j0 kq a0 a1 a2 a3 a4 x42_5 = some (r1, r2)) ∧ Aside0 (kq ≤ k) ∧ Drawn0 w wc)
  case first =>
    have H := HC6.out
    clear HC6
    replace H := Option.bind_eq_some_iff.mp H
    obtain ⟨t123, A70, H⟩ := H
    replace H : (if t123 ≥ (wrap64 (a4 + (wrap64 (Int.tdiv (wrap64 (a4 * a4)) 16)))) then (spec_l13Edge.j0 k a0 a1 a2 a3 a4 true) else ((spec_l4Abs.f (wrap64 (a1 - a0))).bind fun t124 => (if t124 ≥ (wrap64 (Int.tdiv a4 2)) then (spec_l13Edge.j0 k a0 a1 a2 a3 a4 true) else ((spec_l4Abs.f (wrap64 (a3 - a2))).bind fun t125 => (spec_l13Edge.j0 k a0 a1 a2 a3 a4 (decide (t125 ≥ (wrap64 (Int.tdiv a4 2))))))))) = some (r1, r2) := H
    have A7 := Aside0.mk A70
    clear A70
    by_cases c8 : t123 ≥ (wrap64 (a4 + (wrap64 (Int.tdiv (wrap64 (a4 * a4)) 16))))
    · rw [if_pos c8] at H
      have c8b0 : decide ((wrap64 (a4 + (wrap64 (Int.tdiv (wrap64 (a4 * a4)) 16)))) ≤ t123) = true := decide_eq_true c8
      clear c8
      (first | rw [c8b0] | (simp only [i64_w, i32_w]; rw [c8b0]) | skip)
      have H' := Aside0.mk H
      clear H
      go_wp2_with (first | ((with_reducible refine gate_callee (f := 189) rfl ?_); refine goesL_ (some 17) rfl rfl Try.func189 (by kernel_rfl) rfl #[.int .i64 (wrap64 (a2 - a1))] rfl (by (try simp only [List.map_toArray, List.map_cons, List.map_nil]); first | done | rfl | (simp only [List.length_drop, List.length_take]; rfl)) ?_; (with_reducible refine (spec_l4Abs.calls (wrap64 (a2 - a1)) t123 _ A7.out).mono ?_); rintro e w' ⟨rfl, ⟨nd, rfl⟩⟩; refine ⟨_, rfl, ?_⟩))
      go_meet
      case rel => exact ⟨_, (true), (by first | rfl | (simp; done) | (simp [*]; done)), H', ⟨by first | omega | exact Nat.le_refl _⟩, by repeat (first | exact Drawn0.refl _ | apply Drawn0.step)⟩
    rw [if_neg c8] at H
    have c8b0 : decide ((wrap64 (a4 + (wrap64 (Int.tdiv (wrap64 (a4 * a4)) 16)))) ≤ t123) = false := decide_eq_false c8
    clear c8
    (first | rw [c8b0] | (simp only [i64_w, i32_w]; rw [c8b0]) | skip)
    replace H := Option.bind_eq_some_iff.mp H
    obtain ⟨t124, A90, H⟩ := H
    replace H : (if t124 ≥ (wrap64 (Int.tdiv a4 2)) then (spec_l13Edge.j0 k a0 a1 a2 a3 a4 true) else ((spec_l4Abs.f (wrap64 (a3 - a2))).bind fun t125 => (spec_l13Edge.j0 k a0 a1 a2 a3 a4 (decide (t125 ≥ (wrap64 (Int.tdiv a4 2))))))) = some (r1, r2) := H
    have A9 := Aside0.mk A90
    clear A90
    by_cases c10 : t124 ≥ (wrap64 (Int.tdiv a4 2))
    · rw [if_pos c10] at H
      have c10b0 : decide ((wrap64 (Int.tdiv a4 2)) ≤ t124) = true := decide_eq_true c10
      clear c10
      have H' := Aside0.mk H
      clear H
      go_wp2_with (first | ((with_reducible refine gate_callee (f := 189) rfl ?_); refine goesL_ (some 17) rfl rfl Try.func189 (by kernel_rfl) rfl #[.int .i64 (wrap64 (a2 - a1))] rfl (by (try simp only [List.map_toArray, List.map_cons, List.map_nil]); first | done | rfl | (simp only [List.length_drop, List.length_take]; rfl)) ?_; (with_reducible refine (spec_l4Abs.calls (wrap64 (a2 - a1)) t123 _ A7.out).mono ?_); rintro e w' ⟨rfl, ⟨nd, rfl⟩⟩; refine ⟨_, rfl, ?_⟩) | (go_at_call 189; (with_reducible refine (spec_l4Abs.calls (wrap64 (a1 - a0)) t124 _ A9.out).mono ?_); rintro e w' ⟨rfl, ⟨nd, rfl⟩⟩))
      go_meet
      case rel => exact ⟨_, (true), (by first | rfl | (simp; done) | (simp [*]; done)), H', ⟨by first | omega | exact Nat.le_refl _⟩, by repeat (first | exact Drawn0.refl _ | apply Drawn0.step)⟩
    rw [if_neg c10] at H
    have c10b0 : decide ((wrap64 (Int.tdiv a4 2)) ≤ t124) = false := decide_eq_false c10
    clear c10
    replace H := Option.bind_eq_some_iff.mp H
    obtain ⟨t125, A110, H⟩ := H
    replace H : (spec_l13Edge.j0 k a0 a1 a2 a3 a4 (decide (t125 ≥ (wrap64 (Int.tdiv a4 2))))) = some (r1, r2) := H
    have A11 := Aside0.mk A110
    clear A110
    have H' := Aside0.mk H
    clear H
    go_wp2_with (first | ((with_reducible refine gate_callee (f := 189) rfl ?_); refine goesL_ (some 17) rfl rfl Try.func189 (by kernel_rfl) rfl #[.int .i64 (wrap64 (a2 - a1))] rfl (by (try simp only [List.map_toArray, List.map_cons, List.map_nil]); first | done | rfl | (simp only [List.length_drop, List.length_take]; rfl)) ?_; (with_reducible refine (spec_l4Abs.calls (wrap64 (a2 - a1)) t123 _ A7.out).mono ?_); rintro e w' ⟨rfl, ⟨nd, rfl⟩⟩; refine ⟨_, rfl, ?_⟩) | (go_at_call 189; (with_reducible refine (spec_l4Abs.calls (wrap64 (a1 - a0)) t124 _ A9.out).mono ?_); rintro e w' ⟨rfl, ⟨nd, rfl⟩⟩) | (go_at_call 189; (with_reducible refine (spec_l4Abs.calls (wrap64 (a3 - a2)) t125 _ A11.out).mono ?_); rintro e w' ⟨rfl, ⟨nd, rfl⟩⟩))
    go_meet
    case rel => exact ⟨_, (decide (t125 ≥ (wrap64 (Int.tdiv a4 2)))), (by first | rfl | (simp; done) | (simp [*]; done)), H', ⟨by first | omega | exact Nat.le_refl _⟩, by repeat (first | exact Drawn0.refl _ | apply Drawn0.step)⟩
  case rest =>
    clear HC6
    try clear c1
    try clear p2
    try clear p6
    try clear c8
    try clear c8b0
    try clear c10
    try clear c10b0
    obtain ⟨kq, x42_5, rfl, HA, HJ5, ⟨mc5, rfl⟩⟩ := hcut
    cases kq with
    | zero => exact absurd HA.out (by simp [spec_l13Edge.j0])
    | succ kj5 =>
      have H := HA.out
      clear HA
      simp only [spec_l13Edge.j0] at H
      by_cases c12 : x42_5 = true
      · subst c12
        have H1 : (some (a1, a2)) = some (r1, r2) := by rw [if_pos rfl] at H; exact H
        clear H
        have H := H1
        clear H1
        simp only [Option.some.injEq, Prod.mk.injEq] at H
        obtain ⟨rfl, rfl⟩ := H
        go_wp2
        go_ret2
        exact ⟨by first | rfl | (simp; done) | (simp [*]; done), by repeat (first | exact Drawn0.refl _ | apply Drawn0.step)⟩
      replace c12 := Bool.eq_false_iff.mpr c12
      subst c12
      have H1 : (if ((wrap64 ((wrap64 ((wrap64 (4 * (wrap64 (a2 - a1)))) + (wrap64 (a0 - a3)))) + 4)) / 8) < (wrap64 (-(wrap64 ((wrap64 (Int.tdiv a4 4)) + 1)))) then (spec_l13Edge.j1 kj5 a1 a2 (wrap64 ((wrap64 (Int.tdiv a4 4)) + 1)) (wrap64 (-(wrap64 ((wrap64 (Int.tdiv a4 4)) + 1))))) else (spec_l13Edge.j1 kj5 a1 a2 (wrap64 ((wrap64 (Int.tdiv a4 4)) + 1)) ((wrap64 ((wrap64 ((wrap64 (4 * (wrap64 (a2 - a1)))) + (wrap64 (a0 - a3)))) + 4)) / 8))) = some (r1, r2) := by rw [if_neg (show ¬ (false = true) by decide)] at H; exact H
      clear H
      have H := H1
      clear H1
      have HC13 := Aside0.mk H
      clear H
      go_upto_if 61 with (fail)
      go_cut [13] (fun v13 wc => ∃ (kq : Nat) (x13_12 : Int), v13 = .int .i64 x13_12 ∧ Aside0 (spec_l13Edge.j1 kq a1 a2 (wrap64 ((wrap64 (Int.tdiv a4 4)) + 1)) x13_12 = some (r1, r2)) ∧ Aside0 (kq ≤ kj5) ∧ Drawn0 w wc)
      case first =>
        have H := HC13.out
        clear HC13
        by_cases c14 : ((wrap64 ((wrap64 ((wrap64 (4 * (wrap64 (a2 - a1)))) + (wrap64 (a0 - a3)))) + 4)) / 8) < (wrap64 (-(wrap64 ((wrap64 (Int.tdiv a4 4)) + 1))))
        · rw [if_pos c14] at H
          have c14b0 : decide (((wrap64 ((wrap64 ((wrap64 (4 * (wrap64 (a2 - a1)))) + (wrap64 (a0 - a3)))) + 4)) / 8) < (wrap64 (-(wrap64 ((wrap64 (Int.tdiv a4 4)) + 1))))) = true := decide_eq_true c14
          clear c14
          (first | rw [c14b0] | (simp only [i64_w, i32_w]; rw [c14b0]) | skip)
          have H' := Aside0.mk H
          clear H
          go_wp2
          go_meet
          case rel => exact ⟨_, (wrap64 (-(wrap64 ((wrap64 (Int.tdiv a4 4)) + 1)))), (by first | rfl | (simp; done) | (simp [*]; done)), H', ⟨by have := HJ5.out; first | omega | exact Nat.le_refl _⟩, by repeat (first | exact Drawn0.refl _ | apply Drawn0.step)⟩
        rw [if_neg c14] at H
        have c14b0 : decide (((wrap64 ((wrap64 ((wrap64 (4 * (wrap64 (a2 - a1)))) + (wrap64 (a0 - a3)))) + 4)) / 8) < (wrap64 (-(wrap64 ((wrap64 (Int.tdiv a4 4)) + 1))))) = false := decide_eq_false c14
        clear c14
        (first | rw [c14b0] | (simp only [i64_w, i32_w]; rw [c14b0]) | skip)
        have H' := Aside0.mk H
        clear H
        go_wp2
        go_meet
        case rel => exact ⟨_, ((wrap64 ((wrap64 ((wrap64 (4 * (wrap64 (a2 - a1)))) + (wrap64 (a0 - a3)))) + 4)) / 8), (by first | rfl | (simp; done) | (simp [*]; done)), H', ⟨by have := HJ5.out; first | omega | exact Nat.le_refl _⟩, by repeat (first | exact Drawn0.refl _ | apply Drawn0.step)⟩
      case rest =>
        clear HC13
        try clear c1
        try clear p2
        try clear c5
        try clear p6
        try clear c8
        try clear c8b0
        try clear c10
        try clear c10b0
        try clear c12
        try clear c14
        try clear c14b0
        try clear p2
        try clear p6
        obtain ⟨kq, x13_12, rfl, HA, HJ12, ⟨mc12, rfl⟩⟩ := hcut
        cases kq with
        | zero => exact absurd HA.out (by simp [spec_l13Edge.j1])
        | succ kj12 =>
          have H := HA.out
          clear HA
          simp only [spec_l13Edge.j1] at H
          by_cases c15 : x13_12 > (wrap64 ((wrap64 (Int.tdiv a4 4)) + 1))
          rotate_left
          · rw [if_neg c15] at H
            have c15b0 : decide ((wrap64 ((wrap64 (Int.tdiv a4 4)) + 1)) < x13_12) = false := decide_eq_false c15
            clear c15
            replace H := Option.bind_eq_some_iff.mp H
            obtain ⟨t128, A180, H⟩ := H
            replace H : ((spec_l7Clip.f (wrap64 (a2 - x13_12))).bind fun t129 => (some (t128, t129))) = some (r1, r2) := H
            have A18 := Aside0.mk A180
            clear A180
            replace H := Option.bind_eq_some_iff.mp H
            obtain ⟨t129, A190, H⟩ := H
            replace H : (some (t128, t129)) = some (r1, r2) := H
            have A19 := Aside0.mk A190
            clear A190
            simp only [Option.some.injEq, Prod.mk.injEq] at H
            obtain ⟨rfl, rfl⟩ := H
            go_wp2_with (first | ((with_reducible refine gate_callee (f := 199) rfl ?_); refine goesL_ (some 71) rfl rfl Try.func199 (by kernel_rfl) rfl #[.int .i64 (wrap64 (a1 + x13_12))] rfl (by (try simp only [List.map_toArray, List.map_cons, List.map_nil]); first | done | rfl | (simp only [List.length_drop, List.length_take]; rfl)) ?_; (with_reducible refine (spec_l7Clip.calls (wrap64 (a1 + x13_12)) t128 _ A18.out).mono ?_); rintro e w' ⟨rfl, ⟨nd, rfl⟩⟩; refine ⟨_, rfl, ?_⟩) | ((with_reducible refine gate_callee (f := 199) rfl ?_); refine goesL_ (some 75) rfl rfl Try.func199 (by kernel_rfl) rfl #[.int .i64 (wrap64 (a2 - x13_12))] rfl (by (try simp only [List.map_toArray, List.map_cons, List.map_nil]); first | done | rfl | (simp only [List.length_drop, List.length_take]; rfl)) ?_; (with_reducible refine (spec_l7Clip.calls (wrap64 (a2 - x13_12)) t129 _ A19.out).mono ?_); rintro e w' ⟨rfl, ⟨nd, rfl⟩⟩; refine ⟨_, rfl, ?_⟩))
            go_ret2
            exact ⟨by first | rfl | (simp; done) | (simp [*]; done), by repeat (first | exact Drawn0.refl _ | apply Drawn0.step)⟩
          rw [if_pos c15] at H
          have c15b0 : decide ((wrap64 ((wrap64 (Int.tdiv a4 4)) + 1)) < x13_12) = true := decide_eq_true c15
          clear c15
          replace H := Option.bind_eq_some_iff.mp H
          obtain ⟨t126, A160, H⟩ := H
          replace H : ((spec_l7Clip.f (wrap64 (a2 - (wrap64 ((wrap64 (Int.tdiv a4 4)) + 1))))).bind fun t127 => (some (t126, t127))) = some (r1, r2) := H
          have A16 := Aside0.mk A160
          clear A160
          replace H := Option.bind_eq_some_iff.mp H
          obtain ⟨t127, A170, H⟩ := H
          replace H : (some (t126, t127)) = some (r1, r2) := H
          have A17 := Aside0.mk A170
          clear A170
          simp only [Option.some.injEq, Prod.mk.injEq] at H
          obtain ⟨rfl, rfl⟩ := H
          go_wp2_with (first | ((with_reducible refine gate_callee (f := 199) rfl ?_); refine goesL_ (some 71) rfl rfl Try.func199 (by kernel_rfl) rfl #[.int .i64 (wrap64 (a1 + (wrap64 ((wrap64 (Int.tdiv a4 4)) + 1))))] rfl (by (try simp only [List.map_toArray, List.map_cons, List.map_nil]); first | done | rfl | (simp only [List.length_drop, List.length_take]; rfl)) ?_; (with_reducible refine (spec_l7Clip.calls (wrap64 (a1 + (wrap64 ((wrap64 (Int.tdiv a4 4)) + 1)))) t126 _ A16.out).mono ?_); rintro e w' ⟨rfl, ⟨nd, rfl⟩⟩; refine ⟨_, rfl, ?_⟩) | ((with_reducible refine gate_callee (f := 199) rfl ?_); refine goesL_ (some 75) rfl rfl Try.func199 (by kernel_rfl) rfl #[.int .i64 (wrap64 (a2 - (wrap64 ((wrap64 (Int.tdiv a4 4)) + 1))))] rfl (by (try simp only [List.map_toArray, List.map_cons, List.map_nil]); first | done | rfl | (simp only [List.length_drop, List.length_take]; rfl)) ?_; (with_reducible refine (spec_l7Clip.calls (wrap64 (a2 - (wrap64 ((wrap64 (Int.tdiv a4 4)) + 1)))) t127 _ A17.out).mono ?_); rintro e w' ⟨rfl, ⟨nd, rfl⟩⟩; refine ⟨_, rfl, ?_⟩))
          go_ret2
          exact ⟨by first | rfl | (simp; done) | (simp [*]; done), by repeat (first | exact Drawn0.refl _ | apply Drawn0.step)⟩

end Go.Proofs.Ytglaedjadlappaa.PFnExactSmooth

-- written by myprint.py (a program of this session's over the kit's print)
import Derived.Test.YtidblealnaicpaaPFnPlanx0
namespace Go.Proofs.Ytidblealnaicpaa.PFnPlan
open Go.RowKit Go.Proofs.YtidblealnaicpaaW.PrintWords Go.Proofs.YtidblealnaicpaaW.PrintLast Go.Proofs.YtidblealnaicpaaW.PrintMore
attribute [local go_sem] max2_int min2_int max_two min_two max_three min_three max_four min_four   -- for this text's walks alone
set_option linter.unusedVariables false
set_option linter.unusedSimpArgs false

/-! ### spec_l10List: function 76 -/
def spec_l10List.l0 : Nat → List Int → List Int → Int → Int → Option (Bool)
  | 0, _, _, _, _ => none
  | k + 1, x0, x5, x6, x7 => if x7 < x6 then (if 0 ≤ x7 then (if x7 < (x5.length : Int) then (if (rd x5 x7) < (-67108864) then (some false) else (if (rd x5 x7) > 67108863 then (some false) else (spec_l10List.l0 k x0 x5 x6 (wrap64 (x7 + 1))))) else (none)) else (none)) else (some (decide ((x0.length : Int) ≤ 4000)))
def spec_l10List.f (k : Nat) (l0 : List Int) : Option (Bool) := spec_l10List.l0 k l0 l0 (l0.length : Int) 0
theorem spec_l10List.mono_l : ∀ k, (∀ y0 y1 y2 y3, LeO (spec_l10List.l0 k y0 y1 y2 y3) (spec_l10List.l0 (k + 1) y0 y1 y2 y3))
  | 0 => fun _ _ _ _ r h => by simp [spec_l10List.l0] at h
  | k + 1 => by
    have ih0 := spec_l10List.mono_l k
    · intro y0 y1 y2 y3
      unfold spec_l10List.l0
      repeat' first
      | (with_reducible exact ih0 _ _ _ _)
      | (with_reducible exact LeO.refl _)
      | (with_reducible exact LeO.none _)
      | (with_reducible refine LeO.ite ?_ ?_)
      | (with_reducible refine LeO.bind ?_ (fun _ => ?_))
      | exact ih0 _ _ _ _
      | exact LeO.none _
      | refine LeO.ite ?_ ?_
      | refine LeO.bind ?_ (fun _ => ?_)
theorem spec_l10List.mono : ∀ a0 k, LeO (spec_l10List.f k a0) (spec_l10List.f (k + 1) a0) := by
  intro a0 k
  have ih0 := spec_l10List.mono_l k
  unfold spec_l10List.f
  repeat' first
      | (with_reducible exact ih0 _ _ _ _)
      | (with_reducible exact LeO.refl _)
      | (with_reducible exact LeO.none _)
      | (with_reducible refine LeO.ite ?_ ?_)
      | (with_reducible refine LeO.bind ?_ (fun _ => ?_))
      | exact ih0 _ _ _ _
      | exact LeO.none _
      | refine LeO.ite ?_ ?_
      | refine LeO.bind ?_ (fun _ => ?_)
set_option maxHeartbeats 8000000 in
set_option maxRecDepth 100000 in
theorem spec_l10List.calls (k : Nat) (A0 : Option Addr) (c0 : Nat) (l0 : List Int) (r : Bool) (w : World) (hr0 : Kd.C (Kd.int .i64) w A0 l0.length l0) (hc0 : l0.length ≤ c0) (h : spec_l10List.f k l0 = some r) :
    Calls Try.prog 76 #[.slice A0 l0.length c0] w fun e w' => e = .returned (.bool r) ∧ Drawn0 w w' := by
  have HR0 := Aside0.mk hr0
  have HC0 := Aside0.mk hc0
  clear hr0 hc0
  have H : (spec_l10List.l0 k l0 l0 (l0.length : Int) 0) = some r := h
  clear h
  have H' := Aside0.mk H
  clear H
  go_enter Try.func76, Try.ntmps76
  go_wp2
  go_loopg [7] k (fun kq v7 w' => ∃ (x7_1 : Int), v7 = .int .i64 x7_1 ∧ Aside0 (spec_l10List.l0 kq l0 l0 (l0.length : Int) x7_1 = some r) ∧ Aside0 (kq ≤ k) ∧ Drawn0 w w')
  case atStart => exact ⟨(0), (by first | rfl | (simp; done) | (simp [*]; done)), H', ⟨Nat.le_refl _⟩, by repeat (first | exact Drawn0.refl _ | apply Drawn0.step)⟩
  case round =>
    clear H'
    obtain ⟨x7_1, rfl, HA, HK1, ⟨m1, rfl⟩⟩ := hrel
    cases gk with
    | zero => exact absurd HA.out (by simp [spec_l10List.l0])
    | succ k1 =>
      have H := HA.out
      clear HA
      simp only [spec_l10List.l0] at H
      by_cases c2 : x7_1 < (l0.length : Int)
      rotate_left
      · rw [if_neg c2] at H
        have c2b0 : decide (x7_1 < (l0.length : Int)) = false := decide_eq_false c2
        clear c2
        obtain rfl := Option.some.inj H
        go_wp2
        go_ret
        exact ⟨by first | rfl | (simp; done) | (simp [*]; done), by repeat (first | exact Drawn0.refl _ | apply Drawn0.step)⟩
      rw [if_pos c2] at H
      have c2b0 : decide (x7_1 < (l0.length : Int)) = true := decide_eq_true c2
      clear c2
      by_cases c3 : 0 ≤ x7_1
      rotate_left
      · rw [if_neg c3] at H
        exact absurd H (by simp)
      rw [if_pos c3] at H
      have c3b0 : decide (0 ≤ x7_1) = true := decide_eq_true c3
      clear c3
      by_cases c4 : x7_1 < (l0.length : Int)
      rotate_left
      · rw [if_neg c4] at H
        exact absurd H (by simp)
      rw [if_pos c4] at H
      have c4b0 : decide (x7_1 < (l0.length : Int)) = true := decide_eq_true c4
      clear c4
      by_cases c5 : (rd l0 x7_1) < (-67108864)
      · rw [if_pos c5] at H
        have c5b0 : decide ((rd l0 x7_1) < (-67108864)) = true := decide_eq_true c5
        clear c5
        obtain rfl := Option.some.inj H
        have p101 : 0 ≤ (x7_1 : Int) := of_decide_eq_true (by first | (with_reducible assumption) | assumption)
        have q101 : x7_1 < (l0.length : Int) := of_decide_eq_true (by first | (with_reducible assumption) | assumption)
        obtain ⟨ad101, e101, hx101_0⟩ := Kd.at_int HR0.out x7_1 p101 q101
        cases e101
        replace p101 := eq_true p101
        replace q101 := eq_true q101
        go_wp2
        go_ret
        exact ⟨by first | rfl | (simp; done) | (simp [*]; done), by repeat (first | exact Drawn0.refl _ | apply Drawn0.step)⟩
      rw [if_neg c5] at H
      have c5b0 : decide ((rd l0 x7_1) < (-67108864)) = false := decide_eq_false c5
      clear c5
      by_cases c6 : (rd l0 x7_1) > 67108863
      · rw [if_pos c6] at H
        have c6b0 : decide (67108863 < (rd l0 x7_1)) = true := decide_eq_true c6
        clear c6
        obtain rfl := Option.some.inj H
        have p101 : 0 ≤ (x7_1 : Int) := of_decide_eq_true (by first | (with_reducible assumption) | assumption)
        have q101 : x7_1 < (l0.length : Int) := of_decide_eq_true (by first | (with_reducible assumption) | assumption)
        obtain ⟨ad101, e101, hx101_0⟩ := Kd.at_int HR0.out x7_1 p101 q101
        cases e101
        replace p101 := eq_true p101
        replace q101 := eq_true q101
        go_wp2
        go_ret
        exact ⟨by first | rfl | (simp; done) | (simp [*]; done), by repeat (first | exact Drawn0.refl _ | apply Drawn0.step)⟩
      rw [if_neg c6] at H
      have c6b0 : decide (67108863 < (rd l0 x7_1)) = false := decide_eq_false c6
      clear c6
      have H' := Aside0.mk H
      clear H
      have p101 : 0 ≤ (x7_1 : Int) := of_decide_eq_true (by first | (with_reducible assumption) | assumption)
      have q101 : x7_1 < (l0.length : Int) := of_decide_eq_true (by first | (with_reducible assumption) | assumption)
      obtain ⟨ad101, e101, hx101_0⟩ := Kd.at_int HR0.out x7_1 p101 q101
      cases e101
      replace p101 := eq_true p101
      replace q101 := eq_true q101
      go_wp2
      go_roundg k1
      case measure => have := HK1.out; omega
      case rel => exact ⟨(wrap64 (x7_1 + 1)), (by first | rfl | (simp; done) | (simp [*]; done)), H', ⟨by have := HK1.out; omega⟩, by repeat (first | exact Drawn0.refl _ | apply Drawn0.step)⟩

/-! ### spec_l10Parts: function 157 -/
def spec_l10Parts.f (a0 : Int) (a1 : Int) (a2 : Int) : Option (Bool) := if a0 < 0 then (some false) else (if a0 > 4 then (some false) else (if a0 > a2 then (some false) else (if a1 < 0 then (some false) else (if a1 > 4 then (some false) else (if 0 ≤ (IntKind.u64.wrap (a1)) then (if (shl .i64 1 (IntKind.u64.wrap (a1))) = 0 then (none) else (if (Int.tmod a2 (shl .i64 1 (IntKind.u64.wrap (a1)))) = 0 then (some (decide ((shr .i64 a2 (IntKind.u64.wrap (a1))) ≥ a0))) else (some false))) else (none))))))
set_option maxHeartbeats 8000000 in
set_option maxRecDepth 100000 in
theorem spec_l10Parts.calls (a0 : Int) (a1 : Int) (a2 : Int) (r : Bool) (w : World) (h : spec_l10Parts.f a0 a1 a2 = some r) :
    Calls Try.prog 157 #[.int .i64 a0, .int .i64 a1, .int .i64 a2] w fun e w' => e = .returned (.bool r) ∧ Drawn0 w w' := by
  have H : (if a0 < 0 then (some false) else (if a0 > 4 then (some false) else (if a0 > a2 then (some false) else (if a1 < 0 then (some false) else (if a1 > 4 then (some false) else (if 0 ≤ (IntKind.u64.wrap (a1)) then (if (shl .i64 1 (IntKind.u64.wrap (a1))) = 0 then (none) else (if (Int.tmod a2 (shl .i64 1 (IntKind.u64.wrap (a1)))) = 0 then (some (decide ((shr .i64 a2 (IntKind.u64.wrap (a1))) ≥ a0))) else (some false))) else (none))))))) = some r := h
  clear h
  by_cases c4 : a0 < 0
  · rw [if_pos c4] at H
    have c4b0 : decide (a0 < 0) = true := decide_eq_true c4
    clear c4
    obtain rfl := Option.some.inj H
    go_enter Try.func157, Try.ntmps157
    go_wp2
    go_ret
    exact ⟨by first | rfl | (simp; done) | (simp [*]; done), by repeat (first | exact Drawn0.refl _ | apply Drawn0.step)⟩
  rw [if_neg c4] at H
  have c4b0 : decide (a0 < 0) = false := decide_eq_false c4
  clear c4
  by_cases c5 : a0 > 4
  · rw [if_pos c5] at H
    have c5b0 : decide (4 < a0) = true := decide_eq_true c5
    clear c5
    obtain rfl := Option.some.inj H
    go_enter Try.func157, Try.ntmps157
    go_wp2
    go_ret
    exact ⟨by first | rfl | (simp; done) | (simp [*]; done), by repeat (first | exact Drawn0.refl _ | apply Drawn0.step)⟩
  rw [if_neg c5] at H
  have c5b0 : decide (4 < a0) = false := decide_eq_false c5
  clear c5
  by_cases c6 : a0 > a2
  · rw [if_pos c6] at H
    have c6b0 : decide (a2 < a0) = true := decide_eq_true c6
    clear c6
    obtain rfl := Option.some.inj H
    go_enter Try.func157, Try.ntmps157
    go_wp2
    go_ret
    exact ⟨by first | rfl | (simp; done) | (simp [*]; done), by repeat (first | exact Drawn0.refl _ | apply Drawn0.step)⟩
  rw [if_neg c6] at H
  have c6b0 : decide (a2 < a0) = false := decide_eq_false c6
  clear c6
  by_cases c7 : a1 < 0
  · rw [if_pos c7] at H
    have c7b0 : decide (a1 < 0) = true := decide_eq_true c7
    clear c7
    obtain rfl := Option.some.inj H
    go_enter Try.func157, Try.ntmps157
    go_wp2
    go_ret
    exact ⟨by first | rfl | (simp; done) | (simp [*]; done), by repeat (first | exact Drawn0.refl _ | apply Drawn0.step)⟩
  rw [if_neg c7] at H
  have c7b0 : decide (a1 < 0) = false := decide_eq_false c7
  clear c7
  by_cases c8 : a1 > 4
  · rw [if_pos c8] at H
    have c8b0 : decide (4 < a1) = true := decide_eq_true c8
    clear c8
    obtain rfl := Option.some.inj H
    go_enter Try.func157, Try.ntmps157
    go_wp2
    go_ret
    exact ⟨by first | rfl | (simp; done) | (simp [*]; done), by repeat (first | exact Drawn0.refl _ | apply Drawn0.step)⟩
  rw [if_neg c8] at H
  have c8b0 : decide (4 < a1) = false := decide_eq_false c8
  clear c8
  obtain ⟨ji9, hji9⟩ : ∃ j_ : Int, (IntKind.u64.wrap (a1)) = j_ := ⟨_, rfl⟩
  replace H : (if 0 ≤ (ji9) then (if (shl .i64 1 (ji9)) = 0 then (none) else (if (Int.tmod a2 (shl .i64 1 (ji9))) = 0 then (some (decide ((shr .i64 a2 (ji9)) ≥ a0))) else (some false))) else (none)) = some r := by first | (rw [hji9] at H; exact H) | (simp only [hji9] at H ⊢; exact H)
  by_cases c10 : 0 ≤ (ji9)
  rotate_left
  · rw [if_neg c10] at H
    exact absurd H (by simp)
  rw [if_pos c10] at H
  have c10b0 := eq_true c10
  have c10b1 : decide (0 ≤ (ji9)) = true := decide_eq_true c10
  clear c10
  obtain ⟨ji11, hji11⟩ : ∃ j_ : Int, (shl .i64 1 (ji9)) = j_ := ⟨_, rfl⟩
  replace H : (if (ji11) = 0 then (none) else (if (Int.tmod a2 (ji11)) = 0 then (some (decide ((shr .i64 a2 (ji9)) ≥ a0))) else (some false))) = some r := by first | (rw [hji11] at H; exact H) | (simp only [hji11] at H ⊢; exact H)
  have hji11_ : (IntKind.i64.wrap (1 * 2 ^ min (ji9).toNat 64)) = ji11 := hji11
  have hji11z : (ji9) ≤ 64 → (IntKind.i64.wrap (1 * 2 ^ (ji9).toNat)) = ji11 := shl_small hji11
  have hji11u : (IntKind.i64.wrap (2 ^ min (ji9).toNat 64)) = ji11 := by have h_ := hji11_; rw [Int.one_mul] at h_; exact h_
  have hji11v : (ji9) ≤ 64 → (IntKind.i64.wrap (2 ^ (ji9).toNat)) = ji11 := fun hle_ => by have h_ := hji11z hle_; rw [Int.one_mul] at h_; exact h_
  have hji11y : (wrap64 (1 * 2 ^ min (ji9).toNat 64)) = ji11 := (i64_w _).symm.trans hji11_
  have hji11x : (ji9) ≤ 64 → (wrap64 (1 * 2 ^ (ji9).toNat)) = ji11 := fun h_ => (i64_w _).symm.trans (hji11z h_)
  by_cases c12 : (ji11) = 0
  · rw [if_pos c12] at H
    exact absurd H (by simp)
  rw [if_neg c12] at H
  have c12b0 : ((ji11) == 0) = false := beq_eq_false_iff_ne.mpr c12
  have c12b1 : ((ji11) != 0) = true := bne_iff_ne.mpr c12
  by_cases c13 : (Int.tmod a2 (ji11)) = 0
  rotate_left
  · rw [if_neg c13] at H
    have c13b0 : ((Int.tmod a2 (ji11)) == 0) = false := beq_eq_false_iff_ne.mpr c13
    have c13b1 : ((Int.tmod a2 (ji11)) != 0) = true := bne_iff_ne.mpr c13
    obtain rfl := Option.some.inj H
    go_enter Try.func157, Try.ntmps157
    go_wp2
    go_ret
    exact ⟨by first | rfl | (simp; done) | (simp only [← hji9, ← hji11] <;> (first | rfl | simp)) | (simp [*]; done), by repeat (first | exact Drawn0.refl _ | apply Drawn0.step)⟩
  rw [if_pos c13] at H
  have c13b0 : ((Int.tmod a2 (ji11)) == 0) = true := beq_iff_eq.mpr c13
  have c13b1 : ((Int.tmod a2 (ji11)) != 0) = false := bne_eq_false_iff_eq.mpr c13
  clear c13
  have c14b0 := eq_true (of_decide_eq_true (by first | (with_reducible assumption) | assumption) : 0 ≤ (ji9))
  obtain ⟨ji15, hji15⟩ : ∃ j_ : Int, (shr .i64 a2 (ji9)) = j_ := ⟨_, rfl⟩
  replace H : (some (decide ((ji15) ≥ a0))) = some r := by first | (rw [hji15] at H; exact H) | (simp only [hji15] at H ⊢; exact H)
  have hji15_ : (a2 / 2 ^ min (ji9).toNat 64) = ji15 := hji15
  have hji15z : (ji9) ≤ 64 → (a2 / 2 ^ (ji9).toNat) = ji15 := shr_small hji15
  obtain rfl := Option.some.inj H
  go_enter Try.func157, Try.ntmps157
  go_wp2
  go_ret
  exact ⟨by first | rfl | (simp; done) | (simp only [← hji9, ← hji11, ← hji15] <;> (first | rfl | simp)) | (simp [*]; done), by repeat (first | exact Drawn0.refl _ | apply Drawn0.step)⟩

/-! ### spec_l10Guess: function 205 -/
def spec_l10Guess.f (a0 : Int) (l1 : List Int) (a2 : Int) : Option (Int) := if a0 = 1 then (if 0 ≤ (wrap64 (a2 - 1)) then (if (wrap64 (a2 - 1)) < (l1.length : Int) then (some (rd l1 (wrap64 (a2 - 1)))) else (none)) else (none)) else (if a0 = 2 then (if 0 ≤ (wrap64 (a2 - 1)) then (if (wrap64 (a2 - 1)) < (l1.length : Int) then (if 0 ≤ (wrap64 (a2 - 2)) then (if (wrap64 (a2 - 2)) < (l1.length : Int) then (some (wrap64 ((wrap64 (2 * (rd l1 (wrap64 (a2 - 1))))) - (rd l1 (wrap64 (a2 - 2)))))) else (none)) else (none)) else (none)) else (none)) else (if a0 = 3 then (if 0 ≤ (wrap64 (a2 - 1)) then (if (wrap64 (a2 - 1)) < (l1.length : Int) then (if 0 ≤ (wrap64 (a2 - 2)) then (if (wrap64 (a2 - 2)) < (l1.length : Int) then (if 0 ≤ (wrap64 (a2 - 3)) then (if (wrap64 (a2 - 3)) < (l1.length : Int) then (some (wrap64 ((wrap64 ((wrap64 (3 * (rd l1 (wrap64 (a2 - 1))))) - (wrap64 (3 * (rd l1 (wrap64 (a2 - 2))))))) + (rd l1 (wrap64 (a2 - 3)))))) else (none)) else (none)) else (none)) else (none)) else (none)) else (none)) else (if a0 = 4 then (if 0 ≤ (wrap64 (a2 - 1)) then (if (wrap64 (a2 - 1)) < (l1.length : Int) then (if 0 ≤ (wrap64 (a2 - 2)) then (if (wrap64 (a2 - 2)) < (l1.length : Int) then (if 0 ≤ (wrap64 (a2 - 3)) then (if (wrap64 (a2 - 3)) < (l1.length : Int) then (if 0 ≤ (wrap64 (a2 - 4)) then (if (wrap64 (a2 - 4)) < (l1.length : Int) then (some (wrap64 ((wrap64 ((wrap64 ((wrap64 (4 * (rd l1 (wrap64 (a2 - 1))))) - (wrap64 (6 * (rd l1 (wrap64 (a2 - 2))))))) + (wrap64 (4 * (rd l1 (wrap64 (a2 - 3))))))) - (rd l1 (wrap64 (a2 - 4)))))) else (none)) else (none)) else (none)) else (none)) else (none)) else (none)) else (none)) else (none)) else (some 0))))
set_option maxHeartbeats 8000000 in
set_option maxRecDepth 100000 in
theorem spec_l10Guess.calls (a0 : Int) (A1 : Option Addr) (c1 : Nat) (l1 : List Int) (a2 : Int) (r : Int) (w : World) (hr1 : Kd.C (Kd.int .i64) w A1 l1.length l1) (hc1 : l1.length ≤ c1) (h : spec_l10Guess.f a0 l1 a2 = some r) :
    Calls Try.prog 205 #[.int .i64 a0, .slice A1 l1.length c1, .int .i64 a2] w fun e w' => e = .returned (.int .i64 r) ∧ Drawn0 w w' := by
  have HR1 := Aside0.mk hr1
  have HC1 := Aside0.mk hc1
  clear hr1 hc1
  have H : (if a0 = 1 then (if 0 ≤ (wrap64 (a2 - 1)) then (if (wrap64 (a2 - 1)) < (l1.length : Int) then (some (rd l1 (wrap64 (a2 - 1)))) else (none)) else (none)) else (if a0 = 2 then (if 0 ≤ (wrap64 (a2 - 1)) then (if (wrap64 (a2 - 1)) < (l1.length : Int) then (if 0 ≤ (wrap64 (a2 - 2)) then (if (wrap64 (a2 - 2)) < (l1.length : Int) then (some (wrap64 ((wrap64 (2 * (rd l1 (wrap64 (a2 - 1))))) - (rd l1 (wrap64 (a2 - 2)))))) else (none)) else (none)) else (none)) else (none)) else (if a0 = 3 then (if 0 ≤ (wrap64 (a2 - 1)) then (if (wrap64 (a2 - 1)) < (l1.length : Int) then (if 0 ≤ (wrap64 (a2 - 2)) then (if (wrap64 (a2 - 2)) < (l1.length : Int) then (if 0 ≤ (wrap64 (a2 - 3)) then (if (wrap64 (a2 - 3)) < (l1.length : Int) then (some (wrap64 ((wrap64 ((wrap64 (3 * (rd l1 (wrap64 (a2 - 1))))) - (wrap64 (3 * (rd l1 (wrap64 (a2 - 2))))))) + (rd l1 (wrap64 (a2 - 3)))))) else (none)) else (none)) else (none)) else (none)) else (none)) else (none)) else (if a0 = 4 then (if 0 ≤ (wrap64 (a2 - 1)) then (if (wrap64 (a2 - 1)) < (l1.length : Int) then (if 0 ≤ (wrap64 (a2 - 2)) then (if (wrap64 (a2 - 2)) < (l1.length : Int) then (if 0 ≤ (wrap64 (a2 - 3)) then (if (wrap64 (a2 - 3)) < (l1.length : Int) then (if 0 ≤ (wrap64 (a2 - 4)) then (if (wrap64 (a2 - 4)) < (l1.length : Int) then (some (wrap64 ((wrap64 ((wrap64 ((wrap64 (4 * (rd l1 (wrap64 (a2 - 1))))) - (wrap64 (6 * (rd l1 (wrap64 (a2 - 2))))))) + (wrap64 (4 * (rd l1 (wrap64 (a2 - 3))))))) - (rd l1 (wrap64 (a2 - 4)))))) else (none)) else (none)) else (none)) else (none)) else (none)) else (none)) else (none)) else (none)) else (some 0))))) = some r := h
  clear h
  by_cases c4 : a0 = 1
  · rw [if_pos c4] at H
    have c4b0 : (a0 == 1) = true := beq_iff_eq.mpr c4
    have c4b1 : (a0 != 1) = false := bne_eq_false_iff_eq.mpr c4
    clear c4
    obtain ⟨ji5, hji5⟩ : ∃ j_ : Int, (wrap64 (a2 - 1)) = j_ := ⟨_, rfl⟩
    replace H : (if 0 ≤ (ji5) then (if (ji5) < (l1.length : Int) then (some (rd l1 (ji5))) else (none)) else (none)) = some r := by first | (rw [hji5] at H; exact H) | (simp only [hji5] at H ⊢; exact H)
    have hji5w : (IntKind.i64.wrap (a2 - 1)) = ji5 := (i64_w _).trans hji5
    by_cases c6 : 0 ≤ (ji5)
    rotate_left
    · rw [if_neg c6] at H
      exact absurd H (by simp)
    rw [if_pos c6] at H
    have c6b0 : decide (0 ≤ (ji5)) = true := decide_eq_true c6
    clear c6
    by_cases c7 : (ji5) < (l1.length : Int)
    rotate_left
    · rw [if_neg c7] at H
      exact absurd H (by simp)
    rw [if_pos c7] at H
    have c7b0 : decide ((ji5) < (l1.length : Int)) = true := decide_eq_true c7
    clear c7
    obtain rfl := Option.some.inj H
    have p102 : 0 ≤ ((ji5) : Int) := of_decide_eq_true (by first | (with_reducible assumption) | assumption)
    have q102 : (ji5) < (l1.length : Int) := of_decide_eq_true (by first | (with_reducible assumption) | assumption)
    obtain ⟨ad102, e102, hx102_0⟩ := Kd.at_int HR1.out (ji5) p102 q102
    cases e102
    replace p102 := eq_true p102
    replace q102 := eq_true q102
    go_enter Try.func205, Try.ntmps205
    go_wp2
    repeat (go_quiet (fail); try go_wp2)
    go_ret
    exact ⟨by first | rfl | (simp; done) | (simp only [← hji5] <;> (first | rfl | simp)) | (simp [*]; done), by repeat (first | exact Drawn0.refl _ | apply Drawn0.step)⟩
  rw [if_neg c4] at H
  have c4b0 : (a0 == 1) = false := beq_eq_false_iff_ne.mpr c4
  have c4b1 : (a0 != 1) = true := bne_iff_ne.mpr c4
  by_cases c8 : a0 = 2
  · rw [if_pos c8] at H
    have c8b0 : (a0 == 2) = true := beq_iff_eq.mpr c8
    have c8b1 : (a0 != 2) = false := bne_eq_false_iff_eq.mpr c8
    clear c8
    obtain ⟨ji9, hji9⟩ : ∃ j_ : Int, (wrap64 (a2 - 1)) = j_ := ⟨_, rfl⟩
    replace H : (if 0 ≤ (ji9) then (if (ji9) < (l1.length : Int) then (if 0 ≤ (wrap64 (a2 - 2)) then (if (wrap64 (a2 - 2)) < (l1.length : Int) then (some (wrap64 ((wrap64 (2 * (rd l1 (ji9)))) - (rd l1 (wrap64 (a2 - 2)))))) else (none)) else (none)) else (none)) else (none)) = some r := by first | (rw [hji9] at H; exact H) | (simp only [hji9] at H ⊢; exact H)
    have hji9w : (IntKind.i64.wrap (a2 - 1)) = ji9 := (i64_w _).trans hji9
    by_cases c10 : 0 ≤ (ji9)
    rotate_left
    · rw [if_neg c10] at H
      exact absurd H (by simp)
    rw [if_pos c10] at H
    have c10b0 : decide (0 ≤ (ji9)) = true := decide_eq_true c10
    clear c10
    by_cases c11 : (ji9) < (l1.length : Int)
    rotate_left
    · rw [if_neg c11] at H
      exact absurd H (by simp)
    rw [if_pos c11] at H
    have c11b0 : decide ((ji9) < (l1.length : Int)) = true := decide_eq_true c11
    clear c11
    obtain ⟨ji12, hji12⟩ : ∃ j_ : Int, (wrap64 (a2 - 2)) = j_ := ⟨_, rfl⟩
    replace H : (if 0 ≤ (ji12) then (if (ji12) < (l1.length : Int) then (some (wrap64 ((wrap64 (2 * (rd l1 (ji9)))) - (rd l1 (ji12))))) else (none)) else (none)) = some r := by first | (rw [hji12] at H; exact H) | (simp only [hji12] at H ⊢; exact H)
    have hji12w : (IntKind.i64.wrap (a2 - 2)) = ji12 := (i64_w _).trans hji12
    by_cases c13 : 0 ≤ (ji12)
    rotate_left
    · rw [if_neg c13] at H
      exact absurd H (by simp)
    rw [if_pos c13] at H
    have c13b0 : decide (0 ≤ (ji12)) = true := decide_eq_true c13
    clear c13
    by_cases c14 : (ji12) < (l1.length : Int)
    rotate_left
    · rw [if_neg c14] at H
      exact absurd H (by simp)
    rw [if_pos c14] at H
    have c14b0 : decide ((ji12) < (l1.length : Int)) = true := decide_eq_true c14
    clear c14
    obtain rfl := Option.some.inj H
    have p103 : 0 ≤ ((ji9) : Int) := of_decide_eq_true (by first | (with_reducible assumption) | assumption)
    have q103 : (ji9) < (l1.length : Int) := of_decide_eq_true (by first | (with_reducible assumption) | assumption)
    obtain ⟨ad103, e103, hx103_0⟩ := Kd.at_int HR1.out (ji9) p103 q103
    cases e103
    replace p103 := eq_true p103
    replace q103 := eq_true q103
    have p104 : 0 ≤ ((ji12) : Int) := of_decide_eq_true (by first | (with_reducible assumption) | assumption)
    have q104 : (ji12) < (l1.length : Int) := of_decide_eq_true (by first | (with_reducible assumption) | assumption)
    obtain ⟨ad104, e104, hx104_0⟩ := Kd.at_int HR1.out (ji12) p104 q104
    obtain rfl : ad103 = ad104 := (by injection e104)
    replace p104 := eq_true p104
    replace q104 := eq_true q104
    go_enter Try.func205, Try.ntmps205
    go_wp2
    repeat (go_quiet (fail); try go_wp2)
    go_ret
    exact ⟨by first | rfl | (simp; done) | (simp only [← hji9, ← hji12] <;> (first | rfl | simp)) | (simp [*]; done), by repeat (first | exact Drawn0.refl _ | apply Drawn0.step)⟩
  rw [if_neg c8] at H
  have c8b0 : (a0 == 2) = false := beq_eq_false_iff_ne.mpr c8
  have c8b1 : (a0 != 2) = true := bne_iff_ne.mpr c8
  by_cases c15 : a0 = 3
  · rw [if_pos c15] at H
    have c15b0 : (a0 == 3) = true := beq_iff_eq.mpr c15
    have c15b1 : (a0 != 3) = false := bne_eq_false_iff_eq.mpr c15
    clear c15
    obtain ⟨ji16, hji16⟩ : ∃ j_ : Int, (wrap64 (a2 - 1)) = j_ := ⟨_, rfl⟩
    replace H : (if 0 ≤ (ji16) then (if (ji16) < (l1.length : Int) then (if 0 ≤ (wrap64 (a2 - 2)) then (if (wrap64 (a2 - 2)) < (l1.length : Int) then (if 0 ≤ (wrap64 (a2 - 3)) then (if (wrap64 (a2 - 3)) < (l1.length : Int) then (some (wrap64 ((wrap64 ((wrap64 (3 * (rd l1 (ji16)))) - (wrap64 (3 * (rd l1 (wrap64 (a2 - 2))))))) + (rd l1 (wrap64 (a2 - 3)))))) else (none)) else (none)) else (none)) else (none)) else (none)) else (none)) = some r := by first | (rw [hji16] at H; exact H) | (simp only [hji16] at H ⊢; exact H)
    have hji16w : (IntKind.i64.wrap (a2 - 1)) = ji16 := (i64_w _).trans hji16
    by_cases c17 : 0 ≤ (ji16)
    rotate_left
    · rw [if_neg c17] at H
      exact absurd H (by simp)
    rw [if_pos c17] at H
    have c17b0 : decide (0 ≤ (ji16)) = true := decide_eq_true c17
    clear c17
    by_cases c18 : (ji16) < (l1.length : Int)
    rotate_left
    · rw [if_neg c18] at H
      exact absurd H (by simp)
    rw [if_pos c18] at H
    have c18b0 : decide ((ji16) < (l1.length : Int)) = true := decide_eq_true c18
    clear c18
    obtain ⟨ji19, hji19⟩ : ∃ j_ : Int, (wrap64 (a2 - 2)) = j_ := ⟨_, rfl⟩
    replace H : (if 0 ≤ (ji19) then (if (ji19) < (l1.length : Int) then (if 0 ≤ (wrap64 (a2 - 3)) then (if (wrap64 (a2 - 3)) < (l1.length : Int) then (some (wrap64 ((wrap64 ((wrap64 (3 * (rd l1 (ji16)))) - (wrap64 (3 * (rd l1 (ji19)))))) + (rd l1 (wrap64 (a2 - 3)))))) else (none)) else (none)) else (none)) else (none)) = some r := by first | (rw [hji19] at H; exact H) | (simp only [hji19] at H ⊢; exact H)
    have hji19w : (IntKind.i64.wrap (a2 - 2)) = ji19 := (i64_w _).trans hji19
    by_cases c20 : 0 ≤ (ji19)
    rotate_left
    · rw [if_neg c20] at H
      exact absurd H (by simp)
    rw [if_pos c20] at H
    have c20b0 : decide (0 ≤ (ji19)) = true := decide_eq_true c20
    clear c20
    by_cases c21 : (ji19) < (l1.length : Int)
    rotate_left
    · rw [if_neg c21] at H
      exact absurd H (by simp)
    rw [if_pos c21] at H
    have c21b0 : decide ((ji19) < (l1.length : Int)) = true := decide_eq_true c21
    clear c21
    obtain ⟨ji22, hji22⟩ : ∃ j_ : Int, (wrap64 (a2 - 3)) = j_ := ⟨_, rfl⟩
    replace H : (if 0 ≤ (ji22) then (if (ji22) < (l1.length : Int) then (some (wrap64 ((wrap64 ((wrap64 (3 * (rd l1 (ji16)))) - (wrap64 (3 * (rd l1 (ji19)))))) + (rd l1 (ji22))))) else (none)) else (none)) = some r := by first | (rw [hji22] at H; exact H) | (simp only [hji22] at H ⊢; exact H)
    have hji22w : (IntKind.i64.wrap (a2 - 3)) = ji22 := (i64_w _).trans hji22
    by_cases c23 : 0 ≤ (ji22)
    rotate_left
    · rw [if_neg c23] at H
      exact absurd H (by simp)
    rw [if_pos c23] at H
    have c23b0 : decide (0 ≤ (ji22)) = true := decide_eq_true c23
    clear c23
    by_cases c24 : (ji22) < (l1.length : Int)
    rotate_left
    · rw [if_neg c24] at H
      exact absurd H (by simp)
    rw [if_pos c24] at H
    have c24b0 : decide ((ji22) < (l1.length : Int)) = true := decide_eq_true c24
    clear c24
    obtain rfl := Option.some.inj H
    have p105 : 0 ≤ ((ji16) : Int) := of_decide_eq_true (by first | (with_reducible assumption) | assumption)
    have q105 : (ji16) < (l1.length : Int) := of_decide_eq_true (by first | (with_reducible assumption) | assumption)
    obtain ⟨ad105, e105, hx105_0⟩ := Kd.at_int HR1.out (ji16) p105 q105
    cases e105
    replace p105 := eq_true p105
    replace q105 := eq_true q105
    have p106 : 0 ≤ ((ji19) : Int) := of_decide_eq_true (by first | (with_reducible assumption) | assumption)
    have q106 : (ji19) < (l1.length : Int) := of_decide_eq_true (by first | (with_reducible assumption) | assumption)
    obtain ⟨ad106, e106, hx106_0⟩ := Kd.at_int HR1.out (ji19) p106 q106
    obtain rfl : ad105 = ad106 := (by injection e106)
    replace p106 := eq_true p106
    replace q106 := eq_true q106
    have p107 : 0 ≤ ((ji22) : Int) := of_decide_eq_true (by first | (with_reducible assumption) | assumption)
    have q107 : (ji22) < (l1.length : Int) := of_decide_eq_true (by first | (with_reducible assumption) | assumption)
    obtain ⟨ad107, e107, hx107_0⟩ := Kd.at_int HR1.out (ji22) p107 q107
    obtain rfl : ad105 = ad107 := (by injection e107)
    replace p107 := eq_true p107
    replace q107 := eq_true q107
    go_enter Try.func205, Try.ntmps205
    go_wp2
    repeat (go_quiet (fail); try go_wp2)
    go_ret
    exact ⟨by first | rfl | (simp; done) | (simp only [← hji16, ← hji19, ← hji22] <;> (first | rfl | simp)) | (simp [*]; done), by repeat (first | exact Drawn0.refl _ | apply Drawn0.step)⟩
  rw [if_neg c15] at H
  have c15b0 : (a0 == 3) = false := beq_eq_false_iff_ne.mpr c15
  have c15b1 : (a0 != 3) = true := bne_iff_ne.mpr c15
  by_cases c25 : a0 = 4
  rotate_left
  · rw [if_neg c25] at H
    have c25b0 : (a0 == 4) = false := beq_eq_false_iff_ne.mpr c25
    have c25b1 : (a0 != 4) = true := bne_iff_ne.mpr c25
    obtain rfl := Option.some.inj H
    go_enter Try.func205, Try.ntmps205
    go_wp2
    repeat (go_quiet (fail); try go_wp2)
    go_ret
    exact ⟨by first | rfl | (simp; done) | (simp [*]; done), by repeat (first | exact Drawn0.refl _ | apply Drawn0.step)⟩
  rw [if_pos c25] at H
  have c25b0 : (a0 == 4) = true := beq_iff_eq.mpr c25
  have c25b1 : (a0 != 4) = false := bne_eq_false_iff_eq.mpr c25
  clear c25
  obtain ⟨ji26, hji26⟩ : ∃ j_ : Int, (wrap64 (a2 - 1)) = j_ := ⟨_, rfl⟩
  replace H : (if 0 ≤ (ji26) then (if (ji26) < (l1.length : Int) then (if 0 ≤ (wrap64 (a2 - 2)) then (if (wrap64 (a2 - 2)) < (l1.length : Int) then (if 0 ≤ (wrap64 (a2 - 3)) then (if (wrap64 (a2 - 3)) < (l1.length : Int) then (if 0 ≤ (wrap64 (a2 - 4)) then (if (wrap64 (a2 - 4)) < (l1.length : Int) then (some (wrap64 ((wrap64 ((wrap64 ((wrap64 (4 * (rd l1 (ji26)))) - (wrap64 (6 * (rd l1 (wrap64 (a2 - 2))))))) + (wrap64 (4 * (rd l1 (wrap64 (a2 - 3))))))) - (rd l1 (wrap64 (a2 - 4)))))) else (none)) else (none)) else (none)) else (none)) else (none)) else (none)) else (none)) else (none)) = some r := by first | (rw [hji26] at H; exact H) | (simp only [hji26] at H ⊢; exact H)
  have hji26w : (IntKind.i64.wrap (a2 - 1)) = ji26 := (i64_w _).trans hji26
  by_cases c27 : 0 ≤ (ji26)
  rotate_left
  · rw [if_neg c27] at H
    exact absurd H (by simp)
  rw [if_pos c27] at H
  have c27b0 : decide (0 ≤ (ji26)) = true := decide_eq_true c27
  clear c27
  by_cases c28 : (ji26) < (l1.length : Int)
  rotate_left
  · rw [if_neg c28] at H
    exact absurd H (by simp)
  rw [if_pos c28] at H
  have c28b0 : decide ((ji26) < (l1.length : Int)) = true := decide_eq_true c28
  clear c28
  obtain ⟨ji29, hji29⟩ : ∃ j_ : Int, (wrap64 (a2 - 2)) = j_ := ⟨_, rfl⟩
  replace H : (if 0 ≤ (ji29) then (if (ji29) < (l1.length : Int) then (if 0 ≤ (wrap64 (a2 - 3)) then (if (wrap64 (a2 - 3)) < (l1.length : Int) then (if 0 ≤ (wrap64 (a2 - 4)) then (if (wrap64 (a2 - 4)) < (l1.length : Int) then (some (wrap64 ((wrap64 ((wrap64 ((wrap64 (4 * (rd l1 (ji26)))) - (wrap64 (6 * (rd l1 (ji29)))))) + (wrap64 (4 * (rd l1 (wrap64 (a2 - 3))))))) - (rd l1 (wrap64 (a2 - 4)))))) else (none)) else (none)) else (none)) else (none)) else (none)) else (none)) = some r := by first | (rw [hji29] at H; exact H) | (simp only [hji29] at H ⊢; exact H)
  have hji29w : (IntKind.i64.wrap (a2 - 2)) = ji29 := (i64_w _).trans hji29
  by_cases c30 : 0 ≤ (ji29)
  rotate_left
  · rw [if_neg c30] at H
    exact absurd H (by simp)
  rw [if_pos c30] at H
  have c30b0 : decide (0 ≤ (ji29)) = true := decide_eq_true c30
  clear c30
  by_cases c31 : (ji29) < (l1.length : Int)
  rotate_left
  · rw [if_neg c31] at H
    exact absurd H (by simp)
  rw [if_pos c31] at H
  have c31b0 : decide ((ji29) < (l1.length : Int)) = true := decide_eq_true c31
  clear c31
  obtain ⟨ji32, hji32⟩ : ∃ j_ : Int, (wrap64 (a2 - 3)) = j_ := ⟨_, rfl⟩
  replace H : (if 0 ≤ (ji32) then (if (ji32) < (l1.length : Int) then (if 0 ≤ (wrap64 (a2 - 4)) then (if (wrap64 (a2 - 4)) < (l1.length : Int) then (some (wrap64 ((wrap64 ((wrap64 ((wrap64 (4 * (rd l1 (ji26)))) - (wrap64 (6 * (rd l1 (ji29)))))) + (wrap64 (4 * (rd l1 (ji32)))))) - (rd l1 (wrap64 (a2 - 4)))))) else (none)) else (none)) else (none)) else (none)) = some r := by first | (rw [hji32] at H; exact H) | (simp only [hji32] at H ⊢; exact H)
  have hji32w : (IntKind.i64.wrap (a2 - 3)) = ji32 := (i64_w _).trans hji32
  by_cases c33 : 0 ≤ (ji32)
  rotate_left
  · rw [if_neg c33] at H
    exact absurd H (by simp)
  rw [if_pos c33] at H
  have c33b0 : decide (0 ≤ (ji32)) = true := decide_eq_true c33
  clear c33
  by_cases c34 : (ji32) < (l1.length : Int)
  rotate_left
  · rw [if_neg c34] at H
    exact absurd H (by simp)
  rw [if_pos c34] at H
  have c34b0 : decide ((ji32) < (l1.length : Int)) = true := decide_eq_true c34
  clear c34
  obtain ⟨ji35, hji35⟩ : ∃ j_ : Int, (wrap64 (a2 - 4)) = j_ := ⟨_, rfl⟩
  replace H : (if 0 ≤ (ji35) then (if (ji35) < (l1.length : Int) then (some (wrap64 ((wrap64 ((wrap64 ((wrap64 (4 * (rd l1 (ji26)))) - (wrap64 (6 * (rd l1 (ji29)))))) + (wrap64 (4 * (rd l1 (ji32)))))) - (rd l1 (ji35))))) else (none)) else (none)) = some r := by first | (rw [hji35] at H; exact H) | (simp only [hji35] at H ⊢; exact H)
  have hji35w : (IntKind.i64.wrap (a2 - 4)) = ji35 := (i64_w _).trans hji35
  by_cases c36 : 0 ≤ (ji35)
  rotate_left
  · rw [if_neg c36] at H
    exact absurd H (by simp)
  rw [if_pos c36] at H
  have c36b0 : decide (0 ≤ (ji35)) = true := decide_eq_true c36
  clear c36
  by_cases c37 : (ji35) < (l1.length : Int)
  rotate_left
  · rw [if_neg c37] at H
    exact absurd H (by simp)
  rw [if_pos c37] at H
  have c37b0 : decide ((ji35) < (l1.length : Int)) = true := decide_eq_true c37
  clear c37
  obtain rfl := Option.some.inj H
  have p108 : 0 ≤ ((ji26) : Int) := of_decide_eq_true (by first | (with_reducible assumption) | assumption)
  have q108 : (ji26) < (l1.length : Int) := of_decide_eq_true (by first | (with_reducible assumption) | assumption)
  obtain ⟨ad108, e108, hx108_0⟩ := Kd.at_int HR1.out (ji26) p108 q108
  cases e108
  replace p108 := eq_true p108
  replace q108 := eq_true q108
  have p109 : 0 ≤ ((ji29) : Int) := of_decide_eq_true (by first | (with_reducible assumption) | assumption)
  have q109 : (ji29) < (l1.length : Int) := of_decide_eq_true (by first | (with_reducible assumption) | assumption)
  obtain ⟨ad109, e109, hx109_0⟩ := Kd.at_int HR1.out (ji29) p109 q109
  obtain rfl : ad108 = ad109 := (by injection e109)
  replace p109 := eq_true p109
  replace q109 := eq_true q109
  have p110 : 0 ≤ ((ji32) : Int) := of_decide_eq_true (by first | (with_reducible assumption) | assumption)
  have q110 : (ji32) < (l1.length : Int) := of_decide_eq_true (by first | (with_reducible assumption) | assumption)
  obtain ⟨ad110, e110, hx110_0⟩ := Kd.at_int HR1.out (ji32) p110 q110
  obtain rfl : ad108 = ad110 := (by injection e110)
  replace p110 := eq_true p110
  replace q110 := eq_true q110
  have p111 : 0 ≤ ((ji35) : Int) := of_decide_eq_true (by first | (with_reducible assumption) | assumption)
  have q111 : (ji35) < (l1.length : Int) := of_decide_eq_true (by first | (with_reducible assumption) | assumption)
  obtain ⟨ad111, e111, hx111_0⟩ := Kd.at_int HR1.out (ji35) p111 q111
  obtain rfl : ad108 = ad111 := (by injection e111)
  replace p111 := eq_true p111
  replace q111 := eq_true q111
  go_enter Try.func205, Try.ntmps205
  go_wp2
  repeat (go_quiet (fail); try go_wp2)
  go_ret
  exact ⟨by first | rfl | (simp; done) | (simp only [← hji26, ← hji29, ← hji32, ← hji35] <;> (first | rfl | simp)) | (simp [*]; done), by repeat (first | exact Drawn0.refl _ | apply Drawn0.step)⟩

/-! ### spec_l10Residue: function 158 -/
def spec_l10Residue.l0 : Nat → Int → List Int → List Int → Int → Int → Option (List Int)
  | 0, _, _, _, _, _ => none
  | k + 1, x0, x1, x5, x11, x12 => if x12 < x11 then (if 0 ≤ x12 then (if x12 < (x1.length : Int) then (if x12 < (x5.length : Int) then ((some (x5.set (x12 : Int).toNat (rd x1 x12) : List Int)).bind fun y116 => (if x12 ≥ x0 then ((spec_l10Guess.f x0 x1 x12).bind fun t118 => (spec_l10Residue.l0 k x0 x1 (y116.set (x12 : Int).toNat (wrap64 ((rd y116 x12) - t118))) x11 (wrap64 (x12 + 1)))) else (spec_l10Residue.l0 k x0 x1 y116 x11 (wrap64 (x12 + 1))))) else (none)) else (none)) else (none)) else (some x5)
def spec_l10Residue.f (k : Nat) (a0 : Int) (l1 : List Int) : Option (List Int) := if 0 ≤ (l1.length : Int) then (if ((l1.length : Int) : Int).toNat ≤ 35184372088832 then (spec_l10Residue.l0 k a0 l1 (List.replicate ((l1.length : Int) : Int).toNat 0) (l1.length : Int) 0) else (none)) else (none)
theorem spec_l10Residue.mono_l : ∀ k, (∀ y0 y1 y2 y3 y4, LeO (spec_l10Residue.l0 k y0 y1 y2 y3 y4) (spec_l10Residue.l0 (k + 1) y0 y1 y2 y3 y4))
  | 0 => fun _ _ _ _ _ r h => by simp [spec_l10Residue.l0] at h
  | k + 1 => by
    have ih0 := spec_l10Residue.mono_l k
    · intro y0 y1 y2 y3 y4
      unfold spec_l10Residue.l0
      repeat' first
      | (with_reducible exact ih0 _ _ _ _ _)
      | (with_reducible exact LeO.refl _)
      | (with_reducible exact LeO.none _)
      | (with_reducible refine LeO.ite ?_ ?_)
      | (with_reducible refine LeO.bind ?_ (fun _ => ?_))
      | exact ih0 _ _ _ _ _
      | exact LeO.none _
      | refine LeO.ite ?_ ?_
      | refine LeO.bind ?_ (fun _ => ?_)
theorem spec_l10Residue.mono : ∀ a0 a1 k, LeO (spec_l10Residue.f k a0 a1) (spec_l10Residue.f (k + 1) a0 a1) := by
  intro a0 a1 k
  have ih0 := spec_l10Residue.mono_l k
  unfold spec_l10Residue.f
  repeat' first
      | (with_reducible exact ih0 _ _ _ _ _)
      | (with_reducible exact LeO.refl _)
      | (with_reducible exact LeO.none _)
      | (with_reducible refine LeO.ite ?_ ?_)
      | (with_reducible refine LeO.bind ?_ (fun _ => ?_))
      | exact ih0 _ _ _ _ _
      | exact LeO.none _
      | refine LeO.ite ?_ ?_
      | refine LeO.bind ?_ (fun _ => ?_)
def spec_l10Residue.T7 : Bool × List (List Nat × List Nat) := (true, [([], []), ([], []), ([0, 1], [0, 1]), ([2], [2]), ([], []), ([], []), ([], []), ([4, 5, 6], [4, 5, 6]), ([3, 7], [3, 7]), ([0, 1, 0, 1, 2, 3, 4, 5, 6, 7, 8], [0, 1]), ([9, 8, 7, 0, 1, 2, 3, 4, 5, 6, 7, 8], [8, 9])])
def spec_l10Residue.B7 : List Nat := [0, 0, 3, 7, 0, 0, 0, 112, 255, 511, 1023]
theorem spec_l10Residue.tab7 : rtab .any (opsOf Try.f158 7) = spec_l10Residue.T7 := by kernel_rfl
theorem spec_l10Residue.bits7 : waitsOk spec_l10Residue.T7.2 spec_l10Residue.B7 = true := by kernel_rfl
set_option maxHeartbeats 8000000 in
set_option maxRecDepth 100000 in
theorem spec_l10Residue.calls (k : Nat) (a0 : Int) (A1 : Option Addr) (c1 : Nat) (l1 : List Int) (r : List Int) (w : World) (hr1 : Kd.C (Kd.int .i64) w A1 l1.length l1) (hc1 : l1.length ≤ c1) (h : spec_l10Residue.f k a0 l1 = some r) :
    Calls Try.prog 158 #[.int .i64 a0, .slice A1 l1.length c1] w fun e w' => ∃ v0_ : Value, e = .returned (v0_) ∧ Kd.R (Kd.int .i64) 3 w' w.heap.size (fun _ => True) v0_ r ∧ Below w.heap.size w w' := by
  have HR1 := Aside0.mk hr1
  have HC1 := Aside0.mk hc1
  clear hr1 hc1
  have HB := Aside0.mk (Below.refl w.heap.size w)
  have H : (if 0 ≤ (l1.length : Int) then (if ((l1.length : Int) : Int).toNat ≤ 35184372088832 then (spec_l10Residue.l0 k a0 l1 (List.replicate ((l1.length : Int) : Int).toNat 0) (l1.length : Int) 0) else (none)) else (none)) = some r := h
  clear h
  by_cases c3 : 0 ≤ (l1.length : Int)
  rotate_left
  · rw [if_neg c3] at H
    exact absurd H (by simp)
  rw [if_pos c3] at H
  have c3b0 := eq_true c3
  have c3b1 : decide (0 ≤ (l1.length : Int)) = true := decide_eq_true c3
  clear c3
  by_cases c4 : ((l1.length : Int) : Int).toNat ≤ 35184372088832
  rotate_left
  · rw [if_neg c4] at H
    exact absurd H (by simp)
  rw [if_pos c4] at H
  have c4b0 := eq_true c4
  have c4b1 : decide (((l1.length : Int) : Int).toNat ≤ 35184372088832) = true := decide_eq_true c4
  clear c4
  obtain ⟨y112, hy112⟩ : ∃ y_ : List Int, y_ = (List.replicate ((l1.length : Int) : Int).toNat 0) := ⟨_, rfl⟩
  replace H : (spec_l10Residue.l0 k a0 l1 y112 (l1.length : Int) 0) = some r := by first | (rw [hy112]; with_reducible exact H) | (have H2_ := (Option.bind_some _ _).symm.trans H; rw [hy112]; with_reducible exact H2_) | (have H2_ := (Option.bind_some _ _).symm.trans H; with_reducible exact H2_) | with_reducible exact H | (rw [hy112]; exact H) | exact H
  have Ny112 := Aside0.mk hy112
  clear hy112
  have H' := Aside0.mk H
  clear H
  go_enter Try.func158, Try.ntmps158
  go_wp2_with (first | ((with_reducible refine gate_dst (N := 9) rfl ?_); refine Kd.R_make (Kd.int .i64) _ 3 rfl (N := 9) rfl 22 _ _ rfl (l1.length : Int) rfl rfl Try.underlying22 (.int .i64 0) 8 info3 rfl (by decide) (by omega) 0 (ok := fun _ => True) (okp := fun _ => True) rfl (fun _ hk => hk) trivial (of_decide_eq_true (by first | (with_reducible assumption) | assumption)) (Nat.le_trans (Nat.mul_le_mul_right _ (of_decide_eq_true (by first | (with_reducible assumption) | assumption) : (l1.length : Int).toNat ≤ 35184372088832)) (by omega)) (Below.refl _ _) (Nat.le_refl _) ?_; intro v113 w5 ho6 hb hg_ hnew_; clear hg_ hnew_; (first | rw [← Ny112.out] at ho6 | (simp only [Int.reduceToNat] at ho6; rw [← Ny112.out] at ho6)); have n0_ := Aside0.mk (Kd.R_lower ho6 (below_size (by repeat (first | (with_reducible first | exact HB.out | apply below_alloc | apply pw_below_drewN | apply below_drew1) | exact HB.out)))); have n1_ := Aside0.mk (below_step (by repeat (first | (with_reducible first | exact HB.out | apply below_alloc | apply pw_below_drewN | apply below_drew1) | exact HB.out)) hb); clear HB; have HO114 := n0_; have HB := n1_; clear n0_ n1_; clear hb ho6))
  go_loopg [12] k (fun kq v12 w' => ∃ (x5_1 : List Int) (x12_1 : Int), v12 = .int .i64 x12_1 ∧ Aside0 (spec_l10Residue.l0 kq a0 l1 x5_1 (l1.length : Int) x12_1 = some r) ∧ Aside0 (kq ≤ k) ∧ Aside0 (Kd.R (Kd.int .i64) 3 w' w.heap.size (fun _ => True) v113 x5_1) ∧ Aside0 (Below w.heap.size w w'))
  case atStart => exact ⟨(y112), (0), (by first | rfl | (simp; done) | (simp [*]; done)), H', ⟨Nat.le_refl _⟩, ⟨by (with_reducible repeat (first | apply Kd.R_alloc | apply Kd.R_drewN | apply Kd.R_drew)); exact HO114.out⟩, ⟨by repeat (first | (with_reducible first | exact HB.out | apply below_alloc | apply pw_below_drewN | apply below_drew1) | exact HB.out)⟩⟩
  case round =>
    clear H'
    try clear c1
    try clear p2
    try clear c3
    try clear c3b0
    try clear c3b1
    try clear c4
    try clear c4b0
    try clear c4b1
    obtain ⟨x5_1, x12_1, rfl, HA, HK1, HO_5, HB⟩ := hrel
    cases gk with
    | zero => exact absurd HA.out (by simp [spec_l10Residue.l0])
    | succ k1 =>
      have H := HA.out
      clear HA
      simp only [spec_l10Residue.l0] at H
      by_cases c7 : x12_1 < (l1.length : Int)
      rotate_left
      · rw [if_neg c7] at H
        have c7b0 : decide (x12_1 < (l1.length : Int)) = false := decide_eq_false c7
        clear c7
        obtain rfl := Option.some.inj H
        go_wp2
        go_ret
        exact ⟨_, by first | rfl | (simp [errW_none, errW_some] <;> rfl) | (simp [*, errW_none, errW_some] <;> rfl), by (with_reducible repeat (first | apply Kd.R_alloc | apply Kd.R_drewN | apply Kd.R_drew)); exact HO_5.out, by repeat (first | (with_reducible first | exact HB.out | apply below_alloc | apply pw_below_drewN | apply below_drew1) | exact HB.out)⟩
      rw [if_pos c7] at H
      have c7b0 : decide (x12_1 < (l1.length : Int)) = true := decide_eq_true c7
      clear c7
      by_cases c8 : 0 ≤ x12_1
      rotate_left
      · rw [if_neg c8] at H
        exact absurd H (by simp)
      rw [if_pos c8] at H
      have c8b0 : decide (0 ≤ x12_1) = true := decide_eq_true c8
      clear c8
      by_cases c9 : x12_1 < (l1.length : Int)
      rotate_left
      · rw [if_neg c9] at H
        exact absurd H (by simp)
      rw [if_pos c9] at H
      have c9b0 : decide (x12_1 < (l1.length : Int)) = true := decide_eq_true c9
      clear c9
      by_cases c10 : x12_1 < (x5_1.length : Int)
      rotate_left
      · rw [if_neg c10] at H
        exact absurd H (by simp)
      rw [if_pos c10] at H
      have c10b0 : decide (x12_1 < (x5_1.length : Int)) = true := decide_eq_true c10
      clear c10
      obtain ⟨y116, hy116⟩ : ∃ y_ : List Int, y_ = (x5_1.set (x12_1 : Int).toNat (rd l1 x12_1)) := ⟨_, rfl⟩
      replace H : (if x12_1 ≥ a0 then ((spec_l10Guess.f a0 l1 x12_1).bind fun t118 => (spec_l10Residue.l0 k1 a0 l1 (y116.set (x12_1 : Int).toNat (wrap64 ((rd y116 x12_1) - t118))) (l1.length : Int) (wrap64 (x12_1 + 1)))) else (spec_l10Residue.l0 k1 a0 l1 y116 (l1.length : Int) (wrap64 (x12_1 + 1)))) = some r := by first | (rw [hy116]; with_reducible exact H) | (have H2_ := (Option.bind_some _ _).symm.trans H; rw [hy116]; with_reducible exact H2_) | (have H2_ := (Option.bind_some _ _).symm.trans H; with_reducible exact H2_) | with_reducible exact H | (rw [hy116]; exact H) | exact H
      have Ny116 := Aside0.mk hy116
      clear hy116
      by_cases c12 : x12_1 ≥ a0
      rotate_left
      · rw [if_neg c12] at H
        have c12b0 : decide (a0 ≤ x12_1) = false := decide_eq_false c12
        clear c12
        have H' := Aside0.mk H
        clear H
        have p115 : 0 ≤ (x12_1 : Int) := of_decide_eq_true (by first | (with_reducible assumption) | assumption)
        have q115 : x12_1 < (l1.length : Int) := of_decide_eq_true (by first | (with_reducible assumption) | assumption)
        obtain ⟨ad115, e115, hx115_0⟩ := Kd.at_int HR1.out x12_1 p115 q115
        cases e115
        replace hx115_0 := (HB.out.cell (World.block_lt_of_cell? w _ hx115_0)).trans hx115_0
        replace p115 := eq_true p115
        replace q115 := eq_true q115
        have p11 : 0 ≤ (x12_1 : Int) := of_decide_eq_true (by first | (with_reducible assumption) | assumption)
        have q11 : (x12_1 : Int) < ((x5_1.length : Int) : Int) := of_decide_eq_true (by first | (with_reducible assumption) | assumption)
        obtain ⟨go11, co11, eo11, gb11, gl11, cl11, HG11⟩ := Kd.R_form HO_5.out (by omega)
        (first | cases eo11 | (injection eo11 with ea_ en_ ec_; (first | subst ea_ | (injection ea_ with ea_; subst ea_)); subst ec_; clear en_))
        have GB11 := Aside0.mk gb11
        have GG11 := Aside0.mk HG11
        clear gb11 gl11 HG11
        obtain ⟨hx11_0, hf11_0⟩ := Kd.R_celln 0 HO_5.out (x12_1 : Int) p11 q11
        replace p11 := eq_true p11
        replace q11 := eq_true q11
        have HP19 := Kd.R_putg HO_5.out (x12_1 : Int) (rd l1 x12_1)
        go_wp2_with (first | ((with_reducible refine gate_store (t := 3) (p := 21) rfl ?_); refine store_event (t := 3) (p := 21) (v := ?vo_w20) (w1 := (wr.setCell ⟨go11, (x12_1 : Int).toNat, none⟩ (.int .i64 (rd l1 x12_1)))) ?hg ?ho ?hn ?hr ?_; (case ho => rfl); (case hg => rfl); (case hn => rfl); (case hr => first | (go_simp; done) | (go_simp; rfl)); intro w20 hw; have hg : wr.grownBy w20 (some go11) := (by rw [hw]; exact HP19.2); have hp_ : Kd.R (Kd.int .i64) 3 w20 w.heap.size (fun _ => True) (.slice (some ⟨go11, 0, none⟩) x5_1.length co11) y116 := (by rw [hw, Ny116.out]; exact HP19.1); clear HP19; have n0_ := Aside0.mk (hp_); have n1_ := Aside0.mk ((by rw [hw]; exact below_set (HB.out) GB11.out : Below w.heap.size w w20)); clear HO_5; clear HB; have HO_5 := n0_; have HB := n1_; clear n0_ n1_; clear hg hw hp_))
        go_roundg k1
        case measure => have := HK1.out; omega
        case rel => exact ⟨(y116), (wrap64 (x12_1 + 1)), (by first | rfl | (simp; done) | (simp [*]; done)), H', ⟨by have := HK1.out; omega⟩, ⟨by (with_reducible repeat (first | apply Kd.R_alloc | apply Kd.R_drewN | apply Kd.R_drew)); exact HO_5.out⟩, ⟨by repeat (first | (with_reducible first | exact HB.out | apply below_alloc | apply pw_below_drewN | apply below_drew1) | exact HB.out)⟩⟩
      rw [if_pos c12] at H
      have c12b0 : decide (a0 ≤ x12_1) = true := decide_eq_true c12
      clear c12
      replace H := Option.bind_eq_some_iff.mp H
      obtain ⟨t118, A130, H⟩ := H
      replace H : (spec_l10Residue.l0 k1 a0 l1 (y116.set (x12_1 : Int).toNat (wrap64 ((rd y116 x12_1) - t118))) (l1.length : Int) (wrap64 (x12_1 + 1))) = some r := H
      have A13 := Aside0.mk A130
      clear A130
      obtain ⟨y119, hy119⟩ : ∃ y_ : List Int, y_ = (y116.set (x12_1 : Int).toNat (wrap64 ((rd y116 x12_1) - t118))) := ⟨_, rfl⟩
      replace H : (spec_l10Residue.l0 k1 a0 l1 y119 (l1.length : Int) (wrap64 (x12_1 + 1))) = some r := by first | (rw [hy119]; with_reducible exact H) | (have H2_ := (Option.bind_some _ _).symm.trans H; rw [hy119]; with_reducible exact H2_) | (have H2_ := (Option.bind_some _ _).symm.trans H; with_reducible exact H2_) | with_reducible exact H | (rw [hy119]; exact H) | exact H
      have Ny119 := Aside0.mk hy119
      clear hy119
      have H' := Aside0.mk H
      clear H
      have p115 : 0 ≤ (x12_1 : Int) := of_decide_eq_true (by first | (with_reducible assumption) | assumption)
      have q115 : x12_1 < (l1.length : Int) := of_decide_eq_true (by first | (with_reducible assumption) | assumption)
      obtain ⟨ad115, e115, hx115_0⟩ := Kd.at_int HR1.out x12_1 p115 q115
      cases e115
      replace hx115_0 := (HB.out.cell (World.block_lt_of_cell? w _ hx115_0)).trans hx115_0
      replace p115 := eq_true p115
      replace q115 := eq_true q115
      have p11 : 0 ≤ (x12_1 : Int) := of_decide_eq_true (by first | (with_reducible assumption) | assumption)
      have q11 : (x12_1 : Int) < ((x5_1.length : Int) : Int) := of_decide_eq_true (by first | (with_reducible assumption) | assumption)
      obtain ⟨go11, co11, eo11, gb11, gl11, cl11, HG11⟩ := Kd.R_form HO_5.out (by omega)
      (first | cases eo11 | (injection eo11 with ea_ en_ ec_; (first | subst ea_ | (injection ea_ with ea_; subst ea_)); subst ec_; clear en_))
      have GB11 := Aside0.mk gb11
      have GG11 := Aside0.mk HG11
      clear gb11 gl11 HG11
      obtain ⟨hx11_0, hf11_0⟩ := Kd.R_celln 0 HO_5.out (x12_1 : Int) p11 q11
      replace p11 := eq_true p11
      replace q11 := eq_true q11
      have HP15 := Kd.R_putg HO_5.out (x12_1 : Int) (rd l1 x12_1)
      try go_wp2_with (first | ((with_reducible refine gate_store (t := 3) (p := 21) rfl ?_); refine store_event (t := 3) (p := 21) (v := ?vo_w16) (w1 := (wr.setCell ⟨go11, (x12_1 : Int).toNat, none⟩ (.int .i64 (rd l1 x12_1)))) ?hg ?ho ?hn ?hr ?_; (case ho => rfl); (case hg => rfl); (case hn => rfl); (case hr => first | (go_simp; done) | (go_simp; rfl)); intro w16 hw; have hg : wr.grownBy w16 (some go11) := (by rw [hw]; exact HP15.2); have hp_ : Kd.R (Kd.int .i64) 3 w16 w.heap.size (fun _ => True) (.slice (some ⟨go11, 0, none⟩) x5_1.length co11) y116 := (by rw [hw, Ny116.out]; exact HP15.1); clear HP15; have n0_ := Aside0.mk (hp_); have n1_ := Aside0.mk ((by rw [hw]; exact below_set (HB.out) GB11.out : Below w.heap.size w w16)); clear HO_5; clear HB; have HO_5 := n0_; have HB := n1_; clear n0_ n1_; clear hg hw hp_))
      have n0_ := Aside0.mk (Kd.R_drew HO_5.out)
      have n1_ := Aside0.mk (below_drew1 HB.out)
      clear HO_5
      clear HB
      have HO_5 := n0_
      have HB := n1_
      clear n0_ n1_
      have p117 : 0 ≤ (x12_1 : Int) := of_decide_eq_true (by first | (with_reducible assumption) | assumption)
      have q117 : x12_1 < (y116.length : Int) := (by have h_ : (x12_1 : Int) < ((x5_1.length : Int) : Int) := of_decide_eq_true (by first | (with_reducible assumption) | assumption); first | (have e_ := (Kd.R_reads' HO_5.out).1; omega) | simpa only [Ny116.out, List.length_set] using h_)
      have ql117 : ((x12_1 : Int) < ((x5_1.length : Int) : Int)) = True := eq_true (of_decide_eq_true (by first | (with_reducible assumption) | assumption))
      obtain ⟨ad117, e117, hx117_0⟩ := Kd.at_int (Kd.R_reads' HO_5.out).2.2 x12_1 p117 q117
      obtain rfl : (⟨go11, 0, none⟩ : Addr) = ad117 := (by injection e117)
      (first | simp only [add_plain] at hx117_0 | simp only [add_at] at hx117_0 | simp only [Addr.add, Nat.zero_add] at hx117_0 | skip)
      replace p117 := eq_true p117
      replace q117 := eq_true q117
      refine start_ (n := 11) (S := fun w' => w'.cell? ⟨go11, (x12_1).toNat, none⟩ = some (.int .i64 (rd y116 x12_1))) (ds := [10]) #[false, false, false, false, false, false, false, false, false, false, false] (by kernel_rfl) rfl rfl (hx117_0) (fun hHeld => ?_); refine with_tabW spec_l10Residue.tab7 spec_l10Residue.bits7 (fun HT_ HW_ => ?_)
      generalize w16.drew = w17 at HO_5 HB hx117_0 hHeld ⊢
      refine pure_ (i := 0) (N := some 25) (v := ?_) (a' := ?_) #[true, false, false, false, false, false, false, false, false, false, false] rfl rfl (any_of HT_.out (by kernel_rfl)) (fun _ _ _ h => h) (Or.inl ⟨by rfl, ?_⟩) ?_ ?_
      rotate_left
      · intro w'
        go_simp
        with_reducible rfl
      rotate_left
      · simp only [Act.put, List.setIfInBounds_toArray, List.set_cons_zero, List.set_cons_succ, i64_w, i32_w]
        rfl
      refine pure_ (i := 1) (N := some 26) (v := ?_) (a' := ?_) #[true, true, false, false, false, false, false, false, false, false, false] rfl rfl (any_of HT_.out (by kernel_rfl)) (fun _ _ _ h => h) (Or.inl ⟨by rfl, ?_⟩) ?_ ?_
      rotate_left
      · intro w'
        go_simp
        with_reducible rfl
      rotate_left
      · simp only [Act.put, List.setIfInBounds_toArray, List.set_cons_zero, List.set_cons_succ, i64_w, i32_w]
        rfl
      refine pure_ (i := 2) (N := some 27) (v := ?_) (a' := ?_) #[true, true, true, false, false, false, false, false, false, false, false] rfl rfl (any_of HT_.out (by kernel_rfl)) (fun _ _ _ h => h) (Or.inl ⟨by rfl, ?_⟩) ?_ ?_
      rotate_left
      · intro w'
        go_simp
        with_reducible rfl
      rotate_left
      · simp only [Act.put, List.setIfInBounds_toArray, List.set_cons_zero, List.set_cons_succ, i64_w, i32_w]
        rfl
      refine pure_ (i := 4) (N := some 29) (v := ?_) (a' := ?_) #[true, true, true, false, true, false, false, false, false, false, false] rfl rfl (any_of HT_.out (by kernel_rfl)) (fun _ _ _ h => h) (Or.inl ⟨by rfl, ?_⟩) ?_ ?_
      rotate_left
      · intro w'
        go_simp
        with_reducible rfl
      rotate_left
      · simp only [Act.put, List.setIfInBounds_toArray, List.set_cons_zero, List.set_cons_succ, i64_w, i32_w]
        rfl
      refine pure_ (i := 5) (N := some 30) (v := ?_) (a' := ?_) #[true, true, true, false, true, true, false, false, false, false, false] rfl rfl (any_of HT_.out (by kernel_rfl)) (fun _ _ _ h => h) (Or.inl ⟨by rfl, ?_⟩) ?_ ?_
      rotate_left
      · intro w'
        go_simp
        with_reducible rfl
      rotate_left
      · simp only [Act.put, List.setIfInBounds_toArray, List.set_cons_zero, List.set_cons_succ, i64_w, i32_w]
        rfl
      refine pure_ (i := 6) (N := some 31) (v := ?_) (a' := ?_) #[true, true, true, false, true, true, true, false, false, false, false] rfl rfl (any_of HT_.out (by kernel_rfl)) (fun _ _ _ h => h) (Or.inl ⟨by rfl, ?_⟩) ?_ ?_
      rotate_left
      · intro w'
        go_simp
        with_reducible rfl
      rotate_left
      · simp only [Act.put, List.setIfInBounds_toArray, List.set_cons_zero, List.set_cons_succ, i64_w, i32_w]
        rfl
      refine take_ (i := 3) (N := some 28) (v := ?_) (a' := ?_) #[true, true, true, true, true, true, true, false, false, false, false] rfl rfl (take_ofW HT_.out HW_.out (by kernel_rfl)) (fun _ _ _ h => h) (Or.inl ⟨by rfl, ?_⟩) hHeld ?_ ?_
      rotate_left
      · intro w' s0
        go_simp
        with_reducible rfl
      rotate_left
      · simp only [Act.put, List.setIfInBounds_toArray, List.set_cons_zero, List.set_cons_succ, i64_w, i32_w]
        rfl
      refine one_ (i := 7) (N := some 32) #[true, true, true, true, true, true, true, true, false, false, false] rfl rfl (one_of HT_.out (by kernel_rfl)) (by decide) (fun K hK => ?_)
      refine goes_ Try.func205 (by kernel_rfl) rfl #[.int .i64 a0, .slice (some ad115) l1.length c1, .int .i64 x12_1] (by rfl) rfl rfl (by (try simp only [List.map_toArray, List.map_cons, List.map_nil]); first | done | rfl | (simp only [List.length_drop, List.length_take]; rfl)) ?_
      with_reducible refine (spec_l10Guess.calls a0 _ _ l1 x12_1 t118 _ ?side1 ?side2 A13.out).mono ?_
      (case side1 => repeat (first | exact (Kd.C_below HR1.out HB.out) | (with_reducible refine Kd.C_alloc ?_ _) | (with_reducible refine Kd.C_drewN ?_ _) | (with_reducible refine Kd.C_drew ?_)))
      (case side2 => exact HC1.out)
      rintro e w' ⟨rfl, ⟨nd, rfl⟩⟩
      refine ⟨_, rfl, ?_⟩
      have p14 : 0 ≤ (x12_1 : Int) := of_decide_eq_true (by first | (with_reducible assumption) | assumption)
      have q14 : (x12_1 : Int) < ((x5_1.length : Int) : Int) := of_decide_eq_true (by first | (with_reducible assumption) | assumption)
      obtain ⟨hx14_0, hf14_0⟩ := Kd.R_celln 0 HO_5.out (x12_1 : Int) p14 q14
      replace p14 := eq_true p14
      replace q14 := eq_true q14
      have HP18 := Kd.R_putn HO_5.out (x12_1 : Int) (wrap64 ((rd y116 x12_1) - t118))
      rw [← Ny119.out] at HP18
      have HQ18 := Aside0.mk HP18
      clear HP18
      refine hK.out _ _ (hHeld) (fun hHeld => ?_)
      clear hK K
      refine norm_ (a' := ?_) ?_ ?_
      rotate_left
      · show Act.put _ (some 32) _ = _
        simp only [Act.put, List.setIfInBounds_toArray, List.set_cons_zero, List.set_cons_succ, i64_w, i32_w]
        rfl
      refine pure_ (i := 8) (N := some 33) (v := ?_) (a' := ?_) #[true, true, true, true, true, true, true, true, true, false, false] rfl rfl (any_of HT_.out (by kernel_rfl)) (fun _ _ _ h => h) (Or.inl ⟨by rfl, ?_⟩) ?_ ?_
      rotate_left
      · intro w'
        go_simp
        with_reducible rfl
      rotate_left
      · simp only [Act.put, List.setIfInBounds_toArray, List.set_cons_zero, List.set_cons_succ, i64_w, i32_w]
        rfl
      refine pure_ (i := 9) (N := some 34) (v := ?_) (a' := ?_) #[true, true, true, true, true, true, true, true, true, true, false] rfl rfl (any_of HT_.out (by kernel_rfl)) (fun _ _ _ h => h) (Or.inl ⟨by rfl, ?_⟩) ?_ ?_
      rotate_left
      · intro w'
        go_simp
        with_reducible rfl
      rotate_left
      · simp only [Act.put, List.setIfInBounds_toArray, List.set_cons_zero, List.set_cons_succ, i64_w, i32_w]
        rfl
      refine last_ (i := 10) (N := none) #[true, true, true, true, true, true, true, true, true, true, true] rfl rfl (one_of HT_.out (by kernel_rfl)) (by decide) (fun K hK => ?_)
      refine skip_ (w1 := ?_) (by rfl) rfl ?_ ?_
      rotate_left
      · go_simp
        rfl
      refine hK.out _ _ ?_
      clear hK K
      refine done_ (done_of HT_.out (by kernel_rfl)) ?_
      try go_wp2
      go_roundg k1
      case measure => have := HK1.out; omega
      case rel => exact ⟨(y119), (wrap64 (x12_1 + 1)), (by first | rfl | (simp; done) | (simp [*]; done)), H', ⟨by have := HK1.out; omega⟩, ⟨by (with_reducible repeat (first | apply Kd.R_alloc | apply Kd.R_drewN | apply Kd.R_drew)); exact HQ18.out⟩, ⟨by repeat (first | (with_reducible first | exact HB.out | apply below_alloc | apply pw_below_drewN | apply below_drew1 | refine below_set ?_ GB11.out) | exact HB.out)⟩⟩

/-! ### spec_Fold: function 206 -/
def spec_Fold.f (a0 : Int) : Option (Int) := if a0 < 0 then (some (IntKind.u64.wrap ((IntKind.u64.wrap (2 * (IntKind.u64.wrap (wrap64 (-(wrap64 (a0 + 1))))))) + 1))) else (some (IntKind.u64.wrap (2 * (IntKind.u64.wrap (a0)))))
set_option maxHeartbeats 8000000 in
set_option maxRecDepth 100000 in
theorem spec_Fold.calls (a0 : Int) (r : Int) (w : World) (h : spec_Fold.f a0 = some r) :
    Calls Try.prog 206 #[.int .i64 a0] w fun e w' => e = .returned (.int .u64 r) ∧ Drawn0 w w' := by
  have H : (if a0 < 0 then (some (IntKind.u64.wrap ((IntKind.u64.wrap (2 * (IntKind.u64.wrap (wrap64 (-(wrap64 (a0 + 1))))))) + 1))) else (some (IntKind.u64.wrap (2 * (IntKind.u64.wrap (a0)))))) = some r := h
  clear h
  by_cases c2 : a0 < 0
  · rw [if_pos c2] at H
    have c2b0 : decide (a0 < 0) = true := decide_eq_true c2
    clear c2
    obtain rfl := Option.some.inj H
    go_enter Try.func206, Try.ntmps206
    go_wp2
    go_ret
    exact ⟨by first | rfl | (simp; done) | (simp [*]; done), by repeat (first | exact Drawn0.refl _ | apply Drawn0.step)⟩
  · rw [if_neg c2] at H
    have c2b0 : decide (a0 < 0) = false := decide_eq_false c2
    clear c2
    obtain rfl := Option.some.inj H
    go_enter Try.func206, Try.ntmps206
    go_wp2
    go_ret
    exact ⟨by first | rfl | (simp; done) | (simp [*]; done), by repeat (first | exact Drawn0.refl _ | apply Drawn0.step)⟩

end Go.Proofs.Ytidblealnaicpaa.PFnPlan

-- written by myprint.py (a program of this session's over the kit's print)
import Derived.Test.YtglaedjadlappaaPFnExactBestMotionx0
namespace Go.Proofs.Ytglaedjadlappaa.PFnExactBestMotion
open Go.RowKit Go.Proofs.YtglaedjadlappaaW.PrintWords Go.Proofs.YtglaedjadlappaaW.PrintLast Go.Proofs.YtglaedjadlappaaW.PrintMore
attribute [local go_sem] max2_int min2_int max_two min_two max_three min_three max_four min_four   -- for this text's walks alone
set_option linter.unusedVariables false
set_option linter.unusedSimpArgs false

/-! ### impl_zbitlen: function 85 -/
def impl_zbitlen.l0 : Nat → Int → Int → Option (Int)
  | 0, _, _ => none
  | k + 1, x0, x3 => if x0 > 0 then (impl_zbitlen.l0 k (x0 / 2) (wrap64 (x3 + 1))) else (some x3)
def impl_zbitlen.f (k : Nat) (a0 : Int) : Option (Int) := impl_zbitlen.l0 k a0 0
theorem impl_zbitlen.mono_l : ∀ k, (∀ y0 y1, LeO (impl_zbitlen.l0 k y0 y1) (impl_zbitlen.l0 (k + 1) y0 y1))
  | 0 => fun _ _ r h => by simp [impl_zbitlen.l0] at h
  | k + 1 => by
    have ih0 := impl_zbitlen.mono_l k
    · intro y0 y1
      unfold impl_zbitlen.l0
      repeat' first
      | (with_reducible exact ih0 _ _)
      | (with_reducible exact LeO.refl _)
      | (with_reducible exact LeO.none _)
      | (with_reducible refine LeO.ite ?_ ?_)
      | (with_reducible refine LeO.bind ?_ (fun _ => ?_))
      | exact ih0 _ _
      | exact LeO.none _
      | refine LeO.ite ?_ ?_
      | refine LeO.bind ?_ (fun _ => ?_)
theorem impl_zbitlen.mono : ∀ a0 k, LeO (impl_zbitlen.f k a0) (impl_zbitlen.f (k + 1) a0) := by
  intro a0 k
  have ih0 := impl_zbitlen.mono_l k
  unfold impl_zbitlen.f
  repeat' first
      | (with_reducible exact ih0 _ _)
      | (with_reducible exact LeO.refl _)
      | (with_reducible exact LeO.none _)
      | (with_reducible refine LeO.ite ?_ ?_)
      | (with_reducible refine LeO.bind ?_ (fun _ => ?_))
      | exact ih0 _ _
      | exact LeO.none _
      | refine LeO.ite ?_ ?_
      | refine LeO.bind ?_ (fun _ => ?_)
set_option maxHeartbeats 8000000 in
set_option maxRecDepth 100000 in
theorem impl_zbitlen.calls (k : Nat) (a0 : Int) (r : Int) (w : World) (h : impl_zbitlen.f k a0 = some r) :
    Calls Try.prog 85 #[.int .u64 a0] w fun e w' => e = .returned (.int .i64 r) ∧ Drawn0 w w' := by
  have H : (impl_zbitlen.l0 k a0 0) = some r := h
  clear h
  have H' := Aside0.mk H
  clear H
  go_enter Try.func85, Try.ntmps85
  go_wp2
  go_loopg [0, 3] k (fun kq v0 v3 w' => ∃ (x0_1 : Int) (x3_1 : Int), v0 = .int .u64 x0_1 ∧ v3 = .int .i64 x3_1 ∧ Aside0 (impl_zbitlen.l0 kq x0_1 x3_1 = some r) ∧ Aside0 (kq ≤ k) ∧ Drawn0 w w')
  case atStart => exact ⟨(a0), (0), (by first | rfl | (simp; done) | (simp [*]; done)), (by first | rfl | (simp; done) | (simp [*]; done)), H', ⟨Nat.le_refl _⟩, by repeat (first | exact Drawn0.refl _ | apply Drawn0.step)⟩
  case round =>
    clear H'
    obtain ⟨x0_1, x3_1, rfl, rfl, HA, HK1, ⟨m1, rfl⟩⟩ := hrel
    cases gk with
    | zero => exact absurd HA.out (by simp [impl_zbitlen.l0])
    | succ k1 =>
      have H := HA.out
      clear HA
      simp only [impl_zbitlen.l0] at H
      by_cases c2 : x0_1 > 0
      rotate_left
      · rw [if_neg c2] at H
        have c2b0 : decide (0 < x0_1) = false := decide_eq_false c2
        clear c2
        obtain rfl := Option.some.inj H
        go_wp2
        go_ret
        exact ⟨by first | rfl | (simp; done) | (simp [*]; done), by repeat (first | exact Drawn0.refl _ | apply Drawn0.step)⟩
      rw [if_pos c2] at H
      have c2b0 : decide (0 < x0_1) = true := decide_eq_true c2
      clear c2
      have H' := Aside0.mk H
      clear H
      go_wp2
      go_roundg k1
      case measure => have := HK1.out; omega
      case rel => exact ⟨(x0_1 / 2), (wrap64 (x3_1 + 1)), (by first | rfl | (simp; done) | (simp [*]; done)), (by first | rfl | (simp; done) | (simp [*]; done)), H', ⟨by have := HK1.out; omega⟩, by repeat (first | exact Drawn0.refl _ | apply Drawn0.step)⟩

/-! ### impl_Fold: function 86 -/
def impl_Fold.f (a0 : Int) : Option (Int) := some (Go.bits .xor .u64 (IntKind.u64.wrap ((IntKind.u64.wrap (a0)) * 2)) (IntKind.u64.wrap (a0 / 9223372036854775808)))
set_option maxHeartbeats 8000000 in
set_option maxRecDepth 100000 in
theorem impl_Fold.calls (a0 : Int) (r : Int) (w : World) (h : impl_Fold.f a0 = some r) :
    Calls Try.prog 86 #[.int .i64 a0] w fun e w' => e = .returned (.int .u64 r) ∧ Drawn0 w w' := by
  have H : (some (Go.bits .xor .u64 (IntKind.u64.wrap ((IntKind.u64.wrap (a0)) * 2)) (IntKind.u64.wrap (a0 / 9223372036854775808)))) = some r := h
  clear h
  obtain rfl := Option.some.inj H
  go_enter Try.func86, Try.ntmps86
  go_wp2
  go_ret
  exact ⟨by first | rfl | (simp; done) | (simp [*]; done), by repeat (first | exact Drawn0.refl _ | apply Drawn0.step)⟩

/-! ### impl_BestMotion_1: function 84 -/
def impl_BestMotion_1.f (k : Nat) (a0 : Int) : Option (Int) := (impl_Fold.f a0).bind fun t211 => ((impl_zbitlen.f k (IntKind.u64.wrap (t211 + 1))).bind fun t212 => (some t212))
theorem impl_BestMotion_1.mono : ∀ a0 k, LeO (impl_BestMotion_1.f k a0) (impl_BestMotion_1.f (k + 1) a0) := by
  intro a0 k
  unfold impl_BestMotion_1.f
  repeat' first
      | (with_reducible exact impl_zbitlen.mono _ _)
      | (with_reducible exact LeO.refl _)
      | (with_reducible exact LeO.none _)
      | (with_reducible refine LeO.ite ?_ ?_)
      | (with_reducible refine LeO.bind ?_ (fun _ => ?_))
      | exact impl_zbitlen.mono _ _
      | exact LeO.none _
      | refine LeO.ite ?_ ?_
      | refine LeO.bind ?_ (fun _ => ?_)
set_option maxHeartbeats 8000000 in
set_option maxRecDepth 100000 in
theorem impl_BestMotion_1.calls (k : Nat) (a0 : Int) (r : Int) (w : World) (h : impl_BestMotion_1.f k a0 = some r) :
    Calls Try.prog 84 #[.int .i64 a0] w fun e w' => e = .returned (.int .i64 r) ∧ Drawn0 w w' := by
  have H : ((impl_Fold.f a0).bind fun t211 => ((impl_zbitlen.f k (IntKind.u64.wrap (t211 + 1))).bind fun t212 => (some t212))) = some r := h
  clear h
  replace H := Option.bind_eq_some_iff.mp H
  obtain ⟨t211, A20, H⟩ := H
  replace H : ((impl_zbitlen.f k (IntKind.u64.wrap (t211 + 1))).bind fun t212 => (some t212)) = some r := H
  have A2 := Aside0.mk A20
  clear A20
  replace H := Option.bind_eq_some_iff.mp H
  obtain ⟨t212, A30, H⟩ := H
  replace H : (some t212) = some r := H
  have A3 := Aside0.mk A30
  clear A30
  obtain rfl := Option.some.inj H
  go_enter Try.func84, Try.ntmps84
  go_wp2_with (first | ((with_reducible refine gate_callee (f := 86) rfl ?_); refine goesL_ (some 4) rfl rfl Try.func86 (by kernel_rfl) rfl #[.int .i64 a0] rfl (by (try simp only [List.map_toArray, List.map_cons, List.map_nil]); first | done | rfl | (simp only [List.length_drop, List.length_take]; rfl)) ?_; (with_reducible refine (impl_Fold.calls a0 t211 _ A2.out).mono ?_); rintro e w' ⟨rfl, ⟨nd, rfl⟩⟩; refine ⟨_, rfl, ?_⟩) | ((with_reducible refine gate_callee (f := 85) rfl ?_); refine goesL_ (some 6) rfl rfl Try.func85 (by kernel_rfl) rfl #[.int .u64 (IntKind.u64.wrap (t211 + 1))] rfl (by (try simp only [List.map_toArray, List.map_cons, List.map_nil]); first | done | rfl | (simp only [List.length_drop, List.length_take]; rfl)) ?_; (with_reducible refine (impl_zbitlen.calls k (IntKind.u64.wrap (t211 + 1)) t212 _ A3.out).mono ?_); rintro e w' ⟨rfl, ⟨nd, rfl⟩⟩; refine ⟨_, rfl, ?_⟩))
  go_ret
  exact ⟨by first | rfl | (simp; done) | (simp [*]; done), by repeat (first | exact Drawn0.refl _ | apply Drawn0.step)⟩

/-! ### impl_BestMotion_2: function 87 -/
def impl_BestMotion_2.f (a0 : Int) : Option (Int) := some (mx a0 (wrap64 (-a0)))
set_option maxHeartbeats 8000000 in
set_option maxRecDepth 100000 in
theorem impl_BestMotion_2.calls (a0 : Int) (r : Int) (w : World) (h : impl_BestMotion_2.f a0 = some r) :
    Calls Try.prog 87 #[.int .i64 a0] w fun e w' => e = .returned (.int .i64 r) ∧ Drawn0 w w' := by
  have H : (some (mx a0 (wrap64 (-a0)))) = some r := h
  clear h
  obtain ⟨ji2, hji2⟩ : ∃ j_ : Int, (mx a0 (wrap64 (-a0))) = j_ := ⟨_, rfl⟩
  replace H : (some ji2) = some r := by first | (rw [hji2] at H; exact H) | (simp only [hji2] at H ⊢; exact H)
  have hji2_ : (if a0 < (wrap64 (-a0)) then (wrap64 (-a0)) else a0) = ji2 := hji2
  obtain rfl := Option.some.inj H
  go_enter Try.func87, Try.ntmps87
  go_wp2
  go_ret
  exact ⟨by first | rfl | (simp; done) | (simp only [← hji2] <;> (first | rfl | simp)) | (simp [*]; done), by repeat (first | exact Drawn0.refl _ | apply Drawn0.step)⟩

/-! ### impl_zrange: function 107 -/
def impl_zrange.l0 : Nat → Int → Int → List Int → Int → Int → Option (Bool)
  | 0, _, _, _, _, _ => none
  | k + 1, x1, x2, x15, x16, x17 => if x17 < x16 then (if 0 ≤ x17 then (if x17 < (x15.length : Int) then (if (rd x15 x17) < x1 then (some false) else (if (rd x15 x17) > x2 then (some false) else (impl_zrange.l0 k x1 x2 x15 x16 (wrap64 (x17 + 1))))) else (none)) else (none)) else (some true)
def impl_zrange.f (k : Nat) (l0 : List Int) (a1 : Int) (a2 : Int) (a3 : Int) : Option (Bool) := if (l0.length : Int) > a3 then (some false) else (impl_zrange.l0 k a1 a2 l0 (l0.length : Int) 0)
theorem impl_zrange.mono_l : ∀ k, (∀ y0 y1 y2 y3 y4, LeO (impl_zrange.l0 k y0 y1 y2 y3 y4) (impl_zrange.l0 (k + 1) y0 y1 y2 y3 y4))
  | 0 => fun _ _ _ _ _ r h => by simp [impl_zrange.l0] at h
  | k + 1 => by
    have ih0 := impl_zrange.mono_l k
    · intro y0 y1 y2 y3 y4
      unfold impl_zrange.l0
      repeat' first
      | (with_reducible exact ih0 _ _ _ _ _)
      | (with_reducible exact LeO.refl _)
      | (with_reducible exact LeO.none _)
      | (with_reducible refine LeO.ite ?_ ?_)
      | (with_reducible refine LeO.bind ?_ (fun _ => ?_))
      | exact ih0 _ _ _ _ _
      | exact LeO.none _
      | refine LeO.ite ?_ ?_
      | refine LeO.bind ?_ (fun _ => ?_)
theorem impl_zrange.mono : ∀ a0 a1 a2 a3 k, LeO (impl_zrange.f k a0 a1 a2 a3) (impl_zrange.f (k + 1) a0 a1 a2 a3) := by
  intro a0 a1 a2 a3 k
  have ih0 := impl_zrange.mono_l k
  unfold impl_zrange.f
  repeat' first
      | (with_reducible exact ih0 _ _ _ _ _)
      | (with_reducible exact LeO.refl _)
      | (with_reducible exact LeO.none _)
      | (with_reducible refine LeO.ite ?_ ?_)
      | (with_reducible refine LeO.bind ?_ (fun _ => ?_))
      | exact ih0 _ _ _ _ _
      | exact LeO.none _
      | refine LeO.ite ?_ ?_
      | refine LeO.bind ?_ (fun _ => ?_)
set_option maxHeartbeats 8000000 in
set_option maxRecDepth 100000 in
theorem impl_zrange.calls (k : Nat) (A0 : Option Addr) (c0 : Nat) (l0 : List Int) (a1 : Int) (a2 : Int) (a3 : Int) (r : Bool) (w : World) (hr0 : Kd.C (Kd.int .i64) w A0 l0.length l0) (hc0 : l0.length ≤ c0) (h : impl_zrange.f k l0 a1 a2 a3 = some r) :
    Calls Try.prog 107 #[.slice A0 l0.length c0, .int .i64 a1, .int .i64 a2, .int .i64 a3] w fun e w' => e = .returned (.bool r) ∧ Drawn0 w w' := by
  have HR0 := Aside0.mk hr0
  have HC0 := Aside0.mk hc0
  clear hr0 hc0
  have H : (if (l0.length : Int) > a3 then (some false) else (impl_zrange.l0 k a1 a2 l0 (l0.length : Int) 0)) = some r := h
  clear h
  by_cases c5 : (l0.length : Int) > a3
  · rw [if_pos c5] at H
    have c5b0 : decide (a3 < (l0.length : Int)) = true := decide_eq_true c5
    clear c5
    obtain rfl := Option.some.inj H
    go_enter Try.func107, Try.ntmps107
    go_wp2
    go_ret
    exact ⟨by first | rfl | (simp; done) | (simp [*]; done), by repeat (first | exact Drawn0.refl _ | apply Drawn0.step)⟩
  rw [if_neg c5] at H
  have c5b0 : decide (a3 < (l0.length : Int)) = false := decide_eq_false c5
  clear c5
  have H' := Aside0.mk H
  clear H
  go_enter Try.func107, Try.ntmps107
  go_wp2
  go_loopg [17] k (fun kq v17 w' => ∃ (x17_1 : Int), v17 = .int .i64 x17_1 ∧ Aside0 (impl_zrange.l0 kq a1 a2 l0 (l0.length : Int) x17_1 = some r) ∧ Aside0 (kq ≤ k) ∧ Drawn0 w w')
  case atStart => exact ⟨(0), (by first | rfl | (simp; done) | (simp [*]; done)), H', ⟨Nat.le_refl _⟩, by repeat (first | exact Drawn0.refl _ | apply Drawn0.step)⟩
  case round =>
    clear H'
    try clear c1
    try clear p2
    try clear c5
    try clear c5b0
    obtain ⟨x17_1, rfl, HA, HK1, ⟨m1, rfl⟩⟩ := hrel
    cases gk with
    | zero => exact absurd HA.out (by simp [impl_zrange.l0])
    | succ k1 =>
      have H := HA.out
      clear HA
      simp only [impl_zrange.l0] at H
      by_cases c6 : x17_1 < (l0.length : Int)
      rotate_left
      · rw [if_neg c6] at H
        have c6b0 : decide (x17_1 < (l0.length : Int)) = false := decide_eq_false c6
        clear c6
        obtain rfl := Option.some.inj H
        go_wp2
        go_ret
        exact ⟨by first | rfl | (simp; done) | (simp [*]; done), by repeat (first | exact Drawn0.refl _ | apply Drawn0.step)⟩
      rw [if_pos c6] at H
      have c6b0 : decide (x17_1 < (l0.length : Int)) = true := decide_eq_true c6
      clear c6
      by_cases c7 : 0 ≤ x17_1
      rotate_left
      · rw [if_neg c7] at H
        exact absurd H (by simp)
      rw [if_pos c7] at H
      have c7b0 : decide (0 ≤ x17_1) = true := decide_eq_true c7
      clear c7
      by_cases c8 : x17_1 < (l0.length : Int)
      rotate_left
      · rw [if_neg c8] at H
        exact absurd H (by simp)
      rw [if_pos c8] at H
      have c8b0 : decide (x17_1 < (l0.length : Int)) = true := decide_eq_true c8
      clear c8
      by_cases c9 : (rd l0 x17_1) < a1
      · rw [if_pos c9] at H
        have c9b0 : decide ((rd l0 x17_1) < a1) = true := decide_eq_true c9
        clear c9
        obtain rfl := Option.some.inj H
        have p213 : 0 ≤ (x17_1 : Int) := of_decide_eq_true (by first | (with_reducible assumption) | assumption)
        have q213 : x17_1 < (l0.length : Int) := of_decide_eq_true (by first | (with_reducible assumption) | assumption)
        obtain ⟨ad213, e213, hx213_0⟩ := Kd.at_int HR0.out x17_1 p213 q213
        cases e213
        replace p213 := eq_true p213
        replace q213 := eq_true q213
        go_wp2
        go_ret
        exact ⟨by first | rfl | (simp; done) | (simp [*]; done), by repeat (first | exact Drawn0.refl _ | apply Drawn0.step)⟩
      rw [if_neg c9] at H
      have c9b0 : decide ((rd l0 x17_1) < a1) = false := decide_eq_false c9
      clear c9
      by_cases c10 : (rd l0 x17_1) > a2
      · rw [if_pos c10] at H
        have c10b0 : decide (a2 < (rd l0 x17_1)) = true := decide_eq_true c10
        clear c10
        obtain rfl := Option.some.inj H
        have p213 : 0 ≤ (x17_1 : Int) := of_decide_eq_true (by first | (with_reducible assumption) | assumption)
        have q213 : x17_1 < (l0.length : Int) := of_decide_eq_true (by first | (with_reducible assumption) | assumption)
        obtain ⟨ad213, e213, hx213_0⟩ := Kd.at_int HR0.out x17_1 p213 q213
        cases e213
        replace p213 := eq_true p213
        replace q213 := eq_true q213
        go_wp2
        go_ret
        exact ⟨by first | rfl | (simp; done) | (simp [*]; done), by repeat (first | exact Drawn0.refl _ | apply Drawn0.step)⟩
      rw [if_neg c10] at H
      have c10b0 : decide (a2 < (rd l0 x17_1)) = false := decide_eq_false c10
      clear c10
      have H' := Aside0.mk H
      clear H
      have p213 : 0 ≤ (x17_1 : Int) := of_decide_eq_true (by first | (with_reducible assumption) | assumption)
      have q213 : x17_1 < (l0.length : Int) := of_decide_eq_true (by first | (with_reducible assumption) | assumption)
      obtain ⟨ad213, e213, hx213_0⟩ := Kd.at_int HR0.out x17_1 p213 q213
      cases e213
      replace p213 := eq_true p213
      replace q213 := eq_true q213
      go_wp2
      go_roundg k1
      case measure => have := HK1.out; omega
      case rel => exact ⟨(wrap64 (x17_1 + 1)), (by first | rfl | (simp; done) | (simp [*]; done)), H', ⟨by have := HK1.out; omega⟩, by repeat (first | exact Drawn0.refl _ | apply Drawn0.step)⟩

/-! ### impl_Apart: function 88 -/
mutual
def impl_Apart.j0 : Nat → List Int → List Int → Bool → Option (Int)
  | 0, _, _, _ => none
  | k + 1, x0, x1, x21 => if x21 = true then (some (-1)) else (impl_Apart.l0 k x0 x1 0 (x0.length : Int) 0)
def impl_Apart.l0 : Nat → List Int → List Int → Int → Int → Int → Option (Int)
  | 0, _, _, _, _, _ => none
  | k + 1, x0, x1, x5, x23, x24 => if x24 < x23 then (if 0 ≤ x24 then (if x24 < (x0.length : Int) then (if x24 < (x1.length : Int) then (impl_Apart.l0 k x0 x1 (wrap64 (x5 + (mx (wrap64 ((rd x0 x24) - (rd x1 x24))) (wrap64 ((rd x1 x24) - (rd x0 x24)))))) x23 (wrap64 (x24 + 1))) else (none)) else (none)) else (none)) else (some x5)
end
def impl_Apart.f (k : Nat) (l0 : List Int) (l1 : List Int) : Option (Int) := if (l0.length : Int) = (l1.length : Int) then ((impl_zrange.f k l0 0 255 64).bind fun t214 => (if t214 = true then ((impl_zrange.f k l1 0 255 64).bind fun t215 => (impl_Apart.j0 k l0 l1 (!t215))) else (impl_Apart.j0 k l0 l1 true))) else (impl_Apart.j0 k l0 l1 true)
theorem impl_Apart.mono_l : ∀ k, (∀ y0 y1 y2, LeO (impl_Apart.j0 k y0 y1 y2) (impl_Apart.j0 (k + 1) y0 y1 y2)) ∧ (∀ y0 y1 y2 y3 y4, LeO (impl_Apart.l0 k y0 y1 y2 y3 y4) (impl_Apart.l0 (k + 1) y0 y1 y2 y3 y4))
  | 0 => ⟨fun _ _ _ r h => by simp [impl_Apart.j0] at h, fun _ _ _ _ _ r h => by simp [impl_Apart.l0] at h⟩
  | k + 1 => by
    obtain ⟨ih0, ih1⟩ := impl_Apart.mono_l k
    refine ⟨?_, ?_⟩
    · intro y0 y1 y2
      unfold impl_Apart.j0
      repeat' first
      | (with_reducible exact ih0 _ _ _)
      | (with_reducible exact ih1 _ _ _ _ _)
      | (with_reducible exact impl_zrange.mono _ _ _ _ _)
      | (with_reducible exact LeO.refl _)
      | (with_reducible exact LeO.none _)
      | (with_reducible refine LeO.ite ?_ ?_)
      | (with_reducible refine LeO.bind ?_ (fun _ => ?_))
      | exact ih0 _ _ _
      | exact ih1 _ _ _ _ _
      | exact impl_zrange.mono _ _ _ _ _
      | exact LeO.none _
      | refine LeO.ite ?_ ?_
      | refine LeO.bind ?_ (fun _ => ?_)
    · intro y0 y1 y2 y3 y4
      unfold impl_Apart.l0
      repeat' first
      | (with_reducible exact ih0 _ _ _)
      | (with_reducible exact ih1 _ _ _ _ _)
      | (with_reducible exact impl_zrange.mono _ _ _ _ _)
      | (with_reducible exact LeO.refl _)
      | (with_reducible exact LeO.none _)
      | (with_reducible refine LeO.ite ?_ ?_)
      | (with_reducible refine LeO.bind ?_ (fun _ => ?_))
      | exact ih0 _ _ _
      | exact ih1 _ _ _ _ _
      | exact impl_zrange.mono _ _ _ _ _
      | exact LeO.none _
      | refine LeO.ite ?_ ?_
      | refine LeO.bind ?_ (fun _ => ?_)
theorem impl_Apart.mono : ∀ a0 a1 k, LeO (impl_Apart.f k a0 a1) (impl_Apart.f (k + 1) a0 a1) := by
  intro a0 a1 k
  obtain ⟨ih0, ih1⟩ := impl_Apart.mono_l k
  unfold impl_Apart.f
  repeat' first
      | (with_reducible exact ih0 _ _ _)
      | (with_reducible exact ih1 _ _ _ _ _)
      | (with_reducible exact impl_zrange.mono _ _ _ _ _)
      | (with_reducible exact LeO.refl _)
      | (with_reducible exact LeO.none _)
      | (with_reducible refine LeO.ite ?_ ?_)
      | (with_reducible refine LeO.bind ?_ (fun _ => ?_))
      | exact ih0 _ _ _
      | exact ih1 _ _ _ _ _
      | exact impl_zrange.mono _ _ _ _ _
      | exact LeO.none _
      | refine LeO.ite ?_ ?_
      | refine LeO.bind ?_ (fun _ => ?_)
set_option maxHeartbeats 8000000 in
set_option maxRecDepth 100000 in
theorem impl_Apart.calls (k : Nat) (A0 : Option Addr) (c0 : Nat) (l0 : List Int) (A1 : Option Addr) (c1 : Nat) (l1 : List Int) (r : Int) (w : World) (hr0 : Kd.C (Kd.int .i64) w A0 l0.length l0) (hc0 : l0.length ≤ c0) (hr1 : Kd.C (Kd.int .i64) w A1 l1.length l1) (hc1 : l1.length ≤ c1) (h : impl_Apart.f k l0 l1 = some r) :
    Calls Try.prog 88 #[.slice A0 l0.length c0, .slice A1 l1.length c1] w fun e w' => e = .returned (.int .i64 r) ∧ Below w.heap.size w w' := by
  have HR0 := Aside0.mk hr0
  have HC0 := Aside0.mk hc0
  clear hr0 hc0
  have HR1 := Aside0.mk hr1
  have HC1 := Aside0.mk hc1
  clear hr1 hc1
  have HB := Aside0.mk (Below.refl w.heap.size w)
  have H : (if (l0.length : Int) = (l1.length : Int) then ((impl_zrange.f k l0 0 255 64).bind fun t214 => (if t214 = true then ((impl_zrange.f k l1 0 255 64).bind fun t215 => (impl_Apart.j0 k l0 l1 (!t215))) else (impl_Apart.j0 k l0 l1 true))) else (impl_Apart.j0 k l0 l1 true)) = some r := h
  clear h
  have HC3 := Aside0.mk H
  clear H
  go_enter Try.func88, Try.ntmps88
  go_upto_region 1 with (fail)
  repeat (go_quiet (fail); go_upto_region 1 with (fail))
  go_cut [21] (fun v21 wc => ∃ (kq : Nat) (x21_2 : Bool), v21 = .bool x21_2 ∧ Aside0 (impl_Apart.j0 kq l0 l1 x21_2 = some r) ∧ Aside0 (kq ≤ k) ∧ Aside0 (Below w.heap.size w wc))
  case first =>
    have H := HC3.out
    clear HC3
    by_cases c4 : (l0.length : Int) = (l1.length : Int)
    rotate_left
    · rw [if_neg c4] at H
      have c4b0 : ((l0.length : Int) == (l1.length : Int)) = false := beq_eq_false_iff_ne.mpr c4
      have c4b1 : ((l0.length : Int) != (l1.length : Int)) = true := bne_iff_ne.mpr c4
      have c4b2 : (l0.length == l1.length) = false := by first | simpa using c4 | (simp at c4 ⊢; omega)
      (first | rw [c4b0] | (simp only [i64_w, i32_w]; rw [c4b0]) | skip)
      have H' := Aside0.mk H
      clear H
      go_wp2
      repeat (go_quiet (fail); try go_wp2)
      go_meet
      case rel => exact ⟨_, (true), (by first | rfl | (simp; done) | (simp [*]; done)), H', ⟨by first | omega | exact Nat.le_refl _⟩, ⟨by repeat (first | (with_reducible first | exact HB.out | apply below_alloc | apply pw_below_drewN | apply below_drew1) | exact HB.out)⟩⟩
    rw [if_pos c4] at H
    have c4b0 : ((l0.length : Int) == (l1.length : Int)) = true := beq_iff_eq.mpr c4
    have c4b1 : ((l0.length : Int) != (l1.length : Int)) = false := bne_eq_false_iff_eq.mpr c4
    have c4b2 : (l0.length == l1.length) = true := by first | simpa using c4 | (simp at c4 ⊢; omega)
    clear c4
    (first | rw [c4b0] | (simp only [i64_w, i32_w]; rw [c4b0]) | skip)
    replace H := Option.bind_eq_some_iff.mp H
    obtain ⟨t214, A50, H⟩ := H
    replace H : (if t214 = true then ((impl_zrange.f k l1 0 255 64).bind fun t215 => (impl_Apart.j0 k l0 l1 (!t215))) else (impl_Apart.j0 k l0 l1 true)) = some r := H
    have A5 := Aside0.mk A50
    clear A50
    by_cases c6 : t214 = true
    rotate_left
    · replace c6 := Bool.eq_false_iff.mpr c6
      subst c6
      have H1 : (impl_Apart.j0 k l0 l1 true) = some r := by rw [if_neg (show ¬ (false = true) by decide)] at H; exact H
      clear H
      have H := H1
      clear H1
      have H' := Aside0.mk H
      clear H
      iterate 3 (try go_wp2_with (first | (go_at_call 107; (with_reducible refine (impl_zrange.calls k _ _ l0 0 255 64 false _ ?side1 ?side2 A5.out).mono ?_); (case side1 => repeat (first | exact (Kd.C_below HR0.out HB.out) | (with_reducible refine Kd.C_alloc ?_ _) | (with_reducible refine Kd.C_drewN ?_ _) | (with_reducible refine Kd.C_drew ?_))); (case side2 => exact HC0.out); rintro e w' ⟨rfl, ⟨nd, rfl⟩⟩; (try first | exact ⟨rfl, _, World.drewN_drewN _ _ _⟩ | exact ⟨rfl, _, Eq.trans (World.drewN_drewN _ _ _) (congrArg (World.drewN _) (Nat.add_assoc _ _ _))⟩))); try go_quiet (first | (go_at_call 107; (with_reducible refine (impl_zrange.calls k _ _ l0 0 255 64 false _ ?side1 ?side2 A5.out).mono ?_); (case side1 => repeat (first | exact (Kd.C_below HR0.out HB.out) | (with_reducible refine Kd.C_alloc ?_ _) | (with_reducible refine Kd.C_drewN ?_ _) | (with_reducible refine Kd.C_drew ?_))); (case side2 => exact HC0.out); rintro e w' ⟨rfl, ⟨nd, rfl⟩⟩; (try first | exact ⟨rfl, _, World.drewN_drewN _ _ _⟩ | exact ⟨rfl, _, Eq.trans (World.drewN_drewN _ _ _) (congrArg (World.drewN _) (Nat.add_assoc _ _ _))⟩))))
      go_meet
      case rel => exact ⟨_, (true), (by first | rfl | (simp; done) | (simp [*]; done)), H', ⟨by first | omega | exact Nat.le_refl _⟩, ⟨by repeat (first | (with_reducible first | exact HB.out | apply below_alloc | apply pw_below_drewN | apply below_drew1) | exact HB.out)⟩⟩
    subst c6
    have H1 : ((impl_zrange.f k l1 0 255 64).bind fun t215 => (impl_Apart.j0 k l0 l1 (!t215))) = some r := by rw [if_pos rfl] at H; exact H
    clear H
    have H := H1
    clear H1
    replace H := Option.bind_eq_some_iff.mp H
    obtain ⟨t215, A70, H⟩ := H
    replace H : (impl_Apart.j0 k l0 l1 (!t215)) = some r := H
    have A7 := Aside0.mk A70
    clear A70
    have H' := Aside0.mk H
    clear H
    iterate 3 (try go_wp2_with (first | (go_at_call 107; (with_reducible refine (impl_zrange.calls k _ _ l0 0 255 64 true _ ?side1 ?side2 A5.out).mono ?_); (case side1 => repeat (first | exact (Kd.C_below HR0.out HB.out) | (with_reducible refine Kd.C_alloc ?_ _) | (with_reducible refine Kd.C_drewN ?_ _) | (with_reducible refine Kd.C_drew ?_))); (case side2 => exact HC0.out); rintro e w' ⟨rfl, ⟨nd, rfl⟩⟩; (try first | exact ⟨rfl, _, World.drewN_drewN _ _ _⟩ | exact ⟨rfl, _, Eq.trans (World.drewN_drewN _ _ _) (congrArg (World.drewN _) (Nat.add_assoc _ _ _))⟩)) | (go_at_call 107; (with_reducible refine (impl_zrange.calls k _ _ l1 0 255 64 t215 _ ?side1 ?side2 A7.out).mono ?_); (case side1 => repeat (first | exact (Kd.C_below HR1.out (by repeat (first | (with_reducible first | exact HB.out | apply below_alloc | apply pw_below_drewN | apply below_drew1) | exact HB.out))) | (with_reducible refine Kd.C_alloc ?_ _) | (with_reducible refine Kd.C_drewN ?_ _) | (with_reducible refine Kd.C_drew ?_))); (case side2 => exact HC1.out); rintro e w' ⟨rfl, ⟨nd, rfl⟩⟩; (try first | exact ⟨rfl, _, World.drewN_drewN _ _ _⟩ | exact ⟨rfl, _, Eq.trans (World.drewN_drewN _ _ _) (congrArg (World.drewN _) (Nat.add_assoc _ _ _))⟩))); try go_quiet (first | (go_at_call 107; (with_reducible refine (impl_zrange.calls k _ _ l0 0 255 64 true _ ?side1 ?side2 A5.out).mono ?_); (case side1 => repeat (first | exact (Kd.C_below HR0.out HB.out) | (with_reducible refine Kd.C_alloc ?_ _) | (with_reducible refine Kd.C_drewN ?_ _) | (with_reducible refine Kd.C_drew ?_))); (case side2 => exact HC0.out); rintro e w' ⟨rfl, ⟨nd, rfl⟩⟩; (try first | exact ⟨rfl, _, World.drewN_drewN _ _ _⟩ | exact ⟨rfl, _, Eq.trans (World.drewN_drewN _ _ _) (congrArg (World.drewN _) (Nat.add_assoc _ _ _))⟩)) | (go_at_call 107; (with_reducible refine (impl_zrange.calls k _ _ l1 0 255 64 t215 _ ?side1 ?side2 A7.out).mono ?_); (case side1 => repeat (first | exact (Kd.C_below HR1.out (by repeat (first | (with_reducible first | exact HB.out | apply below_alloc | apply pw_below_drewN | apply below_drew1) | exact HB.out))) | (with_reducible refine Kd.C_alloc ?_ _) | (with_reducible refine Kd.C_drewN ?_ _) | (with_reducible refine Kd.C_drew ?_))); (case side2 => exact HC1.out); rintro e w' ⟨rfl, ⟨nd, rfl⟩⟩; (try first | exact ⟨rfl, _, World.drewN_drewN _ _ _⟩ | exact ⟨rfl, _, Eq.trans (World.drewN_drewN _ _ _) (congrArg (World.drewN _) (Nat.add_assoc _ _ _))⟩))))
    go_meet
    case rel => exact ⟨_, (!t215), (by first | rfl | (simp; done) | (simp [*]; done)), H', ⟨by first | omega | exact Nat.le_refl _⟩, ⟨by repeat (first | (with_reducible first | exact HB.out | apply below_alloc | apply pw_below_drewN | apply below_drew1) | exact HB.out)⟩⟩
  case rest =>
    clear HC3
    try clear c1
    try clear p2
    try clear c4
    try clear c4b0
    try clear c4b1
    try clear c4b2
    try clear c6
    obtain ⟨kq, x21_2, rfl, HA, HJ2, HB⟩ := hcut
    cases kq with
    | zero => exact absurd HA.out (by simp [impl_Apart.j0])
    | succ kj2 =>
      have H := HA.out
      clear HA
      simp only [impl_Apart.j0] at H
      by_cases c8 : x21_2 = true
      · subst c8
        have H1 : (some (-1)) = some r := by rw [if_pos rfl] at H; exact H
        clear H
        have H := H1
        clear H1
        obtain rfl := Option.some.inj H
        go_wp2
        repeat (go_quiet (fail); try go_wp2)
        go_ret
        exact ⟨by first | rfl | (simp [errW_none, errW_some] <;> rfl) | (simp [*, errW_none, errW_some] <;> rfl), by repeat (first | (with_reducible first | exact HB.out | apply below_alloc | apply pw_below_drewN | apply below_drew1) | exact HB.out)⟩
      replace c8 := Bool.eq_false_iff.mpr c8
      subst c8
      have H1 : (impl_Apart.l0 kj2 l0 l1 0 (l0.length : Int) 0) = some r := by rw [if_neg (show ¬ (false = true) by decide)] at H; exact H
      clear H
      have H := H1
      clear H1
      have H' := Aside0.mk H
      clear H
      go_wp2
      repeat (go_quiet (fail); try go_wp2)
      go_loopg [5, 24] kj2 (fun kq v5 v24 w' => ∃ (x5_2 : Int) (x24_2 : Int), v5 = .int .i64 x5_2 ∧ v24 = .int .i64 x24_2 ∧ Aside0 (impl_Apart.l0 kq l0 l1 x5_2 (l0.length : Int) x24_2 = some r) ∧ Aside0 (kq ≤ kj2) ∧ Aside0 (Below w.heap.size w w'))
      case atStart => exact ⟨(0), (0), (by first | rfl | (simp; done) | (simp [*]; done)), (by first | rfl | (simp; done) | (simp [*]; done)), H', ⟨Nat.le_refl _⟩, ⟨by repeat (first | (with_reducible first | exact HB.out | apply below_alloc | apply pw_below_drewN | apply below_drew1) | exact HB.out)⟩⟩
      case round =>
        clear H'
        try clear c1
        try clear p2
        try clear c4
        try clear c4b0
        try clear c4b1
        try clear c4b2
        try clear c6
        try clear c8
        try clear p2
        obtain ⟨x5_2, x24_2, rfl, rfl, HA, HK2, HB⟩ := hrel
        cases gk with
        | zero => exact absurd HA.out (by simp [impl_Apart.l0])
        | succ k2 =>
          have H := HA.out
          clear HA
          simp only [impl_Apart.l0] at H
          by_cases c9 : x24_2 < (l0.length : Int)
          rotate_left
          · rw [if_neg c9] at H
            have c9b0 : decide (x24_2 < (l0.length : Int)) = false := decide_eq_false c9
            clear c9
            obtain rfl := Option.some.inj H
            go_wp2
            repeat (go_quiet (fail); try go_wp2)
            go_ret
            exact ⟨by first | rfl | (simp [errW_none, errW_some] <;> rfl) | (simp [*, errW_none, errW_some] <;> rfl), by repeat (first | (with_reducible first | exact HB.out | apply below_alloc | apply pw_below_drewN | apply below_drew1) | exact HB.out)⟩
          rw [if_pos c9] at H
          have c9b0 : decide (x24_2 < (l0.length : Int)) = true := decide_eq_true c9
          clear c9
          by_cases c10 : 0 ≤ x24_2
          rotate_left
          · rw [if_neg c10] at H
            exact absurd H (by simp)
          rw [if_pos c10] at H
          have c10b0 : decide (0 ≤ x24_2) = true := decide_eq_true c10
          clear c10
          by_cases c11 : x24_2 < (l0.length : Int)
          rotate_left
          · rw [if_neg c11] at H
            exact absurd H (by simp)
          rw [if_pos c11] at H
          have c11b0 : decide (x24_2 < (l0.length : Int)) = true := decide_eq_true c11
          clear c11
          by_cases c12 : x24_2 < (l1.length : Int)
          rotate_left
          · rw [if_neg c12] at H
            exact absurd H (by simp)
          rw [if_pos c12] at H
          have c12b0 : decide (x24_2 < (l1.length : Int)) = true := decide_eq_true c12
          clear c12
          obtain ⟨ji13, hji13⟩ : ∃ j_ : Int, (mx (wrap64 ((rd l0 x24_2) - (rd l1 x24_2))) (wrap64 ((rd l1 x24_2) - (rd l0 x24_2)))) = j_ := ⟨_, rfl⟩
          replace H : (impl_Apart.l0 k2 l0 l1 (wrap64 (x5_2 + (ji13))) (l0.length : Int) (wrap64 (x24_2 + 1))) = some r := by first | (rw [hji13] at H; exact H) | (simp only [hji13] at H ⊢; exact H)
          have hji13_ : (if (wrap64 ((rd l0 x24_2) - (rd l1 x24_2))) < (wrap64 ((rd l1 x24_2) - (rd l0 x24_2))) then (wrap64 ((rd l1 x24_2) - (rd l0 x24_2))) else (wrap64 ((rd l0 x24_2) - (rd l1 x24_2)))) = ji13 := hji13
          have H' := Aside0.mk H
          clear H
          have p216 : 0 ≤ (x24_2 : Int) := of_decide_eq_true (by first | (with_reducible assumption) | assumption)
          have q216 : x24_2 < (l0.length : Int) := of_decide_eq_true (by first | (with_reducible assumption) | assumption)
          obtain ⟨ad216, e216, hx216_0⟩ := Kd.at_int HR0.out x24_2 p216 q216
          cases e216
          replace hx216_0 := (HB.out.cell (World.block_lt_of_cell? w _ hx216_0)).trans hx216_0
          replace p216 := eq_true p216
          replace q216 := eq_true q216
          have p217 : 0 ≤ (x24_2 : Int) := of_decide_eq_true (by first | (with_reducible assumption) | assumption)
          have q217 : x24_2 < (l1.length : Int) := of_decide_eq_true (by first | (with_reducible assumption) | assumption)
          obtain ⟨ad217, e217, hx217_0⟩ := Kd.at_int HR1.out x24_2 p217 q217
          cases e217
          replace hx217_0 := (HB.out.cell (World.block_lt_of_cell? w _ hx217_0)).trans hx217_0
          replace p217 := eq_true p217
          replace q217 := eq_true q217
          have p218 : 0 ≤ (x24_2 : Int) := of_decide_eq_true (by first | (with_reducible assumption) | assumption)
          have q218 : x24_2 < (l1.length : Int) := of_decide_eq_true (by first | (with_reducible assumption) | assumption)
          obtain ⟨ad218, e218, hx218_0⟩ := Kd.at_int HR1.out x24_2 p218 q218
          obtain rfl : ad217 = ad218 := (by injection e218)
          replace hx218_0 := (HB.out.cell (World.block_lt_of_cell? w _ hx218_0)).trans hx218_0
          replace p218 := eq_true p218
          replace q218 := eq_true q218
          have p219 : 0 ≤ (x24_2 : Int) := of_decide_eq_true (by first | (with_reducible assumption) | assumption)
          have q219 : x24_2 < (l0.length : Int) := of_decide_eq_true (by first | (with_reducible assumption) | assumption)
          obtain ⟨ad219, e219, hx219_0⟩ := Kd.at_int HR0.out x24_2 p219 q219
          obtain rfl : ad216 = ad219 := (by injection e219)
          replace hx219_0 := (HB.out.cell (World.block_lt_of_cell? w _ hx219_0)).trans hx219_0
          replace p219 := eq_true p219
          replace q219 := eq_true q219
          go_wp2
          repeat (go_quiet (fail); try go_wp2)
          go_roundg k2
          case measure => have := HJ2.out; have := HK2.out; omega
          case rel => exact ⟨(wrap64 (x5_2 + (ji13))), (wrap64 (x24_2 + 1)), (by first | rfl | (simp; done) | (simp only [← hji13] <;> (first | rfl | simp)) | (simp [*]; done)), (by first | rfl | (simp; done) | (simp [*]; done)), H', ⟨by have := HJ2.out; have := HK2.out; omega⟩, ⟨by repeat (first | (with_reducible first | exact HB.out | apply below_alloc | apply pw_below_drewN | apply below_drew1) | exact HB.out)⟩⟩

end Go.Proofs.Ytglaedjadlappaa.PFnExactBestMotion

-- written by myprint.py (a program of this session's over the kit's print)
import Derived.Test.YtidblealnaicpaaDoorPFnExactSoundOfx0
import Derived.Test.YtidblealnaicpaaDoorPFnExactSoundOfx1
import Derived.Test.YtidblealnaicpaaDoorPFnExactSoundOfx4
import Derived.Test.YtidblealnaicpaaDoorPFnExactSoundOfx5
import Derived.Test.YtidblealnaicpaaDoorPFnExactSoundOfx8
namespace Go.Proofs.YtidblealnaicpaaDoor.PFnExactSoundOf
open Go.RowKit Go.Proofs.YtidblealnaicpaaDoorW.PrintWords Go.Proofs.YtidblealnaicpaaDoorW.PrintLast Go.Proofs.YtidblealnaicpaaDoorW.PrintMore
attribute [local go_sem] max2_int min2_int max_two min_two max_three min_three max_four min_four   -- for this text's walks alone
set_option linter.unusedVariables false
set_option linter.unusedSimpArgs false

/-! ### laws_eqIntSS: function 31 -/
def laws_eqIntSS.l0 : Nat → List (List Int) → List (List Int) → Int → Option (Bool)
  | 0, _, _, _ => none
  | k + 1, x0, x1, x5 => if x5 < (x0.length : Int) then (if 0 ≤ x5 then (if x5 < (x1.length : Int) then ((laws_eqIntS.f k (rd_L1 x0 x5) (rd_L1 x1 x5)).bind fun t235 => (if t235 = true then (laws_eqIntSS.l0 k x0 x1 (wrap64 (x5 + 1))) else (some false))) else (none)) else (none)) else (some true)
def laws_eqIntSS.f (k : Nat) (l0 : List (List Int)) (l1 : List (List Int)) : Option (Bool) := if (l0.length : Int) = (l1.length : Int) then (laws_eqIntSS.l0 k l0 l1 0) else (some false)
theorem laws_eqIntSS.mono_l : ∀ k, (∀ y0 y1 y2, LeO (laws_eqIntSS.l0 k y0 y1 y2) (laws_eqIntSS.l0 (k + 1) y0 y1 y2))
  | 0 => fun _ _ _ r h => by simp [laws_eqIntSS.l0] at h
  | k + 1 => by
    have ih0 := laws_eqIntSS.mono_l k
    · intro y0 y1 y2
      unfold laws_eqIntSS.l0
      repeat' first
      | (with_reducible exact ih0 _ _ _)
      | (with_reducible exact laws_eqIntS.mono _ _ _)
      | (with_reducible exact LeO.refl _)
      | (with_reducible exact LeO.none _)
      | (with_reducible refine LeO.ite ?_ ?_)
      | (with_reducible refine LeO.bind ?_ (fun _ => ?_))
      | exact ih0 _ _ _
      | exact laws_eqIntS.mono _ _ _
      | exact LeO.none _
      | refine LeO.ite ?_ ?_
      | refine LeO.bind ?_ (fun _ => ?_)
theorem laws_eqIntSS.mono : ∀ a0 a1 k, LeO (laws_eqIntSS.f k a0 a1) (laws_eqIntSS.f (k + 1) a0 a1) := by
  intro a0 a1 k
  have ih0 := laws_eqIntSS.mono_l k
  unfold laws_eqIntSS.f
  repeat' first
      | (with_reducible exact ih0 _ _ _)
      | (with_reducible exact laws_eqIntS.mono _ _ _)
      | (with_reducible exact LeO.refl _)
      | (with_reducible exact LeO.none _)
      | (with_reducible refine LeO.ite ?_ ?_)
      | (with_reducible refine LeO.bind ?_ (fun _ => ?_))
      | exact ih0 _ _ _
      | exact laws_eqIntS.mono _ _ _
      | exact LeO.none _
      | refine LeO.ite ?_ ?_
      | refine LeO.bind ?_ (fun _ => ?_)
set_option maxHeartbeats 8000000 in
set_option maxRecDepth 100000 in
theorem laws_eqIntSS.calls (k : Nat) (A0 : Option Addr) (c0 : Nat) (l0 : List (List Int)) (A1 : Option Addr) (c1 : Nat) (l1 : List (List Int)) (r : Bool) (w : World) (hr0 : Kd.C (Kd.slice 3 (Kd.int .i64)) w A0 l0.length l0) (hc0 : l0.length ≤ c0) (hr1 : Kd.C (Kd.slice 3 (Kd.int .i64)) w A1 l1.length l1) (hc1 : l1.length ≤ c1) (h : laws_eqIntSS.f k l0 l1 = some r) :
    Calls Tryd.prog 31 #[.slice A0 l0.length c0, .slice A1 l1.length c1] w fun e w' => e = .returned (.bool r) ∧ Drawn0 w w' := by
  have HR0 := Aside0.mk hr0
  have HC0 := Aside0.mk hc0
  clear hr0 hc0
  have HR1 := Aside0.mk hr1
  have HC1 := Aside0.mk hc1
  clear hr1 hc1
  have H : (if (l0.length : Int) = (l1.length : Int) then (laws_eqIntSS.l0 k l0 l1 0) else (some false)) = some r := h
  clear h
  by_cases c3 : (l0.length : Int) = (l1.length : Int)
  rotate_left
  · rw [if_neg c3] at H
    have c3b0 : ((l0.length : Int) == (l1.length : Int)) = false := beq_eq_false_iff_ne.mpr c3
    have c3b1 : ((l0.length : Int) != (l1.length : Int)) = true := bne_iff_ne.mpr c3
    have c3b2 : (l0.length == l1.length) = false := by first | simpa using c3 | (simp at c3 ⊢; omega)
    obtain rfl := Option.some.inj H
    go_enter Tryd.func31, Tryd.ntmps31
    go_wp2
    repeat (go_quiet (fail); try go_wp2)
    go_ret
    exact ⟨by first | rfl | (simp; done) | (simp [*]; done), by repeat (first | exact Drawn0.refl _ | apply Drawn0.step)⟩
  rw [if_pos c3] at H
  have c3b0 : ((l0.length : Int) == (l1.length : Int)) = true := beq_iff_eq.mpr c3
  have c3b1 : ((l0.length : Int) != (l1.length : Int)) = false := bne_eq_false_iff_eq.mpr c3
  have c3b2 : (l0.length == l1.length) = true := by first | simpa using c3 | (simp at c3 ⊢; omega)
  clear c3
  have H' := Aside0.mk H
  clear H
  go_enter Tryd.func31, Tryd.ntmps31
  go_wp2
  repeat (go_quiet (fail); try go_wp2)
  go_loopg [5] k (fun kq v5 w' => ∃ (x5_1 : Int), v5 = .int .i64 x5_1 ∧ Aside0 (laws_eqIntSS.l0 kq l0 l1 x5_1 = some r) ∧ Aside0 (kq ≤ k) ∧ Drawn0 w w')
  case atStart => exact ⟨(0), (by first | rfl | (simp; done) | (simp [*]; done)), H', ⟨Nat.le_refl _⟩, by repeat (first | exact Drawn0.refl _ | apply Drawn0.step)⟩
  case round =>
    clear H'
    try clear c1
    try clear p2
    try clear c3
    try clear c3b0
    try clear c3b1
    try clear c3b2
    obtain ⟨x5_1, rfl, HA, HK1, ⟨m1, rfl⟩⟩ := hrel
    cases gk with
    | zero => exact absurd HA.out (by simp [laws_eqIntSS.l0])
    | succ k1 =>
      have H := HA.out
      clear HA
      simp only [laws_eqIntSS.l0] at H
      by_cases c4 : x5_1 < (l0.length : Int)
      rotate_left
      · rw [if_neg c4] at H
        have c4b0 : decide (x5_1 < (l0.length : Int)) = false := decide_eq_false c4
        clear c4
        obtain rfl := Option.some.inj H
        go_wp2
        repeat (go_quiet (fail); try go_wp2)
        go_ret
        exact ⟨by first | rfl | (simp; done) | (simp [*]; done), by repeat (first | exact Drawn0.refl _ | apply Drawn0.step)⟩
      rw [if_pos c4] at H
      have c4b0 : decide (x5_1 < (l0.length : Int)) = true := decide_eq_true c4
      clear c4
      by_cases c5 : 0 ≤ x5_1
      rotate_left
      · rw [if_neg c5] at H
        exact absurd H (by simp)
      rw [if_pos c5] at H
      have c5b0 : decide (0 ≤ x5_1) = true := decide_eq_true c5
      clear c5
      by_cases c6 : x5_1 < (l1.length : Int)
      rotate_left
      · rw [if_neg c6] at H
        exact absurd H (by simp)
      rw [if_pos c6] at H
      have c6b0 : decide (x5_1 < (l1.length : Int)) = true := decide_eq_true c6
      clear c6
      replace H := Option.bind_eq_some_iff.mp H
      obtain ⟨t235, A70, H⟩ := H
      replace H : (if t235 = true then (laws_eqIntSS.l0 k1 l0 l1 (wrap64 (x5_1 + 1))) else (some false)) = some r := H
      have A7 := Aside0.mk A70
      clear A70
      by_cases c8 : t235 = true
      rotate_left
      · replace c8 := Bool.eq_false_iff.mpr c8
        subst c8
        have H1 : (some false) = some r := by rw [if_neg (show ¬ (false = true) by decide)] at H; exact H
        clear H
        have H := H1
        clear H1
        obtain rfl := Option.some.inj H
        have p233 : 0 ≤ (x5_1 : Int) := of_decide_eq_true (by first | (with_reducible assumption) | assumption)
        have q233 : x5_1 < (l0.length : Int) := of_decide_eq_true (by first | (with_reducible assumption) | assumption)
        obtain ⟨ad233, A233_0, c233_0, e233, hx233_0, hl233_0, hi233_0⟩ := at_L1 HR0.out x5_1 p233 q233
        cases e233
        have HR233_0 := Aside0.mk hi233_0
        have HC233_0 := Aside0.mk hl233_0
        clear hi233_0 hl233_0
        replace p233 := eq_true p233
        replace q233 := eq_true q233
        have p234 : 0 ≤ (x5_1 : Int) := of_decide_eq_true (by first | (with_reducible assumption) | assumption)
        have q234 : x5_1 < (l1.length : Int) := of_decide_eq_true (by first | (with_reducible assumption) | assumption)
        obtain ⟨ad234, A234_0, c234_0, e234, hx234_0, hl234_0, hi234_0⟩ := at_L1 HR1.out x5_1 p234 q234
        cases e234
        have HR234_0 := Aside0.mk hi234_0
        have HC234_0 := Aside0.mk hl234_0
        clear hi234_0 hl234_0
        replace p234 := eq_true p234
        replace q234 := eq_true q234
        iterate 3 (try go_wp2_with (first | (go_at_call 9; (with_reducible refine (laws_eqIntS.calls k1 _ _ (rd_L1 l0 x5_1) _ _ (rd_L1 l1 x5_1) false _ ?side1 ?side2 ?side3 ?side4 A7.out).mono ?_); (case side1 => repeat (first | exact HR233_0.out | (with_reducible refine Kd.C_alloc ?_ _) | (with_reducible refine Kd.C_drewN ?_ _) | (with_reducible refine Kd.C_drew ?_))); (case side2 => exact HC233_0.out); (case side3 => repeat (first | exact HR234_0.out | (with_reducible refine Kd.C_alloc ?_ _) | (with_reducible refine Kd.C_drewN ?_ _) | (with_reducible refine Kd.C_drew ?_))); (case side4 => exact HC234_0.out); rintro e w' ⟨rfl, ⟨nd, rfl⟩⟩; (try first | exact ⟨rfl, _, World.drewN_drewN _ _ _⟩ | exact ⟨rfl, _, Eq.trans (World.drewN_drewN _ _ _) (congrArg (World.drewN _) (Nat.add_assoc _ _ _))⟩))); try go_quiet (first | (go_at_call 9; (with_reducible refine (laws_eqIntS.calls k1 _ _ (rd_L1 l0 x5_1) _ _ (rd_L1 l1 x5_1) false _ ?side1 ?side2 ?side3 ?side4 A7.out).mono ?_); (case side1 => repeat (first | exact HR233_0.out | (with_reducible refine Kd.C_alloc ?_ _) | (with_reducible refine Kd.C_drewN ?_ _) | (with_reducible refine Kd.C_drew ?_))); (case side2 => exact HC233_0.out); (case side3 => repeat (first | exact HR234_0.out | (with_reducible refine Kd.C_alloc ?_ _) | (with_reducible refine Kd.C_drewN ?_ _) | (with_reducible refine Kd.C_drew ?_))); (case side4 => exact HC234_0.out); rintro e w' ⟨rfl, ⟨nd, rfl⟩⟩; (try first | exact ⟨rfl, _, World.drewN_drewN _ _ _⟩ | exact ⟨rfl, _, Eq.trans (World.drewN_drewN _ _ _) (congrArg (World.drewN _) (Nat.add_assoc _ _ _))⟩))))
        go_ret
        exact ⟨by first | rfl | (simp; done) | (simp [*]; done), by repeat (first | exact Drawn0.refl _ | apply Drawn0.step)⟩
      subst c8
      have H1 : (laws_eqIntSS.l0 k1 l0 l1 (wrap64 (x5_1 + 1))) = some r := by rw [if_pos rfl] at H; exact H
      clear H
      have H := H1
      clear H1
      have H' := Aside0.mk H
      clear H
      have p233 : 0 ≤ (x5_1 : Int) := of_decide_eq_true (by first | (with_reducible assumption) | assumption)
      have q233 : x5_1 < (l0.length : Int) := of_decide_eq_true (by first | (with_reducible assumption) | assumption)
      obtain ⟨ad233, A233_0, c233_0, e233, hx233_0, hl233_0, hi233_0⟩ := at_L1 HR0.out x5_1 p233 q233
      cases e233
      have HR233_0 := Aside0.mk hi233_0
      have HC233_0 := Aside0.mk hl233_0
      clear hi233_0 hl233_0
      replace p233 := eq_true p233
      replace q233 := eq_true q233
      have p234 : 0 ≤ (x5_1 : Int) := of_decide_eq_true (by first | (with_reducible assumption) | assumption)
      have q234 : x5_1 < (l1.length : Int) := of_decide_eq_true (by first | (with_reducible assumption) | assumption)
      obtain ⟨ad234, A234_0, c234_0, e234, hx234_0, hl234_0, hi234_0⟩ := at_L1 HR1.out x5_1 p234 q234
      cases e234
      have HR234_0 := Aside0.mk hi234_0
      have HC234_0 := Aside0.mk hl234_0
      clear hi234_0 hl234_0
      replace p234 := eq_true p234
      replace q234 := eq_true q234
      iterate 3 (try go_wp2_with (first | (go_at_call 9; (with_reducible refine (laws_eqIntS.calls k1 _ _ (rd_L1 l0 x5_1) _ _ (rd_L1 l1 x5_1) true _ ?side1 ?side2 ?side3 ?side4 A7.out).mono ?_); (case side1 => repeat (first | exact HR233_0.out | (with_reducible refine Kd.C_alloc ?_ _) | (with_reducible refine Kd.C_drewN ?_ _) | (with_reducible refine Kd.C_drew ?_))); (case side2 => exact HC233_0.out); (case side3 => repeat (first | exact HR234_0.out | (with_reducible refine Kd.C_alloc ?_ _) | (with_reducible refine Kd.C_drewN ?_ _) | (with_reducible refine Kd.C_drew ?_))); (case side4 => exact HC234_0.out); rintro e w' ⟨rfl, ⟨nd, rfl⟩⟩; (try first | exact ⟨rfl, _, World.drewN_drewN _ _ _⟩ | exact ⟨rfl, _, Eq.trans (World.drewN_drewN _ _ _) (congrArg (World.drewN _) (Nat.add_assoc _ _ _))⟩))); try go_quiet (first | (go_at_call 9; (with_reducible refine (laws_eqIntS.calls k1 _ _ (rd_L1 l0 x5_1) _ _ (rd_L1 l1 x5_1) true _ ?side1 ?side2 ?side3 ?side4 A7.out).mono ?_); (case side1 => repeat (first | exact HR233_0.out | (with_reducible refine Kd.C_alloc ?_ _) | (with_reducible refine Kd.C_drewN ?_ _) | (with_reducible refine Kd.C_drew ?_))); (case side2 => exact HC233_0.out); (case side3 => repeat (first | exact HR234_0.out | (with_reducible refine Kd.C_alloc ?_ _) | (with_reducible refine Kd.C_drewN ?_ _) | (with_reducible refine Kd.C_drew ?_))); (case side4 => exact HC234_0.out); rintro e w' ⟨rfl, ⟨nd, rfl⟩⟩; (try first | exact ⟨rfl, _, World.drewN_drewN _ _ _⟩ | exact ⟨rfl, _, Eq.trans (World.drewN_drewN _ _ _) (congrArg (World.drewN _) (Nat.add_assoc _ _ _))⟩))))
      go_roundg k1
      case measure => have := HK1.out; omega
      case rel => exact ⟨(wrap64 (x5_1 + 1)), (by first | rfl | (simp; done) | (simp [*]; done)), H', ⟨by have := HK1.out; omega⟩, by repeat (first | exact Drawn0.refl _ | apply Drawn0.step)⟩

/-! ### laws_eqTones: function 17 -/
def laws_eqTones.f (k : Nat) (a0_0 : Int) (a0_1 : Int) (a0_2 : Int) (l0_3 : List (List Int)) (l0_4 : List (List Int)) (a1_0 : Int) (a1_1 : Int) (a1_2 : Int) (l1_3 : List (List Int)) (l1_4 : List (List Int)) : Option (Bool) := if a0_0 = a1_0 then (if a0_1 = a1_1 then (if a0_2 = a1_2 then ((laws_eqIntSS.f k l0_3 l1_3).bind fun t238 => (if t238 = true then ((laws_eqIntSS.f k l0_4 l1_4).bind fun t239 => (if t239 = true then (some true) else (some false))) else (some false))) else (some false)) else (some false)) else (some false)
theorem laws_eqTones.mono : ∀ a0 a1 a2 a3 a4 a5 a6 a7 a8 a9 k, LeO (laws_eqTones.f k a0 a1 a2 a3 a4 a5 a6 a7 a8 a9) (laws_eqTones.f (k + 1) a0 a1 a2 a3 a4 a5 a6 a7 a8 a9) := by
  intro a0 a1 a2 a3 a4 a5 a6 a7 a8 a9 k
  unfold laws_eqTones.f
  repeat' first
      | (with_reducible exact laws_eqIntSS.mono _ _ _)
      | (with_reducible exact LeO.refl _)
      | (with_reducible exact LeO.none _)
      | (with_reducible refine LeO.ite ?_ ?_)
      | (with_reducible refine LeO.bind ?_ (fun _ => ?_))
      | exact laws_eqIntSS.mono _ _ _
      | exact LeO.none _
      | refine LeO.ite ?_ ?_
      | refine LeO.bind ?_ (fun _ => ?_)
set_option maxHeartbeats 8000000 in
set_option maxRecDepth 100000 in
theorem laws_eqTones.calls (k : Nat) (a0_0 : Int) (a0_1 : Int) (a0_2 : Int) (A0_3 : Option Addr) (c0_3 : Nat) (l0_3 : List (List Int)) (A0_4 : Option Addr) (c0_4 : Nat) (l0_4 : List (List Int)) (a1_0 : Int) (a1_1 : Int) (a1_2 : Int) (A1_3 : Option Addr) (c1_3 : Nat) (l1_3 : List (List Int)) (A1_4 : Option Addr) (c1_4 : Nat) (l1_4 : List (List Int)) (r : Bool) (w : World) (hr0_3 : Kd.C (Kd.slice 3 (Kd.int .i64)) w A0_3 l0_3.length l0_3) (hc0_3 : l0_3.length ≤ c0_3) (hr0_4 : Kd.C (Kd.slice 3 (Kd.int .i64)) w A0_4 l0_4.length l0_4) (hc0_4 : l0_4.length ≤ c0_4) (hr1_3 : Kd.C (Kd.slice 3 (Kd.int .i64)) w A1_3 l1_3.length l1_3) (hc1_3 : l1_3.length ≤ c1_3) (hr1_4 : Kd.C (Kd.slice 3 (Kd.int .i64)) w A1_4 l1_4.length l1_4) (hc1_4 : l1_4.length ≤ c1_4) (h : laws_eqTones.f k a0_0 a0_1 a0_2 l0_3 l0_4 a1_0 a1_1 a1_2 l1_3 l1_4 = some r) :
    Calls Tryd.prog 17 #[.agg #[.int .i64 a0_0, .int .i64 a0_1, .int .i64 a0_2, .slice A0_3 l0_3.length c0_3, .slice A0_4 l0_4.length c0_4], .agg #[.int .i64 a1_0, .int .i64 a1_1, .int .i64 a1_2, .slice A1_3 l1_3.length c1_3, .slice A1_4 l1_4.length c1_4]] w fun e w' => e = .returned (.bool r) ∧ Below w.heap.size w w' := by
  have hu36 := Tryd.underlying36
  have HR0_3 := Aside0.mk hr0_3
  have HC0_3 := Aside0.mk hc0_3
  clear hr0_3 hc0_3
  have HR0_4 := Aside0.mk hr0_4
  have HC0_4 := Aside0.mk hc0_4
  clear hr0_4 hc0_4
  have HR1_3 := Aside0.mk hr1_3
  have HC1_3 := Aside0.mk hc1_3
  clear hr1_3 hc1_3
  have HR1_4 := Aside0.mk hr1_4
  have HC1_4 := Aside0.mk hc1_4
  clear hr1_4 hc1_4
  have HB := Aside0.mk (Below.refl w.heap.size w)
  have H : (if a0_0 = a1_0 then (if a0_1 = a1_1 then (if a0_2 = a1_2 then ((laws_eqIntSS.f k l0_3 l1_3).bind fun t238 => (if t238 = true then ((laws_eqIntSS.f k l0_4 l1_4).bind fun t239 => (if t239 = true then (some true) else (some false))) else (some false))) else (some false)) else (some false)) else (some false)) = some r := h
  clear h
  by_cases c3 : a0_0 = a1_0
  rw [if_pos c3] at H
  have c3b0 : (a0_0 == a1_0) = true := beq_iff_eq.mpr c3
  have c3b1 : (a0_0 != a1_0) = false := bne_eq_false_iff_eq.mpr c3
  clear c3
  by_cases c4 : a0_1 = a1_1
  rw [if_pos c4] at H
  have c4b0 : (a0_1 == a1_1) = true := beq_iff_eq.mpr c4
  have c4b1 : (a0_1 != a1_1) = false := bne_eq_false_iff_eq.mpr c4
  clear c4
  by_cases c5 : a0_2 = a1_2
  · rw [if_pos c5] at H
    have c5b0 : (a0_2 == a1_2) = true := beq_iff_eq.mpr c5
    have c5b1 : (a0_2 != a1_2) = false := bne_eq_false_iff_eq.mpr c5
    clear c5
    replace H := Option.bind_eq_some_iff.mp H
    obtain ⟨t238, A60, H⟩ := H
    replace H : (if t238 = true then ((laws_eqIntSS.f k l0_4 l1_4).bind fun t239 => (if t239 = true then (some true) else (some false))) else (some false)) = some r := H
    have A6 := Aside0.mk A60
    clear A60
    by_cases c7 : t238 = true
    rotate_left
    · replace c7 := Bool.eq_false_iff.mpr c7
      subst c7
      have H1 : (some false) = some r := by rw [if_neg (show ¬ (false = true) by decide)] at H; exact H
      clear H
      have H := H1
      clear H1
      obtain rfl := Option.some.inj H
      go_enter Tryd.func17, Tryd.ntmps17
      go_wp2_with (first | ((with_reducible refine gate_dst (N := 2) rfl ?_); refine box_event ?hg (N := 2) ?hd (cs := #[.int .i64 a0_0, .int .i64 a0_1, .int .i64 a0_2, .slice A0_3 l0_3.length c0_3, .slice A0_4 l0_4.length c0_4]) (t := 36) ?hr ?_; (case hd => rfl); (case hg => rfl); (case hr => first | (go_simp; done) | (go_simp; rfl)); intro gb236 hg w20 hbox hb; have n0_ := Aside0.mk (below_step (by repeat (first | (with_reducible first | exact HB.out | apply below_alloc | apply pw_below_drewN | apply below_drew1) | exact HB.out)) hb); have n1_ := Aside0.mk (hbox); have n2_ := Aside0.mk ((by rw [hg]; exact (below_size (by repeat (first | (with_reducible first | exact HB.out | apply below_alloc | apply pw_below_drewN | apply below_drew1) | exact HB.out))) : w.heap.size ≤ gb236)); have n3_ := n2_; clear HB; have HB := n0_; have BK236 := n1_; have GW236 := n2_; have GE236 := n3_; clear n0_ n1_ n2_ n3_; clear hb hbox hg) | ((with_reducible refine gate_dst (N := 3) rfl ?_); refine box_event ?hg (N := 3) ?hd (cs := #[.int .i64 a1_0, .int .i64 a1_1, .int .i64 a1_2, .slice A1_3 l1_3.length c1_3, .slice A1_4 l1_4.length c1_4]) (t := 36) ?hr ?_; (case hd => rfl); (case hg => rfl); (case hr => first | (go_simp; done) | (go_simp; rfl)); intro gb237 hg w21 hbox hb; have n0_ := Aside0.mk (blk_below (g := gb236) (o := .cells #[.int .i64 a0_0, .int .i64 a0_1, .int .i64 a0_2, .slice A0_3 l0_3.length c0_3, .slice A0_4 l0_4.length c0_4] 36 (0, 0)) (by (with_reducible repeat (first | refine blk_drewN ?_ _ | refine blk_drew ?_ | refine blk_alloc ?_ _)); exact BK236.out) hb); have n1_ := Aside0.mk (below_step (by repeat (first | (with_reducible first | exact HB.out | apply below_alloc | apply pw_below_drewN | apply below_drew1 | refine below_set ?_ GE236.out) | exact HB.out)) hb); have n2_ := Aside0.mk (hbox); have n3_ := Aside0.mk ((by rw [hg]; exact (below_size (by repeat (first | (with_reducible first | exact HB.out | apply below_alloc | apply pw_below_drewN | apply below_drew1 | refine below_set ?_ GE236.out) | exact HB.out))) : w.heap.size ≤ gb237)); have n4_ := n3_; have n5_ := Aside0.mk ((by rw [hg]; exact Nat.ne_of_lt (blk_lt (g := gb236) (o := .cells #[.int .i64 a0_0, .int .i64 a0_1, .int .i64 a0_2, .slice A0_3 l0_3.length c0_3, .slice A0_4 l0_4.length c0_4] 36 (0, 0)) (by (with_reducible repeat (first | refine blk_drewN ?_ _ | refine blk_drew ?_ | refine blk_alloc ?_ _)); exact BK236.out)) : gb236 ≠ gb237)); have n6_ := Aside0.mk ((by rw [hg]; exact Nat.ne_of_gt (blk_lt (g := gb236) (o := .cells #[.int .i64 a0_0, .int .i64 a0_1, .int .i64 a0_2, .slice A0_3 l0_3.length c0_3, .slice A0_4 l0_4.length c0_4] 36 (0, 0)) (by (with_reducible repeat (first | refine blk_drewN ?_ _ | refine blk_drew ?_ | refine blk_alloc ?_ _)); exact BK236.out)) : gb237 ≠ gb236)); clear BK236; clear HB; have BK236 := n0_; have HB := n1_; have BK237 := n2_; have GW237 := n3_; have GE237 := n4_; have NB236_237 := n5_; have NB237_236 := n6_; clear n0_ n1_ n2_ n3_ n4_ n5_ n6_; clear hb hbox hg; have hnb22 := NB236_237.out; have hnc22 := NB237_236.out; have hcz23_0 : w21.cell? ⟨gb236, 0, none⟩ = some (.int .i64 a0_0) := (blk_cell BK236.out 0).trans rfl; have hcz23_1 : w21.cell? ⟨gb236, 1, none⟩ = some (.int .i64 a0_1) := (blk_cell BK236.out 1).trans rfl; have hcz23_2 : w21.cell? ⟨gb236, 2, none⟩ = some (.int .i64 a0_2) := (blk_cell BK236.out 2).trans rfl; have hcz23_3 : w21.cell? ⟨gb236, 3, none⟩ = some (.slice A0_3 l0_3.length c0_3) := (blk_cell BK236.out 3).trans rfl; have hcz23_4 : w21.cell? ⟨gb236, 4, none⟩ = some (.slice A0_4 l0_4.length c0_4) := (blk_cell BK236.out 4).trans rfl; have hfz23_0 := blk_frozen BK236.out 0; have hfz23_1 := blk_frozen BK236.out 1; have hfz23_2 := blk_frozen BK236.out 2; have hfz23_3 := blk_frozen BK236.out 3; have hfz23_4 := blk_frozen BK236.out 4; have hcz24_0 : w21.cell? ⟨gb237, 0, none⟩ = some (.int .i64 a1_0) := (blk_cell BK237.out 0).trans rfl; have hcz24_1 : w21.cell? ⟨gb237, 1, none⟩ = some (.int .i64 a1_1) := (blk_cell BK237.out 1).trans rfl; have hcz24_2 : w21.cell? ⟨gb237, 2, none⟩ = some (.int .i64 a1_2) := (blk_cell BK237.out 2).trans rfl; have hcz24_3 : w21.cell? ⟨gb237, 3, none⟩ = some (.slice A1_3 l1_3.length c1_3) := (blk_cell BK237.out 3).trans rfl; have hcz24_4 : w21.cell? ⟨gb237, 4, none⟩ = some (.slice A1_4 l1_4.length c1_4) := (blk_cell BK237.out 4).trans rfl; have hfz24_0 := blk_frozen BK237.out 0; have hfz24_1 := blk_frozen BK237.out 1; have hfz24_2 := blk_frozen BK237.out 2; have hfz24_3 := blk_frozen BK237.out 3; have hfz24_4 := blk_frozen BK237.out 4) | ((with_reducible refine gate_callee (f := 31) rfl ?_); refine goesL_ (some 24) rfl rfl Tryd.func31 (by kernel_rfl) rfl #[.slice A0_3 l0_3.length c0_3, .slice A1_3 l1_3.length c1_3] rfl (by (try simp only [List.map_toArray, List.map_cons, List.map_nil]); first | done | rfl | (simp only [List.length_drop, List.length_take]; rfl)) ?_; (with_reducible refine (laws_eqIntSS.calls k _ _ l0_3 _ _ l1_3 false _ ?side1 ?side2 ?side3 ?side4 A6.out).mono ?_); (case side1 => repeat (first | exact (Kd.C_below HR0_3.out HB.out) | (with_reducible refine Kd.C_alloc ?_ _) | (with_reducible refine Kd.C_drewN ?_ _) | (with_reducible refine Kd.C_drew ?_))); (case side2 => exact HC0_3.out); (case side3 => repeat (first | exact (Kd.C_below HR1_3.out HB.out) | (with_reducible refine Kd.C_alloc ?_ _) | (with_reducible refine Kd.C_drewN ?_ _) | (with_reducible refine Kd.C_drew ?_))); (case side4 => exact HC1_3.out); rintro e w' ⟨rfl, ⟨nd, rfl⟩⟩; refine ⟨_, rfl, ?_⟩))
      go_ret
      exact ⟨by first | rfl | (simp [errW_none, errW_some] <;> rfl) | (simp [*, errW_none, errW_some] <;> rfl), by repeat (first | (with_reducible first | exact HB.out | apply below_alloc | apply pw_below_drewN | apply below_drew1 | refine below_set ?_ GE236.out | refine below_set ?_ GE237.out) | exact HB.out)⟩
    subst c7
    have H1 : ((laws_eqIntSS.f k l0_4 l1_4).bind fun t239 => (if t239 = true then (some true) else (some false))) = some r := by rw [if_pos rfl] at H; exact H
    clear H
    have H := H1
    clear H1
    replace H := Option.bind_eq_some_iff.mp H
    obtain ⟨t239, A80, H⟩ := H
    replace H : (if t239 = true then (some true) else (some false)) = some r := H
    have A8 := Aside0.mk A80
    clear A80
    by_cases c9 : t239 = true
    · subst c9
      have H1 : (some true) = some r := by rw [if_pos rfl] at H; exact H
      clear H
      have H := H1
      clear H1
      obtain rfl := Option.some.inj H
      go_enter Tryd.func17, Tryd.ntmps17
      go_wp2_with (first | ((with_reducible refine gate_dst (N := 2) rfl ?_); refine box_event ?hg (N := 2) ?hd (cs := #[.int .i64 a0_0, .int .i64 a0_1, .int .i64 a0_2, .slice A0_3 l0_3.length c0_3, .slice A0_4 l0_4.length c0_4]) (t := 36) ?hr ?_; (case hd => rfl); (case hg => rfl); (case hr => first | (go_simp; done) | (go_simp; rfl)); intro gb236 hg w10 hbox hb; have n0_ := Aside0.mk (below_step (by repeat (first | (with_reducible first | exact HB.out | apply below_alloc | apply pw_below_drewN | apply below_drew1) | exact HB.out)) hb); have n1_ := Aside0.mk (hbox); have n2_ := Aside0.mk ((by rw [hg]; exact (below_size (by repeat (first | (with_reducible first | exact HB.out | apply below_alloc | apply pw_below_drewN | apply below_drew1) | exact HB.out))) : w.heap.size ≤ gb236)); have n3_ := n2_; clear HB; have HB := n0_; have BK236 := n1_; have GW236 := n2_; have GE236 := n3_; clear n0_ n1_ n2_ n3_; clear hb hbox hg) | ((with_reducible refine gate_dst (N := 3) rfl ?_); refine box_event ?hg (N := 3) ?hd (cs := #[.int .i64 a1_0, .int .i64 a1_1, .int .i64 a1_2, .slice A1_3 l1_3.length c1_3, .slice A1_4 l1_4.length c1_4]) (t := 36) ?hr ?_; (case hd => rfl); (case hg => rfl); (case hr => first | (go_simp; done) | (go_simp; rfl)); intro gb237 hg w11 hbox hb; have n0_ := Aside0.mk (blk_below (g := gb236) (o := .cells #[.int .i64 a0_0, .int .i64 a0_1, .int .i64 a0_2, .slice A0_3 l0_3.length c0_3, .slice A0_4 l0_4.length c0_4] 36 (0, 0)) (by (with_reducible repeat (first | refine blk_drewN ?_ _ | refine blk_drew ?_ | refine blk_alloc ?_ _)); exact BK236.out) hb); have n1_ := Aside0.mk (below_step (by repeat (first | (with_reducible first | exact HB.out | apply below_alloc | apply pw_below_drewN | apply below_drew1 | refine below_set ?_ GE236.out) | exact HB.out)) hb); have n2_ := Aside0.mk (hbox); have n3_ := Aside0.mk ((by rw [hg]; exact (below_size (by repeat (first | (with_reducible first | exact HB.out | apply below_alloc | apply pw_below_drewN | apply below_drew1 | refine below_set ?_ GE236.out) | exact HB.out))) : w.heap.size ≤ gb237)); have n4_ := n3_; have n5_ := Aside0.mk ((by rw [hg]; exact Nat.ne_of_lt (blk_lt (g := gb236) (o := .cells #[.int .i64 a0_0, .int .i64 a0_1, .int .i64 a0_2, .slice A0_3 l0_3.length c0_3, .slice A0_4 l0_4.length c0_4] 36 (0, 0)) (by (with_reducible repeat (first | refine blk_drewN ?_ _ | refine blk_drew ?_ | refine blk_alloc ?_ _)); exact BK236.out)) : gb236 ≠ gb237)); have n6_ := Aside0.mk ((by rw [hg]; exact Nat.ne_of_gt (blk_lt (g := gb236) (o := .cells #[.int .i64 a0_0, .int .i64 a0_1, .int .i64 a0_2, .slice A0_3 l0_3.length c0_3, .slice A0_4 l0_4.length c0_4] 36 (0, 0)) (by (with_reducible repeat (first | refine blk_drewN ?_ _ | refine blk_drew ?_ | refine blk_alloc ?_ _)); exact BK236.out)) : gb237 ≠ gb236)); clear BK236; clear HB; have BK236 := n0_; have HB := n1_; have BK237 := n2_; have GW237 := n3_; have GE237 := n4_; have NB236_237 := n5_; have NB237_236 := n6_; clear n0_ n1_ n2_ n3_ n4_ n5_ n6_; clear hb hbox hg; have hnb12 := NB236_237.out; have hnc12 := NB237_236.out; have hcz13_0 : w11.cell? ⟨gb236, 0, none⟩ = some (.int .i64 a0_0) := (blk_cell BK236.out 0).trans rfl; have hcz13_1 : w11.cell? ⟨gb236, 1, none⟩ = some (.int .i64 a0_1) := (blk_cell BK236.out 1).trans rfl; have hcz13_2 : w11.cell? ⟨gb236, 2, none⟩ = some (.int .i64 a0_2) := (blk_cell BK236.out 2).trans rfl; have hcz13_3 : w11.cell? ⟨gb236, 3, none⟩ = some (.slice A0_3 l0_3.length c0_3) := (blk_cell BK236.out 3).trans rfl; have hcz13_4 : w11.cell? ⟨gb236, 4, none⟩ = some (.slice A0_4 l0_4.length c0_4) := (blk_cell BK236.out 4).trans rfl; have hfz13_0 := blk_frozen BK236.out 0; have hfz13_1 := blk_frozen BK236.out 1; have hfz13_2 := blk_frozen BK236.out 2; have hfz13_3 := blk_frozen BK236.out 3; have hfz13_4 := blk_frozen BK236.out 4; have hcz14_0 : w11.cell? ⟨gb237, 0, none⟩ = some (.int .i64 a1_0) := (blk_cell BK237.out 0).trans rfl; have hcz14_1 : w11.cell? ⟨gb237, 1, none⟩ = some (.int .i64 a1_1) := (blk_cell BK237.out 1).trans rfl; have hcz14_2 : w11.cell? ⟨gb237, 2, none⟩ = some (.int .i64 a1_2) := (blk_cell BK237.out 2).trans rfl; have hcz14_3 : w11.cell? ⟨gb237, 3, none⟩ = some (.slice A1_3 l1_3.length c1_3) := (blk_cell BK237.out 3).trans rfl; have hcz14_4 : w11.cell? ⟨gb237, 4, none⟩ = some (.slice A1_4 l1_4.length c1_4) := (blk_cell BK237.out 4).trans rfl; have hfz14_0 := blk_frozen BK237.out 0; have hfz14_1 := blk_frozen BK237.out 1; have hfz14_2 := blk_frozen BK237.out 2; have hfz14_3 := blk_frozen BK237.out 3; have hfz14_4 := blk_frozen BK237.out 4) | ((with_reducible refine gate_callee (f := 31) rfl ?_); refine goesL_ (some 24) rfl rfl Tryd.func31 (by kernel_rfl) rfl #[.slice A0_3 l0_3.length c0_3, .slice A1_3 l1_3.length c1_3] rfl (by (try simp only [List.map_toArray, List.map_cons, List.map_nil]); first | done | rfl | (simp only [List.length_drop, List.length_take]; rfl)) ?_; (with_reducible refine (laws_eqIntSS.calls k _ _ l0_3 _ _ l1_3 true _ ?side1 ?side2 ?side3 ?side4 A6.out).mono ?_); (case side1 => repeat (first | exact (Kd.C_below HR0_3.out HB.out) | (with_reducible refine Kd.C_alloc ?_ _) | (with_reducible refine Kd.C_drewN ?_ _) | (with_reducible refine Kd.C_drew ?_))); (case side2 => exact HC0_3.out); (case side3 => repeat (first | exact (Kd.C_below HR1_3.out HB.out) | (with_reducible refine Kd.C_alloc ?_ _) | (with_reducible refine Kd.C_drewN ?_ _) | (with_reducible refine Kd.C_drew ?_))); (case side4 => exact HC1_3.out); rintro e w' ⟨rfl, ⟨nd, rfl⟩⟩; refine ⟨_, rfl, ?_⟩) | ((with_reducible refine gate_callee (f := 31) rfl ?_); refine goesL_ (some 30) rfl rfl Tryd.func31 (by kernel_rfl) rfl #[.slice A0_4 l0_4.length c0_4, .slice A1_4 l1_4.length c1_4] rfl (by (try simp only [List.map_toArray, List.map_cons, List.map_nil]); first | done | rfl | (simp only [List.length_drop, List.length_take]; rfl)) ?_; (with_reducible refine (laws_eqIntSS.calls k _ _ l0_4 _ _ l1_4 true _ ?side1 ?side2 ?side3 ?side4 A8.out).mono ?_); (case side1 => repeat (first | exact (Kd.C_below HR0_4.out (by repeat (first | (with_reducible first | exact HB.out | apply below_alloc | apply pw_below_drewN | apply below_drew1 | refine below_set ?_ GE236.out | refine below_set ?_ GE237.out) | exact HB.out))) | (with_reducible refine Kd.C_alloc ?_ _) | (with_reducible refine Kd.C_drewN ?_ _) | (with_reducible refine Kd.C_drew ?_))); (case side2 => exact HC0_4.out); (case side3 => repeat (first | exact (Kd.C_below HR1_4.out (by repeat (first | (with_reducible first | exact HB.out | apply below_alloc | apply pw_below_drewN | apply below_drew1 | refine below_set ?_ GE236.out | refine below_set ?_ GE237.out) | exact HB.out))) | (with_reducible refine Kd.C_alloc ?_ _) | (with_reducible refine Kd.C_drewN ?_ _) | (with_reducible refine Kd.C_drew ?_))); (case side4 => exact HC1_4.out); rintro e w' ⟨rfl, ⟨nd, rfl⟩⟩; refine ⟨_, rfl, ?_⟩))
      go_ret
      exact ⟨by first | rfl | (simp [errW_none, errW_some] <;> rfl) | (simp [*, errW_none, errW_some] <;> rfl), by repeat (first | (with_reducible first | exact HB.out | apply below_alloc | apply pw_below_drewN | apply below_drew1 | refine below_set ?_ GE236.out | refine below_set ?_ GE237.out) | exact HB.out)⟩
    replace c9 := Bool.eq_false_iff.mpr c9
    subst c9
    have H1 : (some false) = some r := by rw [if_neg (show ¬ (false = true) by decide)] at H; exact H
    clear H
    have H := H1
    clear H1
    obtain rfl := Option.some.inj H
    go_enter Tryd.func17, Tryd.ntmps17
    go_wp2_with (first | ((with_reducible refine gate_dst (N := 2) rfl ?_); refine box_event ?hg (N := 2) ?hd (cs := #[.int .i64 a0_0, .int .i64 a0_1, .int .i64 a0_2, .slice A0_3 l0_3.length c0_3, .slice A0_4 l0_4.length c0_4]) (t := 36) ?hr ?_; (case hd => rfl); (case hg => rfl); (case hr => first | (go_simp; done) | (go_simp; rfl)); intro gb236 hg w15 hbox hb; have n0_ := Aside0.mk (below_step (by repeat (first | (with_reducible first | exact HB.out | apply below_alloc | apply pw_below_drewN | apply below_drew1) | exact HB.out)) hb); have n1_ := Aside0.mk (hbox); have n2_ := Aside0.mk ((by rw [hg]; exact (below_size (by repeat (first | (with_reducible first | exact HB.out | apply below_alloc | apply pw_below_drewN | apply below_drew1) | exact HB.out))) : w.heap.size ≤ gb236)); have n3_ := n2_; clear HB; have HB := n0_; have BK236 := n1_; have GW236 := n2_; have GE236 := n3_; clear n0_ n1_ n2_ n3_; clear hb hbox hg) | ((with_reducible refine gate_dst (N := 3) rfl ?_); refine box_event ?hg (N := 3) ?hd (cs := #[.int .i64 a1_0, .int .i64 a1_1, .int .i64 a1_2, .slice A1_3 l1_3.length c1_3, .slice A1_4 l1_4.length c1_4]) (t := 36) ?hr ?_; (case hd => rfl); (case hg => rfl); (case hr => first | (go_simp; done) | (go_simp; rfl)); intro gb237 hg w16 hbox hb; have n0_ := Aside0.mk (blk_below (g := gb236) (o := .cells #[.int .i64 a0_0, .int .i64 a0_1, .int .i64 a0_2, .slice A0_3 l0_3.length c0_3, .slice A0_4 l0_4.length c0_4] 36 (0, 0)) (by (with_reducible repeat (first | refine blk_drewN ?_ _ | refine blk_drew ?_ | refine blk_alloc ?_ _)); exact BK236.out) hb); have n1_ := Aside0.mk (below_step (by repeat (first | (with_reducible first | exact HB.out | apply below_alloc | apply pw_below_drewN | apply below_drew1 | refine below_set ?_ GE236.out) | exact HB.out)) hb); have n2_ := Aside0.mk (hbox); have n3_ := Aside0.mk ((by rw [hg]; exact (below_size (by repeat (first | (with_reducible first | exact HB.out | apply below_alloc | apply pw_below_drewN | apply below_drew1 | refine below_set ?_ GE236.out) | exact HB.out))) : w.heap.size ≤ gb237)); have n4_ := n3_; have n5_ := Aside0.mk ((by rw [hg]; exact Nat.ne_of_lt (blk_lt (g := gb236) (o := .cells #[.int .i64 a0_0, .int .i64 a0_1, .int .i64 a0_2, .slice A0_3 l0_3.length c0_3, .slice A0_4 l0_4.length c0_4] 36 (0, 0)) (by (with_reducible repeat (first | refine blk_drewN ?_ _ | refine blk_drew ?_ | refine blk_alloc ?_ _)); exact BK236.out)) : gb236 ≠ gb237)); have n6_ := Aside0.mk ((by rw [hg]; exact Nat.ne_of_gt (blk_lt (g := gb236) (o := .cells #[.int .i64 a0_0, .int .i64 a0_1, .int .i64 a0_2, .slice A0_3 l0_3.length c0_3, .slice A0_4 l0_4.length c0_4] 36 (0, 0)) (by (with_reducible repeat (first | refine blk_drewN ?_ _ | refine blk_drew ?_ | refine blk_alloc ?_ _)); exact BK236.out)) : gb237 ≠ gb236)); clear BK236; clear HB; have BK236 := n0_; have HB := n1_; have BK237 := n2_; have GW237 := n3_; have GE237 := n4_; have NB236_237 := n5_; have NB237_236 := n6_; clear n0_ n1_ n2_ n3_ n4_ n5_ n6_; clear hb hbox hg; have hnb17 := NB236_237.out; have hnc17 := NB237_236.out; have hcz18_0 : w16.cell? ⟨gb236, 0, none⟩ = some (.int .i64 a0_0) := (blk_cell BK236.out 0).trans rfl; have hcz18_1 : w16.cell? ⟨gb236, 1, none⟩ = some (.int .i64 a0_1) := (blk_cell BK236.out 1).trans rfl; have hcz18_2 : w16.cell? ⟨gb236, 2, none⟩ = some (.int .i64 a0_2) := (blk_cell BK236.out 2).trans rfl; have hcz18_3 : w16.cell? ⟨gb236, 3, none⟩ = some (.slice A0_3 l0_3.length c0_3) := (blk_cell BK236.out 3).trans rfl; have hcz18_4 : w16.cell? ⟨gb236, 4, none⟩ = some (.slice A0_4 l0_4.length c0_4) := (blk_cell BK236.out 4).trans rfl; have hfz18_0 := blk_frozen BK236.out 0; have hfz18_1 := blk_frozen BK236.out 1; have hfz18_2 := blk_frozen BK236.out 2; have hfz18_3 := blk_frozen BK236.out 3; have hfz18_4 := blk_frozen BK236.out 4; have hcz19_0 : w16.cell? ⟨gb237, 0, none⟩ = some (.int .i64 a1_0) := (blk_cell BK237.out 0).trans rfl; have hcz19_1 : w16.cell? ⟨gb237, 1, none⟩ = some (.int .i64 a1_1) := (blk_cell BK237.out 1).trans rfl; have hcz19_2 : w16.cell? ⟨gb237, 2, none⟩ = some (.int .i64 a1_2) := (blk_cell BK237.out 2).trans rfl; have hcz19_3 : w16.cell? ⟨gb237, 3, none⟩ = some (.slice A1_3 l1_3.length c1_3) := (blk_cell BK237.out 3).trans rfl; have hcz19_4 : w16.cell? ⟨gb237, 4, none⟩ = some (.slice A1_4 l1_4.length c1_4) := (blk_cell BK237.out 4).trans rfl; have hfz19_0 := blk_frozen BK237.out 0; have hfz19_1 := blk_frozen BK237.out 1; have hfz19_2 := blk_frozen BK237.out 2; have hfz19_3 := blk_frozen BK237.out 3; have hfz19_4 := blk_frozen BK237.out 4) | ((with_reducible refine gate_callee (f := 31) rfl ?_); refine goesL_ (some 24) rfl rfl Tryd.func31 (by kernel_rfl) rfl #[.slice A0_3 l0_3.length c0_3, .slice A1_3 l1_3.length c1_3] rfl (by (try simp only [List.map_toArray, List.map_cons, List.map_nil]); first | done | rfl | (simp only [List.length_drop, List.length_take]; rfl)) ?_; (with_reducible refine (laws_eqIntSS.calls k _ _ l0_3 _ _ l1_3 true _ ?side1 ?side2 ?side3 ?side4 A6.out).mono ?_); (case side1 => repeat (first | exact (Kd.C_below HR0_3.out HB.out) | (with_reducible refine Kd.C_alloc ?_ _) | (with_reducible refine Kd.C_drewN ?_ _) | (with_reducible refine Kd.C_drew ?_))); (case side2 => exact HC0_3.out); (case side3 => repeat (first | exact (Kd.C_below HR1_3.out HB.out) | (with_reducible refine Kd.C_alloc ?_ _) | (with_reducible refine Kd.C_drewN ?_ _) | (with_reducible refine Kd.C_drew ?_))); (case side4 => exact HC1_3.out); rintro e w' ⟨rfl, ⟨nd, rfl⟩⟩; refine ⟨_, rfl, ?_⟩) | ((with_reducible refine gate_callee (f := 31) rfl ?_); refine goesL_ (some 30) rfl rfl Tryd.func31 (by kernel_rfl) rfl #[.slice A0_4 l0_4.length c0_4, .slice A1_4 l1_4.length c1_4] rfl (by (try simp only [List.map_toArray, List.map_cons, List.map_nil]); first | done | rfl | (simp only [List.length_drop, List.length_take]; rfl)) ?_; (with_reducible refine (laws_eqIntSS.calls k _ _ l0_4 _ _ l1_4 false _ ?side1 ?side2 ?side3 ?side4 A8.out).mono ?_); (case side1 => repeat (first | exact (Kd.C_below HR0_4.out (by repeat (first | (with_reducible first | exact HB.out | apply below_alloc | apply pw_below_drewN | apply below_drew1 | refine below_set ?_ GE236.out | refine below_set ?_ GE237.out) | exact HB.out))) | (with_reducible refine Kd.C_alloc ?_ _) | (with_reducible refine Kd.C_drewN ?_ _) | (with_reducible refine Kd.C_drew ?_))); (case side2 => exact HC0_4.out); (case side3 => repeat (first | exact (Kd.C_below HR1_4.out (by repeat (first | (with_reducible first | exact HB.out | apply below_alloc | apply pw_below_drewN | apply below_drew1 | refine below_set ?_ GE236.out | refine below_set ?_ GE237.out) | exact HB.out))) | (with_reducible refine Kd.C_alloc ?_ _) | (with_reducible refine Kd.C_drewN ?_ _) | (with_reducible refine Kd.C_drew ?_))); (case side4 => exact HC1_4.out); rintro e w' ⟨rfl, ⟨nd, rfl⟩⟩; refine ⟨_, rfl, ?_⟩))
    go_ret
    exact ⟨by first | rfl | (simp [errW_none, errW_some] <;> rfl) | (simp [*, errW_none, errW_some] <;> rfl), by repeat (first | (with_reducible first | exact HB.out | apply below_alloc | apply pw_below_drewN | apply below_drew1 | refine below_set ?_ GE236.out | refine below_set ?_ GE237.out) | exact HB.out)⟩
  rw [if_neg c5] at H
  have c5b0 : (a0_2 == a1_2) = false := beq_eq_false_iff_ne.mpr c5
  have c5b1 : (a0_2 != a1_2) = true := bne_iff_ne.mpr c5
  obtain rfl := Option.some.inj H
  rotate_left
  rw [if_neg c4] at H
  have c4b0 : (a0_1 == a1_1) = false := beq_eq_false_iff_ne.mpr c4
  have c4b1 : (a0_1 != a1_1) = true := bne_iff_ne.mpr c4
  obtain rfl := Option.some.inj H
  rotate_left
  rw [if_neg c3] at H
  have c3b0 : (a0_0 == a1_0) = false := beq_eq_false_iff_ne.mpr c3
  have c3b1 : (a0_0 != a1_0) = true := bne_iff_ne.mpr c3
  obtain rfl := Option.some.inj H
  all_goals
    go_enter Tryd.func17, Tryd.ntmps17
    go_wp2_with (first | ((with_reducible refine gate_dst (N := 2) rfl ?_); refine box_event ?hg (N := 2) ?hd (cs := #[.int .i64 a0_0, .int .i64 a0_1, .int .i64 a0_2, .slice A0_3 l0_3.length c0_3, .slice A0_4 l0_4.length c0_4]) (t := 36) ?hr ?_; (case hd => rfl); (case hg => rfl); (case hr => first | (go_simp; done) | (go_simp; rfl)); intro gb236 hg w25 hbox hb; have n0_ := Aside0.mk (below_step (by repeat (first | (with_reducible first | exact HB.out | apply below_alloc | apply pw_below_drewN | apply below_drew1) | exact HB.out)) hb); have n1_ := Aside0.mk (hbox); have n2_ := Aside0.mk ((by rw [hg]; exact (below_size (by repeat (first | (with_reducible first | exact HB.out | apply below_alloc | apply pw_below_drewN | apply below_drew1) | exact HB.out))) : w.heap.size ≤ gb236)); have n3_ := n2_; clear HB; have HB := n0_; have BK236 := n1_; have GW236 := n2_; have GE236 := n3_; clear n0_ n1_ n2_ n3_; clear hb hbox hg) | ((with_reducible refine gate_dst (N := 3) rfl ?_); refine box_event ?hg (N := 3) ?hd (cs := #[.int .i64 a1_0, .int .i64 a1_1, .int .i64 a1_2, .slice A1_3 l1_3.length c1_3, .slice A1_4 l1_4.length c1_4]) (t := 36) ?hr ?_; (case hd => rfl); (case hg => rfl); (case hr => first | (go_simp; done) | (go_simp; rfl)); intro gb237 hg w26 hbox hb; have n0_ := Aside0.mk (blk_below (g := gb236) (o := .cells #[.int .i64 a0_0, .int .i64 a0_1, .int .i64 a0_2, .slice A0_3 l0_3.length c0_3, .slice A0_4 l0_4.length c0_4] 36 (0, 0)) (by (with_reducible repeat (first | refine blk_drewN ?_ _ | refine blk_drew ?_ | refine blk_alloc ?_ _)); exact BK236.out) hb); have n1_ := Aside0.mk (below_step (by repeat (first | (with_reducible first | exact HB.out | apply below_alloc | apply pw_below_drewN | apply below_drew1 | refine below_set ?_ GE236.out) | exact HB.out)) hb); have n2_ := Aside0.mk (hbox); have n3_ := Aside0.mk ((by rw [hg]; exact (below_size (by repeat (first | (with_reducible first | exact HB.out | apply below_alloc | apply pw_below_drewN | apply below_drew1 | refine below_set ?_ GE236.out) | exact HB.out))) : w.heap.size ≤ gb237)); have n4_ := n3_; have n5_ := Aside0.mk ((by rw [hg]; exact Nat.ne_of_lt (blk_lt (g := gb236) (o := .cells #[.int .i64 a0_0, .int .i64 a0_1, .int .i64 a0_2, .slice A0_3 l0_3.length c0_3, .slice A0_4 l0_4.length c0_4] 36 (0, 0)) (by (with_reducible repeat (first | refine blk_drewN ?_ _ | refine blk_drew ?_ | refine blk_alloc ?_ _)); exact BK236.out)) : gb236 ≠ gb237)); have n6_ := Aside0.mk ((by rw [hg]; exact Nat.ne_of_gt (blk_lt (g := gb236) (o := .cells #[.int .i64 a0_0, .int .i64 a0_1, .int .i64 a0_2, .slice A0_3 l0_3.length c0_3, .slice A0_4 l0_4.length c0_4] 36 (0, 0)) (by (with_reducible repeat (first | refine blk_drewN ?_ _ | refine blk_drew ?_ | refine blk_alloc ?_ _)); exact BK236.out)) : gb237 ≠ gb236)); clear BK236; clear HB; have BK236 := n0_; have HB := n1_; have BK237 := n2_; have GW237 := n3_; have GE237 := n4_; have NB236_237 := n5_; have NB237_236 := n6_; clear n0_ n1_ n2_ n3_ n4_ n5_ n6_; clear hb hbox hg; have hnb27 := NB236_237.out; have hnc27 := NB237_236.out; have hcz28_0 : w26.cell? ⟨gb236, 0, none⟩ = some (.int .i64 a0_0) := (blk_cell BK236.out 0).trans rfl; have hcz28_1 : w26.cell? ⟨gb236, 1, none⟩ = some (.int .i64 a0_1) := (blk_cell BK236.out 1).trans rfl; have hcz28_2 : w26.cell? ⟨gb236, 2, none⟩ = some (.int .i64 a0_2) := (blk_cell BK236.out 2).trans rfl; have hcz28_3 : w26.cell? ⟨gb236, 3, none⟩ = some (.slice A0_3 l0_3.length c0_3) := (blk_cell BK236.out 3).trans rfl; have hcz28_4 : w26.cell? ⟨gb236, 4, none⟩ = some (.slice A0_4 l0_4.length c0_4) := (blk_cell BK236.out 4).trans rfl; have hfz28_0 := blk_frozen BK236.out 0; have hfz28_1 := blk_frozen BK236.out 1; have hfz28_2 := blk_frozen BK236.out 2; have hfz28_3 := blk_frozen BK236.out 3; have hfz28_4 := blk_frozen BK236.out 4; have hcz29_0 : w26.cell? ⟨gb237, 0, none⟩ = some (.int .i64 a1_0) := (blk_cell BK237.out 0).trans rfl; have hcz29_1 : w26.cell? ⟨gb237, 1, none⟩ = some (.int .i64 a1_1) := (blk_cell BK237.out 1).trans rfl; have hcz29_2 : w26.cell? ⟨gb237, 2, none⟩ = some (.int .i64 a1_2) := (blk_cell BK237.out 2).trans rfl; have hcz29_3 : w26.cell? ⟨gb237, 3, none⟩ = some (.slice A1_3 l1_3.length c1_3) := (blk_cell BK237.out 3).trans rfl; have hcz29_4 : w26.cell? ⟨gb237, 4, none⟩ = some (.slice A1_4 l1_4.length c1_4) := (blk_cell BK237.out 4).trans rfl; have hfz29_0 := blk_frozen BK237.out 0; have hfz29_1 := blk_frozen BK237.out 1; have hfz29_2 := blk_frozen BK237.out 2; have hfz29_3 := blk_frozen BK237.out 3; have hfz29_4 := blk_frozen BK237.out 4))
    go_ret
    exact ⟨by first | rfl | (simp [errW_none, errW_some] <;> rfl) | (simp [*, errW_none, errW_some] <;> rfl), by repeat (first | (with_reducible first | exact HB.out | apply below_alloc | apply pw_below_drewN | apply below_drew1 | refine below_set ?_ GE236.out | refine below_set ?_ GE237.out) | exact HB.out)⟩

/-! ### laws_markIntSS: function 32 -/
def laws_markIntSS.l0 : Nat → List (List Int) → Int → Int → Option (Int × List (List Int))
  | 0, _, _, _ => none
  | k + 1, x0, x1, x5 => if x5 < (x0.length : Int) then (if 0 ≤ x5 then ((laws_markIntS.f k (x0.getD (x5 : Int).toNat []) x1).bind fun b => laws_markIntSS.l0 k (x0.set (x5 : Int).toNat b.2) b.1 (wrap64 (x5 + 1))) else (none)) else (some (x1, x0))
def laws_markIntSS.f (k : Nat) (l0 : List (List Int)) (a1 : Int) : Option (Int × List (List Int)) := laws_markIntSS.l0 k l0 a1 0
theorem laws_markIntSS.mono_l : ∀ k, (∀ y0 y1 y2, LeO (laws_markIntSS.l0 k y0 y1 y2) (laws_markIntSS.l0 (k + 1) y0 y1 y2))
  | 0 => fun _ _ _ r h => by simp [laws_markIntSS.l0] at h
  | k + 1 => by
    have ih0 := laws_markIntSS.mono_l k
    · intro y0 y1 y2
      unfold laws_markIntSS.l0
      repeat' first
      | (with_reducible exact ih0 _ _ _)
      | (with_reducible exact laws_markIntS.mono _ _ _)
      | (with_reducible exact LeO.refl _)
      | (with_reducible exact LeO.none _)
      | (with_reducible refine LeO.ite ?_ ?_)
      | (with_reducible refine LeO.bind ?_ (fun _ => ?_))
      | exact ih0 _ _ _
      | exact laws_markIntS.mono _ _ _
      | exact LeO.none _
      | refine LeO.ite ?_ ?_
      | refine LeO.bind ?_ (fun _ => ?_)
theorem laws_markIntSS.mono : ∀ a0 a1 k, LeO (laws_markIntSS.f k a0 a1) (laws_markIntSS.f (k + 1) a0 a1) := by
  intro a0 a1 k
  have ih0 := laws_markIntSS.mono_l k
  unfold laws_markIntSS.f
  repeat' first
      | (with_reducible exact ih0 _ _ _)
      | (with_reducible exact laws_markIntS.mono _ _ _)
      | (with_reducible exact LeO.refl _)
      | (with_reducible exact LeO.none _)
      | (with_reducible refine LeO.ite ?_ ?_)
      | (with_reducible refine LeO.bind ?_ (fun _ => ?_))
      | exact ih0 _ _ _
      | exact laws_markIntS.mono _ _ _
      | exact LeO.none _
      | refine LeO.ite ?_ ?_
      | refine LeO.bind ?_ (fun _ => ?_)
set_option maxHeartbeats 8000000 in
set_option maxRecDepth 100000 in
theorem laws_markIntSS.calls (k : Nat) (P0_ : Nat → Prop) (u9000_ : Value) (l0 : List (List Int)) (a1 : Int) (r1 : Int) (r2 : List (List Int)) (w0 w : World) (hB : Below w0.heap.size w0 w) (ho0 : Kd.S (Kd.slice 3 (Kd.int .i64)) 22 w w0.heap.size P0_ u9000_ l0) (h : laws_markIntSS.f k l0 a1 = some (r1, r2)) :
    Calls Tryd.prog 32 #[u9000_, .int .i64 a1] w fun e w' => e = .returned (.int .i64 r1) ∧ Kd.S (Kd.slice 3 (Kd.int .i64)) 22 w' w0.heap.size (fun k_ => (P0_ k_ ∨ w.heap.size ≤ k_)) u9000_ r2 ∧ Below w0.heap.size w0 w' ∧ Kept w w' (fun k_ => P0_ k_) := by
  have HO0 := Aside0.mk (show Kd.S (Kd.slice 3 (Kd.int .i64)) 22 w w0.heap.size (fun k_ => (P0_ k_ ∨ w.heap.size ≤ k_)) u9000_ l0 from Kd.S_mono ho0 (fun k_ hk => (.inl hk)))
  have HK := Aside0.mk (Kept.refl w (fun k_ => P0_ k_))
  have HW0 := Aside0.mk hB.size
  have HB := Aside0.mk hB
  clear hB ho0
  have H : (laws_markIntSS.l0 k l0 a1 0) = some (r1, r2) := h
  clear h
  have H' := Aside0.mk H
  clear H
  go_enter Tryd.func32, Tryd.ntmps32
  go_wp2
  go_loopg [1, 5] k (fun kq v1 v5 w' => ∃ (x0_1 : List (List Int)) (x1_1 : Int) (x5_1 : Int), v1 = .int .i64 x1_1 ∧ v5 = .int .i64 x5_1 ∧ Aside0 (laws_markIntSS.l0 kq x0_1 x1_1 x5_1 = some (r1, r2)) ∧ Aside0 (kq ≤ k) ∧ Aside0 (Kd.S (Kd.slice 3 (Kd.int .i64)) 22 w' w0.heap.size (fun k_ => (P0_ k_ ∨ w.heap.size ≤ k_)) u9000_ x0_1) ∧ Aside0 (Kept w w' (fun k_ => P0_ k_)) ∧ Aside0 (Below w0.heap.size w0 w'))
  case atStart => exact ⟨l0, a1, 0, rfl, rfl, H', ⟨Nat.le_refl _⟩, HO0, HK, HB⟩
  case round =>
    clear H'
    obtain ⟨x0_1, x1_1, x5_1, rfl, rfl, HA, HK1, HO_0, HK, HB⟩ := hrel
    cases gk with
    | zero => exact absurd HA.out (by simp [laws_markIntSS.l0])
    | succ k1 =>
      have H := HA.out
      clear HA
      simp only [laws_markIntSS.l0] at H
      by_cases c3 : x5_1 < (x0_1.length : Int)
      rotate_left
      · rw [if_neg c3] at H
        have c3b0 : decide (x5_1 < (x0_1.length : Int)) = false := decide_eq_false c3
        clear c3
        simp only [Option.some.injEq, Prod.mk.injEq] at H
        obtain ⟨rfl, rfl⟩ := H
        obtain ⟨Ao9, co9, eo9⟩ := Kd.S_slice HO_0.out
        subst eo9
        go_wp2
        go_ret
        exact ⟨rfl, HO_0.out, HB.out, HK.out⟩
      rw [if_pos c3] at H
      have c3b0 : decide (x5_1 < (x0_1.length : Int)) = true := decide_eq_true c3
      by_cases c4 : 0 ≤ x5_1
      rotate_left
      · rw [if_neg c4] at H
        exact absurd H (by simp)
      rw [if_pos c4] at H
      have c4b0 : decide (0 ≤ x5_1) = true := decide_eq_true c4
      obtain ⟨y, hy⟩ : ∃ y_ : List Int, x0_1.getD (x5_1 : Int).toNat [] = y_ := ⟨_, rfl⟩
      rw [hy] at H
      replace H := Option.bind_eq_some_iff.mp H
      obtain ⟨⟨t1, t2⟩, A30, H⟩ := H
      have A3 := Aside0.mk A30
      clear A30
      have H' := Aside0.mk H
      clear H
      obtain ⟨g5, co5, eo5, gb5, gl5, cl5, HG5⟩ := Kd.S_form HO_0.out (by omega)
      subst eo5
      obtain ⟨oki, cs, hcl, hM, hcc, hoki, hH⟩ := Kd.S_lend HO_0.out [] x5_1 c4 (by exact c3)
      rw [hy] at hM
      clear hy HO0
      obtain ⟨v5, rfl, hR⟩ := hM
      have hx := hcc 0 v5 rfl
      have hx5 : wr.cell? ⟨g5, (x5_1 : Int).toNat, none⟩ = some v5 := by simpa [Kd.slice] using hx
      clear hx hcc hcl
      have HR := Aside0.mk hR
      have HH := Aside0.mk hH
      have HOK := Aside0.mk hoki
      have HMg := Aside0.mk (show (P0_ g5 ∨ w.heap.size ≤ g5) from (Kd.S_R HO_0.out).1 _ rfl)
      clear hR hH hoki HO_0 HG5 cl5
      obtain ⟨Ai, ci, ei⟩ := Kd.R_slice HR.out
      subst ei
      have C3 := Aside0.mk c3
      have C4 := Aside0.mk c4
      replace c3 := eq_true c3
      replace c4 := eq_true c4
      replace gb5 := Aside0.mk gb5
      replace gl5 := Aside0.mk gl5
      go_wp2_with (first | ((with_reducible refine gate_callee (f := 10) rfl ?_); refine goesL_ (some 17) rfl rfl Tryd.func10 (by kernel_rfl) rfl #[.slice Ai y.length ci, .int .i64 x1_1] rfl (by (try simp only [List.map_toArray, List.map_cons, List.map_nil]); first | done | rfl) ?_; (with_reducible refine (laws_markIntS.calls k1 oki (.slice Ai y.length ci) y x1_1 t1 t2 w0 wr HB.out HR.out A3.out).mono ?_); rintro e w9 ⟨rfl, hR9, hB9, hK9⟩; refine ⟨_, rfl, ?_⟩; have HR9 := Aside0.mk hR9; have HB9 := Aside0.mk hB9; have HK9 := Aside0.mk hK9; clear hR9 hB9 hK9))
      have HS9 : Aside0 (Kd.S (Kd.slice 3 (Kd.int .i64)) 22 w9 w0.heap.size (fun k_ => (P0_ k_ ∨ w.heap.size ≤ k_)) (.slice (some ⟨g5, 0, none⟩) x0_1.length co5) (x0_1.set (x5_1 : Int).toNat t2)) := ⟨by
        have hH9 := Kd.H_kept (Kd.H_widen HH.out) HK9.out (fun k_ _ hn hs => hn (.inl hs))
        refine Kd.H_back hH9 (okp := fun k_ => oki k_ ∨ wr.heap.size ≤ k_) ⟨_, rfl, ?_⟩ (fun k_ hk => hk.elim .inl (fun hge => .inr ⟨.inr (Nat.le_trans HK.out.1 hge), hge⟩))
        exact HR9.out⟩
      have HK' := Aside0.mk (Kept.then_ HK.out HK9.out (fun k_ hk => (HOK.out k_ hk).1))
      clear HK HB HR9 HK9 HH HR HOK
      have HB := HB9
      have HK := HK'
      clear HB9 HK'
      go_roundg k1
      case measure => have := HK1.out; omega
      case rel => exact ⟨x0_1.set (x5_1 : Int).toNat t2, t1, wrap64 (x5_1 + 1), (by first | rfl | (simp; done)), (by first | rfl | (simp; done) | (simp [*]; done)), H', ⟨by have := HK1.out; omega⟩, ⟨by simpa using HS9.out⟩, HK, HB⟩

/-! ### laws_markTones: function 18 -/
def laws_markTones.f (k : Nat) (l0_3 : List (List Int)) (l0_4 : List (List Int)) (a1 : Int) : Option Int := (laws_markIntSS.f k l0_3 a1).bind fun b => ((laws_markIntSS.f k l0_4 b.1).bind fun c => some c.1)
theorem laws_markTones.mono : ∀ a0 a1 a2 k, LeO (laws_markTones.f k a0 a1 a2) (laws_markTones.f (k + 1) a0 a1 a2) := by
  intro a0 a1 a2 k
  unfold laws_markTones.f
  repeat' first
      | (with_reducible exact laws_markIntSS.mono _ _ _)
      | (with_reducible exact LeO.refl _)
      | (with_reducible exact LeO.none _)
      | (with_reducible refine LeO.ite ?_ ?_)
      | (with_reducible refine LeO.bind ?_ (fun _ => ?_))
      | exact laws_markIntSS.mono _ _ _
      | exact LeO.none _
      | refine LeO.ite ?_ ?_
      | refine LeO.bind ?_ (fun _ => ?_)
set_option maxHeartbeats 8000000 in
set_option maxRecDepth 100000 in
theorem laws_markTones.calls (k : Nat) (a0_0 : Int) (a0_1 : Int) (a0_2 : Int) (P3_ P4_ : Nat → Prop) (u3 u4 : Value) (l0_3 l0_4 : List (List Int)) (a1 r : Int) (w0 w : World) (hB : Below w0.heap.size w0 w) (ho3 : Kd.S (Kd.slice 3 (Kd.int .i64)) 22 w w0.heap.size P3_ u3 l0_3) (ho4 : Kd.S (Kd.slice 3 (Kd.int .i64)) 22 w w0.heap.size P4_ u4 l0_4) (hp : ∀ k_, P4_ k_ → ¬ P3_ k_) (h : laws_markTones.f k l0_3 l0_4 a1 = some r) :
    Calls Tryd.prog 18 #[.agg #[.int .i64 a0_0, .int .i64 a0_1, .int .i64 a0_2, u3, u4], .int .i64 a1] w fun e w' => e = .returned (.int .i64 r) ∧ Below w0.heap.size w0 w' ∧ Kept w w' (fun k_ => P3_ k_ ∨ P4_ k_) := by
  have hu36 := Tryd.underlying36
  obtain ⟨A3, c3, e3⟩ := Kd.S_slice ho3
  subst e3
  obtain ⟨A4, c4, e4⟩ := Kd.S_slice ho4
  subst e4
  have HO3 := Aside0.mk ho3
  have HO4 := Aside0.mk ho4
  have HP := Aside0.mk hp
  have HB := Aside0.mk hB
  clear ho3 ho4 hp hB
  replace h := Option.bind_eq_some_iff.mp h
  obtain ⟨⟨t1, t2⟩, A20, h⟩ := h
  have E2 := Aside0.mk A20
  clear A20
  replace h := Option.bind_eq_some_iff.mp h
  obtain ⟨⟨t3, t4⟩, A30, h⟩ := h
  have E3 := Aside0.mk (show laws_markIntSS.f k l0_4 t1 = some (t3, t4) from A30)
  clear A30
  obtain rfl := Option.some.inj h
  clear h
  go_enter Tryd.func18, Tryd.ntmps18
  go_wp2_with (first | ((with_reducible refine gate_dst (N := 2) rfl ?_); refine box_event ?hg (N := 2) ?hd (cs := #[.int .i64 a0_0, .int .i64 a0_1, .int .i64 a0_2, .slice A3 l0_3.length c3, .slice A4 l0_4.length c4]) (t := 36) ?hr ?_; (case hd => rfl); (case hg => rfl); (case hr => first | (go_simp; done) | (go_simp; rfl)); intro g2 hg w1 hbox hb; have BK := Aside0.mk hbox; have GE := Aside0.mk (show w.heap.size ≤ g2 from Nat.le_of_eq hg.symm); have HB1 := Aside0.mk hb; have n3 := Aside0.mk (Kd.S_below HO3.out hb); have n4 := Aside0.mk (Kd.S_below HO4.out hb); have nB := Aside0.mk (below_step HB.out hb); have S3 := Aside0.mk (Kd.S_lt HO3.out); clear hg hbox hb; have hcz0 : w1.cell? ⟨g2, 0, none⟩ = some (.int .i64 a0_0) := (blk_cell BK.out 0).trans rfl; have hcz1 : w1.cell? ⟨g2, 1, none⟩ = some (.int .i64 a0_1) := (blk_cell BK.out 1).trans rfl; have hcz2 : w1.cell? ⟨g2, 2, none⟩ = some (.int .i64 a0_2) := (blk_cell BK.out 2).trans rfl; have hcz3 : w1.cell? ⟨g2, 3, none⟩ = some (.slice A3 l0_3.length c3) := (blk_cell BK.out 3).trans rfl; have hcz4 : w1.cell? ⟨g2, 4, none⟩ = some (.slice A4 l0_4.length c4) := (blk_cell BK.out 4).trans rfl) | ((with_reducible refine gate_callee (f := 32) rfl ?_); refine goesL_ (some 8) rfl rfl Tryd.func32 (by kernel_rfl) rfl #[.slice A3 l0_3.length c3, .int .i64 a1] rfl (by (try simp only [List.map_toArray, List.map_cons, List.map_nil]); first | done | rfl) ?_; (with_reducible refine (laws_markIntSS.calls k (fun k_ => P3_ k_ ∧ k_ < w.heap.size) (.slice A3 l0_3.length c3) l0_3 a1 t1 t2 w0 w1 nB.out ?side1 E2.out).mono ?_); (case side1 => exact Kd.S_below (Kd.S_mono (Kd.S_bound HO3.out) (fun k_ hk => ⟨hk.1, hk.2.2.1⟩)) HB1.out); rintro e w2 ⟨rfl, ho, hb, hk⟩; refine ⟨_, rfl, ?_⟩; have BK2 := Aside0.mk (blk_kept BK.out hk (fun h_ => by have h2_ := h_.2; have := GE.out; omega)); have n42 := Aside0.mk (Kd.S_kept n4.out hk (fun k_ a_ b_ => HP.out k_ a_ b_.1)); have HB2 := Aside0.mk hb; have HK2 := Aside0.mk hk; have SZ2 := Aside0.mk hk.1; clear BK n3 n4 hb hk ho nB hcz0 hcz1 hcz2 hcz3 hcz4; have BK := BK2; have hcz0 : w2.cell? ⟨g2, 0, none⟩ = some (.int .i64 a0_0) := (blk_cell BK.out 0).trans rfl; have hcz1 : w2.cell? ⟨g2, 1, none⟩ = some (.int .i64 a0_1) := (blk_cell BK.out 1).trans rfl; have hcz2 : w2.cell? ⟨g2, 2, none⟩ = some (.int .i64 a0_2) := (blk_cell BK.out 2).trans rfl; have hcz3 : w2.cell? ⟨g2, 3, none⟩ = some (.slice A3 l0_3.length c3) := (blk_cell BK.out 3).trans rfl; have hcz4 : w2.cell? ⟨g2, 4, none⟩ = some (.slice A4 l0_4.length c4) := (blk_cell BK.out 4).trans rfl) | ((with_reducible refine gate_callee (f := 32) rfl ?_); refine goesL_ (some 12) rfl rfl Tryd.func32 (by kernel_rfl) rfl #[.slice A4 l0_4.length c4, .int .i64 t1] rfl (by (try simp only [List.map_toArray, List.map_cons, List.map_nil]); first | done | rfl) ?_; (with_reducible refine (laws_markIntSS.calls k P4_ (.slice A4 l0_4.length c4) l0_4 t1 t3 t4 w0 w2 HB2.out n42.out E3.out).mono ?_); rintro e w3 ⟨rfl, ho, hb, hk⟩; refine ⟨_, rfl, ?_⟩; have HB3 := Aside0.mk hb; have HK3 := Aside0.mk hk; clear ho hb hk hcz0 hcz1 hcz2 hcz3 hcz4))
  go_ret
  refine ⟨rfl, HB3.out, ?_⟩
  exact ((Kept.of_below HB1.out _).then_ HK2.out (fun k_ h_ => .inl (.inl h_.1))).then_ HK3.out (fun k_ h_ => .inl (.inr h_))

/-! ### laws_heldIntS: function 19 -/
def laws_heldIntS.l0 : Nat → List Int → Int → Int → Option (Int)
  | 0, _, _, _ => none
  | k + 1, x0, x1, x5 => if x5 < (x0.length : Int) then (if 0 ≤ x5 then (if (rd x0 x5) = x1 then (laws_heldIntS.l0 k x0 (wrap64 (x1 + 1)) (wrap64 (x5 + 1))) else (some (-1))) else (none)) else (some x1)
def laws_heldIntS.f (k : Nat) (l0 : List Int) (a1 : Int) : Option (Int) := laws_heldIntS.l0 k l0 a1 0
theorem laws_heldIntS.mono_l : ∀ k, (∀ y0 y1 y2, LeO (laws_heldIntS.l0 k y0 y1 y2) (laws_heldIntS.l0 (k + 1) y0 y1 y2))
  | 0 => fun _ _ _ r h => by simp [laws_heldIntS.l0] at h
  | k + 1 => by
    have ih0 := laws_heldIntS.mono_l k
    · intro y0 y1 y2
      unfold laws_heldIntS.l0
      repeat' first
      | (with_reducible exact ih0 _ _ _)
      | (with_reducible exact LeO.refl _)
      | (with_reducible exact LeO.none _)
      | (with_reducible refine LeO.ite ?_ ?_)
      | (with_reducible refine LeO.bind ?_ (fun _ => ?_))
      | exact ih0 _ _ _
      | exact LeO.none _
      | refine LeO.ite ?_ ?_
      | refine LeO.bind ?_ (fun _ => ?_)
theorem laws_heldIntS.mono : ∀ a0 a1 k, LeO (laws_heldIntS.f k a0 a1) (laws_heldIntS.f (k + 1) a0 a1) := by
  intro a0 a1 k
  have ih0 := laws_heldIntS.mono_l k
  unfold laws_heldIntS.f
  repeat' first
      | (with_reducible exact ih0 _ _ _)
      | (with_reducible exact LeO.refl _)
      | (with_reducible exact LeO.none _)
      | (with_reducible refine LeO.ite ?_ ?_)
      | (with_reducible refine LeO.bind ?_ (fun _ => ?_))
      | exact ih0 _ _ _
      | exact LeO.none _
      | refine LeO.ite ?_ ?_
      | refine LeO.bind ?_ (fun _ => ?_)
set_option maxHeartbeats 8000000 in
set_option maxRecDepth 100000 in
theorem laws_heldIntS.calls (k : Nat) (A0 : Option Addr) (c0 : Nat) (l0 : List Int) (a1 : Int) (r : Int) (w : World) (hr0 : Kd.C (Kd.int .i64) w A0 l0.length l0) (hc0 : l0.length ≤ c0) (h : laws_heldIntS.f k l0 a1 = some r) :
    Calls Tryd.prog 19 #[.slice A0 l0.length c0, .int .i64 a1] w fun e w' => e = .returned (.int .i64 r) ∧ Drawn0 w w' := by
  have HR0 := Aside0.mk hr0
  have HC0 := Aside0.mk hc0
  clear hr0 hc0
  have H : (laws_heldIntS.l0 k l0 a1 0) = some r := h
  clear h
  have H' := Aside0.mk H
  clear H
  go_enter Tryd.func19, Tryd.ntmps19
  go_wp2
  go_loopg [1, 5] k (fun kq v1 v5 w' => ∃ (x1_1 : Int) (x5_1 : Int), v1 = .int .i64 x1_1 ∧ v5 = .int .i64 x5_1 ∧ Aside0 (laws_heldIntS.l0 kq l0 x1_1 x5_1 = some r) ∧ Aside0 (kq ≤ k) ∧ Drawn0 w w')
  case atStart => exact ⟨(a1), (0), (by first | rfl | (simp; done) | (simp [*]; done)), (by first | rfl | (simp; done) | (simp [*]; done)), H', ⟨Nat.le_refl _⟩, by repeat (first | exact Drawn0.refl _ | apply Drawn0.step)⟩
  case round =>
    clear H'
    try clear c1
    try clear p2
    obtain ⟨x1_1, x5_1, rfl, rfl, HA, HK1, ⟨m1, rfl⟩⟩ := hrel
    cases gk with
    | zero => exact absurd HA.out (by simp [laws_heldIntS.l0])
    | succ k1 =>
      have H := HA.out
      clear HA
      simp only [laws_heldIntS.l0] at H
      by_cases c3 : x5_1 < (l0.length : Int)
      · rw [if_pos c3] at H
        have c3b0 : decide (x5_1 < (l0.length : Int)) = true := decide_eq_true c3
        clear c3
        by_cases c4 : 0 ≤ x5_1
        · rw [if_pos c4] at H
          have c4b0 : decide (0 ≤ x5_1) = true := decide_eq_true c4
          clear c4
          by_cases c5 : (rd l0 x5_1) = x1_1
          · rw [if_pos c5] at H
            have c5b0 : ((rd l0 x5_1) == x1_1) = true := beq_iff_eq.mpr c5
            have c5b1 : ((rd l0 x5_1) != x1_1) = false := bne_eq_false_iff_eq.mpr c5
            clear c5
            have H' := Aside0.mk H
            clear H
            have p240 : 0 ≤ (x5_1 : Int) := of_decide_eq_true (by first | (with_reducible assumption) | assumption)
            have q240 : x5_1 < (l0.length : Int) := of_decide_eq_true (by first | (with_reducible assumption) | assumption)
            obtain ⟨ad240, e240, hx240_0⟩ := Kd.at_int HR0.out x5_1 p240 q240
            cases e240
            replace p240 := eq_true p240
            replace q240 := eq_true q240
            go_wp2
            go_roundg k1
            case measure => have := HK1.out; omega
            case rel => exact ⟨(wrap64 (x1_1 + 1)), (wrap64 (x5_1 + 1)), (by first | rfl | (simp; done) | (simp [*]; done)), (by first | rfl | (simp; done) | (simp [*]; done)), H', ⟨by have := HK1.out; omega⟩, by repeat (first | exact Drawn0.refl _ | apply Drawn0.step)⟩
          · rw [if_neg c5] at H
            have c5b0 : ((rd l0 x5_1) == x1_1) = false := beq_eq_false_iff_ne.mpr c5
            have c5b1 : ((rd l0 x5_1) != x1_1) = true := bne_iff_ne.mpr c5
            obtain rfl := Option.some.inj H
            have p240 : 0 ≤ (x5_1 : Int) := of_decide_eq_true (by first | (with_reducible assumption) | assumption)
            have q240 : x5_1 < (l0.length : Int) := of_decide_eq_true (by first | (with_reducible assumption) | assumption)
            obtain ⟨ad240, e240, hx240_0⟩ := Kd.at_int HR0.out x5_1 p240 q240
            cases e240
            replace p240 := eq_true p240
            replace q240 := eq_true q240
            go_wp2
            go_ret
            exact ⟨by first | rfl | (simp; done) | (simp [*]; done), by repeat (first | exact Drawn0.refl _ | apply Drawn0.step)⟩
        · rw [if_neg c4] at H
          exact absurd H (by simp)
      · rw [if_neg c3] at H
        have c3b0 : decide (x5_1 < (l0.length : Int)) = false := decide_eq_false c3
        clear c3
        obtain rfl := Option.some.inj H
        go_wp2
        go_ret
        exact ⟨by first | rfl | (simp; done) | (simp [*]; done), by repeat (first | exact Drawn0.refl _ | apply Drawn0.step)⟩

/-! ### laws_FnExactSoundOf: function 4 -/
def laws_FnExactSoundOf.Pure : Prop := ∀ (a0_0 : Int) (a0_1 : Int) (a0_2 : Int) (l0_3 : List (List Int)) (l0_4 : List (List Int)), ((Lit.int .i64 a0_0).wf = true ∧ (Lit.int .i64 a0_1).wf = true ∧ (Lit.int .i64 a0_2).wf = true ∧ (l0_3.length ≤ maxLen ∧ ∀ y0 ∈ l0_3, (y0.length ≤ maxLen ∧ ∀ y1 ∈ y0, (Lit.int .i64 y1).wf = true)) ∧ (l0_4.length ≤ maxLen ∧ ∀ y0 ∈ l0_4, (y0.length ≤ maxLen ∧ ∀ y1 ∈ y0, (Lit.int .i64 y1).wf = true))) → ∃ (k : Nat) (s : Int), laws_szTones.f k a0_0 a0_1 a0_2 l0_3 l0_4 1048576 = some s ∧ (s < 0 ∨ 0 ≤ s ∧ ∃ (r : List Int) (ka m : Int) (r' : List Int), laws_toTones.f k a0_0 a0_1 a0_2 l0_3 l0_4 = some (a0_0, a0_1, a0_2, l0_3, l0_4) ∧ spec_SoundOf.f k a0_0 a0_1 a0_2 l0_3 l0_4 = some r ∧ impl_SoundOf.f k a0_0 a0_1 a0_2 l0_3 l0_4 = some r ∧ laws_eqIntS.f k r r = some true ∧ laws_eqTones.f k a0_0 a0_1 a0_2 l0_3 l0_4 a0_0 a0_1 a0_2 l0_3 l0_4 = some true ∧ laws_markTones.f k l0_3 l0_4 1 = some ka ∧ 0 ≤ ka ∧ laws_markIntS.f k r 1 = some (m, r') ∧ 0 ≤ m ∧ laws_heldIntS.f k r' 1 = some m)
set_option maxHeartbeats 8000000 in
set_option maxRecDepth 100000 in
theorem laws_FnExactSoundOf.walk (P : laws_FnExactSoundOf.Pure) (a0_0 : Int) (a0_1 : Int) (a0_2 : Int) (A0_3 : Option Addr) (c0_3 : Nat) (l0_3 : List (List Int)) (A0_4 : Option Addr) (c0_4 : Nat) (l0_4 : List (List Int)) (w : World) (hr0_3 : Kd.C (Kd.slice 3 (Kd.int .i64)) w A0_3 l0_3.length l0_3) (hc0_3 : l0_3.length ≤ c0_3) (hr0_4 : Kd.C (Kd.slice 3 (Kd.int .i64)) w A0_4 l0_4.length l0_4) (hc0_4 : l0_4.length ≤ c0_4) (wf0 : ((Lit.int .i64 a0_0).wf = true ∧ (Lit.int .i64 a0_1).wf = true ∧ (Lit.int .i64 a0_2).wf = true ∧ (l0_3.length ≤ maxLen ∧ ∀ y0 ∈ l0_3, (y0.length ≤ maxLen ∧ ∀ y1 ∈ y0, (Lit.int .i64 y1).wf = true)) ∧ (l0_4.length ≤ maxLen ∧ ∀ y0 ∈ l0_4, (y0.length ≤ maxLen ∧ ∀ y1 ∈ y0, (Lit.int .i64 y1).wf = true)))) (hM : MX w) :
    Calls Tryd.prog 4 #[.agg #[.int .i64 a0_0, .int .i64 a0_1, .int .i64 a0_2, .slice A0_3 l0_3.length c0_3, .slice A0_4 l0_4.length c0_4]] w fun e w' => e = .returned (.bool true) ∧ Below w.heap.size w w' := by
  obtain ⟨k, s, E1, ES⟩ := P a0_0 a0_1 a0_2 l0_3 l0_4 wf0
  clear P wf0
  have hu33 := Tryd.underlying33
  have hu36 := Tryd.underlying36
  have HM := Aside0.mk hM
  clear hM
  have HR3 := Aside0.mk hr0_3
  have HC3 := Aside0.mk hc0_3
  have HR4 := Aside0.mk hr0_4
  have HC4 := Aside0.mk hc0_4
  clear hr0_3 hc0_3 hr0_4 hc0_4
  have HB := Aside0.mk (Below.refl w.heap.size w)
  have E1 := Aside0.mk E1
  have ES := Aside0.mk ES
  by_cases cs : s < 0
  · have cb : decide (s < 0) = true := decide_eq_true cs
    clear ES cs
    go_enter Tryd.func4, Tryd.ntmps4
    go_upto_region 2 with (first | ((with_reducible refine gate_dst (N := 1) rfl ?_); refine box_event ?hg (N := 1) ?hd (cs := #[.int .i64 a0_0, .int .i64 a0_1, .int .i64 a0_2, .slice A0_3 l0_3.length c0_3, .slice A0_4 l0_4.length c0_4]) (t := 33) ?hr ?_; (case hd => rfl); (case hg => rfl); (case hr => first | (go_simp; done) | (go_simp; rfl)); intro g1 hg w_1 hbox hb; have n_HB := Aside0.mk (below_step HB.out hb); have SZw_1 := Aside0.mk hb.size; clear HB; have HB := n_HB; clear n_HB; have BKg1 := Aside0.mk hbox; have GLg1 := Aside0.mk (show w.heap.size ≤ g1 from Nat.le_of_eq hg.symm); have GHg1 := Aside0.mk (blk_lt hbox); clear hg hbox hb; have hcz_g1_0 : (w_1).cell? ⟨g1, 0, none⟩ = some (.int .i64 a0_0) := (blk_cell BKg1.out 0).trans rfl; have hcz_g1_1 : (w_1).cell? ⟨g1, 1, none⟩ = some (.int .i64 a0_1) := (blk_cell BKg1.out 1).trans rfl; have hcz_g1_2 : (w_1).cell? ⟨g1, 2, none⟩ = some (.int .i64 a0_2) := (blk_cell BKg1.out 2).trans rfl; have hcz_g1_3 : (w_1).cell? ⟨g1, 3, none⟩ = some (.slice A0_3 l0_3.length c0_3) := (blk_cell BKg1.out 3).trans rfl; have hcz_g1_4 : (w_1).cell? ⟨g1, 4, none⟩ = some (.slice A0_4 l0_4.length c0_4) := (blk_cell BKg1.out 4).trans rfl; have hfz_g1_0 := blk_frozen BKg1.out 0; have hfz_g1_1 := blk_frozen BKg1.out 1; have hfz_g1_2 := blk_frozen BKg1.out 2; have hfz_g1_3 := blk_frozen BKg1.out 3; have hfz_g1_4 := blk_frozen BKg1.out 4))
    go_wp2_with (first | ((with_reducible refine gate_callee (f := 13) rfl ?_); refine goesL_ (some 13) rfl rfl Tryd.func13 (by kernel_rfl) rfl #[.agg #[.int .i64 a0_0, .int .i64 a0_1, .int .i64 a0_2, .slice A0_3 l0_3.length c0_3, .slice A0_4 l0_4.length c0_4], .int .i64 1048576] rfl (by (try simp only [List.map_toArray, List.map_cons, List.map_nil]); first | done | rfl) ?_; (with_reducible refine (laws_szTones.calls k a0_0 a0_1 a0_2 _ _ l0_3 _ _ l0_4 1048576 s _ ?side1 ?side2 ?side3 ?side4 E1.out).mono ?_); (case side1 => exact Kd.C_below HR3.out HB.out); (case side2 => exact HC3.out); (case side3 => exact Kd.C_below HR4.out HB.out); (case side4 => exact HC4.out); rintro e w_2 ⟨rfl, hb⟩; refine ⟨_, rfl, ?_⟩; clear hcz_g1_0 hcz_g1_1 hcz_g1_2 hcz_g1_3 hcz_g1_4 hfz_g1_0 hfz_g1_1 hfz_g1_2 hfz_g1_3 hfz_g1_4; have n_HB := Aside0.mk (below_step HB.out hb); have SZw_2 := Aside0.mk hb.size; have n_BKg1 := Aside0.mk (blk_below BKg1.out hb); clear HB BKg1; have HB := n_HB; have BKg1 := n_BKg1; clear n_HB n_BKg1; clear hb; have hcz_g1_0 : (w_2).cell? ⟨g1, 0, none⟩ = some (.int .i64 a0_0) := (blk_cell BKg1.out 0).trans rfl; have hcz_g1_1 : (w_2).cell? ⟨g1, 1, none⟩ = some (.int .i64 a0_1) := (blk_cell BKg1.out 1).trans rfl; have hcz_g1_2 : (w_2).cell? ⟨g1, 2, none⟩ = some (.int .i64 a0_2) := (blk_cell BKg1.out 2).trans rfl; have hcz_g1_3 : (w_2).cell? ⟨g1, 3, none⟩ = some (.slice A0_3 l0_3.length c0_3) := (blk_cell BKg1.out 3).trans rfl; have hcz_g1_4 : (w_2).cell? ⟨g1, 4, none⟩ = some (.slice A0_4 l0_4.length c0_4) := (blk_cell BKg1.out 4).trans rfl; have hfz_g1_0 := blk_frozen BKg1.out 0; have hfz_g1_1 := blk_frozen BKg1.out 1; have hfz_g1_2 := blk_frozen BKg1.out 2; have hfz_g1_3 := blk_frozen BKg1.out 3; have hfz_g1_4 := blk_frozen BKg1.out 4))
    go_ret
    exact ⟨rfl, HB.out⟩
  have cb : decide (s < 0) = false := decide_eq_false cs
  obtain ⟨hs, r, ka, m, r', E2, E3, E4, E5, E6, E7, hka, E8, hm, E9⟩ := ES.out.resolve_left cs
  clear ES cs hs
  replace E2 := Aside0.mk E2
  replace E3 := Aside0.mk E3
  replace E4 := Aside0.mk E4
  replace E5 := Aside0.mk E5
  replace E6 := Aside0.mk E6
  replace E7 := Aside0.mk E7
  replace E8 := Aside0.mk E8
  replace E9 := Aside0.mk E9
  have cka : decide (ka < 0) = false := decide_eq_false (by omega)
  have cm : decide (m < 0) = false := decide_eq_false (by omega)
  clear hka hm
  go_enter Tryd.func4, Tryd.ntmps4
  go_upto_region 2 with (first | ((with_reducible refine gate_dst (N := 1) rfl ?_); refine box_event ?hg (N := 1) ?hd (cs := #[.int .i64 a0_0, .int .i64 a0_1, .int .i64 a0_2, .slice A0_3 l0_3.length c0_3, .slice A0_4 l0_4.length c0_4]) (t := 33) ?hr ?_; (case hd => rfl); (case hg => rfl); (case hr => first | (go_simp; done) | (go_simp; rfl)); intro g1 hg w_1 hbox hb; have n_HB := Aside0.mk (below_step HB.out hb); have SZw_1 := Aside0.mk hb.size; clear HB; have HB := n_HB; clear n_HB; have BKg1 := Aside0.mk hbox; have GLg1 := Aside0.mk (show w.heap.size ≤ g1 from Nat.le_of_eq hg.symm); have GHg1 := Aside0.mk (blk_lt hbox); clear hg hbox hb; have hcz_g1_0 : (w_1).cell? ⟨g1, 0, none⟩ = some (.int .i64 a0_0) := (blk_cell BKg1.out 0).trans rfl; have hcz_g1_1 : (w_1).cell? ⟨g1, 1, none⟩ = some (.int .i64 a0_1) := (blk_cell BKg1.out 1).trans rfl; have hcz_g1_2 : (w_1).cell? ⟨g1, 2, none⟩ = some (.int .i64 a0_2) := (blk_cell BKg1.out 2).trans rfl; have hcz_g1_3 : (w_1).cell? ⟨g1, 3, none⟩ = some (.slice A0_3 l0_3.length c0_3) := (blk_cell BKg1.out 3).trans rfl; have hcz_g1_4 : (w_1).cell? ⟨g1, 4, none⟩ = some (.slice A0_4 l0_4.length c0_4) := (blk_cell BKg1.out 4).trans rfl; have hfz_g1_0 := blk_frozen BKg1.out 0; have hfz_g1_1 := blk_frozen BKg1.out 1; have hfz_g1_2 := blk_frozen BKg1.out 2; have hfz_g1_3 := blk_frozen BKg1.out 3; have hfz_g1_4 := blk_frozen BKg1.out 4))
  go_upto_region 5 with (first | ((with_reducible refine gate_callee (f := 13) rfl ?_); refine goesL_ (some 13) rfl rfl Tryd.func13 (by kernel_rfl) rfl #[.agg #[.int .i64 a0_0, .int .i64 a0_1, .int .i64 a0_2, .slice A0_3 l0_3.length c0_3, .slice A0_4 l0_4.length c0_4], .int .i64 1048576] rfl (by (try simp only [List.map_toArray, List.map_cons, List.map_nil]); first | done | rfl) ?_; (with_reducible refine (laws_szTones.calls k a0_0 a0_1 a0_2 _ _ l0_3 _ _ l0_4 1048576 s _ ?side1 ?side2 ?side3 ?side4 E1.out).mono ?_); (case side1 => exact Kd.C_below HR3.out HB.out); (case side2 => exact HC3.out); (case side3 => exact Kd.C_below HR4.out HB.out); (case side4 => exact HC4.out); rintro e w_2 ⟨rfl, hb⟩; refine ⟨_, rfl, ?_⟩; clear hcz_g1_0 hcz_g1_1 hcz_g1_2 hcz_g1_3 hcz_g1_4 hfz_g1_0 hfz_g1_1 hfz_g1_2 hfz_g1_3 hfz_g1_4; have n_HB := Aside0.mk (below_step HB.out hb); have SZw_2 := Aside0.mk hb.size; have n_BKg1 := Aside0.mk (blk_below BKg1.out hb); clear HB BKg1; have HB := n_HB; have BKg1 := n_BKg1; clear n_HB n_BKg1; clear hb; have hcz_g1_0 : (w_2).cell? ⟨g1, 0, none⟩ = some (.int .i64 a0_0) := (blk_cell BKg1.out 0).trans rfl; have hcz_g1_1 : (w_2).cell? ⟨g1, 1, none⟩ = some (.int .i64 a0_1) := (blk_cell BKg1.out 1).trans rfl; have hcz_g1_2 : (w_2).cell? ⟨g1, 2, none⟩ = some (.int .i64 a0_2) := (blk_cell BKg1.out 2).trans rfl; have hcz_g1_3 : (w_2).cell? ⟨g1, 3, none⟩ = some (.slice A0_3 l0_3.length c0_3) := (blk_cell BKg1.out 3).trans rfl; have hcz_g1_4 : (w_2).cell? ⟨g1, 4, none⟩ = some (.slice A0_4 l0_4.length c0_4) := (blk_cell BKg1.out 4).trans rfl; have hfz_g1_0 := blk_frozen BKg1.out 0; have hfz_g1_1 := blk_frozen BKg1.out 1; have hfz_g1_2 := blk_frozen BKg1.out 2; have hfz_g1_3 := blk_frozen BKg1.out 3; have hfz_g1_4 := blk_frozen BKg1.out 4))
  go_upto_region 6 with (first | ((with_reducible refine gate_callee (f := 15) rfl ?_); refine goesL_ (some 17) rfl rfl Tryd.func15 (by kernel_rfl) rfl #[.agg #[.int .i64 a0_0, .int .i64 a0_1, .int .i64 a0_2, .slice A0_3 l0_3.length c0_3, .slice A0_4 l0_4.length c0_4]] rfl (by (try simp only [List.map_toArray, List.map_cons, List.map_nil]); first | done | rfl) ?_; (with_reducible refine (laws_toTones.calls k a0_0 a0_1 a0_2 _ _ l0_3 _ _ l0_4 a0_0 a0_1 a0_2 l0_3 l0_4 _ ?side1 ?side2 ?side3 ?side4 E2.out).mono ?_); (case side1 => exact Kd.C_below HR3.out HB.out); (case side2 => exact HC3.out); (case side3 => exact Kd.C_below HR4.out HB.out); (case side4 => exact HC4.out); rintro e w_3 ⟨vx3, vx4, mx, rfl, ⟨hmax, hmbx⟩, hox3, hox4, hb⟩; have SMax := Aside0.mk hmax; have SMbx := Aside0.mk hmbx; clear hmax hmbx; refine ⟨_, rfl, ?_⟩; clear hcz_g1_0 hcz_g1_1 hcz_g1_2 hcz_g1_3 hcz_g1_4 hfz_g1_0 hfz_g1_1 hfz_g1_2 hfz_g1_3 hfz_g1_4; have n_HB := Aside0.mk (below_step HB.out hb); have SZw_3 := Aside0.mk hb.size; have n_BKg1 := Aside0.mk (blk_below BKg1.out hb); clear HB BKg1; have HB := n_HB; have BKg1 := n_BKg1; clear n_HB n_BKg1; have HOx3 := Aside0.mk (show Kd.S (Kd.slice 3 (Kd.int .i64)) 22 w_3 w.heap.size (fun k_ => w_2.heap.size ≤ k_ ∧ k_ < mx) vx3 l0_3 from Kd.S_lower (Kd.S_mono (Kd.S_bound hox3) (fun k_ hk => ⟨hk.1.1, hk.1.2⟩)) (by have := SZw_1.out; have := SZw_2.out; have := SMax.out; have := SMbx.out; have := SZw_3.out; omega)); obtain ⟨Ax3, cx3, ex3⟩ := Kd.S_slice HOx3.out; subst ex3; have HOx4 := Aside0.mk (show Kd.S (Kd.slice 3 (Kd.int .i64)) 22 w_3 w.heap.size (fun k_ => mx ≤ k_ ∧ k_ < w_3.heap.size) vx4 l0_4 from Kd.S_lower (Kd.S_mono (Kd.S_bound hox4) (fun k_ hk => ⟨hk.1.1, hk.1.2⟩)) (by have := SZw_1.out; have := SZw_2.out; have := SMax.out; have := SMbx.out; have := SZw_3.out; omega)); obtain ⟨Ax4, cx4, ex4⟩ := Kd.S_slice HOx4.out; subst ex4; clear hb hox3 hox4; have hcz_g1_0 : (w_3).cell? ⟨g1, 0, none⟩ = some (.int .i64 a0_0) := (blk_cell BKg1.out 0).trans rfl; have hcz_g1_1 : (w_3).cell? ⟨g1, 1, none⟩ = some (.int .i64 a0_1) := (blk_cell BKg1.out 1).trans rfl; have hcz_g1_2 : (w_3).cell? ⟨g1, 2, none⟩ = some (.int .i64 a0_2) := (blk_cell BKg1.out 2).trans rfl; have hcz_g1_3 : (w_3).cell? ⟨g1, 3, none⟩ = some (.slice A0_3 l0_3.length c0_3) := (blk_cell BKg1.out 3).trans rfl; have hcz_g1_4 : (w_3).cell? ⟨g1, 4, none⟩ = some (.slice A0_4 l0_4.length c0_4) := (blk_cell BKg1.out 4).trans rfl; have hfz_g1_0 := blk_frozen BKg1.out 0; have hfz_g1_1 := blk_frozen BKg1.out 1; have hfz_g1_2 := blk_frozen BKg1.out 2; have hfz_g1_3 := blk_frozen BKg1.out 3; have hfz_g1_4 := blk_frozen BKg1.out 4) | ((with_reducible refine gate_callee (f := 14) rfl ?_); refine goesL_ (some 18) rfl rfl Tryd.func14 (by kernel_rfl) rfl #[.agg #[.int .i64 a0_0, .int .i64 a0_1, .int .i64 a0_2, .slice Ax3 l0_3.length cx3, .slice Ax4 l0_4.length cx4]] rfl (by (try simp only [List.map_toArray, List.map_cons, List.map_nil]); first | done | rfl) ?_; (with_reducible refine (spec_SoundOf.calls k a0_0 a0_1 a0_2 _ _ l0_3 _ _ l0_4 r _ ?side1 ?side2 ?side3 ?side4 E3.out).mono ?_); (case side1 => exact (Kd.S_reads' HOx3.out).2.2); (case side2 => exact (Kd.S_reads' HOx3.out).2.1); (case side3 => exact (Kd.S_reads' HOx4.out).2.2); (case side4 => exact (Kd.S_reads' HOx4.out).2.1); rintro e w_4 ⟨vw0, rfl, how0, hb⟩; refine ⟨_, rfl, ?_⟩; clear hcz_g1_0 hcz_g1_1 hcz_g1_2 hcz_g1_3 hcz_g1_4 hfz_g1_0 hfz_g1_1 hfz_g1_2 hfz_g1_3 hfz_g1_4; have n_HB := Aside0.mk (below_step HB.out hb); have SZw_4 := Aside0.mk hb.size; have n_BKg1 := Aside0.mk (blk_below BKg1.out hb); have n_HOx3 := Aside0.mk (Kd.S_below HOx3.out hb); have n_HOx4 := Aside0.mk (Kd.S_below HOx4.out hb); clear HB BKg1 HOx3 HOx4; have HB := n_HB; have BKg1 := n_BKg1; have HOx3 := n_HOx3; have HOx4 := n_HOx4; clear n_HB n_BKg1 n_HOx3 n_HOx4; have HOw0 := Aside0.mk (show Kd.R (Kd.int .i64) 3 w_4 w.heap.size (fun k_ => w_3.heap.size ≤ k_ ∧ k_ < w_4.heap.size) vw0 r from Kd.R_lower (Kd.R_mono (Kd.R_bound how0) (fun k_ hk => ⟨hk.2.1, hk.2.2.1⟩)) (by have := SZw_1.out; have := SZw_2.out; have := SMax.out; have := SMbx.out; have := SZw_3.out; have := SZw_4.out; omega)); obtain ⟨Aw0, cw0, ew0⟩ := Kd.R_slice HOw0.out; subst ew0; clear hb how0; have hcz_g1_0 : (w_4).cell? ⟨g1, 0, none⟩ = some (.int .i64 a0_0) := (blk_cell BKg1.out 0).trans rfl; have hcz_g1_1 : (w_4).cell? ⟨g1, 1, none⟩ = some (.int .i64 a0_1) := (blk_cell BKg1.out 1).trans rfl; have hcz_g1_2 : (w_4).cell? ⟨g1, 2, none⟩ = some (.int .i64 a0_2) := (blk_cell BKg1.out 2).trans rfl; have hcz_g1_3 : (w_4).cell? ⟨g1, 3, none⟩ = some (.slice A0_3 l0_3.length c0_3) := (blk_cell BKg1.out 3).trans rfl; have hcz_g1_4 : (w_4).cell? ⟨g1, 4, none⟩ = some (.slice A0_4 l0_4.length c0_4) := (blk_cell BKg1.out 4).trans rfl; have hfz_g1_0 := blk_frozen BKg1.out 0; have hfz_g1_1 := blk_frozen BKg1.out 1; have hfz_g1_2 := blk_frozen BKg1.out 2; have hfz_g1_3 := blk_frozen BKg1.out 3; have hfz_g1_4 := blk_frozen BKg1.out 4))
  go_upto_region 7 with (first | ((with_reducible refine gate_callee (f := 15) rfl ?_); refine goesL_ (some 20) rfl rfl Tryd.func15 (by kernel_rfl) rfl #[.agg #[.int .i64 a0_0, .int .i64 a0_1, .int .i64 a0_2, .slice A0_3 l0_3.length c0_3, .slice A0_4 l0_4.length c0_4]] rfl (by (try simp only [List.map_toArray, List.map_cons, List.map_nil]); first | done | rfl) ?_; (with_reducible refine (laws_toTones.calls k a0_0 a0_1 a0_2 _ _ l0_3 _ _ l0_4 a0_0 a0_1 a0_2 l0_3 l0_4 _ ?side1 ?side2 ?side3 ?side4 E2.out).mono ?_); (case side1 => exact Kd.C_below HR3.out HB.out); (case side2 => exact HC3.out); (case side3 => exact Kd.C_below HR4.out HB.out); (case side4 => exact HC4.out); rintro e w_5 ⟨vy3, vy4, my, rfl, ⟨hmay, hmby⟩, hoy3, hoy4, hb⟩; have SMay := Aside0.mk hmay; have SMby := Aside0.mk hmby; clear hmay hmby; refine ⟨_, rfl, ?_⟩; clear hcz_g1_0 hcz_g1_1 hcz_g1_2 hcz_g1_3 hcz_g1_4 hfz_g1_0 hfz_g1_1 hfz_g1_2 hfz_g1_3 hfz_g1_4; have n_HB := Aside0.mk (below_step HB.out hb); have SZw_5 := Aside0.mk hb.size; have n_BKg1 := Aside0.mk (blk_below BKg1.out hb); have n_HOx3 := Aside0.mk (Kd.S_below HOx3.out hb); have n_HOx4 := Aside0.mk (Kd.S_below HOx4.out hb); have n_HOw0 := Aside0.mk (Kd.R_below HOw0.out hb); clear HB BKg1 HOx3 HOx4 HOw0; have HB := n_HB; have BKg1 := n_BKg1; have HOx3 := n_HOx3; have HOx4 := n_HOx4; have HOw0 := n_HOw0; clear n_HB n_BKg1 n_HOx3 n_HOx4 n_HOw0; have HOy3 := Aside0.mk (show Kd.S (Kd.slice 3 (Kd.int .i64)) 22 w_5 w.heap.size (fun k_ => w_4.heap.size ≤ k_ ∧ k_ < my) vy3 l0_3 from Kd.S_lower (Kd.S_mono (Kd.S_bound hoy3) (fun k_ hk => ⟨hk.1.1, hk.1.2⟩)) (by have := SZw_1.out; have := SZw_2.out; have := SMax.out; have := SMbx.out; have := SZw_3.out; have := SZw_4.out; have := SMay.out; have := SMby.out; have := SZw_5.out; omega)); obtain ⟨Ay3, cy3, ey3⟩ := Kd.S_slice HOy3.out; subst ey3; have HOy4 := Aside0.mk (show Kd.S (Kd.slice 3 (Kd.int .i64)) 22 w_5 w.heap.size (fun k_ => my ≤ k_ ∧ k_ < w_5.heap.size) vy4 l0_4 from Kd.S_lower (Kd.S_mono (Kd.S_bound hoy4) (fun k_ hk => ⟨hk.1.1, hk.1.2⟩)) (by have := SZw_1.out; have := SZw_2.out; have := SMax.out; have := SMbx.out; have := SZw_3.out; have := SZw_4.out; have := SMay.out; have := SMby.out; have := SZw_5.out; omega)); obtain ⟨Ay4, cy4, ey4⟩ := Kd.S_slice HOy4.out; subst ey4; clear hb hoy3 hoy4; have hcz_g1_0 : (w_5).cell? ⟨g1, 0, none⟩ = some (.int .i64 a0_0) := (blk_cell BKg1.out 0).trans rfl; have hcz_g1_1 : (w_5).cell? ⟨g1, 1, none⟩ = some (.int .i64 a0_1) := (blk_cell BKg1.out 1).trans rfl; have hcz_g1_2 : (w_5).cell? ⟨g1, 2, none⟩ = some (.int .i64 a0_2) := (blk_cell BKg1.out 2).trans rfl; have hcz_g1_3 : (w_5).cell? ⟨g1, 3, none⟩ = some (.slice A0_3 l0_3.length c0_3) := (blk_cell BKg1.out 3).trans rfl; have hcz_g1_4 : (w_5).cell? ⟨g1, 4, none⟩ = some (.slice A0_4 l0_4.length c0_4) := (blk_cell BKg1.out 4).trans rfl; have hfz_g1_0 := blk_frozen BKg1.out 0; have hfz_g1_1 := blk_frozen BKg1.out 1; have hfz_g1_2 := blk_frozen BKg1.out 2; have hfz_g1_3 := blk_frozen BKg1.out 3; have hfz_g1_4 := blk_frozen BKg1.out 4) | ((with_reducible refine gate_dst (N := 5) rfl ?_); refine box_event ?hg (N := 5) ?hd (cs := #[.int .i64 0, .int .i64 0, .int .i64 0, .slice none 0 0, .slice none 0 0]) (t := 36) ?hr ?_; (case hd => rfl); (case hg => rfl); (case hr => first | (go_simp; done) | (go_simp; rfl)); intro g5 hg w_6 hbox hb; have BKg5 := Aside0.mk hbox; have GLg5 := Aside0.mk (show w_5.heap.size ≤ g5 from Nat.le_of_eq hg.symm); have HV := Aside0.mk hb; clear hg hb; have hcz_g5_0 : (w_6).cell? ⟨g5, 0, none⟩ = some (.int .i64 0) := (blk_cell hbox 0).trans rfl; have hcz_g5_1 : (w_6).cell? ⟨g5, 1, none⟩ = some (.int .i64 0) := (blk_cell hbox 1).trans rfl; have hcz_g5_2 : (w_6).cell? ⟨g5, 2, none⟩ = some (.int .i64 0) := (blk_cell hbox 2).trans rfl; have hcz_g5_3 : (w_6).cell? ⟨g5, 3, none⟩ = some (.slice none 0 0) := (blk_cell hbox 3).trans rfl; have hcz_g5_4 : (w_6).cell? ⟨g5, 4, none⟩ = some (.slice none 0 0) := (blk_cell hbox 4).trans rfl; have hfz_g5_0 := blk_frozen hbox 0; have hfz_g5_1 := blk_frozen hbox 1; have hfz_g5_2 := blk_frozen hbox 2; have hfz_g5_3 := blk_frozen hbox 3; have hfz_g5_4 := blk_frozen hbox 4; clear hbox))
  clear hcz_g5_0 hcz_g5_1 hcz_g5_2 hcz_g5_3 hcz_g5_4 hfz_g5_0 hfz_g5_1 hfz_g5_2 hfz_g5_3 hfz_g5_4
  have hb : Below w_5.heap.size w_5 (World.setCell (World.setCell (World.setCell (World.setCell (World.setCell w_6 ⟨g5, 0, none⟩ (.int .i64 a0_0)) ⟨g5, 1, none⟩ (.int .i64 a0_1)) ⟨g5, 2, none⟩ (.int .i64 a0_2)) ⟨g5, 3, none⟩ (.slice Ay3 l0_3.length cy3)) ⟨g5, 4, none⟩ (.slice Ay4 l0_4.length cy4)) := by repeat (first | exact HV.out | refine below_set ?_ GLg5.out)
  have hbox : (World.setCell (World.setCell (World.setCell (World.setCell (World.setCell w_6 ⟨g5, 0, none⟩ (.int .i64 a0_0)) ⟨g5, 1, none⟩ (.int .i64 a0_1)) ⟨g5, 2, none⟩ (.int .i64 a0_2)) ⟨g5, 3, none⟩ (.slice Ay3 l0_3.length cy3)) ⟨g5, 4, none⟩ (.slice Ay4 l0_4.length cy4)).heap[g5]? = some (.cells #[.int .i64 a0_0, .int .i64 a0_1, .int .i64 a0_2, .slice Ay3 l0_3.length cy3, .slice Ay4 l0_4.length cy4] 36 (0, 0)) := (blk_set (blk_set (blk_set (blk_set (blk_set BKg5.out 0 _) 1 _) 2 _) 3 _) 4 _)
  generalize (World.setCell (World.setCell (World.setCell (World.setCell (World.setCell w_6 ⟨g5, 0, none⟩ (.int .i64 a0_0)) ⟨g5, 1, none⟩ (.int .i64 a0_1)) ⟨g5, 2, none⟩ (.int .i64 a0_2)) ⟨g5, 3, none⟩ (.slice Ay3 l0_3.length cy3)) ⟨g5, 4, none⟩ (.slice Ay4 l0_4.length cy4)) = w_7 at hb hbox ⊢
  clear HV BKg5
  clear hcz_g1_0 hcz_g1_1 hcz_g1_2 hcz_g1_3 hcz_g1_4 hfz_g1_0 hfz_g1_1 hfz_g1_2 hfz_g1_3 hfz_g1_4
  have n_HB := Aside0.mk (below_step HB.out hb)
  have SZw_7 := Aside0.mk hb.size
  have n_BKg1 := Aside0.mk (blk_below BKg1.out hb)
  have n_HOx3 := Aside0.mk (Kd.S_below HOx3.out hb)
  have n_HOx4 := Aside0.mk (Kd.S_below HOx4.out hb)
  have n_HOw0 := Aside0.mk (Kd.R_below HOw0.out hb)
  have n_HOy3 := Aside0.mk (Kd.S_below HOy3.out hb)
  have n_HOy4 := Aside0.mk (Kd.S_below HOy4.out hb)
  clear HB BKg1 HOx3 HOx4 HOw0 HOy3 HOy4
  have HB := n_HB
  have BKg1 := n_BKg1
  have HOx3 := n_HOx3
  have HOx4 := n_HOx4
  have HOw0 := n_HOw0
  have HOy3 := n_HOy3
  have HOy4 := n_HOy4
  clear n_HB n_BKg1 n_HOx3 n_HOx4 n_HOw0 n_HOy3 n_HOy4
  have BKg5 := Aside0.mk hbox
  have GHg5 := Aside0.mk (blk_lt hbox)
  clear hbox hb
  have hcz_g1_0 : (w_7).cell? ⟨g1, 0, none⟩ = some (.int .i64 a0_0) := (blk_cell BKg1.out 0).trans rfl
  have hcz_g1_1 : (w_7).cell? ⟨g1, 1, none⟩ = some (.int .i64 a0_1) := (blk_cell BKg1.out 1).trans rfl
  have hcz_g1_2 : (w_7).cell? ⟨g1, 2, none⟩ = some (.int .i64 a0_2) := (blk_cell BKg1.out 2).trans rfl
  have hcz_g1_3 : (w_7).cell? ⟨g1, 3, none⟩ = some (.slice A0_3 l0_3.length c0_3) := (blk_cell BKg1.out 3).trans rfl
  have hcz_g1_4 : (w_7).cell? ⟨g1, 4, none⟩ = some (.slice A0_4 l0_4.length c0_4) := (blk_cell BKg1.out 4).trans rfl
  have hfz_g1_0 := blk_frozen BKg1.out 0
  have hfz_g1_1 := blk_frozen BKg1.out 1
  have hfz_g1_2 := blk_frozen BKg1.out 2
  have hfz_g1_3 := blk_frozen BKg1.out 3
  have hfz_g1_4 := blk_frozen BKg1.out 4
  have hcz_g5_0 : (w_7).cell? ⟨g5, 0, none⟩ = some (.int .i64 a0_0) := (blk_cell BKg5.out 0).trans rfl
  have hcz_g5_1 : (w_7).cell? ⟨g5, 1, none⟩ = some (.int .i64 a0_1) := (blk_cell BKg5.out 1).trans rfl
  have hcz_g5_2 : (w_7).cell? ⟨g5, 2, none⟩ = some (.int .i64 a0_2) := (blk_cell BKg5.out 2).trans rfl
  have hcz_g5_3 : (w_7).cell? ⟨g5, 3, none⟩ = some (.slice Ay3 l0_3.length cy3) := (blk_cell BKg5.out 3).trans rfl
  have hcz_g5_4 : (w_7).cell? ⟨g5, 4, none⟩ = some (.slice Ay4 l0_4.length cy4) := (blk_cell BKg5.out 4).trans rfl
  have hfz_g5_0 := blk_frozen BKg5.out 0
  have hfz_g5_1 := blk_frozen BKg5.out 1
  have hfz_g5_2 := blk_frozen BKg5.out 2
  have hfz_g5_3 := blk_frozen BKg5.out 3
  have hfz_g5_4 := blk_frozen BKg5.out 4
  go_upto_region 8 with (first | ((with_reducible refine gate_callee (f := 16) rfl ?_); refine goesL_ (some 22) rfl rfl Tryd.func16 (by kernel_rfl) rfl #[.agg #[.int .i64 a0_0, .int .i64 a0_1, .int .i64 a0_2, .slice Ay3 l0_3.length cy3, .slice Ay4 l0_4.length cy4]] rfl (by (try simp only [List.map_toArray, List.map_cons, List.map_nil]); first | done | rfl) ?_; (with_reducible refine (impl_SoundOf.calls k a0_0 a0_1 a0_2 _ _ l0_3 _ _ l0_4 r _ ?side1 ?side2 ?side3 ?side4 ?side5 E4.out).mono ?_); (case side1 => exact (Kd.S_reads' HOy3.out).2.2); (case side2 => exact (Kd.S_reads' HOy3.out).2.1); (case side3 => exact (Kd.S_reads' HOy4.out).2.2); (case side4 => exact (Kd.S_reads' HOy4.out).2.1); (case side5 => exact MX.below HM.out HB.out); rintro e w_8 ⟨vg0, rfl, hog0, hb⟩; refine ⟨_, rfl, ?_⟩; clear hcz_g1_0 hcz_g1_1 hcz_g1_2 hcz_g1_3 hcz_g1_4 hfz_g1_0 hfz_g1_1 hfz_g1_2 hfz_g1_3 hfz_g1_4 hcz_g5_0 hcz_g5_1 hcz_g5_2 hcz_g5_3 hcz_g5_4 hfz_g5_0 hfz_g5_1 hfz_g5_2 hfz_g5_3 hfz_g5_4; have n_HB := Aside0.mk (below_step HB.out hb); have SZw_8 := Aside0.mk hb.size; have n_BKg1 := Aside0.mk (blk_below BKg1.out hb); have n_HOx3 := Aside0.mk (Kd.S_below HOx3.out hb); have n_HOx4 := Aside0.mk (Kd.S_below HOx4.out hb); have n_HOw0 := Aside0.mk (Kd.R_below HOw0.out hb); have n_HOy3 := Aside0.mk (Kd.S_below HOy3.out hb); have n_HOy4 := Aside0.mk (Kd.S_below HOy4.out hb); have n_BKg5 := Aside0.mk (blk_below BKg5.out hb); clear HB BKg1 HOx3 HOx4 HOw0 HOy3 HOy4 BKg5; have HB := n_HB; have BKg1 := n_BKg1; have HOx3 := n_HOx3; have HOx4 := n_HOx4; have HOw0 := n_HOw0; have HOy3 := n_HOy3; have HOy4 := n_HOy4; have BKg5 := n_BKg5; clear n_HB n_BKg1 n_HOx3 n_HOx4 n_HOw0 n_HOy3 n_HOy4 n_BKg5; have HOg0 := Aside0.mk (show Kd.R (Kd.int .i64) 3 w_8 w.heap.size (fun k_ => w_7.heap.size ≤ k_ ∧ k_ < w_8.heap.size) vg0 r from Kd.R_lower (Kd.R_mono (Kd.R_bound hog0) (fun k_ hk => ⟨hk.2.1, hk.2.2.1⟩)) (by have := SZw_1.out; have := SZw_2.out; have := SMax.out; have := SMbx.out; have := SZw_3.out; have := SZw_4.out; have := SMay.out; have := SMby.out; have := SZw_5.out; have := SZw_7.out; have := SZw_8.out; omega)); obtain ⟨Ag0, cg0, eg0⟩ := Kd.R_slice HOg0.out; subst eg0; clear hb hog0; have hcz_g1_0 : (w_8).cell? ⟨g1, 0, none⟩ = some (.int .i64 a0_0) := (blk_cell BKg1.out 0).trans rfl; have hcz_g1_1 : (w_8).cell? ⟨g1, 1, none⟩ = some (.int .i64 a0_1) := (blk_cell BKg1.out 1).trans rfl; have hcz_g1_2 : (w_8).cell? ⟨g1, 2, none⟩ = some (.int .i64 a0_2) := (blk_cell BKg1.out 2).trans rfl; have hcz_g1_3 : (w_8).cell? ⟨g1, 3, none⟩ = some (.slice A0_3 l0_3.length c0_3) := (blk_cell BKg1.out 3).trans rfl; have hcz_g1_4 : (w_8).cell? ⟨g1, 4, none⟩ = some (.slice A0_4 l0_4.length c0_4) := (blk_cell BKg1.out 4).trans rfl; have hfz_g1_0 := blk_frozen BKg1.out 0; have hfz_g1_1 := blk_frozen BKg1.out 1; have hfz_g1_2 := blk_frozen BKg1.out 2; have hfz_g1_3 := blk_frozen BKg1.out 3; have hfz_g1_4 := blk_frozen BKg1.out 4; have hcz_g5_0 : (w_8).cell? ⟨g5, 0, none⟩ = some (.int .i64 a0_0) := (blk_cell BKg5.out 0).trans rfl; have hcz_g5_1 : (w_8).cell? ⟨g5, 1, none⟩ = some (.int .i64 a0_1) := (blk_cell BKg5.out 1).trans rfl; have hcz_g5_2 : (w_8).cell? ⟨g5, 2, none⟩ = some (.int .i64 a0_2) := (blk_cell BKg5.out 2).trans rfl; have hcz_g5_3 : (w_8).cell? ⟨g5, 3, none⟩ = some (.slice Ay3 l0_3.length cy3) := (blk_cell BKg5.out 3).trans rfl; have hcz_g5_4 : (w_8).cell? ⟨g5, 4, none⟩ = some (.slice Ay4 l0_4.length cy4) := (blk_cell BKg5.out 4).trans rfl; have hfz_g5_0 := blk_frozen BKg5.out 0; have hfz_g5_1 := blk_frozen BKg5.out 1; have hfz_g5_2 := blk_frozen BKg5.out 2; have hfz_g5_3 := blk_frozen BKg5.out 3; have hfz_g5_4 := blk_frozen BKg5.out 4))
  go_upto_region 10 with (first | ((with_reducible refine gate_callee (f := 9) rfl ?_); refine goesL_ (some 25) rfl rfl Tryd.func9 (by kernel_rfl) rfl #[.slice Ag0 r.length cg0, .slice Aw0 r.length cw0] rfl (by (try simp only [List.map_toArray, List.map_cons, List.map_nil]); first | done | rfl) ?_; (with_reducible refine (laws_eqIntS.calls k _ _ r _ _ r true _ ?side1 ?side2 ?side3 ?side4 E5.out).mono ?_); (case side1 => exact (Kd.R_reads' HOg0.out).2.2); (case side2 => exact (Kd.R_reads' HOg0.out).2.1); (case side3 => exact (Kd.R_reads' HOw0.out).2.2); (case side4 => exact (Kd.R_reads' HOw0.out).2.1); rintro e w_9 ⟨rfl, hb⟩; replace hb := hb.below; refine ⟨_, rfl, ?_⟩; clear hcz_g1_0 hcz_g1_1 hcz_g1_2 hcz_g1_3 hcz_g1_4 hfz_g1_0 hfz_g1_1 hfz_g1_2 hfz_g1_3 hfz_g1_4 hcz_g5_0 hcz_g5_1 hcz_g5_2 hcz_g5_3 hcz_g5_4 hfz_g5_0 hfz_g5_1 hfz_g5_2 hfz_g5_3 hfz_g5_4; have n_HB := Aside0.mk (below_step HB.out hb); have SZw_9 := Aside0.mk hb.size; have n_BKg1 := Aside0.mk (blk_below BKg1.out hb); have n_HOx3 := Aside0.mk (Kd.S_below HOx3.out hb); have n_HOx4 := Aside0.mk (Kd.S_below HOx4.out hb); have n_HOw0 := Aside0.mk (Kd.R_below HOw0.out hb); have n_HOy3 := Aside0.mk (Kd.S_below HOy3.out hb); have n_HOy4 := Aside0.mk (Kd.S_below HOy4.out hb); have n_BKg5 := Aside0.mk (blk_below BKg5.out hb); have n_HOg0 := Aside0.mk (Kd.R_below HOg0.out hb); clear HB BKg1 HOx3 HOx4 HOw0 HOy3 HOy4 BKg5 HOg0; have HB := n_HB; have BKg1 := n_BKg1; have HOx3 := n_HOx3; have HOx4 := n_HOx4; have HOw0 := n_HOw0; have HOy3 := n_HOy3; have HOy4 := n_HOy4; have BKg5 := n_BKg5; have HOg0 := n_HOg0; clear n_HB n_BKg1 n_HOx3 n_HOx4 n_HOw0 n_HOy3 n_HOy4 n_BKg5 n_HOg0; clear hb; have hcz_g1_0 : (w_9).cell? ⟨g1, 0, none⟩ = some (.int .i64 a0_0) := (blk_cell BKg1.out 0).trans rfl; have hcz_g1_1 : (w_9).cell? ⟨g1, 1, none⟩ = some (.int .i64 a0_1) := (blk_cell BKg1.out 1).trans rfl; have hcz_g1_2 : (w_9).cell? ⟨g1, 2, none⟩ = some (.int .i64 a0_2) := (blk_cell BKg1.out 2).trans rfl; have hcz_g1_3 : (w_9).cell? ⟨g1, 3, none⟩ = some (.slice A0_3 l0_3.length c0_3) := (blk_cell BKg1.out 3).trans rfl; have hcz_g1_4 : (w_9).cell? ⟨g1, 4, none⟩ = some (.slice A0_4 l0_4.length c0_4) := (blk_cell BKg1.out 4).trans rfl; have hfz_g1_0 := blk_frozen BKg1.out 0; have hfz_g1_1 := blk_frozen BKg1.out 1; have hfz_g1_2 := blk_frozen BKg1.out 2; have hfz_g1_3 := blk_frozen BKg1.out 3; have hfz_g1_4 := blk_frozen BKg1.out 4; have hcz_g5_0 : (w_9).cell? ⟨g5, 0, none⟩ = some (.int .i64 a0_0) := (blk_cell BKg5.out 0).trans rfl; have hcz_g5_1 : (w_9).cell? ⟨g5, 1, none⟩ = some (.int .i64 a0_1) := (blk_cell BKg5.out 1).trans rfl; have hcz_g5_2 : (w_9).cell? ⟨g5, 2, none⟩ = some (.int .i64 a0_2) := (blk_cell BKg5.out 2).trans rfl; have hcz_g5_3 : (w_9).cell? ⟨g5, 3, none⟩ = some (.slice Ay3 l0_3.length cy3) := (blk_cell BKg5.out 3).trans rfl; have hcz_g5_4 : (w_9).cell? ⟨g5, 4, none⟩ = some (.slice Ay4 l0_4.length cy4) := (blk_cell BKg5.out 4).trans rfl; have hfz_g5_0 := blk_frozen BKg5.out 0; have hfz_g5_1 := blk_frozen BKg5.out 1; have hfz_g5_2 := blk_frozen BKg5.out 2; have hfz_g5_3 := blk_frozen BKg5.out 3; have hfz_g5_4 := blk_frozen BKg5.out 4))
  clear hcz_g1_0 hcz_g1_1 hcz_g1_2 hcz_g1_3 hcz_g1_4 hfz_g1_0 hfz_g1_1 hfz_g1_2 hfz_g1_3 hfz_g1_4 hcz_g5_0 hcz_g5_1 hcz_g5_2 hcz_g5_3 hcz_g5_4 hfz_g5_0 hfz_g5_1 hfz_g5_2 hfz_g5_3 hfz_g5_4
  have hb := below_drew (Below.refl w_9.heap.size w_9)
  refine start_ (n := 5) (S := fun w' => w'.cell? ⟨g5, 0, none⟩ = some (.int .i64 a0_0) ∧ w'.cell? ⟨g5, 1, none⟩ = some (.int .i64 a0_1) ∧ w'.cell? ⟨g5, 2, none⟩ = some (.int .i64 a0_2) ∧ w'.cell? ⟨g5, 3, none⟩ = some (.slice Ay3 l0_3.length cy3) ∧ w'.cell? ⟨g5, 4, none⟩ = some (.slice Ay4 l0_4.length cy4) ∧ w'.cell? ⟨g1, 0, none⟩ = some (.int .i64 a0_0) ∧ w'.cell? ⟨g1, 1, none⟩ = some (.int .i64 a0_1) ∧ w'.cell? ⟨g1, 2, none⟩ = some (.int .i64 a0_2) ∧ w'.cell? ⟨g1, 3, none⟩ = some (.slice A0_3 l0_3.length c0_3) ∧ w'.cell? ⟨g1, 4, none⟩ = some (.slice A0_4 l0_4.length c0_4)) (ds := []) #[false, false, false, false, false] (by kernel_rfl) rfl rfl ⟨(blk_cell BKg5.out 0).trans rfl, (blk_cell BKg5.out 1).trans rfl, (blk_cell BKg5.out 2).trans rfl, (blk_cell BKg5.out 3).trans rfl, (blk_cell BKg5.out 4).trans rfl, (blk_cell BKg1.out 0).trans rfl, (blk_cell BKg1.out 1).trans rfl, (blk_cell BKg1.out 2).trans rfl, (blk_cell BKg1.out 3).trans rfl, (blk_cell BKg1.out 4).trans rfl⟩ (fun hHeld => ?_)
  generalize w_9.drew = w_10 at hb hHeld ⊢
  have n_HB := Aside0.mk (below_step HB.out hb)
  have SZw_10 := Aside0.mk hb.size
  have n_BKg1 := Aside0.mk (blk_below BKg1.out hb)
  have n_HOx3 := Aside0.mk (Kd.S_below HOx3.out hb)
  have n_HOx4 := Aside0.mk (Kd.S_below HOx4.out hb)
  have n_HOw0 := Aside0.mk (Kd.R_below HOw0.out hb)
  have n_HOy3 := Aside0.mk (Kd.S_below HOy3.out hb)
  have n_HOy4 := Aside0.mk (Kd.S_below HOy4.out hb)
  have n_BKg5 := Aside0.mk (blk_below BKg5.out hb)
  have n_HOg0 := Aside0.mk (Kd.R_below HOg0.out hb)
  clear HB BKg1 HOx3 HOx4 HOw0 HOy3 HOy4 BKg5 HOg0
  have HB := n_HB
  have BKg1 := n_BKg1
  have HOx3 := n_HOx3
  have HOx4 := n_HOx4
  have HOw0 := n_HOw0
  have HOy3 := n_HOy3
  have HOy4 := n_HOy4
  have BKg5 := n_BKg5
  have HOg0 := n_HOg0
  clear n_HB n_BKg1 n_HOx3 n_HOx4 n_HOw0 n_HOy3 n_HOy4 n_BKg5 n_HOg0
  clear hb
  refine take_ (i := 0) (N := some 27) (v := ?_) (a' := ?_) #[true, false, false, false, false] rfl rfl (by kernel_rfl) (fun _ _ _ h => h) (Or.inl ⟨by rfl, ?_⟩) hHeld ?_ ?_
  rotate_left
  · rintro w' ⟨s0, s1, s2, s3, s4, s5, s6, s7, s8, s9⟩
    go_simp
    with_reducible rfl
  rotate_left
  · simp only [Act.put, List.setIfInBounds_toArray, List.set_cons_zero, List.set_cons_succ, i64_w, i32_w]
    rfl
  refine take_ (i := 1) (N := some 28) (v := ?_) (a' := ?_) #[true, true, false, false, false] rfl rfl (by kernel_rfl) (fun _ _ _ h => h) (Or.inl ⟨by rfl, ?_⟩) hHeld ?_ ?_
  rotate_left
  · rintro w' ⟨s0, s1, s2, s3, s4, s5, s6, s7, s8, s9⟩
    go_simp
    with_reducible rfl
  rotate_left
  · simp only [Act.put, List.setIfInBounds_toArray, List.set_cons_zero, List.set_cons_succ, i64_w, i32_w]
    rfl
  refine one_ (i := 2) (N := some 29) #[true, true, true, false, false] rfl rfl (by kernel_rfl) (by decide) (fun K hK => ?_)
  refine goes_ Tryd.func15 (by kernel_rfl) rfl #[.agg #[.int .i64 a0_0, .int .i64 a0_1, .int .i64 a0_2, .slice A0_3 l0_3.length c0_3, .slice A0_4 l0_4.length c0_4]] (by rfl) rfl rfl (by (try simp only [List.map_toArray, List.map_cons, List.map_nil]); first | done | rfl) ?_
  (with_reducible refine (laws_toTones.calls k a0_0 a0_1 a0_2 _ _ l0_3 _ _ l0_4 a0_0 a0_1 a0_2 l0_3 l0_4 _ ?side1 ?side2 ?side3 ?side4 E2.out).mono ?_)
  (case side1 => exact Kd.C_below HR3.out HB.out)
  (case side2 => exact HC3.out)
  (case side3 => exact Kd.C_below HR4.out HB.out)
  (case side4 => exact HC4.out)
  rintro e w_11 ⟨vz3, vz4, mz, rfl, ⟨hmaz, hmbz⟩, hoz3, hoz4, hb⟩
  have SMaz := Aside0.mk hmaz
  have SMbz := Aside0.mk hmbz
  clear hmaz hmbz
  refine ⟨_, rfl, ?_⟩
  have n_HB := Aside0.mk (below_step HB.out hb)
  have SZw_11 := Aside0.mk hb.size
  have n_BKg1 := Aside0.mk (blk_below BKg1.out hb)
  have n_HOx3 := Aside0.mk (Kd.S_below HOx3.out hb)
  have n_HOx4 := Aside0.mk (Kd.S_below HOx4.out hb)
  have n_HOw0 := Aside0.mk (Kd.R_below HOw0.out hb)
  have n_HOy3 := Aside0.mk (Kd.S_below HOy3.out hb)
  have n_HOy4 := Aside0.mk (Kd.S_below HOy4.out hb)
  have n_BKg5 := Aside0.mk (blk_below BKg5.out hb)
  have n_HOg0 := Aside0.mk (Kd.R_below HOg0.out hb)
  clear HB BKg1 HOx3 HOx4 HOw0 HOy3 HOy4 BKg5 HOg0
  have HB := n_HB
  have BKg1 := n_BKg1
  have HOx3 := n_HOx3
  have HOx4 := n_HOx4
  have HOw0 := n_HOw0
  have HOy3 := n_HOy3
  have HOy4 := n_HOy4
  have BKg5 := n_BKg5
  have HOg0 := n_HOg0
  clear n_HB n_BKg1 n_HOx3 n_HOx4 n_HOw0 n_HOy3 n_HOy4 n_BKg5 n_HOg0
  have HOz3 := Aside0.mk (show Kd.S (Kd.slice 3 (Kd.int .i64)) 22 w_11 w.heap.size (fun k_ => w_10.heap.size ≤ k_ ∧ k_ < mz) vz3 l0_3 from Kd.S_lower (Kd.S_mono (Kd.S_bound hoz3) (fun k_ hk => ⟨hk.1.1, hk.1.2⟩)) (by have := SZw_1.out; have := SZw_2.out; have := SMax.out; have := SMbx.out; have := SZw_3.out; have := SZw_4.out; have := SMay.out; have := SMby.out; have := SZw_5.out; have := SZw_7.out; have := SZw_8.out; have := SZw_9.out; have := SZw_10.out; have := SMaz.out; have := SMbz.out; have := SZw_11.out; omega))
  obtain ⟨Az3, cz3, ez3⟩ := Kd.S_slice HOz3.out
  subst ez3
  have HOz4 := Aside0.mk (show Kd.S (Kd.slice 3 (Kd.int .i64)) 22 w_11 w.heap.size (fun k_ => mz ≤ k_ ∧ k_ < w_11.heap.size) vz4 l0_4 from Kd.S_lower (Kd.S_mono (Kd.S_bound hoz4) (fun k_ hk => ⟨hk.1.1, hk.1.2⟩)) (by have := SZw_1.out; have := SZw_2.out; have := SMax.out; have := SMbx.out; have := SZw_3.out; have := SZw_4.out; have := SMay.out; have := SMby.out; have := SZw_5.out; have := SZw_7.out; have := SZw_8.out; have := SZw_9.out; have := SZw_10.out; have := SMaz.out; have := SMbz.out; have := SZw_11.out; omega))
  obtain ⟨Az4, cz4, ez4⟩ := Kd.S_slice HOz4.out
  subst ez4
  clear hb hoz3 hoz4
  have hcz_g1_0 : (w_11).cell? ⟨g1, 0, none⟩ = some (.int .i64 a0_0) := (blk_cell BKg1.out 0).trans rfl
  have hcz_g1_1 : (w_11).cell? ⟨g1, 1, none⟩ = some (.int .i64 a0_1) := (blk_cell BKg1.out 1).trans rfl
  have hcz_g1_2 : (w_11).cell? ⟨g1, 2, none⟩ = some (.int .i64 a0_2) := (blk_cell BKg1.out 2).trans rfl
  have hcz_g1_3 : (w_11).cell? ⟨g1, 3, none⟩ = some (.slice A0_3 l0_3.length c0_3) := (blk_cell BKg1.out 3).trans rfl
  have hcz_g1_4 : (w_11).cell? ⟨g1, 4, none⟩ = some (.slice A0_4 l0_4.length c0_4) := (blk_cell BKg1.out 4).trans rfl
  have hfz_g1_0 := blk_frozen BKg1.out 0
  have hfz_g1_1 := blk_frozen BKg1.out 1
  have hfz_g1_2 := blk_frozen BKg1.out 2
  have hfz_g1_3 := blk_frozen BKg1.out 3
  have hfz_g1_4 := blk_frozen BKg1.out 4
  have hcz_g5_0 : (w_11).cell? ⟨g5, 0, none⟩ = some (.int .i64 a0_0) := (blk_cell BKg5.out 0).trans rfl
  have hcz_g5_1 : (w_11).cell? ⟨g5, 1, none⟩ = some (.int .i64 a0_1) := (blk_cell BKg5.out 1).trans rfl
  have hcz_g5_2 : (w_11).cell? ⟨g5, 2, none⟩ = some (.int .i64 a0_2) := (blk_cell BKg5.out 2).trans rfl
  have hcz_g5_3 : (w_11).cell? ⟨g5, 3, none⟩ = some (.slice Ay3 l0_3.length cy3) := (blk_cell BKg5.out 3).trans rfl
  have hcz_g5_4 : (w_11).cell? ⟨g5, 4, none⟩ = some (.slice Ay4 l0_4.length cy4) := (blk_cell BKg5.out 4).trans rfl
  have hfz_g5_0 := blk_frozen BKg5.out 0
  have hfz_g5_1 := blk_frozen BKg5.out 1
  have hfz_g5_2 := blk_frozen BKg5.out 2
  have hfz_g5_3 := blk_frozen BKg5.out 3
  have hfz_g5_4 := blk_frozen BKg5.out 4
  clear hcz_g1_0 hcz_g1_1 hcz_g1_2 hcz_g1_3 hcz_g1_4 hfz_g1_0 hfz_g1_1 hfz_g1_2 hfz_g1_3 hfz_g1_4 hcz_g5_0 hcz_g5_1 hcz_g5_2 hcz_g5_3 hcz_g5_4 hfz_g5_0 hfz_g5_1 hfz_g5_2 hfz_g5_3 hfz_g5_4
  clear hHeld
  refine hK.out _ _ ⟨(blk_cell BKg5.out 0).trans rfl, (blk_cell BKg5.out 1).trans rfl, (blk_cell BKg5.out 2).trans rfl, (blk_cell BKg5.out 3).trans rfl, (blk_cell BKg5.out 4).trans rfl, (blk_cell BKg1.out 0).trans rfl, (blk_cell BKg1.out 1).trans rfl, (blk_cell BKg1.out 2).trans rfl, (blk_cell BKg1.out 3).trans rfl, (blk_cell BKg1.out 4).trans rfl⟩ (fun hHeld => ?_)
  clear hK
  refine norm_ (a' := ?_) ?_ ?_
  rotate_left
  · show Act.put _ (some 29) _ = _
    simp only [Act.put, List.setIfInBounds_toArray, List.set_cons_zero, List.set_cons_succ, i64_w, i32_w]
    rfl
  refine one_ (i := 3) (N := some 30) #[true, true, true, true, false] rfl rfl (by kernel_rfl) (by decide) (fun K hK => ?_)
  refine goes_ Tryd.func17 (by kernel_rfl) rfl #[.agg #[.int .i64 a0_0, .int .i64 a0_1, .int .i64 a0_2, .slice Ay3 l0_3.length cy3, .slice Ay4 l0_4.length cy4], .agg #[.int .i64 a0_0, .int .i64 a0_1, .int .i64 a0_2, .slice Az3 l0_3.length cz3, .slice Az4 l0_4.length cz4]] (by rfl) rfl rfl (by (try simp only [List.map_toArray, List.map_cons, List.map_nil]); first | done | rfl) ?_
  (with_reducible refine (laws_eqTones.calls k a0_0 a0_1 a0_2 _ _ l0_3 _ _ l0_4 a0_0 a0_1 a0_2 _ _ l0_3 _ _ l0_4 true _ ?side1 ?side2 ?side3 ?side4 ?side5 ?side6 ?side7 ?side8 E6.out).mono ?_)
  (case side1 => exact (Kd.S_reads' HOy3.out).2.2)
  (case side2 => exact (Kd.S_reads' HOy3.out).2.1)
  (case side3 => exact (Kd.S_reads' HOy4.out).2.2)
  (case side4 => exact (Kd.S_reads' HOy4.out).2.1)
  (case side5 => exact (Kd.S_reads' HOz3.out).2.2)
  (case side6 => exact (Kd.S_reads' HOz3.out).2.1)
  (case side7 => exact (Kd.S_reads' HOz4.out).2.2)
  (case side8 => exact (Kd.S_reads' HOz4.out).2.1)
  rintro e w_12 ⟨rfl, hb⟩
  refine ⟨_, rfl, ?_⟩
  have n_HB := Aside0.mk (below_step HB.out hb)
  have SZw_12 := Aside0.mk hb.size
  have n_BKg1 := Aside0.mk (blk_below BKg1.out hb)
  have n_HOx3 := Aside0.mk (Kd.S_below HOx3.out hb)
  have n_HOx4 := Aside0.mk (Kd.S_below HOx4.out hb)
  have n_HOw0 := Aside0.mk (Kd.R_below HOw0.out hb)
  have n_HOy3 := Aside0.mk (Kd.S_below HOy3.out hb)
  have n_HOy4 := Aside0.mk (Kd.S_below HOy4.out hb)
  have n_BKg5 := Aside0.mk (blk_below BKg5.out hb)
  have n_HOg0 := Aside0.mk (Kd.R_below HOg0.out hb)
  have n_HOz3 := Aside0.mk (Kd.S_below HOz3.out hb)
  have n_HOz4 := Aside0.mk (Kd.S_below HOz4.out hb)
  clear HB BKg1 HOx3 HOx4 HOw0 HOy3 HOy4 BKg5 HOg0 HOz3 HOz4
  have HB := n_HB
  have BKg1 := n_BKg1
  have HOx3 := n_HOx3
  have HOx4 := n_HOx4
  have HOw0 := n_HOw0
  have HOy3 := n_HOy3
  have HOy4 := n_HOy4
  have BKg5 := n_BKg5
  have HOg0 := n_HOg0
  have HOz3 := n_HOz3
  have HOz4 := n_HOz4
  clear n_HB n_BKg1 n_HOx3 n_HOx4 n_HOw0 n_HOy3 n_HOy4 n_BKg5 n_HOg0 n_HOz3 n_HOz4
  clear hb
  have hcz_g1_0 : (w_12).cell? ⟨g1, 0, none⟩ = some (.int .i64 a0_0) := (blk_cell BKg1.out 0).trans rfl
  have hcz_g1_1 : (w_12).cell? ⟨g1, 1, none⟩ = some (.int .i64 a0_1) := (blk_cell BKg1.out 1).trans rfl
  have hcz_g1_2 : (w_12).cell? ⟨g1, 2, none⟩ = some (.int .i64 a0_2) := (blk_cell BKg1.out 2).trans rfl
  have hcz_g1_3 : (w_12).cell? ⟨g1, 3, none⟩ = some (.slice A0_3 l0_3.length c0_3) := (blk_cell BKg1.out 3).trans rfl
  have hcz_g1_4 : (w_12).cell? ⟨g1, 4, none⟩ = some (.slice A0_4 l0_4.length c0_4) := (blk_cell BKg1.out 4).trans rfl
  have hfz_g1_0 := blk_frozen BKg1.out 0
  have hfz_g1_1 := blk_frozen BKg1.out 1
  have hfz_g1_2 := blk_frozen BKg1.out 2
  have hfz_g1_3 := blk_frozen BKg1.out 3
  have hfz_g1_4 := blk_frozen BKg1.out 4
  have hcz_g5_0 : (w_12).cell? ⟨g5, 0, none⟩ = some (.int .i64 a0_0) := (blk_cell BKg5.out 0).trans rfl
  have hcz_g5_1 : (w_12).cell? ⟨g5, 1, none⟩ = some (.int .i64 a0_1) := (blk_cell BKg5.out 1).trans rfl
  have hcz_g5_2 : (w_12).cell? ⟨g5, 2, none⟩ = some (.int .i64 a0_2) := (blk_cell BKg5.out 2).trans rfl
  have hcz_g5_3 : (w_12).cell? ⟨g5, 3, none⟩ = some (.slice Ay3 l0_3.length cy3) := (blk_cell BKg5.out 3).trans rfl
  have hcz_g5_4 : (w_12).cell? ⟨g5, 4, none⟩ = some (.slice Ay4 l0_4.length cy4) := (blk_cell BKg5.out 4).trans rfl
  have hfz_g5_0 := blk_frozen BKg5.out 0
  have hfz_g5_1 := blk_frozen BKg5.out 1
  have hfz_g5_2 := blk_frozen BKg5.out 2
  have hfz_g5_3 := blk_frozen BKg5.out 3
  have hfz_g5_4 := blk_frozen BKg5.out 4
  clear hcz_g1_0 hcz_g1_1 hcz_g1_2 hcz_g1_3 hcz_g1_4 hfz_g1_0 hfz_g1_1 hfz_g1_2 hfz_g1_3 hfz_g1_4 hcz_g5_0 hcz_g5_1 hcz_g5_2 hcz_g5_3 hcz_g5_4 hfz_g5_0 hfz_g5_1 hfz_g5_2 hfz_g5_3 hfz_g5_4
  clear hHeld
  refine hK.out _ _ ⟨(blk_cell BKg5.out 0).trans rfl, (blk_cell BKg5.out 1).trans rfl, (blk_cell BKg5.out 2).trans rfl, (blk_cell BKg5.out 3).trans rfl, (blk_cell BKg5.out 4).trans rfl, (blk_cell BKg1.out 0).trans rfl, (blk_cell BKg1.out 1).trans rfl, (blk_cell BKg1.out 2).trans rfl, (blk_cell BKg1.out 3).trans rfl, (blk_cell BKg1.out 4).trans rfl⟩ (fun hHeld => ?_)
  clear hK
  refine norm_ (a' := ?_) ?_ ?_
  rotate_left
  · show Act.put _ (some 30) _ = _
    simp only [Act.put, List.setIfInBounds_toArray, List.set_cons_zero, List.set_cons_succ, i64_w, i32_w]
    rfl
  refine pure_ (i := 4) (N := some 31) (v := ?_) (a' := ?_) #[true, true, true, true, true] rfl rfl (by kernel_rfl) (fun _ _ _ h => h) (Or.inl ⟨by rfl, ?_⟩) ?_ ?_
  rotate_left
  · intro w'
    go_simp
    with_reducible rfl
  rotate_left
  · simp only [Act.put, List.setIfInBounds_toArray, List.set_cons_zero, List.set_cons_succ, i64_w, i32_w]
    rfl
  refine done_ (by kernel_rfl) ?_
  have hcz_g1_0 : (w_12).cell? ⟨g1, 0, none⟩ = some (.int .i64 a0_0) := (blk_cell BKg1.out 0).trans rfl
  have hcz_g1_1 : (w_12).cell? ⟨g1, 1, none⟩ = some (.int .i64 a0_1) := (blk_cell BKg1.out 1).trans rfl
  have hcz_g1_2 : (w_12).cell? ⟨g1, 2, none⟩ = some (.int .i64 a0_2) := (blk_cell BKg1.out 2).trans rfl
  have hcz_g1_3 : (w_12).cell? ⟨g1, 3, none⟩ = some (.slice A0_3 l0_3.length c0_3) := (blk_cell BKg1.out 3).trans rfl
  have hcz_g1_4 : (w_12).cell? ⟨g1, 4, none⟩ = some (.slice A0_4 l0_4.length c0_4) := (blk_cell BKg1.out 4).trans rfl
  have hfz_g1_0 := blk_frozen BKg1.out 0
  have hfz_g1_1 := blk_frozen BKg1.out 1
  have hfz_g1_2 := blk_frozen BKg1.out 2
  have hfz_g1_3 := blk_frozen BKg1.out 3
  have hfz_g1_4 := blk_frozen BKg1.out 4
  have hcz_g5_0 : (w_12).cell? ⟨g5, 0, none⟩ = some (.int .i64 a0_0) := (blk_cell BKg5.out 0).trans rfl
  have hcz_g5_1 : (w_12).cell? ⟨g5, 1, none⟩ = some (.int .i64 a0_1) := (blk_cell BKg5.out 1).trans rfl
  have hcz_g5_2 : (w_12).cell? ⟨g5, 2, none⟩ = some (.int .i64 a0_2) := (blk_cell BKg5.out 2).trans rfl
  have hcz_g5_3 : (w_12).cell? ⟨g5, 3, none⟩ = some (.slice Ay3 l0_3.length cy3) := (blk_cell BKg5.out 3).trans rfl
  have hcz_g5_4 : (w_12).cell? ⟨g5, 4, none⟩ = some (.slice Ay4 l0_4.length cy4) := (blk_cell BKg5.out 4).trans rfl
  have hfz_g5_0 := blk_frozen BKg5.out 0
  have hfz_g5_1 := blk_frozen BKg5.out 1
  have hfz_g5_2 := blk_frozen BKg5.out 2
  have hfz_g5_3 := blk_frozen BKg5.out 3
  have hfz_g5_4 := blk_frozen BKg5.out 4
  go_upto_region 13 with (fail)
  go_upto_region 14 with (first | ((with_reducible refine gate_callee (f := 18) rfl ?_); refine goesL_ (some 34) rfl rfl Tryd.func18 (by kernel_rfl) rfl #[.agg #[.int .i64 a0_0, .int .i64 a0_1, .int .i64 a0_2, .slice Ay3 l0_3.length cy3, .slice Ay4 l0_4.length cy4], .int .i64 1] rfl (by (try simp only [List.map_toArray, List.map_cons, List.map_nil]); first | done | rfl) ?_; (with_reducible refine (laws_markTones.calls k a0_0 a0_1 a0_2 (fun k_ => w_4.heap.size ≤ k_ ∧ k_ < my) (fun k_ => my ≤ k_ ∧ k_ < w_5.heap.size) (.slice Ay3 l0_3.length cy3) (.slice Ay4 l0_4.length cy4) l0_3 l0_4 1 ka w _ ?side1 ?side2 ?side3 ?side4 E7.out).mono ?_); (case side1 => exact HB.out); (case side2 => exact HOy3.out); (case side3 => exact HOy4.out); (case side4 => exact fun k_ ⟨a_, b_⟩ ⟨c_, d_⟩ => by omega); rintro e w_13 ⟨rfl, hb, hk⟩; refine ⟨_, rfl, ?_⟩; clear HOy3 HOy4; clear hcz_g1_0 hcz_g1_1 hcz_g1_2 hcz_g1_3 hcz_g1_4 hfz_g1_0 hfz_g1_1 hfz_g1_2 hfz_g1_3 hfz_g1_4 hcz_g5_0 hcz_g5_1 hcz_g5_2 hcz_g5_3 hcz_g5_4 hfz_g5_0 hfz_g5_1 hfz_g5_2 hfz_g5_3 hfz_g5_4; have n_HB := Aside0.mk hb; have SZw_13 := Aside0.mk hk.1; have n_BKg1 := Aside0.mk (blk_kept BKg1.out hk (fun hs_ => by (try dsimp only at hs_); have := GLg1.out; have := GHg1.out; have := SZw_1.out; have := SZw_2.out; have := SMax.out; have := SMbx.out; have := SZw_3.out; have := SZw_4.out; have := SMay.out; have := SMby.out; have := SZw_5.out; have := SZw_7.out; have := SZw_8.out; have := SZw_9.out; have := SZw_10.out; have := SMaz.out; have := SMbz.out; have := SZw_11.out; have := SZw_12.out; omega)); have n_HOx3 := Aside0.mk (Kd.S_kept HOx3.out hk (fun k_ ⟨a_, b_⟩ hs_ => by (try dsimp only at hs_); have := SZw_1.out; have := SZw_2.out; have := SMax.out; have := SMbx.out; have := SZw_3.out; have := SZw_4.out; have := SMay.out; have := SMby.out; have := SZw_5.out; have := SZw_7.out; have := SZw_8.out; have := SZw_9.out; have := SZw_10.out; have := SMaz.out; have := SMbz.out; have := SZw_11.out; have := SZw_12.out; omega)); have n_HOx4 := Aside0.mk (Kd.S_kept HOx4.out hk (fun k_ ⟨a_, b_⟩ hs_ => by (try dsimp only at hs_); have := SZw_1.out; have := SZw_2.out; have := SMax.out; have := SMbx.out; have := SZw_3.out; have := SZw_4.out; have := SMay.out; have := SMby.out; have := SZw_5.out; have := SZw_7.out; have := SZw_8.out; have := SZw_9.out; have := SZw_10.out; have := SMaz.out; have := SMbz.out; have := SZw_11.out; have := SZw_12.out; omega)); have n_HOw0 := Aside0.mk (Kd.R_kept HOw0.out hk (fun k_ ⟨a_, b_⟩ hs_ => by (try dsimp only at hs_); have := SZw_1.out; have := SZw_2.out; have := SMax.out; have := SMbx.out; have := SZw_3.out; have := SZw_4.out; have := SMay.out; have := SMby.out; have := SZw_5.out; have := SZw_7.out; have := SZw_8.out; have := SZw_9.out; have := SZw_10.out; have := SMaz.out; have := SMbz.out; have := SZw_11.out; have := SZw_12.out; omega)); have n_BKg5 := Aside0.mk (blk_kept BKg5.out hk (fun hs_ => by (try dsimp only at hs_); have := GLg5.out; have := GHg5.out; have := SZw_1.out; have := SZw_2.out; have := SMax.out; have := SMbx.out; have := SZw_3.out; have := SZw_4.out; have := SMay.out; have := SMby.out; have := SZw_5.out; have := SZw_7.out; have := SZw_8.out; have := SZw_9.out; have := SZw_10.out; have := SMaz.out; have := SMbz.out; have := SZw_11.out; have := SZw_12.out; omega)); have n_HOg0 := Aside0.mk (Kd.R_kept HOg0.out hk (fun k_ ⟨a_, b_⟩ hs_ => by (try dsimp only at hs_); have := SZw_1.out; have := SZw_2.out; have := SMax.out; have := SMbx.out; have := SZw_3.out; have := SZw_4.out; have := SMay.out; have := SMby.out; have := SZw_5.out; have := SZw_7.out; have := SZw_8.out; have := SZw_9.out; have := SZw_10.out; have := SMaz.out; have := SMbz.out; have := SZw_11.out; have := SZw_12.out; omega)); have n_HOz3 := Aside0.mk (Kd.S_kept HOz3.out hk (fun k_ ⟨a_, b_⟩ hs_ => by (try dsimp only at hs_); have := SZw_1.out; have := SZw_2.out; have := SMax.out; have := SMbx.out; have := SZw_3.out; have := SZw_4.out; have := SMay.out; have := SMby.out; have := SZw_5.out; have := SZw_7.out; have := SZw_8.out; have := SZw_9.out; have := SZw_10.out; have := SMaz.out; have := SMbz.out; have := SZw_11.out; have := SZw_12.out; omega)); have n_HOz4 := Aside0.mk (Kd.S_kept HOz4.out hk (fun k_ ⟨a_, b_⟩ hs_ => by (try dsimp only at hs_); have := SZw_1.out; have := SZw_2.out; have := SMax.out; have := SMbx.out; have := SZw_3.out; have := SZw_4.out; have := SMay.out; have := SMby.out; have := SZw_5.out; have := SZw_7.out; have := SZw_8.out; have := SZw_9.out; have := SZw_10.out; have := SMaz.out; have := SMbz.out; have := SZw_11.out; have := SZw_12.out; omega)); clear HB BKg1 HOx3 HOx4 HOw0 BKg5 HOg0 HOz3 HOz4; have HB := n_HB; have BKg1 := n_BKg1; have HOx3 := n_HOx3; have HOx4 := n_HOx4; have HOw0 := n_HOw0; have BKg5 := n_BKg5; have HOg0 := n_HOg0; have HOz3 := n_HOz3; have HOz4 := n_HOz4; clear n_HB n_BKg1 n_HOx3 n_HOx4 n_HOw0 n_BKg5 n_HOg0 n_HOz3 n_HOz4; clear hb hk; have hcz_g1_0 : (w_13).cell? ⟨g1, 0, none⟩ = some (.int .i64 a0_0) := (blk_cell BKg1.out 0).trans rfl; have hcz_g1_1 : (w_13).cell? ⟨g1, 1, none⟩ = some (.int .i64 a0_1) := (blk_cell BKg1.out 1).trans rfl; have hcz_g1_2 : (w_13).cell? ⟨g1, 2, none⟩ = some (.int .i64 a0_2) := (blk_cell BKg1.out 2).trans rfl; have hcz_g1_3 : (w_13).cell? ⟨g1, 3, none⟩ = some (.slice A0_3 l0_3.length c0_3) := (blk_cell BKg1.out 3).trans rfl; have hcz_g1_4 : (w_13).cell? ⟨g1, 4, none⟩ = some (.slice A0_4 l0_4.length c0_4) := (blk_cell BKg1.out 4).trans rfl; have hfz_g1_0 := blk_frozen BKg1.out 0; have hfz_g1_1 := blk_frozen BKg1.out 1; have hfz_g1_2 := blk_frozen BKg1.out 2; have hfz_g1_3 := blk_frozen BKg1.out 3; have hfz_g1_4 := blk_frozen BKg1.out 4; have hcz_g5_0 : (w_13).cell? ⟨g5, 0, none⟩ = some (.int .i64 a0_0) := (blk_cell BKg5.out 0).trans rfl; have hcz_g5_1 : (w_13).cell? ⟨g5, 1, none⟩ = some (.int .i64 a0_1) := (blk_cell BKg5.out 1).trans rfl; have hcz_g5_2 : (w_13).cell? ⟨g5, 2, none⟩ = some (.int .i64 a0_2) := (blk_cell BKg5.out 2).trans rfl; have hcz_g5_3 : (w_13).cell? ⟨g5, 3, none⟩ = some (.slice Ay3 l0_3.length cy3) := (blk_cell BKg5.out 3).trans rfl; have hcz_g5_4 : (w_13).cell? ⟨g5, 4, none⟩ = some (.slice Ay4 l0_4.length cy4) := (blk_cell BKg5.out 4).trans rfl; have hfz_g5_0 := blk_frozen BKg5.out 0; have hfz_g5_1 := blk_frozen BKg5.out 1; have hfz_g5_2 := blk_frozen BKg5.out 2; have hfz_g5_3 := blk_frozen BKg5.out 3; have hfz_g5_4 := blk_frozen BKg5.out 4))
  (try simp only [Act.put, List.setIfInBounds_toArray, List.set_cons_zero, List.set_cons_succ])
  (try rw [cka])
  go_upto_region 17 with (first | (go_at_call 9; (with_reducible refine (laws_eqIntS.calls k _ _ r _ _ r true _ ?side1 ?side2 ?side3 ?side4 E5.out).mono ?_); (case side1 => exact (Kd.R_reads' HOg0.out).2.2); (case side2 => exact (Kd.R_reads' HOg0.out).2.1); (case side3 => exact (Kd.R_reads' HOw0.out).2.2); (case side4 => exact (Kd.R_reads' HOw0.out).2.1); rintro e w_14 ⟨rfl, hb⟩; replace hb := hb.below; clear hcz_g1_0 hcz_g1_1 hcz_g1_2 hcz_g1_3 hcz_g1_4 hfz_g1_0 hfz_g1_1 hfz_g1_2 hfz_g1_3 hfz_g1_4 hcz_g5_0 hcz_g5_1 hcz_g5_2 hcz_g5_3 hcz_g5_4 hfz_g5_0 hfz_g5_1 hfz_g5_2 hfz_g5_3 hfz_g5_4; have n_HB := Aside0.mk (below_step HB.out hb); have SZw_14 := Aside0.mk hb.size; have n_BKg1 := Aside0.mk (blk_below BKg1.out hb); have n_HOx3 := Aside0.mk (Kd.S_below HOx3.out hb); have n_HOx4 := Aside0.mk (Kd.S_below HOx4.out hb); have n_HOw0 := Aside0.mk (Kd.R_below HOw0.out hb); have n_BKg5 := Aside0.mk (blk_below BKg5.out hb); have n_HOg0 := Aside0.mk (Kd.R_below HOg0.out hb); have n_HOz3 := Aside0.mk (Kd.S_below HOz3.out hb); have n_HOz4 := Aside0.mk (Kd.S_below HOz4.out hb); clear HB BKg1 HOx3 HOx4 HOw0 BKg5 HOg0 HOz3 HOz4; have HB := n_HB; have BKg1 := n_BKg1; have HOx3 := n_HOx3; have HOx4 := n_HOx4; have HOw0 := n_HOw0; have BKg5 := n_BKg5; have HOg0 := n_HOg0; have HOz3 := n_HOz3; have HOz4 := n_HOz4; clear n_HB n_BKg1 n_HOx3 n_HOx4 n_HOw0 n_BKg5 n_HOg0 n_HOz3 n_HOz4; clear hb; have hcz_g1_0 : (w_14).cell? ⟨g1, 0, none⟩ = some (.int .i64 a0_0) := (blk_cell BKg1.out 0).trans rfl; have hcz_g1_1 : (w_14).cell? ⟨g1, 1, none⟩ = some (.int .i64 a0_1) := (blk_cell BKg1.out 1).trans rfl; have hcz_g1_2 : (w_14).cell? ⟨g1, 2, none⟩ = some (.int .i64 a0_2) := (blk_cell BKg1.out 2).trans rfl; have hcz_g1_3 : (w_14).cell? ⟨g1, 3, none⟩ = some (.slice A0_3 l0_3.length c0_3) := (blk_cell BKg1.out 3).trans rfl; have hcz_g1_4 : (w_14).cell? ⟨g1, 4, none⟩ = some (.slice A0_4 l0_4.length c0_4) := (blk_cell BKg1.out 4).trans rfl; have hfz_g1_0 := blk_frozen BKg1.out 0; have hfz_g1_1 := blk_frozen BKg1.out 1; have hfz_g1_2 := blk_frozen BKg1.out 2; have hfz_g1_3 := blk_frozen BKg1.out 3; have hfz_g1_4 := blk_frozen BKg1.out 4; have hcz_g5_0 : (w_14).cell? ⟨g5, 0, none⟩ = some (.int .i64 a0_0) := (blk_cell BKg5.out 0).trans rfl; have hcz_g5_1 : (w_14).cell? ⟨g5, 1, none⟩ = some (.int .i64 a0_1) := (blk_cell BKg5.out 1).trans rfl; have hcz_g5_2 : (w_14).cell? ⟨g5, 2, none⟩ = some (.int .i64 a0_2) := (blk_cell BKg5.out 2).trans rfl; have hcz_g5_3 : (w_14).cell? ⟨g5, 3, none⟩ = some (.slice Ay3 l0_3.length cy3) := (blk_cell BKg5.out 3).trans rfl; have hcz_g5_4 : (w_14).cell? ⟨g5, 4, none⟩ = some (.slice Ay4 l0_4.length cy4) := (blk_cell BKg5.out 4).trans rfl; have hfz_g5_0 := blk_frozen BKg5.out 0; have hfz_g5_1 := blk_frozen BKg5.out 1; have hfz_g5_2 := blk_frozen BKg5.out 2; have hfz_g5_3 := blk_frozen BKg5.out 3; have hfz_g5_4 := blk_frozen BKg5.out 4))
  go_upto_region 18 with (first | ((with_reducible refine gate_callee (f := 10) rfl ?_); refine goesL_ (some 45) rfl rfl Tryd.func10 (by kernel_rfl) rfl #[.slice Ag0 r.length cg0, .int .i64 1] rfl (by (try simp only [List.map_toArray, List.map_cons, List.map_nil]); first | done | rfl) ?_; (with_reducible refine (laws_markIntS.calls k (fun k_ => w_7.heap.size ≤ k_ ∧ k_ < w_8.heap.size) (.slice Ag0 r.length cg0) r 1 m r' w _ ?side1 ?side2 E8.out).mono ?_); (case side1 => exact HB.out); (case side2 => exact HOg0.out); rintro e w_15 ⟨rfl, hog0, hb, hk⟩; refine ⟨_, rfl, ?_⟩; clear HOg0; clear hcz_g1_0 hcz_g1_1 hcz_g1_2 hcz_g1_3 hcz_g1_4 hfz_g1_0 hfz_g1_1 hfz_g1_2 hfz_g1_3 hfz_g1_4 hcz_g5_0 hcz_g5_1 hcz_g5_2 hcz_g5_3 hcz_g5_4 hfz_g5_0 hfz_g5_1 hfz_g5_2 hfz_g5_3 hfz_g5_4; have n_HB := Aside0.mk hb; have SZw_15 := Aside0.mk hk.1; have n_BKg1 := Aside0.mk (blk_kept BKg1.out hk (fun hs_ => by (try dsimp only at hs_); have := GLg1.out; have := GHg1.out; have := SZw_1.out; have := SZw_2.out; have := SMax.out; have := SMbx.out; have := SZw_3.out; have := SZw_4.out; have := SMay.out; have := SMby.out; have := SZw_5.out; have := SZw_7.out; have := SZw_8.out; have := SZw_9.out; have := SZw_10.out; have := SMaz.out; have := SMbz.out; have := SZw_11.out; have := SZw_12.out; have := SZw_13.out; have := SZw_14.out; omega)); have n_HOx3 := Aside0.mk (Kd.S_kept HOx3.out hk (fun k_ ⟨a_, b_⟩ hs_ => by (try dsimp only at hs_); have := SZw_1.out; have := SZw_2.out; have := SMax.out; have := SMbx.out; have := SZw_3.out; have := SZw_4.out; have := SMay.out; have := SMby.out; have := SZw_5.out; have := SZw_7.out; have := SZw_8.out; have := SZw_9.out; have := SZw_10.out; have := SMaz.out; have := SMbz.out; have := SZw_11.out; have := SZw_12.out; have := SZw_13.out; have := SZw_14.out; omega)); have n_HOx4 := Aside0.mk (Kd.S_kept HOx4.out hk (fun k_ ⟨a_, b_⟩ hs_ => by (try dsimp only at hs_); have := SZw_1.out; have := SZw_2.out; have := SMax.out; have := SMbx.out; have := SZw_3.out; have := SZw_4.out; have := SMay.out; have := SMby.out; have := SZw_5.out; have := SZw_7.out; have := SZw_8.out; have := SZw_9.out; have := SZw_10.out; have := SMaz.out; have := SMbz.out; have := SZw_11.out; have := SZw_12.out; have := SZw_13.out; have := SZw_14.out; omega)); have n_HOw0 := Aside0.mk (Kd.R_kept HOw0.out hk (fun k_ ⟨a_, b_⟩ hs_ => by (try dsimp only at hs_); have := SZw_1.out; have := SZw_2.out; have := SMax.out; have := SMbx.out; have := SZw_3.out; have := SZw_4.out; have := SMay.out; have := SMby.out; have := SZw_5.out; have := SZw_7.out; have := SZw_8.out; have := SZw_9.out; have := SZw_10.out; have := SMaz.out; have := SMbz.out; have := SZw_11.out; have := SZw_12.out; have := SZw_13.out; have := SZw_14.out; omega)); have n_BKg5 := Aside0.mk (blk_kept BKg5.out hk (fun hs_ => by (try dsimp only at hs_); have := GLg5.out; have := GHg5.out; have := SZw_1.out; have := SZw_2.out; have := SMax.out; have := SMbx.out; have := SZw_3.out; have := SZw_4.out; have := SMay.out; have := SMby.out; have := SZw_5.out; have := SZw_7.out; have := SZw_8.out; have := SZw_9.out; have := SZw_10.out; have := SMaz.out; have := SMbz.out; have := SZw_11.out; have := SZw_12.out; have := SZw_13.out; have := SZw_14.out; omega)); have n_HOz3 := Aside0.mk (Kd.S_kept HOz3.out hk (fun k_ ⟨a_, b_⟩ hs_ => by (try dsimp only at hs_); have := SZw_1.out; have := SZw_2.out; have := SMax.out; have := SMbx.out; have := SZw_3.out; have := SZw_4.out; have := SMay.out; have := SMby.out; have := SZw_5.out; have := SZw_7.out; have := SZw_8.out; have := SZw_9.out; have := SZw_10.out; have := SMaz.out; have := SMbz.out; have := SZw_11.out; have := SZw_12.out; have := SZw_13.out; have := SZw_14.out; omega)); have n_HOz4 := Aside0.mk (Kd.S_kept HOz4.out hk (fun k_ ⟨a_, b_⟩ hs_ => by (try dsimp only at hs_); have := SZw_1.out; have := SZw_2.out; have := SMax.out; have := SMbx.out; have := SZw_3.out; have := SZw_4.out; have := SMay.out; have := SMby.out; have := SZw_5.out; have := SZw_7.out; have := SZw_8.out; have := SZw_9.out; have := SZw_10.out; have := SMaz.out; have := SMbz.out; have := SZw_11.out; have := SZw_12.out; have := SZw_13.out; have := SZw_14.out; omega)); clear HB BKg1 HOx3 HOx4 HOw0 BKg5 HOz3 HOz4; have HB := n_HB; have BKg1 := n_BKg1; have HOx3 := n_HOx3; have HOx4 := n_HOx4; have HOw0 := n_HOw0; have BKg5 := n_BKg5; have HOz3 := n_HOz3; have HOz4 := n_HOz4; clear n_HB n_BKg1 n_HOx3 n_HOx4 n_HOw0 n_BKg5 n_HOz3 n_HOz4; have HOg0 := Aside0.mk (show Kd.R (Kd.int .i64) 3 w_15 w.heap.size (fun k_ => 0 ≤ k_ ∧ k_ < w_15.heap.size) (.slice Ag0 r.length cg0) r' from Kd.R_mono (Kd.R_bound hog0) (fun k_ hk => ⟨Nat.zero_le _, hk.2.2.1⟩)); clear hb hk hog0; have hcz_g1_0 : (w_15).cell? ⟨g1, 0, none⟩ = some (.int .i64 a0_0) := (blk_cell BKg1.out 0).trans rfl; have hcz_g1_1 : (w_15).cell? ⟨g1, 1, none⟩ = some (.int .i64 a0_1) := (blk_cell BKg1.out 1).trans rfl; have hcz_g1_2 : (w_15).cell? ⟨g1, 2, none⟩ = some (.int .i64 a0_2) := (blk_cell BKg1.out 2).trans rfl; have hcz_g1_3 : (w_15).cell? ⟨g1, 3, none⟩ = some (.slice A0_3 l0_3.length c0_3) := (blk_cell BKg1.out 3).trans rfl; have hcz_g1_4 : (w_15).cell? ⟨g1, 4, none⟩ = some (.slice A0_4 l0_4.length c0_4) := (blk_cell BKg1.out 4).trans rfl; have hfz_g1_0 := blk_frozen BKg1.out 0; have hfz_g1_1 := blk_frozen BKg1.out 1; have hfz_g1_2 := blk_frozen BKg1.out 2; have hfz_g1_3 := blk_frozen BKg1.out 3; have hfz_g1_4 := blk_frozen BKg1.out 4; have hcz_g5_0 : (w_15).cell? ⟨g5, 0, none⟩ = some (.int .i64 a0_0) := (blk_cell BKg5.out 0).trans rfl; have hcz_g5_1 : (w_15).cell? ⟨g5, 1, none⟩ = some (.int .i64 a0_1) := (blk_cell BKg5.out 1).trans rfl; have hcz_g5_2 : (w_15).cell? ⟨g5, 2, none⟩ = some (.int .i64 a0_2) := (blk_cell BKg5.out 2).trans rfl; have hcz_g5_3 : (w_15).cell? ⟨g5, 3, none⟩ = some (.slice Ay3 l0_3.length cy3) := (blk_cell BKg5.out 3).trans rfl; have hcz_g5_4 : (w_15).cell? ⟨g5, 4, none⟩ = some (.slice Ay4 l0_4.length cy4) := (blk_cell BKg5.out 4).trans rfl; have hfz_g5_0 := blk_frozen BKg5.out 0; have hfz_g5_1 := blk_frozen BKg5.out 1; have hfz_g5_2 := blk_frozen BKg5.out 2; have hfz_g5_3 := blk_frozen BKg5.out 3; have hfz_g5_4 := blk_frozen BKg5.out 4))
  go_upto_region 20 with (first | ((with_reducible refine gate_callee (f := 19) rfl ?_); refine goesL_ (some 48) rfl rfl Tryd.func19 (by kernel_rfl) rfl #[.slice Ag0 r'.length cg0, .int .i64 1] rfl (by (try simp only [List.map_toArray, List.map_cons, List.map_nil]); first | done | rfl | (rw [show r'.length = r.length from (Kd.R_reads' HOg0.out).1.symm] <;> rfl)) ?_; (with_reducible refine (laws_heldIntS.calls k _ _ r' 1 m _ ?side1 ?side2 E9.out).mono ?_); (case side1 => exact (Kd.R_reads' HOg0.out).2.2); (case side2 => exact Nat.le_trans (Nat.le_of_eq (Kd.R_reads' HOg0.out).1.symm) (Kd.R_reads' HOg0.out).2.1); rintro e w_16 ⟨rfl, hb⟩; replace hb := hb.below; refine ⟨_, rfl, ?_⟩; clear hcz_g1_0 hcz_g1_1 hcz_g1_2 hcz_g1_3 hcz_g1_4 hfz_g1_0 hfz_g1_1 hfz_g1_2 hfz_g1_3 hfz_g1_4 hcz_g5_0 hcz_g5_1 hcz_g5_2 hcz_g5_3 hcz_g5_4 hfz_g5_0 hfz_g5_1 hfz_g5_2 hfz_g5_3 hfz_g5_4; have n_HB := Aside0.mk (below_step HB.out hb); have SZw_16 := Aside0.mk hb.size; have n_BKg1 := Aside0.mk (blk_below BKg1.out hb); have n_HOx3 := Aside0.mk (Kd.S_below HOx3.out hb); have n_HOx4 := Aside0.mk (Kd.S_below HOx4.out hb); have n_HOw0 := Aside0.mk (Kd.R_below HOw0.out hb); have n_BKg5 := Aside0.mk (blk_below BKg5.out hb); have n_HOz3 := Aside0.mk (Kd.S_below HOz3.out hb); have n_HOz4 := Aside0.mk (Kd.S_below HOz4.out hb); have n_HOg0 := Aside0.mk (Kd.R_below HOg0.out hb); clear HB BKg1 HOx3 HOx4 HOw0 BKg5 HOz3 HOz4 HOg0; have HB := n_HB; have BKg1 := n_BKg1; have HOx3 := n_HOx3; have HOx4 := n_HOx4; have HOw0 := n_HOw0; have BKg5 := n_BKg5; have HOz3 := n_HOz3; have HOz4 := n_HOz4; have HOg0 := n_HOg0; clear n_HB n_BKg1 n_HOx3 n_HOx4 n_HOw0 n_BKg5 n_HOz3 n_HOz4 n_HOg0; clear hb; have hcz_g1_0 : (w_16).cell? ⟨g1, 0, none⟩ = some (.int .i64 a0_0) := (blk_cell BKg1.out 0).trans rfl; have hcz_g1_1 : (w_16).cell? ⟨g1, 1, none⟩ = some (.int .i64 a0_1) := (blk_cell BKg1.out 1).trans rfl; have hcz_g1_2 : (w_16).cell? ⟨g1, 2, none⟩ = some (.int .i64 a0_2) := (blk_cell BKg1.out 2).trans rfl; have hcz_g1_3 : (w_16).cell? ⟨g1, 3, none⟩ = some (.slice A0_3 l0_3.length c0_3) := (blk_cell BKg1.out 3).trans rfl; have hcz_g1_4 : (w_16).cell? ⟨g1, 4, none⟩ = some (.slice A0_4 l0_4.length c0_4) := (blk_cell BKg1.out 4).trans rfl; have hfz_g1_0 := blk_frozen BKg1.out 0; have hfz_g1_1 := blk_frozen BKg1.out 1; have hfz_g1_2 := blk_frozen BKg1.out 2; have hfz_g1_3 := blk_frozen BKg1.out 3; have hfz_g1_4 := blk_frozen BKg1.out 4; have hcz_g5_0 : (w_16).cell? ⟨g5, 0, none⟩ = some (.int .i64 a0_0) := (blk_cell BKg5.out 0).trans rfl; have hcz_g5_1 : (w_16).cell? ⟨g5, 1, none⟩ = some (.int .i64 a0_1) := (blk_cell BKg5.out 1).trans rfl; have hcz_g5_2 : (w_16).cell? ⟨g5, 2, none⟩ = some (.int .i64 a0_2) := (blk_cell BKg5.out 2).trans rfl; have hcz_g5_3 : (w_16).cell? ⟨g5, 3, none⟩ = some (.slice Ay3 l0_3.length cy3) := (blk_cell BKg5.out 3).trans rfl; have hcz_g5_4 : (w_16).cell? ⟨g5, 4, none⟩ = some (.slice Ay4 l0_4.length cy4) := (blk_cell BKg5.out 4).trans rfl; have hfz_g5_0 := blk_frozen BKg5.out 0; have hfz_g5_1 := blk_frozen BKg5.out 1; have hfz_g5_2 := blk_frozen BKg5.out 2; have hfz_g5_3 := blk_frozen BKg5.out 3; have hfz_g5_4 := blk_frozen BKg5.out 4))
  go_upto_region 25 with (first | ((with_reducible refine gate_callee (f := 15) rfl ?_); refine goesL_ (some 55) rfl rfl Tryd.func15 (by kernel_rfl) rfl #[.agg #[.int .i64 a0_0, .int .i64 a0_1, .int .i64 a0_2, .slice A0_3 l0_3.length c0_3, .slice A0_4 l0_4.length c0_4]] rfl (by (try simp only [List.map_toArray, List.map_cons, List.map_nil]); first | done | rfl) ?_; (with_reducible refine (laws_toTones.calls k a0_0 a0_1 a0_2 _ _ l0_3 _ _ l0_4 a0_0 a0_1 a0_2 l0_3 l0_4 _ ?side1 ?side2 ?side3 ?side4 E2.out).mono ?_); (case side1 => exact Kd.C_below HR3.out HB.out); (case side2 => exact HC3.out); (case side3 => exact Kd.C_below HR4.out HB.out); (case side4 => exact HC4.out); rintro e w_17 ⟨vq3, vq4, mq, rfl, ⟨hmaq, hmbq⟩, hoq3, hoq4, hb⟩; have SMaq := Aside0.mk hmaq; have SMbq := Aside0.mk hmbq; clear hmaq hmbq; refine ⟨_, rfl, ?_⟩; clear hcz_g1_0 hcz_g1_1 hcz_g1_2 hcz_g1_3 hcz_g1_4 hfz_g1_0 hfz_g1_1 hfz_g1_2 hfz_g1_3 hfz_g1_4 hcz_g5_0 hcz_g5_1 hcz_g5_2 hcz_g5_3 hcz_g5_4 hfz_g5_0 hfz_g5_1 hfz_g5_2 hfz_g5_3 hfz_g5_4; have n_HB := Aside0.mk (below_step HB.out hb); have SZw_17 := Aside0.mk hb.size; have n_BKg1 := Aside0.mk (blk_below BKg1.out hb); have n_HOx3 := Aside0.mk (Kd.S_below HOx3.out hb); have n_HOx4 := Aside0.mk (Kd.S_below HOx4.out hb); have n_HOw0 := Aside0.mk (Kd.R_below HOw0.out hb); have n_BKg5 := Aside0.mk (blk_below BKg5.out hb); have n_HOz3 := Aside0.mk (Kd.S_below HOz3.out hb); have n_HOz4 := Aside0.mk (Kd.S_below HOz4.out hb); have n_HOg0 := Aside0.mk (Kd.R_below HOg0.out hb); clear HB BKg1 HOx3 HOx4 HOw0 BKg5 HOz3 HOz4 HOg0; have HB := n_HB; have BKg1 := n_BKg1; have HOx3 := n_HOx3; have HOx4 := n_HOx4; have HOw0 := n_HOw0; have BKg5 := n_BKg5; have HOz3 := n_HOz3; have HOz4 := n_HOz4; have HOg0 := n_HOg0; clear n_HB n_BKg1 n_HOx3 n_HOx4 n_HOw0 n_BKg5 n_HOz3 n_HOz4 n_HOg0; have HOq3 := Aside0.mk (show Kd.S (Kd.slice 3 (Kd.int .i64)) 22 w_17 w.heap.size (fun k_ => w_16.heap.size ≤ k_ ∧ k_ < mq) vq3 l0_3 from Kd.S_lower (Kd.S_mono (Kd.S_bound hoq3) (fun k_ hk => ⟨hk.1.1, hk.1.2⟩)) (by have := SZw_1.out; have := SZw_2.out; have := SMax.out; have := SMbx.out; have := SZw_3.out; have := SZw_4.out; have := SMay.out; have := SMby.out; have := SZw_5.out; have := SZw_7.out; have := SZw_8.out; have := SZw_9.out; have := SZw_10.out; have := SMaz.out; have := SMbz.out; have := SZw_11.out; have := SZw_12.out; have := SZw_13.out; have := SZw_14.out; have := SZw_15.out; have := SZw_16.out; have := SMaq.out; have := SMbq.out; have := SZw_17.out; omega)); obtain ⟨Aq3, cq3, eq3⟩ := Kd.S_slice HOq3.out; subst eq3; have HOq4 := Aside0.mk (show Kd.S (Kd.slice 3 (Kd.int .i64)) 22 w_17 w.heap.size (fun k_ => mq ≤ k_ ∧ k_ < w_17.heap.size) vq4 l0_4 from Kd.S_lower (Kd.S_mono (Kd.S_bound hoq4) (fun k_ hk => ⟨hk.1.1, hk.1.2⟩)) (by have := SZw_1.out; have := SZw_2.out; have := SMax.out; have := SMbx.out; have := SZw_3.out; have := SZw_4.out; have := SMay.out; have := SMby.out; have := SZw_5.out; have := SZw_7.out; have := SZw_8.out; have := SZw_9.out; have := SZw_10.out; have := SMaz.out; have := SMbz.out; have := SZw_11.out; have := SZw_12.out; have := SZw_13.out; have := SZw_14.out; have := SZw_15.out; have := SZw_16.out; have := SMaq.out; have := SMbq.out; have := SZw_17.out; omega)); obtain ⟨Aq4, cq4, eq4⟩ := Kd.S_slice HOq4.out; subst eq4; clear hb hoq3 hoq4; have hcz_g1_0 : (w_17).cell? ⟨g1, 0, none⟩ = some (.int .i64 a0_0) := (blk_cell BKg1.out 0).trans rfl; have hcz_g1_1 : (w_17).cell? ⟨g1, 1, none⟩ = some (.int .i64 a0_1) := (blk_cell BKg1.out 1).trans rfl; have hcz_g1_2 : (w_17).cell? ⟨g1, 2, none⟩ = some (.int .i64 a0_2) := (blk_cell BKg1.out 2).trans rfl; have hcz_g1_3 : (w_17).cell? ⟨g1, 3, none⟩ = some (.slice A0_3 l0_3.length c0_3) := (blk_cell BKg1.out 3).trans rfl; have hcz_g1_4 : (w_17).cell? ⟨g1, 4, none⟩ = some (.slice A0_4 l0_4.length c0_4) := (blk_cell BKg1.out 4).trans rfl; have hfz_g1_0 := blk_frozen BKg1.out 0; have hfz_g1_1 := blk_frozen BKg1.out 1; have hfz_g1_2 := blk_frozen BKg1.out 2; have hfz_g1_3 := blk_frozen BKg1.out 3; have hfz_g1_4 := blk_frozen BKg1.out 4; have hcz_g5_0 : (w_17).cell? ⟨g5, 0, none⟩ = some (.int .i64 a0_0) := (blk_cell BKg5.out 0).trans rfl; have hcz_g5_1 : (w_17).cell? ⟨g5, 1, none⟩ = some (.int .i64 a0_1) := (blk_cell BKg5.out 1).trans rfl; have hcz_g5_2 : (w_17).cell? ⟨g5, 2, none⟩ = some (.int .i64 a0_2) := (blk_cell BKg5.out 2).trans rfl; have hcz_g5_3 : (w_17).cell? ⟨g5, 3, none⟩ = some (.slice Ay3 l0_3.length cy3) := (blk_cell BKg5.out 3).trans rfl; have hcz_g5_4 : (w_17).cell? ⟨g5, 4, none⟩ = some (.slice Ay4 l0_4.length cy4) := (blk_cell BKg5.out 4).trans rfl; have hfz_g5_0 := blk_frozen BKg5.out 0; have hfz_g5_1 := blk_frozen BKg5.out 1; have hfz_g5_2 := blk_frozen BKg5.out 2; have hfz_g5_3 := blk_frozen BKg5.out 3; have hfz_g5_4 := blk_frozen BKg5.out 4) | ((with_reducible refine gate_callee (f := 16) rfl ?_); refine goesL_ (some 56) rfl rfl Tryd.func16 (by kernel_rfl) rfl #[.agg #[.int .i64 a0_0, .int .i64 a0_1, .int .i64 a0_2, .slice Aq3 l0_3.length cq3, .slice Aq4 l0_4.length cq4]] rfl (by (try simp only [List.map_toArray, List.map_cons, List.map_nil]); first | done | rfl) ?_; (with_reducible refine (impl_SoundOf.calls k a0_0 a0_1 a0_2 _ _ l0_3 _ _ l0_4 r _ ?side1 ?side2 ?side3 ?side4 ?side5 E4.out).mono ?_); (case side1 => exact (Kd.S_reads' HOq3.out).2.2); (case side2 => exact (Kd.S_reads' HOq3.out).2.1); (case side3 => exact (Kd.S_reads' HOq4.out).2.2); (case side4 => exact (Kd.S_reads' HOq4.out).2.1); (case side5 => exact MX.below HM.out HB.out); rintro e w_18 ⟨vh0, rfl, hoh0, hb⟩; refine ⟨_, rfl, ?_⟩; clear hcz_g1_0 hcz_g1_1 hcz_g1_2 hcz_g1_3 hcz_g1_4 hfz_g1_0 hfz_g1_1 hfz_g1_2 hfz_g1_3 hfz_g1_4 hcz_g5_0 hcz_g5_1 hcz_g5_2 hcz_g5_3 hcz_g5_4 hfz_g5_0 hfz_g5_1 hfz_g5_2 hfz_g5_3 hfz_g5_4; have n_HB := Aside0.mk (below_step HB.out hb); have SZw_18 := Aside0.mk hb.size; have n_BKg1 := Aside0.mk (blk_below BKg1.out hb); have n_HOx3 := Aside0.mk (Kd.S_below HOx3.out hb); have n_HOx4 := Aside0.mk (Kd.S_below HOx4.out hb); have n_HOw0 := Aside0.mk (Kd.R_below HOw0.out hb); have n_BKg5 := Aside0.mk (blk_below BKg5.out hb); have n_HOz3 := Aside0.mk (Kd.S_below HOz3.out hb); have n_HOz4 := Aside0.mk (Kd.S_below HOz4.out hb); have n_HOg0 := Aside0.mk (Kd.R_below HOg0.out hb); have n_HOq3 := Aside0.mk (Kd.S_below HOq3.out hb); have n_HOq4 := Aside0.mk (Kd.S_below HOq4.out hb); clear HB BKg1 HOx3 HOx4 HOw0 BKg5 HOz3 HOz4 HOg0 HOq3 HOq4; have HB := n_HB; have BKg1 := n_BKg1; have HOx3 := n_HOx3; have HOx4 := n_HOx4; have HOw0 := n_HOw0; have BKg5 := n_BKg5; have HOz3 := n_HOz3; have HOz4 := n_HOz4; have HOg0 := n_HOg0; have HOq3 := n_HOq3; have HOq4 := n_HOq4; clear n_HB n_BKg1 n_HOx3 n_HOx4 n_HOw0 n_BKg5 n_HOz3 n_HOz4 n_HOg0 n_HOq3 n_HOq4; have HOh0 := Aside0.mk (show Kd.R (Kd.int .i64) 3 w_18 w.heap.size (fun k_ => w_17.heap.size ≤ k_ ∧ k_ < w_18.heap.size) vh0 r from Kd.R_lower (Kd.R_mono (Kd.R_bound hoh0) (fun k_ hk => ⟨hk.2.1, hk.2.2.1⟩)) (by have := SZw_1.out; have := SZw_2.out; have := SMax.out; have := SMbx.out; have := SZw_3.out; have := SZw_4.out; have := SMay.out; have := SMby.out; have := SZw_5.out; have := SZw_7.out; have := SZw_8.out; have := SZw_9.out; have := SZw_10.out; have := SMaz.out; have := SMbz.out; have := SZw_11.out; have := SZw_12.out; have := SZw_13.out; have := SZw_14.out; have := SZw_15.out; have := SZw_16.out; have := SMaq.out; have := SMbq.out; have := SZw_17.out; have := SZw_18.out; omega)); obtain ⟨Ah0, ch0, eh0⟩ := Kd.R_slice HOh0.out; subst eh0; clear hb hoh0; have hcz_g1_0 : (w_18).cell? ⟨g1, 0, none⟩ = some (.int .i64 a0_0) := (blk_cell BKg1.out 0).trans rfl; have hcz_g1_1 : (w_18).cell? ⟨g1, 1, none⟩ = some (.int .i64 a0_1) := (blk_cell BKg1.out 1).trans rfl; have hcz_g1_2 : (w_18).cell? ⟨g1, 2, none⟩ = some (.int .i64 a0_2) := (blk_cell BKg1.out 2).trans rfl; have hcz_g1_3 : (w_18).cell? ⟨g1, 3, none⟩ = some (.slice A0_3 l0_3.length c0_3) := (blk_cell BKg1.out 3).trans rfl; have hcz_g1_4 : (w_18).cell? ⟨g1, 4, none⟩ = some (.slice A0_4 l0_4.length c0_4) := (blk_cell BKg1.out 4).trans rfl; have hfz_g1_0 := blk_frozen BKg1.out 0; have hfz_g1_1 := blk_frozen BKg1.out 1; have hfz_g1_2 := blk_frozen BKg1.out 2; have hfz_g1_3 := blk_frozen BKg1.out 3; have hfz_g1_4 := blk_frozen BKg1.out 4; have hcz_g5_0 : (w_18).cell? ⟨g5, 0, none⟩ = some (.int .i64 a0_0) := (blk_cell BKg5.out 0).trans rfl; have hcz_g5_1 : (w_18).cell? ⟨g5, 1, none⟩ = some (.int .i64 a0_1) := (blk_cell BKg5.out 1).trans rfl; have hcz_g5_2 : (w_18).cell? ⟨g5, 2, none⟩ = some (.int .i64 a0_2) := (blk_cell BKg5.out 2).trans rfl; have hcz_g5_3 : (w_18).cell? ⟨g5, 3, none⟩ = some (.slice Ay3 l0_3.length cy3) := (blk_cell BKg5.out 3).trans rfl; have hcz_g5_4 : (w_18).cell? ⟨g5, 4, none⟩ = some (.slice Ay4 l0_4.length cy4) := (blk_cell BKg5.out 4).trans rfl; have hfz_g5_0 := blk_frozen BKg5.out 0; have hfz_g5_1 := blk_frozen BKg5.out 1; have hfz_g5_2 := blk_frozen BKg5.out 2; have hfz_g5_3 := blk_frozen BKg5.out 3; have hfz_g5_4 := blk_frozen BKg5.out 4))
  go_upto_region 28 with (first | ((with_reducible refine gate_callee (f := 9) rfl ?_); refine goesL_ (some 59) rfl rfl Tryd.func9 (by kernel_rfl) rfl #[.slice Ah0 r.length ch0, .slice Aw0 r.length cw0] rfl (by (try simp only [List.map_toArray, List.map_cons, List.map_nil]); first | done | rfl) ?_; (with_reducible refine (laws_eqIntS.calls k _ _ r _ _ r true _ ?side1 ?side2 ?side3 ?side4 E5.out).mono ?_); (case side1 => exact (Kd.R_reads' HOh0.out).2.2); (case side2 => exact (Kd.R_reads' HOh0.out).2.1); (case side3 => exact (Kd.R_reads' HOw0.out).2.2); (case side4 => exact (Kd.R_reads' HOw0.out).2.1); rintro e w_19 ⟨rfl, hb⟩; replace hb := hb.below; refine ⟨_, rfl, ?_⟩; clear hcz_g1_0 hcz_g1_1 hcz_g1_2 hcz_g1_3 hcz_g1_4 hfz_g1_0 hfz_g1_1 hfz_g1_2 hfz_g1_3 hfz_g1_4 hcz_g5_0 hcz_g5_1 hcz_g5_2 hcz_g5_3 hcz_g5_4 hfz_g5_0 hfz_g5_1 hfz_g5_2 hfz_g5_3 hfz_g5_4; have n_HB := Aside0.mk (below_step HB.out hb); have SZw_19 := Aside0.mk hb.size; have n_BKg1 := Aside0.mk (blk_below BKg1.out hb); have n_HOx3 := Aside0.mk (Kd.S_below HOx3.out hb); have n_HOx4 := Aside0.mk (Kd.S_below HOx4.out hb); have n_HOw0 := Aside0.mk (Kd.R_below HOw0.out hb); have n_BKg5 := Aside0.mk (blk_below BKg5.out hb); have n_HOz3 := Aside0.mk (Kd.S_below HOz3.out hb); have n_HOz4 := Aside0.mk (Kd.S_below HOz4.out hb); have n_HOg0 := Aside0.mk (Kd.R_below HOg0.out hb); have n_HOq3 := Aside0.mk (Kd.S_below HOq3.out hb); have n_HOq4 := Aside0.mk (Kd.S_below HOq4.out hb); have n_HOh0 := Aside0.mk (Kd.R_below HOh0.out hb); clear HB BKg1 HOx3 HOx4 HOw0 BKg5 HOz3 HOz4 HOg0 HOq3 HOq4 HOh0; have HB := n_HB; have BKg1 := n_BKg1; have HOx3 := n_HOx3; have HOx4 := n_HOx4; have HOw0 := n_HOw0; have BKg5 := n_BKg5; have HOz3 := n_HOz3; have HOz4 := n_HOz4; have HOg0 := n_HOg0; have HOq3 := n_HOq3; have HOq4 := n_HOq4; have HOh0 := n_HOh0; clear n_HB n_BKg1 n_HOx3 n_HOx4 n_HOw0 n_BKg5 n_HOz3 n_HOz4 n_HOg0 n_HOq3 n_HOq4 n_HOh0; clear hb; have hcz_g1_0 : (w_19).cell? ⟨g1, 0, none⟩ = some (.int .i64 a0_0) := (blk_cell BKg1.out 0).trans rfl; have hcz_g1_1 : (w_19).cell? ⟨g1, 1, none⟩ = some (.int .i64 a0_1) := (blk_cell BKg1.out 1).trans rfl; have hcz_g1_2 : (w_19).cell? ⟨g1, 2, none⟩ = some (.int .i64 a0_2) := (blk_cell BKg1.out 2).trans rfl; have hcz_g1_3 : (w_19).cell? ⟨g1, 3, none⟩ = some (.slice A0_3 l0_3.length c0_3) := (blk_cell BKg1.out 3).trans rfl; have hcz_g1_4 : (w_19).cell? ⟨g1, 4, none⟩ = some (.slice A0_4 l0_4.length c0_4) := (blk_cell BKg1.out 4).trans rfl; have hfz_g1_0 := blk_frozen BKg1.out 0; have hfz_g1_1 := blk_frozen BKg1.out 1; have hfz_g1_2 := blk_frozen BKg1.out 2; have hfz_g1_3 := blk_frozen BKg1.out 3; have hfz_g1_4 := blk_frozen BKg1.out 4; have hcz_g5_0 : (w_19).cell? ⟨g5, 0, none⟩ = some (.int .i64 a0_0) := (blk_cell BKg5.out 0).trans rfl; have hcz_g5_1 : (w_19).cell? ⟨g5, 1, none⟩ = some (.int .i64 a0_1) := (blk_cell BKg5.out 1).trans rfl; have hcz_g5_2 : (w_19).cell? ⟨g5, 2, none⟩ = some (.int .i64 a0_2) := (blk_cell BKg5.out 2).trans rfl; have hcz_g5_3 : (w_19).cell? ⟨g5, 3, none⟩ = some (.slice Ay3 l0_3.length cy3) := (blk_cell BKg5.out 3).trans rfl; have hcz_g5_4 : (w_19).cell? ⟨g5, 4, none⟩ = some (.slice Ay4 l0_4.length cy4) := (blk_cell BKg5.out 4).trans rfl; have hfz_g5_0 := blk_frozen BKg5.out 0; have hfz_g5_1 := blk_frozen BKg5.out 1; have hfz_g5_2 := blk_frozen BKg5.out 2; have hfz_g5_3 := blk_frozen BKg5.out 3; have hfz_g5_4 := blk_frozen BKg5.out 4))
  go_wp2_with (first | ((with_reducible refine gate_callee (f := 19) rfl ?_); refine goesL_ (some 63) rfl rfl Tryd.func19 (by kernel_rfl) rfl #[.slice Ag0 r'.length cg0, .int .i64 1] rfl (by (try simp only [List.map_toArray, List.map_cons, List.map_nil]); first | done | rfl | (rw [show r'.length = r.length from (Kd.R_reads' HOg0.out).1.symm] <;> rfl)) ?_; (with_reducible refine (laws_heldIntS.calls k _ _ r' 1 m _ ?side1 ?side2 E9.out).mono ?_); (case side1 => exact (Kd.R_reads' HOg0.out).2.2); (case side2 => exact Nat.le_trans (Nat.le_of_eq (Kd.R_reads' HOg0.out).1.symm) (Kd.R_reads' HOg0.out).2.1); rintro e w_20 ⟨rfl, hb⟩; replace hb := hb.below; refine ⟨_, rfl, ?_⟩; clear hcz_g1_0 hcz_g1_1 hcz_g1_2 hcz_g1_3 hcz_g1_4 hfz_g1_0 hfz_g1_1 hfz_g1_2 hfz_g1_3 hfz_g1_4 hcz_g5_0 hcz_g5_1 hcz_g5_2 hcz_g5_3 hcz_g5_4 hfz_g5_0 hfz_g5_1 hfz_g5_2 hfz_g5_3 hfz_g5_4; have n_HB := Aside0.mk (below_step HB.out hb); have SZw_20 := Aside0.mk hb.size; have n_BKg1 := Aside0.mk (blk_below BKg1.out hb); have n_HOx3 := Aside0.mk (Kd.S_below HOx3.out hb); have n_HOx4 := Aside0.mk (Kd.S_below HOx4.out hb); have n_HOw0 := Aside0.mk (Kd.R_below HOw0.out hb); have n_BKg5 := Aside0.mk (blk_below BKg5.out hb); have n_HOz3 := Aside0.mk (Kd.S_below HOz3.out hb); have n_HOz4 := Aside0.mk (Kd.S_below HOz4.out hb); have n_HOg0 := Aside0.mk (Kd.R_below HOg0.out hb); have n_HOq3 := Aside0.mk (Kd.S_below HOq3.out hb); have n_HOq4 := Aside0.mk (Kd.S_below HOq4.out hb); have n_HOh0 := Aside0.mk (Kd.R_below HOh0.out hb); clear HB BKg1 HOx3 HOx4 HOw0 BKg5 HOz3 HOz4 HOg0 HOq3 HOq4 HOh0; have HB := n_HB; have BKg1 := n_BKg1; have HOx3 := n_HOx3; have HOx4 := n_HOx4; have HOw0 := n_HOw0; have BKg5 := n_BKg5; have HOz3 := n_HOz3; have HOz4 := n_HOz4; have HOg0 := n_HOg0; have HOq3 := n_HOq3; have HOq4 := n_HOq4; have HOh0 := n_HOh0; clear n_HB n_BKg1 n_HOx3 n_HOx4 n_HOw0 n_BKg5 n_HOz3 n_HOz4 n_HOg0 n_HOq3 n_HOq4 n_HOh0; clear hb; have hcz_g1_0 : (w_20).cell? ⟨g1, 0, none⟩ = some (.int .i64 a0_0) := (blk_cell BKg1.out 0).trans rfl; have hcz_g1_1 : (w_20).cell? ⟨g1, 1, none⟩ = some (.int .i64 a0_1) := (blk_cell BKg1.out 1).trans rfl; have hcz_g1_2 : (w_20).cell? ⟨g1, 2, none⟩ = some (.int .i64 a0_2) := (blk_cell BKg1.out 2).trans rfl; have hcz_g1_3 : (w_20).cell? ⟨g1, 3, none⟩ = some (.slice A0_3 l0_3.length c0_3) := (blk_cell BKg1.out 3).trans rfl; have hcz_g1_4 : (w_20).cell? ⟨g1, 4, none⟩ = some (.slice A0_4 l0_4.length c0_4) := (blk_cell BKg1.out 4).trans rfl; have hfz_g1_0 := blk_frozen BKg1.out 0; have hfz_g1_1 := blk_frozen BKg1.out 1; have hfz_g1_2 := blk_frozen BKg1.out 2; have hfz_g1_3 := blk_frozen BKg1.out 3; have hfz_g1_4 := blk_frozen BKg1.out 4; have hcz_g5_0 : (w_20).cell? ⟨g5, 0, none⟩ = some (.int .i64 a0_0) := (blk_cell BKg5.out 0).trans rfl; have hcz_g5_1 : (w_20).cell? ⟨g5, 1, none⟩ = some (.int .i64 a0_1) := (blk_cell BKg5.out 1).trans rfl; have hcz_g5_2 : (w_20).cell? ⟨g5, 2, none⟩ = some (.int .i64 a0_2) := (blk_cell BKg5.out 2).trans rfl; have hcz_g5_3 : (w_20).cell? ⟨g5, 3, none⟩ = some (.slice Ay3 l0_3.length cy3) := (blk_cell BKg5.out 3).trans rfl; have hcz_g5_4 : (w_20).cell? ⟨g5, 4, none⟩ = some (.slice Ay4 l0_4.length cy4) := (blk_cell BKg5.out 4).trans rfl; have hfz_g5_0 := blk_frozen BKg5.out 0; have hfz_g5_1 := blk_frozen BKg5.out 1; have hfz_g5_2 := blk_frozen BKg5.out 2; have hfz_g5_3 := blk_frozen BKg5.out 3; have hfz_g5_4 := blk_frozen BKg5.out 4))
  go_ret
  exact ⟨rfl, HB.out⟩

end Go.Proofs.YtidblealnaicpaaDoor.PFnExactSoundOf

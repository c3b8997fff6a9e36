-- written by myprint.py (a program of this session's over the kit's print)
import Derived.Test.YtidblealnaicpaaPFnFiltersx0
import Derived.Test.YtidblealnaicpaaPFnFiltersx4
namespace Go.Proofs.Ytidblealnaicpaa.PFnFilters
open Go.RowKit Go.Proofs.YtidblealnaicpaaW.PrintWords Go.Proofs.YtidblealnaicpaaW.PrintLast Go.Proofs.YtidblealnaicpaaW.PrintMore
attribute [local go_sem] max2_int min2_int max_two min_two max_three min_three max_four min_four   -- for this text's walks alone
set_option linter.unusedVariables false
set_option linter.unusedSimpArgs false

/-! ### impl_guess: function 108 -/
mutual
def impl_guess.j0 : Nat → Int → Int → List Int → Int → Int → Int → Int → Option (Int)
  | 0, _, _, _, _, _, _, _ => none
  | k + 1, x0, x1, x2, x4, x11, x12, x13 => if (x2.length : Int) > 0 then (if 0 ≤ x4 then (if x4 < (x2.length : Int) then (if x4 ≥ x1 then (if 0 ≤ (wrap64 (x4 - x1)) then (if (wrap64 (x4 - x1)) < (x2.length : Int) then (impl_guess.j1 k x0 x11 (wrap64 (rd x2 x4)) (wrap64 (rd x2 (wrap64 (x4 - x1))))) else (none)) else (none)) else (impl_guess.j1 k x0 x11 (wrap64 (rd x2 x4)) x13)) else (none)) else (none)) else (impl_guess.j1 k x0 x11 x12 x13)
def impl_guess.j1 : Nat → Int → Int → Int → Int → Option (Int)
  | 0, _, _, _, _ => none
  | k + 1, x0, x11, x12, x13 => if x0 = 1 then (some ((x11) % 256)) else (if x0 = 2 then (some ((x12) % 256)) else (if x0 = 3 then (some ((wrap64 (Int.tdiv (wrap64 (x11 + x12)) 2)) % 256)) else (if x0 = 4 then ((impl_away.f (wrap64 ((wrap64 (x11 + x12)) - x13)) x11).bind fun t244 => ((impl_away.f (wrap64 ((wrap64 (x11 + x12)) - x13)) x12).bind fun t245 => (if t244 ≤ t245 then ((impl_away.f (wrap64 ((wrap64 (x11 + x12)) - x13)) x11).bind fun t246 => ((impl_away.f (wrap64 ((wrap64 (x11 + x12)) - x13)) x13).bind fun t247 => (impl_guess.j2 k x11 x12 x13 (wrap64 ((wrap64 (x11 + x12)) - x13)) (decide (t246 ≤ t247))))) else (impl_guess.j2 k x11 x12 x13 (wrap64 ((wrap64 (x11 + x12)) - x13)) false)))) else (some 0))))
def impl_guess.j2 : Nat → Int → Int → Int → Int → Bool → Option (Int)
  | 0, _, _, _, _, _ => none
  | k + 1, x11, x12, x13, x14, x66 => if x66 = true then (some ((x11) % 256)) else ((impl_away.f x14 x12).bind fun t248 => ((impl_away.f x14 x13).bind fun t249 => (if t248 ≤ t249 then (some ((x12) % 256)) else (some ((x13) % 256)))))
end
def impl_guess.f (k : Nat) (a0 : Int) (a1 : Int) (l2 : List Int) (l3 : List Int) (a4 : Int) : Option (Int) := if a4 ≥ a1 then (if 0 ≤ (wrap64 (a4 - a1)) then (if (wrap64 (a4 - a1)) < (l3.length : Int) then (impl_guess.j0 k a0 a1 l2 a4 (wrap64 (rd l3 (wrap64 (a4 - a1)))) 0 0) else (none)) else (none)) else (impl_guess.j0 k a0 a1 l2 a4 0 0 0)
theorem impl_guess.mono_l : ∀ k, (∀ y0 y1 y2 y3 y4 y5 y6, LeO (impl_guess.j0 k y0 y1 y2 y3 y4 y5 y6) (impl_guess.j0 (k + 1) y0 y1 y2 y3 y4 y5 y6)) ∧ (∀ y0 y1 y2 y3, LeO (impl_guess.j1 k y0 y1 y2 y3) (impl_guess.j1 (k + 1) y0 y1 y2 y3)) ∧ (∀ y0 y1 y2 y3 y4, LeO (impl_guess.j2 k y0 y1 y2 y3 y4) (impl_guess.j2 (k + 1) y0 y1 y2 y3 y4))
  | 0 => ⟨fun _ _ _ _ _ _ _ r h => by simp [impl_guess.j0] at h, fun _ _ _ _ r h => by simp [impl_guess.j1] at h, fun _ _ _ _ _ r h => by simp [impl_guess.j2] at h⟩
  | k + 1 => by
    obtain ⟨ih0, ih1, ih2⟩ := impl_guess.mono_l k
    refine ⟨?_, ?_, ?_⟩
    · intro y0 y1 y2 y3 y4 y5 y6
      unfold impl_guess.j0
      repeat' first
      | (with_reducible exact ih0 _ _ _ _ _ _ _)
      | (with_reducible exact ih1 _ _ _ _)
      | (with_reducible exact ih2 _ _ _ _ _)
      | (with_reducible exact LeO.refl _)
      | (with_reducible exact LeO.none _)
      | (with_reducible refine LeO.ite ?_ ?_)
      | (with_reducible refine LeO.bind ?_ (fun _ => ?_))
      | exact ih0 _ _ _ _ _ _ _
      | exact ih1 _ _ _ _
      | exact ih2 _ _ _ _ _
      | exact LeO.none _
      | refine LeO.ite ?_ ?_
      | refine LeO.bind ?_ (fun _ => ?_)
    · intro y0 y1 y2 y3
      unfold impl_guess.j1
      repeat' first
      | (with_reducible exact ih0 _ _ _ _ _ _ _)
      | (with_reducible exact ih1 _ _ _ _)
      | (with_reducible exact ih2 _ _ _ _ _)
      | (with_reducible exact LeO.refl _)
      | (with_reducible exact LeO.none _)
      | (with_reducible refine LeO.ite ?_ ?_)
      | (with_reducible refine LeO.bind ?_ (fun _ => ?_))
      | exact ih0 _ _ _ _ _ _ _
      | exact ih1 _ _ _ _
      | exact ih2 _ _ _ _ _
      | exact LeO.none _
      | refine LeO.ite ?_ ?_
      | refine LeO.bind ?_ (fun _ => ?_)
    · intro y0 y1 y2 y3 y4
      unfold impl_guess.j2
      repeat' first
      | (with_reducible exact ih0 _ _ _ _ _ _ _)
      | (with_reducible exact ih1 _ _ _ _)
      | (with_reducible exact ih2 _ _ _ _ _)
      | (with_reducible exact LeO.refl _)
      | (with_reducible exact LeO.none _)
      | (with_reducible refine LeO.ite ?_ ?_)
      | (with_reducible refine LeO.bind ?_ (fun _ => ?_))
      | exact ih0 _ _ _ _ _ _ _
      | exact ih1 _ _ _ _
      | exact ih2 _ _ _ _ _
      | exact LeO.none _
      | refine LeO.ite ?_ ?_
      | refine LeO.bind ?_ (fun _ => ?_)
theorem impl_guess.mono : ∀ a0 a1 a2 a3 a4 k, LeO (impl_guess.f k a0 a1 a2 a3 a4) (impl_guess.f (k + 1) a0 a1 a2 a3 a4) := by
  intro a0 a1 a2 a3 a4 k
  obtain ⟨ih0, ih1, ih2⟩ := impl_guess.mono_l k
  unfold impl_guess.f
  repeat' first
      | (with_reducible exact ih0 _ _ _ _ _ _ _)
      | (with_reducible exact ih1 _ _ _ _)
      | (with_reducible exact ih2 _ _ _ _ _)
      | (with_reducible exact LeO.refl _)
      | (with_reducible exact LeO.none _)
      | (with_reducible refine LeO.ite ?_ ?_)
      | (with_reducible refine LeO.bind ?_ (fun _ => ?_))
      | exact ih0 _ _ _ _ _ _ _
      | exact ih1 _ _ _ _
      | exact ih2 _ _ _ _ _
      | exact LeO.none _
      | refine LeO.ite ?_ ?_
      | refine LeO.bind ?_ (fun _ => ?_)
set_option maxHeartbeats 8000000 in
set_option maxRecDepth 100000 in
theorem impl_guess.calls (k : Nat) (a0 : Int) (a1 : Int) (A2 : Option Addr) (c2 : Nat) (l2 : List Int) (A3 : Option Addr) (c3 : Nat) (l3 : List Int) (a4 : Int) (r : Int) (w : World) (hr2 : Kd.C (Kd.int .u8) w A2 l2.length l2) (hc2 : l2.length ≤ c2) (hr3 : Kd.C (Kd.int .u8) w A3 l3.length l3) (hc3 : l3.length ≤ c3) (h : impl_guess.f k a0 a1 l2 l3 a4 = some r) :
    Calls Try.prog 108 #[.int .i64 a0, .int .i64 a1, .slice A2 l2.length c2, .slice A3 l3.length c3, .int .i64 a4] w fun e w' => e = .returned (.int .u8 r) ∧ Below w.heap.size w w' := by
  have HR2 := Aside0.mk hr2
  have HC2 := Aside0.mk hc2
  clear hr2 hc2
  have HR3 := Aside0.mk hr3
  have HC3 := Aside0.mk hc3
  clear hr3 hc3
  have HB := Aside0.mk (Below.refl w.heap.size w)
  have H : (if a4 ≥ a1 then (if 0 ≤ (wrap64 (a4 - a1)) then (if (wrap64 (a4 - a1)) < (l3.length : Int) then (impl_guess.j0 k a0 a1 l2 a4 (wrap64 (rd l3 (wrap64 (a4 - a1)))) 0 0) else (none)) else (none)) else (impl_guess.j0 k a0 a1 l2 a4 0 0 0)) = some r := h
  clear h
  have HC6 := Aside0.mk H
  clear H
  go_enter Try.func108, Try.ntmps108
  go_upto_if 17 with (fail)
  go_cut [11] (fun v11 wc => ∃ (kq : Nat) (x11_5 : Int), v11 = .int .i64 x11_5 ∧ Aside0 (impl_guess.j0 kq a0 a1 l2 a4 x11_5 0 0 = some r) ∧ Aside0 (kq ≤ k) ∧ Aside0 (Below w.heap.size w wc))
  case first =>
    have H := HC6.out
    clear HC6
    by_cases c7 : a4 ≥ a1
    rotate_left
    · rw [if_neg c7] at H
      have c7b0 : decide (a1 ≤ a4) = false := decide_eq_false c7
      clear c7
      (first | rw [c7b0] | (simp only [i64_w, i32_w]; rw [c7b0]) | skip)
      have H' := Aside0.mk H
      clear H
      go_wp2
      go_meet
      case rel => exact ⟨_, (0), (by first | rfl | (simp; done) | (simp [*]; done)), H', ⟨by first | omega | exact Nat.le_refl _⟩, ⟨by repeat (first | (with_reducible first | exact HB.out | apply below_alloc | apply pw_below_drewN | apply below_drew1) | exact HB.out)⟩⟩
    rw [if_pos c7] at H
    have c7b0 : decide (a1 ≤ a4) = true := decide_eq_true c7
    clear c7
    (first | rw [c7b0] | (simp only [i64_w, i32_w]; rw [c7b0]) | skip)
    obtain ⟨ji8, hji8⟩ : ∃ j_ : Int, (wrap64 (a4 - a1)) = j_ := ⟨_, rfl⟩
    replace H : (if 0 ≤ (ji8) then (if (ji8) < (l3.length : Int) then (impl_guess.j0 k a0 a1 l2 a4 (wrap64 (rd l3 (ji8))) 0 0) else (none)) else (none)) = some r := by first | (rw [hji8] at H; exact H) | (simp only [hji8] at H ⊢; exact H)
    have hji8w : (IntKind.i64.wrap (a4 - a1)) = ji8 := (i64_w _).trans hji8
    by_cases c9 : 0 ≤ (ji8)
    rotate_left
    · rw [if_neg c9] at H
      exact absurd H (by simp)
    rw [if_pos c9] at H
    have c9b0 : decide (0 ≤ (ji8)) = true := decide_eq_true c9
    clear c9
    by_cases c10 : (ji8) < (l3.length : Int)
    rotate_left
    · rw [if_neg c10] at H
      exact absurd H (by simp)
    rw [if_pos c10] at H
    have c10b0 : decide ((ji8) < (l3.length : Int)) = true := decide_eq_true c10
    clear c10
    have H' := Aside0.mk H
    clear H
    have p241 : 0 ≤ ((ji8) : Int) := of_decide_eq_true (by first | (with_reducible assumption) | assumption)
    have q241 : (ji8) < (l3.length : Int) := of_decide_eq_true (by first | (with_reducible assumption) | assumption)
    obtain ⟨ad241, e241, hx241_0⟩ := Kd.at_int HR3.out (ji8) p241 q241
    cases e241
    replace hx241_0 := (HB.out.cell (World.block_lt_of_cell? w _ hx241_0)).trans hx241_0
    replace p241 := eq_true p241
    replace q241 := eq_true q241
    go_wp2
    go_meet
    case rel => exact ⟨_, (wrap64 (rd l3 (ji8))), (by first | rfl | (simp; done) | (simp only [← hji8] <;> (first | rfl | simp)) | (simp [*]; done)), H', ⟨by first | omega | exact Nat.le_refl _⟩, ⟨by repeat (first | (with_reducible first | exact HB.out | apply below_alloc | apply pw_below_drewN | apply below_drew1) | exact HB.out)⟩⟩
  case rest =>
    clear HC6
    try clear c1
    try clear c2
    try clear p2
    try clear q2
    try clear hx2
    try clear c3
    try clear p6
    try clear c7
    try clear c7b0
    try clear c9
    try clear c9b0
    try clear c10
    try clear c10b0
    try clear hx241_0
    try clear p241
    try clear q241
    obtain ⟨kq, x11_5, rfl, HA, HJ5, HB⟩ := hcut
    cases kq with
    | zero => exact absurd HA.out (by simp [impl_guess.j0])
    | succ kj5 =>
      have H := HA.out
      clear HA
      simp only [impl_guess.j0] at H
      have HC11 := Aside0.mk H
      clear H
      go_upto_if 27 with (fail)
      go_cut [12, 13] (fun v12 v13 wc => ∃ (kq : Nat) (x12_10 : Int) (x13_10 : Int), v12 = .int .i64 x12_10 ∧ v13 = .int .i64 x13_10 ∧ Aside0 (impl_guess.j1 kq a0 x11_5 x12_10 x13_10 = some r) ∧ Aside0 (kq ≤ kj5) ∧ Aside0 (Below w.heap.size w wc))
      case first =>
        have H := HC11.out
        clear HC11
        by_cases c12 : (l2.length : Int) > 0
        rotate_left
        · rw [if_neg c12] at H
          have c12b0 : decide (0 < (l2.length : Int)) = false := decide_eq_false c12
          have c12b1 : decide (0 < l2.length) = false := decide_eq_false (by omega)
          have c12b2 : ¬ (0 < l2.length) := by omega
          clear c12
          (first | rw [c12b0] | (simp only [i64_w, i32_w]; rw [c12b0]) | skip)
          have H' := Aside0.mk H
          clear H
          go_wp2
          go_meet
          case rel => exact ⟨_, (0), (0), (by first | rfl | (simp; done) | (simp [*]; done)), (by first | rfl | (simp; done) | (simp [*]; done)), H', ⟨by have := HJ5.out; first | omega | exact Nat.le_refl _⟩, ⟨by repeat (first | (with_reducible first | exact HB.out | apply below_alloc | apply pw_below_drewN | apply below_drew1) | exact HB.out)⟩⟩
        rw [if_pos c12] at H
        have c12b0 : decide (0 < (l2.length : Int)) = true := decide_eq_true c12
        have c12b1 : decide (0 < l2.length) = true := decide_eq_true (by omega)
        have c12b2 : 0 < l2.length := by omega
        clear c12
        (first | rw [c12b0] | (simp only [i64_w, i32_w]; rw [c12b0]) | skip)
        by_cases c13 : 0 ≤ a4
        rotate_left
        · rw [if_neg c13] at H
          exact absurd H (by simp)
        rw [if_pos c13] at H
        have c13b0 : decide (0 ≤ a4) = true := decide_eq_true c13
        clear c13
        by_cases c14 : a4 < (l2.length : Int)
        rotate_left
        · rw [if_neg c14] at H
          exact absurd H (by simp)
        rw [if_pos c14] at H
        have c14b0 : decide (a4 < (l2.length : Int)) = true := decide_eq_true c14
        clear c14
        by_cases c15 : a4 ≥ a1
        rotate_left
        · rw [if_neg c15] at H
          have c15b0 : decide (a1 ≤ a4) = false := decide_eq_false c15
          clear c15
          have H' := Aside0.mk H
          clear H
          have p242 : 0 ≤ (a4 : Int) := of_decide_eq_true (by first | (with_reducible assumption) | assumption)
          have q242 : a4 < (l2.length : Int) := of_decide_eq_true (by first | (with_reducible assumption) | assumption)
          obtain ⟨ad242, e242, hx242_0⟩ := Kd.at_int HR2.out a4 p242 q242
          cases e242
          replace hx242_0 := (HB.out.cell (World.block_lt_of_cell? w _ hx242_0)).trans hx242_0
          replace p242 := eq_true p242
          replace q242 := eq_true q242
          go_wp2
          go_meet
          case rel => exact ⟨_, (wrap64 (rd l2 a4)), (0), (by first | rfl | (simp; done) | (simp [*]; done)), (by first | rfl | (simp; done) | (simp [*]; done)), H', ⟨by have := HJ5.out; first | omega | exact Nat.le_refl _⟩, ⟨by repeat (first | (with_reducible first | exact HB.out | apply below_alloc | apply pw_below_drewN | apply below_drew1) | exact HB.out)⟩⟩
        rw [if_pos c15] at H
        have c15b0 : decide (a1 ≤ a4) = true := decide_eq_true c15
        clear c15
        obtain ⟨ji16, hji16⟩ : ∃ j_ : Int, (wrap64 (a4 - a1)) = j_ := ⟨_, rfl⟩
        replace H : (if 0 ≤ (ji16) then (if (ji16) < (l2.length : Int) then (impl_guess.j1 kj5 a0 x11_5 (wrap64 (rd l2 a4)) (wrap64 (rd l2 (ji16)))) else (none)) else (none)) = some r := by first | (rw [hji16] at H; exact H) | (simp only [hji16] at H ⊢; exact H)
        have hji16w : (IntKind.i64.wrap (a4 - a1)) = ji16 := (i64_w _).trans hji16
        by_cases c17 : 0 ≤ (ji16)
        rotate_left
        · rw [if_neg c17] at H
          exact absurd H (by simp)
        rw [if_pos c17] at H
        have c17b0 : decide (0 ≤ (ji16)) = true := decide_eq_true c17
        clear c17
        by_cases c18 : (ji16) < (l2.length : Int)
        rotate_left
        · rw [if_neg c18] at H
          exact absurd H (by simp)
        rw [if_pos c18] at H
        have c18b0 : decide ((ji16) < (l2.length : Int)) = true := decide_eq_true c18
        clear c18
        have H' := Aside0.mk H
        clear H
        have p242 : 0 ≤ (a4 : Int) := of_decide_eq_true (by first | (with_reducible assumption) | assumption)
        have q242 : a4 < (l2.length : Int) := of_decide_eq_true (by first | (with_reducible assumption) | assumption)
        obtain ⟨ad242, e242, hx242_0⟩ := Kd.at_int HR2.out a4 p242 q242
        cases e242
        replace hx242_0 := (HB.out.cell (World.block_lt_of_cell? w _ hx242_0)).trans hx242_0
        replace p242 := eq_true p242
        replace q242 := eq_true q242
        have p243 : 0 ≤ ((ji16) : Int) := of_decide_eq_true (by first | (with_reducible assumption) | assumption)
        have q243 : (ji16) < (l2.length : Int) := of_decide_eq_true (by first | (with_reducible assumption) | assumption)
        obtain ⟨ad243, e243, hx243_0⟩ := Kd.at_int HR2.out (ji16) p243 q243
        obtain rfl : ad242 = ad243 := (by injection e243)
        replace hx243_0 := (HB.out.cell (World.block_lt_of_cell? w _ hx243_0)).trans hx243_0
        replace p243 := eq_true p243
        replace q243 := eq_true q243
        go_wp2
        go_meet
        case rel => exact ⟨_, (wrap64 (rd l2 a4)), (wrap64 (rd l2 (ji16))), (by first | rfl | (simp; done) | (simp [*]; done)), (by first | rfl | (simp; done) | (simp only [← hji16] <;> (first | rfl | simp)) | (simp [*]; done)), H', ⟨by have := HJ5.out; first | omega | exact Nat.le_refl _⟩, ⟨by repeat (first | (with_reducible first | exact HB.out | apply below_alloc | apply pw_below_drewN | apply below_drew1) | exact HB.out)⟩⟩
      case rest =>
        clear HC11
        try clear c1
        try clear c2
        try clear p2
        try clear q2
        try clear hx2
        try clear c3
        try clear p6
        try clear c7
        try clear c7b0
        try clear c9
        try clear c9b0
        try clear c10
        try clear c10b0
        try clear c12
        try clear c12b0
        try clear c12b1
        try clear c12b2
        try clear c13
        try clear c13b0
        try clear c14
        try clear c14b0
        try clear c15
        try clear c15b0
        try clear c17
        try clear c17b0
        try clear c18
        try clear c18b0
        try clear hx241_0
        try clear hx242_0
        try clear hx243_0
        try clear p2
        try clear p241
        try clear p242
        try clear p243
        try clear p6
        try clear q2
        try clear q241
        try clear q242
        try clear q243
        obtain ⟨kq, x12_10, x13_10, rfl, rfl, HA, HJ10, HB⟩ := hcut
        cases kq with
        | zero => exact absurd HA.out (by simp [impl_guess.j1])
        | succ kj10 =>
          have H := HA.out
          clear HA
          simp only [impl_guess.j1] at H
          by_cases c19 : a0 = 1
          · rw [if_pos c19] at H
            have c19b0 : (a0 == 1) = true := beq_iff_eq.mpr c19
            have c19b1 : (a0 != 1) = false := bne_eq_false_iff_eq.mpr c19
            clear c19
            obtain rfl := Option.some.inj H
            go_wp2
            go_ret
            exact ⟨by first | rfl | (simp [errW_none, errW_some] <;> rfl) | (simp [*, errW_none, errW_some] <;> rfl), by repeat (first | (with_reducible first | exact HB.out | apply below_alloc | apply pw_below_drewN | apply below_drew1) | exact HB.out)⟩
          rw [if_neg c19] at H
          have c19b0 : (a0 == 1) = false := beq_eq_false_iff_ne.mpr c19
          have c19b1 : (a0 != 1) = true := bne_iff_ne.mpr c19
          by_cases c20 : a0 = 2
          · rw [if_pos c20] at H
            have c20b0 : (a0 == 2) = true := beq_iff_eq.mpr c20
            have c20b1 : (a0 != 2) = false := bne_eq_false_iff_eq.mpr c20
            clear c20
            obtain rfl := Option.some.inj H
            go_wp2
            go_ret
            exact ⟨by first | rfl | (simp [errW_none, errW_some] <;> rfl) | (simp [*, errW_none, errW_some] <;> rfl), by repeat (first | (with_reducible first | exact HB.out | apply below_alloc | apply pw_below_drewN | apply below_drew1) | exact HB.out)⟩
          rw [if_neg c20] at H
          have c20b0 : (a0 == 2) = false := beq_eq_false_iff_ne.mpr c20
          have c20b1 : (a0 != 2) = true := bne_iff_ne.mpr c20
          by_cases c21 : a0 = 3
          · rw [if_pos c21] at H
            have c21b0 : (a0 == 3) = true := beq_iff_eq.mpr c21
            have c21b1 : (a0 != 3) = false := bne_eq_false_iff_eq.mpr c21
            clear c21
            obtain rfl := Option.some.inj H
            go_wp2
            go_ret
            exact ⟨by first | rfl | (simp [errW_none, errW_some] <;> rfl) | (simp [*, errW_none, errW_some] <;> rfl), by repeat (first | (with_reducible first | exact HB.out | apply below_alloc | apply pw_below_drewN | apply below_drew1) | exact HB.out)⟩
          rw [if_neg c21] at H
          have c21b0 : (a0 == 3) = false := beq_eq_false_iff_ne.mpr c21
          have c21b1 : (a0 != 3) = true := bne_iff_ne.mpr c21
          by_cases c22 : a0 = 4
          rotate_left
          · rw [if_neg c22] at H
            have c22b0 : (a0 == 4) = false := beq_eq_false_iff_ne.mpr c22
            have c22b1 : (a0 != 4) = true := bne_iff_ne.mpr c22
            obtain rfl := Option.some.inj H
            go_wp2
            go_ret
            exact ⟨by first | rfl | (simp [errW_none, errW_some] <;> rfl) | (simp [*, errW_none, errW_some] <;> rfl), by repeat (first | (with_reducible first | exact HB.out | apply below_alloc | apply pw_below_drewN | apply below_drew1) | exact HB.out)⟩
          rw [if_pos c22] at H
          have c22b0 : (a0 == 4) = true := beq_iff_eq.mpr c22
          have c22b1 : (a0 != 4) = false := bne_eq_false_iff_eq.mpr c22
          clear c22
          have HC23 := Aside0.mk H
          clear H
          go_upto_region 17 with (fail)
          go_cut [66] (fun v66 wc => ∃ (kq : Nat) (x66_22 : Bool), v66 = .bool x66_22 ∧ Aside0 (impl_guess.j2 kq x11_5 x12_10 x13_10 (wrap64 ((wrap64 (x11_5 + x12_10)) - x13_10)) x66_22 = some r) ∧ Aside0 (kq ≤ kj10) ∧ Aside0 (Below w.heap.size w wc))
          case first =>
            have H := HC23.out
            clear HC23
            replace H := Option.bind_eq_some_iff.mp H
            obtain ⟨t244, A240, H⟩ := H
            replace H : ((impl_away.f (wrap64 ((wrap64 (x11_5 + x12_10)) - x13_10)) x12_10).bind fun t245 => (if t244 ≤ t245 then ((impl_away.f (wrap64 ((wrap64 (x11_5 + x12_10)) - x13_10)) x11_5).bind fun t246 => ((impl_away.f (wrap64 ((wrap64 (x11_5 + x12_10)) - x13_10)) x13_10).bind fun t247 => (impl_guess.j2 kj10 x11_5 x12_10 x13_10 (wrap64 ((wrap64 (x11_5 + x12_10)) - x13_10)) (decide (t246 ≤ t247))))) else (impl_guess.j2 kj10 x11_5 x12_10 x13_10 (wrap64 ((wrap64 (x11_5 + x12_10)) - x13_10)) false))) = some r := H
            have A24 := Aside0.mk A240
            clear A240
            replace H := Option.bind_eq_some_iff.mp H
            obtain ⟨t245, A250, H⟩ := H
            replace H : (if t244 ≤ t245 then ((impl_away.f (wrap64 ((wrap64 (x11_5 + x12_10)) - x13_10)) x11_5).bind fun t246 => ((impl_away.f (wrap64 ((wrap64 (x11_5 + x12_10)) - x13_10)) x13_10).bind fun t247 => (impl_guess.j2 kj10 x11_5 x12_10 x13_10 (wrap64 ((wrap64 (x11_5 + x12_10)) - x13_10)) (decide (t246 ≤ t247))))) else (impl_guess.j2 kj10 x11_5 x12_10 x13_10 (wrap64 ((wrap64 (x11_5 + x12_10)) - x13_10)) false)) = some r := H
            have A25 := Aside0.mk A250
            clear A250
            by_cases c26 : t244 ≤ t245
            rotate_left
            · rw [if_neg c26] at H
              have c26b0 : decide (t244 ≤ t245) = false := decide_eq_false c26
              clear c26
              (first | rw [c26b0] | (simp only [i64_w, i32_w]; rw [c26b0]) | skip)
              have H' := Aside0.mk H
              clear H
              go_wp2_with (first | ((with_reducible refine gate_callee (f := 185) rfl ?_); refine goesL_ (some 69) rfl rfl Try.func185 (by kernel_rfl) rfl #[.int .i64 (wrap64 ((wrap64 (x11_5 + x12_10)) - x13_10)), .int .i64 x11_5] rfl (by (try simp only [List.map_toArray, List.map_cons, List.map_nil]); first | done | rfl | (simp only [List.length_drop, List.length_take]; rfl)) ?_; (with_reducible refine (impl_away.calls (wrap64 ((wrap64 (x11_5 + x12_10)) - x13_10)) x11_5 t244 _ A24.out).mono ?_); rintro e w33 ⟨rfl, hb⟩; refine ⟨_, rfl, ?_⟩; have n0_ := Aside0.mk (below_step (by repeat (first | (with_reducible first | exact HB.out | apply below_alloc | apply pw_below_drewN | apply below_drew1) | exact HB.out)) hb); clear HB; have HB := n0_; clear n0_; (try clear hb); (try clear hb2); (try clear hk); (try clear hi)) | ((with_reducible refine gate_callee (f := 185) rfl ?_); refine goesL_ (some 72) rfl rfl Try.func185 (by kernel_rfl) rfl #[.int .i64 (wrap64 ((wrap64 (x11_5 + x12_10)) - x13_10)), .int .i64 x12_10] rfl (by (try simp only [List.map_toArray, List.map_cons, List.map_nil]); first | done | rfl | (simp only [List.length_drop, List.length_take]; rfl)) ?_; (with_reducible refine (impl_away.calls (wrap64 ((wrap64 (x11_5 + x12_10)) - x13_10)) x12_10 t245 _ A25.out).mono ?_); rintro e w34 ⟨rfl, hb⟩; refine ⟨_, rfl, ?_⟩; have n0_ := Aside0.mk (below_step (by repeat (first | (with_reducible first | exact HB.out | apply below_alloc | apply pw_below_drewN | apply below_drew1) | exact HB.out)) hb); clear HB; have HB := n0_; clear n0_; (try clear hb); (try clear hb2); (try clear hk); (try clear hi)))
              go_meet
              case rel => exact ⟨_, (false), (by first | rfl | (simp; done) | (simp [*]; done)), H', ⟨by have := HJ5.out; have := HJ10.out; first | omega | exact Nat.le_refl _⟩, ⟨by repeat (first | (with_reducible first | exact HB.out | apply below_alloc | apply pw_below_drewN | apply below_drew1) | exact HB.out)⟩⟩
            rw [if_pos c26] at H
            have c26b0 : decide (t244 ≤ t245) = true := decide_eq_true c26
            clear c26
            (first | rw [c26b0] | (simp only [i64_w, i32_w]; rw [c26b0]) | skip)
            replace H := Option.bind_eq_some_iff.mp H
            obtain ⟨t246, A270, H⟩ := H
            replace H : ((impl_away.f (wrap64 ((wrap64 (x11_5 + x12_10)) - x13_10)) x13_10).bind fun t247 => (impl_guess.j2 kj10 x11_5 x12_10 x13_10 (wrap64 ((wrap64 (x11_5 + x12_10)) - x13_10)) (decide (t246 ≤ t247)))) = some r := H
            have A27 := Aside0.mk A270
            clear A270
            replace H := Option.bind_eq_some_iff.mp H
            obtain ⟨t247, A280, H⟩ := H
            replace H : (impl_guess.j2 kj10 x11_5 x12_10 x13_10 (wrap64 ((wrap64 (x11_5 + x12_10)) - x13_10)) (decide (t246 ≤ t247))) = some r := H
            have A28 := Aside0.mk A280
            clear A280
            have H' := Aside0.mk H
            clear H
            go_wp2_with (first | ((with_reducible refine gate_callee (f := 185) rfl ?_); refine goesL_ (some 69) rfl rfl Try.func185 (by kernel_rfl) rfl #[.int .i64 (wrap64 ((wrap64 (x11_5 + x12_10)) - x13_10)), .int .i64 x11_5] rfl (by (try simp only [List.map_toArray, List.map_cons, List.map_nil]); first | done | rfl | (simp only [List.length_drop, List.length_take]; rfl)) ?_; (with_reducible refine (impl_away.calls (wrap64 ((wrap64 (x11_5 + x12_10)) - x13_10)) x11_5 t244 _ A24.out).mono ?_); rintro e w29 ⟨rfl, hb⟩; refine ⟨_, rfl, ?_⟩; have n0_ := Aside0.mk (below_step (by repeat (first | (with_reducible first | exact HB.out | apply below_alloc | apply pw_below_drewN | apply below_drew1) | exact HB.out)) hb); clear HB; have HB := n0_; clear n0_; (try clear hb); (try clear hb2); (try clear hk); (try clear hi)) | ((with_reducible refine gate_callee (f := 185) rfl ?_); refine goesL_ (some 72) rfl rfl Try.func185 (by kernel_rfl) rfl #[.int .i64 (wrap64 ((wrap64 (x11_5 + x12_10)) - x13_10)), .int .i64 x12_10] rfl (by (try simp only [List.map_toArray, List.map_cons, List.map_nil]); first | done | rfl | (simp only [List.length_drop, List.length_take]; rfl)) ?_; (with_reducible refine (impl_away.calls (wrap64 ((wrap64 (x11_5 + x12_10)) - x13_10)) x12_10 t245 _ A25.out).mono ?_); rintro e w30 ⟨rfl, hb⟩; refine ⟨_, rfl, ?_⟩; have n0_ := Aside0.mk (below_step (by repeat (first | (with_reducible first | exact HB.out | apply below_alloc | apply pw_below_drewN | apply below_drew1) | exact HB.out)) hb); clear HB; have HB := n0_; clear n0_; (try clear hb); (try clear hb2); (try clear hk); (try clear hi)) | (go_at_call 185; (with_reducible refine (impl_away.calls (wrap64 ((wrap64 (x11_5 + x12_10)) - x13_10)) x11_5 t246 _ A27.out).mono ?_); rintro e w31 ⟨rfl, hb⟩; have n0_ := Aside0.mk (below_step (by repeat (first | (with_reducible first | exact HB.out | apply below_alloc | apply pw_below_drewN | apply below_drew1) | exact HB.out)) hb); clear HB; have HB := n0_; clear n0_; (try clear hb); (try clear hb2); (try clear hk); (try clear hi)) | (go_at_call 185; (with_reducible refine (impl_away.calls (wrap64 ((wrap64 (x11_5 + x12_10)) - x13_10)) x13_10 t247 _ A28.out).mono ?_); rintro e w32 ⟨rfl, hb⟩; have n0_ := Aside0.mk (below_step (by repeat (first | (with_reducible first | exact HB.out | apply below_alloc | apply pw_below_drewN | apply below_drew1) | exact HB.out)) hb); clear HB; have HB := n0_; clear n0_; (try clear hb); (try clear hb2); (try clear hk); (try clear hi)))
            go_meet
            case rel => exact ⟨_, (decide (t246 ≤ t247)), (by first | rfl | (simp; done) | (simp [*]; done)), H', ⟨by have := HJ5.out; have := HJ10.out; first | omega | exact Nat.le_refl _⟩, ⟨by repeat (first | (with_reducible first | exact HB.out | apply below_alloc | apply pw_below_drewN | apply below_drew1) | exact HB.out)⟩⟩
          case rest =>
            clear HC23
            try clear c1
            try clear c2
            try clear p2
            try clear q2
            try clear hx2
            try clear c3
            try clear p6
            try clear c7
            try clear c7b0
            try clear c9
            try clear c9b0
            try clear c10
            try clear c10b0
            try clear c12
            try clear c12b0
            try clear c12b1
            try clear c12b2
            try clear c13
            try clear c13b0
            try clear c14
            try clear c14b0
            try clear c15
            try clear c15b0
            try clear c17
            try clear c17b0
            try clear c18
            try clear c18b0
            try clear c19
            try clear c19b0
            try clear c19b1
            try clear c20
            try clear c20b0
            try clear c20b1
            try clear c21
            try clear c21b0
            try clear c21b1
            try clear c22
            try clear c22b0
            try clear c22b1
            try clear p24
            try clear q24
            try clear hx24
            try clear c26
            try clear c26b0
            try clear hx241_0
            try clear hx242_0
            try clear hx243_0
            try clear p2
            try clear p241
            try clear p242
            try clear p243
            try clear p6
            try clear q2
            try clear q241
            try clear q242
            try clear q243
            obtain ⟨kq, x66_22, rfl, HA, HJ22, HB⟩ := hcut
            cases kq with
            | zero => exact absurd HA.out (by simp [impl_guess.j2])
            | succ kj22 =>
              have H := HA.out
              clear HA
              simp only [impl_guess.j2] at H
              by_cases c35 : x66_22 = true
              · subst c35
                have H1 : (some ((x11_5) % 256)) = some r := by rw [if_pos rfl] at H; exact H
                clear H
                have H := H1
                clear H1
                obtain rfl := Option.some.inj H
                go_wp2
                go_ret
                exact ⟨by first | rfl | (simp [errW_none, errW_some] <;> rfl) | (simp [*, errW_none, errW_some] <;> rfl), by repeat (first | (with_reducible first | exact HB.out | apply below_alloc | apply pw_below_drewN | apply below_drew1) | exact HB.out)⟩
              replace c35 := Bool.eq_false_iff.mpr c35
              subst c35
              have H1 : ((impl_away.f (wrap64 ((wrap64 (x11_5 + x12_10)) - x13_10)) x12_10).bind fun t248 => ((impl_away.f (wrap64 ((wrap64 (x11_5 + x12_10)) - x13_10)) x13_10).bind fun t249 => (if t248 ≤ t249 then (some ((x12_10) % 256)) else (some ((x13_10) % 256))))) = some r := by rw [if_neg (show ¬ (false = true) by decide)] at H; exact H
              clear H
              have H := H1
              clear H1
              replace H := Option.bind_eq_some_iff.mp H
              obtain ⟨t248, A360, H⟩ := H
              replace H : ((impl_away.f (wrap64 ((wrap64 (x11_5 + x12_10)) - x13_10)) x13_10).bind fun t249 => (if t248 ≤ t249 then (some ((x12_10) % 256)) else (some ((x13_10) % 256)))) = some r := H
              have A36 := Aside0.mk A360
              clear A360
              replace H := Option.bind_eq_some_iff.mp H
              obtain ⟨t249, A370, H⟩ := H
              replace H : (if t248 ≤ t249 then (some ((x12_10) % 256)) else (some ((x13_10) % 256))) = some r := H
              have A37 := Aside0.mk A370
              clear A370
              by_cases c38 : t248 ≤ t249
              · rw [if_pos c38] at H
                have c38b0 : decide (t248 ≤ t249) = true := decide_eq_true c38
                clear c38
                obtain rfl := Option.some.inj H
                go_wp2_with (first | ((with_reducible refine gate_callee (f := 185) rfl ?_); refine goesL_ (some 88) rfl rfl Try.func185 (by kernel_rfl) rfl #[.int .i64 (wrap64 ((wrap64 (x11_5 + x12_10)) - x13_10)), .int .i64 x12_10] rfl (by (try simp only [List.map_toArray, List.map_cons, List.map_nil]); first | done | rfl | (simp only [List.length_drop, List.length_take]; rfl)) ?_; (with_reducible refine (impl_away.calls (wrap64 ((wrap64 (x11_5 + x12_10)) - x13_10)) x12_10 t248 _ A36.out).mono ?_); rintro e w39 ⟨rfl, hb⟩; refine ⟨_, rfl, ?_⟩; have n0_ := Aside0.mk (below_step (by repeat (first | (with_reducible first | exact HB.out | apply below_alloc | apply pw_below_drewN | apply below_drew1) | exact HB.out)) hb); clear HB; have HB := n0_; clear n0_; (try clear hb); (try clear hb2); (try clear hk); (try clear hi)) | ((with_reducible refine gate_callee (f := 185) rfl ?_); refine goesL_ (some 91) rfl rfl Try.func185 (by kernel_rfl) rfl #[.int .i64 (wrap64 ((wrap64 (x11_5 + x12_10)) - x13_10)), .int .i64 x13_10] rfl (by (try simp only [List.map_toArray, List.map_cons, List.map_nil]); first | done | rfl | (simp only [List.length_drop, List.length_take]; rfl)) ?_; (with_reducible refine (impl_away.calls (wrap64 ((wrap64 (x11_5 + x12_10)) - x13_10)) x13_10 t249 _ A37.out).mono ?_); rintro e w40 ⟨rfl, hb⟩; refine ⟨_, rfl, ?_⟩; have n0_ := Aside0.mk (below_step (by repeat (first | (with_reducible first | exact HB.out | apply below_alloc | apply pw_below_drewN | apply below_drew1) | exact HB.out)) hb); clear HB; have HB := n0_; clear n0_; (try clear hb); (try clear hb2); (try clear hk); (try clear hi)))
                go_ret
                exact ⟨by first | rfl | (simp [errW_none, errW_some] <;> rfl) | (simp [*, errW_none, errW_some] <;> rfl), by repeat (first | (with_reducible first | exact HB.out | apply below_alloc | apply pw_below_drewN | apply below_drew1) | exact HB.out)⟩
              rw [if_neg c38] at H
              have c38b0 : decide (t248 ≤ t249) = false := decide_eq_false c38
              clear c38
              obtain rfl := Option.some.inj H
              go_wp2_with (first | ((with_reducible refine gate_callee (f := 185) rfl ?_); refine goesL_ (some 88) rfl rfl Try.func185 (by kernel_rfl) rfl #[.int .i64 (wrap64 ((wrap64 (x11_5 + x12_10)) - x13_10)), .int .i64 x12_10] rfl (by (try simp only [List.map_toArray, List.map_cons, List.map_nil]); first | done | rfl | (simp only [List.length_drop, List.length_take]; rfl)) ?_; (with_reducible refine (impl_away.calls (wrap64 ((wrap64 (x11_5 + x12_10)) - x13_10)) x12_10 t248 _ A36.out).mono ?_); rintro e w41 ⟨rfl, hb⟩; refine ⟨_, rfl, ?_⟩; have n0_ := Aside0.mk (below_step (by repeat (first | (with_reducible first | exact HB.out | apply below_alloc | apply pw_below_drewN | apply below_drew1) | exact HB.out)) hb); clear HB; have HB := n0_; clear n0_; (try clear hb); (try clear hb2); (try clear hk); (try clear hi)) | ((with_reducible refine gate_callee (f := 185) rfl ?_); refine goesL_ (some 91) rfl rfl Try.func185 (by kernel_rfl) rfl #[.int .i64 (wrap64 ((wrap64 (x11_5 + x12_10)) - x13_10)), .int .i64 x13_10] rfl (by (try simp only [List.map_toArray, List.map_cons, List.map_nil]); first | done | rfl | (simp only [List.length_drop, List.length_take]; rfl)) ?_; (with_reducible refine (impl_away.calls (wrap64 ((wrap64 (x11_5 + x12_10)) - x13_10)) x13_10 t249 _ A37.out).mono ?_); rintro e w42 ⟨rfl, hb⟩; refine ⟨_, rfl, ?_⟩; have n0_ := Aside0.mk (below_step (by repeat (first | (with_reducible first | exact HB.out | apply below_alloc | apply pw_below_drewN | apply below_drew1) | exact HB.out)) hb); clear HB; have HB := n0_; clear n0_; (try clear hb); (try clear hb2); (try clear hk); (try clear hi)))
              go_ret
              exact ⟨by first | rfl | (simp [errW_none, errW_some] <;> rfl) | (simp [*, errW_none, errW_some] <;> rfl), by repeat (first | (with_reducible first | exact HB.out | apply below_alloc | apply pw_below_drewN | apply below_drew1) | exact HB.out)⟩

/-! ### impl_FilterRow: function 46 -/
def impl_FilterRow.l0 : Nat → Int → Int → List Int → List Int → List Int → List Int → Int → Int → Option (List Int)
  | 0, _, _, _, _, _, _, _, _ => none
  | k + 1, x0, x1, x2, x3, x9, x21, x22, x23 => if x23 < x22 then (if 0 ≤ x23 then (if x23 < (x21.length : Int) then ((impl_guess.f k x0 x1 x2 x3 x23).bind fun t255 => (if x23 < (x9.length : Int) then (impl_FilterRow.l0 k x0 x1 x2 x3 (x9.set (x23 : Int).toNat (((rd x21 x23) - t255) % 256)) x21 x22 (wrap64 (x23 + 1))) else (none))) else (none)) else (none)) else (some x9)
def impl_FilterRow.f (k : Nat) (a0 : Int) (a1 : Int) (l2 : List Int) (l3 : List Int) : Option (List Int) := (impl_goodRow.f a0 a1 l2 l3).bind fun t250 => (if t250 = true then (if 0 ≤ (l3.length : Int) then (if ((l3.length : Int) : Int).toNat ≤ 281474976710656 then (impl_FilterRow.l0 k a0 a1 l2 l3 (List.replicate ((l3.length : Int) : Int).toNat 0) l3 (l3.length : Int) 0) else (none)) else (none)) else (some ([] : List Int)))
theorem impl_FilterRow.mono_l : ∀ k, (∀ y0 y1 y2 y3 y4 y5 y6 y7, LeO (impl_FilterRow.l0 k y0 y1 y2 y3 y4 y5 y6 y7) (impl_FilterRow.l0 (k + 1) y0 y1 y2 y3 y4 y5 y6 y7))
  | 0 => fun _ _ _ _ _ _ _ _ r h => by simp [impl_FilterRow.l0] at h
  | k + 1 => by
    have ih0 := impl_FilterRow.mono_l k
    · intro y0 y1 y2 y3 y4 y5 y6 y7
      unfold impl_FilterRow.l0
      repeat' first
      | (with_reducible exact ih0 _ _ _ _ _ _ _ _)
      | (with_reducible exact impl_guess.mono _ _ _ _ _ _)
      | (with_reducible exact LeO.refl _)
      | (with_reducible exact LeO.none _)
      | (with_reducible refine LeO.ite ?_ ?_)
      | (with_reducible refine LeO.bind ?_ (fun _ => ?_))
      | exact ih0 _ _ _ _ _ _ _ _
      | exact impl_guess.mono _ _ _ _ _ _
      | exact LeO.none _
      | refine LeO.ite ?_ ?_
      | refine LeO.bind ?_ (fun _ => ?_)
theorem impl_FilterRow.mono : ∀ a0 a1 a2 a3 k, LeO (impl_FilterRow.f k a0 a1 a2 a3) (impl_FilterRow.f (k + 1) a0 a1 a2 a3) := by
  intro a0 a1 a2 a3 k
  have ih0 := impl_FilterRow.mono_l k
  unfold impl_FilterRow.f
  repeat' first
      | (with_reducible exact ih0 _ _ _ _ _ _ _ _)
      | (with_reducible exact impl_guess.mono _ _ _ _ _ _)
      | (with_reducible exact LeO.refl _)
      | (with_reducible exact LeO.none _)
      | (with_reducible refine LeO.ite ?_ ?_)
      | (with_reducible refine LeO.bind ?_ (fun _ => ?_))
      | exact ih0 _ _ _ _ _ _ _ _
      | exact impl_guess.mono _ _ _ _ _ _
      | exact LeO.none _
      | refine LeO.ite ?_ ?_
      | refine LeO.bind ?_ (fun _ => ?_)
set_option maxHeartbeats 8000000 in
set_option maxRecDepth 100000 in
theorem impl_FilterRow.calls (k : Nat) (a0 : Int) (a1 : Int) (A2 : Option Addr) (c2 : Nat) (l2 : List Int) (A3 : Option Addr) (c3 : Nat) (l3 : List Int) (r : List Int) (w : World) (hr2 : Kd.C (Kd.int .u8) w A2 l2.length l2) (hc2 : l2.length ≤ c2) (hr3 : Kd.C (Kd.int .u8) w A3 l3.length l3) (hc3 : l3.length ≤ c3) (h : impl_FilterRow.f k a0 a1 l2 l3 = some r) :
    Calls Try.prog 46 #[.int .i64 a0, .int .i64 a1, .slice A2 l2.length c2, .slice A3 l3.length c3] w fun e w' => ∃ v0_ : Value, e = .returned (v0_) ∧ Kd.R (Kd.int .u8) 5 w' w.heap.size (fun _ => True) v0_ r ∧ Below w.heap.size w w' := by
  have HR2 := Aside0.mk hr2
  have HC2 := Aside0.mk hc2
  clear hr2 hc2
  have HR3 := Aside0.mk hr3
  have HC3 := Aside0.mk hc3
  clear hr3 hc3
  have HB := Aside0.mk (Below.refl w.heap.size w)
  have H : ((impl_goodRow.f a0 a1 l2 l3).bind fun t250 => (if t250 = true then (if 0 ≤ (l3.length : Int) then (if ((l3.length : Int) : Int).toNat ≤ 281474976710656 then (impl_FilterRow.l0 k a0 a1 l2 l3 (List.replicate ((l3.length : Int) : Int).toNat 0) l3 (l3.length : Int) 0) else (none)) else (none)) else (some ([] : List Int)))) = some r := h
  clear h
  replace H := Option.bind_eq_some_iff.mp H
  obtain ⟨t250, A50, H⟩ := H
  replace H : (if t250 = true then (if 0 ≤ (l3.length : Int) then (if ((l3.length : Int) : Int).toNat ≤ 281474976710656 then (impl_FilterRow.l0 k a0 a1 l2 l3 (List.replicate ((l3.length : Int) : Int).toNat 0) l3 (l3.length : Int) 0) else (none)) else (none)) else (some ([] : List Int))) = some r := H
  have A5 := Aside0.mk A50
  clear A50
  by_cases c6 : t250 = true
  rotate_left
  · replace c6 := Bool.eq_false_iff.mpr c6
    subst c6
    have H1 : (some ([] : List Int)) = some r := by rw [if_neg (show ¬ (false = true) by decide)] at H; exact H
    clear H
    have H := H1
    clear H1
    obtain rfl := Option.some.inj H
    go_enter Try.func46, Try.ntmps46
    go_wp2_with (first | ((with_reducible refine gate_callee (f := 106) rfl ?_); refine goesL_ (some 16) rfl rfl Try.func106 (by kernel_rfl) rfl #[.int .i64 a0, .int .i64 a1, .slice A2 l2.length c2, .slice A3 l3.length c3] rfl (by (try simp only [List.map_toArray, List.map_cons, List.map_nil]); first | done | rfl | (simp only [List.length_drop, List.length_take]; rfl)) ?_; (with_reducible refine (impl_goodRow.calls a0 a1 _ _ l2 _ _ l3 false _ ?side1 ?side2 ?side3 ?side4 A5.out).mono ?_); (case side1 => repeat (first | exact HR2.out | (with_reducible refine Kd.C_alloc ?_ _) | (with_reducible refine Kd.C_drewN ?_ _) | (with_reducible refine Kd.C_drew ?_))); (case side2 => exact HC2.out); (case side3 => repeat (first | exact HR3.out | (with_reducible refine Kd.C_alloc ?_ _) | (with_reducible refine Kd.C_drewN ?_ _) | (with_reducible refine Kd.C_drew ?_))); (case side4 => exact HC3.out); rintro e w' ⟨rfl, ⟨nd, rfl⟩⟩; refine ⟨_, rfl, ?_⟩))
    go_ret
    exact ⟨_, by first | rfl | (simp [errW_none, errW_some] <;> rfl) | (simp [*, errW_none, errW_some] <;> rfl), by first | exact Kd.R_nil _ _ _ _ _ | exact Kd.N_nil _ _ _ _ _ | exact Kd.V_nil _ _ _ _ _ | exact Kd.Q_nil _ _ _ _ _ | exact Kd.S_nil _ _ _ _ _, by repeat (first | (with_reducible first | exact HB.out | apply below_alloc | apply pw_below_drewN | apply below_drew1) | exact HB.out)⟩
  subst c6
  have H1 : (if 0 ≤ (l3.length : Int) then (if ((l3.length : Int) : Int).toNat ≤ 281474976710656 then (impl_FilterRow.l0 k a0 a1 l2 l3 (List.replicate ((l3.length : Int) : Int).toNat 0) l3 (l3.length : Int) 0) else (none)) else (none)) = some r := by rw [if_pos rfl] at H; exact H
  clear H
  have H := H1
  clear H1
  by_cases c7 : 0 ≤ (l3.length : Int)
  rotate_left
  · rw [if_neg c7] at H
    exact absurd H (by simp)
  rw [if_pos c7] at H
  have c7b0 := eq_true c7
  have c7b1 : decide (0 ≤ (l3.length : Int)) = true := decide_eq_true c7
  clear c7
  by_cases c8 : ((l3.length : Int) : Int).toNat ≤ 281474976710656
  rotate_left
  · rw [if_neg c8] at H
    exact absurd H (by simp)
  rw [if_pos c8] at H
  have c8b0 := eq_true c8
  have c8b1 : decide (((l3.length : Int) : Int).toNat ≤ 281474976710656) = true := decide_eq_true c8
  clear c8
  obtain ⟨y251, hy251⟩ : ∃ y_ : List Int, y_ = (List.replicate ((l3.length : Int) : Int).toNat 0) := ⟨_, rfl⟩
  replace H : (impl_FilterRow.l0 k a0 a1 l2 l3 y251 l3 (l3.length : Int) 0) = some r := by first | (rw [hy251]; with_reducible exact H) | (have H2_ := (Option.bind_some _ _).symm.trans H; rw [hy251]; with_reducible exact H2_) | (have H2_ := (Option.bind_some _ _).symm.trans H; with_reducible exact H2_) | with_reducible exact H | (rw [hy251]; exact H) | exact H
  have Ny251 := Aside0.mk hy251
  clear hy251
  have H' := Aside0.mk H
  clear H
  go_enter Try.func46, Try.ntmps46
  go_wp2_with (first | ((with_reducible refine gate_callee (f := 106) rfl ?_); refine goesL_ (some 16) rfl rfl Try.func106 (by kernel_rfl) rfl #[.int .i64 a0, .int .i64 a1, .slice A2 l2.length c2, .slice A3 l3.length c3] rfl (by (try simp only [List.map_toArray, List.map_cons, List.map_nil]); first | done | rfl | (simp only [List.length_drop, List.length_take]; rfl)) ?_; (with_reducible refine (impl_goodRow.calls a0 a1 _ _ l2 _ _ l3 true _ ?side1 ?side2 ?side3 ?side4 A5.out).mono ?_); (case side1 => repeat (first | exact HR2.out | (with_reducible refine Kd.C_alloc ?_ _) | (with_reducible refine Kd.C_drewN ?_ _) | (with_reducible refine Kd.C_drew ?_))); (case side2 => exact HC2.out); (case side3 => repeat (first | exact HR3.out | (with_reducible refine Kd.C_alloc ?_ _) | (with_reducible refine Kd.C_drewN ?_ _) | (with_reducible refine Kd.C_drew ?_))); (case side4 => exact HC3.out); rintro e w' ⟨rfl, ⟨nd, rfl⟩⟩; refine ⟨_, rfl, ?_⟩) | ((with_reducible refine gate_dst (N := 20) rfl ?_); refine Kd.R_make (Kd.int .u8) _ 5 rfl (N := 20) rfl 51 _ _ rfl (l3.length : Int) rfl rfl Try.underlying51 (.int .u8 0) 1 info5 rfl (by decide) (by omega) 0 (ok := fun _ => True) (okp := fun _ => True) rfl (fun _ hk => hk) trivial (of_decide_eq_true (by first | (with_reducible assumption) | assumption)) (Nat.le_trans (Nat.mul_le_mul_right _ (of_decide_eq_true (by first | (with_reducible assumption) | assumption) : (l3.length : Int).toNat ≤ 281474976710656)) (by omega)) (Below.refl _ _) (Nat.le_refl _) ?_; intro v252 w9 ho10 hb hg_ hnew_; clear hg_ hnew_; (first | rw [← Ny251.out] at ho10 | (simp only [Int.reduceToNat] at ho10; rw [← Ny251.out] at ho10)); have n0_ := Aside0.mk (Kd.R_lower ho10 (below_size (by repeat (first | (with_reducible first | exact HB.out | apply below_alloc | apply pw_below_drewN | apply below_drew1) | exact HB.out)))); have n1_ := Aside0.mk (below_step (by repeat (first | (with_reducible first | exact HB.out | apply below_alloc | apply pw_below_drewN | apply below_drew1) | exact HB.out)) hb); clear HB; have HO253 := n0_; have HB := n1_; clear n0_ n1_; clear hb ho10))
  go_loopg [23] k (fun kq v23 w' => ∃ (x9_1 : List Int) (x23_1 : Int), v23 = .int .i64 x23_1 ∧ Aside0 (impl_FilterRow.l0 kq a0 a1 l2 l3 x9_1 l3 (l3.length : Int) x23_1 = some r) ∧ Aside0 (kq ≤ k) ∧ Aside0 (Kd.R (Kd.int .u8) 5 w' w.heap.size (fun _ => True) v252 x9_1) ∧ Aside0 (Below w.heap.size w w'))
  case atStart => exact ⟨(y251), (0), (by first | rfl | (simp; done) | (simp [*]; done)), H', ⟨Nat.le_refl _⟩, ⟨by (with_reducible repeat (first | apply Kd.R_alloc | apply Kd.R_drewN | apply Kd.R_drew)); exact HO253.out⟩, ⟨by repeat (first | (with_reducible first | exact HB.out | apply below_alloc | apply pw_below_drewN | apply below_drew1) | exact HB.out)⟩⟩
  case round =>
    clear H'
    try clear c1
    try clear c2
    try clear p2
    try clear c3
    try clear c4
    try clear c6
    try clear c7
    try clear c7b0
    try clear c7b1
    try clear c8
    try clear c8b0
    try clear c8b1
    try clear c10
    obtain ⟨x9_1, x23_1, rfl, HA, HK1, HO_9, HB⟩ := hrel
    cases gk with
    | zero => exact absurd HA.out (by simp [impl_FilterRow.l0])
    | succ k1 =>
      have H := HA.out
      clear HA
      simp only [impl_FilterRow.l0] at H
      by_cases c11 : x23_1 < (l3.length : Int)
      rotate_left
      · rw [if_neg c11] at H
        have c11b0 : decide (x23_1 < (l3.length : Int)) = false := decide_eq_false c11
        clear c11
        obtain rfl := Option.some.inj H
        go_wp2
        go_ret
        exact ⟨_, by first | rfl | (simp [errW_none, errW_some] <;> rfl) | (simp [*, errW_none, errW_some] <;> rfl), by (with_reducible repeat (first | apply Kd.R_alloc | apply Kd.R_drewN | apply Kd.R_drew)); exact HO_9.out, by repeat (first | (with_reducible first | exact HB.out | apply below_alloc | apply pw_below_drewN | apply below_drew1) | exact HB.out)⟩
      rw [if_pos c11] at H
      have c11b0 : decide (x23_1 < (l3.length : Int)) = true := decide_eq_true c11
      clear c11
      by_cases c12 : 0 ≤ x23_1
      rotate_left
      · rw [if_neg c12] at H
        exact absurd H (by simp)
      rw [if_pos c12] at H
      have c12b0 : decide (0 ≤ x23_1) = true := decide_eq_true c12
      clear c12
      by_cases c13 : x23_1 < (l3.length : Int)
      rotate_left
      · rw [if_neg c13] at H
        exact absurd H (by simp)
      rw [if_pos c13] at H
      have c13b0 : decide (x23_1 < (l3.length : Int)) = true := decide_eq_true c13
      clear c13
      replace H := Option.bind_eq_some_iff.mp H
      obtain ⟨t255, A140, H⟩ := H
      replace H : (if x23_1 < (x9_1.length : Int) then (impl_FilterRow.l0 k1 a0 a1 l2 l3 (x9_1.set (x23_1 : Int).toNat (((rd l3 x23_1) - t255) % 256)) l3 (l3.length : Int) (wrap64 (x23_1 + 1))) else (none)) = some r := H
      have A14 := Aside0.mk A140
      clear A140
      by_cases c15 : x23_1 < (x9_1.length : Int)
      rotate_left
      · rw [if_neg c15] at H
        exact absurd H (by simp)
      rw [if_pos c15] at H
      have c15b0 : decide (x23_1 < (x9_1.length : Int)) = true := decide_eq_true c15
      clear c15
      obtain ⟨y256, hy256⟩ : ∃ y_ : List Int, y_ = (x9_1.set (x23_1 : Int).toNat (((rd l3 x23_1) - t255) % 256)) := ⟨_, rfl⟩
      replace H : (impl_FilterRow.l0 k1 a0 a1 l2 l3 y256 l3 (l3.length : Int) (wrap64 (x23_1 + 1))) = some r := by first | (rw [hy256]; with_reducible exact H) | (have H2_ := (Option.bind_some _ _).symm.trans H; rw [hy256]; with_reducible exact H2_) | (have H2_ := (Option.bind_some _ _).symm.trans H; with_reducible exact H2_) | with_reducible exact H | (rw [hy256]; exact H) | exact H
      have Ny256 := Aside0.mk hy256
      clear hy256
      have H' := Aside0.mk H
      clear H
      have p254 : 0 ≤ (x23_1 : Int) := of_decide_eq_true (by first | (with_reducible assumption) | assumption)
      have q254 : x23_1 < (l3.length : Int) := of_decide_eq_true (by first | (with_reducible assumption) | assumption)
      obtain ⟨ad254, e254, hx254_0⟩ := Kd.at_int HR3.out x23_1 p254 q254
      cases e254
      replace hx254_0 := (HB.out.cell (World.block_lt_of_cell? w _ hx254_0)).trans hx254_0
      replace p254 := eq_true p254
      replace q254 := eq_true q254
      go_wp2_with (first | ((with_reducible refine gate_callee (f := 108) rfl ?_); refine goesL_ (some 36) rfl rfl Try.func108 (by kernel_rfl) rfl #[.int .i64 a0, .int .i64 a1, .slice A2 l2.length c2, .slice (some ad254) l3.length c3, .int .i64 x23_1] rfl (by (try simp only [List.map_toArray, List.map_cons, List.map_nil]); first | done | rfl | (simp only [List.length_drop, List.length_take]; rfl)) ?_; (with_reducible refine (impl_guess.calls k1 a0 a1 _ _ l2 _ _ l3 x23_1 t255 _ ?side1 ?side2 ?side3 ?side4 A14.out).mono ?_); (case side1 => repeat (first | exact (Kd.C_below HR2.out HB.out) | (with_reducible refine Kd.C_alloc ?_ _) | (with_reducible refine Kd.C_drewN ?_ _) | (with_reducible refine Kd.C_drew ?_))); (case side2 => exact HC2.out); (case side3 => repeat (first | exact (Kd.C_below HR3.out HB.out) | (with_reducible refine Kd.C_alloc ?_ _) | (with_reducible refine Kd.C_drewN ?_ _) | (with_reducible refine Kd.C_drew ?_))); (case side4 => exact HC3.out); rintro e w17 ⟨rfl, hb⟩; refine ⟨_, rfl, ?_⟩; have n0_ := Aside0.mk (Kd.R_below (by (with_reducible repeat (first | apply Kd.R_alloc | apply Kd.R_drewN | apply Kd.R_drew)); exact HO_9.out) hb); have n1_ := Aside0.mk (below_step (by repeat (first | (with_reducible first | exact HB.out | apply below_alloc | apply pw_below_drewN | apply below_drew1) | exact HB.out)) hb); clear HO_9; clear HB; have HO_9 := n0_; have HB := n1_; clear n0_ n1_; (try clear hb); (try clear hb2); (try clear hk); (try clear hi); have p16 : 0 ≤ (x23_1 : Int) := of_decide_eq_true (by first | (with_reducible assumption) | assumption); have q16 : (x23_1 : Int) < ((x9_1.length : Int) : Int) := of_decide_eq_true (by first | (with_reducible assumption) | assumption); obtain ⟨go16, co16, eo16, gb16, gl16, cl16, HG16⟩ := Kd.R_form HO_9.out (by omega); (first | cases eo16 | (injection eo16 with ea_ en_ ec_; (first | subst ea_ | (injection ea_ with ea_; subst ea_)); subst ec_; clear en_)); have GB16 := Aside0.mk gb16; have GG16 := Aside0.mk HG16; clear gb16 gl16 HG16; obtain ⟨hx16_0, hf16_0⟩ := Kd.R_celln 0 HO_9.out (x23_1 : Int) p16 q16; replace p16 := eq_true p16; replace q16 := eq_true q16; obtain ⟨hy18_, hz18_⟩ := Kd.R_celln 0 HO_9.out (x23_1 : Int) (of_decide_eq_true (by first | (with_reducible assumption) | assumption)) (of_decide_eq_true (by first | (with_reducible assumption) | assumption)); have HP18 := Kd.R_putg HO_9.out (x23_1 : Int) (((rd l3 x23_1) - t255) % 256)) | ((with_reducible refine gate_store (t := 5) (p := 38) rfl ?_); refine store_event (t := 5) (p := 38) (v := ?vo_w19) (w1 := (w17.setCell ⟨go16, (x23_1 : Int).toNat, none⟩ (.int .u8 (((rd l3 x23_1) - t255) % 256)))) ?hg ?ho ?hn ?hr ?_; (case ho => rfl); (case hg => rfl); (case hn => rfl); (case hr => first | (go_simp; done) | (go_simp; rfl)); intro w19 hw; have hg : w17.grownBy w19 (some go16) := (by rw [hw]; exact HP18.2); have hp_ : Kd.R (Kd.int .u8) 5 w19 w.heap.size (fun _ => True) (.slice (some ⟨go16, 0, none⟩) x9_1.length co16) y256 := (by rw [hw, Ny256.out]; exact HP18.1); clear HP18; have n0_ := Aside0.mk (hp_); have n1_ := Aside0.mk ((by rw [hw]; exact below_set (HB.out) GB16.out : Below w.heap.size w w19)); clear HO_9; clear HB; have HO_9 := n0_; have HB := n1_; clear n0_ n1_; clear hg hw hp_))
      go_roundg k1
      case measure => have := HK1.out; omega
      case rel => exact ⟨(y256), (wrap64 (x23_1 + 1)), (by first | rfl | (simp; done) | (simp [*]; done)), H', ⟨by have := HK1.out; omega⟩, ⟨by (with_reducible repeat (first | apply Kd.R_alloc | apply Kd.R_drewN | apply Kd.R_drew)); exact HO_9.out⟩, ⟨by repeat (first | (with_reducible first | exact HB.out | apply below_alloc | apply pw_below_drewN | apply below_drew1) | exact HB.out)⟩⟩

end Go.Proofs.Ytidblealnaicpaa.PFnFilters

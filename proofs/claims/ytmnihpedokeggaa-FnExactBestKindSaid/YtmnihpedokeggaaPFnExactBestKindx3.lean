-- written by myprint.py (a program of this session's over the kit's print)
import Derived.Test.YtmnihpedokeggaaPFnExactBestKindx0
namespace Go.Proofs.Ytmnihpedokeggaa.PFnExactBestKind
open Go.RowKit Go.Proofs.YtmnihpedokeggaaW.PrintWords Go.Proofs.YtmnihpedokeggaaW.PrintLast Go.Proofs.YtmnihpedokeggaaW.PrintMore
attribute [local go_sem] max2_int min2_int max_two min_two max_three min_three max_four min_four   -- for this text's walks alone
set_option linter.unusedVariables false
set_option linter.unusedSimpArgs false

/-! ### impl_goodRow: function 97 -/
def impl_goodRow.f (a0 : Int) (a1 : Int) (l2 : List Int) (l3 : List Int) : Option (Bool) := if a0 ≥ 0 then (if a0 ≤ 4 then (if a1 ≥ 1 then (if a1 ≤ 8 then (if (l3.length : Int) ≤ 4096 then (if (l2.length : Int) = 0 then (some true) else (some ((l2.length : Int) == (l3.length : Int)))) else (some false)) else (some false)) else (some false)) else (some false)) else (some false)
set_option maxHeartbeats 8000000 in
set_option maxRecDepth 100000 in
theorem impl_goodRow.calls (a0 : Int) (a1 : Int) (A2 : Option Addr) (c2 : Nat) (l2 : List Int) (A3 : Option Addr) (c3 : Nat) (l3 : List Int) (r : Bool) (w : World) (hr2 : Kd.C (Kd.int .u8) w A2 l2.length l2) (hc2 : l2.length ≤ c2) (hr3 : Kd.C (Kd.int .u8) w A3 l3.length l3) (hc3 : l3.length ≤ c3) (h : impl_goodRow.f a0 a1 l2 l3 = some r) :
    Calls Try.prog 97 #[.int .i64 a0, .int .i64 a1, .slice A2 l2.length c2, .slice A3 l3.length c3] w fun e w' => e = .returned (.bool r) ∧ Drawn0 w w' := by
  have HR2 := Aside0.mk hr2
  have HC2 := Aside0.mk hc2
  clear hr2 hc2
  have HR3 := Aside0.mk hr3
  have HC3 := Aside0.mk hc3
  clear hr3 hc3
  have H : (if a0 ≥ 0 then (if a0 ≤ 4 then (if a1 ≥ 1 then (if a1 ≤ 8 then (if (l3.length : Int) ≤ 4096 then (if (l2.length : Int) = 0 then (some true) else (some ((l2.length : Int) == (l3.length : Int)))) else (some false)) else (some false)) else (some false)) else (some false)) else (some false)) = some r := h
  clear h
  by_cases c5 : a0 ≥ 0
  · rw [if_pos c5] at H
    have c5b0 : decide (0 ≤ a0) = true := decide_eq_true c5
    clear c5
    by_cases c6 : a0 ≤ 4
    · rw [if_pos c6] at H
      have c6b0 : decide (a0 ≤ 4) = true := decide_eq_true c6
      clear c6
      by_cases c7 : a1 ≥ 1
      · rw [if_pos c7] at H
        have c7b0 : decide (1 ≤ a1) = true := decide_eq_true c7
        clear c7
        by_cases c8 : a1 ≤ 8
        · rw [if_pos c8] at H
          have c8b0 : decide (a1 ≤ 8) = true := decide_eq_true c8
          clear c8
          by_cases c9 : (l3.length : Int) ≤ 4096
          · rw [if_pos c9] at H
            have c9b0 : decide ((l3.length : Int) ≤ 4096) = true := decide_eq_true c9
            have c9b1 : decide (l3.length ≤ 4096) = true := decide_eq_true (by omega)
            have c9b2 : l3.length ≤ 4096 := by omega
            clear c9
            by_cases c10 : (l2.length : Int) = 0
            · rw [if_pos c10] at H
              have c10b0 : ((l2.length : Int) == 0) = true := beq_iff_eq.mpr c10
              have c10b1 : ((l2.length : Int) != 0) = false := bne_eq_false_iff_eq.mpr c10
              clear c10
              obtain rfl := Option.some.inj H
              go_enter Try.func97, Try.ntmps97
              go_wp2
              go_ret
              exact ⟨by first | rfl | (simp; done) | (simp [*]; done), by repeat (first | exact Drawn0.refl _ | apply Drawn0.step)⟩
            · rw [if_neg c10] at H
              have c10b0 : ((l2.length : Int) == 0) = false := beq_eq_false_iff_ne.mpr c10
              have c10b1 : ((l2.length : Int) != 0) = true := bne_iff_ne.mpr c10
              have c10b2 : ¬ (l2 = []) := fun h_ => c10 (by rw [h_]; rfl)
              obtain rfl := Option.some.inj H
              go_enter Try.func97, Try.ntmps97
              go_wp2
              go_ret
              exact ⟨by first | rfl | (simp; done) | (simp [*]; done), by repeat (first | exact Drawn0.refl _ | apply Drawn0.step)⟩
          · rw [if_neg c9] at H
            have c9b0 : decide ((l3.length : Int) ≤ 4096) = false := decide_eq_false c9
            have c9b1 : decide (l3.length ≤ 4096) = false := decide_eq_false (by omega)
            have c9b2 : ¬ (l3.length ≤ 4096) := by omega
            clear c9
            obtain rfl := Option.some.inj H
            go_enter Try.func97, Try.ntmps97
            go_wp2
            go_ret
            exact ⟨by first | rfl | (simp; done) | (simp [*]; done), by repeat (first | exact Drawn0.refl _ | apply Drawn0.step)⟩
        · rw [if_neg c8] at H
          have c8b0 : decide (a1 ≤ 8) = false := decide_eq_false c8
          clear c8
          obtain rfl := Option.some.inj H
          go_enter Try.func97, Try.ntmps97
          go_wp2
          go_ret
          exact ⟨by first | rfl | (simp; done) | (simp [*]; done), by repeat (first | exact Drawn0.refl _ | apply Drawn0.step)⟩
      · rw [if_neg c7] at H
        have c7b0 : decide (1 ≤ a1) = false := decide_eq_false c7
        clear c7
        obtain rfl := Option.some.inj H
        go_enter Try.func97, Try.ntmps97
        go_wp2
        go_ret
        exact ⟨by first | rfl | (simp; done) | (simp [*]; done), by repeat (first | exact Drawn0.refl _ | apply Drawn0.step)⟩
    · rw [if_neg c6] at H
      have c6b0 : decide (a0 ≤ 4) = false := decide_eq_false c6
      clear c6
      obtain rfl := Option.some.inj H
      go_enter Try.func97, Try.ntmps97
      go_wp2
      go_ret
      exact ⟨by first | rfl | (simp; done) | (simp [*]; done), by repeat (first | exact Drawn0.refl _ | apply Drawn0.step)⟩
  · rw [if_neg c5] at H
    have c5b0 : decide (0 ≤ a0) = false := decide_eq_false c5
    clear c5
    obtain rfl := Option.some.inj H
    go_enter Try.func97, Try.ntmps97
    go_wp2
    go_ret
    exact ⟨by first | rfl | (simp; done) | (simp [*]; done), by repeat (first | exact Drawn0.refl _ | apply Drawn0.step)⟩

/-! ### impl_away: function 136 -/
def impl_away.f (a0 : Int) (a1 : Int) : Option (Int) := some (mx (wrap64 (a0 - a1)) (wrap64 (a1 - a0)))
set_option maxHeartbeats 8000000 in
set_option maxRecDepth 100000 in
theorem impl_away.calls (a0 : Int) (a1 : Int) (r : Int) (w : World) (h : impl_away.f a0 a1 = some r) :
    Calls Try.prog 136 #[.int .i64 a0, .int .i64 a1] w fun e w' => e = .returned (.int .i64 r) ∧ Below w.heap.size w w' := by
  have HB := Aside0.mk (Below.refl w.heap.size w)
  have H : (some (mx (wrap64 (a0 - a1)) (wrap64 (a1 - a0)))) = some r := h
  clear h
  obtain ⟨ji3, hji3⟩ : ∃ j_ : Int, (mx (wrap64 (a0 - a1)) (wrap64 (a1 - a0))) = j_ := ⟨_, rfl⟩
  replace H : (some ji3) = some r := by first | (rw [hji3] at H; exact H) | (simp only [hji3] at H ⊢; exact H)
  have hji3_ : (if (wrap64 (a0 - a1)) < (wrap64 (a1 - a0)) then (wrap64 (a1 - a0)) else (wrap64 (a0 - a1))) = ji3 := hji3
  obtain rfl := Option.some.inj H
  go_enter Try.func136, Try.ntmps136
  go_wp2
  go_ret
  exact ⟨by first | rfl | (simp [errW_none, errW_some] <;> rfl) | (simp only [← hji3]; first | rfl | (simp [errW_none, errW_some] <;> rfl)) | (simp [*, errW_none, errW_some] <;> rfl), by repeat (first | (with_reducible first | exact HB.out | apply below_alloc | apply pw_below_drewN | apply below_drew1) | exact HB.out)⟩

/-! ### impl_guess: function 122 -/
mutual
def impl_guess.j0 : Nat → Int → Int → List Int → Int → Int → Int → Int → Option (Int)
  | 0, _, _, _, _, _, _, _ => none
  | k + 1, x0, x1, x2, x4, x11, x12, x13 => if (x2.length : Int) > 0 then (if 0 ≤ x4 then (if x4 < (x2.length : Int) then (if x4 ≥ x1 then (if 0 ≤ (wrap64 (x4 - x1)) then (if (wrap64 (x4 - x1)) < (x2.length : Int) then (impl_guess.j1 k x0 x11 (wrap64 (rd x2 x4)) (wrap64 (rd x2 (wrap64 (x4 - x1))))) else (none)) else (none)) else (impl_guess.j1 k x0 x11 (wrap64 (rd x2 x4)) x13)) else (none)) else (none)) else (impl_guess.j1 k x0 x11 x12 x13)
def impl_guess.j1 : Nat → Int → Int → Int → Int → Option (Int)
  | 0, _, _, _, _ => none
  | k + 1, x0, x11, x12, x13 => if x0 = 1 then (some ((x11) % 256)) else (if x0 = 2 then (some ((x12) % 256)) else (if x0 = 3 then (some ((wrap64 (Int.tdiv (wrap64 (x11 + x12)) 2)) % 256)) else (if x0 = 4 then ((impl_away.f (wrap64 ((wrap64 (x11 + x12)) - x13)) x11).bind fun t130 => ((impl_away.f (wrap64 ((wrap64 (x11 + x12)) - x13)) x12).bind fun t131 => (if t130 ≤ t131 then ((impl_away.f (wrap64 ((wrap64 (x11 + x12)) - x13)) x11).bind fun t132 => ((impl_away.f (wrap64 ((wrap64 (x11 + x12)) - x13)) x13).bind fun t133 => (impl_guess.j2 k x11 x12 x13 (wrap64 ((wrap64 (x11 + x12)) - x13)) (decide (t132 ≤ t133))))) else (impl_guess.j2 k x11 x12 x13 (wrap64 ((wrap64 (x11 + x12)) - x13)) false)))) else (some 0))))
def impl_guess.j2 : Nat → Int → Int → Int → Int → Bool → Option (Int)
  | 0, _, _, _, _, _ => none
  | k + 1, x11, x12, x13, x14, x66 => if x66 = true then (some ((x11) % 256)) else ((impl_away.f x14 x12).bind fun t134 => ((impl_away.f x14 x13).bind fun t135 => (if t134 ≤ t135 then (some ((x12) % 256)) else (some ((x13) % 256)))))
end
def impl_guess.f (k : Nat) (a0 : Int) (a1 : Int) (l2 : List Int) (l3 : List Int) (a4 : Int) : Option (Int) := if a4 ≥ a1 then (if 0 ≤ (wrap64 (a4 - a1)) then (if (wrap64 (a4 - a1)) < (l3.length : Int) then (impl_guess.j0 k a0 a1 l2 a4 (wrap64 (rd l3 (wrap64 (a4 - a1)))) 0 0) else (none)) else (none)) else (impl_guess.j0 k a0 a1 l2 a4 0 0 0)
theorem impl_guess.mono_l : ∀ k, (∀ y0 y1 y2 y3 y4 y5 y6, LeO (impl_guess.j0 k y0 y1 y2 y3 y4 y5 y6) (impl_guess.j0 (k + 1) y0 y1 y2 y3 y4 y5 y6)) ∧ (∀ y0 y1 y2 y3, LeO (impl_guess.j1 k y0 y1 y2 y3) (impl_guess.j1 (k + 1) y0 y1 y2 y3)) ∧ (∀ y0 y1 y2 y3 y4, LeO (impl_guess.j2 k y0 y1 y2 y3 y4) (impl_guess.j2 (k + 1) y0 y1 y2 y3 y4))
  | 0 => ⟨fun _ _ _ _ _ _ _ r h => by simp [impl_guess.j0] at h, fun _ _ _ _ r h => by simp [impl_guess.j1] at h, fun _ _ _ _ _ r h => by simp [impl_guess.j2] at h⟩
  | k + 1 => by
    obtain ⟨ih0, ih1, ih2⟩ := impl_guess.mono_l k
    refine ⟨?_, ?_, ?_⟩
    · intro y0 y1 y2 y3 y4 y5 y6
      unfold impl_guess.j0
      repeat' first
      | (with_reducible exact ih0 _ _ _ _ _ _ _)
      | (with_reducible exact ih1 _ _ _ _)
      | (with_reducible exact ih2 _ _ _ _ _)
      | (with_reducible exact LeO.refl _)
      | (with_reducible exact LeO.none _)
      | (with_reducible refine LeO.ite ?_ ?_)
      | (with_reducible refine LeO.bind ?_ (fun _ => ?_))
      | exact ih0 _ _ _ _ _ _ _
      | exact ih1 _ _ _ _
      | exact ih2 _ _ _ _ _
      | exact LeO.none _
      | refine LeO.ite ?_ ?_
      | refine LeO.bind ?_ (fun _ => ?_)
    · intro y0 y1 y2 y3
      unfold impl_guess.j1
      repeat' first
      | (with_reducible exact ih0 _ _ _ _ _ _ _)
      | (with_reducible exact ih1 _ _ _ _)
      | (with_reducible exact ih2 _ _ _ _ _)
      | (with_reducible exact LeO.refl _)
      | (with_reducible exact LeO.none _)
      | (with_reducible refine LeO.ite ?_ ?_)
      | (with_reducible refine LeO.bind ?_ (fun _ => ?_))
      | exact ih0 _ _ _ _ _ _ _
      | exact ih1 _ _ _ _
      | exact ih2 _ _ _ _ _
      | exact LeO.none _
      | refine LeO.ite ?_ ?_
      | refine LeO.bind ?_ (fun _ => ?_)
    · intro y0 y1 y2 y3 y4
      unfold impl_guess.j2
      repeat' first
      | (with_reducible exact ih0 _ _ _ _ _ _ _)
      | (with_reducible exact ih1 _ _ _ _)
      | (with_reducible exact ih2 _ _ _ _ _)
      | (with_reducible exact LeO.refl _)
      | (with_reducible exact LeO.none _)
      | (with_reducible refine LeO.ite ?_ ?_)
      | (with_reducible refine LeO.bind ?_ (fun _ => ?_))
      | exact ih0 _ _ _ _ _ _ _
      | exact ih1 _ _ _ _
      | exact ih2 _ _ _ _ _
      | exact LeO.none _
      | refine LeO.ite ?_ ?_
      | refine LeO.bind ?_ (fun _ => ?_)
theorem impl_guess.mono : ∀ a0 a1 a2 a3 a4 k, LeO (impl_guess.f k a0 a1 a2 a3 a4) (impl_guess.f (k + 1) a0 a1 a2 a3 a4) := by
  intro a0 a1 a2 a3 a4 k
  obtain ⟨ih0, ih1, ih2⟩ := impl_guess.mono_l k
  unfold impl_guess.f
  repeat' first
      | (with_reducible exact ih0 _ _ _ _ _ _ _)
      | (with_reducible exact ih1 _ _ _ _)
      | (with_reducible exact ih2 _ _ _ _ _)
      | (with_reducible exact LeO.refl _)
      | (with_reducible exact LeO.none _)
      | (with_reducible refine LeO.ite ?_ ?_)
      | (with_reducible refine LeO.bind ?_ (fun _ => ?_))
      | exact ih0 _ _ _ _ _ _ _
      | exact ih1 _ _ _ _
      | exact ih2 _ _ _ _ _
      | exact LeO.none _
      | refine LeO.ite ?_ ?_
      | refine LeO.bind ?_ (fun _ => ?_)
set_option maxHeartbeats 8000000 in
set_option maxRecDepth 100000 in
theorem impl_guess.calls (k : Nat) (a0 : Int) (a1 : Int) (A2 : Option Addr) (c2 : Nat) (l2 : List Int) (A3 : Option Addr) (c3 : Nat) (l3 : List Int) (a4 : Int) (r : Int) (w : World) (hr2 : Kd.C (Kd.int .u8) w A2 l2.length l2) (hc2 : l2.length ≤ c2) (hr3 : Kd.C (Kd.int .u8) w A3 l3.length l3) (hc3 : l3.length ≤ c3) (h : impl_guess.f k a0 a1 l2 l3 a4 = some r) :
    Calls Try.prog 122 #[.int .i64 a0, .int .i64 a1, .slice A2 l2.length c2, .slice A3 l3.length c3, .int .i64 a4] w fun e w' => e = .returned (.int .u8 r) ∧ Below w.heap.size w w' := by
  have HR2 := Aside0.mk hr2
  have HC2 := Aside0.mk hc2
  clear hr2 hc2
  have HR3 := Aside0.mk hr3
  have HC3 := Aside0.mk hc3
  clear hr3 hc3
  have HB := Aside0.mk (Below.refl w.heap.size w)
  have H : (if a4 ≥ a1 then (if 0 ≤ (wrap64 (a4 - a1)) then (if (wrap64 (a4 - a1)) < (l3.length : Int) then (impl_guess.j0 k a0 a1 l2 a4 (wrap64 (rd l3 (wrap64 (a4 - a1)))) 0 0) else (none)) else (none)) else (impl_guess.j0 k a0 a1 l2 a4 0 0 0)) = some r := h
  clear h
  have HC6 := Aside0.mk H
  clear H
  go_enter Try.func122, Try.ntmps122
  go_upto_if 17 with (fail)
  go_cut [11] (fun v11 wc => ∃ (kq : Nat) (x11_5 : Int), v11 = .int .i64 x11_5 ∧ Aside0 (impl_guess.j0 kq a0 a1 l2 a4 x11_5 0 0 = some r) ∧ Aside0 (kq ≤ k) ∧ Aside0 (Below w.heap.size w wc))
  case first =>
    have H := HC6.out
    clear HC6
    by_cases c7 : a4 ≥ a1
    · rw [if_pos c7] at H
      have c7b0 : decide (a1 ≤ a4) = true := decide_eq_true c7
      clear c7
      (first | rw [c7b0] | (simp only [i64_w, i32_w]; rw [c7b0]) | skip)
      obtain ⟨ji8, hji8⟩ : ∃ j_ : Int, (wrap64 (a4 - a1)) = j_ := ⟨_, rfl⟩
      replace H : (if 0 ≤ (ji8) then (if (ji8) < (l3.length : Int) then (impl_guess.j0 k a0 a1 l2 a4 (wrap64 (rd l3 (ji8))) 0 0) else (none)) else (none)) = some r := by first | (rw [hji8] at H; exact H) | (simp only [hji8] at H ⊢; exact H)
      have hji8w : (IntKind.i64.wrap (a4 - a1)) = ji8 := (i64_w _).trans hji8
      by_cases c9 : 0 ≤ (ji8)
      · rw [if_pos c9] at H
        have c9b0 : decide (0 ≤ (ji8)) = true := decide_eq_true c9
        clear c9
        by_cases c10 : (ji8) < (l3.length : Int)
        · rw [if_pos c10] at H
          have c10b0 : decide ((ji8) < (l3.length : Int)) = true := decide_eq_true c10
          clear c10
          have H' := Aside0.mk H
          clear H
          have p127 : 0 ≤ ((ji8) : Int) := of_decide_eq_true (by first | (with_reducible assumption) | assumption)
          have q127 : (ji8) < (l3.length : Int) := of_decide_eq_true (by first | (with_reducible assumption) | assumption)
          obtain ⟨ad127, e127, hx127_0⟩ := Kd.at_int HR3.out (ji8) p127 q127
          cases e127
          replace hx127_0 := (HB.out.cell (World.block_lt_of_cell? w _ hx127_0)).trans hx127_0
          replace p127 := eq_true p127
          replace q127 := eq_true q127
          go_wp2
          go_meet
          case rel => exact ⟨_, (wrap64 (rd l3 (ji8))), (by first | rfl | (simp; done) | (simp only [← hji8] <;> (first | rfl | simp)) | (simp [*]; done)), H', ⟨by first | omega | exact Nat.le_refl _⟩, ⟨by repeat (first | (with_reducible first | exact HB.out | apply below_alloc | apply pw_below_drewN | apply below_drew1) | exact HB.out)⟩⟩
        · rw [if_neg c10] at H
          exact absurd H (by simp)
      · rw [if_neg c9] at H
        exact absurd H (by simp)
    · rw [if_neg c7] at H
      have c7b0 : decide (a1 ≤ a4) = false := decide_eq_false c7
      clear c7
      (first | rw [c7b0] | (simp only [i64_w, i32_w]; rw [c7b0]) | skip)
      have H' := Aside0.mk H
      clear H
      go_wp2
      go_meet
      case rel => exact ⟨_, (0), (by first | rfl | (simp; done) | (simp [*]; done)), H', ⟨by first | omega | exact Nat.le_refl _⟩, ⟨by repeat (first | (with_reducible first | exact HB.out | apply below_alloc | apply pw_below_drewN | apply below_drew1) | exact HB.out)⟩⟩
  case rest =>
    clear HC6
    try clear c1
    try clear p1
    try clear q1
    try clear hx1
    try clear c2
    try clear p2
    try clear c3
    try clear p6
    try clear c7
    try clear c7b0
    try clear c9
    try clear c9b0
    try clear c10
    try clear c10b0
    try clear hx127_0
    try clear p127
    try clear q127
    obtain ⟨kq, x11_5, rfl, HA, HJ5, HB⟩ := hcut
    cases kq with
    | zero => exact absurd HA.out (by simp [impl_guess.j0])
    | succ kj5 =>
      have H := HA.out
      clear HA
      simp only [impl_guess.j0] at H
      have HC11 := Aside0.mk H
      clear H
      go_upto_if 27 with (fail)
      go_cut [12, 13] (fun v12 v13 wc => ∃ (kq : Nat) (x12_10 : Int) (x13_10 : Int), v12 = .int .i64 x12_10 ∧ v13 = .int .i64 x13_10 ∧ Aside0 (impl_guess.j1 kq a0 x11_5 x12_10 x13_10 = some r) ∧ Aside0 (kq ≤ kj5) ∧ Aside0 (Below w.heap.size w wc))
      case first =>
        have H := HC11.out
        clear HC11
        by_cases c12 : (l2.length : Int) > 0
        · rw [if_pos c12] at H
          have c12b0 : decide (0 < (l2.length : Int)) = true := decide_eq_true c12
          have c12b1 : decide (0 < l2.length) = true := decide_eq_true (by omega)
          have c12b2 : 0 < l2.length := by omega
          clear c12
          (first | rw [c12b0] | (simp only [i64_w, i32_w]; rw [c12b0]) | skip)
          by_cases c13 : 0 ≤ a4
          · rw [if_pos c13] at H
            have c13b0 : decide (0 ≤ a4) = true := decide_eq_true c13
            clear c13
            by_cases c14 : a4 < (l2.length : Int)
            · rw [if_pos c14] at H
              have c14b0 : decide (a4 < (l2.length : Int)) = true := decide_eq_true c14
              clear c14
              by_cases c15 : a4 ≥ a1
              · rw [if_pos c15] at H
                have c15b0 : decide (a1 ≤ a4) = true := decide_eq_true c15
                clear c15
                obtain ⟨ji16, hji16⟩ : ∃ j_ : Int, (wrap64 (a4 - a1)) = j_ := ⟨_, rfl⟩
                replace H : (if 0 ≤ (ji16) then (if (ji16) < (l2.length : Int) then (impl_guess.j1 kj5 a0 x11_5 (wrap64 (rd l2 a4)) (wrap64 (rd l2 (ji16)))) else (none)) else (none)) = some r := by first | (rw [hji16] at H; exact H) | (simp only [hji16] at H ⊢; exact H)
                have hji16w : (IntKind.i64.wrap (a4 - a1)) = ji16 := (i64_w _).trans hji16
                by_cases c17 : 0 ≤ (ji16)
                · rw [if_pos c17] at H
                  have c17b0 : decide (0 ≤ (ji16)) = true := decide_eq_true c17
                  clear c17
                  by_cases c18 : (ji16) < (l2.length : Int)
                  · rw [if_pos c18] at H
                    have c18b0 : decide ((ji16) < (l2.length : Int)) = true := decide_eq_true c18
                    clear c18
                    have H' := Aside0.mk H
                    clear H
                    have p128 : 0 ≤ (a4 : Int) := of_decide_eq_true (by first | (with_reducible assumption) | assumption)
                    have q128 : a4 < (l2.length : Int) := of_decide_eq_true (by first | (with_reducible assumption) | assumption)
                    obtain ⟨ad128, e128, hx128_0⟩ := Kd.at_int HR2.out a4 p128 q128
                    cases e128
                    replace hx128_0 := (HB.out.cell (World.block_lt_of_cell? w _ hx128_0)).trans hx128_0
                    replace p128 := eq_true p128
                    replace q128 := eq_true q128
                    have p129 : 0 ≤ ((ji16) : Int) := of_decide_eq_true (by first | (with_reducible assumption) | assumption)
                    have q129 : (ji16) < (l2.length : Int) := of_decide_eq_true (by first | (with_reducible assumption) | assumption)
                    obtain ⟨ad129, e129, hx129_0⟩ := Kd.at_int HR2.out (ji16) p129 q129
                    obtain rfl : ad128 = ad129 := (by injection e129)
                    replace hx129_0 := (HB.out.cell (World.block_lt_of_cell? w _ hx129_0)).trans hx129_0
                    replace p129 := eq_true p129
                    replace q129 := eq_true q129
                    go_wp2
                    go_meet
                    case rel => exact ⟨_, (wrap64 (rd l2 a4)), (wrap64 (rd l2 (ji16))), (by first | rfl | (simp; done) | (simp [*]; done)), (by first | rfl | (simp; done) | (simp only [← hji16] <;> (first | rfl | simp)) | (simp [*]; done)), H', ⟨by have := HJ5.out; first | omega | exact Nat.le_refl _⟩, ⟨by repeat (first | (with_reducible first | exact HB.out | apply below_alloc | apply pw_below_drewN | apply below_drew1) | exact HB.out)⟩⟩
                  · rw [if_neg c18] at H
                    exact absurd H (by simp)
                · rw [if_neg c17] at H
                  exact absurd H (by simp)
              · rw [if_neg c15] at H
                have c15b0 : decide (a1 ≤ a4) = false := decide_eq_false c15
                clear c15
                have H' := Aside0.mk H
                clear H
                have p128 : 0 ≤ (a4 : Int) := of_decide_eq_true (by first | (with_reducible assumption) | assumption)
                have q128 : a4 < (l2.length : Int) := of_decide_eq_true (by first | (with_reducible assumption) | assumption)
                obtain ⟨ad128, e128, hx128_0⟩ := Kd.at_int HR2.out a4 p128 q128
                cases e128
                replace hx128_0 := (HB.out.cell (World.block_lt_of_cell? w _ hx128_0)).trans hx128_0
                replace p128 := eq_true p128
                replace q128 := eq_true q128
                go_wp2
                go_meet
                case rel => exact ⟨_, (wrap64 (rd l2 a4)), (0), (by first | rfl | (simp; done) | (simp [*]; done)), (by first | rfl | (simp; done) | (simp [*]; done)), H', ⟨by have := HJ5.out; first | omega | exact Nat.le_refl _⟩, ⟨by repeat (first | (with_reducible first | exact HB.out | apply below_alloc | apply pw_below_drewN | apply below_drew1) | exact HB.out)⟩⟩
            · rw [if_neg c14] at H
              exact absurd H (by simp)
          · rw [if_neg c13] at H
            exact absurd H (by simp)
        · rw [if_neg c12] at H
          have c12b0 : decide (0 < (l2.length : Int)) = false := decide_eq_false c12
          have c12b1 : decide (0 < l2.length) = false := decide_eq_false (by omega)
          have c12b2 : ¬ (0 < l2.length) := by omega
          clear c12
          (first | rw [c12b0] | (simp only [i64_w, i32_w]; rw [c12b0]) | skip)
          have H' := Aside0.mk H
          clear H
          go_wp2
          go_meet
          case rel => exact ⟨_, (0), (0), (by first | rfl | (simp; done) | (simp [*]; done)), (by first | rfl | (simp; done) | (simp [*]; done)), H', ⟨by have := HJ5.out; first | omega | exact Nat.le_refl _⟩, ⟨by repeat (first | (with_reducible first | exact HB.out | apply below_alloc | apply pw_below_drewN | apply below_drew1) | exact HB.out)⟩⟩
      case rest =>
        clear HC11
        try clear c1
        try clear p1
        try clear q1
        try clear hx1
        try clear c2
        try clear p2
        try clear c3
        try clear p6
        try clear c7
        try clear c7b0
        try clear c9
        try clear c9b0
        try clear c10
        try clear c10b0
        try clear c12
        try clear c12b0
        try clear c12b1
        try clear c12b2
        try clear p12
        try clear q12
        try clear hx12
        try clear c13
        try clear c13b0
        try clear c14
        try clear c14b0
        try clear c15
        try clear c15b0
        try clear c17
        try clear c17b0
        try clear c18
        try clear c18b0
        try clear hx127_0
        try clear hx128_0
        try clear hx129_0
        try clear p1
        try clear p127
        try clear p128
        try clear p129
        try clear p2
        try clear p6
        try clear q1
        try clear q127
        try clear q128
        try clear q129
        obtain ⟨kq, x12_10, x13_10, rfl, rfl, HA, HJ10, HB⟩ := hcut
        cases kq with
        | zero => exact absurd HA.out (by simp [impl_guess.j1])
        | succ kj10 =>
          have H := HA.out
          clear HA
          simp only [impl_guess.j1] at H
          by_cases c19 : a0 = 1
          · rw [if_pos c19] at H
            have c19b0 : (a0 == 1) = true := beq_iff_eq.mpr c19
            have c19b1 : (a0 != 1) = false := bne_eq_false_iff_eq.mpr c19
            clear c19
            obtain rfl := Option.some.inj H
            go_wp2
            go_ret
            exact ⟨by first | rfl | (simp [errW_none, errW_some] <;> rfl) | (simp [*, errW_none, errW_some] <;> rfl), by repeat (first | (with_reducible first | exact HB.out | apply below_alloc | apply pw_below_drewN | apply below_drew1) | exact HB.out)⟩
          · rw [if_neg c19] at H
            have c19b0 : (a0 == 1) = false := beq_eq_false_iff_ne.mpr c19
            have c19b1 : (a0 != 1) = true := bne_iff_ne.mpr c19
            by_cases c20 : a0 = 2
            · rw [if_pos c20] at H
              have c20b0 : (a0 == 2) = true := beq_iff_eq.mpr c20
              have c20b1 : (a0 != 2) = false := bne_eq_false_iff_eq.mpr c20
              clear c20
              obtain rfl := Option.some.inj H
              go_wp2
              go_ret
              exact ⟨by first | rfl | (simp [errW_none, errW_some] <;> rfl) | (simp [*, errW_none, errW_some] <;> rfl), by repeat (first | (with_reducible first | exact HB.out | apply below_alloc | apply pw_below_drewN | apply below_drew1) | exact HB.out)⟩
            · rw [if_neg c20] at H
              have c20b0 : (a0 == 2) = false := beq_eq_false_iff_ne.mpr c20
              have c20b1 : (a0 != 2) = true := bne_iff_ne.mpr c20
              by_cases c21 : a0 = 3
              · rw [if_pos c21] at H
                have c21b0 : (a0 == 3) = true := beq_iff_eq.mpr c21
                have c21b1 : (a0 != 3) = false := bne_eq_false_iff_eq.mpr c21
                clear c21
                obtain rfl := Option.some.inj H
                go_wp2
                go_ret
                exact ⟨by first | rfl | (simp [errW_none, errW_some] <;> rfl) | (simp [*, errW_none, errW_some] <;> rfl), by repeat (first | (with_reducible first | exact HB.out | apply below_alloc | apply pw_below_drewN | apply below_drew1) | exact HB.out)⟩
              · rw [if_neg c21] at H
                have c21b0 : (a0 == 3) = false := beq_eq_false_iff_ne.mpr c21
                have c21b1 : (a0 != 3) = true := bne_iff_ne.mpr c21
                by_cases c22 : a0 = 4
                · rw [if_pos c22] at H
                  have c22b0 : (a0 == 4) = true := beq_iff_eq.mpr c22
                  have c22b1 : (a0 != 4) = false := bne_eq_false_iff_eq.mpr c22
                  clear c22
                  have HC23 := Aside0.mk H
                  clear H
                  go_upto_region 17 with (fail)
                  go_cut [66] (fun v66 wc => ∃ (kq : Nat) (x66_22 : Bool), v66 = .bool x66_22 ∧ Aside0 (impl_guess.j2 kq x11_5 x12_10 x13_10 (wrap64 ((wrap64 (x11_5 + x12_10)) - x13_10)) x66_22 = some r) ∧ Aside0 (kq ≤ kj10) ∧ Aside0 (Below w.heap.size w wc))
                  case first =>
                    have H := HC23.out
                    clear HC23
                    replace H := Option.bind_eq_some_iff.mp H
                    obtain ⟨t130, A240, H⟩ := H
                    replace H : ((impl_away.f (wrap64 ((wrap64 (x11_5 + x12_10)) - x13_10)) x12_10).bind fun t131 => (if t130 ≤ t131 then ((impl_away.f (wrap64 ((wrap64 (x11_5 + x12_10)) - x13_10)) x11_5).bind fun t132 => ((impl_away.f (wrap64 ((wrap64 (x11_5 + x12_10)) - x13_10)) x13_10).bind fun t133 => (impl_guess.j2 kj10 x11_5 x12_10 x13_10 (wrap64 ((wrap64 (x11_5 + x12_10)) - x13_10)) (decide (t132 ≤ t133))))) else (impl_guess.j2 kj10 x11_5 x12_10 x13_10 (wrap64 ((wrap64 (x11_5 + x12_10)) - x13_10)) false))) = some r := H
                    have A24 := Aside0.mk A240
                    clear A240
                    replace H := Option.bind_eq_some_iff.mp H
                    obtain ⟨t131, A250, H⟩ := H
                    replace H : (if t130 ≤ t131 then ((impl_away.f (wrap64 ((wrap64 (x11_5 + x12_10)) - x13_10)) x11_5).bind fun t132 => ((impl_away.f (wrap64 ((wrap64 (x11_5 + x12_10)) - x13_10)) x13_10).bind fun t133 => (impl_guess.j2 kj10 x11_5 x12_10 x13_10 (wrap64 ((wrap64 (x11_5 + x12_10)) - x13_10)) (decide (t132 ≤ t133))))) else (impl_guess.j2 kj10 x11_5 x12_10 x13_10 (wrap64 ((wrap64 (x11_5 + x12_10)) - x13_10)) false)) = some r := H
                    have A25 := Aside0.mk A250
                    clear A250
                    by_cases c26 : t130 ≤ t131
                    · rw [if_pos c26] at H
                      have c26b0 : decide (t130 ≤ t131) = true := decide_eq_true c26
                      clear c26
                      (first | rw [c26b0] | (simp only [i64_w, i32_w]; rw [c26b0]) | skip)
                      replace H := Option.bind_eq_some_iff.mp H
                      obtain ⟨t132, A270, H⟩ := H
                      replace H : ((impl_away.f (wrap64 ((wrap64 (x11_5 + x12_10)) - x13_10)) x13_10).bind fun t133 => (impl_guess.j2 kj10 x11_5 x12_10 x13_10 (wrap64 ((wrap64 (x11_5 + x12_10)) - x13_10)) (decide (t132 ≤ t133)))) = some r := H
                      have A27 := Aside0.mk A270
                      clear A270
                      replace H := Option.bind_eq_some_iff.mp H
                      obtain ⟨t133, A280, H⟩ := H
                      replace H : (impl_guess.j2 kj10 x11_5 x12_10 x13_10 (wrap64 ((wrap64 (x11_5 + x12_10)) - x13_10)) (decide (t132 ≤ t133))) = some r := H
                      have A28 := Aside0.mk A280
                      clear A280
                      have H' := Aside0.mk H
                      clear H
                      go_wp2_with (first | ((with_reducible refine gate_callee (f := 136) rfl ?_); refine goesL_ (some 69) rfl rfl Try.func136 (by kernel_rfl) rfl #[.int .i64 (wrap64 ((wrap64 (x11_5 + x12_10)) - x13_10)), .int .i64 x11_5] rfl (by (try simp only [List.map_toArray, List.map_cons, List.map_nil]); first | done | rfl | (simp only [List.length_drop, List.length_take]; rfl)) ?_; (with_reducible refine (impl_away.calls (wrap64 ((wrap64 (x11_5 + x12_10)) - x13_10)) x11_5 t130 _ A24.out).mono ?_); rintro e w29 ⟨rfl, hb⟩; refine ⟨_, rfl, ?_⟩; have n0_ := Aside0.mk (below_step (by repeat (first | (with_reducible first | exact HB.out | apply below_alloc | apply pw_below_drewN | apply below_drew1) | exact HB.out)) hb); clear HB; have HB := n0_; clear n0_; (try clear hb); (try clear hb2); (try clear hk); (try clear hi)) | ((with_reducible refine gate_callee (f := 136) rfl ?_); refine goesL_ (some 72) rfl rfl Try.func136 (by kernel_rfl) rfl #[.int .i64 (wrap64 ((wrap64 (x11_5 + x12_10)) - x13_10)), .int .i64 x12_10] rfl (by (try simp only [List.map_toArray, List.map_cons, List.map_nil]); first | done | rfl | (simp only [List.length_drop, List.length_take]; rfl)) ?_; (with_reducible refine (impl_away.calls (wrap64 ((wrap64 (x11_5 + x12_10)) - x13_10)) x12_10 t131 _ A25.out).mono ?_); rintro e w30 ⟨rfl, hb⟩; refine ⟨_, rfl, ?_⟩; have n0_ := Aside0.mk (below_step (by repeat (first | (with_reducible first | exact HB.out | apply below_alloc | apply pw_below_drewN | apply below_drew1) | exact HB.out)) hb); clear HB; have HB := n0_; clear n0_; (try clear hb); (try clear hb2); (try clear hk); (try clear hi)) | (go_at_call 136; (with_reducible refine (impl_away.calls (wrap64 ((wrap64 (x11_5 + x12_10)) - x13_10)) x11_5 t132 _ A27.out).mono ?_); rintro e w31 ⟨rfl, hb⟩; have n0_ := Aside0.mk (below_step (by repeat (first | (with_reducible first | exact HB.out | apply below_alloc | apply pw_below_drewN | apply below_drew1) | exact HB.out)) hb); clear HB; have HB := n0_; clear n0_; (try clear hb); (try clear hb2); (try clear hk); (try clear hi)) | (go_at_call 136; (with_reducible refine (impl_away.calls (wrap64 ((wrap64 (x11_5 + x12_10)) - x13_10)) x13_10 t133 _ A28.out).mono ?_); rintro e w32 ⟨rfl, hb⟩; have n0_ := Aside0.mk (below_step (by repeat (first | (with_reducible first | exact HB.out | apply below_alloc | apply pw_below_drewN | apply below_drew1) | exact HB.out)) hb); clear HB; have HB := n0_; clear n0_; (try clear hb); (try clear hb2); (try clear hk); (try clear hi)))
                      go_meet
                      case rel => exact ⟨_, (decide (t132 ≤ t133)), (by first | rfl | (simp; done) | (simp [*]; done)), H', ⟨by have := HJ5.out; have := HJ10.out; first | omega | exact Nat.le_refl _⟩, ⟨by repeat (first | (with_reducible first | exact HB.out | apply below_alloc | apply pw_below_drewN | apply below_drew1) | exact HB.out)⟩⟩
                    · rw [if_neg c26] at H
                      have c26b0 : decide (t130 ≤ t131) = false := decide_eq_false c26
                      clear c26
                      (first | rw [c26b0] | (simp only [i64_w, i32_w]; rw [c26b0]) | skip)
                      have H' := Aside0.mk H
                      clear H
                      go_wp2_with (first | ((with_reducible refine gate_callee (f := 136) rfl ?_); refine goesL_ (some 69) rfl rfl Try.func136 (by kernel_rfl) rfl #[.int .i64 (wrap64 ((wrap64 (x11_5 + x12_10)) - x13_10)), .int .i64 x11_5] rfl (by (try simp only [List.map_toArray, List.map_cons, List.map_nil]); first | done | rfl | (simp only [List.length_drop, List.length_take]; rfl)) ?_; (with_reducible refine (impl_away.calls (wrap64 ((wrap64 (x11_5 + x12_10)) - x13_10)) x11_5 t130 _ A24.out).mono ?_); rintro e w33 ⟨rfl, hb⟩; refine ⟨_, rfl, ?_⟩; have n0_ := Aside0.mk (below_step (by repeat (first | (with_reducible first | exact HB.out | apply below_alloc | apply pw_below_drewN | apply below_drew1) | exact HB.out)) hb); clear HB; have HB := n0_; clear n0_; (try clear hb); (try clear hb2); (try clear hk); (try clear hi)) | ((with_reducible refine gate_callee (f := 136) rfl ?_); refine goesL_ (some 72) rfl rfl Try.func136 (by kernel_rfl) rfl #[.int .i64 (wrap64 ((wrap64 (x11_5 + x12_10)) - x13_10)), .int .i64 x12_10] rfl (by (try simp only [List.map_toArray, List.map_cons, List.map_nil]); first | done | rfl | (simp only [List.length_drop, List.length_take]; rfl)) ?_; (with_reducible refine (impl_away.calls (wrap64 ((wrap64 (x11_5 + x12_10)) - x13_10)) x12_10 t131 _ A25.out).mono ?_); rintro e w34 ⟨rfl, hb⟩; refine ⟨_, rfl, ?_⟩; have n0_ := Aside0.mk (below_step (by repeat (first | (with_reducible first | exact HB.out | apply below_alloc | apply pw_below_drewN | apply below_drew1) | exact HB.out)) hb); clear HB; have HB := n0_; clear n0_; (try clear hb); (try clear hb2); (try clear hk); (try clear hi)))
                      go_meet
                      case rel => exact ⟨_, (false), (by first | rfl | (simp; done) | (simp [*]; done)), H', ⟨by have := HJ5.out; have := HJ10.out; first | omega | exact Nat.le_refl _⟩, ⟨by repeat (first | (with_reducible first | exact HB.out | apply below_alloc | apply pw_below_drewN | apply below_drew1) | exact HB.out)⟩⟩
                  case rest =>
                    clear HC23
                    try clear c1
                    try clear p1
                    try clear q1
                    try clear hx1
                    try clear c2
                    try clear p2
                    try clear c3
                    try clear p6
                    try clear c7
                    try clear c7b0
                    try clear c9
                    try clear c9b0
                    try clear c10
                    try clear c10b0
                    try clear c12
                    try clear c12b0
                    try clear c12b1
                    try clear c12b2
                    try clear p12
                    try clear q12
                    try clear hx12
                    try clear c13
                    try clear c13b0
                    try clear c14
                    try clear c14b0
                    try clear c15
                    try clear c15b0
                    try clear c17
                    try clear c17b0
                    try clear c18
                    try clear c18b0
                    try clear c19
                    try clear c19b0
                    try clear c19b1
                    try clear c20
                    try clear c20b0
                    try clear c20b1
                    try clear c21
                    try clear c21b0
                    try clear c21b1
                    try clear c22
                    try clear c22b0
                    try clear c22b1
                    try clear c26
                    try clear c26b0
                    try clear hx127_0
                    try clear hx128_0
                    try clear hx129_0
                    try clear p1
                    try clear p12
                    try clear p127
                    try clear p128
                    try clear p129
                    try clear p2
                    try clear p6
                    try clear q1
                    try clear q12
                    try clear q127
                    try clear q128
                    try clear q129
                    obtain ⟨kq, x66_22, rfl, HA, HJ22, HB⟩ := hcut
                    cases kq with
                    | zero => exact absurd HA.out (by simp [impl_guess.j2])
                    | succ kj22 =>
                      have H := HA.out
                      clear HA
                      simp only [impl_guess.j2] at H
                      by_cases c35 : x66_22 = true
                      · subst c35
                        have H1 : (some ((x11_5) % 256)) = some r := by rw [if_pos rfl] at H; exact H
                        clear H
                        have H := H1
                        clear H1
                        obtain rfl := Option.some.inj H
                        go_wp2
                        go_ret
                        exact ⟨by first | rfl | (simp [errW_none, errW_some] <;> rfl) | (simp [*, errW_none, errW_some] <;> rfl), by repeat (first | (with_reducible first | exact HB.out | apply below_alloc | apply pw_below_drewN | apply below_drew1) | exact HB.out)⟩
                      · replace c35 := Bool.eq_false_iff.mpr c35
                        subst c35
                        have H1 : ((impl_away.f (wrap64 ((wrap64 (x11_5 + x12_10)) - x13_10)) x12_10).bind fun t134 => ((impl_away.f (wrap64 ((wrap64 (x11_5 + x12_10)) - x13_10)) x13_10).bind fun t135 => (if t134 ≤ t135 then (some ((x12_10) % 256)) else (some ((x13_10) % 256))))) = some r := by rw [if_neg (show ¬ (false = true) by decide)] at H; exact H
                        clear H
                        have H := H1
                        clear H1
                        replace H := Option.bind_eq_some_iff.mp H
                        obtain ⟨t134, A360, H⟩ := H
                        replace H : ((impl_away.f (wrap64 ((wrap64 (x11_5 + x12_10)) - x13_10)) x13_10).bind fun t135 => (if t134 ≤ t135 then (some ((x12_10) % 256)) else (some ((x13_10) % 256)))) = some r := H
                        have A36 := Aside0.mk A360
                        clear A360
                        replace H := Option.bind_eq_some_iff.mp H
                        obtain ⟨t135, A370, H⟩ := H
                        replace H : (if t134 ≤ t135 then (some ((x12_10) % 256)) else (some ((x13_10) % 256))) = some r := H
                        have A37 := Aside0.mk A370
                        clear A370
                        by_cases c38 : t134 ≤ t135
                        · rw [if_pos c38] at H
                          have c38b0 : decide (t134 ≤ t135) = true := decide_eq_true c38
                          clear c38
                          obtain rfl := Option.some.inj H
                          go_wp2_with (first | ((with_reducible refine gate_callee (f := 136) rfl ?_); refine goesL_ (some 88) rfl rfl Try.func136 (by kernel_rfl) rfl #[.int .i64 (wrap64 ((wrap64 (x11_5 + x12_10)) - x13_10)), .int .i64 x12_10] rfl (by (try simp only [List.map_toArray, List.map_cons, List.map_nil]); first | done | rfl | (simp only [List.length_drop, List.length_take]; rfl)) ?_; (with_reducible refine (impl_away.calls (wrap64 ((wrap64 (x11_5 + x12_10)) - x13_10)) x12_10 t134 _ A36.out).mono ?_); rintro e w39 ⟨rfl, hb⟩; refine ⟨_, rfl, ?_⟩; have n0_ := Aside0.mk (below_step (by repeat (first | (with_reducible first | exact HB.out | apply below_alloc | apply pw_below_drewN | apply below_drew1) | exact HB.out)) hb); clear HB; have HB := n0_; clear n0_; (try clear hb); (try clear hb2); (try clear hk); (try clear hi)) | ((with_reducible refine gate_callee (f := 136) rfl ?_); refine goesL_ (some 91) rfl rfl Try.func136 (by kernel_rfl) rfl #[.int .i64 (wrap64 ((wrap64 (x11_5 + x12_10)) - x13_10)), .int .i64 x13_10] rfl (by (try simp only [List.map_toArray, List.map_cons, List.map_nil]); first | done | rfl | (simp only [List.length_drop, List.length_take]; rfl)) ?_; (with_reducible refine (impl_away.calls (wrap64 ((wrap64 (x11_5 + x12_10)) - x13_10)) x13_10 t135 _ A37.out).mono ?_); rintro e w40 ⟨rfl, hb⟩; refine ⟨_, rfl, ?_⟩; have n0_ := Aside0.mk (below_step (by repeat (first | (with_reducible first | exact HB.out | apply below_alloc | apply pw_below_drewN | apply below_drew1) | exact HB.out)) hb); clear HB; have HB := n0_; clear n0_; (try clear hb); (try clear hb2); (try clear hk); (try clear hi)))
                          go_ret
                          exact ⟨by first | rfl | (simp [errW_none, errW_some] <;> rfl) | (simp [*, errW_none, errW_some] <;> rfl), by repeat (first | (with_reducible first | exact HB.out | apply below_alloc | apply pw_below_drewN | apply below_drew1) | exact HB.out)⟩
                        · rw [if_neg c38] at H
                          have c38b0 : decide (t134 ≤ t135) = false := decide_eq_false c38
                          clear c38
                          obtain rfl := Option.some.inj H
                          go_wp2_with (first | ((with_reducible refine gate_callee (f := 136) rfl ?_); refine goesL_ (some 88) rfl rfl Try.func136 (by kernel_rfl) rfl #[.int .i64 (wrap64 ((wrap64 (x11_5 + x12_10)) - x13_10)), .int .i64 x12_10] rfl (by (try simp only [List.map_toArray, List.map_cons, List.map_nil]); first | done | rfl | (simp only [List.length_drop, List.length_take]; rfl)) ?_; (with_reducible refine (impl_away.calls (wrap64 ((wrap64 (x11_5 + x12_10)) - x13_10)) x12_10 t134 _ A36.out).mono ?_); rintro e w41 ⟨rfl, hb⟩; refine ⟨_, rfl, ?_⟩; have n0_ := Aside0.mk (below_step (by repeat (first | (with_reducible first | exact HB.out | apply below_alloc | apply pw_below_drewN | apply below_drew1) | exact HB.out)) hb); clear HB; have HB := n0_; clear n0_; (try clear hb); (try clear hb2); (try clear hk); (try clear hi)) | ((with_reducible refine gate_callee (f := 136) rfl ?_); refine goesL_ (some 91) rfl rfl Try.func136 (by kernel_rfl) rfl #[.int .i64 (wrap64 ((wrap64 (x11_5 + x12_10)) - x13_10)), .int .i64 x13_10] rfl (by (try simp only [List.map_toArray, List.map_cons, List.map_nil]); first | done | rfl | (simp only [List.length_drop, List.length_take]; rfl)) ?_; (with_reducible refine (impl_away.calls (wrap64 ((wrap64 (x11_5 + x12_10)) - x13_10)) x13_10 t135 _ A37.out).mono ?_); rintro e w42 ⟨rfl, hb⟩; refine ⟨_, rfl, ?_⟩; have n0_ := Aside0.mk (below_step (by repeat (first | (with_reducible first | exact HB.out | apply below_alloc | apply pw_below_drewN | apply below_drew1) | exact HB.out)) hb); clear HB; have HB := n0_; clear n0_; (try clear hb); (try clear hb2); (try clear hk); (try clear hi)))
                          go_ret
                          exact ⟨by first | rfl | (simp [errW_none, errW_some] <;> rfl) | (simp [*, errW_none, errW_some] <;> rfl), by repeat (first | (with_reducible first | exact HB.out | apply below_alloc | apply pw_below_drewN | apply below_drew1) | exact HB.out)⟩
                · rw [if_neg c22] at H
                  have c22b0 : (a0 == 4) = false := beq_eq_false_iff_ne.mpr c22
                  have c22b1 : (a0 != 4) = true := bne_iff_ne.mpr c22
                  obtain rfl := Option.some.inj H
                  go_wp2
                  go_ret
                  exact ⟨by first | rfl | (simp [errW_none, errW_some] <;> rfl) | (simp [*, errW_none, errW_some] <;> rfl), by repeat (first | (with_reducible first | exact HB.out | apply below_alloc | apply pw_below_drewN | apply below_drew1) | exact HB.out)⟩

/-! ### impl_FilterRow: function 98 -/
def impl_FilterRow.l0 : Nat → Int → Int → List Int → List Int → List Int → List Int → Int → Int → Option (List Int)
  | 0, _, _, _, _, _, _, _, _ => none
  | k + 1, x0, x1, x2, x3, x9, x21, x22, x23 => if x23 < x22 then (if 0 ≤ x23 then (if x23 < (x21.length : Int) then ((impl_guess.f k x0 x1 x2 x3 x23).bind fun t141 => (if x23 < (x9.length : Int) then (impl_FilterRow.l0 k x0 x1 x2 x3 (x9.set (x23 : Int).toNat (((rd x21 x23) - t141) % 256)) x21 x22 (wrap64 (x23 + 1))) else (none))) else (none)) else (none)) else (some x9)
def impl_FilterRow.f (k : Nat) (a0 : Int) (a1 : Int) (l2 : List Int) (l3 : List Int) : Option (List Int) := (impl_goodRow.f a0 a1 l2 l3).bind fun t136 => (if t136 = true then (if 0 ≤ (l3.length : Int) then (if ((l3.length : Int) : Int).toNat ≤ 281474976710656 then (impl_FilterRow.l0 k a0 a1 l2 l3 (List.replicate ((l3.length : Int) : Int).toNat 0) l3 (l3.length : Int) 0) else (none)) else (none)) else (some ([] : List Int)))
theorem impl_FilterRow.mono_l : ∀ k, (∀ y0 y1 y2 y3 y4 y5 y6 y7, LeO (impl_FilterRow.l0 k y0 y1 y2 y3 y4 y5 y6 y7) (impl_FilterRow.l0 (k + 1) y0 y1 y2 y3 y4 y5 y6 y7))
  | 0 => fun _ _ _ _ _ _ _ _ r h => by simp [impl_FilterRow.l0] at h
  | k + 1 => by
    have ih0 := impl_FilterRow.mono_l k
    · intro y0 y1 y2 y3 y4 y5 y6 y7
      unfold impl_FilterRow.l0
      repeat' first
      | (with_reducible exact ih0 _ _ _ _ _ _ _ _)
      | (with_reducible exact impl_guess.mono _ _ _ _ _ _)
      | (with_reducible exact LeO.refl _)
      | (with_reducible exact LeO.none _)
      | (with_reducible refine LeO.ite ?_ ?_)
      | (with_reducible refine LeO.bind ?_ (fun _ => ?_))
      | exact ih0 _ _ _ _ _ _ _ _
      | exact impl_guess.mono _ _ _ _ _ _
      | exact LeO.none _
      | refine LeO.ite ?_ ?_
      | refine LeO.bind ?_ (fun _ => ?_)
theorem impl_FilterRow.mono : ∀ a0 a1 a2 a3 k, LeO (impl_FilterRow.f k a0 a1 a2 a3) (impl_FilterRow.f (k + 1) a0 a1 a2 a3) := by
  intro a0 a1 a2 a3 k
  have ih0 := impl_FilterRow.mono_l k
  unfold impl_FilterRow.f
  repeat' first
      | (with_reducible exact ih0 _ _ _ _ _ _ _ _)
      | (with_reducible exact impl_guess.mono _ _ _ _ _ _)
      | (with_reducible exact LeO.refl _)
      | (with_reducible exact LeO.none _)
      | (with_reducible refine LeO.ite ?_ ?_)
      | (with_reducible refine LeO.bind ?_ (fun _ => ?_))
      | exact ih0 _ _ _ _ _ _ _ _
      | exact impl_guess.mono _ _ _ _ _ _
      | exact LeO.none _
      | refine LeO.ite ?_ ?_
      | refine LeO.bind ?_ (fun _ => ?_)
set_option maxHeartbeats 8000000 in
set_option maxRecDepth 100000 in
theorem impl_FilterRow.calls (k : Nat) (a0 : Int) (a1 : Int) (A2 : Option Addr) (c2 : Nat) (l2 : List Int) (A3 : Option Addr) (c3 : Nat) (l3 : List Int) (r : List Int) (w : World) (hr2 : Kd.C (Kd.int .u8) w A2 l2.length l2) (hc2 : l2.length ≤ c2) (hr3 : Kd.C (Kd.int .u8) w A3 l3.length l3) (hc3 : l3.length ≤ c3) (h : impl_FilterRow.f k a0 a1 l2 l3 = some r) :
    Calls Try.prog 98 #[.int .i64 a0, .int .i64 a1, .slice A2 l2.length c2, .slice A3 l3.length c3] w fun e w' => ∃ v0_ : Value, e = .returned (v0_) ∧ Kd.R (Kd.int .u8) 5 w' w.heap.size (fun _ => True) v0_ r ∧ Below w.heap.size w w' := by
  have HR2 := Aside0.mk hr2
  have HC2 := Aside0.mk hc2
  clear hr2 hc2
  have HR3 := Aside0.mk hr3
  have HC3 := Aside0.mk hc3
  clear hr3 hc3
  have HB := Aside0.mk (Below.refl w.heap.size w)
  have H : ((impl_goodRow.f a0 a1 l2 l3).bind fun t136 => (if t136 = true then (if 0 ≤ (l3.length : Int) then (if ((l3.length : Int) : Int).toNat ≤ 281474976710656 then (impl_FilterRow.l0 k a0 a1 l2 l3 (List.replicate ((l3.length : Int) : Int).toNat 0) l3 (l3.length : Int) 0) else (none)) else (none)) else (some ([] : List Int)))) = some r := h
  clear h
  replace H := Option.bind_eq_some_iff.mp H
  obtain ⟨t136, A50, H⟩ := H
  replace H : (if t136 = true then (if 0 ≤ (l3.length : Int) then (if ((l3.length : Int) : Int).toNat ≤ 281474976710656 then (impl_FilterRow.l0 k a0 a1 l2 l3 (List.replicate ((l3.length : Int) : Int).toNat 0) l3 (l3.length : Int) 0) else (none)) else (none)) else (some ([] : List Int))) = some r := H
  have A5 := Aside0.mk A50
  clear A50
  by_cases c6 : t136 = true
  · subst c6
    have H1 : (if 0 ≤ (l3.length : Int) then (if ((l3.length : Int) : Int).toNat ≤ 281474976710656 then (impl_FilterRow.l0 k a0 a1 l2 l3 (List.replicate ((l3.length : Int) : Int).toNat 0) l3 (l3.length : Int) 0) else (none)) else (none)) = some r := by rw [if_pos rfl] at H; exact H
    clear H
    have H := H1
    clear H1
    by_cases c7 : 0 ≤ (l3.length : Int)
    · rw [if_pos c7] at H
      have c7b0 := eq_true c7
      have c7b1 : decide (0 ≤ (l3.length : Int)) = true := decide_eq_true c7
      clear c7
      by_cases c8 : ((l3.length : Int) : Int).toNat ≤ 281474976710656
      · rw [if_pos c8] at H
        have c8b0 := eq_true c8
        have c8b1 : decide (((l3.length : Int) : Int).toNat ≤ 281474976710656) = true := decide_eq_true c8
        clear c8
        obtain ⟨y137, hy137⟩ : ∃ y_ : List Int, y_ = (List.replicate ((l3.length : Int) : Int).toNat 0) := ⟨_, rfl⟩
        replace H : (impl_FilterRow.l0 k a0 a1 l2 l3 y137 l3 (l3.length : Int) 0) = some r := by first | (rw [hy137]; with_reducible exact H) | (have H2_ := (Option.bind_some _ _).symm.trans H; rw [hy137]; with_reducible exact H2_) | (have H2_ := (Option.bind_some _ _).symm.trans H; with_reducible exact H2_) | with_reducible exact H | (rw [hy137]; exact H) | exact H
        have Ny137 := Aside0.mk hy137
        clear hy137
        have H' := Aside0.mk H
        clear H
        go_enter Try.func98, Try.ntmps98
        go_wp2_with (first | ((with_reducible refine gate_callee (f := 97) rfl ?_); refine goesL_ (some 16) rfl rfl Try.func97 (by kernel_rfl) rfl #[.int .i64 a0, .int .i64 a1, .slice A2 l2.length c2, .slice A3 l3.length c3] rfl (by (try simp only [List.map_toArray, List.map_cons, List.map_nil]); first | done | rfl | (simp only [List.length_drop, List.length_take]; rfl)) ?_; (with_reducible refine (impl_goodRow.calls a0 a1 _ _ l2 _ _ l3 true _ ?side1 ?side2 ?side3 ?side4 A5.out).mono ?_); (case side1 => repeat (first | exact HR2.out | (with_reducible refine Kd.C_alloc ?_ _) | (with_reducible refine Kd.C_drewN ?_ _) | (with_reducible refine Kd.C_drew ?_))); (case side2 => exact HC2.out); (case side3 => repeat (first | exact HR3.out | (with_reducible refine Kd.C_alloc ?_ _) | (with_reducible refine Kd.C_drewN ?_ _) | (with_reducible refine Kd.C_drew ?_))); (case side4 => exact HC3.out); rintro e w' ⟨rfl, ⟨nd, rfl⟩⟩; refine ⟨_, rfl, ?_⟩) | ((with_reducible refine gate_dst (N := 20) rfl ?_); refine Kd.R_make (Kd.int .u8) _ 5 rfl (N := 20) rfl 29 _ _ rfl (l3.length : Int) rfl rfl Try.underlying29 (.int .u8 0) 1 info5 rfl (by decide) (by omega) 0 (ok := fun _ => True) (okp := fun _ => True) rfl (fun _ hk => hk) trivial (of_decide_eq_true (by first | (with_reducible assumption) | assumption)) (Nat.le_trans (Nat.mul_le_mul_right _ (of_decide_eq_true (by first | (with_reducible assumption) | assumption) : (l3.length : Int).toNat ≤ 281474976710656)) (by omega)) (Below.refl _ _) (Nat.le_refl _) ?_; intro v138 w9 ho10 hb hg_ hnew_; clear hg_ hnew_; (first | rw [← Ny137.out] at ho10 | (simp only [Int.reduceToNat] at ho10; rw [← Ny137.out] at ho10)); have n0_ := Aside0.mk (Kd.R_lower ho10 (below_size (by repeat (first | (with_reducible first | exact HB.out | apply below_alloc | apply pw_below_drewN | apply below_drew1) | exact HB.out)))); have n1_ := Aside0.mk (below_step (by repeat (first | (with_reducible first | exact HB.out | apply below_alloc | apply pw_below_drewN | apply below_drew1) | exact HB.out)) hb); clear HB; have HO139 := n0_; have HB := n1_; clear n0_ n1_; clear hb ho10))
        go_loopg [23] k (fun kq v23 w' => ∃ (x9_1 : List Int) (x23_1 : Int), v23 = .int .i64 x23_1 ∧ Aside0 (impl_FilterRow.l0 kq a0 a1 l2 l3 x9_1 l3 (l3.length : Int) x23_1 = some r) ∧ Aside0 (kq ≤ k) ∧ Aside0 (Kd.R (Kd.int .u8) 5 w' w.heap.size (fun _ => True) v138 x9_1) ∧ Aside0 (Below w.heap.size w w'))
        case atStart => exact ⟨(y137), (0), (by first | rfl | (simp; done) | (simp [*]; done)), H', ⟨Nat.le_refl _⟩, ⟨by (with_reducible repeat (first | apply Kd.R_alloc | apply Kd.R_drewN | apply Kd.R_drew)); exact HO139.out⟩, ⟨by repeat (first | (with_reducible first | exact HB.out | apply below_alloc | apply pw_below_drewN | apply below_drew1) | exact HB.out)⟩⟩
        case round =>
          clear H'
          try clear c2
          try clear p2
          try clear c3
          try clear c6
          try clear c7
          try clear c7b0
          try clear c7b1
          try clear c8
          try clear c8b0
          try clear c8b1
          try clear c9
          obtain ⟨x9_1, x23_1, rfl, HA, HK1, HO_9, HB⟩ := hrel
          cases gk with
          | zero => exact absurd HA.out (by simp [impl_FilterRow.l0])
          | succ k1 =>
            have H := HA.out
            clear HA
            simp only [impl_FilterRow.l0] at H
            by_cases c11 : x23_1 < (l3.length : Int)
            · rw [if_pos c11] at H
              have c11b0 : decide (x23_1 < (l3.length : Int)) = true := decide_eq_true c11
              clear c11
              by_cases c12 : 0 ≤ x23_1
              · rw [if_pos c12] at H
                have c12b0 : decide (0 ≤ x23_1) = true := decide_eq_true c12
                clear c12
                by_cases c13 : x23_1 < (l3.length : Int)
                · rw [if_pos c13] at H
                  have c13b0 : decide (x23_1 < (l3.length : Int)) = true := decide_eq_true c13
                  clear c13
                  replace H := Option.bind_eq_some_iff.mp H
                  obtain ⟨t141, A140, H⟩ := H
                  replace H : (if x23_1 < (x9_1.length : Int) then (impl_FilterRow.l0 k1 a0 a1 l2 l3 (x9_1.set (x23_1 : Int).toNat (((rd l3 x23_1) - t141) % 256)) l3 (l3.length : Int) (wrap64 (x23_1 + 1))) else (none)) = some r := H
                  have A14 := Aside0.mk A140
                  clear A140
                  by_cases c15 : x23_1 < (x9_1.length : Int)
                  · rw [if_pos c15] at H
                    have c15b0 : decide (x23_1 < (x9_1.length : Int)) = true := decide_eq_true c15
                    clear c15
                    obtain ⟨y142, hy142⟩ : ∃ y_ : List Int, y_ = (x9_1.set (x23_1 : Int).toNat (((rd l3 x23_1) - t141) % 256)) := ⟨_, rfl⟩
                    replace H : (impl_FilterRow.l0 k1 a0 a1 l2 l3 y142 l3 (l3.length : Int) (wrap64 (x23_1 + 1))) = some r := by first | (rw [hy142]; with_reducible exact H) | (have H2_ := (Option.bind_some _ _).symm.trans H; rw [hy142]; with_reducible exact H2_) | (have H2_ := (Option.bind_some _ _).symm.trans H; with_reducible exact H2_) | with_reducible exact H | (rw [hy142]; exact H) | exact H
                    have Ny142 := Aside0.mk hy142
                    clear hy142
                    have H' := Aside0.mk H
                    clear H
                    have p140 : 0 ≤ (x23_1 : Int) := of_decide_eq_true (by first | (with_reducible assumption) | assumption)
                    have q140 : x23_1 < (l3.length : Int) := of_decide_eq_true (by first | (with_reducible assumption) | assumption)
                    obtain ⟨ad140, e140, hx140_0⟩ := Kd.at_int HR3.out x23_1 p140 q140
                    cases e140
                    replace hx140_0 := (HB.out.cell (World.block_lt_of_cell? w _ hx140_0)).trans hx140_0
                    replace p140 := eq_true p140
                    replace q140 := eq_true q140
                    go_wp2_with (first | ((with_reducible refine gate_callee (f := 122) rfl ?_); refine goesL_ (some 36) rfl rfl Try.func122 (by kernel_rfl) rfl #[.int .i64 a0, .int .i64 a1, .slice A2 l2.length c2, .slice (some ad140) l3.length c3, .int .i64 x23_1] rfl (by (try simp only [List.map_toArray, List.map_cons, List.map_nil]); first | done | rfl | (simp only [List.length_drop, List.length_take]; rfl)) ?_; (with_reducible refine (impl_guess.calls k1 a0 a1 _ _ l2 _ _ l3 x23_1 t141 _ ?side1 ?side2 ?side3 ?side4 A14.out).mono ?_); (case side1 => repeat (first | exact (Kd.C_below HR2.out HB.out) | (with_reducible refine Kd.C_alloc ?_ _) | (with_reducible refine Kd.C_drewN ?_ _) | (with_reducible refine Kd.C_drew ?_))); (case side2 => exact HC2.out); (case side3 => repeat (first | exact (Kd.C_below HR3.out HB.out) | (with_reducible refine Kd.C_alloc ?_ _) | (with_reducible refine Kd.C_drewN ?_ _) | (with_reducible refine Kd.C_drew ?_))); (case side4 => exact HC3.out); rintro e w17 ⟨rfl, hb⟩; refine ⟨_, rfl, ?_⟩; have n0_ := Aside0.mk (Kd.R_below (by (with_reducible repeat (first | apply Kd.R_alloc | apply Kd.R_drewN | apply Kd.R_drew)); exact HO_9.out) hb); have n1_ := Aside0.mk (below_step (by repeat (first | (with_reducible first | exact HB.out | apply below_alloc | apply pw_below_drewN | apply below_drew1) | exact HB.out)) hb); clear HO_9; clear HB; have HO_9 := n0_; have HB := n1_; clear n0_ n1_; (try clear hb); (try clear hb2); (try clear hk); (try clear hi); have p16 : 0 ≤ (x23_1 : Int) := of_decide_eq_true (by first | (with_reducible assumption) | assumption); have q16 : (x23_1 : Int) < ((x9_1.length : Int) : Int) := of_decide_eq_true (by first | (with_reducible assumption) | assumption); obtain ⟨go16, co16, eo16, gb16, gl16, cl16, HG16⟩ := Kd.R_form HO_9.out (by omega); (first | cases eo16 | (injection eo16 with ea_ en_ ec_; (first | subst ea_ | (injection ea_ with ea_; subst ea_)); subst ec_; clear en_)); have GB16 := Aside0.mk gb16; have GG16 := Aside0.mk HG16; clear gb16 gl16 HG16; obtain ⟨hx16_0, hf16_0⟩ := Kd.R_celln 0 HO_9.out (x23_1 : Int) p16 q16; replace p16 := eq_true p16; replace q16 := eq_true q16; obtain ⟨hy18_, hz18_⟩ := Kd.R_celln 0 HO_9.out (x23_1 : Int) (of_decide_eq_true (by first | (with_reducible assumption) | assumption)) (of_decide_eq_true (by first | (with_reducible assumption) | assumption)); have HP18 := Kd.R_putg HO_9.out (x23_1 : Int) (((rd l3 x23_1) - t141) % 256)) | ((with_reducible refine gate_store (t := 5) (p := 38) rfl ?_); refine store_event (t := 5) (p := 38) (v := ?vo_w19) (w1 := (w17.setCell ⟨go16, (x23_1 : Int).toNat, none⟩ (.int .u8 (((rd l3 x23_1) - t141) % 256)))) ?hg ?ho ?hn ?hr ?_; (case ho => rfl); (case hg => rfl); (case hn => rfl); (case hr => first | (go_simp; done) | (go_simp; rfl)); intro w19 hw; have hg : w17.grownBy w19 (some go16) := (by rw [hw]; exact HP18.2); have hp_ : Kd.R (Kd.int .u8) 5 w19 w.heap.size (fun _ => True) (.slice (some ⟨go16, 0, none⟩) x9_1.length co16) y142 := (by rw [hw, Ny142.out]; exact HP18.1); clear HP18; have n0_ := Aside0.mk (hp_); have n1_ := Aside0.mk ((by rw [hw]; exact below_set (HB.out) GB16.out : Below w.heap.size w w19)); clear HO_9; clear HB; have HO_9 := n0_; have HB := n1_; clear n0_ n1_; clear hg hw hp_))
                    go_roundg k1
                    case measure => have := HK1.out; omega
                    case rel => exact ⟨(y142), (wrap64 (x23_1 + 1)), (by first | rfl | (simp; done) | (simp [*]; done)), H', ⟨by have := HK1.out; omega⟩, ⟨by (with_reducible repeat (first | apply Kd.R_alloc | apply Kd.R_drewN | apply Kd.R_drew)); exact HO_9.out⟩, ⟨by repeat (first | (with_reducible first | exact HB.out | apply below_alloc | apply pw_below_drewN | apply below_drew1) | exact HB.out)⟩⟩
                  · rw [if_neg c15] at H
                    exact absurd H (by simp)
                · rw [if_neg c13] at H
                  exact absurd H (by simp)
              · rw [if_neg c12] at H
                exact absurd H (by simp)
            · rw [if_neg c11] at H
              have c11b0 : decide (x23_1 < (l3.length : Int)) = false := decide_eq_false c11
              clear c11
              obtain rfl := Option.some.inj H
              go_wp2
              go_ret
              exact ⟨_, by first | rfl | (simp [errW_none, errW_some] <;> rfl) | (simp [*, errW_none, errW_some] <;> rfl), by (with_reducible repeat (first | apply Kd.R_alloc | apply Kd.R_drewN | apply Kd.R_drew)); exact HO_9.out, by repeat (first | (with_reducible first | exact HB.out | apply below_alloc | apply pw_below_drewN | apply below_drew1) | exact HB.out)⟩
      · rw [if_neg c8] at H
        exact absurd H (by simp)
    · rw [if_neg c7] at H
      exact absurd H (by simp)
  · replace c6 := Bool.eq_false_iff.mpr c6
    subst c6
    have H1 : (some ([] : List Int)) = some r := by rw [if_neg (show ¬ (false = true) by decide)] at H; exact H
    clear H
    have H := H1
    clear H1
    obtain rfl := Option.some.inj H
    go_enter Try.func98, Try.ntmps98
    go_wp2_with (first | ((with_reducible refine gate_callee (f := 97) rfl ?_); refine goesL_ (some 16) rfl rfl Try.func97 (by kernel_rfl) rfl #[.int .i64 a0, .int .i64 a1, .slice A2 l2.length c2, .slice A3 l3.length c3] rfl (by (try simp only [List.map_toArray, List.map_cons, List.map_nil]); first | done | rfl | (simp only [List.length_drop, List.length_take]; rfl)) ?_; (with_reducible refine (impl_goodRow.calls a0 a1 _ _ l2 _ _ l3 false _ ?side1 ?side2 ?side3 ?side4 A5.out).mono ?_); (case side1 => repeat (first | exact HR2.out | (with_reducible refine Kd.C_alloc ?_ _) | (with_reducible refine Kd.C_drewN ?_ _) | (with_reducible refine Kd.C_drew ?_))); (case side2 => exact HC2.out); (case side3 => repeat (first | exact HR3.out | (with_reducible refine Kd.C_alloc ?_ _) | (with_reducible refine Kd.C_drewN ?_ _) | (with_reducible refine Kd.C_drew ?_))); (case side4 => exact HC3.out); rintro e w' ⟨rfl, ⟨nd, rfl⟩⟩; refine ⟨_, rfl, ?_⟩))
    go_ret
    exact ⟨_, by first | rfl | (simp [errW_none, errW_some] <;> rfl) | (simp [*, errW_none, errW_some] <;> rfl), by first | exact Kd.R_nil _ _ _ _ _ | exact Kd.N_nil _ _ _ _ _ | exact Kd.V_nil _ _ _ _ _ | exact Kd.Q_nil _ _ _ _ _ | exact Kd.S_nil _ _ _ _ _, by repeat (first | (with_reducible first | exact HB.out | apply below_alloc | apply pw_below_drewN | apply below_drew1) | exact HB.out)⟩

end Go.Proofs.Ytmnihpedokeggaa.PFnExactBestKind

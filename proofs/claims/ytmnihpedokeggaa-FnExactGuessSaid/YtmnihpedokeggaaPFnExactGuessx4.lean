-- written by myprint.py (a program of this session's over the kit's print)
import Derived.Test.YtmnihpedokeggaaPFnExactGuessx0
import Derived.Test.YtmnihpedokeggaaPFnExactGuessx3
namespace Go.Proofs.Ytmnihpedokeggaa.PFnExactGuess
open Go.RowKit Go.Proofs.YtmnihpedokeggaaW.PrintWords Go.Proofs.YtmnihpedokeggaaW.PrintLast Go.Proofs.YtmnihpedokeggaaW.PrintMore
attribute [local go_sem] max2_int min2_int max_two min_two max_three min_three max_four min_four   -- for this text's walks alone
set_option linter.unusedVariables false
set_option linter.unusedSimpArgs false

/-! ### impl.Guess's literal (side): by hand -/
def impl_Guess_1.f (k : Nat) (l0 : List Int) (a1 : Int) : Option Bool := if (l0.length : Int) = 0 then impl_zrange.f k l0 0 255 8 else if (l0.length : Int) = a1 then impl_zrange.f k l0 0 255 8 else some false
theorem impl_Guess_1.mono : ∀ a0 a1 k, LeO (impl_Guess_1.f k a0 a1) (impl_Guess_1.f (k + 1) a0 a1) := by
  intro a0 a1 k
  unfold impl_Guess_1.f
  repeat' first
      | (with_reducible exact impl_zrange.mono _ _ _ _ _)
      | (with_reducible exact LeO.refl _)
      | (with_reducible refine LeO.ite ?_ ?_)
      | exact impl_zrange.mono _ _ _ _ _
      | refine LeO.ite ?_ ?_
set_option maxHeartbeats 2000000 in
set_option maxRecDepth 100000 in
theorem impl_Guess_1.calls (k : Nat) (A0 : Option Addr) (c0 : Nat) (l0 : List Int) (g : Nat) (a1 : Int) (r : Bool) (w : World) (hb : w.heap[g]? = some (.cells #[.int .i64 a1] 3 (0, 0))) (hr0 : Kd.C (Kd.int .i64) w A0 l0.length l0) (hc0 : l0.length ≤ c0) (h : impl_Guess_1.f k l0 a1 = some r) :
    Calls Try.prog 79 #[.slice A0 l0.length c0, .pointer (some ⟨g, 0, none⟩)] w fun e w' => e = .returned (.bool r) ∧ Drawn0 w w' := by
  have hx : w.cell? ⟨g, 0, none⟩ = some (.int .i64 a1) := (blk_cell hb 0).trans rfl
  unfold impl_Guess_1.f at h
  by_cases c1 : (l0.length : Int) = 0
  · rw [if_pos c1] at h
    have d1 : ((l0.length : Int) == 0) = true := beq_iff_eq.mpr c1
    clear c1
    go_enter Try.func79, Try.ntmps79
    go_wp2_with (first | (go_at_call 80; (with_reducible refine (impl_zrange.calls k _ _ l0 0 255 8 r _ hr0 hc0 h).mono ?_); rintro e w' ⟨rfl, ⟨nd, rfl⟩⟩))
    go_ret
    exact ⟨by first | rfl | (simp; done) | (simp [*]; done), by repeat (first | exact Drawn0.refl _ | apply Drawn0.step)⟩
  · rw [if_neg c1] at h
    have d1 : ((l0.length : Int) == 0) = false := beq_eq_false_iff_ne.mpr c1
    have e1 : ¬ l0.length = 0 := by omega
    have e2 : decide (l0.length = 0) = false := decide_eq_false e1
    have e3 : (l0.length == 0) = false := by simpa using e1
    by_cases c2 : (l0.length : Int) = a1
    · rw [if_pos c2] at h
      have d2 : ((l0.length : Int) == a1) = true := beq_iff_eq.mpr c2
      go_enter Try.func79, Try.ntmps79
      go_wp2_with (first | (go_at_call 80; (with_reducible refine (impl_zrange.calls k _ _ l0 0 255 8 r _ hr0 hc0 h).mono ?_); rintro e w' ⟨rfl, ⟨nd, rfl⟩⟩))
      go_ret
      exact ⟨by first | rfl | (simp; done) | (simp [*]; done), by repeat (first | exact Drawn0.refl _ | apply Drawn0.step)⟩
    · rw [if_neg c2] at h
      have d2 : ((l0.length : Int) == a1) = false := beq_eq_false_iff_ne.mpr c2
      obtain rfl := Option.some.inj h
      go_enter Try.func79, Try.ntmps79
      go_wp2
      go_ret
      exact ⟨by first | rfl | (simp; done) | (simp [*]; done), by repeat (first | exact Drawn0.refl _ | apply Drawn0.step)⟩

/-! ### impl_Guess: function 29 -/
mutual
def impl_Guess.j0 : Nat → Int → List Int → List Int → Int → Bool → Int → Option (List Int)
  | 0, _, _, _, _, _, _ => none
  | k + 1, x0, x2, x3, x4, x55, x130000 => if x55 = true then (some ([] : List Int)) else (if x0 = 1 then (if (x2.length : Int) = 0 then (impl_Guess.j1 k x0 x2 x3 x4 true x130000) else (if x0 = 2 then (impl_Guess.j1 k x0 x2 x3 x4 ((x3.length : Int) == 0) x130000) else (if x0 = 3 then (impl_Guess.j1 k x0 x2 x3 x4 ((x3.length : Int) == 0) x130000) else (impl_Guess.j1 k x0 x2 x3 x4 false x130000)))) else (if x0 = 3 then (if (x2.length : Int) = 0 then (impl_Guess.j1 k x0 x2 x3 x4 true x130000) else (if x0 = 2 then (impl_Guess.j1 k x0 x2 x3 x4 ((x3.length : Int) == 0) x130000) else (impl_Guess.j1 k x0 x2 x3 x4 ((x3.length : Int) == 0) x130000))) else (if x0 = 2 then (impl_Guess.j1 k x0 x2 x3 x4 ((x3.length : Int) == 0) x130000) else (impl_Guess.j1 k x0 x2 x3 x4 false x130000))))
def impl_Guess.j1 : Nat → Int → List Int → List Int → Int → Bool → Int → Option (List Int)
  | 0, _, _, _, _, _, _ => none
  | k + 1, x0, x2, x3, x4, x79, x130000 => if x79 = true then (some ([] : List Int)) else (impl_Guess.l0 k x0 x2 x3 x4 0 (wrap64 ((x2.length : Int) + (x3.length : Int))) x2 (x2.length : Int) 0 x130000)
def impl_Guess.l0 : Nat → Int → List Int → List Int → Int → Int → Int → List Int → Int → Int → Int → Option (List Int)
  | 0, _, _, _, _, _, _, _, _, _, _ => none
  | k + 1, x0, x2, x3, x4, x12, x13, x85, x86, x87, x130000 => if x87 < x86 then (if 0 ≤ x87 then (if x87 < (x85.length : Int) then (impl_Guess.l0 k x0 x2 x3 x4 (wrap64 (x12 + (rd x85 x87))) x13 x85 x86 (wrap64 (x87 + 1)) x130000) else (none)) else (none)) else (impl_Guess.l1 k x0 x2 x3 x4 x12 x13 x3 (x3.length : Int) 0 x130000)
def impl_Guess.l1 : Nat → Int → List Int → List Int → Int → Int → Int → List Int → Int → Int → Int → Option (List Int)
  | 0, _, _, _, _, _, _, _, _, _, _ => none
  | k + 1, x0, x2, x3, x4, x12, x13, x95, x96, x97, x130000 => if x97 < x96 then (if 0 ≤ x97 then (if x97 < (x95.length : Int) then (impl_Guess.l1 k x0 x2 x3 x4 (wrap64 (x12 + (rd x95 x97))) x13 x95 x96 (wrap64 (x97 + 1)) x130000) else (none)) else (none)) else (if x13 = 0 then (impl_Guess.j4 k x0 x2 x3 x4 128 x130000) else (impl_Guess.j4 k x0 x2 x3 x4 (wrap64 (Int.tdiv (wrap64 (x12 + (wrap64 (Int.tdiv x13 2)))) x13)) x130000))
def impl_Guess.j4 : Nat → Int → List Int → List Int → Int → Int → Int → Option (List Int)
  | 0, _, _, _, _, _, _ => none
  | k + 1, x0, x2, x3, x4, x12, x130000 => impl_Guess.l2 k x0 x2 x3 x4 x12 ([] : List Int) x130000 0 x130000
def impl_Guess.l2 : Nat → Int → List Int → List Int → Int → Int → List Int → Int → Int → Int → Option (List Int)
  | 0, _, _, _, _, _, _, _, _, _ => none
  | k + 1, x0, x2, x3, x4, x12, x18, x113, x114, x130000 => if x114 < x113 then (impl_Guess.l3 k x0 x2 x3 x4 x12 x18 x114 x113 x114 x130000 0 x130000) else (some x18)
def impl_Guess.l3 : Nat → Int → List Int → List Int → Int → Int → List Int → Int → Int → Int → Int → Int → Int → Option (List Int)
  | 0, _, _, _, _, _, _, _, _, _, _, _, _ => none
  | k + 1, x0, x2, x3, x4, x12, x18, x19, x113, x114, x117, x118, x130000 => if x118 < x117 then (if x0 = 0 then (if x18.length < 17592186044416 then (impl_Guess.l3 k x0 x2 x3 x4 x12 (x18 ++ [x12]) x19 x113 x114 x117 (wrap64 (x118 + 1)) x130000) else (none)) else (if x0 = 1 then (if 0 ≤ x19 then (if x19 < (x2.length : Int) then (if x18.length < 17592186044416 then (impl_Guess.l3 k x0 x2 x3 x4 x12 (x18 ++ [rd x2 x19]) x19 x113 x114 x117 (wrap64 (x118 + 1)) x130000) else (none)) else (none)) else (none)) else (if x0 = 2 then (if 0 ≤ x118 then (if x118 < (x3.length : Int) then (if x18.length < 17592186044416 then (impl_Guess.l3 k x0 x2 x3 x4 x12 (x18 ++ [rd x3 x118]) x19 x113 x114 x117 (wrap64 (x118 + 1)) x130000) else (none)) else (none)) else (none)) else (if x0 = 3 then (if 0 ≤ x19 then (if x19 < (x2.length : Int) then (if 0 ≤ x118 then (if x118 < (x3.length : Int) then ((impl_zclip.f (wrap64 ((wrap64 ((rd x2 x19) + (rd x3 x118))) - x4))).bind fun t149 => (if x18.length < 17592186044416 then (impl_Guess.l3 k x0 x2 x3 x4 x12 (x18 ++ [t149]) x19 x113 x114 x117 (wrap64 (x118 + 1)) x130000) else (none))) else (none)) else (none)) else (none)) else (none)) else (impl_Guess.l3 k x0 x2 x3 x4 x12 x18 x19 x113 x114 x117 (wrap64 (x118 + 1)) x130000))))) else (impl_Guess.l2 k x0 x2 x3 x4 x12 x18 x113 (wrap64 (x114 + 1)) x130000)
end
def impl_Guess.f (k : Nat) (a0 : Int) (a1 : Int) (l2 : List Int) (l3 : List Int) (a4 : Int) : Option (List Int) := if a1 = 4 then (if a0 < 0 then (impl_Guess.j0 k a0 l2 l3 a4 true a1) else (if a0 > 3 then (impl_Guess.j0 k a0 l2 l3 a4 true a1) else ((impl_Guess_1.f k l2 a1).bind fun t130 => (if t130 = true then ((impl_Guess_1.f k l3 a1).bind fun t131 => (if t131 = true then (if a4 < 0 then (impl_Guess.j0 k a0 l2 l3 a4 true a1) else (impl_Guess.j0 k a0 l2 l3 a4 (decide (a4 > 255)) a1)) else (impl_Guess.j0 k a0 l2 l3 a4 true a1))) else (impl_Guess.j0 k a0 l2 l3 a4 true a1))))) else (if a1 = 8 then (if a0 < 0 then (impl_Guess.j0 k a0 l2 l3 a4 true a1) else (if a0 > 3 then (impl_Guess.j0 k a0 l2 l3 a4 true a1) else ((impl_Guess_1.f k l2 a1).bind fun t132 => (if t132 = true then ((impl_Guess_1.f k l3 a1).bind fun t133 => (if t133 = true then (if a4 < 0 then (impl_Guess.j0 k a0 l2 l3 a4 true a1) else (impl_Guess.j0 k a0 l2 l3 a4 (decide (a4 > 255)) a1)) else (impl_Guess.j0 k a0 l2 l3 a4 true a1))) else (impl_Guess.j0 k a0 l2 l3 a4 true a1))))) else (impl_Guess.j0 k a0 l2 l3 a4 true a1))
theorem impl_Guess.mono_l : ∀ k, (∀ y0 y1 y2 y3 y4 y5, LeO (impl_Guess.j0 k y0 y1 y2 y3 y4 y5) (impl_Guess.j0 (k + 1) y0 y1 y2 y3 y4 y5)) ∧ (∀ y0 y1 y2 y3 y4 y5, LeO (impl_Guess.j1 k y0 y1 y2 y3 y4 y5) (impl_Guess.j1 (k + 1) y0 y1 y2 y3 y4 y5)) ∧ (∀ y0 y1 y2 y3 y4 y5 y6 y7 y8 y9, LeO (impl_Guess.l0 k y0 y1 y2 y3 y4 y5 y6 y7 y8 y9) (impl_Guess.l0 (k + 1) y0 y1 y2 y3 y4 y5 y6 y7 y8 y9)) ∧ (∀ y0 y1 y2 y3 y4 y5 y6 y7 y8 y9, LeO (impl_Guess.l1 k y0 y1 y2 y3 y4 y5 y6 y7 y8 y9) (impl_Guess.l1 (k + 1) y0 y1 y2 y3 y4 y5 y6 y7 y8 y9)) ∧ (∀ y0 y1 y2 y3 y4 y5, LeO (impl_Guess.j4 k y0 y1 y2 y3 y4 y5) (impl_Guess.j4 (k + 1) y0 y1 y2 y3 y4 y5)) ∧ (∀ y0 y1 y2 y3 y4 y5 y6 y7 y8, LeO (impl_Guess.l2 k y0 y1 y2 y3 y4 y5 y6 y7 y8) (impl_Guess.l2 (k + 1) y0 y1 y2 y3 y4 y5 y6 y7 y8)) ∧ (∀ y0 y1 y2 y3 y4 y5 y6 y7 y8 y9 y10 y11, LeO (impl_Guess.l3 k y0 y1 y2 y3 y4 y5 y6 y7 y8 y9 y10 y11) (impl_Guess.l3 (k + 1) y0 y1 y2 y3 y4 y5 y6 y7 y8 y9 y10 y11))
  | 0 => ⟨fun _ _ _ _ _ _ r h => by simp [impl_Guess.j0] at h, fun _ _ _ _ _ _ r h => by simp [impl_Guess.j1] at h, fun _ _ _ _ _ _ _ _ _ _ r h => by simp [impl_Guess.l0] at h, fun _ _ _ _ _ _ _ _ _ _ r h => by simp [impl_Guess.l1] at h, fun _ _ _ _ _ _ r h => by simp [impl_Guess.j4] at h, fun _ _ _ _ _ _ _ _ _ r h => by simp [impl_Guess.l2] at h, fun _ _ _ _ _ _ _ _ _ _ _ _ r h => by simp [impl_Guess.l3] at h⟩
  | k + 1 => by
    obtain ⟨ih0, ih1, ih2, ih3, ih4, ih5, ih6⟩ := impl_Guess.mono_l k
    refine ⟨?_, ?_, ?_, ?_, ?_, ?_, ?_⟩
    · intro y0 y1 y2 y3 y4 y5
      unfold impl_Guess.j0
      repeat' first
      | (with_reducible exact ih0 _ _ _ _ _ _)
      | (with_reducible exact ih1 _ _ _ _ _ _)
      | (with_reducible exact ih2 _ _ _ _ _ _ _ _ _ _)
      | (with_reducible exact ih3 _ _ _ _ _ _ _ _ _ _)
      | (with_reducible exact ih4 _ _ _ _ _ _)
      | (with_reducible exact ih5 _ _ _ _ _ _ _ _ _)
      | (with_reducible exact ih6 _ _ _ _ _ _ _ _ _ _ _ _)
      | (with_reducible exact impl_Guess_1.mono _ _ _)
      | (with_reducible exact LeO.refl _)
      | (with_reducible exact LeO.none _)
      | (with_reducible refine LeO.ite ?_ ?_)
      | (with_reducible refine LeO.bind ?_ (fun _ => ?_))
      | exact ih0 _ _ _ _ _ _
      | exact ih1 _ _ _ _ _ _
      | exact ih2 _ _ _ _ _ _ _ _ _ _
      | exact ih3 _ _ _ _ _ _ _ _ _ _
      | exact ih4 _ _ _ _ _ _
      | exact ih5 _ _ _ _ _ _ _ _ _
      | exact ih6 _ _ _ _ _ _ _ _ _ _ _ _
      | exact impl_Guess_1.mono _ _ _
      | exact LeO.none _
      | refine LeO.ite ?_ ?_
      | refine LeO.bind ?_ (fun _ => ?_)
    · intro y0 y1 y2 y3 y4 y5
      unfold impl_Guess.j1
      repeat' first
      | (with_reducible exact ih0 _ _ _ _ _ _)
      | (with_reducible exact ih1 _ _ _ _ _ _)
      | (with_reducible exact ih2 _ _ _ _ _ _ _ _ _ _)
      | (with_reducible exact ih3 _ _ _ _ _ _ _ _ _ _)
      | (with_reducible exact ih4 _ _ _ _ _ _)
      | (with_reducible exact ih5 _ _ _ _ _ _ _ _ _)
      | (with_reducible exact ih6 _ _ _ _ _ _ _ _ _ _ _ _)
      | (with_reducible exact impl_Guess_1.mono _ _ _)
      | (with_reducible exact LeO.refl _)
      | (with_reducible exact LeO.none _)
      | (with_reducible refine LeO.ite ?_ ?_)
      | (with_reducible refine LeO.bind ?_ (fun _ => ?_))
      | exact ih0 _ _ _ _ _ _
      | exact ih1 _ _ _ _ _ _
      | exact ih2 _ _ _ _ _ _ _ _ _ _
      | exact ih3 _ _ _ _ _ _ _ _ _ _
      | exact ih4 _ _ _ _ _ _
      | exact ih5 _ _ _ _ _ _ _ _ _
      | exact ih6 _ _ _ _ _ _ _ _ _ _ _ _
      | exact impl_Guess_1.mono _ _ _
      | exact LeO.none _
      | refine LeO.ite ?_ ?_
      | refine LeO.bind ?_ (fun _ => ?_)
    · intro y0 y1 y2 y3 y4 y5 y6 y7 y8 y9
      unfold impl_Guess.l0
      repeat' first
      | (with_reducible exact ih0 _ _ _ _ _ _)
      | (with_reducible exact ih1 _ _ _ _ _ _)
      | (with_reducible exact ih2 _ _ _ _ _ _ _ _ _ _)
      | (with_reducible exact ih3 _ _ _ _ _ _ _ _ _ _)
      | (with_reducible exact ih4 _ _ _ _ _ _)
      | (with_reducible exact ih5 _ _ _ _ _ _ _ _ _)
      | (with_reducible exact ih6 _ _ _ _ _ _ _ _ _ _ _ _)
      | (with_reducible exact impl_Guess_1.mono _ _ _)
      | (with_reducible exact LeO.refl _)
      | (with_reducible exact LeO.none _)
      | (with_reducible refine LeO.ite ?_ ?_)
      | (with_reducible refine LeO.bind ?_ (fun _ => ?_))
      | exact ih0 _ _ _ _ _ _
      | exact ih1 _ _ _ _ _ _
      | exact ih2 _ _ _ _ _ _ _ _ _ _
      | exact ih3 _ _ _ _ _ _ _ _ _ _
      | exact ih4 _ _ _ _ _ _
      | exact ih5 _ _ _ _ _ _ _ _ _
      | exact ih6 _ _ _ _ _ _ _ _ _ _ _ _
      | exact impl_Guess_1.mono _ _ _
      | exact LeO.none _
      | refine LeO.ite ?_ ?_
      | refine LeO.bind ?_ (fun _ => ?_)
    · intro y0 y1 y2 y3 y4 y5 y6 y7 y8 y9
      unfold impl_Guess.l1
      repeat' first
      | (with_reducible exact ih0 _ _ _ _ _ _)
      | (with_reducible exact ih1 _ _ _ _ _ _)
      | (with_reducible exact ih2 _ _ _ _ _ _ _ _ _ _)
      | (with_reducible exact ih3 _ _ _ _ _ _ _ _ _ _)
      | (with_reducible exact ih4 _ _ _ _ _ _)
      | (with_reducible exact ih5 _ _ _ _ _ _ _ _ _)
      | (with_reducible exact ih6 _ _ _ _ _ _ _ _ _ _ _ _)
      | (with_reducible exact impl_Guess_1.mono _ _ _)
      | (with_reducible exact LeO.refl _)
      | (with_reducible exact LeO.none _)
      | (with_reducible refine LeO.ite ?_ ?_)
      | (with_reducible refine LeO.bind ?_ (fun _ => ?_))
      | exact ih0 _ _ _ _ _ _
      | exact ih1 _ _ _ _ _ _
      | exact ih2 _ _ _ _ _ _ _ _ _ _
      | exact ih3 _ _ _ _ _ _ _ _ _ _
      | exact ih4 _ _ _ _ _ _
      | exact ih5 _ _ _ _ _ _ _ _ _
      | exact ih6 _ _ _ _ _ _ _ _ _ _ _ _
      | exact impl_Guess_1.mono _ _ _
      | exact LeO.none _
      | refine LeO.ite ?_ ?_
      | refine LeO.bind ?_ (fun _ => ?_)
    · intro y0 y1 y2 y3 y4 y5
      unfold impl_Guess.j4
      repeat' first
      | (with_reducible exact ih0 _ _ _ _ _ _)
      | (with_reducible exact ih1 _ _ _ _ _ _)
      | (with_reducible exact ih2 _ _ _ _ _ _ _ _ _ _)
      | (with_reducible exact ih3 _ _ _ _ _ _ _ _ _ _)
      | (with_reducible exact ih4 _ _ _ _ _ _)
      | (with_reducible exact ih5 _ _ _ _ _ _ _ _ _)
      | (with_reducible exact ih6 _ _ _ _ _ _ _ _ _ _ _ _)
      | (with_reducible exact impl_Guess_1.mono _ _ _)
      | (with_reducible exact LeO.refl _)
      | (with_reducible exact LeO.none _)
      | (with_reducible refine LeO.ite ?_ ?_)
      | (with_reducible refine LeO.bind ?_ (fun _ => ?_))
      | exact ih0 _ _ _ _ _ _
      | exact ih1 _ _ _ _ _ _
      | exact ih2 _ _ _ _ _ _ _ _ _ _
      | exact ih3 _ _ _ _ _ _ _ _ _ _
      | exact ih4 _ _ _ _ _ _
      | exact ih5 _ _ _ _ _ _ _ _ _
      | exact ih6 _ _ _ _ _ _ _ _ _ _ _ _
      | exact impl_Guess_1.mono _ _ _
      | exact LeO.none _
      | refine LeO.ite ?_ ?_
      | refine LeO.bind ?_ (fun _ => ?_)
    · intro y0 y1 y2 y3 y4 y5 y6 y7 y8
      unfold impl_Guess.l2
      repeat' first
      | (with_reducible exact ih0 _ _ _ _ _ _)
      | (with_reducible exact ih1 _ _ _ _ _ _)
      | (with_reducible exact ih2 _ _ _ _ _ _ _ _ _ _)
      | (with_reducible exact ih3 _ _ _ _ _ _ _ _ _ _)
      | (with_reducible exact ih4 _ _ _ _ _ _)
      | (with_reducible exact ih5 _ _ _ _ _ _ _ _ _)
      | (with_reducible exact ih6 _ _ _ _ _ _ _ _ _ _ _ _)
      | (with_reducible exact impl_Guess_1.mono _ _ _)
      | (with_reducible exact LeO.refl _)
      | (with_reducible exact LeO.none _)
      | (with_reducible refine LeO.ite ?_ ?_)
      | (with_reducible refine LeO.bind ?_ (fun _ => ?_))
      | exact ih0 _ _ _ _ _ _
      | exact ih1 _ _ _ _ _ _
      | exact ih2 _ _ _ _ _ _ _ _ _ _
      | exact ih3 _ _ _ _ _ _ _ _ _ _
      | exact ih4 _ _ _ _ _ _
      | exact ih5 _ _ _ _ _ _ _ _ _
      | exact ih6 _ _ _ _ _ _ _ _ _ _ _ _
      | exact impl_Guess_1.mono _ _ _
      | exact LeO.none _
      | refine LeO.ite ?_ ?_
      | refine LeO.bind ?_ (fun _ => ?_)
    · intro y0 y1 y2 y3 y4 y5 y6 y7 y8 y9 y10 y11
      unfold impl_Guess.l3
      repeat' first
      | (with_reducible exact ih0 _ _ _ _ _ _)
      | (with_reducible exact ih1 _ _ _ _ _ _)
      | (with_reducible exact ih2 _ _ _ _ _ _ _ _ _ _)
      | (with_reducible exact ih3 _ _ _ _ _ _ _ _ _ _)
      | (with_reducible exact ih4 _ _ _ _ _ _)
      | (with_reducible exact ih5 _ _ _ _ _ _ _ _ _)
      | (with_reducible exact ih6 _ _ _ _ _ _ _ _ _ _ _ _)
      | (with_reducible exact impl_Guess_1.mono _ _ _)
      | (with_reducible exact LeO.refl _)
      | (with_reducible exact LeO.none _)
      | (with_reducible refine LeO.ite ?_ ?_)
      | (with_reducible refine LeO.bind ?_ (fun _ => ?_))
      | exact ih0 _ _ _ _ _ _
      | exact ih1 _ _ _ _ _ _
      | exact ih2 _ _ _ _ _ _ _ _ _ _
      | exact ih3 _ _ _ _ _ _ _ _ _ _
      | exact ih4 _ _ _ _ _ _
      | exact ih5 _ _ _ _ _ _ _ _ _
      | exact ih6 _ _ _ _ _ _ _ _ _ _ _ _
      | exact impl_Guess_1.mono _ _ _
      | exact LeO.none _
      | refine LeO.ite ?_ ?_
      | refine LeO.bind ?_ (fun _ => ?_)
theorem impl_Guess.mono : ∀ a0 a1 a2 a3 a4 k, LeO (impl_Guess.f k a0 a1 a2 a3 a4) (impl_Guess.f (k + 1) a0 a1 a2 a3 a4) := by
  intro a0 a1 a2 a3 a4 k
  obtain ⟨ih0, ih1, ih2, ih3, ih4, ih5, ih6⟩ := impl_Guess.mono_l k
  unfold impl_Guess.f
  repeat' first
      | (with_reducible exact ih0 _ _ _ _ _ _)
      | (with_reducible exact ih1 _ _ _ _ _ _)
      | (with_reducible exact ih2 _ _ _ _ _ _ _ _ _ _)
      | (with_reducible exact ih3 _ _ _ _ _ _ _ _ _ _)
      | (with_reducible exact ih4 _ _ _ _ _ _)
      | (with_reducible exact ih5 _ _ _ _ _ _ _ _ _)
      | (with_reducible exact ih6 _ _ _ _ _ _ _ _ _ _ _ _)
      | (with_reducible exact impl_Guess_1.mono _ _ _)
      | (with_reducible exact LeO.refl _)
      | (with_reducible exact LeO.none _)
      | (with_reducible refine LeO.ite ?_ ?_)
      | (with_reducible refine LeO.bind ?_ (fun _ => ?_))
      | exact ih0 _ _ _ _ _ _
      | exact ih1 _ _ _ _ _ _
      | exact ih2 _ _ _ _ _ _ _ _ _ _
      | exact ih3 _ _ _ _ _ _ _ _ _ _
      | exact ih4 _ _ _ _ _ _
      | exact ih5 _ _ _ _ _ _ _ _ _
      | exact ih6 _ _ _ _ _ _ _ _ _ _ _ _
      | exact impl_Guess_1.mono _ _ _
      | exact LeO.none _
      | refine LeO.ite ?_ ?_
      | refine LeO.bind ?_ (fun _ => ?_)
def impl_Guess.T35 : Bool × List (List Nat × List Nat) := (true, [([], []), ([], []), ([], []), ([1, 2], [1, 2]), ([3], [3]), ([], []), ([], []), ([5, 6], [5, 6]), ([7], [7]), ([4, 8], [4, 8]), ([], []), ([9, 10], [9, 10]), ([11], [11]), ([12], [12]), ([0, 13, 12], [0, 13]), ([14, 14, 0, 1, 2, 3, 4, 5, 6, 7, 8, 9, 10, 11, 12, 13, 14], [0, 14])])
def impl_Guess.B35 : List Nat := [0, 0, 0, 6, 14, 0, 0, 96, 224, 510, 0, 2046, 4094, 8190, 16383, 32767]
theorem impl_Guess.tab35 : rtab .any (opsOf Try.f29 35) = impl_Guess.T35 := by kernel_rfl
theorem impl_Guess.bits35 : waitsOk impl_Guess.T35.2 impl_Guess.B35 = true := by kernel_rfl
set_option maxHeartbeats 8000000 in
set_option maxRecDepth 100000 in
theorem impl_Guess.calls (k : Nat) (a0 : Int) (a1 : Int) (A2 : Option Addr) (c2 : Nat) (l2 : List Int) (A3 : Option Addr) (c3 : Nat) (l3 : List Int) (a4 : Int) (r : List Int) (w : World) (hr2 : Kd.C (Kd.int .i64) w A2 l2.length l2) (hc2 : l2.length ≤ c2) (hr3 : Kd.C (Kd.int .i64) w A3 l3.length l3) (hc3 : l3.length ≤ c3) (h : impl_Guess.f k a0 a1 l2 l3 a4 = some r) :
    Calls Try.prog 29 #[.int .i64 a0, .int .i64 a1, .slice A2 l2.length c2, .slice A3 l3.length c3, .int .i64 a4] w fun e w' => ∃ v0_ : Value, e = .returned (v0_) ∧ Kd.R (Kd.int .i64) 3 w' w.heap.size (fun _ => True) v0_ r ∧ Below w.heap.size w w' := by
  have HR2 := Aside0.mk hr2
  have HC2 := Aside0.mk hc2
  clear hr2 hc2
  have HR3 := Aside0.mk hr3
  have HC3 := Aside0.mk hc3
  clear hr3 hc3
  have HB := Aside0.mk (Below.refl w.heap.size w)
  have H : (if a1 = 4 then (if a0 < 0 then (impl_Guess.j0 k a0 l2 l3 a4 true a1) else (if a0 > 3 then (impl_Guess.j0 k a0 l2 l3 a4 true a1) else ((impl_Guess_1.f k l2 a1).bind fun t130 => (if t130 = true then ((impl_Guess_1.f k l3 a1).bind fun t131 => (if t131 = true then (if a4 < 0 then (impl_Guess.j0 k a0 l2 l3 a4 true a1) else (impl_Guess.j0 k a0 l2 l3 a4 (decide (a4 > 255)) a1)) else (impl_Guess.j0 k a0 l2 l3 a4 true a1))) else (impl_Guess.j0 k a0 l2 l3 a4 true a1))))) else (if a1 = 8 then (if a0 < 0 then (impl_Guess.j0 k a0 l2 l3 a4 true a1) else (if a0 > 3 then (impl_Guess.j0 k a0 l2 l3 a4 true a1) else ((impl_Guess_1.f k l2 a1).bind fun t132 => (if t132 = true then ((impl_Guess_1.f k l3 a1).bind fun t133 => (if t133 = true then (if a4 < 0 then (impl_Guess.j0 k a0 l2 l3 a4 true a1) else (impl_Guess.j0 k a0 l2 l3 a4 (decide (a4 > 255)) a1)) else (impl_Guess.j0 k a0 l2 l3 a4 true a1))) else (impl_Guess.j0 k a0 l2 l3 a4 true a1))))) else (impl_Guess.j0 k a0 l2 l3 a4 true a1))) = some r := h
  clear h
  have HC6 := Aside0.mk H
  clear H
  go_enter Try.func29, Try.ntmps29
  go_upto_region 2 with (first | ((with_reducible refine gate_dst (N := 6) rfl ?_); (try (refine gate_guard (by rfl) ?_; dsimp only)); refine box_event ?hg (N := 6) ?hd (cs := #[.int .i64 a1]) (t := 3) ?hr ?_; (case hd => rfl); (case hg => rfl); (case hr => first | (go_simp; done) | (go_simp; rfl)); intro gb129 hg w7 hbox hb; have n0_ := Aside0.mk (below_step (by repeat (first | (with_reducible first | exact HB.out | apply below_alloc | apply pw_below_drewN | apply below_drew1) | exact HB.out)) hb); have n1_ := Aside0.mk (hbox); have n2_ := Aside0.mk ((by rw [hg]; exact (below_size (by repeat (first | (with_reducible first | exact HB.out | apply below_alloc | apply pw_below_drewN | apply below_drew1) | exact HB.out))) : w.heap.size ≤ gb129)); have n3_ := n2_; clear HB; have HB := n0_; have BK129 := n1_; have GW129 := n2_; have GE129 := n3_; clear n0_ n1_ n2_ n3_; clear hb hbox hg))
  (try simp only [Act.put, List.setIfInBounds_toArray, List.set_cons_zero, List.set_cons_succ])
  go_cut [55] (fun v55 wc => ∃ (kq : Nat) (x55_5 : Bool), v55 = .bool x55_5 ∧ Aside0 (impl_Guess.j0 kq a0 l2 l3 a4 x55_5 a1 = some r) ∧ Aside0 (kq ≤ k) ∧ Aside0 (wc.heap[gb129]? = some (.cells #[.int .i64 a1] 3 (0, 0))) ∧ Aside0 (Below w.heap.size w wc))
  case first =>
    have H := HC6.out
    clear HC6
    by_cases c8 : a1 = 4
    · rw [if_pos c8] at H
      have c8b0 : (a1 == 4) = true := beq_iff_eq.mpr c8
      have c8b1 : (a1 != 4) = false := bne_eq_false_iff_eq.mpr c8
      clear c8
      (first | rw [c8b0] | (simp only [i64_w, i32_w]; rw [c8b0]) | skip)
      by_cases c9 : a0 < 0
      · rw [if_pos c9] at H
        have c9b0 : decide (a0 < 0) = true := decide_eq_true c9
        clear c9
        have H' := Aside0.mk H
        clear H
        have hcz10_0 : w7.cell? ⟨gb129, 0, none⟩ = some (.int .i64 a1) := (blk_cell BK129.out 0).trans rfl
        have hfz10_0 := blk_frozen BK129.out 0
        go_wp2
        go_meet
        case rel => exact ⟨_, (true), (by first | rfl | (simp; done) | (simp [*]; done)), H', ⟨by first | omega | exact Nat.le_refl _⟩, ⟨by (with_reducible repeat (first | refine blk_drewN ?_ _ | refine blk_drew ?_ | refine blk_alloc ?_ _)); exact BK129.out⟩, ⟨by repeat (first | (with_reducible first | exact HB.out | apply below_alloc | apply pw_below_drewN | apply below_drew1 | refine below_set ?_ GE129.out) | exact HB.out)⟩⟩
      rw [if_neg c9] at H
      have c9b0 : decide (a0 < 0) = false := decide_eq_false c9
      clear c9
      by_cases c11 : a0 > 3
      · rw [if_pos c11] at H
        have c11b0 : decide (3 < a0) = true := decide_eq_true c11
        clear c11
        have H' := Aside0.mk H
        clear H
        have hcz12_0 : w7.cell? ⟨gb129, 0, none⟩ = some (.int .i64 a1) := (blk_cell BK129.out 0).trans rfl
        have hfz12_0 := blk_frozen BK129.out 0
        go_wp2
        go_meet
        case rel => exact ⟨_, (true), (by first | rfl | (simp; done) | (simp [*]; done)), H', ⟨by first | omega | exact Nat.le_refl _⟩, ⟨by (with_reducible repeat (first | refine blk_drewN ?_ _ | refine blk_drew ?_ | refine blk_alloc ?_ _)); exact BK129.out⟩, ⟨by repeat (first | (with_reducible first | exact HB.out | apply below_alloc | apply pw_below_drewN | apply below_drew1 | refine below_set ?_ GE129.out) | exact HB.out)⟩⟩
      rw [if_neg c11] at H
      have c11b0 : decide (3 < a0) = false := decide_eq_false c11
      clear c11
      replace H := Option.bind_eq_some_iff.mp H
      obtain ⟨t130, A130, H⟩ := H
      replace H : (if t130 = true then ((impl_Guess_1.f k l3 a1).bind fun t131 => (if t131 = true then (if a4 < 0 then (impl_Guess.j0 k a0 l2 l3 a4 true a1) else (impl_Guess.j0 k a0 l2 l3 a4 (decide (a4 > 255)) a1)) else (impl_Guess.j0 k a0 l2 l3 a4 true a1))) else (impl_Guess.j0 k a0 l2 l3 a4 true a1)) = some r := H
      have A13 := Aside0.mk A130
      clear A130
      by_cases c14 : t130 = true
      rotate_left
      · replace c14 := Bool.eq_false_iff.mpr c14
        subst c14
        have H1 : (impl_Guess.j0 k a0 l2 l3 a4 true a1) = some r := by rw [if_neg (show ¬ (false = true) by decide)] at H; exact H
        clear H
        have H := H1
        clear H1
        have H' := Aside0.mk H
        clear H
        have hcz21_0 : w7.cell? ⟨gb129, 0, none⟩ = some (.int .i64 a1) := (blk_cell BK129.out 0).trans rfl
        have hfz21_0 := blk_frozen BK129.out 0
        go_wp2_with (first | (go_at_call 79; (with_reducible refine (impl_Guess_1.calls k _ _ l2 gb129 a1 false _ ?side3 ?side1 ?side2 A13.out).mono ?_); (case side1 => repeat (first | exact (Kd.C_below HR2.out HB.out) | (with_reducible refine Kd.C_alloc ?_ _) | (with_reducible refine Kd.C_drewN ?_ _) | (with_reducible refine Kd.C_drew ?_))); (case side2 => exact HC2.out); (case side3 => exact by (with_reducible repeat (first | refine blk_drewN ?_ _ | refine blk_drew ?_ | refine blk_alloc ?_ _)); exact BK129.out); rintro e w' ⟨rfl, ⟨nd, rfl⟩⟩))
        go_meet
        case rel => exact ⟨_, (true), (by first | rfl | (simp; done) | (simp [*]; done)), H', ⟨by first | omega | exact Nat.le_refl _⟩, ⟨by (with_reducible repeat (first | refine blk_drewN ?_ _ | refine blk_drew ?_ | refine blk_alloc ?_ _)); exact BK129.out⟩, ⟨by repeat (first | (with_reducible first | exact HB.out | apply below_alloc | apply pw_below_drewN | apply below_drew1 | refine below_set ?_ GE129.out) | exact HB.out)⟩⟩
      subst c14
      have H1 : ((impl_Guess_1.f k l3 a1).bind fun t131 => (if t131 = true then (if a4 < 0 then (impl_Guess.j0 k a0 l2 l3 a4 true a1) else (impl_Guess.j0 k a0 l2 l3 a4 (decide (a4 > 255)) a1)) else (impl_Guess.j0 k a0 l2 l3 a4 true a1))) = some r := by rw [if_pos rfl] at H; exact H
      clear H
      have H := H1
      clear H1
      replace H := Option.bind_eq_some_iff.mp H
      obtain ⟨t131, A150, H⟩ := H
      replace H : (if t131 = true then (if a4 < 0 then (impl_Guess.j0 k a0 l2 l3 a4 true a1) else (impl_Guess.j0 k a0 l2 l3 a4 (decide (a4 > 255)) a1)) else (impl_Guess.j0 k a0 l2 l3 a4 true a1)) = some r := H
      have A15 := Aside0.mk A150
      clear A150
      by_cases c16 : t131 = true
      rotate_left
      · replace c16 := Bool.eq_false_iff.mpr c16
        subst c16
        have H1 : (impl_Guess.j0 k a0 l2 l3 a4 true a1) = some r := by rw [if_neg (show ¬ (false = true) by decide)] at H; exact H
        clear H
        have H := H1
        clear H1
        have H' := Aside0.mk H
        clear H
        have hcz20_0 : w7.cell? ⟨gb129, 0, none⟩ = some (.int .i64 a1) := (blk_cell BK129.out 0).trans rfl
        have hfz20_0 := blk_frozen BK129.out 0
        go_wp2_with (first | (go_at_call 79; (with_reducible refine (impl_Guess_1.calls k _ _ l2 gb129 a1 true _ ?side3 ?side1 ?side2 A13.out).mono ?_); (case side1 => repeat (first | exact (Kd.C_below HR2.out HB.out) | (with_reducible refine Kd.C_alloc ?_ _) | (with_reducible refine Kd.C_drewN ?_ _) | (with_reducible refine Kd.C_drew ?_))); (case side2 => exact HC2.out); (case side3 => exact by (with_reducible repeat (first | refine blk_drewN ?_ _ | refine blk_drew ?_ | refine blk_alloc ?_ _)); exact BK129.out); rintro e w' ⟨rfl, ⟨nd, rfl⟩⟩) | (go_at_call 79; (with_reducible refine (impl_Guess_1.calls k _ _ l3 gb129 a1 false _ ?side3 ?side1 ?side2 A15.out).mono ?_); (case side1 => repeat (first | exact (Kd.C_below HR3.out (by repeat (first | (with_reducible first | exact HB.out | apply below_alloc | apply pw_below_drewN | apply below_drew1 | refine below_set ?_ GE129.out) | exact HB.out))) | (with_reducible refine Kd.C_alloc ?_ _) | (with_reducible refine Kd.C_drewN ?_ _) | (with_reducible refine Kd.C_drew ?_))); (case side2 => exact HC3.out); (case side3 => exact by (with_reducible repeat (first | refine blk_drewN ?_ _ | refine blk_drew ?_ | refine blk_alloc ?_ _)); exact BK129.out); rintro e w' ⟨rfl, ⟨nd, rfl⟩⟩))
        go_meet
        case rel => exact ⟨_, (true), (by first | rfl | (simp; done) | (simp [*]; done)), H', ⟨by first | omega | exact Nat.le_refl _⟩, ⟨by (with_reducible repeat (first | refine blk_drewN ?_ _ | refine blk_drew ?_ | refine blk_alloc ?_ _)); exact BK129.out⟩, ⟨by repeat (first | (with_reducible first | exact HB.out | apply below_alloc | apply pw_below_drewN | apply below_drew1 | refine below_set ?_ GE129.out) | exact HB.out)⟩⟩
      subst c16
      have H1 : (if a4 < 0 then (impl_Guess.j0 k a0 l2 l3 a4 true a1) else (impl_Guess.j0 k a0 l2 l3 a4 (decide (a4 > 255)) a1)) = some r := by rw [if_pos rfl] at H; exact H
      clear H
      have H := H1
      clear H1
      by_cases c17 : a4 < 0
      · rw [if_pos c17] at H
        have c17b0 : decide (a4 < 0) = true := decide_eq_true c17
        clear c17
        have H' := Aside0.mk H
        clear H
        have hcz18_0 : w7.cell? ⟨gb129, 0, none⟩ = some (.int .i64 a1) := (blk_cell BK129.out 0).trans rfl
        have hfz18_0 := blk_frozen BK129.out 0
        go_wp2_with (first | (go_at_call 79; (with_reducible refine (impl_Guess_1.calls k _ _ l2 gb129 a1 true _ ?side3 ?side1 ?side2 A13.out).mono ?_); (case side1 => repeat (first | exact (Kd.C_below HR2.out HB.out) | (with_reducible refine Kd.C_alloc ?_ _) | (with_reducible refine Kd.C_drewN ?_ _) | (with_reducible refine Kd.C_drew ?_))); (case side2 => exact HC2.out); (case side3 => exact by (with_reducible repeat (first | refine blk_drewN ?_ _ | refine blk_drew ?_ | refine blk_alloc ?_ _)); exact BK129.out); rintro e w' ⟨rfl, ⟨nd, rfl⟩⟩) | (go_at_call 79; (with_reducible refine (impl_Guess_1.calls k _ _ l3 gb129 a1 true _ ?side3 ?side1 ?side2 A15.out).mono ?_); (case side1 => repeat (first | exact (Kd.C_below HR3.out (by repeat (first | (with_reducible first | exact HB.out | apply below_alloc | apply pw_below_drewN | apply below_drew1 | refine below_set ?_ GE129.out) | exact HB.out))) | (with_reducible refine Kd.C_alloc ?_ _) | (with_reducible refine Kd.C_drewN ?_ _) | (with_reducible refine Kd.C_drew ?_))); (case side2 => exact HC3.out); (case side3 => exact by (with_reducible repeat (first | refine blk_drewN ?_ _ | refine blk_drew ?_ | refine blk_alloc ?_ _)); exact BK129.out); rintro e w' ⟨rfl, ⟨nd, rfl⟩⟩))
        go_meet
        case rel => exact ⟨_, (true), (by first | rfl | (simp; done) | (simp [*]; done)), H', ⟨by first | omega | exact Nat.le_refl _⟩, ⟨by (with_reducible repeat (first | refine blk_drewN ?_ _ | refine blk_drew ?_ | refine blk_alloc ?_ _)); exact BK129.out⟩, ⟨by repeat (first | (with_reducible first | exact HB.out | apply below_alloc | apply pw_below_drewN | apply below_drew1 | refine below_set ?_ GE129.out) | exact HB.out)⟩⟩
      rw [if_neg c17] at H
      have c17b0 : decide (a4 < 0) = false := decide_eq_false c17
      clear c17
      have H' := Aside0.mk H
      clear H
      have hcz19_0 : w7.cell? ⟨gb129, 0, none⟩ = some (.int .i64 a1) := (blk_cell BK129.out 0).trans rfl
      have hfz19_0 := blk_frozen BK129.out 0
      go_wp2_with (first | (go_at_call 79; (with_reducible refine (impl_Guess_1.calls k _ _ l2 gb129 a1 true _ ?side3 ?side1 ?side2 A13.out).mono ?_); (case side1 => repeat (first | exact (Kd.C_below HR2.out HB.out) | (with_reducible refine Kd.C_alloc ?_ _) | (with_reducible refine Kd.C_drewN ?_ _) | (with_reducible refine Kd.C_drew ?_))); (case side2 => exact HC2.out); (case side3 => exact by (with_reducible repeat (first | refine blk_drewN ?_ _ | refine blk_drew ?_ | refine blk_alloc ?_ _)); exact BK129.out); rintro e w' ⟨rfl, ⟨nd, rfl⟩⟩) | (go_at_call 79; (with_reducible refine (impl_Guess_1.calls k _ _ l3 gb129 a1 true _ ?side3 ?side1 ?side2 A15.out).mono ?_); (case side1 => repeat (first | exact (Kd.C_below HR3.out (by repeat (first | (with_reducible first | exact HB.out | apply below_alloc | apply pw_below_drewN | apply below_drew1 | refine below_set ?_ GE129.out) | exact HB.out))) | (with_reducible refine Kd.C_alloc ?_ _) | (with_reducible refine Kd.C_drewN ?_ _) | (with_reducible refine Kd.C_drew ?_))); (case side2 => exact HC3.out); (case side3 => exact by (with_reducible repeat (first | refine blk_drewN ?_ _ | refine blk_drew ?_ | refine blk_alloc ?_ _)); exact BK129.out); rintro e w' ⟨rfl, ⟨nd, rfl⟩⟩))
      go_meet
      case rel => exact ⟨_, (decide (a4 > 255)), (by first | rfl | (simp; done) | (simp [*]; done)), H', ⟨by first | omega | exact Nat.le_refl _⟩, ⟨by (with_reducible repeat (first | refine blk_drewN ?_ _ | refine blk_drew ?_ | refine blk_alloc ?_ _)); exact BK129.out⟩, ⟨by repeat (first | (with_reducible first | exact HB.out | apply below_alloc | apply pw_below_drewN | apply below_drew1 | refine below_set ?_ GE129.out) | exact HB.out)⟩⟩
    rw [if_neg c8] at H
    have c8b0 : (a1 == 4) = false := beq_eq_false_iff_ne.mpr c8
    have c8b1 : (a1 != 4) = true := bne_iff_ne.mpr c8
    (first | rw [c8b0] | (simp only [i64_w, i32_w]; rw [c8b0]) | skip)
    by_cases c22 : a1 = 8
    rotate_left
    · rw [if_neg c22] at H
      have c22b0 : (a1 == 8) = false := beq_eq_false_iff_ne.mpr c22
      have c22b1 : (a1 != 8) = true := bne_iff_ne.mpr c22
      have H' := Aside0.mk H
      clear H
      have hcz36_0 : w7.cell? ⟨gb129, 0, none⟩ = some (.int .i64 a1) := (blk_cell BK129.out 0).trans rfl
      have hfz36_0 := blk_frozen BK129.out 0
      go_wp2
      go_meet
      case rel => exact ⟨_, (true), (by first | rfl | (simp; done) | (simp [*]; done)), H', ⟨by first | omega | exact Nat.le_refl _⟩, ⟨by (with_reducible repeat (first | refine blk_drewN ?_ _ | refine blk_drew ?_ | refine blk_alloc ?_ _)); exact BK129.out⟩, ⟨by repeat (first | (with_reducible first | exact HB.out | apply below_alloc | apply pw_below_drewN | apply below_drew1 | refine below_set ?_ GE129.out) | exact HB.out)⟩⟩
    rw [if_pos c22] at H
    have c22b0 : (a1 == 8) = true := beq_iff_eq.mpr c22
    have c22b1 : (a1 != 8) = false := bne_eq_false_iff_eq.mpr c22
    clear c22
    by_cases c23 : a0 < 0
    · rw [if_pos c23] at H
      have c23b0 : decide (a0 < 0) = true := decide_eq_true c23
      clear c23
      have H' := Aside0.mk H
      clear H
      have hcz24_0 : w7.cell? ⟨gb129, 0, none⟩ = some (.int .i64 a1) := (blk_cell BK129.out 0).trans rfl
      have hfz24_0 := blk_frozen BK129.out 0
      go_wp2
      go_meet
      case rel => exact ⟨_, (true), (by first | rfl | (simp; done) | (simp [*]; done)), H', ⟨by first | omega | exact Nat.le_refl _⟩, ⟨by (with_reducible repeat (first | refine blk_drewN ?_ _ | refine blk_drew ?_ | refine blk_alloc ?_ _)); exact BK129.out⟩, ⟨by repeat (first | (with_reducible first | exact HB.out | apply below_alloc | apply pw_below_drewN | apply below_drew1 | refine below_set ?_ GE129.out) | exact HB.out)⟩⟩
    rw [if_neg c23] at H
    have c23b0 : decide (a0 < 0) = false := decide_eq_false c23
    clear c23
    by_cases c25 : a0 > 3
    · rw [if_pos c25] at H
      have c25b0 : decide (3 < a0) = true := decide_eq_true c25
      clear c25
      have H' := Aside0.mk H
      clear H
      have hcz26_0 : w7.cell? ⟨gb129, 0, none⟩ = some (.int .i64 a1) := (blk_cell BK129.out 0).trans rfl
      have hfz26_0 := blk_frozen BK129.out 0
      go_wp2
      go_meet
      case rel => exact ⟨_, (true), (by first | rfl | (simp; done) | (simp [*]; done)), H', ⟨by first | omega | exact Nat.le_refl _⟩, ⟨by (with_reducible repeat (first | refine blk_drewN ?_ _ | refine blk_drew ?_ | refine blk_alloc ?_ _)); exact BK129.out⟩, ⟨by repeat (first | (with_reducible first | exact HB.out | apply below_alloc | apply pw_below_drewN | apply below_drew1 | refine below_set ?_ GE129.out) | exact HB.out)⟩⟩
    rw [if_neg c25] at H
    have c25b0 : decide (3 < a0) = false := decide_eq_false c25
    clear c25
    replace H := Option.bind_eq_some_iff.mp H
    obtain ⟨t132, A270, H⟩ := H
    replace H : (if t132 = true then ((impl_Guess_1.f k l3 a1).bind fun t133 => (if t133 = true then (if a4 < 0 then (impl_Guess.j0 k a0 l2 l3 a4 true a1) else (impl_Guess.j0 k a0 l2 l3 a4 (decide (a4 > 255)) a1)) else (impl_Guess.j0 k a0 l2 l3 a4 true a1))) else (impl_Guess.j0 k a0 l2 l3 a4 true a1)) = some r := H
    have A27 := Aside0.mk A270
    clear A270
    by_cases c28 : t132 = true
    rotate_left
    · replace c28 := Bool.eq_false_iff.mpr c28
      subst c28
      have H1 : (impl_Guess.j0 k a0 l2 l3 a4 true a1) = some r := by rw [if_neg (show ¬ (false = true) by decide)] at H; exact H
      clear H
      have H := H1
      clear H1
      have H' := Aside0.mk H
      clear H
      have hcz35_0 : w7.cell? ⟨gb129, 0, none⟩ = some (.int .i64 a1) := (blk_cell BK129.out 0).trans rfl
      have hfz35_0 := blk_frozen BK129.out 0
      go_wp2_with (first | (go_at_call 79; (with_reducible refine (impl_Guess_1.calls k _ _ l2 gb129 a1 false _ ?side3 ?side1 ?side2 A27.out).mono ?_); (case side1 => repeat (first | exact (Kd.C_below HR2.out HB.out) | (with_reducible refine Kd.C_alloc ?_ _) | (with_reducible refine Kd.C_drewN ?_ _) | (with_reducible refine Kd.C_drew ?_))); (case side2 => exact HC2.out); (case side3 => exact by (with_reducible repeat (first | refine blk_drewN ?_ _ | refine blk_drew ?_ | refine blk_alloc ?_ _)); exact BK129.out); rintro e w' ⟨rfl, ⟨nd, rfl⟩⟩))
      go_meet
      case rel => exact ⟨_, (true), (by first | rfl | (simp; done) | (simp [*]; done)), H', ⟨by first | omega | exact Nat.le_refl _⟩, ⟨by (with_reducible repeat (first | refine blk_drewN ?_ _ | refine blk_drew ?_ | refine blk_alloc ?_ _)); exact BK129.out⟩, ⟨by repeat (first | (with_reducible first | exact HB.out | apply below_alloc | apply pw_below_drewN | apply below_drew1 | refine below_set ?_ GE129.out) | exact HB.out)⟩⟩
    subst c28
    have H1 : ((impl_Guess_1.f k l3 a1).bind fun t133 => (if t133 = true then (if a4 < 0 then (impl_Guess.j0 k a0 l2 l3 a4 true a1) else (impl_Guess.j0 k a0 l2 l3 a4 (decide (a4 > 255)) a1)) else (impl_Guess.j0 k a0 l2 l3 a4 true a1))) = some r := by rw [if_pos rfl] at H; exact H
    clear H
    have H := H1
    clear H1
    replace H := Option.bind_eq_some_iff.mp H
    obtain ⟨t133, A290, H⟩ := H
    replace H : (if t133 = true then (if a4 < 0 then (impl_Guess.j0 k a0 l2 l3 a4 true a1) else (impl_Guess.j0 k a0 l2 l3 a4 (decide (a4 > 255)) a1)) else (impl_Guess.j0 k a0 l2 l3 a4 true a1)) = some r := H
    have A29 := Aside0.mk A290
    clear A290
    by_cases c30 : t133 = true
    rotate_left
    · replace c30 := Bool.eq_false_iff.mpr c30
      subst c30
      have H1 : (impl_Guess.j0 k a0 l2 l3 a4 true a1) = some r := by rw [if_neg (show ¬ (false = true) by decide)] at H; exact H
      clear H
      have H := H1
      clear H1
      have H' := Aside0.mk H
      clear H
      have hcz34_0 : w7.cell? ⟨gb129, 0, none⟩ = some (.int .i64 a1) := (blk_cell BK129.out 0).trans rfl
      have hfz34_0 := blk_frozen BK129.out 0
      go_wp2_with (first | (go_at_call 79; (with_reducible refine (impl_Guess_1.calls k _ _ l2 gb129 a1 true _ ?side3 ?side1 ?side2 A27.out).mono ?_); (case side1 => repeat (first | exact (Kd.C_below HR2.out HB.out) | (with_reducible refine Kd.C_alloc ?_ _) | (with_reducible refine Kd.C_drewN ?_ _) | (with_reducible refine Kd.C_drew ?_))); (case side2 => exact HC2.out); (case side3 => exact by (with_reducible repeat (first | refine blk_drewN ?_ _ | refine blk_drew ?_ | refine blk_alloc ?_ _)); exact BK129.out); rintro e w' ⟨rfl, ⟨nd, rfl⟩⟩) | (go_at_call 79; (with_reducible refine (impl_Guess_1.calls k _ _ l3 gb129 a1 false _ ?side3 ?side1 ?side2 A29.out).mono ?_); (case side1 => repeat (first | exact (Kd.C_below HR3.out (by repeat (first | (with_reducible first | exact HB.out | apply below_alloc | apply pw_below_drewN | apply below_drew1 | refine below_set ?_ GE129.out) | exact HB.out))) | (with_reducible refine Kd.C_alloc ?_ _) | (with_reducible refine Kd.C_drewN ?_ _) | (with_reducible refine Kd.C_drew ?_))); (case side2 => exact HC3.out); (case side3 => exact by (with_reducible repeat (first | refine blk_drewN ?_ _ | refine blk_drew ?_ | refine blk_alloc ?_ _)); exact BK129.out); rintro e w' ⟨rfl, ⟨nd, rfl⟩⟩))
      go_meet
      case rel => exact ⟨_, (true), (by first | rfl | (simp; done) | (simp [*]; done)), H', ⟨by first | omega | exact Nat.le_refl _⟩, ⟨by (with_reducible repeat (first | refine blk_drewN ?_ _ | refine blk_drew ?_ | refine blk_alloc ?_ _)); exact BK129.out⟩, ⟨by repeat (first | (with_reducible first | exact HB.out | apply below_alloc | apply pw_below_drewN | apply below_drew1 | refine below_set ?_ GE129.out) | exact HB.out)⟩⟩
    subst c30
    have H1 : (if a4 < 0 then (impl_Guess.j0 k a0 l2 l3 a4 true a1) else (impl_Guess.j0 k a0 l2 l3 a4 (decide (a4 > 255)) a1)) = some r := by rw [if_pos rfl] at H; exact H
    clear H
    have H := H1
    clear H1
    by_cases c31 : a4 < 0
    · rw [if_pos c31] at H
      have c31b0 : decide (a4 < 0) = true := decide_eq_true c31
      clear c31
      have H' := Aside0.mk H
      clear H
      have hcz32_0 : w7.cell? ⟨gb129, 0, none⟩ = some (.int .i64 a1) := (blk_cell BK129.out 0).trans rfl
      have hfz32_0 := blk_frozen BK129.out 0
      go_wp2_with (first | (go_at_call 79; (with_reducible refine (impl_Guess_1.calls k _ _ l2 gb129 a1 true _ ?side3 ?side1 ?side2 A27.out).mono ?_); (case side1 => repeat (first | exact (Kd.C_below HR2.out HB.out) | (with_reducible refine Kd.C_alloc ?_ _) | (with_reducible refine Kd.C_drewN ?_ _) | (with_reducible refine Kd.C_drew ?_))); (case side2 => exact HC2.out); (case side3 => exact by (with_reducible repeat (first | refine blk_drewN ?_ _ | refine blk_drew ?_ | refine blk_alloc ?_ _)); exact BK129.out); rintro e w' ⟨rfl, ⟨nd, rfl⟩⟩) | (go_at_call 79; (with_reducible refine (impl_Guess_1.calls k _ _ l3 gb129 a1 true _ ?side3 ?side1 ?side2 A29.out).mono ?_); (case side1 => repeat (first | exact (Kd.C_below HR3.out (by repeat (first | (with_reducible first | exact HB.out | apply below_alloc | apply pw_below_drewN | apply below_drew1 | refine below_set ?_ GE129.out) | exact HB.out))) | (with_reducible refine Kd.C_alloc ?_ _) | (with_reducible refine Kd.C_drewN ?_ _) | (with_reducible refine Kd.C_drew ?_))); (case side2 => exact HC3.out); (case side3 => exact by (with_reducible repeat (first | refine blk_drewN ?_ _ | refine blk_drew ?_ | refine blk_alloc ?_ _)); exact BK129.out); rintro e w' ⟨rfl, ⟨nd, rfl⟩⟩))
      go_meet
      case rel => exact ⟨_, (true), (by first | rfl | (simp; done) | (simp [*]; done)), H', ⟨by first | omega | exact Nat.le_refl _⟩, ⟨by (with_reducible repeat (first | refine blk_drewN ?_ _ | refine blk_drew ?_ | refine blk_alloc ?_ _)); exact BK129.out⟩, ⟨by repeat (first | (with_reducible first | exact HB.out | apply below_alloc | apply pw_below_drewN | apply below_drew1 | refine below_set ?_ GE129.out) | exact HB.out)⟩⟩
    rw [if_neg c31] at H
    have c31b0 : decide (a4 < 0) = false := decide_eq_false c31
    clear c31
    have H' := Aside0.mk H
    clear H
    have hcz33_0 : w7.cell? ⟨gb129, 0, none⟩ = some (.int .i64 a1) := (blk_cell BK129.out 0).trans rfl
    have hfz33_0 := blk_frozen BK129.out 0
    go_wp2_with (first | (go_at_call 79; (with_reducible refine (impl_Guess_1.calls k _ _ l2 gb129 a1 true _ ?side3 ?side1 ?side2 A27.out).mono ?_); (case side1 => repeat (first | exact (Kd.C_below HR2.out HB.out) | (with_reducible refine Kd.C_alloc ?_ _) | (with_reducible refine Kd.C_drewN ?_ _) | (with_reducible refine Kd.C_drew ?_))); (case side2 => exact HC2.out); (case side3 => exact by (with_reducible repeat (first | refine blk_drewN ?_ _ | refine blk_drew ?_ | refine blk_alloc ?_ _)); exact BK129.out); rintro e w' ⟨rfl, ⟨nd, rfl⟩⟩) | (go_at_call 79; (with_reducible refine (impl_Guess_1.calls k _ _ l3 gb129 a1 true _ ?side3 ?side1 ?side2 A29.out).mono ?_); (case side1 => repeat (first | exact (Kd.C_below HR3.out (by repeat (first | (with_reducible first | exact HB.out | apply below_alloc | apply pw_below_drewN | apply below_drew1 | refine below_set ?_ GE129.out) | exact HB.out))) | (with_reducible refine Kd.C_alloc ?_ _) | (with_reducible refine Kd.C_drewN ?_ _) | (with_reducible refine Kd.C_drew ?_))); (case side2 => exact HC3.out); (case side3 => exact by (with_reducible repeat (first | refine blk_drewN ?_ _ | refine blk_drew ?_ | refine blk_alloc ?_ _)); exact BK129.out); rintro e w' ⟨rfl, ⟨nd, rfl⟩⟩))
    go_meet
    case rel => exact ⟨_, (decide (a4 > 255)), (by first | rfl | (simp; done) | (simp [*]; done)), H', ⟨by first | omega | exact Nat.le_refl _⟩, ⟨by (with_reducible repeat (first | refine blk_drewN ?_ _ | refine blk_drew ?_ | refine blk_alloc ?_ _)); exact BK129.out⟩, ⟨by repeat (first | (with_reducible first | exact HB.out | apply below_alloc | apply pw_below_drewN | apply below_drew1 | refine below_set ?_ GE129.out) | exact HB.out)⟩⟩
  case rest =>
    clear HC6
    try clear c1
    try clear c2
    try clear p2
    try clear c3
    try clear c8
    try clear c8b0
    try clear c8b1
    try clear c9
    try clear c9b0
    try clear c11
    try clear c11b0
    try clear c14
    try clear c16
    try clear c17
    try clear c17b0
    try clear c22
    try clear c22b0
    try clear c22b1
    try clear c23
    try clear c23b0
    try clear c25
    try clear c25b0
    try clear c28
    try clear c29
    try clear c30
    try clear c31
    try clear c31b0
    try clear hcz10_0
    try clear hcz12_0
    try clear hcz18_0
    try clear hcz19_0
    try clear hcz20_0
    try clear hcz21_0
    try clear hcz24_0
    try clear hcz26_0
    try clear hcz32_0
    try clear hcz33_0
    try clear hcz34_0
    try clear hcz35_0
    try clear hcz36_0
    try clear hfz10_0
    try clear hfz12_0
    try clear hfz18_0
    try clear hfz19_0
    try clear hfz20_0
    try clear hfz21_0
    try clear hfz24_0
    try clear hfz26_0
    try clear hfz32_0
    try clear hfz33_0
    try clear hfz34_0
    try clear hfz35_0
    try clear hfz36_0
    obtain ⟨kq, x55_5, rfl, HA, HJ5, BK129, HB⟩ := hcut
    cases kq with
    | zero => exact absurd HA.out (by simp [impl_Guess.j0])
    | succ kj5 =>
      have H := HA.out
      clear HA
      simp only [impl_Guess.j0] at H
      by_cases c37 : x55_5 = true
      · subst c37
        have H1 : (some ([] : List Int)) = some r := by rw [if_pos rfl] at H; exact H
        clear H
        have H := H1
        clear H1
        obtain rfl := Option.some.inj H
        go_wp2
        go_ret
        exact ⟨_, by first | rfl | (simp [errW_none, errW_some] <;> rfl) | (simp [*, errW_none, errW_some] <;> rfl), by first | exact Kd.R_nil _ _ _ _ _ | exact Kd.N_nil _ _ _ _ _ | exact Kd.V_nil _ _ _ _ _ | exact Kd.Q_nil _ _ _ _ _ | exact Kd.S_nil _ _ _ _ _, by repeat (first | (with_reducible first | exact HB.out | apply below_alloc | apply pw_below_drewN | apply below_drew1 | refine below_set ?_ GE129.out) | exact HB.out)⟩
      replace c37 := Bool.eq_false_iff.mpr c37
      subst c37
      have H1 : (if a0 = 1 then (if (l2.length : Int) = 0 then (impl_Guess.j1 kj5 a0 l2 l3 a4 true a1) else (if a0 = 2 then (impl_Guess.j1 kj5 a0 l2 l3 a4 ((l3.length : Int) == 0) a1) else (if a0 = 3 then (impl_Guess.j1 kj5 a0 l2 l3 a4 ((l3.length : Int) == 0) a1) else (impl_Guess.j1 kj5 a0 l2 l3 a4 false a1)))) else (if a0 = 3 then (if (l2.length : Int) = 0 then (impl_Guess.j1 kj5 a0 l2 l3 a4 true a1) else (if a0 = 2 then (impl_Guess.j1 kj5 a0 l2 l3 a4 ((l3.length : Int) == 0) a1) else (impl_Guess.j1 kj5 a0 l2 l3 a4 ((l3.length : Int) == 0) a1))) else (if a0 = 2 then (impl_Guess.j1 kj5 a0 l2 l3 a4 ((l3.length : Int) == 0) a1) else (impl_Guess.j1 kj5 a0 l2 l3 a4 false a1)))) = some r := by rw [if_neg (show ¬ (false = true) by decide)] at H; exact H
      clear H
      have H := H1
      clear H1
      have HC38 := Aside0.mk H
      clear H
      go_upto_region 4 with (fail)
      go_cut [79] (fun v79 wc => ∃ (kq : Nat) (x79_37 : Bool), v79 = .bool x79_37 ∧ Aside0 (impl_Guess.j1 kq a0 l2 l3 a4 x79_37 a1 = some r) ∧ Aside0 (kq ≤ kj5) ∧ Aside0 (wc.heap[gb129]? = some (.cells #[.int .i64 a1] 3 (0, 0))) ∧ Aside0 (Below w.heap.size w wc))
      case first =>
        have H := HC38.out
        clear HC38
        by_cases c39 : a0 = 1
        · rw [if_pos c39] at H
          have c39b0 : (a0 == 1) = true := beq_iff_eq.mpr c39
          have c39b1 : (a0 != 1) = false := bne_eq_false_iff_eq.mpr c39
          clear c39
          (first | rw [c39b0] | (simp only [i64_w, i32_w]; rw [c39b0]) | skip)
          by_cases c40 : (l2.length : Int) = 0
          · rw [if_pos c40] at H
            have c40b0 : ((l2.length : Int) == 0) = true := beq_iff_eq.mpr c40
            have c40b1 : ((l2.length : Int) != 0) = false := bne_eq_false_iff_eq.mpr c40
            clear c40
            have H' := Aside0.mk H
            clear H
            go_wp2
            go_meet
            case rel => exact ⟨_, (true), (by first | rfl | (simp; done) | (simp [*]; done)), H', ⟨by have := HJ5.out; first | omega | exact Nat.le_refl _⟩, ⟨by (with_reducible repeat (first | refine blk_drewN ?_ _ | refine blk_drew ?_ | refine blk_alloc ?_ _)); exact BK129.out⟩, ⟨by repeat (first | (with_reducible first | exact HB.out | apply below_alloc | apply pw_below_drewN | apply below_drew1 | refine below_set ?_ GE129.out) | exact HB.out)⟩⟩
          rw [if_neg c40] at H
          have c40b0 : ((l2.length : Int) == 0) = false := beq_eq_false_iff_ne.mpr c40
          have c40b1 : ((l2.length : Int) != 0) = true := bne_iff_ne.mpr c40
          have c40b2 : ¬ (l2 = []) := fun h_ => c40 (by rw [h_]; rfl)
          by_cases c41 : a0 = 2
          · rw [if_pos c41] at H
            have c41b0 : (a0 == 2) = true := beq_iff_eq.mpr c41
            have c41b1 : (a0 != 2) = false := bne_eq_false_iff_eq.mpr c41
            clear c41
            have H' := Aside0.mk H
            clear H
            go_wp2
            go_meet
            case rel => exact ⟨_, (((l3.length : Int) == 0)), (by first | rfl | (simp; done) | (simp [*]; done)), H', ⟨by have := HJ5.out; first | omega | exact Nat.le_refl _⟩, ⟨by (with_reducible repeat (first | refine blk_drewN ?_ _ | refine blk_drew ?_ | refine blk_alloc ?_ _)); exact BK129.out⟩, ⟨by repeat (first | (with_reducible first | exact HB.out | apply below_alloc | apply pw_below_drewN | apply below_drew1 | refine below_set ?_ GE129.out) | exact HB.out)⟩⟩
          rw [if_neg c41] at H
          have c41b0 : (a0 == 2) = false := beq_eq_false_iff_ne.mpr c41
          have c41b1 : (a0 != 2) = true := bne_iff_ne.mpr c41
          by_cases c42 : a0 = 3
          rotate_left
          · rw [if_neg c42] at H
            have c42b0 : (a0 == 3) = false := beq_eq_false_iff_ne.mpr c42
            have c42b1 : (a0 != 3) = true := bne_iff_ne.mpr c42
            have H' := Aside0.mk H
            clear H
            go_wp2
            go_meet
            case rel => exact ⟨_, (false), (by first | rfl | (simp; done) | (simp [*]; done)), H', ⟨by have := HJ5.out; first | omega | exact Nat.le_refl _⟩, ⟨by (with_reducible repeat (first | refine blk_drewN ?_ _ | refine blk_drew ?_ | refine blk_alloc ?_ _)); exact BK129.out⟩, ⟨by repeat (first | (with_reducible first | exact HB.out | apply below_alloc | apply pw_below_drewN | apply below_drew1 | refine below_set ?_ GE129.out) | exact HB.out)⟩⟩
          rw [if_pos c42] at H
          have c42b0 : (a0 == 3) = true := beq_iff_eq.mpr c42
          have c42b1 : (a0 != 3) = false := bne_eq_false_iff_eq.mpr c42
          clear c42
          have H' := Aside0.mk H
          clear H
          go_wp2
          go_meet
          case rel => exact ⟨_, (((l3.length : Int) == 0)), (by first | rfl | (simp; done) | (simp [*]; done)), H', ⟨by have := HJ5.out; first | omega | exact Nat.le_refl _⟩, ⟨by (with_reducible repeat (first | refine blk_drewN ?_ _ | refine blk_drew ?_ | refine blk_alloc ?_ _)); exact BK129.out⟩, ⟨by repeat (first | (with_reducible first | exact HB.out | apply below_alloc | apply pw_below_drewN | apply below_drew1 | refine below_set ?_ GE129.out) | exact HB.out)⟩⟩
        rw [if_neg c39] at H
        have c39b0 : (a0 == 1) = false := beq_eq_false_iff_ne.mpr c39
        have c39b1 : (a0 != 1) = true := bne_iff_ne.mpr c39
        (first | rw [c39b0] | (simp only [i64_w, i32_w]; rw [c39b0]) | skip)
        by_cases c43 : a0 = 3
        rotate_left
        · rw [if_neg c43] at H
          have c43b0 : (a0 == 3) = false := beq_eq_false_iff_ne.mpr c43
          have c43b1 : (a0 != 3) = true := bne_iff_ne.mpr c43
          by_cases c46 : a0 = 2
          rotate_left
          · rw [if_neg c46] at H
            have c46b0 : (a0 == 2) = false := beq_eq_false_iff_ne.mpr c46
            have c46b1 : (a0 != 2) = true := bne_iff_ne.mpr c46
            have H' := Aside0.mk H
            clear H
            go_wp2
            go_meet
            case rel => exact ⟨_, (false), (by first | rfl | (simp; done) | (simp [*]; done)), H', ⟨by have := HJ5.out; first | omega | exact Nat.le_refl _⟩, ⟨by (with_reducible repeat (first | refine blk_drewN ?_ _ | refine blk_drew ?_ | refine blk_alloc ?_ _)); exact BK129.out⟩, ⟨by repeat (first | (with_reducible first | exact HB.out | apply below_alloc | apply pw_below_drewN | apply below_drew1 | refine below_set ?_ GE129.out) | exact HB.out)⟩⟩
          rw [if_pos c46] at H
          have c46b0 : (a0 == 2) = true := beq_iff_eq.mpr c46
          have c46b1 : (a0 != 2) = false := bne_eq_false_iff_eq.mpr c46
          clear c46
          have H' := Aside0.mk H
          clear H
          go_wp2
          go_meet
          case rel => exact ⟨_, (((l3.length : Int) == 0)), (by first | rfl | (simp; done) | (simp [*]; done)), H', ⟨by have := HJ5.out; first | omega | exact Nat.le_refl _⟩, ⟨by (with_reducible repeat (first | refine blk_drewN ?_ _ | refine blk_drew ?_ | refine blk_alloc ?_ _)); exact BK129.out⟩, ⟨by repeat (first | (with_reducible first | exact HB.out | apply below_alloc | apply pw_below_drewN | apply below_drew1 | refine below_set ?_ GE129.out) | exact HB.out)⟩⟩
        rw [if_pos c43] at H
        have c43b0 : (a0 == 3) = true := beq_iff_eq.mpr c43
        have c43b1 : (a0 != 3) = false := bne_eq_false_iff_eq.mpr c43
        clear c43
        by_cases c44 : (l2.length : Int) = 0
        · rw [if_pos c44] at H
          have c44b0 : ((l2.length : Int) == 0) = true := beq_iff_eq.mpr c44
          have c44b1 : ((l2.length : Int) != 0) = false := bne_eq_false_iff_eq.mpr c44
          clear c44
          have H' := Aside0.mk H
          clear H
          go_wp2
          go_meet
          case rel => exact ⟨_, (true), (by first | rfl | (simp; done) | (simp [*]; done)), H', ⟨by have := HJ5.out; first | omega | exact Nat.le_refl _⟩, ⟨by (with_reducible repeat (first | refine blk_drewN ?_ _ | refine blk_drew ?_ | refine blk_alloc ?_ _)); exact BK129.out⟩, ⟨by repeat (first | (with_reducible first | exact HB.out | apply below_alloc | apply pw_below_drewN | apply below_drew1 | refine below_set ?_ GE129.out) | exact HB.out)⟩⟩
        rw [if_neg c44] at H
        have c44b0 : ((l2.length : Int) == 0) = false := beq_eq_false_iff_ne.mpr c44
        have c44b1 : ((l2.length : Int) != 0) = true := bne_iff_ne.mpr c44
        have c44b2 : ¬ (l2 = []) := fun h_ => c44 (by rw [h_]; rfl)
        by_cases c45 : a0 = 2
        rotate_left
        · rw [if_neg c45] at H
          have c45b0 : (a0 == 2) = false := beq_eq_false_iff_ne.mpr c45
          have c45b1 : (a0 != 2) = true := bne_iff_ne.mpr c45
          have H' := Aside0.mk H
          clear H
          go_wp2
          go_meet
          case rel => exact ⟨_, (((l3.length : Int) == 0)), (by first | rfl | (simp; done) | (simp [*]; done)), H', ⟨by have := HJ5.out; first | omega | exact Nat.le_refl _⟩, ⟨by (with_reducible repeat (first | refine blk_drewN ?_ _ | refine blk_drew ?_ | refine blk_alloc ?_ _)); exact BK129.out⟩, ⟨by repeat (first | (with_reducible first | exact HB.out | apply below_alloc | apply pw_below_drewN | apply below_drew1 | refine below_set ?_ GE129.out) | exact HB.out)⟩⟩
        rw [if_pos c45] at H
        have c45b0 : (a0 == 2) = true := beq_iff_eq.mpr c45
        have c45b1 : (a0 != 2) = false := bne_eq_false_iff_eq.mpr c45
        clear c45
        have H' := Aside0.mk H
        clear H
        go_wp2
        go_meet
        case rel => exact ⟨_, (((l3.length : Int) == 0)), (by first | rfl | (simp; done) | (simp [*]; done)), H', ⟨by have := HJ5.out; first | omega | exact Nat.le_refl _⟩, ⟨by (with_reducible repeat (first | refine blk_drewN ?_ _ | refine blk_drew ?_ | refine blk_alloc ?_ _)); exact BK129.out⟩, ⟨by repeat (first | (with_reducible first | exact HB.out | apply below_alloc | apply pw_below_drewN | apply below_drew1 | refine below_set ?_ GE129.out) | exact HB.out)⟩⟩
      case rest =>
        clear HC38
        try clear c1
        try clear c2
        try clear p2
        try clear c3
        try clear c4
        try clear c8
        try clear c8b0
        try clear c8b1
        try clear c9
        try clear c9b0
        try clear c11
        try clear c11b0
        try clear c14
        try clear c16
        try clear c17
        try clear c17b0
        try clear c22
        try clear c22b0
        try clear c22b1
        try clear c23
        try clear c23b0
        try clear c25
        try clear c25b0
        try clear c28
        try clear c29
        try clear c30
        try clear c31
        try clear c31b0
        try clear c37
        try clear c39
        try clear c39b0
        try clear c39b1
        try clear c40
        try clear c40b0
        try clear c40b1
        try clear c40b2
        try clear c41
        try clear c41b0
        try clear c41b1
        try clear c42
        try clear c42b0
        try clear c42b1
        try clear c43
        try clear c43b0
        try clear c43b1
        try clear c44
        try clear c44b0
        try clear c44b1
        try clear c44b2
        try clear c45
        try clear c45b0
        try clear c45b1
        try clear c46
        try clear c46b0
        try clear c46b1
        try clear hcz10_0
        try clear hcz12_0
        try clear hcz18_0
        try clear hcz19_0
        try clear hcz20_0
        try clear hcz21_0
        try clear hcz24_0
        try clear hcz26_0
        try clear hcz32_0
        try clear hcz33_0
        try clear hcz34_0
        try clear hcz35_0
        try clear hcz36_0
        try clear hfz10_0
        try clear hfz12_0
        try clear hfz18_0
        try clear hfz19_0
        try clear hfz20_0
        try clear hfz21_0
        try clear hfz24_0
        try clear hfz26_0
        try clear hfz32_0
        try clear hfz33_0
        try clear hfz34_0
        try clear hfz35_0
        try clear hfz36_0
        try clear p2
        obtain ⟨kq, x79_37, rfl, HA, HJ37, BK129, HB⟩ := hcut
        cases kq with
        | zero => exact absurd HA.out (by simp [impl_Guess.j1])
        | succ kj37 =>
          have H := HA.out
          clear HA
          simp only [impl_Guess.j1] at H
          by_cases c47 : x79_37 = true
          · subst c47
            have H1 : (some ([] : List Int)) = some r := by rw [if_pos rfl] at H; exact H
            clear H
            have H := H1
            clear H1
            obtain rfl := Option.some.inj H
            go_wp2
            go_ret
            exact ⟨_, by first | rfl | (simp [errW_none, errW_some] <;> rfl) | (simp [*, errW_none, errW_some] <;> rfl), by first | exact Kd.R_nil _ _ _ _ _ | exact Kd.N_nil _ _ _ _ _ | exact Kd.V_nil _ _ _ _ _ | exact Kd.Q_nil _ _ _ _ _ | exact Kd.S_nil _ _ _ _ _, by repeat (first | (with_reducible first | exact HB.out | apply below_alloc | apply pw_below_drewN | apply below_drew1 | refine below_set ?_ GE129.out) | exact HB.out)⟩
          replace c47 := Bool.eq_false_iff.mpr c47
          subst c47
          have H1 : (impl_Guess.l0 kj37 a0 l2 l3 a4 0 (wrap64 ((l2.length : Int) + (l3.length : Int))) l2 (l2.length : Int) 0 a1) = some r := by rw [if_neg (show ¬ (false = true) by decide)] at H; exact H
          clear H
          have H := H1
          clear H1
          have H' := Aside0.mk H
          clear H
          go_wp2
          go_loopg [12, 87] kj37 (fun kq v12 v87 w' => ∃ (x12_3 : Int) (x87_3 : Int), v12 = .int .i64 x12_3 ∧ v87 = .int .i64 x87_3 ∧ Aside0 (impl_Guess.l0 kq a0 l2 l3 a4 x12_3 (wrap64 ((l2.length : Int) + (l3.length : Int))) l2 (l2.length : Int) x87_3 a1 = some r) ∧ Aside0 (kq ≤ kj37) ∧ Aside0 (w'.heap[gb129]? = some (.cells #[.int .i64 a1] 3 (0, 0))) ∧ Aside0 (Below w.heap.size w w'))
          case atStart => exact ⟨(0), (0), (by first | rfl | (simp; done) | (simp [*]; done)), (by first | rfl | (simp; done) | (simp [*]; done)), H', ⟨Nat.le_refl _⟩, ⟨by (with_reducible repeat (first | refine blk_drewN ?_ _ | refine blk_drew ?_ | refine blk_alloc ?_ _)); exact BK129.out⟩, ⟨by repeat (first | (with_reducible first | exact HB.out | apply below_alloc | apply pw_below_drewN | apply below_drew1 | refine below_set ?_ GE129.out) | exact HB.out)⟩⟩
          case round =>
            clear H'
            try clear c1
            try clear c2
            try clear p2
            try clear c3
            try clear c4
            try clear p6
            try clear c8
            try clear c8b0
            try clear c8b1
            try clear c9
            try clear c9b0
            try clear c11
            try clear c11b0
            try clear c14
            try clear c16
            try clear c17
            try clear c17b0
            try clear c22
            try clear c22b0
            try clear c22b1
            try clear c23
            try clear c23b0
            try clear c25
            try clear c25b0
            try clear c28
            try clear c29
            try clear c30
            try clear c31
            try clear c31b0
            try clear c37
            try clear c39
            try clear c39b0
            try clear c39b1
            try clear c40
            try clear c40b0
            try clear c40b1
            try clear c40b2
            try clear c41
            try clear c41b0
            try clear c41b1
            try clear c42
            try clear c42b0
            try clear c42b1
            try clear c43
            try clear c43b0
            try clear c43b1
            try clear c44
            try clear c44b0
            try clear c44b1
            try clear c44b2
            try clear c45
            try clear c45b0
            try clear c45b1
            try clear c46
            try clear c46b0
            try clear c46b1
            try clear c47
            try clear hcz10_0
            try clear hcz12_0
            try clear hcz18_0
            try clear hcz19_0
            try clear hcz20_0
            try clear hcz21_0
            try clear hcz24_0
            try clear hcz26_0
            try clear hcz32_0
            try clear hcz33_0
            try clear hcz34_0
            try clear hcz35_0
            try clear hcz36_0
            try clear hfz10_0
            try clear hfz12_0
            try clear hfz18_0
            try clear hfz19_0
            try clear hfz20_0
            try clear hfz21_0
            try clear hfz24_0
            try clear hfz26_0
            try clear hfz32_0
            try clear hfz33_0
            try clear hfz34_0
            try clear hfz35_0
            try clear hfz36_0
            try clear p2
            obtain ⟨x12_3, x87_3, rfl, rfl, HA, HK3, BK129, HB⟩ := hrel
            cases gk with
            | zero => exact absurd HA.out (by simp [impl_Guess.l0])
            | succ k3 =>
              have H := HA.out
              clear HA
              simp only [impl_Guess.l0] at H
              by_cases c48 : x87_3 < (l2.length : Int)
              · rw [if_pos c48] at H
                have c48b0 : decide (x87_3 < (l2.length : Int)) = true := decide_eq_true c48
                clear c48
                by_cases c49 : 0 ≤ x87_3
                rotate_left
                · rw [if_neg c49] at H
                  exact absurd H (by simp)
                rw [if_pos c49] at H
                have c49b0 : decide (0 ≤ x87_3) = true := decide_eq_true c49
                clear c49
                by_cases c50 : x87_3 < (l2.length : Int)
                rotate_left
                · rw [if_neg c50] at H
                  exact absurd H (by simp)
                rw [if_pos c50] at H
                have c50b0 : decide (x87_3 < (l2.length : Int)) = true := decide_eq_true c50
                clear c50
                have H' := Aside0.mk H
                clear H
                have p134 : 0 ≤ (x87_3 : Int) := of_decide_eq_true (by first | (with_reducible assumption) | assumption)
                have q134 : x87_3 < (l2.length : Int) := of_decide_eq_true (by first | (with_reducible assumption) | assumption)
                obtain ⟨ad134, e134, hx134_0⟩ := Kd.at_int HR2.out x87_3 p134 q134
                cases e134
                replace hx134_0 := (HB.out.cell (World.block_lt_of_cell? w _ hx134_0)).trans hx134_0
                replace p134 := eq_true p134
                replace q134 := eq_true q134
                go_wp2
                go_roundg k3
                case measure => have := HJ5.out; have := HJ37.out; have := HK3.out; omega
                case rel => exact ⟨(wrap64 (x12_3 + (rd l2 x87_3))), (wrap64 (x87_3 + 1)), (by first | rfl | (simp; done) | (simp [*]; done)), (by first | rfl | (simp; done) | (simp [*]; done)), H', ⟨by have := HJ5.out; have := HJ37.out; have := HK3.out; omega⟩, ⟨by (with_reducible repeat (first | refine blk_drewN ?_ _ | refine blk_drew ?_ | refine blk_alloc ?_ _)); exact BK129.out⟩, ⟨by repeat (first | (with_reducible first | exact HB.out | apply below_alloc | apply pw_below_drewN | apply below_drew1 | refine below_set ?_ GE129.out) | exact HB.out)⟩⟩
              rw [if_neg c48] at H
              have c48b0 : decide (x87_3 < (l2.length : Int)) = false := decide_eq_false c48
              clear c48
              have H' := Aside0.mk H
              clear H
              go_wp2
              go_loopg [12, 97] k3 (fun kq v12 v97 w' => ∃ (x12_4 : Int) (x97_4 : Int), v12 = .int .i64 x12_4 ∧ v97 = .int .i64 x97_4 ∧ Aside0 (impl_Guess.l1 kq a0 l2 l3 a4 x12_4 (wrap64 ((l2.length : Int) + (l3.length : Int))) l3 (l3.length : Int) x97_4 a1 = some r) ∧ Aside0 (kq ≤ k3) ∧ Aside0 (w'.heap[gb129]? = some (.cells #[.int .i64 a1] 3 (0, 0))) ∧ Aside0 (Below w.heap.size w w'))
              case atStart => exact ⟨(x12_3), (0), (by first | rfl | (simp; done) | (simp [*]; done)), (by first | rfl | (simp; done) | (simp [*]; done)), H', ⟨Nat.le_refl _⟩, ⟨by (with_reducible repeat (first | refine blk_drewN ?_ _ | refine blk_drew ?_ | refine blk_alloc ?_ _)); exact BK129.out⟩, ⟨by repeat (first | (with_reducible first | exact HB.out | apply below_alloc | apply pw_below_drewN | apply below_drew1 | refine below_set ?_ GE129.out) | exact HB.out)⟩⟩
              case round =>
                clear H'
                try clear c1
                try clear p1
                try clear q1
                try clear hx1
                try clear c2
                try clear p2
                try clear c3
                try clear c4
                try clear c5
                try clear p6
                try clear c8
                try clear c8b0
                try clear c8b1
                try clear c9
                try clear c9b0
                try clear c11
                try clear c11b0
                try clear p13
                try clear q13
                try clear hx13
                try clear c14
                try clear c16
                try clear c17
                try clear c17b0
                try clear c22
                try clear c22b0
                try clear c22b1
                try clear c23
                try clear c23b0
                try clear c25
                try clear c25b0
                try clear c28
                try clear c29
                try clear c30
                try clear c31
                try clear c31b0
                try clear c37
                try clear c39
                try clear c39b0
                try clear c39b1
                try clear c40
                try clear c40b0
                try clear c40b1
                try clear c40b2
                try clear c41
                try clear c41b0
                try clear c41b1
                try clear c42
                try clear c42b0
                try clear c42b1
                try clear c43
                try clear c43b0
                try clear c43b1
                try clear c44
                try clear c44b0
                try clear c44b1
                try clear c44b2
                try clear c45
                try clear c45b0
                try clear c45b1
                try clear c46
                try clear c46b0
                try clear c46b1
                try clear c47
                try clear c48
                try clear c48b0
                try clear c49
                try clear c49b0
                try clear c50
                try clear c50b0
                try clear hcz10_0
                try clear hcz12_0
                try clear hcz18_0
                try clear hcz19_0
                try clear hcz20_0
                try clear hcz21_0
                try clear hcz24_0
                try clear hcz26_0
                try clear hcz32_0
                try clear hcz33_0
                try clear hcz34_0
                try clear hcz35_0
                try clear hcz36_0
                try clear hfz10_0
                try clear hfz12_0
                try clear hfz18_0
                try clear hfz19_0
                try clear hfz20_0
                try clear hfz21_0
                try clear hfz24_0
                try clear hfz26_0
                try clear hfz32_0
                try clear hfz33_0
                try clear hfz34_0
                try clear hfz35_0
                try clear hfz36_0
                try clear hx134_0
                try clear p134
                try clear p2
                try clear p6
                try clear q134
                obtain ⟨x12_4, x97_4, rfl, rfl, HA, HK4, BK129, HB⟩ := hrel
                cases gk with
                | zero => exact absurd HA.out (by simp [impl_Guess.l1])
                | succ k4 =>
                  have H := HA.out
                  clear HA
                  simp only [impl_Guess.l1] at H
                  by_cases c51 : x97_4 < (l3.length : Int)
                  · rw [if_pos c51] at H
                    have c51b0 : decide (x97_4 < (l3.length : Int)) = true := decide_eq_true c51
                    clear c51
                    by_cases c52 : 0 ≤ x97_4
                    rotate_left
                    · rw [if_neg c52] at H
                      exact absurd H (by simp)
                    rw [if_pos c52] at H
                    have c52b0 : decide (0 ≤ x97_4) = true := decide_eq_true c52
                    clear c52
                    by_cases c53 : x97_4 < (l3.length : Int)
                    rotate_left
                    · rw [if_neg c53] at H
                      exact absurd H (by simp)
                    rw [if_pos c53] at H
                    have c53b0 : decide (x97_4 < (l3.length : Int)) = true := decide_eq_true c53
                    clear c53
                    have H' := Aside0.mk H
                    clear H
                    have p135 : 0 ≤ (x97_4 : Int) := of_decide_eq_true (by first | (with_reducible assumption) | assumption)
                    have q135 : x97_4 < (l3.length : Int) := of_decide_eq_true (by first | (with_reducible assumption) | assumption)
                    obtain ⟨ad135, e135, hx135_0⟩ := Kd.at_int HR3.out x97_4 p135 q135
                    cases e135
                    replace hx135_0 := (HB.out.cell (World.block_lt_of_cell? w _ hx135_0)).trans hx135_0
                    replace p135 := eq_true p135
                    replace q135 := eq_true q135
                    go_wp2
                    go_roundg k4
                    case measure => have := HJ5.out; have := HJ37.out; have := HK3.out; have := HK4.out; omega
                    case rel => exact ⟨(wrap64 (x12_4 + (rd l3 x97_4))), (wrap64 (x97_4 + 1)), (by first | rfl | (simp; done) | (simp [*]; done)), (by first | rfl | (simp; done) | (simp [*]; done)), H', ⟨by have := HJ5.out; have := HJ37.out; have := HK3.out; have := HK4.out; omega⟩, ⟨by (with_reducible repeat (first | refine blk_drewN ?_ _ | refine blk_drew ?_ | refine blk_alloc ?_ _)); exact BK129.out⟩, ⟨by repeat (first | (with_reducible first | exact HB.out | apply below_alloc | apply pw_below_drewN | apply below_drew1 | refine below_set ?_ GE129.out) | exact HB.out)⟩⟩
                  rw [if_neg c51] at H
                  have c51b0 : decide (x97_4 < (l3.length : Int)) = false := decide_eq_false c51
                  clear c51
                  have HC54 := Aside0.mk H
                  clear H
                  go_upto_if 106 with (fail)
                  go_cut [12] (fun v12 wc => ∃ (kq : Nat) (x12_53 : Int), v12 = .int .i64 x12_53 ∧ Aside0 (impl_Guess.j4 kq a0 l2 l3 a4 x12_53 a1 = some r) ∧ Aside0 (kq ≤ k4) ∧ Aside0 (wc.heap[gb129]? = some (.cells #[.int .i64 a1] 3 (0, 0))) ∧ Aside0 (Below w.heap.size w wc))
                  case first =>
                    have H := HC54.out
                    clear HC54
                    by_cases c55 : (wrap64 ((l2.length : Int) + (l3.length : Int))) = 0
                    · rw [if_pos c55] at H
                      have c55b0 : ((wrap64 ((l2.length : Int) + (l3.length : Int))) == 0) = true := beq_iff_eq.mpr c55
                      have c55b1 : ((wrap64 ((l2.length : Int) + (l3.length : Int))) != 0) = false := bne_eq_false_iff_eq.mpr c55
                      clear c55
                      (first | rw [c55b0] | (simp only [i64_w, i32_w]; rw [c55b0]) | skip)
                      have H' := Aside0.mk H
                      clear H
                      go_wp2
                      go_meet
                      case rel => exact ⟨_, (128), (by first | rfl | (simp; done) | (simp [*]; done)), H', ⟨by have := HJ5.out; have := HJ37.out; have := HK3.out; have := HK4.out; first | omega | exact Nat.le_refl _⟩, ⟨by (with_reducible repeat (first | refine blk_drewN ?_ _ | refine blk_drew ?_ | refine blk_alloc ?_ _)); exact BK129.out⟩, ⟨by repeat (first | (with_reducible first | exact HB.out | apply below_alloc | apply pw_below_drewN | apply below_drew1 | refine below_set ?_ GE129.out) | exact HB.out)⟩⟩
                    rw [if_neg c55] at H
                    have c55b0 : ((wrap64 ((l2.length : Int) + (l3.length : Int))) == 0) = false := beq_eq_false_iff_ne.mpr c55
                    have c55b1 : ((wrap64 ((l2.length : Int) + (l3.length : Int))) != 0) = true := bne_iff_ne.mpr c55
                    (first | rw [c55b0] | (simp only [i64_w, i32_w]; rw [c55b0]) | skip)
                    have H' := Aside0.mk H
                    clear H
                    go_wp2
                    go_meet
                    case rel => exact ⟨_, (wrap64 (Int.tdiv (wrap64 (x12_4 + (wrap64 (Int.tdiv (wrap64 ((l2.length : Int) + (l3.length : Int))) 2)))) (wrap64 ((l2.length : Int) + (l3.length : Int))))), (by first | rfl | (simp; done) | (simp [*]; done)), H', ⟨by have := HJ5.out; have := HJ37.out; have := HK3.out; have := HK4.out; first | omega | exact Nat.le_refl _⟩, ⟨by (with_reducible repeat (first | refine blk_drewN ?_ _ | refine blk_drew ?_ | refine blk_alloc ?_ _)); exact BK129.out⟩, ⟨by repeat (first | (with_reducible first | exact HB.out | apply below_alloc | apply pw_below_drewN | apply below_drew1 | refine below_set ?_ GE129.out) | exact HB.out)⟩⟩
                  case rest =>
                    clear HC54
                    try clear c1
                    try clear p1
                    try clear q1
                    try clear hx1
                    try clear c2
                    try clear p2
                    try clear c3
                    try clear c4
                    try clear c5
                    try clear p6
                    try clear c8
                    try clear c8b0
                    try clear c8b1
                    try clear c9
                    try clear c9b0
                    try clear c11
                    try clear c11b0
                    try clear p13
                    try clear q13
                    try clear hx13
                    try clear c14
                    try clear c16
                    try clear c17
                    try clear c17b0
                    try clear c22
                    try clear c22b0
                    try clear c22b1
                    try clear c23
                    try clear c23b0
                    try clear c25
                    try clear c25b0
                    try clear c28
                    try clear c29
                    try clear c30
                    try clear c31
                    try clear c31b0
                    try clear c37
                    try clear c39
                    try clear c39b0
                    try clear c39b1
                    try clear c40
                    try clear c40b0
                    try clear c40b1
                    try clear c40b2
                    try clear c41
                    try clear c41b0
                    try clear c41b1
                    try clear c42
                    try clear c42b0
                    try clear c42b1
                    try clear c43
                    try clear c43b0
                    try clear c43b1
                    try clear c44
                    try clear c44b0
                    try clear c44b1
                    try clear c44b2
                    try clear c45
                    try clear c45b0
                    try clear c45b1
                    try clear c46
                    try clear c46b0
                    try clear c46b1
                    try clear c47
                    try clear c48
                    try clear c48b0
                    try clear c49
                    try clear c49b0
                    try clear c50
                    try clear c50b0
                    try clear c51
                    try clear c51b0
                    try clear c52
                    try clear c52b0
                    try clear c53
                    try clear c53b0
                    try clear c55
                    try clear c55b0
                    try clear c55b1
                    try clear hcz10_0
                    try clear hcz12_0
                    try clear hcz18_0
                    try clear hcz19_0
                    try clear hcz20_0
                    try clear hcz21_0
                    try clear hcz24_0
                    try clear hcz26_0
                    try clear hcz32_0
                    try clear hcz33_0
                    try clear hcz34_0
                    try clear hcz35_0
                    try clear hcz36_0
                    try clear hfz10_0
                    try clear hfz12_0
                    try clear hfz18_0
                    try clear hfz19_0
                    try clear hfz20_0
                    try clear hfz21_0
                    try clear hfz24_0
                    try clear hfz26_0
                    try clear hfz32_0
                    try clear hfz33_0
                    try clear hfz34_0
                    try clear hfz35_0
                    try clear hfz36_0
                    try clear hx134_0
                    try clear hx135_0
                    try clear p1
                    try clear p13
                    try clear p134
                    try clear p135
                    try clear p2
                    try clear p6
                    try clear q1
                    try clear q13
                    try clear q134
                    try clear q135
                    obtain ⟨kq, x12_53, rfl, HA, HJ53, BK129, HB⟩ := hcut
                    cases kq with
                    | zero => exact absurd HA.out (by simp [impl_Guess.j4])
                    | succ kj53 =>
                      have H := HA.out
                      clear HA
                      simp only [impl_Guess.j4] at H
                      have H' := Aside0.mk H
                      clear H
                      have hcz56_0 : wc.cell? ⟨gb129, 0, none⟩ = some (.int .i64 a1) := (blk_cell BK129.out 0).trans rfl
                      have hfz56_0 := blk_frozen BK129.out 0
                      go_wp2
                      go_loopg [18, 114] kj53 (fun kq v18 v114 w' => ∃ (x18_6 : List Int) (x114_6 : Int), v114 = .int .i64 x114_6 ∧ Aside0 (impl_Guess.l2 kq a0 l2 l3 a4 x12_53 x18_6 a1 x114_6 a1 = some r) ∧ Aside0 (kq ≤ kj53) ∧ Aside0 (Kd.R (Kd.int .i64) 3 w' w.heap.size (fun k_ => k_ ≠ gb129) v18 x18_6) ∧ Aside0 (w'.heap[gb129]? = some (.cells #[.int .i64 a1] 3 (0, 0))) ∧ Aside0 (Below w.heap.size w w'))
                      case atStart => exact ⟨(([] : List Int)), (0), (by first | rfl | (simp; done) | (simp [*]; done)), H', ⟨Nat.le_refl _⟩, ⟨by first | exact Kd.R_nil _ _ _ _ _ | exact Kd.N_nil _ _ _ _ _ | exact Kd.V_nil _ _ _ _ _ | exact Kd.Q_nil _ _ _ _ _ | exact Kd.S_nil _ _ _ _ _⟩, ⟨by (with_reducible repeat (first | refine blk_drewN ?_ _ | refine blk_drew ?_ | refine blk_alloc ?_ _)); exact BK129.out⟩, ⟨by repeat (first | (with_reducible first | exact HB.out | apply below_alloc | apply pw_below_drewN | apply below_drew1 | refine below_set ?_ GE129.out) | exact HB.out)⟩⟩
                      case round =>
                        clear H'
                        try clear c1
                        try clear p1
                        try clear q1
                        try clear hx1
                        try clear c2
                        try clear p2
                        try clear c3
                        try clear c4
                        try clear c5
                        try clear p6
                        try clear c8
                        try clear c8b0
                        try clear c8b1
                        try clear c9
                        try clear c9b0
                        try clear c11
                        try clear c11b0
                        try clear p13
                        try clear q13
                        try clear hx13
                        try clear c14
                        try clear c16
                        try clear c17
                        try clear c17b0
                        try clear c22
                        try clear c22b0
                        try clear c22b1
                        try clear c23
                        try clear c23b0
                        try clear c25
                        try clear c25b0
                        try clear c28
                        try clear c29
                        try clear c30
                        try clear c31
                        try clear c31b0
                        try clear c37
                        try clear c39
                        try clear c39b0
                        try clear c39b1
                        try clear c40
                        try clear c40b0
                        try clear c40b1
                        try clear c40b2
                        try clear c41
                        try clear c41b0
                        try clear c41b1
                        try clear c42
                        try clear c42b0
                        try clear c42b1
                        try clear c43
                        try clear c43b0
                        try clear c43b1
                        try clear c44
                        try clear c44b0
                        try clear c44b1
                        try clear c44b2
                        try clear c45
                        try clear c45b0
                        try clear c45b1
                        try clear c46
                        try clear c46b0
                        try clear c46b1
                        try clear c47
                        try clear c48
                        try clear c48b0
                        try clear c49
                        try clear c49b0
                        try clear c50
                        try clear c50b0
                        try clear c51
                        try clear c51b0
                        try clear c52
                        try clear c52b0
                        try clear c53
                        try clear c53b0
                        try clear c55
                        try clear c55b0
                        try clear c55b1
                        try clear hcz10_0
                        try clear hcz12_0
                        try clear hcz18_0
                        try clear hcz19_0
                        try clear hcz20_0
                        try clear hcz21_0
                        try clear hcz24_0
                        try clear hcz26_0
                        try clear hcz32_0
                        try clear hcz33_0
                        try clear hcz34_0
                        try clear hcz35_0
                        try clear hcz36_0
                        try clear hcz56_0
                        try clear hfz10_0
                        try clear hfz12_0
                        try clear hfz18_0
                        try clear hfz19_0
                        try clear hfz20_0
                        try clear hfz21_0
                        try clear hfz24_0
                        try clear hfz26_0
                        try clear hfz32_0
                        try clear hfz33_0
                        try clear hfz34_0
                        try clear hfz35_0
                        try clear hfz36_0
                        try clear hfz56_0
                        try clear hx134_0
                        try clear hx135_0
                        try clear p1
                        try clear p13
                        try clear p134
                        try clear p135
                        try clear p2
                        try clear p6
                        try clear q1
                        try clear q13
                        try clear q134
                        try clear q135
                        obtain ⟨x18_6, x114_6, rfl, HA, HK6, HO_18, BK129, HB⟩ := hrel
                        cases gk with
                        | zero => exact absurd HA.out (by simp [impl_Guess.l2])
                        | succ k6 =>
                          have H := HA.out
                          clear HA
                          simp only [impl_Guess.l2] at H
                          by_cases c57 : x114_6 < a1
                          rotate_left
                          · rw [if_neg c57] at H
                            have c57b0 : decide (x114_6 < a1) = false := decide_eq_false c57
                            clear c57
                            obtain rfl := Option.some.inj H
                            go_wp2
                            go_ret
                            exact ⟨_, by first | rfl | (simp [errW_none, errW_some] <;> rfl) | (simp [*, errW_none, errW_some] <;> rfl), by (with_reducible repeat (first | apply Kd.R_alloc | apply Kd.R_drewN | apply Kd.R_drew)); exact Kd.R_mono HO_18.out (fun _ hk => trivial), by repeat (first | (with_reducible first | exact HB.out | apply below_alloc | apply pw_below_drewN | apply below_drew1 | refine below_set ?_ GE129.out) | exact HB.out)⟩
                          rw [if_pos c57] at H
                          have c57b0 : decide (x114_6 < a1) = true := decide_eq_true c57
                          clear c57
                          have H' := Aside0.mk H
                          clear H
                          have hcz58_0 : wr.cell? ⟨gb129, 0, none⟩ = some (.int .i64 a1) := (blk_cell BK129.out 0).trans rfl
                          have hfz58_0 := blk_frozen BK129.out 0
                          go_wp2
                          go_loopg [18, 118] k6 (fun kq v18 v118 w' => ∃ (x18_7 : List Int) (x118_7 : Int), v118 = .int .i64 x118_7 ∧ Aside0 (impl_Guess.l3 kq a0 l2 l3 a4 x12_53 x18_7 x114_6 a1 x114_6 a1 x118_7 a1 = some r) ∧ Aside0 (kq ≤ k6) ∧ Aside0 (Kd.R (Kd.int .i64) 3 w' w.heap.size (fun k_ => k_ ≠ gb129) v18 x18_7) ∧ Aside0 (w'.heap[gb129]? = some (.cells #[.int .i64 a1] 3 (0, 0))) ∧ Aside0 (Below w.heap.size w w'))
                          case atStart => exact ⟨(x18_6), (0), (by first | rfl | (simp; done) | (simp [*]; done)), H', ⟨Nat.le_refl _⟩, ⟨by (with_reducible repeat (first | apply Kd.R_alloc | apply Kd.R_drewN | apply Kd.R_drew)); exact HO_18.out⟩, ⟨by (with_reducible repeat (first | refine blk_drewN ?_ _ | refine blk_drew ?_ | refine blk_alloc ?_ _)); exact BK129.out⟩, ⟨by repeat (first | (with_reducible first | exact HB.out | apply below_alloc | apply pw_below_drewN | apply below_drew1 | refine below_set ?_ GE129.out) | exact HB.out)⟩⟩
                          case round =>
                            clear H'
                            try clear c1
                            try clear p1
                            try clear q1
                            try clear hx1
                            try clear c2
                            try clear p2
                            try clear c3
                            try clear c4
                            try clear c5
                            try clear p6
                            try clear c8
                            try clear c8b0
                            try clear c8b1
                            try clear c9
                            try clear c9b0
                            try clear c11
                            try clear c11b0
                            try clear p13
                            try clear q13
                            try clear hx13
                            try clear c14
                            try clear c16
                            try clear c17
                            try clear c17b0
                            try clear c22
                            try clear c22b0
                            try clear c22b1
                            try clear c23
                            try clear c23b0
                            try clear c25
                            try clear c25b0
                            try clear c28
                            try clear c29
                            try clear c30
                            try clear c31
                            try clear c31b0
                            try clear c37
                            try clear c39
                            try clear c39b0
                            try clear c39b1
                            try clear c40
                            try clear c40b0
                            try clear c40b1
                            try clear c40b2
                            try clear c41
                            try clear c41b0
                            try clear c41b1
                            try clear c42
                            try clear c42b0
                            try clear c42b1
                            try clear c43
                            try clear c43b0
                            try clear c43b1
                            try clear c44
                            try clear c44b0
                            try clear c44b1
                            try clear c44b2
                            try clear c45
                            try clear c45b0
                            try clear c45b1
                            try clear c46
                            try clear c46b0
                            try clear c46b1
                            try clear c47
                            try clear c48
                            try clear c48b0
                            try clear c49
                            try clear c49b0
                            try clear c50
                            try clear c50b0
                            try clear c51
                            try clear c51b0
                            try clear c52
                            try clear c52b0
                            try clear c53
                            try clear c53b0
                            try clear c55
                            try clear c55b0
                            try clear c55b1
                            try clear c57
                            try clear c57b0
                            try clear hcz10_0
                            try clear hcz12_0
                            try clear hcz18_0
                            try clear hcz19_0
                            try clear hcz20_0
                            try clear hcz21_0
                            try clear hcz24_0
                            try clear hcz26_0
                            try clear hcz32_0
                            try clear hcz33_0
                            try clear hcz34_0
                            try clear hcz35_0
                            try clear hcz36_0
                            try clear hcz56_0
                            try clear hcz58_0
                            try clear hfz10_0
                            try clear hfz12_0
                            try clear hfz18_0
                            try clear hfz19_0
                            try clear hfz20_0
                            try clear hfz21_0
                            try clear hfz24_0
                            try clear hfz26_0
                            try clear hfz32_0
                            try clear hfz33_0
                            try clear hfz34_0
                            try clear hfz35_0
                            try clear hfz36_0
                            try clear hfz56_0
                            try clear hfz58_0
                            try clear hx134_0
                            try clear hx135_0
                            try clear p1
                            try clear p13
                            try clear p134
                            try clear p135
                            try clear p2
                            try clear p6
                            try clear q1
                            try clear q13
                            try clear q134
                            try clear q135
                            obtain ⟨x18_7, x118_7, rfl, HA, HK7, HO_18, BK129, HB⟩ := hrel
                            cases gk with
                            | zero => exact absurd HA.out (by simp [impl_Guess.l3])
                            | succ k7 =>
                              have H := HA.out
                              clear HA
                              simp only [impl_Guess.l3] at H
                              by_cases c59 : x118_7 < a1
                              rotate_left
                              · rw [if_neg c59] at H
                                have c59b0 : decide (x118_7 < a1) = false := decide_eq_false c59
                                clear c59
                                have H' := Aside0.mk H
                                clear H
                                go_wp2
                                go_roundg k7
                                case measure => have := HJ5.out; have := HJ37.out; have := HK3.out; have := HK4.out; have := HJ53.out; have := HK6.out; have := HK7.out; omega
                                case rel => exact ⟨(x18_7), (wrap64 (x114_6 + 1)), (by first | rfl | (simp; done) | (simp [*]; done)), H', ⟨by have := HJ5.out; have := HJ37.out; have := HK3.out; have := HK4.out; have := HJ53.out; have := HK6.out; have := HK7.out; omega⟩, ⟨by (with_reducible repeat (first | apply Kd.R_alloc | apply Kd.R_drewN | apply Kd.R_drew)); exact HO_18.out⟩, ⟨by (with_reducible repeat (first | refine blk_drewN ?_ _ | refine blk_drew ?_ | refine blk_alloc ?_ _)); exact BK129.out⟩, ⟨by repeat (first | (with_reducible first | exact HB.out | apply below_alloc | apply pw_below_drewN | apply below_drew1 | refine below_set ?_ GE129.out) | exact HB.out)⟩⟩
                              rw [if_pos c59] at H
                              have c59b0 : decide (x118_7 < a1) = true := decide_eq_true c59
                              clear c59
                              by_cases c60 : a0 = 0
                              · rw [if_pos c60] at H
                                have c60b0 : (a0 == 0) = true := beq_iff_eq.mpr c60
                                have c60b1 : (a0 != 0) = false := bne_eq_false_iff_eq.mpr c60
                                clear c60
                                by_cases c61 : x18_7.length < 17592186044416
                                rotate_left
                                · rw [if_neg c61] at H
                                  exact absurd H (by simp)
                                rw [if_pos c61] at H
                                have LMc61 := Aside0.mk c61
                                clear c61
                                obtain ⟨y136, hy136⟩ : ∃ y_ : List Int, y_ = (x18_7 ++ [x12_53]) := ⟨_, rfl⟩
                                replace H : (impl_Guess.l3 k7 a0 l2 l3 a4 x12_53 y136 x114_6 a1 x114_6 a1 (wrap64 (x118_7 + 1)) a1) = some r := by first | (rw [hy136]; with_reducible exact H) | (have H2_ := (Option.bind_some _ _).symm.trans H; rw [hy136]; with_reducible exact H2_) | (have H2_ := (Option.bind_some _ _).symm.trans H; with_reducible exact H2_) | with_reducible exact H | (rw [hy136]; exact H) | exact H
                                have Ny136 := Aside0.mk hy136
                                clear hy136
                                have H' := Aside0.mk H
                                clear H
                                go_wp2_with (first | ((with_reducible refine gate_builtin (b := .append) (xs := #[.tmp 124, .tmp 126]) rfl ?_); (try (refine gate_guard (by rfl) ?_; dsimp only)); at_builtin; refine Kd.R_append (Kd.int .i64) (w0 := w) w.heap.size rfl (.tmp 124) (.tmp 126) 41 3 (.int .i64 0) 8 rfl Try.underlying41 info3 rfl (by decide) (by omega) u18 x18_7 x12_53 [.int .i64 x12_53] (fun k_ => k_ ≠ gb129) (fun _ => False) rfl rfl ?aP (fun _ hk => hk.elim) ?aF ?aO ?aB ?aS ?aL ?_; (case aP => exact rfl); (case aB => exact (by repeat (first | (with_reducible first | exact HB.out | apply below_alloc | apply pw_below_drewN | apply below_drew1 | refine below_set ?_ GE129.out) | exact HB.out))); (case aF => exact (fun k_ hk => Kd.freshB (g := gb129) (o := .cells #[.int .i64 a1] 3 (0, 0)) (by (with_reducible repeat (first | refine blk_drewN ?_ _ | refine blk_drew ?_ | refine blk_alloc ?_ _)); exact BK129.out) k_ hk)); (case aO => exact (by (with_reducible repeat (first | apply Kd.R_alloc | apply Kd.R_drewN | apply Kd.R_drew)); exact HO_18.out)); (case aS => exact (below_size (by repeat (first | (with_reducible first | exact HB.out | apply below_alloc | apply pw_below_drewN | apply below_drew1 | refine below_set ?_ GE129.out) | exact HB.out)))); (case aL => have := LMc61.out; omega); intro v137 w62 ho hb hg hat; rw [← Ny136.out] at ho; have n0_ := Aside0.mk (blk_grown (g := gb129) (o := .cells #[.int .i64 a1] 3 (0, 0)) (by (with_reducible repeat (first | refine blk_drewN ?_ _ | refine blk_drew ?_ | refine blk_alloc ?_ _)); exact BK129.out) hg (Kd.R_away HO_18.out (fun _ hk => hk))); have n1_ := Aside0.mk (hb); have n2_ := Aside0.mk (ho); clear BK129; clear HB; clear HO_18; have BK129 := n0_; have HB := n1_; have HO138 := n2_; clear n0_ n1_ n2_; clear ho hb hg hat))
                                go_roundg k7
                                case measure => have := HJ5.out; have := HJ37.out; have := HK3.out; have := HK4.out; have := HJ53.out; have := HK6.out; have := HK7.out; omega
                                case rel => exact ⟨(y136), (wrap64 (x118_7 + 1)), (by first | rfl | (simp; done) | (simp [*]; done)), H', ⟨by have := HJ5.out; have := HJ37.out; have := HK3.out; have := HK4.out; have := HJ53.out; have := HK6.out; have := HK7.out; omega⟩, ⟨by (with_reducible repeat (first | apply Kd.R_alloc | apply Kd.R_drewN | apply Kd.R_drew)); exact HO138.out⟩, ⟨by (with_reducible repeat (first | refine blk_drewN ?_ _ | refine blk_drew ?_ | refine blk_alloc ?_ _)); exact BK129.out⟩, ⟨by repeat (first | (with_reducible first | exact HB.out | apply below_alloc | apply pw_below_drewN | apply below_drew1 | refine below_set ?_ GE129.out) | exact HB.out)⟩⟩
                              rw [if_neg c60] at H
                              have c60b0 : (a0 == 0) = false := beq_eq_false_iff_ne.mpr c60
                              have c60b1 : (a0 != 0) = true := bne_iff_ne.mpr c60
                              by_cases c63 : a0 = 1
                              · rw [if_pos c63] at H
                                have c63b0 : (a0 == 1) = true := beq_iff_eq.mpr c63
                                have c63b1 : (a0 != 1) = false := bne_eq_false_iff_eq.mpr c63
                                clear c63
                                by_cases c64 : 0 ≤ x114_6
                                rotate_left
                                · rw [if_neg c64] at H
                                  exact absurd H (by simp)
                                rw [if_pos c64] at H
                                have c64b0 : decide (0 ≤ x114_6) = true := decide_eq_true c64
                                clear c64
                                by_cases c65 : x114_6 < (l2.length : Int)
                                rotate_left
                                · rw [if_neg c65] at H
                                  exact absurd H (by simp)
                                rw [if_pos c65] at H
                                have c65b0 : decide (x114_6 < (l2.length : Int)) = true := decide_eq_true c65
                                clear c65
                                by_cases c66 : x18_7.length < 17592186044416
                                rotate_left
                                · rw [if_neg c66] at H
                                  exact absurd H (by simp)
                                rw [if_pos c66] at H
                                have LMc66 := Aside0.mk c66
                                clear c66
                                obtain ⟨y140, hy140⟩ : ∃ y_ : List Int, y_ = (x18_7 ++ [rd l2 x114_6]) := ⟨_, rfl⟩
                                replace H : (impl_Guess.l3 k7 a0 l2 l3 a4 x12_53 y140 x114_6 a1 x114_6 a1 (wrap64 (x118_7 + 1)) a1) = some r := by first | (rw [hy140]; with_reducible exact H) | (have H2_ := (Option.bind_some _ _).symm.trans H; rw [hy140]; with_reducible exact H2_) | (have H2_ := (Option.bind_some _ _).symm.trans H; with_reducible exact H2_) | with_reducible exact H | (rw [hy140]; exact H) | exact H
                                have Ny140 := Aside0.mk hy140
                                clear hy140
                                have H' := Aside0.mk H
                                clear H
                                have p139 : 0 ≤ (x114_6 : Int) := of_decide_eq_true (by first | (with_reducible assumption) | assumption)
                                have q139 : x114_6 < (l2.length : Int) := of_decide_eq_true (by first | (with_reducible assumption) | assumption)
                                obtain ⟨ad139, e139, hx139_0⟩ := Kd.at_int HR2.out x114_6 p139 q139
                                cases e139
                                replace hx139_0 := (HB.out.cell (World.block_lt_of_cell? w _ hx139_0)).trans hx139_0
                                replace p139 := eq_true p139
                                replace q139 := eq_true q139
                                go_wp2_with (first | ((with_reducible refine gate_builtin (b := .append) (xs := #[.tmp 130, .tmp 135]) rfl ?_); (try (refine gate_guard (by rfl) ?_; dsimp only)); at_builtin; refine Kd.R_append (Kd.int .i64) (w0 := w) w.heap.size rfl (.tmp 130) (.tmp 135) 41 3 (.int .i64 0) 8 rfl Try.underlying41 info3 rfl (by decide) (by omega) u18 x18_7 (rd l2 x114_6) [.int .i64 (rd l2 x114_6)] (fun k_ => k_ ≠ gb129) (fun _ => False) rfl rfl ?aP (fun _ hk => hk.elim) ?aF ?aO ?aB ?aS ?aL ?_; (case aP => exact rfl); (case aB => exact (by repeat (first | (with_reducible first | exact HB.out | apply below_alloc | apply pw_below_drewN | apply below_drew1 | refine below_set ?_ GE129.out) | exact HB.out))); (case aF => exact (fun k_ hk => Kd.freshB (g := gb129) (o := .cells #[.int .i64 a1] 3 (0, 0)) (by (with_reducible repeat (first | refine blk_drewN ?_ _ | refine blk_drew ?_ | refine blk_alloc ?_ _)); exact BK129.out) k_ hk)); (case aO => exact (by (with_reducible repeat (first | apply Kd.R_alloc | apply Kd.R_drewN | apply Kd.R_drew)); exact HO_18.out)); (case aS => exact (below_size (by repeat (first | (with_reducible first | exact HB.out | apply below_alloc | apply pw_below_drewN | apply below_drew1 | refine below_set ?_ GE129.out) | exact HB.out)))); (case aL => have := LMc66.out; omega); intro v141 w67 ho hb hg hat; rw [← Ny140.out] at ho; have n0_ := Aside0.mk (blk_grown (g := gb129) (o := .cells #[.int .i64 a1] 3 (0, 0)) (by (with_reducible repeat (first | refine blk_drewN ?_ _ | refine blk_drew ?_ | refine blk_alloc ?_ _)); exact BK129.out) hg (Kd.R_away HO_18.out (fun _ hk => hk))); have n1_ := Aside0.mk (hb); have n2_ := Aside0.mk (ho); clear BK129; clear HB; clear HO_18; have BK129 := n0_; have HB := n1_; have HO142 := n2_; clear n0_ n1_ n2_; clear ho hb hg hat))
                                go_roundg k7
                                case measure => have := HJ5.out; have := HJ37.out; have := HK3.out; have := HK4.out; have := HJ53.out; have := HK6.out; have := HK7.out; omega
                                case rel => exact ⟨(y140), (wrap64 (x118_7 + 1)), (by first | rfl | (simp; done) | (simp [*]; done)), H', ⟨by have := HJ5.out; have := HJ37.out; have := HK3.out; have := HK4.out; have := HJ53.out; have := HK6.out; have := HK7.out; omega⟩, ⟨by (with_reducible repeat (first | apply Kd.R_alloc | apply Kd.R_drewN | apply Kd.R_drew)); exact HO142.out⟩, ⟨by (with_reducible repeat (first | refine blk_drewN ?_ _ | refine blk_drew ?_ | refine blk_alloc ?_ _)); exact BK129.out⟩, ⟨by repeat (first | (with_reducible first | exact HB.out | apply below_alloc | apply pw_below_drewN | apply below_drew1 | refine below_set ?_ GE129.out) | exact HB.out)⟩⟩
                              rw [if_neg c63] at H
                              have c63b0 : (a0 == 1) = false := beq_eq_false_iff_ne.mpr c63
                              have c63b1 : (a0 != 1) = true := bne_iff_ne.mpr c63
                              by_cases c68 : a0 = 2
                              · rw [if_pos c68] at H
                                have c68b0 : (a0 == 2) = true := beq_iff_eq.mpr c68
                                have c68b1 : (a0 != 2) = false := bne_eq_false_iff_eq.mpr c68
                                clear c68
                                by_cases c69 : 0 ≤ x118_7
                                rotate_left
                                · rw [if_neg c69] at H
                                  exact absurd H (by simp)
                                rw [if_pos c69] at H
                                have c69b0 : decide (0 ≤ x118_7) = true := decide_eq_true c69
                                clear c69
                                by_cases c70 : x118_7 < (l3.length : Int)
                                rotate_left
                                · rw [if_neg c70] at H
                                  exact absurd H (by simp)
                                rw [if_pos c70] at H
                                have c70b0 : decide (x118_7 < (l3.length : Int)) = true := decide_eq_true c70
                                clear c70
                                by_cases c71 : x18_7.length < 17592186044416
                                rotate_left
                                · rw [if_neg c71] at H
                                  exact absurd H (by simp)
                                rw [if_pos c71] at H
                                have LMc71 := Aside0.mk c71
                                clear c71
                                obtain ⟨y144, hy144⟩ : ∃ y_ : List Int, y_ = (x18_7 ++ [rd l3 x118_7]) := ⟨_, rfl⟩
                                replace H : (impl_Guess.l3 k7 a0 l2 l3 a4 x12_53 y144 x114_6 a1 x114_6 a1 (wrap64 (x118_7 + 1)) a1) = some r := by first | (rw [hy144]; with_reducible exact H) | (have H2_ := (Option.bind_some _ _).symm.trans H; rw [hy144]; with_reducible exact H2_) | (have H2_ := (Option.bind_some _ _).symm.trans H; with_reducible exact H2_) | with_reducible exact H | (rw [hy144]; exact H) | exact H
                                have Ny144 := Aside0.mk hy144
                                clear hy144
                                have H' := Aside0.mk H
                                clear H
                                have p143 : 0 ≤ (x118_7 : Int) := of_decide_eq_true (by first | (with_reducible assumption) | assumption)
                                have q143 : x118_7 < (l3.length : Int) := of_decide_eq_true (by first | (with_reducible assumption) | assumption)
                                obtain ⟨ad143, e143, hx143_0⟩ := Kd.at_int HR3.out x118_7 p143 q143
                                cases e143
                                replace hx143_0 := (HB.out.cell (World.block_lt_of_cell? w _ hx143_0)).trans hx143_0
                                replace p143 := eq_true p143
                                replace q143 := eq_true q143
                                go_wp2_with (first | ((with_reducible refine gate_builtin (b := .append) (xs := #[.tmp 139, .tmp 144]) rfl ?_); (try (refine gate_guard (by rfl) ?_; dsimp only)); at_builtin; refine Kd.R_append (Kd.int .i64) (w0 := w) w.heap.size rfl (.tmp 139) (.tmp 144) 41 3 (.int .i64 0) 8 rfl Try.underlying41 info3 rfl (by decide) (by omega) u18 x18_7 (rd l3 x118_7) [.int .i64 (rd l3 x118_7)] (fun k_ => k_ ≠ gb129) (fun _ => False) rfl rfl ?aP (fun _ hk => hk.elim) ?aF ?aO ?aB ?aS ?aL ?_; (case aP => exact rfl); (case aB => exact (by repeat (first | (with_reducible first | exact HB.out | apply below_alloc | apply pw_below_drewN | apply below_drew1 | refine below_set ?_ GE129.out) | exact HB.out))); (case aF => exact (fun k_ hk => Kd.freshB (g := gb129) (o := .cells #[.int .i64 a1] 3 (0, 0)) (by (with_reducible repeat (first | refine blk_drewN ?_ _ | refine blk_drew ?_ | refine blk_alloc ?_ _)); exact BK129.out) k_ hk)); (case aO => exact (by (with_reducible repeat (first | apply Kd.R_alloc | apply Kd.R_drewN | apply Kd.R_drew)); exact HO_18.out)); (case aS => exact (below_size (by repeat (first | (with_reducible first | exact HB.out | apply below_alloc | apply pw_below_drewN | apply below_drew1 | refine below_set ?_ GE129.out) | exact HB.out)))); (case aL => have := LMc71.out; omega); intro v145 w72 ho hb hg hat; rw [← Ny144.out] at ho; have n0_ := Aside0.mk (blk_grown (g := gb129) (o := .cells #[.int .i64 a1] 3 (0, 0)) (by (with_reducible repeat (first | refine blk_drewN ?_ _ | refine blk_drew ?_ | refine blk_alloc ?_ _)); exact BK129.out) hg (Kd.R_away HO_18.out (fun _ hk => hk))); have n1_ := Aside0.mk (hb); have n2_ := Aside0.mk (ho); clear BK129; clear HB; clear HO_18; have BK129 := n0_; have HB := n1_; have HO146 := n2_; clear n0_ n1_ n2_; clear ho hb hg hat))
                                go_roundg k7
                                case measure => have := HJ5.out; have := HJ37.out; have := HK3.out; have := HK4.out; have := HJ53.out; have := HK6.out; have := HK7.out; omega
                                case rel => exact ⟨(y144), (wrap64 (x118_7 + 1)), (by first | rfl | (simp; done) | (simp [*]; done)), H', ⟨by have := HJ5.out; have := HJ37.out; have := HK3.out; have := HK4.out; have := HJ53.out; have := HK6.out; have := HK7.out; omega⟩, ⟨by (with_reducible repeat (first | apply Kd.R_alloc | apply Kd.R_drewN | apply Kd.R_drew)); exact HO146.out⟩, ⟨by (with_reducible repeat (first | refine blk_drewN ?_ _ | refine blk_drew ?_ | refine blk_alloc ?_ _)); exact BK129.out⟩, ⟨by repeat (first | (with_reducible first | exact HB.out | apply below_alloc | apply pw_below_drewN | apply below_drew1 | refine below_set ?_ GE129.out) | exact HB.out)⟩⟩
                              rw [if_neg c68] at H
                              have c68b0 : (a0 == 2) = false := beq_eq_false_iff_ne.mpr c68
                              have c68b1 : (a0 != 2) = true := bne_iff_ne.mpr c68
                              by_cases c73 : a0 = 3
                              rotate_left
                              · rw [if_neg c73] at H
                                have c73b0 : (a0 == 3) = false := beq_eq_false_iff_ne.mpr c73
                                have c73b1 : (a0 != 3) = true := bne_iff_ne.mpr c73
                                have H' := Aside0.mk H
                                clear H
                                go_wp2
                                go_roundg k7
                                case measure => have := HJ5.out; have := HJ37.out; have := HK3.out; have := HK4.out; have := HJ53.out; have := HK6.out; have := HK7.out; omega
                                case rel => exact ⟨(x18_7), (wrap64 (x118_7 + 1)), (by first | rfl | (simp; done) | (simp [*]; done)), H', ⟨by have := HJ5.out; have := HJ37.out; have := HK3.out; have := HK4.out; have := HJ53.out; have := HK6.out; have := HK7.out; omega⟩, ⟨by (with_reducible repeat (first | apply Kd.R_alloc | apply Kd.R_drewN | apply Kd.R_drew)); exact HO_18.out⟩, ⟨by (with_reducible repeat (first | refine blk_drewN ?_ _ | refine blk_drew ?_ | refine blk_alloc ?_ _)); exact BK129.out⟩, ⟨by repeat (first | (with_reducible first | exact HB.out | apply below_alloc | apply pw_below_drewN | apply below_drew1 | refine below_set ?_ GE129.out) | exact HB.out)⟩⟩
                              rw [if_pos c73] at H
                              have c73b0 : (a0 == 3) = true := beq_iff_eq.mpr c73
                              have c73b1 : (a0 != 3) = false := bne_eq_false_iff_eq.mpr c73
                              clear c73
                              by_cases c74 : 0 ≤ x114_6
                              rotate_left
                              · rw [if_neg c74] at H
                                exact absurd H (by simp)
                              rw [if_pos c74] at H
                              have c74b0 : decide (0 ≤ x114_6) = true := decide_eq_true c74
                              clear c74
                              by_cases c75 : x114_6 < (l2.length : Int)
                              rotate_left
                              · rw [if_neg c75] at H
                                exact absurd H (by simp)
                              rw [if_pos c75] at H
                              have c75b0 : decide (x114_6 < (l2.length : Int)) = true := decide_eq_true c75
                              clear c75
                              by_cases c76 : 0 ≤ x118_7
                              rotate_left
                              · rw [if_neg c76] at H
                                exact absurd H (by simp)
                              rw [if_pos c76] at H
                              have c76b0 : decide (0 ≤ x118_7) = true := decide_eq_true c76
                              clear c76
                              by_cases c77 : x118_7 < (l3.length : Int)
                              rotate_left
                              · rw [if_neg c77] at H
                                exact absurd H (by simp)
                              rw [if_pos c77] at H
                              have c77b0 : decide (x118_7 < (l3.length : Int)) = true := decide_eq_true c77
                              clear c77
                              replace H := Option.bind_eq_some_iff.mp H
                              obtain ⟨t149, A780, H⟩ := H
                              replace H : (if x18_7.length < 17592186044416 then (impl_Guess.l3 k7 a0 l2 l3 a4 x12_53 (x18_7 ++ [t149]) x114_6 a1 x114_6 a1 (wrap64 (x118_7 + 1)) a1) else (none)) = some r := H
                              have A78 := Aside0.mk A780
                              clear A780
                              by_cases c79 : x18_7.length < 17592186044416
                              rotate_left
                              · rw [if_neg c79] at H
                                exact absurd H (by simp)
                              rw [if_pos c79] at H
                              have LMc79 := Aside0.mk c79
                              clear c79
                              obtain ⟨y150, hy150⟩ : ∃ y_ : List Int, y_ = (x18_7 ++ [t149]) := ⟨_, rfl⟩
                              replace H : (impl_Guess.l3 k7 a0 l2 l3 a4 x12_53 y150 x114_6 a1 x114_6 a1 (wrap64 (x118_7 + 1)) a1) = some r := by first | (rw [hy150]; with_reducible exact H) | (have H2_ := (Option.bind_some _ _).symm.trans H; rw [hy150]; with_reducible exact H2_) | (have H2_ := (Option.bind_some _ _).symm.trans H; with_reducible exact H2_) | with_reducible exact H | (rw [hy150]; exact H) | exact H
                              have Ny150 := Aside0.mk hy150
                              clear hy150
                              have H' := Aside0.mk H
                              clear H
                              try go_wp2
                              have n0_ := Aside0.mk (Kd.R_drew HO_18.out)
                              have n1_ := Aside0.mk (blk_drew BK129.out)
                              have n2_ := Aside0.mk (below_drew1 HB.out)
                              clear HO_18
                              clear BK129
                              clear HB
                              have HO_18 := n0_
                              have BK129 := n1_
                              have HB := n2_
                              clear n0_ n1_ n2_
                              have p147 : 0 ≤ (x114_6 : Int) := of_decide_eq_true (by first | (with_reducible assumption) | assumption)
                              have q147 : x114_6 < (l2.length : Int) := of_decide_eq_true (by first | (with_reducible assumption) | assumption)
                              obtain ⟨ad147, e147, hx147_0⟩ := Kd.at_int HR2.out x114_6 p147 q147
                              have hw147_0 := hx147_0
                              cases e147
                              replace hx147_0 := (HB.out.cell (World.block_lt_of_cell? w _ hx147_0)).trans hx147_0
                              replace p147 := eq_true p147
                              replace q147 := eq_true q147
                              have p148 : 0 ≤ (x118_7 : Int) := of_decide_eq_true (by first | (with_reducible assumption) | assumption)
                              have q148 : x118_7 < (l3.length : Int) := of_decide_eq_true (by first | (with_reducible assumption) | assumption)
                              obtain ⟨ad148, e148, hx148_0⟩ := Kd.at_int HR3.out x118_7 p148 q148
                              have hw148_0 := hx148_0
                              cases e148
                              replace hx148_0 := (HB.out.cell (World.block_lt_of_cell? w _ hx148_0)).trans hx148_0
                              replace p148 := eq_true p148
                              replace q148 := eq_true q148
                              refine start_ (n := 16) (S := fun w' => w'.cell? (ad147.add (x114_6).toNat) = some (.int .i64 (rd l2 x114_6)) ∧ w'.cell? (ad148.add (x118_7).toNat) = some (.int .i64 (rd l3 x118_7))) (ds := []) #[false, false, false, false, false, false, false, false, false, false, false, false, false, false, false, false] (by kernel_rfl) rfl rfl ⟨((HB.out.cell (World.block_lt_of_cell? w _ hw147_0)).trans hw147_0), ((HB.out.cell (World.block_lt_of_cell? w _ hw148_0)).trans hw148_0)⟩ (fun hHeld => ?_); refine with_tabW impl_Guess.tab35 impl_Guess.bits35 (fun HT_ HW_ => ?_)
                              generalize wr.drew = w80 at HO_18 BK129 HB hx147_0 hx148_0 hHeld ⊢
                              refine pure_ (i := 0) (N := some 148) (v := ?_) (a' := ?_) #[true, false, false, false, false, false, false, false, false, false, false, false, false, false, false, false] rfl rfl (any_of HT_.out (by kernel_rfl)) (fun _ _ _ h => h) (Or.inl ⟨by rfl, ?_⟩) ?_ ?_
                              rotate_left
                              · intro w'
                                go_simp
                                with_reducible rfl
                              rotate_left
                              · simp only [Act.put, List.setIfInBounds_toArray, List.set_cons_zero, List.set_cons_succ, i64_w, i32_w]
                                rfl
                              refine pure_ (i := 1) (N := some 149) (v := ?_) (a' := ?_) #[true, true, false, false, false, false, false, false, false, false, false, false, false, false, false, false] rfl rfl (any_of HT_.out (by kernel_rfl)) (fun _ _ _ h => h) (Or.inl ⟨by rfl, ?_⟩) ?_ ?_
                              rotate_left
                              · intro w'
                                go_simp
                                with_reducible rfl
                              rotate_left
                              · simp only [Act.put, List.setIfInBounds_toArray, List.set_cons_zero, List.set_cons_succ, i64_w, i32_w]
                                rfl
                              refine pure_ (i := 2) (N := some 150) (v := ?_) (a' := ?_) #[true, true, true, false, false, false, false, false, false, false, false, false, false, false, false, false] rfl rfl (any_of HT_.out (by kernel_rfl)) (fun _ _ _ h => h) (Or.inl ⟨by rfl, ?_⟩) ?_ ?_
                              rotate_left
                              · intro w'
                                go_simp
                                with_reducible rfl
                              rotate_left
                              · simp only [Act.put, List.setIfInBounds_toArray, List.set_cons_zero, List.set_cons_succ, i64_w, i32_w]
                                rfl
                              refine pure_ (i := 3) (N := some 151) (v := ?_) (a' := ?_) #[true, true, true, true, false, false, false, false, false, false, false, false, false, false, false, false] rfl rfl (any_of HT_.out (by kernel_rfl)) (fun _ _ _ h => h) (Or.inl ⟨by rfl, ?_⟩) ?_ ?_
                              rotate_left
                              · intro w'
                                go_simp
                                with_reducible rfl
                              rotate_left
                              · simp only [Act.put, List.setIfInBounds_toArray, List.set_cons_zero, List.set_cons_succ, i64_w, i32_w]
                                rfl
                              refine pure_ (i := 5) (N := some 153) (v := ?_) (a' := ?_) #[true, true, true, true, false, true, false, false, false, false, false, false, false, false, false, false] rfl rfl (any_of HT_.out (by kernel_rfl)) (fun _ _ _ h => h) (Or.inl ⟨by rfl, ?_⟩) ?_ ?_
                              rotate_left
                              · intro w'
                                go_simp
                                with_reducible rfl
                              rotate_left
                              · simp only [Act.put, List.setIfInBounds_toArray, List.set_cons_zero, List.set_cons_succ, i64_w, i32_w]
                                rfl
                              refine pure_ (i := 6) (N := some 154) (v := ?_) (a' := ?_) #[true, true, true, true, false, true, true, false, false, false, false, false, false, false, false, false] rfl rfl (any_of HT_.out (by kernel_rfl)) (fun _ _ _ h => h) (Or.inl ⟨by rfl, ?_⟩) ?_ ?_
                              rotate_left
                              · intro w'
                                go_simp
                                with_reducible rfl
                              rotate_left
                              · simp only [Act.put, List.setIfInBounds_toArray, List.set_cons_zero, List.set_cons_succ, i64_w, i32_w]
                                rfl
                              refine pure_ (i := 7) (N := some 155) (v := ?_) (a' := ?_) #[true, true, true, true, false, true, true, true, false, false, false, false, false, false, false, false] rfl rfl (any_of HT_.out (by kernel_rfl)) (fun _ _ _ h => h) (Or.inl ⟨by rfl, ?_⟩) ?_ ?_
                              rotate_left
                              · intro w'
                                go_simp
                                with_reducible rfl
                              rotate_left
                              · simp only [Act.put, List.setIfInBounds_toArray, List.set_cons_zero, List.set_cons_succ, i64_w, i32_w]
                                rfl
                              refine pure_ (i := 10) (N := some 158) (v := ?_) (a' := ?_) #[true, true, true, true, false, true, true, true, false, false, true, false, false, false, false, false] rfl rfl (any_of HT_.out (by kernel_rfl)) (fun _ _ _ h => h) (Or.inl ⟨by rfl, ?_⟩) ?_ ?_
                              rotate_left
                              · intro w'
                                go_simp
                                with_reducible rfl
                              rotate_left
                              · simp only [Act.put, List.setIfInBounds_toArray, List.set_cons_zero, List.set_cons_succ, i64_w, i32_w]
                                rfl
                              refine take_ (i := 4) (N := some 152) (v := ?_) (a' := ?_) #[true, true, true, true, true, true, true, true, false, false, true, false, false, false, false, false] rfl rfl (take_ofW HT_.out HW_.out (by kernel_rfl)) (fun _ _ _ h => h) (Or.inl ⟨by rfl, ?_⟩) hHeld ?_ ?_
                              rotate_left
                              · rintro w' ⟨s0, s1⟩
                                go_simp
                                with_reducible rfl
                              rotate_left
                              · simp only [Act.put, List.setIfInBounds_toArray, List.set_cons_zero, List.set_cons_succ, i64_w, i32_w]
                                rfl
                              refine take_ (i := 8) (N := some 156) (v := ?_) (a' := ?_) #[true, true, true, true, true, true, true, true, true, false, true, false, false, false, false, false] rfl rfl (take_ofW HT_.out HW_.out (by kernel_rfl)) (fun _ _ _ h => h) (Or.inl ⟨by rfl, ?_⟩) hHeld ?_ ?_
                              rotate_left
                              · rintro w' ⟨s0, s1⟩
                                go_simp
                                with_reducible rfl
                              rotate_left
                              · simp only [Act.put, List.setIfInBounds_toArray, List.set_cons_zero, List.set_cons_succ, i64_w, i32_w]
                                rfl
                              refine pure_ (i := 9) (N := some 157) (v := ?_) (a' := ?_) #[true, true, true, true, true, true, true, true, true, true, true, false, false, false, false, false] rfl rfl (any_of HT_.out (by kernel_rfl)) (fun _ _ _ h => h) (Or.inl ⟨by rfl, ?_⟩) ?_ ?_
                              rotate_left
                              · intro w'
                                go_simp
                                with_reducible rfl
                              rotate_left
                              · simp only [Act.put, List.setIfInBounds_toArray, List.set_cons_zero, List.set_cons_succ, i64_w, i32_w]
                                rfl
                              refine pure_ (i := 11) (N := some 159) (v := ?_) (a' := ?_) #[true, true, true, true, true, true, true, true, true, true, true, true, false, false, false, false] rfl rfl (any_of HT_.out (by kernel_rfl)) (fun _ _ _ h => h) (Or.inl ⟨by rfl, ?_⟩) ?_ ?_
                              rotate_left
                              · intro w'
                                go_simp
                                with_reducible rfl
                              rotate_left
                              · simp only [Act.put, List.setIfInBounds_toArray, List.set_cons_zero, List.set_cons_succ, i64_w, i32_w]
                                rfl
                              refine one_ (i := 12) (N := some 160) #[true, true, true, true, true, true, true, true, true, true, true, true, true, false, false, false] rfl rfl (one_of HT_.out (by kernel_rfl)) (by decide) (fun K hK => ?_)
                              refine goes_ Try.func81 (by kernel_rfl) rfl #[.int .i64 (wrap64 ((wrap64 ((rd l2 x114_6) + (rd l3 x118_7))) - a4))] (by rfl) rfl rfl (by (try simp only [List.map_toArray, List.map_cons, List.map_nil]); first | done | rfl | (simp only [List.length_drop, List.length_take]; rfl)) ?_
                              with_reducible refine (impl_zclip.calls (wrap64 ((wrap64 ((rd l2 x114_6) + (rd l3 x118_7))) - a4)) t149 _ A78.out).mono ?_
                              rintro e w81 ⟨rfl, hb⟩
                              refine ⟨_, rfl, ?_⟩
                              have n0_ := Aside0.mk (Kd.R_below (by (with_reducible repeat (first | apply Kd.R_alloc | apply Kd.R_drewN | apply Kd.R_drew)); exact HO_18.out) hb)
                              have n1_ := Aside0.mk (blk_below (g := gb129) (o := .cells #[.int .i64 a1] 3 (0, 0)) (by (with_reducible repeat (first | refine blk_drewN ?_ _ | refine blk_drew ?_ | refine blk_alloc ?_ _)); exact BK129.out) hb)
                              have n2_ := Aside0.mk (below_step (by repeat (first | (with_reducible first | exact HB.out | apply below_alloc | apply pw_below_drewN | apply below_drew1 | refine below_set ?_ GE129.out) | exact HB.out)) hb)
                              clear HO_18
                              clear BK129
                              clear HB
                              have HO_18 := n0_
                              have BK129 := n1_
                              have HB := n2_
                              clear n0_ n1_ n2_
                              (try clear hb)
                              (try clear hb2)
                              (try clear hk)
                              (try clear hi)
                              refine hK.out _ _ ⟨((HB.out.cell (World.block_lt_of_cell? w _ hw147_0)).trans hw147_0), ((HB.out.cell (World.block_lt_of_cell? w _ hw148_0)).trans hw148_0)⟩ (fun hHeld => ?_)
                              clear hK K
                              refine norm_ (a' := ?_) ?_ ?_
                              rotate_left
                              · show Act.put _ (some 160) _ = _
                                simp only [Act.put, List.setIfInBounds_toArray, List.set_cons_zero, List.set_cons_succ, i64_w, i32_w]
                                rfl
                              refine one_ (i := 13) (N := some 161) #[true, true, true, true, true, true, true, true, true, true, true, true, true, true, false, false] rfl rfl (one_of HT_.out (by kernel_rfl)) (by decide) (fun K hK => ?_)
                              refine value_ (w1 := ?_) (v := ?_) (by rfl) rfl ?_ ?_
                              rotate_left 2
                              · go_simp
                                constructor
                                · rfl
                                · rfl
                              refine hK.out _ _ ⟨(World.cell?_alloc_lt _ _ _ (World.block_lt_of_cell? _ _ (((HB.out.cell (World.block_lt_of_cell? w _ hw147_0)).trans hw147_0)))).trans (((HB.out.cell (World.block_lt_of_cell? w _ hw147_0)).trans hw147_0)), (World.cell?_alloc_lt _ _ _ (World.block_lt_of_cell? _ _ (((HB.out.cell (World.block_lt_of_cell? w _ hw148_0)).trans hw148_0)))).trans (((HB.out.cell (World.block_lt_of_cell? w _ hw148_0)).trans hw148_0))⟩ (fun hHeld => ?_)
                              clear hK K
                              refine norm_ (a' := ?_) ?_ ?_
                              rotate_left
                              · show Act.put _ (some 161) _ = _
                                simp only [Act.put, List.setIfInBounds_toArray, List.set_cons_zero, List.set_cons_succ, i64_w, i32_w]
                                rfl
                              refine one_ (i := 14) (N := some 162) #[true, true, true, true, true, true, true, true, true, true, true, true, true, true, true, false] rfl rfl (one_of HT_.out (by kernel_rfl)) (by decide) (fun K hK => ?_)
                              refine Kd.R_append_step (Kd.int .i64) (w0 := w) w.heap.size (by rfl) (.tmp 148) (.tmp 161) 41 3 (.int .i64 0) 8 rfl Try.underlying41 info3 rfl (by decide) (by omega) u18 x18_7 t149 [.int .i64 t149] (fun k_ => k_ ≠ gb129) (fun _ => False) rfl rfl ?aP (fun _ hk => hk.elim) ?aF ?aO ?aB ?aS ?aL ?_
                              (case aP => exact rfl)
                              (case aB => exact (by repeat (first | (with_reducible first | exact HB.out | apply below_alloc | apply pw_below_drewN | apply below_drew1 | refine below_set ?_ GE129.out) | exact HB.out)))
                              (case aF => exact (fun k_ hk => Kd.freshB (g := gb129) (o := .cells #[.int .i64 a1] 3 (0, 0)) (by (with_reducible repeat (first | refine blk_drewN ?_ _ | refine blk_drew ?_ | refine blk_alloc ?_ _)); exact BK129.out) k_ hk))
                              (case aO => exact (by (with_reducible repeat (first | apply Kd.R_alloc | apply Kd.R_drewN | apply Kd.R_drew)); exact HO_18.out))
                              (case aS => exact (below_size (by repeat (first | (with_reducible first | exact HB.out | apply below_alloc | apply pw_below_drewN | apply below_drew1 | refine below_set ?_ GE129.out) | exact HB.out))))
                              (case aL => have := LMc79.out; omega)
                              intro v151 w82 ho hb hg hat
                              rw [← Ny150.out] at ho
                              have n0_ := Aside0.mk (blk_grown (g := gb129) (o := .cells #[.int .i64 a1] 3 (0, 0)) (by (with_reducible repeat (first | refine blk_drewN ?_ _ | refine blk_drew ?_ | refine blk_alloc ?_ _)); exact BK129.out) hg (Kd.R_away HO_18.out (fun _ hk => hk)))
                              have n1_ := Aside0.mk (hb)
                              have n2_ := Aside0.mk (ho)
                              clear BK129
                              clear HB
                              clear HO_18
                              have BK129 := n0_
                              have HB := n1_
                              have HO152 := n2_
                              clear n0_ n1_ n2_
                              clear ho hb hg hat
                              refine hK.out _ _ ⟨((HB.out.cell (World.block_lt_of_cell? w _ hw147_0)).trans hw147_0), ((HB.out.cell (World.block_lt_of_cell? w _ hw148_0)).trans hw148_0)⟩ (fun hHeld => ?_)
                              clear hK K
                              refine norm_ (a' := ?_) ?_ ?_
                              rotate_left
                              · show Act.put _ (some 162) _ = _
                                simp only [Act.put, List.setIfInBounds_toArray, List.set_cons_zero, List.set_cons_succ, i64_w, i32_w]
                                rfl
                              refine pure_ (i := 15) (N := some 18) (v := ?_) (a' := ?_) #[true, true, true, true, true, true, true, true, true, true, true, true, true, true, true, true] rfl rfl (any_of HT_.out (by kernel_rfl)) (fun _ _ _ h => h) (Or.inl ⟨by rfl, ?_⟩) ?_ ?_
                              rotate_left
                              · intro w'
                                go_simp
                                with_reducible rfl
                              rotate_left
                              · simp only [Act.put, List.setIfInBounds_toArray, List.set_cons_zero, List.set_cons_succ, i64_w, i32_w]
                                rfl
                              refine done_ (done_of HT_.out (by kernel_rfl)) ?_
                              try go_wp2
                              go_roundg k7
                              case measure => have := HJ5.out; have := HJ37.out; have := HK3.out; have := HK4.out; have := HJ53.out; have := HK6.out; have := HK7.out; omega
                              case rel => exact ⟨(y150), (wrap64 (x118_7 + 1)), (by first | rfl | (simp; done) | (simp [*]; done)), H', ⟨by have := HJ5.out; have := HJ37.out; have := HK3.out; have := HK4.out; have := HJ53.out; have := HK6.out; have := HK7.out; omega⟩, ⟨by (with_reducible repeat (first | apply Kd.R_alloc | apply Kd.R_drewN | apply Kd.R_drew)); exact HO152.out⟩, ⟨by (with_reducible repeat (first | refine blk_drewN ?_ _ | refine blk_drew ?_ | refine blk_alloc ?_ _)); exact BK129.out⟩, ⟨by repeat (first | (with_reducible first | exact HB.out | apply below_alloc | apply pw_below_drewN | apply below_drew1 | refine below_set ?_ GE129.out) | exact HB.out)⟩⟩

end Go.Proofs.Ytmnihpedokeggaa.PFnExactGuess

-- written by myprint.py (a program of this session's over the kit's print)
import Derived.Test.YtidblealnaicpaaPFnExactGoodCuesx0
import Derived.Test.YtidblealnaicpaaPFnExactGoodCuesx2
namespace Go.Proofs.Ytidblealnaicpaa.PFnExactGoodCues
open Go.RowKit Go.Proofs.YtidblealnaicpaaW.PrintWords Go.Proofs.YtidblealnaicpaaW.PrintLast Go.Proofs.YtidblealnaicpaaW.PrintMore
attribute [local go_sem] max2_int min2_int max_two min_two max_three min_three max_four min_four   -- for this text's walks alone
set_option linter.unusedVariables false
set_option linter.unusedSimpArgs false

/-! ### bytealg_IndexRabinKarp_string: function 219 -/
mutual
def bytealg_IndexRabinKarp_string.l0 : Nat → ByteArray → ByteArray → Int → Int → Int → Int → Int → Option (Int)
  | 0, _, _, _, _, _, _, _ => none
  | k + 1, x0, x1, x5, x6, x7, x8, x9 => if x9 < x7 then (if 0 ≤ x9 then (if x9 < (x0.size : Int) then (bytealg_IndexRabinKarp_string.l0 k x0 x1 x5 x6 x7 ((((x8 * 16777619) % 4294967296) + ((bt x0 x9) % 4294967296)) % 4294967296) (wrap64 (x9 + 1))) else (none)) else (none)) else (if x8 = x5 then (if 0 ≤ x7 then (if x7 ≤ (x0.size : Int) then (bytealg_IndexRabinKarp_string.j1 k x0 x1 x5 x6 x7 x8 ((x0.extract 0 (x7 : Int).toNat).toList == x1.toList)) else (none)) else (none)) else (bytealg_IndexRabinKarp_string.j1 k x0 x1 x5 x6 x7 x8 false))
def bytealg_IndexRabinKarp_string.j1 : Nat → ByteArray → ByteArray → Int → Int → Int → Int → Bool → Option (Int)
  | 0, _, _, _, _, _, _, _ => none
  | k + 1, x0, x1, x5, x6, x7, x8, x39 => if x39 = true then (some 0) else (bytealg_IndexRabinKarp_string.l1 k x0 x1 x5 x6 x7 x8 x7)
def bytealg_IndexRabinKarp_string.l1 : Nat → ByteArray → ByteArray → Int → Int → Int → Int → Int → Option (Int)
  | 0, _, _, _, _, _, _, _ => none
  | k + 1, x0, x1, x5, x6, x7, x8, x10 => if x10 < (x0.size : Int) then (if 0 ≤ x10 then (if 0 ≤ (wrap64 (x10 - x7)) then (if (wrap64 (x10 - x7)) < (x0.size : Int) then (if ((((((x8 * 16777619) % 4294967296) + ((bt x0 x10) % 4294967296)) % 4294967296) - ((x6 * ((bt x0 (wrap64 (x10 - x7))) % 4294967296)) % 4294967296)) % 4294967296) = x5 then (if 0 ≤ (wrap64 ((wrap64 (x10 + 1)) - x7)) then (if (wrap64 ((wrap64 (x10 + 1)) - x7)) ≤ (wrap64 (x10 + 1)) then (if (wrap64 (x10 + 1)) ≤ (x0.size : Int) then (if (x0.extract ((wrap64 ((wrap64 (x10 + 1)) - x7)) : Int).toNat ((wrap64 (x10 + 1)) : Int).toNat).toList = x1.toList then (some (wrap64 ((wrap64 (x10 + 1)) - x7))) else (bytealg_IndexRabinKarp_string.l1 k x0 x1 x5 x6 x7 ((((((x8 * 16777619) % 4294967296) + ((bt x0 x10) % 4294967296)) % 4294967296) - ((x6 * ((bt x0 (wrap64 (x10 - x7))) % 4294967296)) % 4294967296)) % 4294967296) (wrap64 (x10 + 1)))) else (none)) else (none)) else (none)) else (bytealg_IndexRabinKarp_string.l1 k x0 x1 x5 x6 x7 ((((((x8 * 16777619) % 4294967296) + ((bt x0 x10) % 4294967296)) % 4294967296) - ((x6 * ((bt x0 (wrap64 (x10 - x7))) % 4294967296)) % 4294967296)) % 4294967296) (wrap64 (x10 + 1)))) else (none)) else (none)) else (none)) else (some (-1))
end
def bytealg_IndexRabinKarp_string.f (k : Nat) (a0 : ByteArray) (a1 : ByteArray) : Option (Int) := (bytealg_hashStr_string.f k a1).bind fun bt136 => (bytealg_IndexRabinKarp_string.l0 k a0 a1 bt136.1 bt136.2 (a1.size : Int) 0 0)
theorem bytealg_IndexRabinKarp_string.mono_l : ∀ k, (∀ y0 y1 y2 y3 y4 y5 y6, LeO (bytealg_IndexRabinKarp_string.l0 k y0 y1 y2 y3 y4 y5 y6) (bytealg_IndexRabinKarp_string.l0 (k + 1) y0 y1 y2 y3 y4 y5 y6)) ∧ (∀ y0 y1 y2 y3 y4 y5 y6, LeO (bytealg_IndexRabinKarp_string.j1 k y0 y1 y2 y3 y4 y5 y6) (bytealg_IndexRabinKarp_string.j1 (k + 1) y0 y1 y2 y3 y4 y5 y6)) ∧ (∀ y0 y1 y2 y3 y4 y5 y6, LeO (bytealg_IndexRabinKarp_string.l1 k y0 y1 y2 y3 y4 y5 y6) (bytealg_IndexRabinKarp_string.l1 (k + 1) y0 y1 y2 y3 y4 y5 y6))
  | 0 => ⟨fun _ _ _ _ _ _ _ r h => by simp [bytealg_IndexRabinKarp_string.l0] at h, fun _ _ _ _ _ _ _ r h => by simp [bytealg_IndexRabinKarp_string.j1] at h, fun _ _ _ _ _ _ _ r h => by simp [bytealg_IndexRabinKarp_string.l1] at h⟩
  | k + 1 => by
    obtain ⟨ih0, ih1, ih2⟩ := bytealg_IndexRabinKarp_string.mono_l k
    refine ⟨?_, ?_, ?_⟩
    · intro y0 y1 y2 y3 y4 y5 y6
      unfold bytealg_IndexRabinKarp_string.l0
      repeat' first
      | (with_reducible exact ih0 _ _ _ _ _ _ _)
      | (with_reducible exact ih1 _ _ _ _ _ _ _)
      | (with_reducible exact ih2 _ _ _ _ _ _ _)
      | (with_reducible exact bytealg_hashStr_string.mono _ _)
      | (with_reducible exact LeO.refl _)
      | (with_reducible exact LeO.none _)
      | (with_reducible refine LeO.ite ?_ ?_)
      | (with_reducible refine LeO.bind ?_ (fun _ => ?_))
      | exact ih0 _ _ _ _ _ _ _
      | exact ih1 _ _ _ _ _ _ _
      | exact ih2 _ _ _ _ _ _ _
      | exact bytealg_hashStr_string.mono _ _
      | exact LeO.none _
      | refine LeO.ite ?_ ?_
      | refine LeO.bind ?_ (fun _ => ?_)
    · intro y0 y1 y2 y3 y4 y5 y6
      unfold bytealg_IndexRabinKarp_string.j1
      repeat' first
      | (with_reducible exact ih0 _ _ _ _ _ _ _)
      | (with_reducible exact ih1 _ _ _ _ _ _ _)
      | (with_reducible exact ih2 _ _ _ _ _ _ _)
      | (with_reducible exact bytealg_hashStr_string.mono _ _)
      | (with_reducible exact LeO.refl _)
      | (with_reducible exact LeO.none _)
      | (with_reducible refine LeO.ite ?_ ?_)
      | (with_reducible refine LeO.bind ?_ (fun _ => ?_))
      | exact ih0 _ _ _ _ _ _ _
      | exact ih1 _ _ _ _ _ _ _
      | exact ih2 _ _ _ _ _ _ _
      | exact bytealg_hashStr_string.mono _ _
      | exact LeO.none _
      | refine LeO.ite ?_ ?_
      | refine LeO.bind ?_ (fun _ => ?_)
    · intro y0 y1 y2 y3 y4 y5 y6
      unfold bytealg_IndexRabinKarp_string.l1
      repeat' first
      | (with_reducible exact ih0 _ _ _ _ _ _ _)
      | (with_reducible exact ih1 _ _ _ _ _ _ _)
      | (with_reducible exact ih2 _ _ _ _ _ _ _)
      | (with_reducible exact bytealg_hashStr_string.mono _ _)
      | (with_reducible exact LeO.refl _)
      | (with_reducible exact LeO.none _)
      | (with_reducible refine LeO.ite ?_ ?_)
      | (with_reducible refine LeO.bind ?_ (fun _ => ?_))
      | exact ih0 _ _ _ _ _ _ _
      | exact ih1 _ _ _ _ _ _ _
      | exact ih2 _ _ _ _ _ _ _
      | exact bytealg_hashStr_string.mono _ _
      | exact LeO.none _
      | refine LeO.ite ?_ ?_
      | refine LeO.bind ?_ (fun _ => ?_)
theorem bytealg_IndexRabinKarp_string.mono : ∀ a0 a1 k, LeO (bytealg_IndexRabinKarp_string.f k a0 a1) (bytealg_IndexRabinKarp_string.f (k + 1) a0 a1) := by
  intro a0 a1 k
  obtain ⟨ih0, ih1, ih2⟩ := bytealg_IndexRabinKarp_string.mono_l k
  unfold bytealg_IndexRabinKarp_string.f
  repeat' first
      | (with_reducible exact ih0 _ _ _ _ _ _ _)
      | (with_reducible exact ih1 _ _ _ _ _ _ _)
      | (with_reducible exact ih2 _ _ _ _ _ _ _)
      | (with_reducible exact bytealg_hashStr_string.mono _ _)
      | (with_reducible exact LeO.refl _)
      | (with_reducible exact LeO.none _)
      | (with_reducible refine LeO.ite ?_ ?_)
      | (with_reducible refine LeO.bind ?_ (fun _ => ?_))
      | exact ih0 _ _ _ _ _ _ _
      | exact ih1 _ _ _ _ _ _ _
      | exact ih2 _ _ _ _ _ _ _
      | exact bytealg_hashStr_string.mono _ _
      | exact LeO.none _
      | refine LeO.ite ?_ ?_
      | refine LeO.bind ?_ (fun _ => ?_)
-- LEFT OUT: the walk of function 219 (nothing here reaches it)

-- NOT PRINTED: function 215 (stringslite_Index)

-- NOT PRINTED: function 213 (strings_Index)

-- NOT PRINTED: function 207 (strings_Contains)

/-! ### impl_zcueLine: function 174 -/
def impl_zcueLine.l0 : Nat → ByteArray → Int → Int → Option (Int)
  | 0, _, _, _ => none
  | k + 1, x0, x5, x6 => if x6 < x5 then (if 0 ≤ x6 then (if x6 < (x0.size : Int) then (if (bt x0 x6) < 32 then (some 4) else (if (bt x0 x6) > 126 then (some 4) else (impl_zcueLine.l0 k x0 x5 (wrap64 (x6 + 1))))) else (none)) else (none)) else ((strings_Contains.f x0 (⟨#[45, 45, 62]⟩ : ByteArray)).bind fun t138 => (if t138 = true then (some 4) else (if (x0.size : Int) > 80 then (some 7) else (some 0))))
def impl_zcueLine.f (k : Nat) (a0 : ByteArray) : Option (Int) := impl_zcueLine.l0 k a0 (a0.size : Int) 0
theorem impl_zcueLine.mono_l : ∀ k, (∀ y0 y1 y2, LeO (impl_zcueLine.l0 k y0 y1 y2) (impl_zcueLine.l0 (k + 1) y0 y1 y2))
  | 0 => fun _ _ _ r h => by simp [impl_zcueLine.l0] at h
  | k + 1 => by
    have ih0 := impl_zcueLine.mono_l k
    · intro y0 y1 y2
      unfold impl_zcueLine.l0
      repeat' first
      | (with_reducible exact ih0 _ _ _)
      | (with_reducible exact LeO.refl _)
      | (with_reducible exact LeO.none _)
      | (with_reducible refine LeO.ite ?_ ?_)
      | (with_reducible refine LeO.bind ?_ (fun _ => ?_))
      | exact ih0 _ _ _
      | exact LeO.none _
      | refine LeO.ite ?_ ?_
      | refine LeO.bind ?_ (fun _ => ?_)
theorem impl_zcueLine.mono : ∀ a0 k, LeO (impl_zcueLine.f k a0) (impl_zcueLine.f (k + 1) a0) := by
  intro a0 k
  have ih0 := impl_zcueLine.mono_l k
  unfold impl_zcueLine.f
  repeat' first
      | (with_reducible exact ih0 _ _ _)
      | (with_reducible exact LeO.refl _)
      | (with_reducible exact LeO.none _)
      | (with_reducible refine LeO.ite ?_ ?_)
      | (with_reducible refine LeO.bind ?_ (fun _ => ?_))
      | exact ih0 _ _ _
      | exact LeO.none _
      | refine LeO.ite ?_ ?_
      | refine LeO.bind ?_ (fun _ => ?_)
set_option maxHeartbeats 8000000 in
set_option maxRecDepth 100000 in
theorem impl_zcueLine.calls (k : Nat) (a0 : ByteArray) (r : Int) (w : World) (hM : MX w) (h : impl_zcueLine.f k a0 = some r) :
    Calls Try.prog 174 #[.string a0] w fun e w' => e = .returned (.int .i64 r) ∧ Drawn0 w w' := by
  have H : (impl_zcueLine.l0 k a0 (a0.size : Int) 0) = some r := h
  clear h
  have H' := Aside0.mk H
  clear H
  go_enter Try.func174, Try.ntmps174
  go_wp2
  go_loopg [6] k (fun kq v6 w' => ∃ (x6_1 : Int), v6 = .int .i64 x6_1 ∧ Aside0 (impl_zcueLine.l0 kq a0 (a0.size : Int) x6_1 = some r) ∧ Aside0 (kq ≤ k) ∧ Drawn0 w w')
  case atStart => exact ⟨(0), (by first | rfl | (simp; done) | (simp [*]; done)), H', ⟨Nat.le_refl _⟩, by repeat (first | exact Drawn0.refl _ | apply Drawn0.step)⟩
  case round =>
    clear H'
    try clear c1
    obtain ⟨x6_1, rfl, HA, HK1, ⟨m1, rfl⟩⟩ := hrel
    cases gk with
    | zero => exact absurd HA.out (by simp [impl_zcueLine.l0])
    | succ k1 =>
      have H := HA.out
      clear HA
      simp only [impl_zcueLine.l0] at H
      by_cases c2 : x6_1 < (a0.size : Int)
      · rw [if_pos c2] at H
        have c2b0 : decide (x6_1 < (a0.size : Int)) = true := decide_eq_true c2
        clear c2
        by_cases c3 : 0 ≤ x6_1
        rotate_left
        · rw [if_neg c3] at H
          exact absurd H (by simp)
        rw [if_pos c3] at H
        have c3b0 : decide (0 ≤ x6_1) = true := decide_eq_true c3
        clear c3
        by_cases c4 : x6_1 < (a0.size : Int)
        rotate_left
        · rw [if_neg c4] at H
          exact absurd H (by simp)
        rw [if_pos c4] at H
        have c4b0 : decide (x6_1 < (a0.size : Int)) = true := decide_eq_true c4
        clear c4
        by_cases c6 : (bt a0 x6_1) < 32
        · rw [if_pos c6] at H
          have c6b0 : decide ((bt a0 x6_1) < 32) = true := decide_eq_true c6
          clear c6
          obtain rfl := Option.some.inj H
          have p5 : 0 ≤ (x6_1 : Int) := of_decide_eq_true (by first | (with_reducible assumption) | assumption)
          have q5 : x6_1 < (a0.size : Int) := of_decide_eq_true (by first | (with_reducible assumption) | assumption)
          have hx5 := bt_at a0 x6_1
          replace p5 := eq_true p5
          replace q5 := eq_true q5
          go_wp2
          go_ret
          exact ⟨by first | rfl | (simp; done) | (simp [*]; done), by repeat (first | exact Drawn0.refl _ | apply Drawn0.step)⟩
        rw [if_neg c6] at H
        have c6b0 : decide ((bt a0 x6_1) < 32) = false := decide_eq_false c6
        clear c6
        by_cases c8 : (bt a0 x6_1) > 126
        · rw [if_pos c8] at H
          have c8b0 : decide (126 < (bt a0 x6_1)) = true := decide_eq_true c8
          clear c8
          obtain rfl := Option.some.inj H
          have p5 : 0 ≤ (x6_1 : Int) := of_decide_eq_true (by first | (with_reducible assumption) | assumption)
          have q5 : x6_1 < (a0.size : Int) := of_decide_eq_true (by first | (with_reducible assumption) | assumption)
          have hx5 := bt_at a0 x6_1
          replace p5 := eq_true p5
          replace q5 := eq_true q5
          have p7 : 0 ≤ (x6_1 : Int) := of_decide_eq_true (by first | (with_reducible assumption) | assumption)
          have q7 : x6_1 < (a0.size : Int) := of_decide_eq_true (by first | (with_reducible assumption) | assumption)
          have hx7 := bt_at a0 x6_1
          replace p7 := eq_true p7
          replace q7 := eq_true q7
          go_wp2
          go_ret
          exact ⟨by first | rfl | (simp; done) | (simp [*]; done), by repeat (first | exact Drawn0.refl _ | apply Drawn0.step)⟩
        rw [if_neg c8] at H
        have c8b0 : decide (126 < (bt a0 x6_1)) = false := decide_eq_false c8
        clear c8
        have H' := Aside0.mk H
        clear H
        have p5 : 0 ≤ (x6_1 : Int) := of_decide_eq_true (by first | (with_reducible assumption) | assumption)
        have q5 : x6_1 < (a0.size : Int) := of_decide_eq_true (by first | (with_reducible assumption) | assumption)
        have hx5 := bt_at a0 x6_1
        replace p5 := eq_true p5
        replace q5 := eq_true q5
        have p7 : 0 ≤ (x6_1 : Int) := of_decide_eq_true (by first | (with_reducible assumption) | assumption)
        have q7 : x6_1 < (a0.size : Int) := of_decide_eq_true (by first | (with_reducible assumption) | assumption)
        have hx7 := bt_at a0 x6_1
        replace p7 := eq_true p7
        replace q7 := eq_true q7
        go_wp2
        go_roundg k1
        case measure => have := HK1.out; omega
        case rel => exact ⟨(wrap64 (x6_1 + 1)), (by first | rfl | (simp; done) | (simp [*]; done)), H', ⟨by have := HK1.out; omega⟩, by repeat (first | exact Drawn0.refl _ | apply Drawn0.step)⟩
      rw [if_neg c2] at H
      have c2b0 : decide (x6_1 < (a0.size : Int)) = false := decide_eq_false c2
      clear c2
      replace H := Option.bind_eq_some_iff.mp H
      obtain ⟨t138, A90, H⟩ := H
      replace H : (if t138 = true then (some 4) else (if (a0.size : Int) > 80 then (some 7) else (some 0))) = some r := H
      have A9 := Aside0.mk A90
      clear A90
      by_cases c10 : t138 = true
      · subst c10
        have H1 : (some 4) = some r := by rw [if_pos rfl] at H; exact H
        clear H
        have H := H1
        clear H1
        obtain rfl := Option.some.inj H
        go_wp2_with (first | ((with_reducible refine gate_callee (f := 207) rfl ?_); refine goesL_ (some 21) rfl rfl Try.func207 (by kernel_rfl) rfl #[.string a0, .string (⟨#[45, 45, 62]⟩ : ByteArray)] rfl (by (try simp only [List.map_toArray, List.map_cons, List.map_nil]); first | done | rfl | (simp only [List.length_drop, List.length_take]; rfl)) ?_; (with_reducible refine (strings_Contains.calls a0 (⟨#[45, 45, 62]⟩ : ByteArray) true _ ?side1 A9.out).mono ?_); (case side1 => (first | exact hM | exact MX.below hM (by repeat (first | (with_reducible first | exact HB.out | apply below_alloc | apply pw_below_drewN | apply below_drew1) | exact HB.out)))); rintro e w' ⟨rfl, ⟨nd, rfl⟩⟩; refine ⟨_, rfl, ?_⟩))
        go_ret
        exact ⟨by first | rfl | (simp; done) | (simp [*]; done), by repeat (first | exact Drawn0.refl _ | apply Drawn0.step)⟩
      replace c10 := Bool.eq_false_iff.mpr c10
      subst c10
      have H1 : (if (a0.size : Int) > 80 then (some 7) else (some 0)) = some r := by rw [if_neg (show ¬ (false = true) by decide)] at H; exact H
      clear H
      have H := H1
      clear H1
      by_cases c11 : (a0.size : Int) > 80
      · rw [if_pos c11] at H
        have c11b0 : decide (80 < (a0.size : Int)) = true := decide_eq_true c11
        have c11b1 : decide (80 < a0.size) = true := decide_eq_true (by omega)
        have c11b2 : 80 < a0.size := by omega
        clear c11
        obtain rfl := Option.some.inj H
        go_wp2_with (first | ((with_reducible refine gate_callee (f := 207) rfl ?_); refine goesL_ (some 21) rfl rfl Try.func207 (by kernel_rfl) rfl #[.string a0, .string (⟨#[45, 45, 62]⟩ : ByteArray)] rfl (by (try simp only [List.map_toArray, List.map_cons, List.map_nil]); first | done | rfl | (simp only [List.length_drop, List.length_take]; rfl)) ?_; (with_reducible refine (strings_Contains.calls a0 (⟨#[45, 45, 62]⟩ : ByteArray) false _ ?side1 A9.out).mono ?_); (case side1 => (first | exact hM | exact MX.below hM (by repeat (first | (with_reducible first | exact HB.out | apply below_alloc | apply pw_below_drewN | apply below_drew1) | exact HB.out)))); rintro e w' ⟨rfl, ⟨nd, rfl⟩⟩; refine ⟨_, rfl, ?_⟩))
        go_ret
        exact ⟨by first | rfl | (simp; done) | (simp [*]; done), by repeat (first | exact Drawn0.refl _ | apply Drawn0.step)⟩
      rw [if_neg c11] at H
      have c11b0 : decide (80 < (a0.size : Int)) = false := decide_eq_false c11
      have c11b1 : decide (80 < a0.size) = false := decide_eq_false (by omega)
      have c11b2 : ¬ (80 < a0.size) := by omega
      clear c11
      obtain rfl := Option.some.inj H
      go_wp2_with (first | ((with_reducible refine gate_callee (f := 207) rfl ?_); refine goesL_ (some 21) rfl rfl Try.func207 (by kernel_rfl) rfl #[.string a0, .string (⟨#[45, 45, 62]⟩ : ByteArray)] rfl (by (try simp only [List.map_toArray, List.map_cons, List.map_nil]); first | done | rfl | (simp only [List.length_drop, List.length_take]; rfl)) ?_; (with_reducible refine (strings_Contains.calls a0 (⟨#[45, 45, 62]⟩ : ByteArray) false _ ?side1 A9.out).mono ?_); (case side1 => (first | exact hM | exact MX.below hM (by repeat (first | (with_reducible first | exact HB.out | apply below_alloc | apply pw_below_drewN | apply below_drew1) | exact HB.out)))); rintro e w' ⟨rfl, ⟨nd, rfl⟩⟩; refine ⟨_, rfl, ?_⟩))
      go_ret
      exact ⟨by first | rfl | (simp; done) | (simp [*]; done), by repeat (first | exact Drawn0.refl _ | apply Drawn0.step)⟩

end Go.Proofs.Ytidblealnaicpaa.PFnExactGoodCues

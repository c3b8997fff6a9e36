-- written by myprint.py (a program of this session's over the kit's print)
import Derived.Test.YtmnihpedokeggaaDoorPFnExactLapx0
namespace Go.Proofs.YtmnihpedokeggaaDoor.PFnExactLap
open Go.RowKit Go.Proofs.YtmnihpedokeggaaDoorW.PrintWords Go.Proofs.YtmnihpedokeggaaDoorW.PrintLast Go.Proofs.YtmnihpedokeggaaDoorW.PrintMore
attribute [local go_sem] max2_int min2_int max_two min_two max_three min_three max_four min_four   -- for this text's walks alone
set_option linter.unusedVariables false
set_option linter.unusedSimpArgs false

/-! ### spec_l11Samples: function 14 -/
def spec_l11Samples.l0 : Nat → List Int → Int → List Int → Int → Int → Option (Bool)
  | 0, _, _, _, _, _ => none
  | k + 1, x0, x1, x7, x8, x9 => if x9 < x8 then (if 0 ≤ x9 then (if x9 < (x7.length : Int) then (if (rd x7 x9) < (-32768) then (some false) else (if (rd x7 x9) > 32767 then (some false) else (spec_l11Samples.l0 k x0 x1 x7 x8 (wrap64 (x9 + 1))))) else (none)) else (none)) else (if x1 < 0 then (some true) else (some ((x0.length : Int) == x1)))
def spec_l11Samples.f (k : Nat) (l0 : List Int) (a1 : Int) : Option (Bool) := spec_l11Samples.l0 k l0 a1 l0 (l0.length : Int) 0
theorem spec_l11Samples.mono_l : ∀ k, (∀ y0 y1 y2 y3 y4, LeO (spec_l11Samples.l0 k y0 y1 y2 y3 y4) (spec_l11Samples.l0 (k + 1) y0 y1 y2 y3 y4))
  | 0 => fun _ _ _ _ _ r h => by simp [spec_l11Samples.l0] at h
  | k + 1 => by
    have ih0 := spec_l11Samples.mono_l k
    · intro y0 y1 y2 y3 y4
      unfold spec_l11Samples.l0
      repeat' first
      | (with_reducible exact ih0 _ _ _ _ _)
      | (with_reducible exact LeO.refl _)
      | (with_reducible exact LeO.none _)
      | (with_reducible refine LeO.ite ?_ ?_)
      | (with_reducible refine LeO.bind ?_ (fun _ => ?_))
      | exact ih0 _ _ _ _ _
      | exact LeO.none _
      | refine LeO.ite ?_ ?_
      | refine LeO.bind ?_ (fun _ => ?_)
theorem spec_l11Samples.mono : ∀ a0 a1 k, LeO (spec_l11Samples.f k a0 a1) (spec_l11Samples.f (k + 1) a0 a1) := by
  intro a0 a1 k
  have ih0 := spec_l11Samples.mono_l k
  unfold spec_l11Samples.f
  repeat' first
      | (with_reducible exact ih0 _ _ _ _ _)
      | (with_reducible exact LeO.refl _)
      | (with_reducible exact LeO.none _)
      | (with_reducible refine LeO.ite ?_ ?_)
      | (with_reducible refine LeO.bind ?_ (fun _ => ?_))
      | exact ih0 _ _ _ _ _
      | exact LeO.none _
      | refine LeO.ite ?_ ?_
      | refine LeO.bind ?_ (fun _ => ?_)
set_option maxHeartbeats 8000000 in
set_option maxRecDepth 100000 in
theorem spec_l11Samples.calls (k : Nat) (A0 : Option Addr) (c0 : Nat) (l0 : List Int) (a1 : Int) (r : Bool) (w : World) (hr0 : Kd.C (Kd.int .i64) w A0 l0.length l0) (hc0 : l0.length ≤ c0) (h : spec_l11Samples.f k l0 a1 = some r) :
    Calls Tryd.prog 14 #[.slice A0 l0.length c0, .int .i64 a1] w fun e w' => e = .returned (.bool r) ∧ Drawn0 w w' := by
  have HR0 := Aside0.mk hr0
  have HC0 := Aside0.mk hc0
  clear hr0 hc0
  have H : (spec_l11Samples.l0 k l0 a1 l0 (l0.length : Int) 0) = some r := h
  clear h
  have H' := Aside0.mk H
  clear H
  go_enter Tryd.func14, Tryd.ntmps14
  go_wp2
  go_loopg [9] k (fun kq v9 w' => ∃ (x9_1 : Int), v9 = .int .i64 x9_1 ∧ Aside0 (spec_l11Samples.l0 kq l0 a1 l0 (l0.length : Int) x9_1 = some r) ∧ Aside0 (kq ≤ k) ∧ Drawn0 w w')
  case atStart => exact ⟨(0), (by first | rfl | (simp; done) | (simp [*]; done)), H', ⟨Nat.le_refl _⟩, by repeat (first | exact Drawn0.refl _ | apply Drawn0.step)⟩
  case round =>
    clear H'
    try clear c1
    try clear p2
    obtain ⟨x9_1, rfl, HA, HK1, ⟨m1, rfl⟩⟩ := hrel
    cases gk with
    | zero => exact absurd HA.out (by simp [spec_l11Samples.l0])
    | succ k1 =>
      have H := HA.out
      clear HA
      simp only [spec_l11Samples.l0] at H
      by_cases c3 : x9_1 < (l0.length : Int)
      rotate_left
      · rw [if_neg c3] at H
        have c3b0 : decide (x9_1 < (l0.length : Int)) = false := decide_eq_false c3
        clear c3
        by_cases c8 : a1 < 0
        · rw [if_pos c8] at H
          have c8b0 : decide (a1 < 0) = true := decide_eq_true c8
          clear c8
          obtain rfl := Option.some.inj H
          go_wp2
          go_ret
          exact ⟨by first | rfl | (simp; done) | (simp [*]; done), by repeat (first | exact Drawn0.refl _ | apply Drawn0.step)⟩
        rw [if_neg c8] at H
        have c8b0 : decide (a1 < 0) = false := decide_eq_false c8
        clear c8
        obtain rfl := Option.some.inj H
        go_wp2
        go_ret
        exact ⟨by first | rfl | (simp; done) | (simp [*]; done), by repeat (first | exact Drawn0.refl _ | apply Drawn0.step)⟩
      rw [if_pos c3] at H
      have c3b0 : decide (x9_1 < (l0.length : Int)) = true := decide_eq_true c3
      clear c3
      by_cases c4 : 0 ≤ x9_1
      rotate_left
      · rw [if_neg c4] at H
        exact absurd H (by simp)
      rw [if_pos c4] at H
      have c4b0 : decide (0 ≤ x9_1) = true := decide_eq_true c4
      clear c4
      by_cases c5 : x9_1 < (l0.length : Int)
      rotate_left
      · rw [if_neg c5] at H
        exact absurd H (by simp)
      rw [if_pos c5] at H
      have c5b0 : decide (x9_1 < (l0.length : Int)) = true := decide_eq_true c5
      clear c5
      by_cases c6 : (rd l0 x9_1) < (-32768)
      · rw [if_pos c6] at H
        have c6b0 : decide ((rd l0 x9_1) < (-32768)) = true := decide_eq_true c6
        clear c6
        obtain rfl := Option.some.inj H
        have p101 : 0 ≤ (x9_1 : Int) := of_decide_eq_true (by first | (with_reducible assumption) | assumption)
        have q101 : x9_1 < (l0.length : Int) := of_decide_eq_true (by first | (with_reducible assumption) | assumption)
        obtain ⟨ad101, e101, hx101_0⟩ := Kd.at_int HR0.out x9_1 p101 q101
        cases e101
        replace p101 := eq_true p101
        replace q101 := eq_true q101
        go_wp2
        go_ret
        exact ⟨by first | rfl | (simp; done) | (simp [*]; done), by repeat (first | exact Drawn0.refl _ | apply Drawn0.step)⟩
      rw [if_neg c6] at H
      have c6b0 : decide ((rd l0 x9_1) < (-32768)) = false := decide_eq_false c6
      clear c6
      by_cases c7 : (rd l0 x9_1) > 32767
      · rw [if_pos c7] at H
        have c7b0 : decide (32767 < (rd l0 x9_1)) = true := decide_eq_true c7
        clear c7
        obtain rfl := Option.some.inj H
        have p101 : 0 ≤ (x9_1 : Int) := of_decide_eq_true (by first | (with_reducible assumption) | assumption)
        have q101 : x9_1 < (l0.length : Int) := of_decide_eq_true (by first | (with_reducible assumption) | assumption)
        obtain ⟨ad101, e101, hx101_0⟩ := Kd.at_int HR0.out x9_1 p101 q101
        cases e101
        replace p101 := eq_true p101
        replace q101 := eq_true q101
        go_wp2
        go_ret
        exact ⟨by first | rfl | (simp; done) | (simp [*]; done), by repeat (first | exact Drawn0.refl _ | apply Drawn0.step)⟩
      rw [if_neg c7] at H
      have c7b0 : decide (32767 < (rd l0 x9_1)) = false := decide_eq_false c7
      clear c7
      have H' := Aside0.mk H
      clear H
      have p101 : 0 ≤ (x9_1 : Int) := of_decide_eq_true (by first | (with_reducible assumption) | assumption)
      have q101 : x9_1 < (l0.length : Int) := of_decide_eq_true (by first | (with_reducible assumption) | assumption)
      obtain ⟨ad101, e101, hx101_0⟩ := Kd.at_int HR0.out x9_1 p101 q101
      cases e101
      replace p101 := eq_true p101
      replace q101 := eq_true q101
      go_wp2
      go_roundg k1
      case measure => have := HK1.out; omega
      case rel => exact ⟨(wrap64 (x9_1 + 1)), (by first | rfl | (simp; done) | (simp [*]; done)), H', ⟨by have := HK1.out; omega⟩, by repeat (first | exact Drawn0.refl _ | apply Drawn0.step)⟩

/-! ### spec_l11Table: function 23 -/
def spec_l11Table.f  : Option (List Int) := some (([16384, 16364, 16305, 16207, 16069, 15893, 15679, 15426, 15137, 14811, 14449, 14053, 13623, 13160, 12665, 12140, 11585, 11003, 10394, 9760, 9102, 8423, 7723, 7005, 6270, 5520, 4756, 3981, 3196, 2404, 1606, 804, 0] : List Int))
set_option maxHeartbeats 8000000 in
set_option maxRecDepth 100000 in
theorem spec_l11Table.calls  (r : List Int) (w : World) (h : spec_l11Table.f  = some r) :
    Calls Tryd.prog 23 #[] w fun e w' => ∃ v0_ : Value, e = .returned (v0_) ∧ Kd.R (Kd.int .i64) 3 w' w.heap.size (fun _ => True) v0_ r ∧ Below w.heap.size w w' := by
  have HB := Aside0.mk (Below.refl w.heap.size w)
  have H : (some (([16384, 16364, 16305, 16207, 16069, 15893, 15679, 15426, 15137, 14811, 14449, 14053, 13623, 13160, 12665, 12140, 11585, 11003, 10394, 9760, 9102, 8423, 7723, 7005, 6270, 5520, 4756, 3981, 3196, 2404, 1606, 804, 0] : List Int))) = some r := h
  clear h
  obtain ⟨y102, hy102⟩ : ∃ y_ : List Int, y_ = (([16384, 16364, 16305, 16207, 16069, 15893, 15679, 15426, 15137, 14811, 14449, 14053, 13623, 13160, 12665, 12140, 11585, 11003, 10394, 9760, 9102, 8423, 7723, 7005, 6270, 5520, 4756, 3981, 3196, 2404, 1606, 804, 0] : List Int)) := ⟨_, rfl⟩
  replace H : (some y102) = some r := by first | (rw [hy102]; with_reducible exact H) | (have H2_ := (Option.bind_some _ _).symm.trans H; rw [hy102]; with_reducible exact H2_) | (have H2_ := (Option.bind_some _ _).symm.trans H; with_reducible exact H2_) | with_reducible exact H | (rw [hy102]; exact H) | exact H
  have Ny102 := Aside0.mk hy102
  clear hy102
  obtain rfl := Option.some.inj H
  go_enter Tryd.func23, Tryd.ntmps23
  go_wp2_with (first | ((with_reducible refine gate_dst (N := 1) rfl ?_); refine Kd.R_lit (Kd.int .i64) _ 3 ?hg (N := 1) ?hd (xs := ([16384, 16364, 16305, 16207, 16069, 15893, 15679, 15426, 15137, 14811, 14449, 14053, 13623, 13160, 12665, 12140, 11585, 11003, 10394, 9760, 9102, 8423, 7723, 7005, 6270, 5520, 4756, 3981, 3196, 2404, 1606, 804, 0] : List Int)) (inner := [.int .i64 16384, .int .i64 16364, .int .i64 16305, .int .i64 16207, .int .i64 16069, .int .i64 15893, .int .i64 15679, .int .i64 15426, .int .i64 15137, .int .i64 14811, .int .i64 14449, .int .i64 14053, .int .i64 13623, .int .i64 13160, .int .i64 12665, .int .i64 12140, .int .i64 11585, .int .i64 11003, .int .i64 10394, .int .i64 9760, .int .i64 9102, .int .i64 8423, .int .i64 7723, .int .i64 7005, .int .i64 6270, .int .i64 5520, .int .i64 4756, .int .i64 3981, .int .i64 3196, .int .i64 2404, .int .i64 1606, .int .i64 804, .int .i64 0]) (ok := fun _ => True) (okp := fun _ => True) ?hr ?hp (fun _ hk => hk) trivial (Below.refl _ _) (Nat.le_refl _) (by simp) ?_; (case hd => rfl); (case hg => rfl); (case hr => first | (go_simp; done) | (go_simp; rfl)); (case hp => exact (Reps.one (show Kd.M (Kd.int .i64) _ _ _ 16384 [.int .i64 16384] from rfl) (Reps.one (show Kd.M (Kd.int .i64) _ _ _ 16364 [.int .i64 16364] from rfl) (Reps.one (show Kd.M (Kd.int .i64) _ _ _ 16305 [.int .i64 16305] from rfl) (Reps.one (show Kd.M (Kd.int .i64) _ _ _ 16207 [.int .i64 16207] from rfl) (Reps.one (show Kd.M (Kd.int .i64) _ _ _ 16069 [.int .i64 16069] from rfl) (Reps.one (show Kd.M (Kd.int .i64) _ _ _ 15893 [.int .i64 15893] from rfl) (Reps.one (show Kd.M (Kd.int .i64) _ _ _ 15679 [.int .i64 15679] from rfl) (Reps.one (show Kd.M (Kd.int .i64) _ _ _ 15426 [.int .i64 15426] from rfl) (Reps.one (show Kd.M (Kd.int .i64) _ _ _ 15137 [.int .i64 15137] from rfl) (Reps.one (show Kd.M (Kd.int .i64) _ _ _ 14811 [.int .i64 14811] from rfl) (Reps.one (show Kd.M (Kd.int .i64) _ _ _ 14449 [.int .i64 14449] from rfl) (Reps.one (show Kd.M (Kd.int .i64) _ _ _ 14053 [.int .i64 14053] from rfl) (Reps.one (show Kd.M (Kd.int .i64) _ _ _ 13623 [.int .i64 13623] from rfl) (Reps.one (show Kd.M (Kd.int .i64) _ _ _ 13160 [.int .i64 13160] from rfl) (Reps.one (show Kd.M (Kd.int .i64) _ _ _ 12665 [.int .i64 12665] from rfl) (Reps.one (show Kd.M (Kd.int .i64) _ _ _ 12140 [.int .i64 12140] from rfl) (Reps.one (show Kd.M (Kd.int .i64) _ _ _ 11585 [.int .i64 11585] from rfl) (Reps.one (show Kd.M (Kd.int .i64) _ _ _ 11003 [.int .i64 11003] from rfl) (Reps.one (show Kd.M (Kd.int .i64) _ _ _ 10394 [.int .i64 10394] from rfl) (Reps.one (show Kd.M (Kd.int .i64) _ _ _ 9760 [.int .i64 9760] from rfl) (Reps.one (show Kd.M (Kd.int .i64) _ _ _ 9102 [.int .i64 9102] from rfl) (Reps.one (show Kd.M (Kd.int .i64) _ _ _ 8423 [.int .i64 8423] from rfl) (Reps.one (show Kd.M (Kd.int .i64) _ _ _ 7723 [.int .i64 7723] from rfl) (Reps.one (show Kd.M (Kd.int .i64) _ _ _ 7005 [.int .i64 7005] from rfl) (Reps.one (show Kd.M (Kd.int .i64) _ _ _ 6270 [.int .i64 6270] from rfl) (Reps.one (show Kd.M (Kd.int .i64) _ _ _ 5520 [.int .i64 5520] from rfl) (Reps.one (show Kd.M (Kd.int .i64) _ _ _ 4756 [.int .i64 4756] from rfl) (Reps.one (show Kd.M (Kd.int .i64) _ _ _ 3981 [.int .i64 3981] from rfl) (Reps.one (show Kd.M (Kd.int .i64) _ _ _ 3196 [.int .i64 3196] from rfl) (Reps.one (show Kd.M (Kd.int .i64) _ _ _ 2404 [.int .i64 2404] from rfl) (Reps.one (show Kd.M (Kd.int .i64) _ _ _ 1606 [.int .i64 1606] from rfl) (Reps.one (show Kd.M (Kd.int .i64) _ _ _ 804 [.int .i64 804] from rfl) (Reps.one (show Kd.M (Kd.int .i64) _ _ _ 0 [.int .i64 0] from rfl) (Reps.none _ _))))))))))))))))))))))))))))))))))); intro v103 w1 ho2 hb hg_ hnew_; clear hg_ hnew_; (first | rw [← Ny102.out] at ho2 | (simp only [Int.reduceToNat] at ho2; rw [← Ny102.out] at ho2)); have n0_ := Aside0.mk (Kd.R_lower ho2 (below_size (by repeat (first | (with_reducible first | exact HB.out | apply below_alloc | apply pw_below_drewN | apply below_drew1) | exact HB.out)))); have n1_ := Aside0.mk (below_step (by repeat (first | (with_reducible first | exact HB.out | apply below_alloc | apply pw_below_drewN | apply below_drew1) | exact HB.out)) hb); clear HB; have HO104 := n0_; have HB := n1_; clear n0_ n1_; clear hb ho2))
  go_ret
  exact ⟨_, by first | rfl | (simp [errW_none, errW_some] <;> rfl) | (simp [*, errW_none, errW_some] <;> rfl), by (with_reducible repeat (first | apply Kd.R_alloc | apply Kd.R_drewN | apply Kd.R_drew)); exact HO104.out, by repeat (first | (with_reducible first | exact HB.out | apply below_alloc | apply pw_below_drewN | apply below_drew1) | exact HB.out)⟩

/-! ### spec_l11C: function 25 -/
def spec_l11C.f (l0 : List Int) (a1 : Int) : Option (Int) := if (Go.bits .and .i64 a1 127) ≤ 32 then (if 0 ≤ (Go.bits .and .i64 a1 127) then (if (Go.bits .and .i64 a1 127) < (l0.length : Int) then (some (rd l0 (Go.bits .and .i64 a1 127))) else (none)) else (none)) else (if (Go.bits .and .i64 a1 127) ≤ 64 then (if 0 ≤ (wrap64 (64 - (Go.bits .and .i64 a1 127))) then (if (wrap64 (64 - (Go.bits .and .i64 a1 127))) < (l0.length : Int) then (some (wrap64 (-(rd l0 (wrap64 (64 - (Go.bits .and .i64 a1 127))))))) else (none)) else (none)) else (if (Go.bits .and .i64 a1 127) ≤ 96 then (if 0 ≤ (wrap64 ((Go.bits .and .i64 a1 127) - 64)) then (if (wrap64 ((Go.bits .and .i64 a1 127) - 64)) < (l0.length : Int) then (some (wrap64 (-(rd l0 (wrap64 ((Go.bits .and .i64 a1 127) - 64)))))) else (none)) else (none)) else (if 0 ≤ (wrap64 (128 - (Go.bits .and .i64 a1 127))) then (if (wrap64 (128 - (Go.bits .and .i64 a1 127))) < (l0.length : Int) then (some (rd l0 (wrap64 (128 - (Go.bits .and .i64 a1 127))))) else (none)) else (none))))
set_option maxHeartbeats 8000000 in
set_option maxRecDepth 100000 in
theorem spec_l11C.calls (A0 : Option Addr) (c0 : Nat) (l0 : List Int) (a1 : Int) (r : Int) (w : World) (hr0 : Kd.C (Kd.int .i64) w A0 l0.length l0) (hc0 : l0.length ≤ c0) (h : spec_l11C.f l0 a1 = some r) :
    Calls Tryd.prog 25 #[.slice A0 l0.length c0, .int .i64 a1] w fun e w' => e = .returned (.int .i64 r) ∧ Drawn0 w w' := by
  have HR0 := Aside0.mk hr0
  have HC0 := Aside0.mk hc0
  clear hr0 hc0
  have H : (if (Go.bits .and .i64 a1 127) ≤ 32 then (if 0 ≤ (Go.bits .and .i64 a1 127) then (if (Go.bits .and .i64 a1 127) < (l0.length : Int) then (some (rd l0 (Go.bits .and .i64 a1 127))) else (none)) else (none)) else (if (Go.bits .and .i64 a1 127) ≤ 64 then (if 0 ≤ (wrap64 (64 - (Go.bits .and .i64 a1 127))) then (if (wrap64 (64 - (Go.bits .and .i64 a1 127))) < (l0.length : Int) then (some (wrap64 (-(rd l0 (wrap64 (64 - (Go.bits .and .i64 a1 127))))))) else (none)) else (none)) else (if (Go.bits .and .i64 a1 127) ≤ 96 then (if 0 ≤ (wrap64 ((Go.bits .and .i64 a1 127) - 64)) then (if (wrap64 ((Go.bits .and .i64 a1 127) - 64)) < (l0.length : Int) then (some (wrap64 (-(rd l0 (wrap64 ((Go.bits .and .i64 a1 127) - 64)))))) else (none)) else (none)) else (if 0 ≤ (wrap64 (128 - (Go.bits .and .i64 a1 127))) then (if (wrap64 (128 - (Go.bits .and .i64 a1 127))) < (l0.length : Int) then (some (rd l0 (wrap64 (128 - (Go.bits .and .i64 a1 127))))) else (none)) else (none))))) = some r := h
  clear h
  by_cases c3 : (Go.bits .and .i64 a1 127) ≤ 32
  · rw [if_pos c3] at H
    have c3b0 : decide ((Go.bits .and .i64 a1 127) ≤ 32) = true := decide_eq_true c3
    clear c3
    by_cases c4 : 0 ≤ (Go.bits .and .i64 a1 127)
    rotate_left
    · rw [if_neg c4] at H
      exact absurd H (by simp)
    rw [if_pos c4] at H
    have c4b0 : decide (0 ≤ (Go.bits .and .i64 a1 127)) = true := decide_eq_true c4
    clear c4
    by_cases c5 : (Go.bits .and .i64 a1 127) < (l0.length : Int)
    rotate_left
    · rw [if_neg c5] at H
      exact absurd H (by simp)
    rw [if_pos c5] at H
    have c5b0 : decide ((Go.bits .and .i64 a1 127) < (l0.length : Int)) = true := decide_eq_true c5
    clear c5
    obtain rfl := Option.some.inj H
    have p105 : 0 ≤ ((Go.bits .and .i64 a1 127) : Int) := of_decide_eq_true (by first | (with_reducible assumption) | assumption)
    have q105 : (Go.bits .and .i64 a1 127) < (l0.length : Int) := of_decide_eq_true (by first | (with_reducible assumption) | assumption)
    obtain ⟨ad105, e105, hx105_0⟩ := Kd.at_int HR0.out (Go.bits .and .i64 a1 127) p105 q105
    cases e105
    replace p105 := eq_true p105
    replace q105 := eq_true q105
    go_enter Tryd.func25, Tryd.ntmps25
    go_wp2
    go_ret
    exact ⟨by first | rfl | (simp; done) | (simp [*]; done), by repeat (first | exact Drawn0.refl _ | apply Drawn0.step)⟩
  rw [if_neg c3] at H
  have c3b0 : decide ((Go.bits .and .i64 a1 127) ≤ 32) = false := decide_eq_false c3
  clear c3
  by_cases c6 : (Go.bits .and .i64 a1 127) ≤ 64
  · rw [if_pos c6] at H
    have c6b0 : decide ((Go.bits .and .i64 a1 127) ≤ 64) = true := decide_eq_true c6
    clear c6
    obtain ⟨ji7, hji7⟩ : ∃ j_ : Int, (wrap64 (64 - (Go.bits .and .i64 a1 127))) = j_ := ⟨_, rfl⟩
    replace H : (if 0 ≤ (ji7) then (if (ji7) < (l0.length : Int) then (some (wrap64 (-(rd l0 (ji7))))) else (none)) else (none)) = some r := by first | (rw [hji7] at H; exact H) | (simp only [hji7] at H ⊢; exact H)
    have hji7w : (IntKind.i64.wrap (64 - (Go.bits .and .i64 a1 127))) = ji7 := (i64_w _).trans hji7
    by_cases c8 : 0 ≤ (ji7)
    rotate_left
    · rw [if_neg c8] at H
      exact absurd H (by simp)
    rw [if_pos c8] at H
    have c8b0 : decide (0 ≤ (ji7)) = true := decide_eq_true c8
    clear c8
    by_cases c9 : (ji7) < (l0.length : Int)
    rotate_left
    · rw [if_neg c9] at H
      exact absurd H (by simp)
    rw [if_pos c9] at H
    have c9b0 : decide ((ji7) < (l0.length : Int)) = true := decide_eq_true c9
    clear c9
    obtain rfl := Option.some.inj H
    have p106 : 0 ≤ ((ji7) : Int) := of_decide_eq_true (by first | (with_reducible assumption) | assumption)
    have q106 : (ji7) < (l0.length : Int) := of_decide_eq_true (by first | (with_reducible assumption) | assumption)
    obtain ⟨ad106, e106, hx106_0⟩ := Kd.at_int HR0.out (ji7) p106 q106
    cases e106
    replace p106 := eq_true p106
    replace q106 := eq_true q106
    go_enter Tryd.func25, Tryd.ntmps25
    go_wp2
    go_ret
    exact ⟨by first | rfl | (simp; done) | (simp only [← hji7] <;> (first | rfl | simp)) | (simp [*]; done), by repeat (first | exact Drawn0.refl _ | apply Drawn0.step)⟩
  rw [if_neg c6] at H
  have c6b0 : decide ((Go.bits .and .i64 a1 127) ≤ 64) = false := decide_eq_false c6
  clear c6
  by_cases c10 : (Go.bits .and .i64 a1 127) ≤ 96
  rotate_left
  · rw [if_neg c10] at H
    have c10b0 : decide ((Go.bits .and .i64 a1 127) ≤ 96) = false := decide_eq_false c10
    clear c10
    obtain ⟨ji14, hji14⟩ : ∃ j_ : Int, (wrap64 (128 - (Go.bits .and .i64 a1 127))) = j_ := ⟨_, rfl⟩
    replace H : (if 0 ≤ (ji14) then (if (ji14) < (l0.length : Int) then (some (rd l0 (ji14))) else (none)) else (none)) = some r := by first | (rw [hji14] at H; exact H) | (simp only [hji14] at H ⊢; exact H)
    have hji14w : (IntKind.i64.wrap (128 - (Go.bits .and .i64 a1 127))) = ji14 := (i64_w _).trans hji14
    by_cases c15 : 0 ≤ (ji14)
    rotate_left
    · rw [if_neg c15] at H
      exact absurd H (by simp)
    rw [if_pos c15] at H
    have c15b0 : decide (0 ≤ (ji14)) = true := decide_eq_true c15
    clear c15
    by_cases c16 : (ji14) < (l0.length : Int)
    rotate_left
    · rw [if_neg c16] at H
      exact absurd H (by simp)
    rw [if_pos c16] at H
    have c16b0 : decide ((ji14) < (l0.length : Int)) = true := decide_eq_true c16
    clear c16
    obtain rfl := Option.some.inj H
    have p108 : 0 ≤ ((ji14) : Int) := of_decide_eq_true (by first | (with_reducible assumption) | assumption)
    have q108 : (ji14) < (l0.length : Int) := of_decide_eq_true (by first | (with_reducible assumption) | assumption)
    obtain ⟨ad108, e108, hx108_0⟩ := Kd.at_int HR0.out (ji14) p108 q108
    cases e108
    replace p108 := eq_true p108
    replace q108 := eq_true q108
    go_enter Tryd.func25, Tryd.ntmps25
    go_wp2
    go_ret
    exact ⟨by first | rfl | (simp; done) | (simp only [← hji14] <;> (first | rfl | simp)) | (simp [*]; done), by repeat (first | exact Drawn0.refl _ | apply Drawn0.step)⟩
  rw [if_pos c10] at H
  have c10b0 : decide ((Go.bits .and .i64 a1 127) ≤ 96) = true := decide_eq_true c10
  clear c10
  obtain ⟨ji11, hji11⟩ : ∃ j_ : Int, (wrap64 ((Go.bits .and .i64 a1 127) - 64)) = j_ := ⟨_, rfl⟩
  replace H : (if 0 ≤ (ji11) then (if (ji11) < (l0.length : Int) then (some (wrap64 (-(rd l0 (ji11))))) else (none)) else (none)) = some r := by first | (rw [hji11] at H; exact H) | (simp only [hji11] at H ⊢; exact H)
  have hji11w : (IntKind.i64.wrap ((Go.bits .and .i64 a1 127) - 64)) = ji11 := (i64_w _).trans hji11
  by_cases c12 : 0 ≤ (ji11)
  rotate_left
  · rw [if_neg c12] at H
    exact absurd H (by simp)
  rw [if_pos c12] at H
  have c12b0 : decide (0 ≤ (ji11)) = true := decide_eq_true c12
  clear c12
  by_cases c13 : (ji11) < (l0.length : Int)
  rotate_left
  · rw [if_neg c13] at H
    exact absurd H (by simp)
  rw [if_pos c13] at H
  have c13b0 : decide ((ji11) < (l0.length : Int)) = true := decide_eq_true c13
  clear c13
  obtain rfl := Option.some.inj H
  have p107 : 0 ≤ ((ji11) : Int) := of_decide_eq_true (by first | (with_reducible assumption) | assumption)
  have q107 : (ji11) < (l0.length : Int) := of_decide_eq_true (by first | (with_reducible assumption) | assumption)
  obtain ⟨ad107, e107, hx107_0⟩ := Kd.at_int HR0.out (ji11) p107 q107
  cases e107
  replace p107 := eq_true p107
  replace q107 := eq_true q107
  go_enter Tryd.func25, Tryd.ntmps25
  go_wp2
  go_ret
  exact ⟨by first | rfl | (simp; done) | (simp only [← hji11] <;> (first | rfl | simp)) | (simp [*]; done), by repeat (first | exact Drawn0.refl _ | apply Drawn0.step)⟩

/-! ### spec_Window: function 24 -/
def spec_Window.l0 : Nat → List Int → List Int → Int → Int → Option (List Int)
  | 0, _, _, _, _ => none
  | k + 1, x1, x2, x7, x8 => if x8 < x7 then ((spec_l11C.f x1 (wrap64 (31 - (wrap64 (2 * x8))))).bind fun t115 => (if 0 ≤ x8 then (if x8 < (x2.length : Int) then (spec_Window.l0 k x1 (x2.set (x8 : Int).toNat t115) x7 (wrap64 (x8 + 1))) else (none)) else (none))) else (some x2)
def spec_Window.f (k : Nat)  : Option (List Int) := (spec_l11Table.f).bind fun t109 => (if 32 ≤ 35184372088832 then ((some (List.replicate 32 0 : List Int)).bind fun y112 => (spec_Window.l0 k t109 y112 (y112.length : Int) 0)) else (none))
theorem spec_Window.mono_l : ∀ k, (∀ y0 y1 y2 y3, LeO (spec_Window.l0 k y0 y1 y2 y3) (spec_Window.l0 (k + 1) y0 y1 y2 y3))
  | 0 => fun _ _ _ _ r h => by simp [spec_Window.l0] at h
  | k + 1 => by
    have ih0 := spec_Window.mono_l k
    · intro y0 y1 y2 y3
      unfold spec_Window.l0
      repeat' first
      | (with_reducible exact ih0 _ _ _ _)
      | (with_reducible exact LeO.refl _)
      | (with_reducible exact LeO.none _)
      | (with_reducible refine LeO.ite ?_ ?_)
      | (with_reducible refine LeO.bind ?_ (fun _ => ?_))
      | exact ih0 _ _ _ _
      | exact LeO.none _
      | refine LeO.ite ?_ ?_
      | refine LeO.bind ?_ (fun _ => ?_)
theorem spec_Window.mono : ∀ k, LeO (spec_Window.f k ) (spec_Window.f (k + 1) ) := by
  intro  k
  have ih0 := spec_Window.mono_l k
  unfold spec_Window.f
  repeat' first
      | (with_reducible exact ih0 _ _ _ _)
      | (with_reducible exact LeO.refl _)
      | (with_reducible exact LeO.none _)
      | (with_reducible refine LeO.ite ?_ ?_)
      | (with_reducible refine LeO.bind ?_ (fun _ => ?_))
      | exact ih0 _ _ _ _
      | exact LeO.none _
      | refine LeO.ite ?_ ?_
      | refine LeO.bind ?_ (fun _ => ?_)
set_option maxHeartbeats 8000000 in
set_option maxRecDepth 100000 in
theorem spec_Window.calls (k : Nat)  (r : List Int) (w : World) (h : spec_Window.f k  = some r) :
    Calls Tryd.prog 24 #[] w fun e w' => ∃ v0_ : Value, e = .returned (v0_) ∧ Kd.R (Kd.int .i64) 3 w' w.heap.size (fun _ => True) v0_ r ∧ Below w.heap.size w w' := by
  have HB := Aside0.mk (Below.refl w.heap.size w)
  have H : ((spec_l11Table.f).bind fun t109 => (if 32 ≤ 35184372088832 then ((some (List.replicate 32 0 : List Int)).bind fun y112 => (spec_Window.l0 k t109 y112 (y112.length : Int) 0)) else (none))) = some r := h
  clear h
  replace H := Option.bind_eq_some_iff.mp H
  obtain ⟨t109, A10, H⟩ := H
  replace H : (if 32 ≤ 35184372088832 then ((some (List.replicate 32 0 : List Int)).bind fun y112 => (spec_Window.l0 k t109 y112 (y112.length : Int) 0)) else (none)) = some r := H
  have A1 := Aside0.mk A10
  clear A10
  by_cases c2 : 32 ≤ 35184372088832
  rotate_left
  · rw [if_neg c2] at H
    exact absurd H (by simp)
  rw [if_pos c2] at H
  have c2b0 := eq_true c2
  have c2b1 : decide (32 ≤ 35184372088832) = true := decide_eq_true c2
  clear c2
  obtain ⟨y112, hy112⟩ : ∃ y_ : List Int, y_ = (List.replicate 32 0) := ⟨_, rfl⟩
  replace H : (spec_Window.l0 k t109 y112 (y112.length : Int) 0) = some r := by first | (rw [hy112]; with_reducible exact H) | (have H2_ := (Option.bind_some _ _).symm.trans H; rw [hy112]; with_reducible exact H2_) | (have H2_ := (Option.bind_some _ _).symm.trans H; with_reducible exact H2_) | with_reducible exact H | (rw [hy112]; exact H) | exact H
  have Ny112 := Aside0.mk hy112
  clear hy112
  have H' := Aside0.mk H
  clear H
  go_enter Tryd.func24, Tryd.ntmps24
  go_wp2_with (first | ((with_reducible refine gate_callee (f := 23) rfl ?_); refine goesL_ (some 4) rfl rfl Tryd.func23 (by kernel_rfl) rfl #[] rfl (by (try simp only [List.map_toArray, List.map_cons, List.map_nil]); first | done | rfl | (simp only [List.length_drop, List.length_take]; rfl)) ?_; (with_reducible refine (spec_l11Table.calls  t109 _ A1.out).mono ?_); rintro e w3 ⟨v110, rfl, ho0, hb⟩; refine ⟨_, rfl, ?_⟩; have n0_ := Aside0.mk (Kd.R_lower ho0 (below_size (by repeat (first | (with_reducible first | exact HB.out | apply below_alloc | apply pw_below_drewN | apply below_drew1) | exact HB.out)))); have n1_ := Aside0.mk (below_step (by repeat (first | (with_reducible first | exact HB.out | apply below_alloc | apply pw_below_drewN | apply below_drew1) | exact HB.out)) hb); clear HB; have HO111 := n0_; have HB := n1_; clear n0_ n1_; (try clear hb); (try clear hb2); (try clear hk); (try clear hi); (try clear ho0)) | ((with_reducible refine gate_dst (N := 5) rfl ?_); refine Kd.R_make (Kd.int .i64) _ 3 rfl (N := 5) rfl 22 _ _ rfl 32 rfl rfl Tryd.underlying22 (.int .i64 0) 8 info3 rfl (by decide) (by omega) 0 (ok := fun _ => True) (okp := fun _ => True) rfl (fun _ hk => hk) trivial (by omega) (by omega) (Below.refl _ _) (Nat.le_refl _) ?_; intro v113 w4 ho5 hb hg_ hnew_; clear hg_ hnew_; (first | rw [← Ny112.out] at ho5 | (simp only [Int.reduceToNat] at ho5; rw [← Ny112.out] at ho5)); have n0_ := Aside0.mk (Kd.R_elder' (by (with_reducible repeat (first | apply Kd.R_alloc | apply Kd.R_drewN | apply Kd.R_drew)); exact HO111.out) (Kd.R_base ho5) hb); have n1_ := Aside0.mk (Kd.R_lower (Kd.R_new' ho5 (Kd.R_lt (by (with_reducible repeat (first | apply Kd.R_alloc | apply Kd.R_drewN | apply Kd.R_drew)); exact HO111.out))) (below_size (by repeat (first | (with_reducible first | exact HB.out | apply below_alloc | apply pw_below_drewN | apply below_drew1) | exact HB.out)))); have n2_ := Aside0.mk (below_step (by repeat (first | (with_reducible first | exact HB.out | apply below_alloc | apply pw_below_drewN | apply below_drew1) | exact HB.out)) hb); clear HO111; clear HB; have HO111 := n0_; have HO114 := n1_; have HB := n2_; clear n0_ n1_ n2_; clear hb ho5; obtain ⟨Ao6, co6, eo6⟩ := Kd.R_slice HO114.out; subst eo6))
  go_loopg [8] k (fun kq v8 w' => ∃ (x2_1 : List Int) (x8_1 : Int), v8 = .int .i64 x8_1 ∧ Aside0 (spec_Window.l0 kq t109 x2_1 (y112.length : Int) x8_1 = some r) ∧ Aside0 (kq ≤ k) ∧ Aside0 (Kd.R (Kd.int .i64) 3 w' w.heap.size (fun k_ => some k_ ≠ ((.slice Ao6 y112.length co6) : Value).ownBlock) v110 t109) ∧ Aside0 (Kd.R (Kd.int .i64) 3 w' w.heap.size (fun k_ => some k_ ≠ (v110 : Value).ownBlock) (.slice Ao6 y112.length co6) x2_1) ∧ Aside0 (Below w.heap.size w w'))
  case atStart => exact ⟨(y112), (0), (by first | rfl | (simp; done) | (simp [*]; done)), H', ⟨Nat.le_refl _⟩, ⟨by (with_reducible repeat (first | apply Kd.R_alloc | apply Kd.R_drewN | apply Kd.R_drew)); exact Kd.R_mono HO111.out (fun _ hk => hk.2)⟩, ⟨by (with_reducible repeat (first | apply Kd.R_alloc | apply Kd.R_drewN | apply Kd.R_drew)); exact Kd.R_mono HO114.out (fun _ hk => hk.2)⟩, ⟨by repeat (first | (with_reducible first | exact HB.out | apply below_alloc | apply pw_below_drewN | apply below_drew1) | exact HB.out)⟩⟩
  case round =>
    clear H'
    try clear c2
    try clear c2b0
    try clear c2b1
    try clear p2
    obtain ⟨x2_1, x8_1, rfl, HA, HK1, HO_1, HO_2, HB⟩ := hrel
    have hl2_1 := (Kd.R_reads' HO_2.out).1
    rw [hl2_1] at HO_2
    (try simp only [hl2_1])
    (try simp only [hl2_1] at HO_1)
    cases gk with
    | zero => exact absurd HA.out (by simp [spec_Window.l0])
    | succ k1 =>
      have H := HA.out
      clear HA
      simp only [spec_Window.l0] at H
      by_cases c7 : x8_1 < (y112.length : Int)
      rotate_left
      · rw [if_neg c7] at H
        have c7b0 : decide (x8_1 < (y112.length : Int)) = false := decide_eq_false c7
        (try simp only [hl2_1] at c7b0)
        clear c7
        obtain rfl := Option.some.inj H
        go_wp2
        go_ret
        exact ⟨_, by first | rfl | (simp [errW_none, errW_some] <;> rfl) | (simp [*, errW_none, errW_some] <;> rfl), by (with_reducible repeat (first | apply Kd.R_alloc | apply Kd.R_drewN | apply Kd.R_drew)); exact Kd.R_mono HO_2.out (fun _ hk => trivial), by repeat (first | (with_reducible first | exact HB.out | apply below_alloc | apply pw_below_drewN | apply below_drew1) | exact HB.out)⟩
      rw [if_pos c7] at H
      have c7b0 : decide (x8_1 < (y112.length : Int)) = true := decide_eq_true c7
      (try simp only [hl2_1] at c7b0)
      clear c7
      replace H := Option.bind_eq_some_iff.mp H
      obtain ⟨t115, A80, H⟩ := H
      replace H : (if 0 ≤ x8_1 then (if x8_1 < (x2_1.length : Int) then (spec_Window.l0 k1 t109 (x2_1.set (x8_1 : Int).toNat t115) (y112.length : Int) (wrap64 (x8_1 + 1))) else (none)) else (none)) = some r := H
      have A8 := Aside0.mk A80
      clear A80
      by_cases c9 : 0 ≤ x8_1
      rotate_left
      · rw [if_neg c9] at H
        exact absurd H (by simp)
      rw [if_pos c9] at H
      have c9b0 : decide (0 ≤ x8_1) = true := decide_eq_true c9
      clear c9
      by_cases c10 : x8_1 < (x2_1.length : Int)
      rotate_left
      · rw [if_neg c10] at H
        exact absurd H (by simp)
      rw [if_pos c10] at H
      have c10b0 : decide (x8_1 < (x2_1.length : Int)) = true := decide_eq_true c10
      (try simp only [hl2_1] at c10b0)
      clear c10
      obtain ⟨y116, hy116⟩ : ∃ y_ : List Int, y_ = (x2_1.set (x8_1 : Int).toNat t115) := ⟨_, rfl⟩
      replace H : (spec_Window.l0 k1 t109 y116 (y112.length : Int) (wrap64 (x8_1 + 1))) = some r := by first | (rw [hy116]; with_reducible exact H) | (have H2_ := (Option.bind_some _ _).symm.trans H; rw [hy116]; with_reducible exact H2_) | (have H2_ := (Option.bind_some _ _).symm.trans H; with_reducible exact H2_) | with_reducible exact H | (rw [hy116]; exact H) | exact H
      have Ny116 := Aside0.mk hy116
      clear hy116
      have H' := Aside0.mk H
      clear H
      obtain ⟨Ao12, co12, eo12⟩ := Kd.R_slice HO_1.out
      subst eo12
      go_wp2_with (first | ((with_reducible refine gate_callee (f := 25) rfl ?_); refine goesL_ (some 17) rfl rfl Tryd.func25 (by kernel_rfl) rfl #[.slice Ao12 t109.length co12, .int .i64 (wrap64 (31 - (wrap64 (2 * x8_1))))] rfl (by (try simp only [List.map_toArray, List.map_cons, List.map_nil]); first | done | rfl | (simp only [List.length_drop, List.length_take]; rfl)) ?_; (with_reducible refine (spec_l11C.calls _ _ t109 (wrap64 (31 - (wrap64 (2 * x8_1)))) t115 _ ?side1 ?side2 A8.out).mono ?_); (case side1 => repeat (first | exact (Kd.R_reads' HO_1.out).2.2 | (with_reducible refine Kd.C_alloc ?_ _) | (with_reducible refine Kd.C_drewN ?_ _) | (with_reducible refine Kd.C_drew ?_))); (case side2 => exact (Kd.R_reads' HO_1.out).2.1); rintro e w' ⟨rfl, ⟨nd, rfl⟩⟩; refine ⟨_, rfl, ?_⟩; (try (rw [drewN_self wr]; generalize hq_ : World.drewN wr _ = wr; have n0_ : Aside0 (Kd.R (Kd.int .i64) 3 wr w.heap.size (fun k_ => some k_ ≠ (.slice Ao6 x2_1.length co6 : Value).ownBlock) (.slice Ao12 t109.length co12) t109) := ⟨by rw [← hq_]; exact (by (with_reducible repeat (first | apply Kd.R_alloc | apply Kd.R_drewN | apply Kd.R_drew)); exact HO_1.out)⟩; have n1_ : Aside0 (Kd.R (Kd.int .i64) 3 wr w.heap.size (fun k_ => some k_ ≠ (.slice Ao12 t109.length co12 : Value).ownBlock) (.slice Ao6 x2_1.length co6) x2_1) := ⟨by rw [← hq_]; exact (by (with_reducible repeat (first | apply Kd.R_alloc | apply Kd.R_drewN | apply Kd.R_drew)); exact HO_2.out)⟩; have n2_ : Aside0 (Below w.heap.size w wr) := ⟨by rw [← hq_]; exact (by repeat (first | (with_reducible first | exact HB.out | apply below_alloc | apply pw_below_drewN | apply below_drew1) | exact HB.out))⟩; clear HO_1 HO_2 HB hq_; have HO_1 := n0_; have HO_2 := n1_; have HB := n2_; clear n0_ n1_ n2_)); have p11 : 0 ≤ (x8_1 : Int) := of_decide_eq_true (by first | (with_reducible assumption) | assumption); have q11 : (x8_1 : Int) < ((x2_1.length : Int) : Int) := of_decide_eq_true (by first | (with_reducible assumption) | assumption); obtain ⟨go11, co11, eo11, gb11, gl11, cl11, HG11⟩ := Kd.R_form HO_2.out (by omega); (first | cases eo11 | (injection eo11 with ea_ en_ ec_; (first | subst ea_ | (injection ea_ with ea_; subst ea_)); subst ec_; clear en_)); have GB11 := Aside0.mk gb11; have GG11 := Aside0.mk HG11; clear gb11 gl11 HG11; obtain ⟨hx11_0, hf11_0⟩ := Kd.R_celln 0 HO_2.out (x8_1 : Int) p11 q11; replace p11 := eq_true p11; replace q11 := eq_true q11; obtain ⟨hy13_, hz13_⟩ := Kd.R_celln 0 HO_2.out (x8_1 : Int) (of_decide_eq_true (by first | (with_reducible assumption) | assumption)) (of_decide_eq_true (by first | (with_reducible assumption) | assumption)); have HP13 := Kd.R_putg HO_2.out (x8_1 : Int) t115) | ((with_reducible refine gate_store (t := 3) (p := 18) rfl ?_); refine store_event (t := 3) (p := 18) (v := ?vo_w14) (w1 := (wr.setCell ⟨go11, (x8_1 : Int).toNat, none⟩ (.int .i64 t115))) ?hg ?ho ?hn ?hr ?_; (case ho => rfl); (case hg => rfl); (case hn => rfl); (case hr => first | (go_simp; done) | (go_simp; rfl)); intro w14 hw; have hg : wr.grownBy w14 (some go11) := (by rw [hw]; exact HP13.2); have hp_ : Kd.R (Kd.int .i64) 3 w14 w.heap.size (fun k_ => some k_ ≠ (.slice Ao12 t109.length co12 : Value).ownBlock) (.slice (some ⟨go11, 0, none⟩) x2_1.length co6) y116 := (by rw [hw, Ny116.out]; exact HP13.1); clear HP13; have n0_ := Aside0.mk (Kd.R_after (v := (.slice (some ⟨go11, 0, none⟩) x2_1.length co6)) (v1 := (.slice (some ⟨go11, 0, none⟩) x2_1.length co6)) (ok := (fun _ => True)) (by (with_reducible repeat (first | apply Kd.R_alloc | apply Kd.R_drewN | apply Kd.R_drew)); exact Kd.R_mono HO_1.out (fun _ hk => ⟨trivial, hk⟩)) hg (.inl rfl)); have n1_ := Aside0.mk (hp_); have n2_ := Aside0.mk ((by rw [hw]; exact below_set (HB.out) GB11.out : Below w.heap.size w w14)); clear HO_1; clear HO_2; clear HB; have HO_1 := n0_; have HO_2 := n1_; have HB := n2_; clear n0_ n1_ n2_; clear hg hw hp_))
      (try simp only [← hl2_1])
      go_roundg k1
      case measure => have := HK1.out; omega
      case rel => exact ⟨(y116), (wrap64 (x8_1 + 1)), (by first | rfl | (simp; done) | (simp [*]; done)), H', ⟨by have := HK1.out; omega⟩, ⟨by (try simp only [hl2_1]); (with_reducible repeat (first | apply Kd.R_alloc | apply Kd.R_drewN | apply Kd.R_drew)); exact Kd.R_mono HO_1.out (fun _ hk => hk.2)⟩, ⟨by (try simp only [hl2_1]); (with_reducible repeat (first | apply Kd.R_alloc | apply Kd.R_drewN | apply Kd.R_drew)); exact HO_2.out⟩, ⟨by repeat (first | (with_reducible first | exact HB.out | apply below_alloc | apply pw_below_drewN | apply below_drew1) | exact HB.out)⟩⟩

end Go.Proofs.YtmnihpedokeggaaDoor.PFnExactLap

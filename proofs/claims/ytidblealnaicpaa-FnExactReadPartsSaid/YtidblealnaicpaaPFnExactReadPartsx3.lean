-- written by myprint.py (a program of this session's over the kit's print)
import Derived.Test.YtidblealnaicpaaPFnExactReadPartsx0
namespace Go.Proofs.Ytidblealnaicpaa.PFnExactReadParts
open Go.RowKit Go.Proofs.YtidblealnaicpaaW.PrintWords Go.Proofs.YtidblealnaicpaaW.PrintLast Go.Proofs.YtidblealnaicpaaW.PrintMore
attribute [local go_sem] max2_int min2_int max_two min_two max_three min_three max_four min_four   -- for this text's walks alone
set_option linter.unusedVariables false
set_option linter.unusedSimpArgs false

/-! ### impl_ReadParts_1: function 144 -/
def impl_ReadParts_1.f (a0 : Int) : Option (Int × Int × Int × List Bool × List Int × (List (List Int))) := some (a0, 0, 0, ([] : List Bool), ([] : List Int), ([] : List (List Int)))
set_option maxHeartbeats 8000000 in
set_option maxRecDepth 100000 in
theorem impl_ReadParts_1.calls (a0 : Int) (r1 : Int) (r2 : Int) (r3 : Int) (r4 : List Bool) (r5 : List Int) (r6 : List (List Int)) (w : World) (h : impl_ReadParts_1.f a0 = some (r1, r2, r3, r4, r5, r6)) :
    Calls Try.prog 144 #[.int .i64 a0] w fun e w' => ∃ v3_ v4_ v5_ : Value, e = .returned (.agg #[.int .i64 r1, .int .i64 r2, .int .i64 r3, v3_, v4_, v5_]) ∧ Kd.R Kd.bool 4 w' w.heap.size (fun _ => True) v3_ r4 ∧ Kd.R (Kd.int .i64) 3 w' w.heap.size (fun _ => True) v4_ r5 ∧ Kd.S (Kd.slice 5 (Kd.int .u8)) 51 w' w.heap.size (fun _ => True) v5_ r6 ∧ Below w.heap.size w w' := by
  have hu94 := Try.underlying94
  have HB := Aside0.mk (Below.refl w.heap.size w)
  have H : (some (a0, 0, 0, ([] : List Bool), ([] : List Int), ([] : List (List Int)))) = some (r1, r2, r3, r4, r5, r6) := h
  clear h
  simp only [Option.some.injEq, Prod.mk.injEq] at H
  obtain ⟨rfl, rfl, rfl, rfl, rfl, rfl⟩ := H
  go_enter Try.func144, Try.ntmps144
  go_wp2_with (first | ((with_reducible refine gate_dst (N := 2) rfl ?_); refine box_event ?hg (N := 2) ?hd (cs := #[.int .i64 0, .int .i64 0, .int .i64 0, .slice none 0 0, .slice none 0 0, .slice none 0 0]) (t := 94) ?hr ?_; (case hd => rfl); (case hg => rfl); (case hr => first | (go_simp; done) | (go_simp; rfl)); intro gb111 hg w2 hbox hb; have n0_ := Aside0.mk (below_step (by repeat (first | (with_reducible first | exact HB.out | apply below_alloc | apply pw_below_drewN | apply below_drew1) | exact HB.out)) hb); have n1_ := Aside0.mk (hbox); have n2_ := Aside0.mk ((by rw [hg]; exact (below_size (by repeat (first | (with_reducible first | exact HB.out | apply below_alloc | apply pw_below_drewN | apply below_drew1) | exact HB.out))) : w.heap.size ≤ gb111)); have n3_ := n2_; clear HB; have HB := n0_; have BK111 := n1_; have GW111 := n2_; have GE111 := n3_; clear n0_ n1_ n2_ n3_; clear hb hbox hg; have hcz3_0 : w2.cell? ⟨gb111, 0, none⟩ = some (.int .i64 0) := (blk_cell BK111.out 0).trans rfl; have hcz3_1 : w2.cell? ⟨gb111, 1, none⟩ = some (.int .i64 0) := (blk_cell BK111.out 1).trans rfl; have hcz3_2 : w2.cell? ⟨gb111, 2, none⟩ = some (.int .i64 0) := (blk_cell BK111.out 2).trans rfl; have hcz3_3 : w2.cell? ⟨gb111, 3, none⟩ = some (.slice none 0 0) := (blk_cell BK111.out 3).trans rfl; have hcz3_4 : w2.cell? ⟨gb111, 4, none⟩ = some (.slice none 0 0) := (blk_cell BK111.out 4).trans rfl; have hcz3_5 : w2.cell? ⟨gb111, 5, none⟩ = some (.slice none 0 0) := (blk_cell BK111.out 5).trans rfl; have hfz3_0 := blk_frozen BK111.out 0; have hfz3_1 := blk_frozen BK111.out 1; have hfz3_2 := blk_frozen BK111.out 2; have hfz3_3 := blk_frozen BK111.out 3; have hfz3_4 := blk_frozen BK111.out 4; have hfz3_5 := blk_frozen BK111.out 5))
  refine bodyPost_ret (results_cell_row rfl _ _ gb111 94 #[.int .i64 a0, .int .i64 0, .int .i64 0, .slice none 0 0, .slice none 0 0, .slice none 0 0] (0, 0) _ rfl (by (with_reducible repeat (first | refine blk_drewN ?_ _ | refine blk_drew ?_ | refine blk_alloc ?_ _)); refine blk_put (cs := #[.int .i64 a0, .int .i64 0, .int .i64 0, .slice none 0 0, .slice none 0 0, .slice none 0 0]) ?_ 5 _ rfl; (with_reducible repeat (first | refine blk_drewN ?_ _ | refine blk_drew ?_ | refine blk_alloc ?_ _)); refine blk_put (cs := #[.int .i64 a0, .int .i64 0, .int .i64 0, .slice none 0 0, .slice none 0 0, .slice none 0 0]) ?_ 4 _ rfl; (with_reducible repeat (first | refine blk_drewN ?_ _ | refine blk_drew ?_ | refine blk_alloc ?_ _)); refine blk_put (cs := #[.int .i64 a0, .int .i64 0, .int .i64 0, .slice none 0 0, .slice none 0 0, .slice none 0 0]) ?_ 3 _ rfl; (with_reducible repeat (first | refine blk_drewN ?_ _ | refine blk_drew ?_ | refine blk_alloc ?_ _)); refine blk_put (cs := #[.int .i64 a0, .int .i64 0, .int .i64 0, .slice none 0 0, .slice none 0 0, .slice none 0 0]) ?_ 2 _ rfl; (with_reducible repeat (first | refine blk_drewN ?_ _ | refine blk_drew ?_ | refine blk_alloc ?_ _)); refine blk_put (cs := #[.int .i64 a0, .int .i64 0, .int .i64 0, .slice none 0 0, .slice none 0 0, .slice none 0 0]) ?_ 1 _ rfl; (with_reducible repeat (first | refine blk_drewN ?_ _ | refine blk_drew ?_ | refine blk_alloc ?_ _)); refine blk_put (cs := #[.int .i64 0, .int .i64 0, .int .i64 0, .slice none 0 0, .slice none 0 0, .slice none 0 0]) ?_ 0 _ rfl; (with_reducible repeat (first | refine blk_drewN ?_ _ | refine blk_drew ?_ | refine blk_alloc ?_ _)); exact BK111.out) Try.underlying94 rfl (by kernel_rfl)) rfl ?_
  exact ⟨_, _, _, by first | rfl | (simp [errW_none, errW_some] <;> rfl) | (simp [*, errW_none, errW_some] <;> rfl), by first | exact Kd.R_nil _ _ _ _ _ | exact Kd.N_nil _ _ _ _ _ | exact Kd.V_nil _ _ _ _ _ | exact Kd.Q_nil _ _ _ _ _ | exact Kd.S_nil _ _ _ _ _, by first | exact Kd.R_nil _ _ _ _ _ | exact Kd.N_nil _ _ _ _ _ | exact Kd.V_nil _ _ _ _ _ | exact Kd.Q_nil _ _ _ _ _ | exact Kd.S_nil _ _ _ _ _, by first | exact Kd.S_nil _ _ _ _ _ | exact Kd.N_nil _ _ _ _ _ | exact Kd.V_nil _ _ _ _ _ | exact Kd.Q_nil _ _ _ _ _ | exact Kd.R_nil _ _ _ _ _, by repeat (first | (with_reducible first | exact HB.out | apply below_alloc | apply pw_below_drewN | apply below_drew1 | refine below_set ?_ GE111.out) | exact HB.out)⟩

/-! ### impl_zmagic: function 145 -/
def impl_zmagic.l0 : Nat → List Int → ByteArray → Int → Int → Option (Int)
  | 0, _, _, _, _ => none
  | k + 1, x0, x1, x7, x8 => if x8 < x7 then (if x8 ≥ (x0.length : Int) then (some 2) else (if 0 ≤ x8 then (if x8 < (x0.length : Int) then (if x8 < (x1.size : Int) then (if (rd x0 x8) = (bt x1 x8) then (impl_zmagic.l0 k x0 x1 x7 (wrap64 (x8 + 1))) else (some 4)) else (none)) else (none)) else (none))) else (some 0)
def impl_zmagic.f (k : Nat) (l0 : List Int) (a1 : ByteArray) : Option (Int) := impl_zmagic.l0 k l0 a1 (a1.size : Int) 0
theorem impl_zmagic.mono_l : ∀ k, (∀ y0 y1 y2 y3, LeO (impl_zmagic.l0 k y0 y1 y2 y3) (impl_zmagic.l0 (k + 1) y0 y1 y2 y3))
  | 0 => fun _ _ _ _ r h => by simp [impl_zmagic.l0] at h
  | k + 1 => by
    have ih0 := impl_zmagic.mono_l k
    · intro y0 y1 y2 y3
      unfold impl_zmagic.l0
      repeat' first
      | (with_reducible exact ih0 _ _ _ _)
      | (with_reducible exact LeO.refl _)
      | (with_reducible exact LeO.none _)
      | (with_reducible refine LeO.ite ?_ ?_)
      | (with_reducible refine LeO.bind ?_ (fun _ => ?_))
      | exact ih0 _ _ _ _
      | exact LeO.none _
      | refine LeO.ite ?_ ?_
      | refine LeO.bind ?_ (fun _ => ?_)
theorem impl_zmagic.mono : ∀ a0 a1 k, LeO (impl_zmagic.f k a0 a1) (impl_zmagic.f (k + 1) a0 a1) := by
  intro a0 a1 k
  have ih0 := impl_zmagic.mono_l k
  unfold impl_zmagic.f
  repeat' first
      | (with_reducible exact ih0 _ _ _ _)
      | (with_reducible exact LeO.refl _)
      | (with_reducible exact LeO.none _)
      | (with_reducible refine LeO.ite ?_ ?_)
      | (with_reducible refine LeO.bind ?_ (fun _ => ?_))
      | exact ih0 _ _ _ _
      | exact LeO.none _
      | refine LeO.ite ?_ ?_
      | refine LeO.bind ?_ (fun _ => ?_)
set_option maxHeartbeats 8000000 in
set_option maxRecDepth 100000 in
theorem impl_zmagic.calls (k : Nat) (A0 : Option Addr) (c0 : Nat) (l0 : List Int) (a1 : ByteArray) (r : Int) (w : World) (hr0 : Kd.C (Kd.int .u8) w A0 l0.length l0) (hc0 : l0.length ≤ c0) (h : impl_zmagic.f k l0 a1 = some r) :
    Calls Try.prog 145 #[.slice A0 l0.length c0, .string a1] w fun e w' => e = .returned (.int .i64 r) ∧ Drawn0 w w' := by
  have HR0 := Aside0.mk hr0
  have HC0 := Aside0.mk hc0
  clear hr0 hc0
  have H : (impl_zmagic.l0 k l0 a1 (a1.size : Int) 0) = some r := h
  clear h
  have H' := Aside0.mk H
  clear H
  go_enter Try.func145, Try.ntmps145
  go_wp2
  repeat (go_quiet (fail); try go_wp2)
  go_loopg [8] k (fun kq v8 w' => ∃ (x8_1 : Int), v8 = .int .i64 x8_1 ∧ Aside0 (impl_zmagic.l0 kq l0 a1 (a1.size : Int) x8_1 = some r) ∧ Aside0 (kq ≤ k) ∧ Drawn0 w w')
  case atStart => exact ⟨(0), (by first | rfl | (simp; done) | (simp [*]; done)), H', ⟨Nat.le_refl _⟩, by repeat (first | exact Drawn0.refl _ | apply Drawn0.step)⟩
  case round =>
    clear H'
    try clear c1
    try clear p2
    obtain ⟨x8_1, rfl, HA, HK1, ⟨m1, rfl⟩⟩ := hrel
    cases gk with
    | zero => exact absurd HA.out (by simp [impl_zmagic.l0])
    | succ k1 =>
      have H := HA.out
      clear HA
      simp only [impl_zmagic.l0] at H
      by_cases c3 : x8_1 < (a1.size : Int)
      rotate_left
      · rw [if_neg c3] at H
        have c3b0 : decide (x8_1 < (a1.size : Int)) = false := decide_eq_false c3
        clear c3
        obtain rfl := Option.some.inj H
        go_wp2
        repeat (go_quiet (fail); try go_wp2)
        go_ret
        exact ⟨by first | rfl | (simp; done) | (simp [*]; done), by repeat (first | exact Drawn0.refl _ | apply Drawn0.step)⟩
      rw [if_pos c3] at H
      have c3b0 : decide (x8_1 < (a1.size : Int)) = true := decide_eq_true c3
      clear c3
      by_cases c4 : x8_1 ≥ (l0.length : Int)
      · rw [if_pos c4] at H
        have c4b0 : decide ((l0.length : Int) ≤ x8_1) = true := decide_eq_true c4
        clear c4
        obtain rfl := Option.some.inj H
        go_wp2
        repeat (go_quiet (fail); try go_wp2)
        go_ret
        exact ⟨by first | rfl | (simp; done) | (simp [*]; done), by repeat (first | exact Drawn0.refl _ | apply Drawn0.step)⟩
      rw [if_neg c4] at H
      have c4b0 : decide ((l0.length : Int) ≤ x8_1) = false := decide_eq_false c4
      clear c4
      by_cases c5 : 0 ≤ x8_1
      rotate_left
      · rw [if_neg c5] at H
        exact absurd H (by simp)
      rw [if_pos c5] at H
      have c5b0 : decide (0 ≤ x8_1) = true := decide_eq_true c5
      clear c5
      by_cases c6 : x8_1 < (l0.length : Int)
      rotate_left
      · rw [if_neg c6] at H
        exact absurd H (by simp)
      rw [if_pos c6] at H
      have c6b0 : decide (x8_1 < (l0.length : Int)) = true := decide_eq_true c6
      clear c6
      by_cases c7 : x8_1 < (a1.size : Int)
      rotate_left
      · rw [if_neg c7] at H
        exact absurd H (by simp)
      rw [if_pos c7] at H
      have c7b0 : decide (x8_1 < (a1.size : Int)) = true := decide_eq_true c7
      clear c7
      by_cases c9 : (rd l0 x8_1) = (bt a1 x8_1)
      rotate_left
      · rw [if_neg c9] at H
        have c9b0 : ((rd l0 x8_1) == (bt a1 x8_1)) = false := beq_eq_false_iff_ne.mpr c9
        have c9b1 : ((rd l0 x8_1) != (bt a1 x8_1)) = true := bne_iff_ne.mpr c9
        obtain rfl := Option.some.inj H
        have p112 : 0 ≤ (x8_1 : Int) := of_decide_eq_true (by first | (with_reducible assumption) | assumption)
        have q112 : x8_1 < (l0.length : Int) := of_decide_eq_true (by first | (with_reducible assumption) | assumption)
        obtain ⟨ad112, e112, hx112_0⟩ := Kd.at_int HR0.out x8_1 p112 q112
        cases e112
        replace p112 := eq_true p112
        replace q112 := eq_true q112
        have p8 : 0 ≤ (x8_1 : Int) := of_decide_eq_true (by first | (with_reducible assumption) | assumption)
        have q8 : x8_1 < (a1.size : Int) := of_decide_eq_true (by first | (with_reducible assumption) | assumption)
        have hx8 := bt_at a1 x8_1
        replace p8 := eq_true p8
        replace q8 := eq_true q8
        go_wp2
        repeat (go_quiet (fail); try go_wp2)
        go_ret
        exact ⟨by first | rfl | (simp; done) | (simp [*]; done), by repeat (first | exact Drawn0.refl _ | apply Drawn0.step)⟩
      rw [if_pos c9] at H
      have c9b0 : ((rd l0 x8_1) == (bt a1 x8_1)) = true := beq_iff_eq.mpr c9
      have c9b1 : ((rd l0 x8_1) != (bt a1 x8_1)) = false := bne_eq_false_iff_eq.mpr c9
      clear c9
      have H' := Aside0.mk H
      clear H
      have p112 : 0 ≤ (x8_1 : Int) := of_decide_eq_true (by first | (with_reducible assumption) | assumption)
      have q112 : x8_1 < (l0.length : Int) := of_decide_eq_true (by first | (with_reducible assumption) | assumption)
      obtain ⟨ad112, e112, hx112_0⟩ := Kd.at_int HR0.out x8_1 p112 q112
      cases e112
      replace p112 := eq_true p112
      replace q112 := eq_true q112
      have p8 : 0 ≤ (x8_1 : Int) := of_decide_eq_true (by first | (with_reducible assumption) | assumption)
      have q8 : x8_1 < (a1.size : Int) := of_decide_eq_true (by first | (with_reducible assumption) | assumption)
      have hx8 := bt_at a1 x8_1
      replace p8 := eq_true p8
      replace q8 := eq_true q8
      go_wp2
      repeat (go_quiet (fail); try go_wp2)
      go_roundg k1
      case measure => have := HK1.out; omega
      case rel => exact ⟨(wrap64 (x8_1 + 1)), (by first | rfl | (simp; done) | (simp [*]; done)), H', ⟨by have := HK1.out; omega⟩, by repeat (first | exact Drawn0.refl _ | apply Drawn0.step)⟩

/-! ### impl_zsides: function 146 -/
def impl_zsides.f (a0 : Int) (a1 : Int) : Option (Bool) := if a0 ≥ 8 then (if a0 ≤ 64 then (if (Int.tmod a0 8) = 0 then (if a1 ≥ 8 then (if a1 ≤ 64 then (some ((Int.tmod a1 8) == 0)) else (some false)) else (some false)) else (some false)) else (some false)) else (some false)
set_option maxHeartbeats 8000000 in
set_option maxRecDepth 100000 in
theorem impl_zsides.calls (a0 : Int) (a1 : Int) (r : Bool) (w : World) (h : impl_zsides.f a0 a1 = some r) :
    Calls Try.prog 146 #[.int .i64 a0, .int .i64 a1] w fun e w' => e = .returned (.bool r) ∧ Drawn0 w w' := by
  have H : (if a0 ≥ 8 then (if a0 ≤ 64 then (if (Int.tmod a0 8) = 0 then (if a1 ≥ 8 then (if a1 ≤ 64 then (some ((Int.tmod a1 8) == 0)) else (some false)) else (some false)) else (some false)) else (some false)) else (some false)) = some r := h
  clear h
  by_cases c3 : a0 ≥ 8
  · rw [if_pos c3] at H
    have c3b0 : decide (8 ≤ a0) = true := decide_eq_true c3
    clear c3
    by_cases c4 : a0 ≤ 64
    · rw [if_pos c4] at H
      have c4b0 : decide (a0 ≤ 64) = true := decide_eq_true c4
      clear c4
      by_cases c5 : (Int.tmod a0 8) = 0
      · rw [if_pos c5] at H
        have c5b0 : ((Int.tmod a0 8) == 0) = true := beq_iff_eq.mpr c5
        have c5b1 : ((Int.tmod a0 8) != 0) = false := bne_eq_false_iff_eq.mpr c5
        clear c5
        by_cases c6 : a1 ≥ 8
        · rw [if_pos c6] at H
          have c6b0 : decide (8 ≤ a1) = true := decide_eq_true c6
          clear c6
          by_cases c7 : a1 ≤ 64
          · rw [if_pos c7] at H
            have c7b0 : decide (a1 ≤ 64) = true := decide_eq_true c7
            clear c7
            obtain rfl := Option.some.inj H
            go_enter Try.func146, Try.ntmps146
            go_wp2
            go_ret
            exact ⟨by first | rfl | (simp; done) | (simp [*]; done), by repeat (first | exact Drawn0.refl _ | apply Drawn0.step)⟩
          · rw [if_neg c7] at H
            have c7b0 : decide (a1 ≤ 64) = false := decide_eq_false c7
            clear c7
            obtain rfl := Option.some.inj H
            go_enter Try.func146, Try.ntmps146
            go_wp2
            go_ret
            exact ⟨by first | rfl | (simp; done) | (simp [*]; done), by repeat (first | exact Drawn0.refl _ | apply Drawn0.step)⟩
        · rw [if_neg c6] at H
          have c6b0 : decide (8 ≤ a1) = false := decide_eq_false c6
          clear c6
          obtain rfl := Option.some.inj H
          go_enter Try.func146, Try.ntmps146
          go_wp2
          go_ret
          exact ⟨by first | rfl | (simp; done) | (simp [*]; done), by repeat (first | exact Drawn0.refl _ | apply Drawn0.step)⟩
      · rw [if_neg c5] at H
        have c5b0 : ((Int.tmod a0 8) == 0) = false := beq_eq_false_iff_ne.mpr c5
        have c5b1 : ((Int.tmod a0 8) != 0) = true := bne_iff_ne.mpr c5
        obtain rfl := Option.some.inj H
        go_enter Try.func146, Try.ntmps146
        go_wp2
        go_ret
        exact ⟨by first | rfl | (simp; done) | (simp [*]; done), by repeat (first | exact Drawn0.refl _ | apply Drawn0.step)⟩
    · rw [if_neg c4] at H
      have c4b0 : decide (a0 ≤ 64) = false := decide_eq_false c4
      clear c4
      obtain rfl := Option.some.inj H
      go_enter Try.func146, Try.ntmps146
      go_wp2
      go_ret
      exact ⟨by first | rfl | (simp; done) | (simp [*]; done), by repeat (first | exact Drawn0.refl _ | apply Drawn0.step)⟩
  · rw [if_neg c3] at H
    have c3b0 : decide (8 ≤ a0) = false := decide_eq_false c3
    clear c3
    obtain rfl := Option.some.inj H
    go_enter Try.func146, Try.ntmps146
    go_wp2
    go_ret
    exact ⟨by first | rfl | (simp; done) | (simp [*]; done), by repeat (first | exact Drawn0.refl _ | apply Drawn0.step)⟩

/-! ### impl_zget4: function 147 -/
def impl_zget4.f (l0 : List Int) : Option (Int) := if 0 < (l0.length : Int) then (if 1 < (l0.length : Int) then (if 2 < (l0.length : Int) then (if 3 < (l0.length : Int) then (some (Go.bits .or .i64 (Go.bits .or .i64 (Go.bits .or .i64 (wrap64 ((wrap64 (rd l0 0)) * 16777216)) (wrap64 ((wrap64 (rd l0 1)) * 65536))) (wrap64 ((wrap64 (rd l0 2)) * 256))) (wrap64 (rd l0 3)))) else (none)) else (none)) else (none)) else (none)
set_option maxHeartbeats 8000000 in
set_option maxRecDepth 100000 in
theorem impl_zget4.calls (A0 : Option Addr) (c0 : Nat) (l0 : List Int) (r : Int) (w : World) (hr0 : Kd.C (Kd.int .u8) w A0 l0.length l0) (hc0 : l0.length ≤ c0) (h : impl_zget4.f l0 = some r) :
    Calls Try.prog 147 #[.slice A0 l0.length c0] w fun e w' => e = .returned (.int .i64 r) ∧ Drawn0 w w' := by
  have HR0 := Aside0.mk hr0
  have HC0 := Aside0.mk hc0
  clear hr0 hc0
  have H : (if 0 < (l0.length : Int) then (if 1 < (l0.length : Int) then (if 2 < (l0.length : Int) then (if 3 < (l0.length : Int) then (some (Go.bits .or .i64 (Go.bits .or .i64 (Go.bits .or .i64 (wrap64 ((wrap64 (rd l0 0)) * 16777216)) (wrap64 ((wrap64 (rd l0 1)) * 65536))) (wrap64 ((wrap64 (rd l0 2)) * 256))) (wrap64 (rd l0 3)))) else (none)) else (none)) else (none)) else (none)) = some r := h
  clear h
  by_cases c2 : 0 < (l0.length : Int)
  rotate_left
  · rw [if_neg c2] at H
    exact absurd H (by simp)
  rw [if_pos c2] at H
  have c2b0 : decide (0 < (l0.length : Int)) = true := decide_eq_true c2
  have c2b1 : decide (0 < l0.length) = true := decide_eq_true (by omega)
  have c2b2 : 0 < l0.length := by omega
  clear c2
  by_cases c3 : 1 < (l0.length : Int)
  rotate_left
  · rw [if_neg c3] at H
    exact absurd H (by simp)
  rw [if_pos c3] at H
  have c3b0 : decide (1 < (l0.length : Int)) = true := decide_eq_true c3
  have c3b1 : decide (1 < l0.length) = true := decide_eq_true (by omega)
  have c3b2 : 1 < l0.length := by omega
  clear c3
  by_cases c4 : 2 < (l0.length : Int)
  rotate_left
  · rw [if_neg c4] at H
    exact absurd H (by simp)
  rw [if_pos c4] at H
  have c4b0 : decide (2 < (l0.length : Int)) = true := decide_eq_true c4
  have c4b1 : decide (2 < l0.length) = true := decide_eq_true (by omega)
  have c4b2 : 2 < l0.length := by omega
  clear c4
  by_cases c5 : 3 < (l0.length : Int)
  rotate_left
  · rw [if_neg c5] at H
    exact absurd H (by simp)
  rw [if_pos c5] at H
  have c5b0 : decide (3 < (l0.length : Int)) = true := decide_eq_true c5
  have c5b1 : decide (3 < l0.length) = true := decide_eq_true (by omega)
  have c5b2 : 3 < l0.length := by omega
  clear c5
  obtain rfl := Option.some.inj H
  have p113 : 0 ≤ (0 : Int) := (by omega)
  have q113 : 0 < (l0.length : Int) := of_decide_eq_true (by first | (with_reducible assumption) | assumption)
  obtain ⟨ad113, e113, hx113_0⟩ := Kd.at_int HR0.out 0 p113 q113
  cases e113
  have qi113 : (0 < l0.length) = True := eq_true (by omega)
  (try rw [show ((0 : Int)).toNat = 0 from rfl] at hx113_0)
  (try rw [Addr.add_zero'] at hx113_0)
  replace p113 := eq_true p113
  replace q113 := eq_true q113
  have p114 : 0 ≤ (1 : Int) := (by omega)
  have q114 : 1 < (l0.length : Int) := of_decide_eq_true (by first | (with_reducible assumption) | assumption)
  obtain ⟨ad114, e114, hx114_0⟩ := Kd.at_int HR0.out 1 p114 q114
  obtain rfl : ad113 = ad114 := (by injection e114)
  (try simp only [show (1 : Int).toNat = 1 from rfl, Nat.reduceMul, Nat.reduceEqDiff, Go.Addr.add, ↓reduceIte] at hx114_0)
  have qi114 : (1 < l0.length) = True := eq_true (by omega)
  (try rw [show ((1 : Int)).toNat = 1 from rfl] at hx114_0)
  replace p114 := eq_true p114
  replace q114 := eq_true q114
  have p115 : 0 ≤ (2 : Int) := (by omega)
  have q115 : 2 < (l0.length : Int) := of_decide_eq_true (by first | (with_reducible assumption) | assumption)
  obtain ⟨ad115, e115, hx115_0⟩ := Kd.at_int HR0.out 2 p115 q115
  obtain rfl : ad113 = ad115 := (by injection e115)
  (try simp only [show (2 : Int).toNat = 2 from rfl, Nat.reduceMul, Nat.reduceEqDiff, Go.Addr.add, ↓reduceIte] at hx115_0)
  have qi115 : (2 < l0.length) = True := eq_true (by omega)
  (try rw [show ((2 : Int)).toNat = 2 from rfl] at hx115_0)
  replace p115 := eq_true p115
  replace q115 := eq_true q115
  have p116 : 0 ≤ (3 : Int) := (by omega)
  have q116 : 3 < (l0.length : Int) := of_decide_eq_true (by first | (with_reducible assumption) | assumption)
  obtain ⟨ad116, e116, hx116_0⟩ := Kd.at_int HR0.out 3 p116 q116
  obtain rfl : ad113 = ad116 := (by injection e116)
  (try simp only [show (3 : Int).toNat = 3 from rfl, Nat.reduceMul, Nat.reduceEqDiff, Go.Addr.add, ↓reduceIte] at hx116_0)
  have qi116 : (3 < l0.length) = True := eq_true (by omega)
  (try rw [show ((3 : Int)).toNat = 3 from rfl] at hx116_0)
  replace p116 := eq_true p116
  replace q116 := eq_true q116
  go_enter Try.func147, Try.ntmps147
  go_wp2
  repeat (go_quiet (fail); try go_wp2)
  go_ret
  exact ⟨by first | rfl | (simp; done) | (simp [*]; done), by repeat (first | exact Drawn0.refl _ | apply Drawn0.step)⟩

/-! ### impl_Crc: function 148 -/
mutual
def impl_Crc.l0 : Nat → Int → List Int → Int → Int → Option (Int)
  | 0, _, _, _, _ => none
  | k + 1, x3, x6, x7, x8 => if x8 < x7 then (if 0 ≤ x8 then (if x8 < (x6.length : Int) then (impl_Crc.l1 k (Go.bits .xor .u32 x3 ((rd x6 x8) % 4294967296)) x6 x7 x8 0) else (none)) else (none)) else (some (Go.bits .xor .u32 4294967295 x3))
def impl_Crc.l1 : Nat → Int → List Int → Int → Int → Int → Option (Int)
  | 0, _, _, _, _, _ => none
  | k + 1, x3, x6, x7, x8, x16 => if x16 < 8 then (impl_Crc.l1 k (Go.bits .xor .u32 (x3 / 2) ((3988292384 * (Go.bits .and .u32 x3 1)) % 4294967296)) x6 x7 x8 (wrap64 (x16 + 1))) else (impl_Crc.l0 k x3 x6 x7 (wrap64 (x8 + 1)))
end
def impl_Crc.f (k : Nat) (l0 : List Int) : Option (Int) := impl_Crc.l0 k 4294967295 l0 (l0.length : Int) 0
theorem impl_Crc.mono_l : ∀ k, (∀ y0 y1 y2 y3, LeO (impl_Crc.l0 k y0 y1 y2 y3) (impl_Crc.l0 (k + 1) y0 y1 y2 y3)) ∧ (∀ y0 y1 y2 y3 y4, LeO (impl_Crc.l1 k y0 y1 y2 y3 y4) (impl_Crc.l1 (k + 1) y0 y1 y2 y3 y4))
  | 0 => ⟨fun _ _ _ _ r h => by simp [impl_Crc.l0] at h, fun _ _ _ _ _ r h => by simp [impl_Crc.l1] at h⟩
  | k + 1 => by
    obtain ⟨ih0, ih1⟩ := impl_Crc.mono_l k
    refine ⟨?_, ?_⟩
    · intro y0 y1 y2 y3
      unfold impl_Crc.l0
      repeat' first
      | (with_reducible exact ih0 _ _ _ _)
      | (with_reducible exact ih1 _ _ _ _ _)
      | (with_reducible exact LeO.refl _)
      | (with_reducible exact LeO.none _)
      | (with_reducible refine LeO.ite ?_ ?_)
      | (with_reducible refine LeO.bind ?_ (fun _ => ?_))
      | exact ih0 _ _ _ _
      | exact ih1 _ _ _ _ _
      | exact LeO.none _
      | refine LeO.ite ?_ ?_
      | refine LeO.bind ?_ (fun _ => ?_)
    · intro y0 y1 y2 y3 y4
      unfold impl_Crc.l1
      repeat' first
      | (with_reducible exact ih0 _ _ _ _)
      | (with_reducible exact ih1 _ _ _ _ _)
      | (with_reducible exact LeO.refl _)
      | (with_reducible exact LeO.none _)
      | (with_reducible refine LeO.ite ?_ ?_)
      | (with_reducible refine LeO.bind ?_ (fun _ => ?_))
      | exact ih0 _ _ _ _
      | exact ih1 _ _ _ _ _
      | exact LeO.none _
      | refine LeO.ite ?_ ?_
      | refine LeO.bind ?_ (fun _ => ?_)
theorem impl_Crc.mono : ∀ a0 k, LeO (impl_Crc.f k a0) (impl_Crc.f (k + 1) a0) := by
  intro a0 k
  obtain ⟨ih0, ih1⟩ := impl_Crc.mono_l k
  unfold impl_Crc.f
  repeat' first
      | (with_reducible exact ih0 _ _ _ _)
      | (with_reducible exact ih1 _ _ _ _ _)
      | (with_reducible exact LeO.refl _)
      | (with_reducible exact LeO.none _)
      | (with_reducible refine LeO.ite ?_ ?_)
      | (with_reducible refine LeO.bind ?_ (fun _ => ?_))
      | exact ih0 _ _ _ _
      | exact ih1 _ _ _ _ _
      | exact LeO.none _
      | refine LeO.ite ?_ ?_
      | refine LeO.bind ?_ (fun _ => ?_)
set_option maxHeartbeats 8000000 in
set_option maxRecDepth 100000 in
theorem impl_Crc.calls (k : Nat) (A0 : Option Addr) (c0 : Nat) (l0 : List Int) (r : Int) (w : World) (hr0 : Kd.C (Kd.int .u8) w A0 l0.length l0) (hc0 : l0.length ≤ c0) (h : impl_Crc.f k l0 = some r) :
    Calls Try.prog 148 #[.slice A0 l0.length c0] w fun e w' => e = .returned (.int .u32 r) ∧ Drawn0 w w' := by
  have HR0 := Aside0.mk hr0
  have HC0 := Aside0.mk hc0
  clear hr0 hc0
  have H : (impl_Crc.l0 k 4294967295 l0 (l0.length : Int) 0) = some r := h
  clear h
  have H' := Aside0.mk H
  clear H
  go_enter Try.func148, Try.ntmps148
  go_wp2
  go_loopg [3, 8] k (fun kq v3 v8 w' => ∃ (x3_1 : Int) (x8_1 : Int), v3 = .int .u32 x3_1 ∧ v8 = .int .i64 x8_1 ∧ Aside0 (impl_Crc.l0 kq x3_1 l0 (l0.length : Int) x8_1 = some r) ∧ Aside0 (kq ≤ k) ∧ Drawn0 w w')
  case atStart => exact ⟨(4294967295), (0), (by first | rfl | (simp; done) | (simp [*]; done)), (by first | rfl | (simp; done) | (simp [*]; done)), H', ⟨Nat.le_refl _⟩, by repeat (first | exact Drawn0.refl _ | apply Drawn0.step)⟩
  case round =>
    clear H'
    try clear c1
    obtain ⟨x3_1, x8_1, rfl, rfl, HA, HK1, ⟨m1, rfl⟩⟩ := hrel
    cases gk with
    | zero => exact absurd HA.out (by simp [impl_Crc.l0])
    | succ k1 =>
      have H := HA.out
      clear HA
      simp only [impl_Crc.l0] at H
      by_cases c2 : x8_1 < (l0.length : Int)
      rotate_left
      · rw [if_neg c2] at H
        have c2b0 : decide (x8_1 < (l0.length : Int)) = false := decide_eq_false c2
        clear c2
        obtain rfl := Option.some.inj H
        go_wp2
        go_ret
        exact ⟨by first | rfl | (simp; done) | (simp [*]; done), by repeat (first | exact Drawn0.refl _ | apply Drawn0.step)⟩
      rw [if_pos c2] at H
      have c2b0 : decide (x8_1 < (l0.length : Int)) = true := decide_eq_true c2
      clear c2
      by_cases c3 : 0 ≤ x8_1
      rotate_left
      · rw [if_neg c3] at H
        exact absurd H (by simp)
      rw [if_pos c3] at H
      have c3b0 : decide (0 ≤ x8_1) = true := decide_eq_true c3
      clear c3
      by_cases c4 : x8_1 < (l0.length : Int)
      rotate_left
      · rw [if_neg c4] at H
        exact absurd H (by simp)
      rw [if_pos c4] at H
      have c4b0 : decide (x8_1 < (l0.length : Int)) = true := decide_eq_true c4
      clear c4
      have H' := Aside0.mk H
      clear H
      have p117 : 0 ≤ (x8_1 : Int) := of_decide_eq_true (by first | (with_reducible assumption) | assumption)
      have q117 : x8_1 < (l0.length : Int) := of_decide_eq_true (by first | (with_reducible assumption) | assumption)
      obtain ⟨ad117, e117, hx117_0⟩ := Kd.at_int HR0.out x8_1 p117 q117
      cases e117
      replace p117 := eq_true p117
      replace q117 := eq_true q117
      go_wp2
      go_loopg [3, 16] k1 (fun kq v3 v16 w' => ∃ (x3_2 : Int) (x16_2 : Int), v3 = .int .u32 x3_2 ∧ v16 = .int .i64 x16_2 ∧ Aside0 (impl_Crc.l1 kq x3_2 l0 (l0.length : Int) x8_1 x16_2 = some r) ∧ Aside0 (kq ≤ k1) ∧ Drawn0 w w')
      case atStart => exact ⟨(Go.bits .xor .u32 x3_1 ((rd l0 x8_1) % 4294967296)), (0), (by first | rfl | (simp; done) | (simp [*]; done)), (by first | rfl | (simp; done) | (simp [*]; done)), H', ⟨Nat.le_refl _⟩, by repeat (first | exact Drawn0.refl _ | apply Drawn0.step)⟩
      case round =>
        clear H'
        try clear c1
        try clear p1
        try clear q1
        try clear hx1
        try clear c2
        try clear c2b0
        try clear p2
        try clear c3
        try clear c3b0
        try clear c4
        try clear c4b0
        try clear hx117_0
        try clear p117
        try clear q117
        obtain ⟨x3_2, x16_2, rfl, rfl, HA, HK2, ⟨m2, rfl⟩⟩ := hrel
        cases gk with
        | zero => exact absurd HA.out (by simp [impl_Crc.l1])
        | succ k2 =>
          have H := HA.out
          clear HA
          simp only [impl_Crc.l1] at H
          by_cases c5 : x16_2 < 8
          rotate_left
          · rw [if_neg c5] at H
            have c5b0 : decide (x16_2 < 8) = false := decide_eq_false c5
            clear c5
            have H' := Aside0.mk H
            clear H
            go_wp2
            go_roundg k2
            case measure => have := HK1.out; have := HK2.out; omega
            case rel => exact ⟨(x3_2), (wrap64 (x8_1 + 1)), (by first | rfl | (simp; done) | (simp [*]; done)), (by first | rfl | (simp; done) | (simp [*]; done)), H', ⟨by have := HK1.out; have := HK2.out; omega⟩, by repeat (first | exact Drawn0.refl _ | apply Drawn0.step)⟩
          rw [if_pos c5] at H
          have c5b0 : decide (x16_2 < 8) = true := decide_eq_true c5
          clear c5
          have H' := Aside0.mk H
          clear H
          go_wp2
          go_roundg k2
          case measure => have := HK1.out; have := HK2.out; omega
          case rel => exact ⟨(Go.bits .xor .u32 (x3_2 / 2) ((3988292384 * (Go.bits .and .u32 x3_2 1)) % 4294967296)), (wrap64 (x16_2 + 1)), (by first | rfl | (simp; done) | (simp [*]; done)), (by first | rfl | (simp; done) | (simp [*]; done)), H', ⟨by have := HK1.out; have := HK2.out; omega⟩, by repeat (first | exact Drawn0.refl _ | apply Drawn0.step)⟩

end Go.Proofs.Ytidblealnaicpaa.PFnExactReadParts

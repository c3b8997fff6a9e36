-- written by myprint.py (a program of this session's over the kit's print)
import Derived.Test.YtglaedjadlappaaPFnExactBestMotionx0
import Derived.Test.YtglaedjadlappaaPFnExactBestMotionx5
namespace Go.Proofs.Ytglaedjadlappaa.PFnExactBestMotion
open Go.RowKit Go.Proofs.YtglaedjadlappaaW.PrintWords Go.Proofs.YtglaedjadlappaaW.PrintLast Go.Proofs.YtglaedjadlappaaW.PrintMore
attribute [local go_sem] max2_int min2_int max_two min_two max_three min_three max_four min_four   -- for this text's walks alone
set_option linter.unusedVariables false
set_option linter.unusedSimpArgs false

/-! ### impl_goodSides: function 96 -/
def impl_goodSides.f (a0 : Int) (a1 : Int) : Option (Bool) := (impl_goodSide.f a0).bind fun t200 => (if t200 = true then ((impl_goodSide.f a1).bind fun t201 => (if t201 = true then (some (decide ((wrap64 (a0 * a1)) ≤ 4096))) else (some false))) else (some false))
set_option maxHeartbeats 8000000 in
set_option maxRecDepth 100000 in
theorem impl_goodSides.calls (a0 : Int) (a1 : Int) (r : Bool) (w : World) (h : impl_goodSides.f a0 a1 = some r) :
    Calls Try.prog 96 #[.int .i64 a0, .int .i64 a1] w fun e w' => e = .returned (.bool r) ∧ Drawn0 w w' := by
  have H : ((impl_goodSide.f a0).bind fun t200 => (if t200 = true then ((impl_goodSide.f a1).bind fun t201 => (if t201 = true then (some (decide ((wrap64 (a0 * a1)) ≤ 4096))) else (some false))) else (some false))) = some r := h
  clear h
  replace H := Option.bind_eq_some_iff.mp H
  obtain ⟨t200, A30, H⟩ := H
  replace H : (if t200 = true then ((impl_goodSide.f a1).bind fun t201 => (if t201 = true then (some (decide ((wrap64 (a0 * a1)) ≤ 4096))) else (some false))) else (some false)) = some r := H
  have A3 := Aside0.mk A30
  clear A30
  by_cases c4 : t200 = true
  rotate_left
  · replace c4 := Bool.eq_false_iff.mpr c4
    subst c4
    have H1 : (some false) = some r := by rw [if_neg (show ¬ (false = true) by decide)] at H; exact H
    clear H
    have H := H1
    clear H1
    obtain rfl := Option.some.inj H
    go_enter Try.func96, Try.ntmps96
    go_wp2_with (first | ((with_reducible refine gate_callee (f := 161) rfl ?_); refine goesL_ (some 6) rfl rfl Try.func161 (by kernel_rfl) rfl #[.int .i64 a0] rfl (by (try simp only [List.map_toArray, List.map_cons, List.map_nil]); first | done | rfl | (simp only [List.length_drop, List.length_take]; rfl)) ?_; (with_reducible refine (impl_goodSide.calls a0 false _ A3.out).mono ?_); rintro e w' ⟨rfl, ⟨nd, rfl⟩⟩; refine ⟨_, rfl, ?_⟩))
    go_ret
    exact ⟨by first | rfl | (simp; done) | (simp [*]; done), by repeat (first | exact Drawn0.refl _ | apply Drawn0.step)⟩
  subst c4
  have H1 : ((impl_goodSide.f a1).bind fun t201 => (if t201 = true then (some (decide ((wrap64 (a0 * a1)) ≤ 4096))) else (some false))) = some r := by rw [if_pos rfl] at H; exact H
  clear H
  have H := H1
  clear H1
  replace H := Option.bind_eq_some_iff.mp H
  obtain ⟨t201, A50, H⟩ := H
  replace H : (if t201 = true then (some (decide ((wrap64 (a0 * a1)) ≤ 4096))) else (some false)) = some r := H
  have A5 := Aside0.mk A50
  clear A50
  by_cases c6 : t201 = true
  · subst c6
    have H1 : (some (decide ((wrap64 (a0 * a1)) ≤ 4096))) = some r := by rw [if_pos rfl] at H; exact H
    clear H
    have H := H1
    clear H1
    obtain rfl := Option.some.inj H
    go_enter Try.func96, Try.ntmps96
    go_wp2_with (first | ((with_reducible refine gate_callee (f := 161) rfl ?_); refine goesL_ (some 6) rfl rfl Try.func161 (by kernel_rfl) rfl #[.int .i64 a0] rfl (by (try simp only [List.map_toArray, List.map_cons, List.map_nil]); first | done | rfl | (simp only [List.length_drop, List.length_take]; rfl)) ?_; (with_reducible refine (impl_goodSide.calls a0 true _ A3.out).mono ?_); rintro e w' ⟨rfl, ⟨nd, rfl⟩⟩; refine ⟨_, rfl, ?_⟩) | (go_at_call 161; (with_reducible refine (impl_goodSide.calls a1 true _ A5.out).mono ?_); rintro e w' ⟨rfl, ⟨nd, rfl⟩⟩))
    go_ret
    exact ⟨by first | rfl | (simp; done) | (simp [*]; done), by repeat (first | exact Drawn0.refl _ | apply Drawn0.step)⟩
  replace c6 := Bool.eq_false_iff.mpr c6
  subst c6
  have H1 : (some false) = some r := by rw [if_neg (show ¬ (false = true) by decide)] at H; exact H
  clear H
  have H := H1
  clear H1
  obtain rfl := Option.some.inj H
  go_enter Try.func96, Try.ntmps96
  go_wp2_with (first | ((with_reducible refine gate_callee (f := 161) rfl ?_); refine goesL_ (some 6) rfl rfl Try.func161 (by kernel_rfl) rfl #[.int .i64 a0] rfl (by (try simp only [List.map_toArray, List.map_cons, List.map_nil]); first | done | rfl | (simp only [List.length_drop, List.length_take]; rfl)) ?_; (with_reducible refine (impl_goodSide.calls a0 true _ A3.out).mono ?_); rintro e w' ⟨rfl, ⟨nd, rfl⟩⟩; refine ⟨_, rfl, ?_⟩) | (go_at_call 161; (with_reducible refine (impl_goodSide.calls a1 false _ A5.out).mono ?_); rintro e w' ⟨rfl, ⟨nd, rfl⟩⟩))
  go_ret
  exact ⟨by first | rfl | (simp; done) | (simp [*]; done), by repeat (first | exact Drawn0.refl _ | apply Drawn0.step)⟩

/-! ### impl_inRange: function 130 -/
def impl_inRange.l0 : Nat → Int → List Int → Int → Int → Option (Bool)
  | 0, _, _, _, _ => none
  | k + 1, x1, x7, x8, x9 => if x9 < x8 then (if 0 ≤ x9 then (if x9 < (x7.length : Int) then (if (rd x7 x9) < 0 then (some false) else (if (rd x7 x9) > x1 then (some false) else (impl_inRange.l0 k x1 x7 x8 (wrap64 (x9 + 1))))) else (none)) else (none)) else (some true)
def impl_inRange.f (k : Nat) (l0 : List Int) (a1 : Int) : Option (Bool) := impl_inRange.l0 k a1 l0 (l0.length : Int) 0
theorem impl_inRange.mono_l : ∀ k, (∀ y0 y1 y2 y3, LeO (impl_inRange.l0 k y0 y1 y2 y3) (impl_inRange.l0 (k + 1) y0 y1 y2 y3))
  | 0 => fun _ _ _ _ r h => by simp [impl_inRange.l0] at h
  | k + 1 => by
    have ih0 := impl_inRange.mono_l k
    · intro y0 y1 y2 y3
      unfold impl_inRange.l0
      repeat' first
      | (with_reducible exact ih0 _ _ _ _)
      | (with_reducible exact LeO.refl _)
      | (with_reducible exact LeO.none _)
      | (with_reducible refine LeO.ite ?_ ?_)
      | (with_reducible refine LeO.bind ?_ (fun _ => ?_))
      | exact ih0 _ _ _ _
      | exact LeO.none _
      | refine LeO.ite ?_ ?_
      | refine LeO.bind ?_ (fun _ => ?_)
theorem impl_inRange.mono : ∀ a0 a1 k, LeO (impl_inRange.f k a0 a1) (impl_inRange.f (k + 1) a0 a1) := by
  intro a0 a1 k
  have ih0 := impl_inRange.mono_l k
  unfold impl_inRange.f
  repeat' first
      | (with_reducible exact ih0 _ _ _ _)
      | (with_reducible exact LeO.refl _)
      | (with_reducible exact LeO.none _)
      | (with_reducible refine LeO.ite ?_ ?_)
      | (with_reducible refine LeO.bind ?_ (fun _ => ?_))
      | exact ih0 _ _ _ _
      | exact LeO.none _
      | refine LeO.ite ?_ ?_
      | refine LeO.bind ?_ (fun _ => ?_)
set_option maxHeartbeats 8000000 in
set_option maxRecDepth 100000 in
theorem impl_inRange.calls (k : Nat) (A0 : Option Addr) (c0 : Nat) (l0 : List Int) (a1 : Int) (r : Bool) (w : World) (hr0 : Kd.C (Kd.int .i64) w A0 l0.length l0) (hc0 : l0.length ≤ c0) (h : impl_inRange.f k l0 a1 = some r) :
    Calls Try.prog 130 #[.slice A0 l0.length c0, .int .i64 a1] w fun e w' => e = .returned (.bool r) ∧ Drawn0 w w' := by
  have HR0 := Aside0.mk hr0
  have HC0 := Aside0.mk hc0
  clear hr0 hc0
  have H : (impl_inRange.l0 k a1 l0 (l0.length : Int) 0) = some r := h
  clear h
  have H' := Aside0.mk H
  clear H
  go_enter Try.func130, Try.ntmps130
  go_wp2
  go_loopg [9] k (fun kq v9 w' => ∃ (x9_1 : Int), v9 = .int .i64 x9_1 ∧ Aside0 (impl_inRange.l0 kq a1 l0 (l0.length : Int) x9_1 = some r) ∧ Aside0 (kq ≤ k) ∧ Drawn0 w w')
  case atStart => exact ⟨(0), (by first | rfl | (simp; done) | (simp [*]; done)), H', ⟨Nat.le_refl _⟩, by repeat (first | exact Drawn0.refl _ | apply Drawn0.step)⟩
  case round =>
    clear H'
    try clear c1
    try clear p2
    obtain ⟨x9_1, rfl, HA, HK1, ⟨m1, rfl⟩⟩ := hrel
    cases gk with
    | zero => exact absurd HA.out (by simp [impl_inRange.l0])
    | succ k1 =>
      have H := HA.out
      clear HA
      simp only [impl_inRange.l0] at H
      by_cases c3 : x9_1 < (l0.length : Int)
      rotate_left
      · rw [if_neg c3] at H
        have c3b0 : decide (x9_1 < (l0.length : Int)) = false := decide_eq_false c3
        clear c3
        obtain rfl := Option.some.inj H
        go_wp2
        go_ret
        exact ⟨by first | rfl | (simp; done) | (simp [*]; done), by repeat (first | exact Drawn0.refl _ | apply Drawn0.step)⟩
      rw [if_pos c3] at H
      have c3b0 : decide (x9_1 < (l0.length : Int)) = true := decide_eq_true c3
      clear c3
      by_cases c4 : 0 ≤ x9_1
      rotate_left
      · rw [if_neg c4] at H
        exact absurd H (by simp)
      rw [if_pos c4] at H
      have c4b0 : decide (0 ≤ x9_1) = true := decide_eq_true c4
      clear c4
      by_cases c5 : x9_1 < (l0.length : Int)
      rotate_left
      · rw [if_neg c5] at H
        exact absurd H (by simp)
      rw [if_pos c5] at H
      have c5b0 : decide (x9_1 < (l0.length : Int)) = true := decide_eq_true c5
      clear c5
      by_cases c6 : (rd l0 x9_1) < 0
      · rw [if_pos c6] at H
        have c6b0 : decide ((rd l0 x9_1) < 0) = true := decide_eq_true c6
        clear c6
        obtain rfl := Option.some.inj H
        have p202 : 0 ≤ (x9_1 : Int) := of_decide_eq_true (by first | (with_reducible assumption) | assumption)
        have q202 : x9_1 < (l0.length : Int) := of_decide_eq_true (by first | (with_reducible assumption) | assumption)
        obtain ⟨ad202, e202, hx202_0⟩ := Kd.at_int HR0.out x9_1 p202 q202
        cases e202
        replace p202 := eq_true p202
        replace q202 := eq_true q202
        go_wp2
        go_ret
        exact ⟨by first | rfl | (simp; done) | (simp [*]; done), by repeat (first | exact Drawn0.refl _ | apply Drawn0.step)⟩
      rw [if_neg c6] at H
      have c6b0 : decide ((rd l0 x9_1) < 0) = false := decide_eq_false c6
      clear c6
      by_cases c7 : (rd l0 x9_1) > a1
      · rw [if_pos c7] at H
        have c7b0 : decide (a1 < (rd l0 x9_1)) = true := decide_eq_true c7
        clear c7
        obtain rfl := Option.some.inj H
        have p202 : 0 ≤ (x9_1 : Int) := of_decide_eq_true (by first | (with_reducible assumption) | assumption)
        have q202 : x9_1 < (l0.length : Int) := of_decide_eq_true (by first | (with_reducible assumption) | assumption)
        obtain ⟨ad202, e202, hx202_0⟩ := Kd.at_int HR0.out x9_1 p202 q202
        cases e202
        replace p202 := eq_true p202
        replace q202 := eq_true q202
        go_wp2
        go_ret
        exact ⟨by first | rfl | (simp; done) | (simp [*]; done), by repeat (first | exact Drawn0.refl _ | apply Drawn0.step)⟩
      rw [if_neg c7] at H
      have c7b0 : decide (a1 < (rd l0 x9_1)) = false := decide_eq_false c7
      clear c7
      have H' := Aside0.mk H
      clear H
      have p202 : 0 ≤ (x9_1 : Int) := of_decide_eq_true (by first | (with_reducible assumption) | assumption)
      have q202 : x9_1 < (l0.length : Int) := of_decide_eq_true (by first | (with_reducible assumption) | assumption)
      obtain ⟨ad202, e202, hx202_0⟩ := Kd.at_int HR0.out x9_1 p202 q202
      cases e202
      replace p202 := eq_true p202
      replace q202 := eq_true q202
      go_wp2
      go_roundg k1
      case measure => have := HK1.out; omega
      case rel => exact ⟨(wrap64 (x9_1 + 1)), (by first | rfl | (simp; done) | (simp [*]; done)), H', ⟨by have := HK1.out; omega⟩, by repeat (first | exact Drawn0.refl _ | apply Drawn0.step)⟩

/-! ### impl_GoodPlane: function 82 -/
def impl_GoodPlane.f (k : Nat) (a0_0 : Int) (a0_1 : Int) (l0_2 : List Int) : Option (Bool) := (impl_goodSides.f a0_0 a0_1).bind fun t204 => (if t204 = true then (if (l0_2.length : Int) = (wrap64 (a0_0 * a0_1)) then ((impl_inRange.f k l0_2 255).bind fun t205 => (some t205)) else (some false)) else (some false))
theorem impl_GoodPlane.mono : ∀ a0 a1 a2 k, LeO (impl_GoodPlane.f k a0 a1 a2) (impl_GoodPlane.f (k + 1) a0 a1 a2) := by
  intro a0 a1 a2 k
  unfold impl_GoodPlane.f
  repeat' first
      | (with_reducible exact impl_inRange.mono _ _ _)
      | (with_reducible exact LeO.refl _)
      | (with_reducible exact LeO.none _)
      | (with_reducible refine LeO.ite ?_ ?_)
      | (with_reducible refine LeO.bind ?_ (fun _ => ?_))
      | exact impl_inRange.mono _ _ _
      | exact LeO.none _
      | refine LeO.ite ?_ ?_
      | refine LeO.bind ?_ (fun _ => ?_)
set_option maxHeartbeats 8000000 in
set_option maxRecDepth 100000 in
theorem impl_GoodPlane.calls (k : Nat) (a0_0 : Int) (a0_1 : Int) (A0_2 : Option Addr) (c0_2 : Nat) (l0_2 : List Int) (r : Bool) (w : World) (hr0_2 : Kd.C (Kd.int .i64) w A0_2 l0_2.length l0_2) (hc0_2 : l0_2.length ≤ c0_2) (h : impl_GoodPlane.f k a0_0 a0_1 l0_2 = some r) :
    Calls Try.prog 82 #[.agg #[.int .i64 a0_0, .int .i64 a0_1, .slice A0_2 l0_2.length c0_2]] w fun e w' => e = .returned (.bool r) ∧ Below w.heap.size w w' := by
  have hu29 := Try.underlying29
  have HR0_2 := Aside0.mk hr0_2
  have HC0_2 := Aside0.mk hc0_2
  clear hr0_2 hc0_2
  have HB := Aside0.mk (Below.refl w.heap.size w)
  have H : ((impl_goodSides.f a0_0 a0_1).bind fun t204 => (if t204 = true then (if (l0_2.length : Int) = (wrap64 (a0_0 * a0_1)) then ((impl_inRange.f k l0_2 255).bind fun t205 => (some t205)) else (some false)) else (some false))) = some r := h
  clear h
  replace H := Option.bind_eq_some_iff.mp H
  obtain ⟨t204, A20, H⟩ := H
  replace H : (if t204 = true then (if (l0_2.length : Int) = (wrap64 (a0_0 * a0_1)) then ((impl_inRange.f k l0_2 255).bind fun t205 => (some t205)) else (some false)) else (some false)) = some r := H
  have A2 := Aside0.mk A20
  clear A20
  by_cases c3 : t204 = true
  rotate_left
  · replace c3 := Bool.eq_false_iff.mpr c3
    subst c3
    have H1 : (some false) = some r := by rw [if_neg (show ¬ (false = true) by decide)] at H; exact H
    clear H
    have H := H1
    clear H1
    obtain rfl := Option.some.inj H
    go_enter Try.func82, Try.ntmps82
    go_wp2_with (first | ((with_reducible refine gate_dst (N := 1) rfl ?_); (try (refine gate_guard (by rfl) ?_; dsimp only)); refine box_event ?hg (N := 1) ?hd (cs := #[.int .i64 a0_0, .int .i64 a0_1, .slice A0_2 l0_2.length c0_2]) (t := 29) ?hr ?_; (case hd => rfl); (case hg => rfl); (case hr => first | (go_simp; done) | (go_simp; rfl)); intro gb203 hg w10 hbox hb; have n0_ := Aside0.mk (below_step (by repeat (first | (with_reducible first | exact HB.out | apply below_alloc | apply pw_below_drewN | apply below_drew1) | exact HB.out)) hb); have n1_ := Aside0.mk (hbox); have n2_ := Aside0.mk ((by rw [hg]; exact (below_size (by repeat (first | (with_reducible first | exact HB.out | apply below_alloc | apply pw_below_drewN | apply below_drew1) | exact HB.out))) : w.heap.size ≤ gb203)); have n3_ := n2_; clear HB; have HB := n0_; have BK203 := n1_; have GW203 := n2_; have GE203 := n3_; clear n0_ n1_ n2_ n3_; clear hb hbox hg; have hcz11_0 : w10.cell? ⟨gb203, 0, none⟩ = some (.int .i64 a0_0) := (blk_cell BK203.out 0).trans rfl; have hcz11_1 : w10.cell? ⟨gb203, 1, none⟩ = some (.int .i64 a0_1) := (blk_cell BK203.out 1).trans rfl; have hcz11_2 : w10.cell? ⟨gb203, 2, none⟩ = some (.slice A0_2 l0_2.length c0_2) := (blk_cell BK203.out 2).trans rfl; have hfz11_0 := blk_frozen BK203.out 0; have hfz11_1 := blk_frozen BK203.out 1; have hfz11_2 := blk_frozen BK203.out 2) | ((with_reducible refine gate_callee (f := 96) rfl ?_); refine goesL_ (some 7) rfl rfl Try.func96 (by kernel_rfl) rfl #[.int .i64 a0_0, .int .i64 a0_1] rfl (by (try simp only [List.map_toArray, List.map_cons, List.map_nil]); first | done | rfl | (simp only [List.length_drop, List.length_take]; rfl)) ?_; (with_reducible refine (impl_goodSides.calls a0_0 a0_1 false _ A2.out).mono ?_); rintro e w' ⟨rfl, ⟨nd, rfl⟩⟩; refine ⟨_, rfl, ?_⟩))
    go_ret
    exact ⟨by first | rfl | (simp [errW_none, errW_some] <;> rfl) | (simp [*, errW_none, errW_some] <;> rfl), by repeat (first | (with_reducible first | exact HB.out | apply below_alloc | apply pw_below_drewN | apply below_drew1 | refine below_set ?_ GE203.out) | exact HB.out)⟩
  subst c3
  have H1 : (if (l0_2.length : Int) = (wrap64 (a0_0 * a0_1)) then ((impl_inRange.f k l0_2 255).bind fun t205 => (some t205)) else (some false)) = some r := by rw [if_pos rfl] at H; exact H
  clear H
  have H := H1
  clear H1
  by_cases c4 : (l0_2.length : Int) = (wrap64 (a0_0 * a0_1))
  rotate_left
  · rw [if_neg c4] at H
    have c4b0 : ((l0_2.length : Int) == (wrap64 (a0_0 * a0_1))) = false := beq_eq_false_iff_ne.mpr c4
    have c4b1 : ((l0_2.length : Int) != (wrap64 (a0_0 * a0_1))) = true := bne_iff_ne.mpr c4
    obtain rfl := Option.some.inj H
    go_enter Try.func82, Try.ntmps82
    go_wp2_with (first | ((with_reducible refine gate_dst (N := 1) rfl ?_); (try (refine gate_guard (by rfl) ?_; dsimp only)); refine box_event ?hg (N := 1) ?hd (cs := #[.int .i64 a0_0, .int .i64 a0_1, .slice A0_2 l0_2.length c0_2]) (t := 29) ?hr ?_; (case hd => rfl); (case hg => rfl); (case hr => first | (go_simp; done) | (go_simp; rfl)); intro gb203 hg w8 hbox hb; have n0_ := Aside0.mk (below_step (by repeat (first | (with_reducible first | exact HB.out | apply below_alloc | apply pw_below_drewN | apply below_drew1) | exact HB.out)) hb); have n1_ := Aside0.mk (hbox); have n2_ := Aside0.mk ((by rw [hg]; exact (below_size (by repeat (first | (with_reducible first | exact HB.out | apply below_alloc | apply pw_below_drewN | apply below_drew1) | exact HB.out))) : w.heap.size ≤ gb203)); have n3_ := n2_; clear HB; have HB := n0_; have BK203 := n1_; have GW203 := n2_; have GE203 := n3_; clear n0_ n1_ n2_ n3_; clear hb hbox hg; have hcz9_0 : w8.cell? ⟨gb203, 0, none⟩ = some (.int .i64 a0_0) := (blk_cell BK203.out 0).trans rfl; have hcz9_1 : w8.cell? ⟨gb203, 1, none⟩ = some (.int .i64 a0_1) := (blk_cell BK203.out 1).trans rfl; have hcz9_2 : w8.cell? ⟨gb203, 2, none⟩ = some (.slice A0_2 l0_2.length c0_2) := (blk_cell BK203.out 2).trans rfl; have hfz9_0 := blk_frozen BK203.out 0; have hfz9_1 := blk_frozen BK203.out 1; have hfz9_2 := blk_frozen BK203.out 2) | ((with_reducible refine gate_callee (f := 96) rfl ?_); refine goesL_ (some 7) rfl rfl Try.func96 (by kernel_rfl) rfl #[.int .i64 a0_0, .int .i64 a0_1] rfl (by (try simp only [List.map_toArray, List.map_cons, List.map_nil]); first | done | rfl | (simp only [List.length_drop, List.length_take]; rfl)) ?_; (with_reducible refine (impl_goodSides.calls a0_0 a0_1 true _ A2.out).mono ?_); rintro e w' ⟨rfl, ⟨nd, rfl⟩⟩; refine ⟨_, rfl, ?_⟩))
    go_ret
    exact ⟨by first | rfl | (simp [errW_none, errW_some] <;> rfl) | (simp [*, errW_none, errW_some] <;> rfl), by repeat (first | (with_reducible first | exact HB.out | apply below_alloc | apply pw_below_drewN | apply below_drew1 | refine below_set ?_ GE203.out) | exact HB.out)⟩
  rw [if_pos c4] at H
  have c4b0 : ((l0_2.length : Int) == (wrap64 (a0_0 * a0_1))) = true := beq_iff_eq.mpr c4
  have c4b1 : ((l0_2.length : Int) != (wrap64 (a0_0 * a0_1))) = false := bne_eq_false_iff_eq.mpr c4
  clear c4
  replace H := Option.bind_eq_some_iff.mp H
  obtain ⟨t205, A50, H⟩ := H
  replace H : (some t205) = some r := H
  have A5 := Aside0.mk A50
  clear A50
  obtain rfl := Option.some.inj H
  go_enter Try.func82, Try.ntmps82
  go_wp2_with (first | ((with_reducible refine gate_dst (N := 1) rfl ?_); (try (refine gate_guard (by rfl) ?_; dsimp only)); refine box_event ?hg (N := 1) ?hd (cs := #[.int .i64 a0_0, .int .i64 a0_1, .slice A0_2 l0_2.length c0_2]) (t := 29) ?hr ?_; (case hd => rfl); (case hg => rfl); (case hr => first | (go_simp; done) | (go_simp; rfl)); intro gb203 hg w6 hbox hb; have n0_ := Aside0.mk (below_step (by repeat (first | (with_reducible first | exact HB.out | apply below_alloc | apply pw_below_drewN | apply below_drew1) | exact HB.out)) hb); have n1_ := Aside0.mk (hbox); have n2_ := Aside0.mk ((by rw [hg]; exact (below_size (by repeat (first | (with_reducible first | exact HB.out | apply below_alloc | apply pw_below_drewN | apply below_drew1) | exact HB.out))) : w.heap.size ≤ gb203)); have n3_ := n2_; clear HB; have HB := n0_; have BK203 := n1_; have GW203 := n2_; have GE203 := n3_; clear n0_ n1_ n2_ n3_; clear hb hbox hg; have hcz7_0 : w6.cell? ⟨gb203, 0, none⟩ = some (.int .i64 a0_0) := (blk_cell BK203.out 0).trans rfl; have hcz7_1 : w6.cell? ⟨gb203, 1, none⟩ = some (.int .i64 a0_1) := (blk_cell BK203.out 1).trans rfl; have hcz7_2 : w6.cell? ⟨gb203, 2, none⟩ = some (.slice A0_2 l0_2.length c0_2) := (blk_cell BK203.out 2).trans rfl; have hfz7_0 := blk_frozen BK203.out 0; have hfz7_1 := blk_frozen BK203.out 1; have hfz7_2 := blk_frozen BK203.out 2) | ((with_reducible refine gate_callee (f := 96) rfl ?_); refine goesL_ (some 7) rfl rfl Try.func96 (by kernel_rfl) rfl #[.int .i64 a0_0, .int .i64 a0_1] rfl (by (try simp only [List.map_toArray, List.map_cons, List.map_nil]); first | done | rfl | (simp only [List.length_drop, List.length_take]; rfl)) ?_; (with_reducible refine (impl_goodSides.calls a0_0 a0_1 true _ A2.out).mono ?_); rintro e w' ⟨rfl, ⟨nd, rfl⟩⟩; refine ⟨_, rfl, ?_⟩) | (go_at_call 130; (with_reducible refine (impl_inRange.calls k _ _ l0_2 255 t205 _ ?side1 ?side2 A5.out).mono ?_); (case side1 => repeat (first | exact (Kd.C_below HR0_2.out (by repeat (first | (with_reducible first | exact HB.out | apply below_alloc | apply pw_below_drewN | apply below_drew1 | refine below_set ?_ GE203.out) | exact HB.out))) | (with_reducible refine Kd.C_alloc ?_ _) | (with_reducible refine Kd.C_drewN ?_ _) | (with_reducible refine Kd.C_drew ?_))); (case side2 => exact HC0_2.out); rintro e w' ⟨rfl, ⟨nd, rfl⟩⟩))
  go_ret
  exact ⟨by first | rfl | (simp [errW_none, errW_some] <;> rfl) | (simp [*, errW_none, errW_some] <;> rfl), by repeat (first | (with_reducible first | exact HB.out | apply below_alloc | apply pw_below_drewN | apply below_drew1 | refine below_set ?_ GE203.out) | exact HB.out)⟩

/-! ### impl_zclip: function 137 -/
def impl_zclip.f (a0 : Int) : Option (Int) := some (mn (mx a0 0) 255)
set_option maxHeartbeats 8000000 in
set_option maxRecDepth 100000 in
theorem impl_zclip.calls (a0 : Int) (r : Int) (w : World) (h : impl_zclip.f a0 = some r) :
    Calls Try.prog 137 #[.int .i64 a0] w fun e w' => e = .returned (.int .i64 r) ∧ Below w.heap.size w w' := by
  have HB := Aside0.mk (Below.refl w.heap.size w)
  have H : (some (mn (mx a0 0) 255)) = some r := h
  clear h
  obtain ⟨ji2, hji2⟩ : ∃ j_ : Int, (mx a0 0) = j_ := ⟨_, rfl⟩
  replace H : (some (mn (ji2) 255)) = some r := by first | (rw [hji2] at H; exact H) | (simp only [hji2] at H ⊢; exact H)
  (try (have hji2l : 0 ≤ ji2 := by (rw [← hji2]; unfold mx; (repeat' split) <;> omega)))
  (try (have hji2m : 0 ≤ ji2 := by omega))
  have hji2_ : (if a0 < 0 then 0 else a0) = ji2 := hji2
  obtain ⟨ji3, hji3⟩ : ∃ j_ : Int, (mn (ji2) 255) = j_ := ⟨_, rfl⟩
  replace H : (some ji3) = some r := by first | (rw [hji3] at H; exact H) | (simp only [hji3] at H ⊢; exact H)
  have hji3_ : (if 255 < (ji2) then 255 else (ji2)) = ji3 := hji3
  obtain rfl := Option.some.inj H
  go_enter Try.func137, Try.ntmps137
  go_wp2
  go_ret
  exact ⟨by first | rfl | (simp [errW_none, errW_some] <;> rfl) | (simp only [← hji2, ← hji3]; first | rfl | (simp [errW_none, errW_some] <;> rfl)) | (simp [*, errW_none, errW_some] <;> rfl), by repeat (first | (with_reducible first | exact HB.out | apply below_alloc | apply pw_below_drewN | apply below_drew1) | exact HB.out)⟩

-- NOT PRINTED: function 152 (impl_zbetween)

/-! ### impl_Moved: function 77 -/
def cl_ (v n : Int) : Int := mn (mx v 0) (n - 1)
def smp (W H : Int) (l : List Int) (X Y : Int) : Int := rd l (cl_ Y H * W + cl_ X W)
structure PlaneOk (W H : Int) (l : List Int) : Prop where
  w : 1 ≤ W ∧ W ≤ 512
  h : 1 ≤ H ∧ H ≤ 512
  len : (l.length : Int) = W * H
  v : ∀ i : Int, 0 ≤ rd l i ∧ rd l i ≤ 255
theorem cl_in (v n : Int) (h : 1 ≤ n) : 0 ≤ cl_ v n ∧ cl_ v n ≤ n - 1 := by
  unfold cl_ mn mx
  (repeat' split) <;> omega
theorem smp_in {W H : Int} {l : List Int} (ho : PlaneOk W H l) (X Y : Int) : 0 ≤ cl_ Y H * W + cl_ X W ∧ cl_ Y H * W + cl_ X W < (l.length : Int) ∧ 0 ≤ cl_ Y H * W ∧ cl_ Y H * W ≤ 262144 := by
  obtain ⟨w1, w2⟩ := ho.w
  obtain ⟨h1, h2⟩ := ho.h
  obtain ⟨a0, a1⟩ := cl_in Y H h1
  obtain ⟨b0, b1⟩ := cl_in X W w1
  have m0 : 0 ≤ cl_ Y H * W := Int.mul_nonneg a0 (by omega)
  have m1 : cl_ Y H * W ≤ (H - 1) * W := Int.mul_le_mul_of_nonneg_right a1 (by omega)
  have m2 : (H - 1) * W = W * H - W := by rw [Int.sub_mul, Int.one_mul, Int.mul_comm]
  have m3 : W * H ≤ 512 * H := Int.mul_le_mul_of_nonneg_right w2 (by omega)
  rw [ho.len]
  omega
set_option maxHeartbeats 2000000 in
set_option maxRecDepth 100000 in
theorem smp_calls {W H : Int} {l : List Int} (ho : PlaneOk W H l) (X Y : Int) (g c : Nat) (A : Option Addr) (w : World) (hb : w.heap[g]? = some (.cells #[.int .i64 W, .int .i64 H, .slice A l.length c] 29 (0, 0))) (hr : Kd.C (Kd.int .i64) w A l.length l) :
    Calls Try.prog 151 #[.int .i64 X, .int .i64 Y, .pointer (some ⟨g, 0, none⟩)] w fun e w' => e = .returned (.int .i64 (smp W H l X Y)) ∧ w' = w := by
  have hx0 : w.cell? ⟨g, 0, none⟩ = some (.int .i64 W) := (blk_cell hb 0).trans rfl
  have hx1 : w.cell? ⟨g, 1, none⟩ = some (.int .i64 H) := (blk_cell hb 1).trans rfl
  have hx2 : w.cell? ⟨g, 2, none⟩ = some (.slice A l.length c) := (blk_cell hb 2).trans rfl
  obtain ⟨i0, i1, i2, i3⟩ := smp_in ho X Y
  obtain ⟨ad, ea, hxa⟩ := Kd.at_int hr (cl_ Y H * W + cl_ X W) i0 i1
  cases ea
  have w1 := ho.w
  have h1 := ho.h
  have hY : (Y < 0 ∧ cl_ Y H = 0) ∨ (0 ≤ Y ∧ Y ≤ H - 1 ∧ cl_ Y H = Y) ∨ (H - 1 < Y ∧ cl_ Y H = H - 1) := by
    unfold cl_ mn mx
    (repeat' split) <;> omega
  have hX : (X < 0 ∧ cl_ X W = 0) ∨ (0 ≤ X ∧ X ≤ W - 1 ∧ cl_ X W = X) ∨ (W - 1 < X ∧ cl_ X W = W - 1) := by
    unfold cl_ mn mx
    (repeat' split) <;> omega
  unfold smp
  clear hb hr ho
  rcases hY with ⟨y1, ey⟩ | ⟨y1, y2, ey⟩ | ⟨y1, ey⟩ <;> rcases hX with ⟨x1, ex⟩ | ⟨x1, x2, ex⟩ | ⟨x1, ex⟩
  all_goals
    rw [ey, ex] at i0 i1 hxa ⊢
    rw [ey] at i2 i3
    clear ey ex
    (try simp only [Int.zero_mul, Int.zero_add, Int.add_zero] at i0 i1 i2 i3 hxa ⊢)
    (try have hxb : w.cell? (ad.add (W.toNat - 1)) = some (.int .i64 (rd l (W - 1))) := by rw [show W.toNat - 1 = (W - 1).toNat by omega]; exact hxa)
    (try have hxc : w.cell? ad = some (.int .i64 (rd l 0)) := by simpa [Addr.add] using hxa)
    go_enter Try.func151, Try.ntmps151
    go_wp2
    go_ret
    exact ⟨rfl, rfl⟩
/-! What a function value answers: v x, at each world that only had something made. -/
def Ans (W0 : World) (g : Nat) (cap : Array Value) (v : Int → Int) : Prop := ∀ (x : Int) (w : World), Below W0.heap.size W0 w → -2 ≤ x → x ≤ 3 → Calls Try.prog g (#[.int .i64 x] ++ cap) w fun e w' => e = .returned (.int .i64 (v x)) ∧ Below w.heap.size w w'
theorem Ans.at_ {W0 : World} {g : Nat} {cap : Array Value} {v : Int → Int} (h : Ans W0 g cap v) (x : Int) (w : World) (hb : Below W0.heap.size W0 w) (h0 : -2 ≤ x) (h1 : x ≤ 3) : Calls Try.prog g (#[.int .i64 x] ++ cap) w fun e w' => e = .returned (.int .i64 (v x)) ∧ Below w.heap.size w w' := h x w hb h0 h1
theorem Ans.below {W0 W1 : World} {g : Nat} {cap : Array Value} {v : Int → Int} (h : Ans W0 g cap v) (hb : Below W0.heap.size W0 W1) : Ans W1 g cap v := fun x w hw => h x w (below_step hb hw)
def half_ (v : Int → Int) : Int := cl_ ((v (-2) - 5 * v (-1) + 20 * v 0 + 20 * v 1 - 5 * v 2 + v 3 + 16) / 32) 256
def btw (f : Int) (v : Int → Int) : Int := if f = 1 then (v 0 + half_ v + 1) / 2 else if f = 2 then half_ v else if f = 3 then (half_ v + v 1 + 1) / 2 else v 0
theorem half_in (v : Int → Int) : 0 ≤ half_ v ∧ half_ v ≤ 255 := by
  have := cl_in ((v (-2) - 5 * v (-1) + 20 * v 0 + 20 * v 1 - 5 * v 2 + v 3 + 16) / 32) 256 (by omega)
  unfold half_; omega
theorem btw_in (f : Int) (v : Int → Int) (hv : ∀ x, 0 ≤ v x ∧ v x ≤ 255) : 0 ≤ btw f v ∧ btw f v ≤ 255 := by
  have h := half_in v
  have h0 := hv 0
  have h1 := hv 1
  unfold btw
  (repeat' split) <;> omega
set_option maxHeartbeats 4000000 in
set_option maxRecDepth 100000 in
theorem btw_calls (f : Int) (g : Nat) (fn : Func) (cap : Array Value) (v : Int → Int) (w : World) (hf : Try.prog.funcs[g]? = some fn) (hn : (fn.name == "runtime.NumGoroutine") = false) (hb : fn.body.isSome = true) (ha : Ans w g cap v) (hv : ∀ x, 0 ≤ v x ∧ v x ≤ 255) :
    Calls Try.prog 152 #[.int .i64 f, .func (.func g) #[] cap] w fun e w' => e = .returned (.int .i64 (btw f v)) ∧ Below w.heap.size w w' := by
  have HF := Aside0.mk hf
  have ha' := Aside0.mk ha
  have b1 := hv (-2)
  have b2 := hv (-1)
  have b3 := hv 0
  have b4 := hv 1
  have b5 := hv 2
  have b6 := hv 3
  have hh := half_in v
  have HB := Aside0.mk (Below.refl w.heap.size w)
  have hz := Aside0.mk (show impl_zclip.f ((v (-2) - 5 * v (-1) + 20 * v 0 + 20 * v 1 - 5 * v 2 + v 3 + 16) / 32) = some (half_ v) from rfl)
  unfold btw
  clear ha hv hf
  generalize half_ v = hf_ at hz hh ⊢
  by_cases c1 : f = 1
  · rw [if_pos c1]
    subst c1
    go_enter Try.func152, Try.ntmps152
    go_wp2_with (first | ((with_reducible refine gate_dst (N := 7) rfl ?_); refine goesLC_ (n := 6) (some 7) rfl rfl HF.out hn hb (#[.int .i64 (-2)] ++ cap) rfl rfl ?ha ?_; (case ha => simp only [List.map_toArray, List.map_cons, List.map_nil]; rfl); (with_reducible refine (ha'.out.at_ (-2) _ HB.out (by omega) (by omega)).mono ?_); rintro e w1 ⟨rfl, hb1⟩; refine ⟨_, rfl, ?_⟩; have n0 := Aside0.mk (below_step HB.out hb1); clear HB hb1; have HB := n0; clear n0) | ((with_reducible refine gate_dst (N := 9) rfl ?_); refine goesLC_ (n := 8) (some 9) rfl rfl HF.out hn hb (#[.int .i64 (-1)] ++ cap) rfl rfl ?ha ?_; (case ha => simp only [List.map_toArray, List.map_cons, List.map_nil]; rfl); (with_reducible refine (ha'.out.at_ (-1) _ HB.out (by omega) (by omega)).mono ?_); rintro e w1 ⟨rfl, hb1⟩; refine ⟨_, rfl, ?_⟩; have n0 := Aside0.mk (below_step HB.out hb1); clear HB hb1; have HB := n0; clear n0) | ((with_reducible refine gate_dst (N := 13) rfl ?_); refine goesLC_ (n := 12) (some 13) rfl rfl HF.out hn hb (#[.int .i64 (0)] ++ cap) rfl rfl ?ha ?_; (case ha => simp only [List.map_toArray, List.map_cons, List.map_nil]; rfl); (with_reducible refine (ha'.out.at_ (0) _ HB.out (by omega) (by omega)).mono ?_); rintro e w1 ⟨rfl, hb1⟩; refine ⟨_, rfl, ?_⟩; have n0 := Aside0.mk (below_step HB.out hb1); clear HB hb1; have HB := n0; clear n0) | ((with_reducible refine gate_dst (N := 17) rfl ?_); refine goesLC_ (n := 16) (some 17) rfl rfl HF.out hn hb (#[.int .i64 (1)] ++ cap) rfl rfl ?ha ?_; (case ha => simp only [List.map_toArray, List.map_cons, List.map_nil]; rfl); (with_reducible refine (ha'.out.at_ (1) _ HB.out (by omega) (by omega)).mono ?_); rintro e w1 ⟨rfl, hb1⟩; refine ⟨_, rfl, ?_⟩; have n0 := Aside0.mk (below_step HB.out hb1); clear HB hb1; have HB := n0; clear n0) | ((with_reducible refine gate_dst (N := 21) rfl ?_); refine goesLC_ (n := 20) (some 21) rfl rfl HF.out hn hb (#[.int .i64 (2)] ++ cap) rfl rfl ?ha ?_; (case ha => simp only [List.map_toArray, List.map_cons, List.map_nil]; rfl); (with_reducible refine (ha'.out.at_ (2) _ HB.out (by omega) (by omega)).mono ?_); rintro e w1 ⟨rfl, hb1⟩; refine ⟨_, rfl, ?_⟩; have n0 := Aside0.mk (below_step HB.out hb1); clear HB hb1; have HB := n0; clear n0) | ((with_reducible refine gate_dst (N := 25) rfl ?_); refine goesLC_ (n := 24) (some 25) rfl rfl HF.out hn hb (#[.int .i64 (3)] ++ cap) rfl rfl ?ha ?_; (case ha => simp only [List.map_toArray, List.map_cons, List.map_nil]; rfl); (with_reducible refine (ha'.out.at_ (3) _ HB.out (by omega) (by omega)).mono ?_); rintro e w1 ⟨rfl, hb1⟩; refine ⟨_, rfl, ?_⟩; have n0 := Aside0.mk (below_step HB.out hb1); clear HB hb1; have HB := n0; clear n0) | ((with_reducible refine gate_callee (f := 137) rfl ?_); refine goesL_ (some 29) rfl rfl Try.func137 (by kernel_rfl) rfl #[.int .i64 ((v (-2) - 5 * v (-1) + 20 * v 0 + 20 * v 1 - 5 * v 2 + v 3 + 16) / 32)] rfl (by (try simp only [List.map_toArray, List.map_cons, List.map_nil]); first | done | rfl) ?_; (with_reducible refine (impl_zclip.calls _ hf_ _ hz.out).mono ?_); rintro e w1 ⟨rfl, hb1⟩; refine ⟨_, rfl, ?_⟩; have n0 := Aside0.mk (below_step HB.out (by first | exact hb1 | exact hb1.below)); clear HB hb1; have HB := n0; clear n0) | ((with_reducible refine gate_dst (N := 34) rfl ?_); refine goesLC_ (n := 33) (some 34) rfl rfl HF.out hn hb (#[.int .i64 (0)] ++ cap) rfl rfl ?ha ?_; (case ha => simp only [List.map_toArray, List.map_cons, List.map_nil]; rfl); (with_reducible refine (ha'.out.at_ (0) _ HB.out (by omega) (by omega)).mono ?_); rintro e w1 ⟨rfl, hb1⟩; refine ⟨_, rfl, ?_⟩; have n0 := Aside0.mk (below_step HB.out hb1); clear HB hb1; have HB := n0; clear n0))
    go_ret
    exact ⟨rfl, HB.out⟩
  rw [if_neg c1]
  have c1b : (f == 1) = false := beq_eq_false_iff_ne.mpr c1
  by_cases c2 : f = 2
  · rw [if_pos c2]
    subst c2
    go_enter Try.func152, Try.ntmps152
    go_wp2_with (first | ((with_reducible refine gate_dst (N := 7) rfl ?_); refine goesLC_ (n := 6) (some 7) rfl rfl HF.out hn hb (#[.int .i64 (-2)] ++ cap) rfl rfl ?ha ?_; (case ha => simp only [List.map_toArray, List.map_cons, List.map_nil]; rfl); (with_reducible refine (ha'.out.at_ (-2) _ HB.out (by omega) (by omega)).mono ?_); rintro e w1 ⟨rfl, hb1⟩; refine ⟨_, rfl, ?_⟩; have n0 := Aside0.mk (below_step HB.out hb1); clear HB hb1; have HB := n0; clear n0) | ((with_reducible refine gate_dst (N := 9) rfl ?_); refine goesLC_ (n := 8) (some 9) rfl rfl HF.out hn hb (#[.int .i64 (-1)] ++ cap) rfl rfl ?ha ?_; (case ha => simp only [List.map_toArray, List.map_cons, List.map_nil]; rfl); (with_reducible refine (ha'.out.at_ (-1) _ HB.out (by omega) (by omega)).mono ?_); rintro e w1 ⟨rfl, hb1⟩; refine ⟨_, rfl, ?_⟩; have n0 := Aside0.mk (below_step HB.out hb1); clear HB hb1; have HB := n0; clear n0) | ((with_reducible refine gate_dst (N := 13) rfl ?_); refine goesLC_ (n := 12) (some 13) rfl rfl HF.out hn hb (#[.int .i64 (0)] ++ cap) rfl rfl ?ha ?_; (case ha => simp only [List.map_toArray, List.map_cons, List.map_nil]; rfl); (with_reducible refine (ha'.out.at_ (0) _ HB.out (by omega) (by omega)).mono ?_); rintro e w1 ⟨rfl, hb1⟩; refine ⟨_, rfl, ?_⟩; have n0 := Aside0.mk (below_step HB.out hb1); clear HB hb1; have HB := n0; clear n0) | ((with_reducible refine gate_dst (N := 17) rfl ?_); refine goesLC_ (n := 16) (some 17) rfl rfl HF.out hn hb (#[.int .i64 (1)] ++ cap) rfl rfl ?ha ?_; (case ha => simp only [List.map_toArray, List.map_cons, List.map_nil]; rfl); (with_reducible refine (ha'.out.at_ (1) _ HB.out (by omega) (by omega)).mono ?_); rintro e w1 ⟨rfl, hb1⟩; refine ⟨_, rfl, ?_⟩; have n0 := Aside0.mk (below_step HB.out hb1); clear HB hb1; have HB := n0; clear n0) | ((with_reducible refine gate_dst (N := 21) rfl ?_); refine goesLC_ (n := 20) (some 21) rfl rfl HF.out hn hb (#[.int .i64 (2)] ++ cap) rfl rfl ?ha ?_; (case ha => simp only [List.map_toArray, List.map_cons, List.map_nil]; rfl); (with_reducible refine (ha'.out.at_ (2) _ HB.out (by omega) (by omega)).mono ?_); rintro e w1 ⟨rfl, hb1⟩; refine ⟨_, rfl, ?_⟩; have n0 := Aside0.mk (below_step HB.out hb1); clear HB hb1; have HB := n0; clear n0) | ((with_reducible refine gate_dst (N := 25) rfl ?_); refine goesLC_ (n := 24) (some 25) rfl rfl HF.out hn hb (#[.int .i64 (3)] ++ cap) rfl rfl ?ha ?_; (case ha => simp only [List.map_toArray, List.map_cons, List.map_nil]; rfl); (with_reducible refine (ha'.out.at_ (3) _ HB.out (by omega) (by omega)).mono ?_); rintro e w1 ⟨rfl, hb1⟩; refine ⟨_, rfl, ?_⟩; have n0 := Aside0.mk (below_step HB.out hb1); clear HB hb1; have HB := n0; clear n0) | ((with_reducible refine gate_callee (f := 137) rfl ?_); refine goesL_ (some 29) rfl rfl Try.func137 (by kernel_rfl) rfl #[.int .i64 ((v (-2) - 5 * v (-1) + 20 * v 0 + 20 * v 1 - 5 * v 2 + v 3 + 16) / 32)] rfl (by (try simp only [List.map_toArray, List.map_cons, List.map_nil]); first | done | rfl) ?_; (with_reducible refine (impl_zclip.calls _ hf_ _ hz.out).mono ?_); rintro e w1 ⟨rfl, hb1⟩; refine ⟨_, rfl, ?_⟩; have n0 := Aside0.mk (below_step HB.out (by first | exact hb1 | exact hb1.below)); clear HB hb1; have HB := n0; clear n0))
    go_ret
    exact ⟨rfl, HB.out⟩
  rw [if_neg c2]
  have c2b : (f == 2) = false := beq_eq_false_iff_ne.mpr c2
  by_cases c3 : f = 3
  · rw [if_pos c3]
    subst c3
    go_enter Try.func152, Try.ntmps152
    go_wp2_with (first | ((with_reducible refine gate_dst (N := 7) rfl ?_); refine goesLC_ (n := 6) (some 7) rfl rfl HF.out hn hb (#[.int .i64 (-2)] ++ cap) rfl rfl ?ha ?_; (case ha => simp only [List.map_toArray, List.map_cons, List.map_nil]; rfl); (with_reducible refine (ha'.out.at_ (-2) _ HB.out (by omega) (by omega)).mono ?_); rintro e w1 ⟨rfl, hb1⟩; refine ⟨_, rfl, ?_⟩; have n0 := Aside0.mk (below_step HB.out hb1); clear HB hb1; have HB := n0; clear n0) | ((with_reducible refine gate_dst (N := 9) rfl ?_); refine goesLC_ (n := 8) (some 9) rfl rfl HF.out hn hb (#[.int .i64 (-1)] ++ cap) rfl rfl ?ha ?_; (case ha => simp only [List.map_toArray, List.map_cons, List.map_nil]; rfl); (with_reducible refine (ha'.out.at_ (-1) _ HB.out (by omega) (by omega)).mono ?_); rintro e w1 ⟨rfl, hb1⟩; refine ⟨_, rfl, ?_⟩; have n0 := Aside0.mk (below_step HB.out hb1); clear HB hb1; have HB := n0; clear n0) | ((with_reducible refine gate_dst (N := 13) rfl ?_); refine goesLC_ (n := 12) (some 13) rfl rfl HF.out hn hb (#[.int .i64 (0)] ++ cap) rfl rfl ?ha ?_; (case ha => simp only [List.map_toArray, List.map_cons, List.map_nil]; rfl); (with_reducible refine (ha'.out.at_ (0) _ HB.out (by omega) (by omega)).mono ?_); rintro e w1 ⟨rfl, hb1⟩; refine ⟨_, rfl, ?_⟩; have n0 := Aside0.mk (below_step HB.out hb1); clear HB hb1; have HB := n0; clear n0) | ((with_reducible refine gate_dst (N := 17) rfl ?_); refine goesLC_ (n := 16) (some 17) rfl rfl HF.out hn hb (#[.int .i64 (1)] ++ cap) rfl rfl ?ha ?_; (case ha => simp only [List.map_toArray, List.map_cons, List.map_nil]; rfl); (with_reducible refine (ha'.out.at_ (1) _ HB.out (by omega) (by omega)).mono ?_); rintro e w1 ⟨rfl, hb1⟩; refine ⟨_, rfl, ?_⟩; have n0 := Aside0.mk (below_step HB.out hb1); clear HB hb1; have HB := n0; clear n0) | ((with_reducible refine gate_dst (N := 21) rfl ?_); refine goesLC_ (n := 20) (some 21) rfl rfl HF.out hn hb (#[.int .i64 (2)] ++ cap) rfl rfl ?ha ?_; (case ha => simp only [List.map_toArray, List.map_cons, List.map_nil]; rfl); (with_reducible refine (ha'.out.at_ (2) _ HB.out (by omega) (by omega)).mono ?_); rintro e w1 ⟨rfl, hb1⟩; refine ⟨_, rfl, ?_⟩; have n0 := Aside0.mk (below_step HB.out hb1); clear HB hb1; have HB := n0; clear n0) | ((with_reducible refine gate_dst (N := 25) rfl ?_); refine goesLC_ (n := 24) (some 25) rfl rfl HF.out hn hb (#[.int .i64 (3)] ++ cap) rfl rfl ?ha ?_; (case ha => simp only [List.map_toArray, List.map_cons, List.map_nil]; rfl); (with_reducible refine (ha'.out.at_ (3) _ HB.out (by omega) (by omega)).mono ?_); rintro e w1 ⟨rfl, hb1⟩; refine ⟨_, rfl, ?_⟩; have n0 := Aside0.mk (below_step HB.out hb1); clear HB hb1; have HB := n0; clear n0) | ((with_reducible refine gate_callee (f := 137) rfl ?_); refine goesL_ (some 29) rfl rfl Try.func137 (by kernel_rfl) rfl #[.int .i64 ((v (-2) - 5 * v (-1) + 20 * v 0 + 20 * v 1 - 5 * v 2 + v 3 + 16) / 32)] rfl (by (try simp only [List.map_toArray, List.map_cons, List.map_nil]); first | done | rfl) ?_; (with_reducible refine (impl_zclip.calls _ hf_ _ hz.out).mono ?_); rintro e w1 ⟨rfl, hb1⟩; refine ⟨_, rfl, ?_⟩; have n0 := Aside0.mk (below_step HB.out (by first | exact hb1 | exact hb1.below)); clear HB hb1; have HB := n0; clear n0) | ((with_reducible refine gate_dst (N := 46) rfl ?_); refine goesLC_ (n := 45) (some 46) rfl rfl HF.out hn hb (#[.int .i64 (1)] ++ cap) rfl rfl ?ha ?_; (case ha => simp only [List.map_toArray, List.map_cons, List.map_nil]; rfl); (with_reducible refine (ha'.out.at_ (1) _ HB.out (by omega) (by omega)).mono ?_); rintro e w1 ⟨rfl, hb1⟩; refine ⟨_, rfl, ?_⟩; have n0 := Aside0.mk (below_step HB.out hb1); clear HB hb1; have HB := n0; clear n0))
    go_ret
    exact ⟨rfl, HB.out⟩
  rw [if_neg c3]
  have c3b : (f == 3) = false := beq_eq_false_iff_ne.mpr c3
  clear c1 c2 c3
  go_enter Try.func152, Try.ntmps152
  go_wp2_with (first | ((with_reducible refine gate_dst (N := 7) rfl ?_); refine goesLC_ (n := 6) (some 7) rfl rfl HF.out hn hb (#[.int .i64 (-2)] ++ cap) rfl rfl ?ha ?_; (case ha => simp only [List.map_toArray, List.map_cons, List.map_nil]; rfl); (with_reducible refine (ha'.out.at_ (-2) _ HB.out (by omega) (by omega)).mono ?_); rintro e w1 ⟨rfl, hb1⟩; refine ⟨_, rfl, ?_⟩; have n0 := Aside0.mk (below_step HB.out hb1); clear HB hb1; have HB := n0; clear n0) | ((with_reducible refine gate_dst (N := 9) rfl ?_); refine goesLC_ (n := 8) (some 9) rfl rfl HF.out hn hb (#[.int .i64 (-1)] ++ cap) rfl rfl ?ha ?_; (case ha => simp only [List.map_toArray, List.map_cons, List.map_nil]; rfl); (with_reducible refine (ha'.out.at_ (-1) _ HB.out (by omega) (by omega)).mono ?_); rintro e w1 ⟨rfl, hb1⟩; refine ⟨_, rfl, ?_⟩; have n0 := Aside0.mk (below_step HB.out hb1); clear HB hb1; have HB := n0; clear n0) | ((with_reducible refine gate_dst (N := 13) rfl ?_); refine goesLC_ (n := 12) (some 13) rfl rfl HF.out hn hb (#[.int .i64 (0)] ++ cap) rfl rfl ?ha ?_; (case ha => simp only [List.map_toArray, List.map_cons, List.map_nil]; rfl); (with_reducible refine (ha'.out.at_ (0) _ HB.out (by omega) (by omega)).mono ?_); rintro e w1 ⟨rfl, hb1⟩; refine ⟨_, rfl, ?_⟩; have n0 := Aside0.mk (below_step HB.out hb1); clear HB hb1; have HB := n0; clear n0) | ((with_reducible refine gate_dst (N := 17) rfl ?_); refine goesLC_ (n := 16) (some 17) rfl rfl HF.out hn hb (#[.int .i64 (1)] ++ cap) rfl rfl ?ha ?_; (case ha => simp only [List.map_toArray, List.map_cons, List.map_nil]; rfl); (with_reducible refine (ha'.out.at_ (1) _ HB.out (by omega) (by omega)).mono ?_); rintro e w1 ⟨rfl, hb1⟩; refine ⟨_, rfl, ?_⟩; have n0 := Aside0.mk (below_step HB.out hb1); clear HB hb1; have HB := n0; clear n0) | ((with_reducible refine gate_dst (N := 21) rfl ?_); refine goesLC_ (n := 20) (some 21) rfl rfl HF.out hn hb (#[.int .i64 (2)] ++ cap) rfl rfl ?ha ?_; (case ha => simp only [List.map_toArray, List.map_cons, List.map_nil]; rfl); (with_reducible refine (ha'.out.at_ (2) _ HB.out (by omega) (by omega)).mono ?_); rintro e w1 ⟨rfl, hb1⟩; refine ⟨_, rfl, ?_⟩; have n0 := Aside0.mk (below_step HB.out hb1); clear HB hb1; have HB := n0; clear n0) | ((with_reducible refine gate_dst (N := 25) rfl ?_); refine goesLC_ (n := 24) (some 25) rfl rfl HF.out hn hb (#[.int .i64 (3)] ++ cap) rfl rfl ?ha ?_; (case ha => simp only [List.map_toArray, List.map_cons, List.map_nil]; rfl); (with_reducible refine (ha'.out.at_ (3) _ HB.out (by omega) (by omega)).mono ?_); rintro e w1 ⟨rfl, hb1⟩; refine ⟨_, rfl, ?_⟩; have n0 := Aside0.mk (below_step HB.out hb1); clear HB hb1; have HB := n0; clear n0) | ((with_reducible refine gate_callee (f := 137) rfl ?_); refine goesL_ (some 29) rfl rfl Try.func137 (by kernel_rfl) rfl #[.int .i64 ((v (-2) - 5 * v (-1) + 20 * v 0 + 20 * v 1 - 5 * v 2 + v 3 + 16) / 32)] rfl (by (try simp only [List.map_toArray, List.map_cons, List.map_nil]); first | done | rfl) ?_; (with_reducible refine (impl_zclip.calls _ hf_ _ hz.out).mono ?_); rintro e w1 ⟨rfl, hb1⟩; refine ⟨_, rfl, ?_⟩; have n0 := Aside0.mk (below_step HB.out (by first | exact hb1 | exact hb1.below)); clear HB hb1; have HB := n0; clear n0) | ((with_reducible refine gate_dst (N := 51) rfl ?_); refine goesLC_ (n := 50) (some 51) rfl rfl HF.out hn hb (#[.int .i64 (0)] ++ cap) rfl rfl ?ha ?_; (case ha => simp only [List.map_toArray, List.map_cons, List.map_nil]; rfl); (with_reducible refine (ha'.out.at_ (0) _ HB.out (by omega) (by omega)).mono ?_); rintro e w1 ⟨rfl, hb1⟩; refine ⟨_, rfl, ?_⟩; have n0 := Aside0.mk (below_step HB.out hb1); clear HB hb1; have HB := n0; clear n0))
  go_ret
  exact ⟨rfl, HB.out⟩
/-! The variables that the closures hold. -/
structure Bx (W H X Y i j : Int) (l : List Int) (A : Option Addr) (c gp gs gx gy gi gj : Nat) (w : World) : Prop where
  p : w.heap[gp]? = some (.cells #[.int .i64 W, .int .i64 H, .slice A l.length c] 29 (0, 0))
  s : w.heap[gs]? = some (.cells #[.func (.func 151) #[] #[.pointer (some ⟨gp, 0, none⟩)]] 174 (0, 0))
  x : w.heap[gx]? = some (.cells #[.int .i64 X] 3 (0, 0))
  y : w.heap[gy]? = some (.cells #[.int .i64 Y] 3 (0, 0))
  i : w.heap[gi]? = some (.cells #[.int .i64 i] 3 (0, 0))
  j : w.heap[gj]? = some (.cells #[.int .i64 j] 3 (0, 0))
  r : Kd.C (Kd.int .i64) w A l.length l
structure Rg (X Y i j : Int) : Prop where
  x : -4096 ≤ X ∧ X ≤ 4096
  y : -4096 ≤ Y ∧ Y ≤ 4096
  i : 0 ≤ i ∧ i ≤ 8
  j : 0 ≤ j ∧ j ≤ 8
section
variable {W H X Y i j : Int} {l : List Int} {A : Option Addr} {c gp gs gx gy gi gj : Nat} {w w1 : World}
theorem Bx.below (h : Bx W H X Y i j l A c gp gs gx gy gi gj w) (hb : Below w.heap.size w w1) : Bx W H X Y i j l A c gp gs gx gy gi gj w1 := ⟨blk_below h.p hb, blk_below h.s hb, blk_below h.x hb, blk_below h.y hb, blk_below h.i hb, blk_below h.j hb, Kd.C_below h.r hb⟩
set_option maxHeartbeats 8000000 in
set_option maxRecDepth 100000 in
theorem c154 (ho : PlaneOk W H l) (hr : Rg X Y i j) (e d : Int) (gd : Nat) (h : Bx W H X Y i j l A c gp gs gx gy gi gj w) (hd : w.heap[gd]? = some (.cells #[.int .i64 d] 3 (0, 0))) (e0 : -2 ≤ e) (e1 : e ≤ 3) (d0 : -2 ≤ d) (d1 : d ≤ 3) :
    Calls Try.prog 154 #[.int .i64 e, .pointer (some ⟨gs, 0, none⟩), .pointer (some ⟨gx, 0, none⟩), .pointer (some ⟨gi, 0, none⟩), .pointer (some ⟨gy, 0, none⟩), .pointer (some ⟨gj, 0, none⟩), .pointer (some ⟨gd, 0, none⟩)] w fun en w' => en = .returned (.int .i64 (smp W H l (X / 4 + i + e) (Y / 4 + j + d))) ∧ Below w.heap.size w w' := by
  have hcs : w.cell? ⟨gs, 0, none⟩ = some (.func (.func 151) #[] #[.pointer (some ⟨gp, 0, none⟩)]) := (blk_cell h.s 0).trans rfl
  have hcx : w.cell? ⟨gx, 0, none⟩ = some (.int .i64 X) := (blk_cell h.x 0).trans rfl
  have hcy : w.cell? ⟨gy, 0, none⟩ = some (.int .i64 Y) := (blk_cell h.y 0).trans rfl
  have hci : w.cell? ⟨gi, 0, none⟩ = some (.int .i64 i) := (blk_cell h.i 0).trans rfl
  have hcj : w.cell? ⟨gj, 0, none⟩ = some (.int .i64 j) := (blk_cell h.j 0).trans rfl
  have hcd : w.cell? ⟨gd, 0, none⟩ = some (.int .i64 d) := (blk_cell hd 0).trans rfl
  obtain ⟨x0, x1⟩ := hr.x
  obtain ⟨y0, y1⟩ := hr.y
  obtain ⟨i0, i1⟩ := hr.i
  obtain ⟨j0, j1⟩ := hr.j
  have HP := Aside0.mk h.p
  have HR := Aside0.mk h.r
  have HO := Aside0.mk ho
  clear h hd hr ho
  go_enter Try.func154, Try.ntmps154
  go_wp2_with (first | ((with_reducible refine gate_dst (N := 22) rfl ?_); refine goesLC_ (n := 9) (some 22) rfl rfl Try.func151 (by kernel_rfl) rfl #[.int .i64 (X / 4 + i + e), .int .i64 (Y / 4 + j + d), .pointer (some ⟨gp, 0, none⟩)] rfl rfl (by simp only [List.map_toArray, List.map_cons, List.map_nil, List.append_toArray, List.cons_append, List.nil_append]; rfl) ?_; (with_reducible refine (smp_calls HO.out (X / 4 + i + e) (Y / 4 + j + d) gp c A w HP.out HR.out).mono ?_); rintro en w1 ⟨rfl, rfl⟩; refine ⟨_, rfl, ?_⟩))
  go_ret
  exact ⟨rfl, Below.refl _ _⟩
set_option maxHeartbeats 8000000 in
set_option maxRecDepth 100000 in
theorem c153 (ho : PlaneOk W H l) (hr : Rg X Y i j) (d : Int) (h : Bx W H X Y i j l A c gp gs gx gy gi gj w) (d0 : -2 ≤ d) (d1 : d ≤ 3) :
    Calls Try.prog 153 #[.int .i64 d, .pointer (some ⟨gx, 0, none⟩), .pointer (some ⟨gs, 0, none⟩), .pointer (some ⟨gi, 0, none⟩), .pointer (some ⟨gy, 0, none⟩), .pointer (some ⟨gj, 0, none⟩)] w fun en w' => en = .returned (.int .i64 (btw (Go.bits .and .i64 X 3) (fun e => smp W H l (X / 4 + i + e) (Y / 4 + j + d)))) ∧ Below w.heap.size w w' := by
  have HH := Aside0.mk h
  have HO := Aside0.mk ho
  have HG := Aside0.mk hr
  clear h ho hr
  go_enter Try.func153, Try.ntmps153
  go_wp2_with (first | ((with_reducible refine gate_dst (N := 6) rfl ?_); refine box_event ?hg (N := 6) ?hd (cs := #[.int .i64 d]) (t := 3) ?hr ?_; (case hd => rfl); (case hg => rfl); (case hr => first | (go_simp; done) | (go_simp; rfl)); intro gd hg w1 hbox hb; have HD := Aside0.mk hbox; have HB := Aside0.mk hb; have HH1 := Aside0.mk (Bx.below HH.out hb); clear hg hbox hb; have hcx : w1.cell? ⟨gx, 0, none⟩ = some (.int .i64 X) := (blk_cell HH1.out.x 0).trans rfl) | ((with_reducible refine gate_callee (f := 152) rfl ?_); refine goesL_ (some 11) rfl rfl Try.func152 (by kernel_rfl) rfl #[.int .i64 (Go.bits .and .i64 X 3), .func (.func 154) #[] #[.pointer (some ⟨gs, 0, none⟩), .pointer (some ⟨gx, 0, none⟩), .pointer (some ⟨gi, 0, none⟩), .pointer (some ⟨gy, 0, none⟩), .pointer (some ⟨gj, 0, none⟩), .pointer (some ⟨gd, 0, none⟩)]] rfl (by (try simp only [List.map_toArray, List.map_cons, List.map_nil]); first | done | rfl) ?_; (with_reducible refine (btw_calls (Go.bits .and .i64 X 3) 154 Try.f154 #[.pointer (some ⟨gs, 0, none⟩), .pointer (some ⟨gx, 0, none⟩), .pointer (some ⟨gi, 0, none⟩), .pointer (some ⟨gy, 0, none⟩), .pointer (some ⟨gj, 0, none⟩), .pointer (some ⟨gd, 0, none⟩)] (fun e => smp W H l (X / 4 + i + e) (Y / 4 + j + d)) w1 Try.func154 (by kernel_rfl) rfl ?ans ?rng).mono ?_); (case ans => exact fun e w2 hb2 e0 e1 => c154 HO.out HG.out e d gd (Bx.below HH1.out hb2) (blk_below HD.out hb2) e0 e1 d0 d1); (case rng => exact fun e => HO.out.v _); rintro en w2 ⟨rfl, hb2⟩; refine ⟨_, rfl, ?_⟩; have HB2 := Aside0.mk (below_step HB.out hb2); clear hb2))
  go_ret
  exact ⟨rfl, HB2.out⟩
end
def mval (W H : Int) (l : List Int) (X Y : Int) (j i : Nat) : Int := btw (Go.bits .and .i64 Y 3) (fun d => btw (Go.bits .and .i64 X 3) (fun e => smp W H l (X / 4 + (i : Int) + e) (Y / 4 + (j : Int) + d)))
def mrow (W H : Int) (l : List Int) (X Y : Int) (j : Nat) : Nat → List Int
  | 0 => []
  | i + 1 => mrow W H l X Y j i ++ [mval W H l X Y j i]
def mcol (W H : Int) (l : List Int) (X Y : Int) (n : Nat) : Nat → List Int
  | 0 => []
  | j + 1 => mcol W H l X Y n j ++ mrow W H l X Y j n
theorem mrow_len (W H : Int) (l : List Int) (X Y : Int) (j : Nat) : ∀ i, (mrow W H l X Y j i).length = i
  | 0 => rfl
  | i + 1 => by show (mrow W H l X Y j i ++ [_]).length = _; rw [List.length_append, mrow_len W H l X Y j i]; rfl
theorem mcol_len (W H : Int) (l : List Int) (X Y : Int) (n : Nat) : ∀ j, (mcol W H l X Y n j).length = n * j
  | 0 => rfl
  | j + 1 => by show (mcol W H l X Y n j ++ mrow W H l X Y j n).length = _; rw [List.length_append, mcol_len W H l X Y n j, mrow_len, Nat.mul_succ]
def pokB (W H : Int) (l : List Int) : Bool := decide (1 ≤ W ∧ W ≤ 512 ∧ 1 ≤ H ∧ H ≤ 512 ∧ (l.length : Int) = W * H) && l.all (fun v => decide (0 ≤ v ∧ v ≤ 255))
theorem pokB_ok {W H : Int} {l : List Int} (h : pokB W H l = true) : PlaneOk W H l := by
  unfold pokB at h
  rw [Bool.and_eq_true] at h
  obtain ⟨h1, h2⟩ := h
  obtain ⟨a, b, c, d, e⟩ := of_decide_eq_true h1
  refine ⟨⟨a, b⟩, ⟨c, d⟩, e, fun i => ?_⟩
  have ha := List.all_eq_true.1 h2
  unfold rd
  by_cases hi : i.toNat < l.length
  · rw [List.getD_eq_getElem?_getD, List.getElem?_eq_getElem hi]
    exact of_decide_eq_true (ha _ (List.getElem_mem hi))
  · rw [List.getD_eq_getElem?_getD, List.getElem?_eq_none (by omega)]
    exact ⟨by decide, by decide⟩
def impl_Moved.f (k : Nat) (a0_0 : Int) (a0_1 : Int) (l0_2 : List Int) (a1 : Int) (a2 : Int) (a3 : Int) : Option (List Int) := (impl_GoodPlane.f k a0_0 a0_1 l0_2).bind fun t => (if t = true then (if (a3 = 4 ∨ a3 = 8) then (if a1 < -4096 then (some []) else (if a1 > 4096 then (some []) else (if a2 < -4096 then (some []) else (if a2 > 4096 then (some []) else (if pokB a0_0 a0_1 l0_2 = true then (some (mcol a0_0 a0_1 l0_2 a1 a2 a3.toNat a3.toNat)) else (none)))))) else (some [])) else (some []))
theorem impl_Moved.mono : ∀ a0 a1 a2 a3 a4 a5 k, LeO (impl_Moved.f k a0 a1 a2 a3 a4 a5) (impl_Moved.f (k + 1) a0 a1 a2 a3 a4 a5) := by
  intro a0 a1 a2 a3 a4 a5 k
  unfold impl_Moved.f
  repeat' first
      | (with_reducible exact impl_GoodPlane.mono _ _ _ _)
      | (with_reducible exact LeO.refl _)
      | (with_reducible exact LeO.none _)
      | (with_reducible refine LeO.ite ?_ ?_)
      | (with_reducible refine LeO.bind ?_ (fun _ => ?_))
      | exact impl_GoodPlane.mono _ _ _ _
      | exact LeO.none _
      | refine LeO.ite ?_ ?_
      | refine LeO.bind ?_ (fun _ => ?_)
set_option maxHeartbeats 8000000 in
set_option maxRecDepth 100000 in
theorem impl_Moved.calls (k : Nat) (a0_0 : Int) (a0_1 : Int) (A0_2 : Option Addr) (c0_2 : Nat) (l0_2 : List Int) (a1 : Int) (a2 : Int) (a3 : Int) (r : List Int) (w : World) (hr0_2 : Kd.C (Kd.int .i64) w A0_2 l0_2.length l0_2) (hc0_2 : l0_2.length ≤ c0_2) (h : impl_Moved.f k a0_0 a0_1 l0_2 a1 a2 a3 = some r) :
    Calls Try.prog 77 #[.agg #[.int .i64 a0_0, .int .i64 a0_1, .slice A0_2 l0_2.length c0_2], .int .i64 a1, .int .i64 a2, .int .i64 a3] w fun e w' => ∃ v0_ : Value, e = .returned (v0_) ∧ Kd.R (Kd.int .i64) 3 w' w.heap.size (fun _ => True) v0_ r ∧ Below w.heap.size w w' := by
  have HR := Aside0.mk hr0_2
  have HC := Aside0.mk hc0_2
  clear hr0_2 hc0_2
  have HB := Aside0.mk (Below.refl w.heap.size w)
  replace h := Option.bind_eq_some_iff.mp h
  obtain ⟨t, A10, h⟩ := h
  have A1 := Aside0.mk A10
  clear A10
  by_cases ct : t = true
  rotate_left
  · rw [if_neg ct] at h
    obtain rfl := Option.some.inj h
    obtain rfl := Bool.eq_false_iff.mpr ct
    clear ct h
    go_enter Try.func77, Try.ntmps77
    go_wp2_with (first | ((with_reducible refine gate_dst (N := 4) rfl ?_); refine box_event ?hg (N := 4) ?hd (cs := #[.int .i64 a0_0, .int .i64 a0_1, .slice A0_2 l0_2.length c0_2]) (t := 29) ?hr ?_; (case hd => rfl); (case hg => rfl); (case hr => first | (go_simp; done) | (go_simp; rfl)); intro g4 hg w1 hbox hb; have n_HB := Aside0.mk (below_step HB.out hb); have GEg4 := Aside0.mk (show w.heap.size ≤ g4 from Nat.le_of_eq hg.symm); clear HB; have HB := n_HB; clear n_HB; have BKg4 := Aside0.mk hbox; clear hg hbox hb) | ((with_reducible refine gate_dst (N := 5) rfl ?_); refine box_event ?hg (N := 5) ?hd (cs := #[.int .i64 a1]) (t := 3) ?hr ?_; (case hd => rfl); (case hg => rfl); (case hr => first | (go_simp; done) | (go_simp; rfl)); intro g5 hg w2 hbox hb; have n_BKg4 := Aside0.mk (blk_below BKg4.out hb); have n_HB := Aside0.mk (below_step HB.out hb); have GEg5 := Aside0.mk (show w1.heap.size ≤ g5 from Nat.le_of_eq hg.symm); clear HB BKg4; have HB := n_HB; have BKg4 := n_BKg4; clear n_HB n_BKg4; have BKg5 := Aside0.mk hbox; clear hg hbox hb) | ((with_reducible refine gate_dst (N := 6) rfl ?_); refine box_event ?hg (N := 6) ?hd (cs := #[.int .i64 a2]) (t := 3) ?hr ?_; (case hd => rfl); (case hg => rfl); (case hr => first | (go_simp; done) | (go_simp; rfl)); intro g6 hg w3 hbox hb; have n_BKg4 := Aside0.mk (blk_below BKg4.out hb); have n_BKg5 := Aside0.mk (blk_below BKg5.out hb); have n_HB := Aside0.mk (below_step HB.out hb); have GEg6 := Aside0.mk (show w2.heap.size ≤ g6 from Nat.le_of_eq hg.symm); clear HB BKg4 BKg5; have HB := n_HB; have BKg4 := n_BKg4; have BKg5 := n_BKg5; clear n_HB n_BKg4 n_BKg5; have BKg6 := Aside0.mk hbox; clear hg hbox hb; have hcg4_0 : w3.cell? ⟨g4, 0, none⟩ = some (.int .i64 a0_0) := (blk_cell BKg4.out 0).trans rfl; have hcg4_1 : w3.cell? ⟨g4, 1, none⟩ = some (.int .i64 a0_1) := (blk_cell BKg4.out 1).trans rfl; have hcg4_2 : w3.cell? ⟨g4, 2, none⟩ = some (.slice A0_2 l0_2.length c0_2) := (blk_cell BKg4.out 2).trans rfl; have hcg5_0 : w3.cell? ⟨g5, 0, none⟩ = some (.int .i64 a1) := (blk_cell BKg5.out 0).trans rfl; have hcg6_0 : w3.cell? ⟨g6, 0, none⟩ = some (.int .i64 a2) := (blk_cell BKg6.out 0).trans rfl) | ((with_reducible refine gate_callee (f := 82) rfl ?_); refine goesL_ (some 14) rfl rfl Try.func82 (by kernel_rfl) rfl #[.agg #[.int .i64 a0_0, .int .i64 a0_1, .slice A0_2 l0_2.length c0_2]] rfl (by (try simp only [List.map_toArray, List.map_cons, List.map_nil]); first | done | rfl) ?_; (with_reducible refine (impl_GoodPlane.calls k a0_0 a0_1 _ _ l0_2 false _ ?side1 ?side2 A1.out).mono ?_); (case side1 => exact Kd.C_below HR.out HB.out); (case side2 => exact HC.out); rintro e w4 ⟨rfl, hb⟩; refine ⟨_, rfl, ?_⟩; have n_4 := Aside0.mk (blk_below BKg4.out hb); have n_5 := Aside0.mk (blk_below BKg5.out hb); have n_6 := Aside0.mk (blk_below BKg6.out hb); have n_HB := Aside0.mk (below_step HB.out hb); have SZ4 := Aside0.mk hb.size; clear HB BKg4 BKg5 BKg6 hb hcg4_0 hcg4_1 hcg4_2 hcg5_0 hcg6_0; have HB := n_HB; have BKg4 := n_4; have BKg5 := n_5; have BKg6 := n_6; clear n_HB n_4 n_5 n_6; have hcg5_0 : w4.cell? ⟨g5, 0, none⟩ = some (.int .i64 a1) := (blk_cell BKg5.out 0).trans rfl; have hcg6_0 : w4.cell? ⟨g6, 0, none⟩ = some (.int .i64 a2) := (blk_cell BKg6.out 0).trans rfl))
    go_ret
    exact ⟨_, rfl, Kd.R_nil _ _ _ _ _, HB.out⟩
  subst ct
  rw [if_pos rfl] at h
  by_cases c3 : a3 = 4 ∨ a3 = 8
  rotate_left
  · rw [if_neg c3] at h
    obtain rfl := Option.some.inj h
    have e4 : (a3 != 4) = true := bne_iff_ne.mpr (fun z => c3 (.inl z))
    have e8 : (a3 != 8) = true := bne_iff_ne.mpr (fun z => c3 (.inr z))
    clear c3 h
    go_enter Try.func77, Try.ntmps77
    go_wp2_with (first | ((with_reducible refine gate_dst (N := 4) rfl ?_); refine box_event ?hg (N := 4) ?hd (cs := #[.int .i64 a0_0, .int .i64 a0_1, .slice A0_2 l0_2.length c0_2]) (t := 29) ?hr ?_; (case hd => rfl); (case hg => rfl); (case hr => first | (go_simp; done) | (go_simp; rfl)); intro g4 hg w1 hbox hb; have n_HB := Aside0.mk (below_step HB.out hb); have GEg4 := Aside0.mk (show w.heap.size ≤ g4 from Nat.le_of_eq hg.symm); clear HB; have HB := n_HB; clear n_HB; have BKg4 := Aside0.mk hbox; clear hg hbox hb) | ((with_reducible refine gate_dst (N := 5) rfl ?_); refine box_event ?hg (N := 5) ?hd (cs := #[.int .i64 a1]) (t := 3) ?hr ?_; (case hd => rfl); (case hg => rfl); (case hr => first | (go_simp; done) | (go_simp; rfl)); intro g5 hg w2 hbox hb; have n_BKg4 := Aside0.mk (blk_below BKg4.out hb); have n_HB := Aside0.mk (below_step HB.out hb); have GEg5 := Aside0.mk (show w1.heap.size ≤ g5 from Nat.le_of_eq hg.symm); clear HB BKg4; have HB := n_HB; have BKg4 := n_BKg4; clear n_HB n_BKg4; have BKg5 := Aside0.mk hbox; clear hg hbox hb) | ((with_reducible refine gate_dst (N := 6) rfl ?_); refine box_event ?hg (N := 6) ?hd (cs := #[.int .i64 a2]) (t := 3) ?hr ?_; (case hd => rfl); (case hg => rfl); (case hr => first | (go_simp; done) | (go_simp; rfl)); intro g6 hg w3 hbox hb; have n_BKg4 := Aside0.mk (blk_below BKg4.out hb); have n_BKg5 := Aside0.mk (blk_below BKg5.out hb); have n_HB := Aside0.mk (below_step HB.out hb); have GEg6 := Aside0.mk (show w2.heap.size ≤ g6 from Nat.le_of_eq hg.symm); clear HB BKg4 BKg5; have HB := n_HB; have BKg4 := n_BKg4; have BKg5 := n_BKg5; clear n_HB n_BKg4 n_BKg5; have BKg6 := Aside0.mk hbox; clear hg hbox hb; have hcg4_0 : w3.cell? ⟨g4, 0, none⟩ = some (.int .i64 a0_0) := (blk_cell BKg4.out 0).trans rfl; have hcg4_1 : w3.cell? ⟨g4, 1, none⟩ = some (.int .i64 a0_1) := (blk_cell BKg4.out 1).trans rfl; have hcg4_2 : w3.cell? ⟨g4, 2, none⟩ = some (.slice A0_2 l0_2.length c0_2) := (blk_cell BKg4.out 2).trans rfl; have hcg5_0 : w3.cell? ⟨g5, 0, none⟩ = some (.int .i64 a1) := (blk_cell BKg5.out 0).trans rfl; have hcg6_0 : w3.cell? ⟨g6, 0, none⟩ = some (.int .i64 a2) := (blk_cell BKg6.out 0).trans rfl) | ((with_reducible refine gate_callee (f := 82) rfl ?_); refine goesL_ (some 14) rfl rfl Try.func82 (by kernel_rfl) rfl #[.agg #[.int .i64 a0_0, .int .i64 a0_1, .slice A0_2 l0_2.length c0_2]] rfl (by (try simp only [List.map_toArray, List.map_cons, List.map_nil]); first | done | rfl) ?_; (with_reducible refine (impl_GoodPlane.calls k a0_0 a0_1 _ _ l0_2 true _ ?side1 ?side2 A1.out).mono ?_); (case side1 => exact Kd.C_below HR.out HB.out); (case side2 => exact HC.out); rintro e w4 ⟨rfl, hb⟩; refine ⟨_, rfl, ?_⟩; have n_4 := Aside0.mk (blk_below BKg4.out hb); have n_5 := Aside0.mk (blk_below BKg5.out hb); have n_6 := Aside0.mk (blk_below BKg6.out hb); have n_HB := Aside0.mk (below_step HB.out hb); have SZ4 := Aside0.mk hb.size; clear HB BKg4 BKg5 BKg6 hb hcg4_0 hcg4_1 hcg4_2 hcg5_0 hcg6_0; have HB := n_HB; have BKg4 := n_4; have BKg5 := n_5; have BKg6 := n_6; clear n_HB n_4 n_5 n_6; have hcg5_0 : w4.cell? ⟨g5, 0, none⟩ = some (.int .i64 a1) := (blk_cell BKg5.out 0).trans rfl; have hcg6_0 : w4.cell? ⟨g6, 0, none⟩ = some (.int .i64 a2) := (blk_cell BKg6.out 0).trans rfl))
    go_ret
    exact ⟨_, rfl, Kd.R_nil _ _ _ _ _, HB.out⟩
  rw [if_pos c3] at h
  obtain ⟨n, rfl, hn⟩ : ∃ n : Nat, a3 = (n : Int) ∧ (n = 4 ∨ n = 8) := ⟨a3.toNat, by omega, by omega⟩
  have e48 : (((n : Int) != 4) = false) ∨ ((((n : Int) != 4) = true) ∧ (((n : Int) != 8) = false)) := by
    rcases hn with rfl | rfl
    · exact .inl rfl
    · exact .inr ⟨rfl, rfl⟩
  by_cases d1 : a1 < -4096
  · rw [if_pos d1] at h
    obtain rfl := Option.some.inj h
    have d1b : decide (a1 < -4096) = true := decide_eq_true d1
    clear h c3 hn
    rcases e48 with e4 | ⟨e4, e8⟩
    all_goals
      go_enter Try.func77, Try.ntmps77
      go_wp2_with (first | ((with_reducible refine gate_dst (N := 4) rfl ?_); refine box_event ?hg (N := 4) ?hd (cs := #[.int .i64 a0_0, .int .i64 a0_1, .slice A0_2 l0_2.length c0_2]) (t := 29) ?hr ?_; (case hd => rfl); (case hg => rfl); (case hr => first | (go_simp; done) | (go_simp; rfl)); intro g4 hg w1 hbox hb; have n_HB := Aside0.mk (below_step HB.out hb); have GEg4 := Aside0.mk (show w.heap.size ≤ g4 from Nat.le_of_eq hg.symm); clear HB; have HB := n_HB; clear n_HB; have BKg4 := Aside0.mk hbox; clear hg hbox hb) | ((with_reducible refine gate_dst (N := 5) rfl ?_); refine box_event ?hg (N := 5) ?hd (cs := #[.int .i64 a1]) (t := 3) ?hr ?_; (case hd => rfl); (case hg => rfl); (case hr => first | (go_simp; done) | (go_simp; rfl)); intro g5 hg w2 hbox hb; have n_BKg4 := Aside0.mk (blk_below BKg4.out hb); have n_HB := Aside0.mk (below_step HB.out hb); have GEg5 := Aside0.mk (show w1.heap.size ≤ g5 from Nat.le_of_eq hg.symm); clear HB BKg4; have HB := n_HB; have BKg4 := n_BKg4; clear n_HB n_BKg4; have BKg5 := Aside0.mk hbox; clear hg hbox hb) | ((with_reducible refine gate_dst (N := 6) rfl ?_); refine box_event ?hg (N := 6) ?hd (cs := #[.int .i64 a2]) (t := 3) ?hr ?_; (case hd => rfl); (case hg => rfl); (case hr => first | (go_simp; done) | (go_simp; rfl)); intro g6 hg w3 hbox hb; have n_BKg4 := Aside0.mk (blk_below BKg4.out hb); have n_BKg5 := Aside0.mk (blk_below BKg5.out hb); have n_HB := Aside0.mk (below_step HB.out hb); have GEg6 := Aside0.mk (show w2.heap.size ≤ g6 from Nat.le_of_eq hg.symm); clear HB BKg4 BKg5; have HB := n_HB; have BKg4 := n_BKg4; have BKg5 := n_BKg5; clear n_HB n_BKg4 n_BKg5; have BKg6 := Aside0.mk hbox; clear hg hbox hb; have hcg4_0 : w3.cell? ⟨g4, 0, none⟩ = some (.int .i64 a0_0) := (blk_cell BKg4.out 0).trans rfl; have hcg4_1 : w3.cell? ⟨g4, 1, none⟩ = some (.int .i64 a0_1) := (blk_cell BKg4.out 1).trans rfl; have hcg4_2 : w3.cell? ⟨g4, 2, none⟩ = some (.slice A0_2 l0_2.length c0_2) := (blk_cell BKg4.out 2).trans rfl; have hcg5_0 : w3.cell? ⟨g5, 0, none⟩ = some (.int .i64 a1) := (blk_cell BKg5.out 0).trans rfl; have hcg6_0 : w3.cell? ⟨g6, 0, none⟩ = some (.int .i64 a2) := (blk_cell BKg6.out 0).trans rfl) | ((with_reducible refine gate_callee (f := 82) rfl ?_); refine goesL_ (some 14) rfl rfl Try.func82 (by kernel_rfl) rfl #[.agg #[.int .i64 a0_0, .int .i64 a0_1, .slice A0_2 l0_2.length c0_2]] rfl (by (try simp only [List.map_toArray, List.map_cons, List.map_nil]); first | done | rfl) ?_; (with_reducible refine (impl_GoodPlane.calls k a0_0 a0_1 _ _ l0_2 true _ ?side1 ?side2 A1.out).mono ?_); (case side1 => exact Kd.C_below HR.out HB.out); (case side2 => exact HC.out); rintro e w4 ⟨rfl, hb⟩; refine ⟨_, rfl, ?_⟩; have n_4 := Aside0.mk (blk_below BKg4.out hb); have n_5 := Aside0.mk (blk_below BKg5.out hb); have n_6 := Aside0.mk (blk_below BKg6.out hb); have n_HB := Aside0.mk (below_step HB.out hb); have SZ4 := Aside0.mk hb.size; clear HB BKg4 BKg5 BKg6 hb hcg4_0 hcg4_1 hcg4_2 hcg5_0 hcg6_0; have HB := n_HB; have BKg4 := n_4; have BKg5 := n_5; have BKg6 := n_6; clear n_HB n_4 n_5 n_6; have hcg5_0 : w4.cell? ⟨g5, 0, none⟩ = some (.int .i64 a1) := (blk_cell BKg5.out 0).trans rfl; have hcg6_0 : w4.cell? ⟨g6, 0, none⟩ = some (.int .i64 a2) := (blk_cell BKg6.out 0).trans rfl))
      go_ret
      exact ⟨_, rfl, Kd.R_nil _ _ _ _ _, HB.out⟩
  rw [if_neg d1] at h
  have d1b : decide (a1 < -4096) = false := decide_eq_false d1
  by_cases d2 : a1 > 4096
  · rw [if_pos d2] at h
    obtain rfl := Option.some.inj h
    have d2b : decide (4096 < a1) = true := decide_eq_true d2
    clear h c3 hn
    rcases e48 with e4 | ⟨e4, e8⟩
    all_goals
      go_enter Try.func77, Try.ntmps77
      go_wp2_with (first | ((with_reducible refine gate_dst (N := 4) rfl ?_); refine box_event ?hg (N := 4) ?hd (cs := #[.int .i64 a0_0, .int .i64 a0_1, .slice A0_2 l0_2.length c0_2]) (t := 29) ?hr ?_; (case hd => rfl); (case hg => rfl); (case hr => first | (go_simp; done) | (go_simp; rfl)); intro g4 hg w1 hbox hb; have n_HB := Aside0.mk (below_step HB.out hb); have GEg4 := Aside0.mk (show w.heap.size ≤ g4 from Nat.le_of_eq hg.symm); clear HB; have HB := n_HB; clear n_HB; have BKg4 := Aside0.mk hbox; clear hg hbox hb) | ((with_reducible refine gate_dst (N := 5) rfl ?_); refine box_event ?hg (N := 5) ?hd (cs := #[.int .i64 a1]) (t := 3) ?hr ?_; (case hd => rfl); (case hg => rfl); (case hr => first | (go_simp; done) | (go_simp; rfl)); intro g5 hg w2 hbox hb; have n_BKg4 := Aside0.mk (blk_below BKg4.out hb); have n_HB := Aside0.mk (below_step HB.out hb); have GEg5 := Aside0.mk (show w1.heap.size ≤ g5 from Nat.le_of_eq hg.symm); clear HB BKg4; have HB := n_HB; have BKg4 := n_BKg4; clear n_HB n_BKg4; have BKg5 := Aside0.mk hbox; clear hg hbox hb) | ((with_reducible refine gate_dst (N := 6) rfl ?_); refine box_event ?hg (N := 6) ?hd (cs := #[.int .i64 a2]) (t := 3) ?hr ?_; (case hd => rfl); (case hg => rfl); (case hr => first | (go_simp; done) | (go_simp; rfl)); intro g6 hg w3 hbox hb; have n_BKg4 := Aside0.mk (blk_below BKg4.out hb); have n_BKg5 := Aside0.mk (blk_below BKg5.out hb); have n_HB := Aside0.mk (below_step HB.out hb); have GEg6 := Aside0.mk (show w2.heap.size ≤ g6 from Nat.le_of_eq hg.symm); clear HB BKg4 BKg5; have HB := n_HB; have BKg4 := n_BKg4; have BKg5 := n_BKg5; clear n_HB n_BKg4 n_BKg5; have BKg6 := Aside0.mk hbox; clear hg hbox hb; have hcg4_0 : w3.cell? ⟨g4, 0, none⟩ = some (.int .i64 a0_0) := (blk_cell BKg4.out 0).trans rfl; have hcg4_1 : w3.cell? ⟨g4, 1, none⟩ = some (.int .i64 a0_1) := (blk_cell BKg4.out 1).trans rfl; have hcg4_2 : w3.cell? ⟨g4, 2, none⟩ = some (.slice A0_2 l0_2.length c0_2) := (blk_cell BKg4.out 2).trans rfl; have hcg5_0 : w3.cell? ⟨g5, 0, none⟩ = some (.int .i64 a1) := (blk_cell BKg5.out 0).trans rfl; have hcg6_0 : w3.cell? ⟨g6, 0, none⟩ = some (.int .i64 a2) := (blk_cell BKg6.out 0).trans rfl) | ((with_reducible refine gate_callee (f := 82) rfl ?_); refine goesL_ (some 14) rfl rfl Try.func82 (by kernel_rfl) rfl #[.agg #[.int .i64 a0_0, .int .i64 a0_1, .slice A0_2 l0_2.length c0_2]] rfl (by (try simp only [List.map_toArray, List.map_cons, List.map_nil]); first | done | rfl) ?_; (with_reducible refine (impl_GoodPlane.calls k a0_0 a0_1 _ _ l0_2 true _ ?side1 ?side2 A1.out).mono ?_); (case side1 => exact Kd.C_below HR.out HB.out); (case side2 => exact HC.out); rintro e w4 ⟨rfl, hb⟩; refine ⟨_, rfl, ?_⟩; have n_4 := Aside0.mk (blk_below BKg4.out hb); have n_5 := Aside0.mk (blk_below BKg5.out hb); have n_6 := Aside0.mk (blk_below BKg6.out hb); have n_HB := Aside0.mk (below_step HB.out hb); have SZ4 := Aside0.mk hb.size; clear HB BKg4 BKg5 BKg6 hb hcg4_0 hcg4_1 hcg4_2 hcg5_0 hcg6_0; have HB := n_HB; have BKg4 := n_4; have BKg5 := n_5; have BKg6 := n_6; clear n_HB n_4 n_5 n_6; have hcg5_0 : w4.cell? ⟨g5, 0, none⟩ = some (.int .i64 a1) := (blk_cell BKg5.out 0).trans rfl; have hcg6_0 : w4.cell? ⟨g6, 0, none⟩ = some (.int .i64 a2) := (blk_cell BKg6.out 0).trans rfl))
      go_ret
      exact ⟨_, rfl, Kd.R_nil _ _ _ _ _, HB.out⟩
  rw [if_neg d2] at h
  have d2b : decide (4096 < a1) = false := decide_eq_false d2
  by_cases d3 : a2 < -4096
  · rw [if_pos d3] at h
    obtain rfl := Option.some.inj h
    have d3b : decide (a2 < -4096) = true := decide_eq_true d3
    clear h c3 hn
    rcases e48 with e4 | ⟨e4, e8⟩
    all_goals
      go_enter Try.func77, Try.ntmps77
      go_wp2_with (first | ((with_reducible refine gate_dst (N := 4) rfl ?_); refine box_event ?hg (N := 4) ?hd (cs := #[.int .i64 a0_0, .int .i64 a0_1, .slice A0_2 l0_2.length c0_2]) (t := 29) ?hr ?_; (case hd => rfl); (case hg => rfl); (case hr => first | (go_simp; done) | (go_simp; rfl)); intro g4 hg w1 hbox hb; have n_HB := Aside0.mk (below_step HB.out hb); have GEg4 := Aside0.mk (show w.heap.size ≤ g4 from Nat.le_of_eq hg.symm); clear HB; have HB := n_HB; clear n_HB; have BKg4 := Aside0.mk hbox; clear hg hbox hb) | ((with_reducible refine gate_dst (N := 5) rfl ?_); refine box_event ?hg (N := 5) ?hd (cs := #[.int .i64 a1]) (t := 3) ?hr ?_; (case hd => rfl); (case hg => rfl); (case hr => first | (go_simp; done) | (go_simp; rfl)); intro g5 hg w2 hbox hb; have n_BKg4 := Aside0.mk (blk_below BKg4.out hb); have n_HB := Aside0.mk (below_step HB.out hb); have GEg5 := Aside0.mk (show w1.heap.size ≤ g5 from Nat.le_of_eq hg.symm); clear HB BKg4; have HB := n_HB; have BKg4 := n_BKg4; clear n_HB n_BKg4; have BKg5 := Aside0.mk hbox; clear hg hbox hb) | ((with_reducible refine gate_dst (N := 6) rfl ?_); refine box_event ?hg (N := 6) ?hd (cs := #[.int .i64 a2]) (t := 3) ?hr ?_; (case hd => rfl); (case hg => rfl); (case hr => first | (go_simp; done) | (go_simp; rfl)); intro g6 hg w3 hbox hb; have n_BKg4 := Aside0.mk (blk_below BKg4.out hb); have n_BKg5 := Aside0.mk (blk_below BKg5.out hb); have n_HB := Aside0.mk (below_step HB.out hb); have GEg6 := Aside0.mk (show w2.heap.size ≤ g6 from Nat.le_of_eq hg.symm); clear HB BKg4 BKg5; have HB := n_HB; have BKg4 := n_BKg4; have BKg5 := n_BKg5; clear n_HB n_BKg4 n_BKg5; have BKg6 := Aside0.mk hbox; clear hg hbox hb; have hcg4_0 : w3.cell? ⟨g4, 0, none⟩ = some (.int .i64 a0_0) := (blk_cell BKg4.out 0).trans rfl; have hcg4_1 : w3.cell? ⟨g4, 1, none⟩ = some (.int .i64 a0_1) := (blk_cell BKg4.out 1).trans rfl; have hcg4_2 : w3.cell? ⟨g4, 2, none⟩ = some (.slice A0_2 l0_2.length c0_2) := (blk_cell BKg4.out 2).trans rfl; have hcg5_0 : w3.cell? ⟨g5, 0, none⟩ = some (.int .i64 a1) := (blk_cell BKg5.out 0).trans rfl; have hcg6_0 : w3.cell? ⟨g6, 0, none⟩ = some (.int .i64 a2) := (blk_cell BKg6.out 0).trans rfl) | ((with_reducible refine gate_callee (f := 82) rfl ?_); refine goesL_ (some 14) rfl rfl Try.func82 (by kernel_rfl) rfl #[.agg #[.int .i64 a0_0, .int .i64 a0_1, .slice A0_2 l0_2.length c0_2]] rfl (by (try simp only [List.map_toArray, List.map_cons, List.map_nil]); first | done | rfl) ?_; (with_reducible refine (impl_GoodPlane.calls k a0_0 a0_1 _ _ l0_2 true _ ?side1 ?side2 A1.out).mono ?_); (case side1 => exact Kd.C_below HR.out HB.out); (case side2 => exact HC.out); rintro e w4 ⟨rfl, hb⟩; refine ⟨_, rfl, ?_⟩; have n_4 := Aside0.mk (blk_below BKg4.out hb); have n_5 := Aside0.mk (blk_below BKg5.out hb); have n_6 := Aside0.mk (blk_below BKg6.out hb); have n_HB := Aside0.mk (below_step HB.out hb); have SZ4 := Aside0.mk hb.size; clear HB BKg4 BKg5 BKg6 hb hcg4_0 hcg4_1 hcg4_2 hcg5_0 hcg6_0; have HB := n_HB; have BKg4 := n_4; have BKg5 := n_5; have BKg6 := n_6; clear n_HB n_4 n_5 n_6; have hcg5_0 : w4.cell? ⟨g5, 0, none⟩ = some (.int .i64 a1) := (blk_cell BKg5.out 0).trans rfl; have hcg6_0 : w4.cell? ⟨g6, 0, none⟩ = some (.int .i64 a2) := (blk_cell BKg6.out 0).trans rfl))
      go_ret
      exact ⟨_, rfl, Kd.R_nil _ _ _ _ _, HB.out⟩
  rw [if_neg d3] at h
  have d3b : decide (a2 < -4096) = false := decide_eq_false d3
  by_cases d4 : a2 > 4096
  · rw [if_pos d4] at h
    obtain rfl := Option.some.inj h
    have d4b : decide (4096 < a2) = true := decide_eq_true d4
    clear h c3 hn
    rcases e48 with e4 | ⟨e4, e8⟩
    all_goals
      go_enter Try.func77, Try.ntmps77
      go_wp2_with (first | ((with_reducible refine gate_dst (N := 4) rfl ?_); refine box_event ?hg (N := 4) ?hd (cs := #[.int .i64 a0_0, .int .i64 a0_1, .slice A0_2 l0_2.length c0_2]) (t := 29) ?hr ?_; (case hd => rfl); (case hg => rfl); (case hr => first | (go_simp; done) | (go_simp; rfl)); intro g4 hg w1 hbox hb; have n_HB := Aside0.mk (below_step HB.out hb); have GEg4 := Aside0.mk (show w.heap.size ≤ g4 from Nat.le_of_eq hg.symm); clear HB; have HB := n_HB; clear n_HB; have BKg4 := Aside0.mk hbox; clear hg hbox hb) | ((with_reducible refine gate_dst (N := 5) rfl ?_); refine box_event ?hg (N := 5) ?hd (cs := #[.int .i64 a1]) (t := 3) ?hr ?_; (case hd => rfl); (case hg => rfl); (case hr => first | (go_simp; done) | (go_simp; rfl)); intro g5 hg w2 hbox hb; have n_BKg4 := Aside0.mk (blk_below BKg4.out hb); have n_HB := Aside0.mk (below_step HB.out hb); have GEg5 := Aside0.mk (show w1.heap.size ≤ g5 from Nat.le_of_eq hg.symm); clear HB BKg4; have HB := n_HB; have BKg4 := n_BKg4; clear n_HB n_BKg4; have BKg5 := Aside0.mk hbox; clear hg hbox hb) | ((with_reducible refine gate_dst (N := 6) rfl ?_); refine box_event ?hg (N := 6) ?hd (cs := #[.int .i64 a2]) (t := 3) ?hr ?_; (case hd => rfl); (case hg => rfl); (case hr => first | (go_simp; done) | (go_simp; rfl)); intro g6 hg w3 hbox hb; have n_BKg4 := Aside0.mk (blk_below BKg4.out hb); have n_BKg5 := Aside0.mk (blk_below BKg5.out hb); have n_HB := Aside0.mk (below_step HB.out hb); have GEg6 := Aside0.mk (show w2.heap.size ≤ g6 from Nat.le_of_eq hg.symm); clear HB BKg4 BKg5; have HB := n_HB; have BKg4 := n_BKg4; have BKg5 := n_BKg5; clear n_HB n_BKg4 n_BKg5; have BKg6 := Aside0.mk hbox; clear hg hbox hb; have hcg4_0 : w3.cell? ⟨g4, 0, none⟩ = some (.int .i64 a0_0) := (blk_cell BKg4.out 0).trans rfl; have hcg4_1 : w3.cell? ⟨g4, 1, none⟩ = some (.int .i64 a0_1) := (blk_cell BKg4.out 1).trans rfl; have hcg4_2 : w3.cell? ⟨g4, 2, none⟩ = some (.slice A0_2 l0_2.length c0_2) := (blk_cell BKg4.out 2).trans rfl; have hcg5_0 : w3.cell? ⟨g5, 0, none⟩ = some (.int .i64 a1) := (blk_cell BKg5.out 0).trans rfl; have hcg6_0 : w3.cell? ⟨g6, 0, none⟩ = some (.int .i64 a2) := (blk_cell BKg6.out 0).trans rfl) | ((with_reducible refine gate_callee (f := 82) rfl ?_); refine goesL_ (some 14) rfl rfl Try.func82 (by kernel_rfl) rfl #[.agg #[.int .i64 a0_0, .int .i64 a0_1, .slice A0_2 l0_2.length c0_2]] rfl (by (try simp only [List.map_toArray, List.map_cons, List.map_nil]); first | done | rfl) ?_; (with_reducible refine (impl_GoodPlane.calls k a0_0 a0_1 _ _ l0_2 true _ ?side1 ?side2 A1.out).mono ?_); (case side1 => exact Kd.C_below HR.out HB.out); (case side2 => exact HC.out); rintro e w4 ⟨rfl, hb⟩; refine ⟨_, rfl, ?_⟩; have n_4 := Aside0.mk (blk_below BKg4.out hb); have n_5 := Aside0.mk (blk_below BKg5.out hb); have n_6 := Aside0.mk (blk_below BKg6.out hb); have n_HB := Aside0.mk (below_step HB.out hb); have SZ4 := Aside0.mk hb.size; clear HB BKg4 BKg5 BKg6 hb hcg4_0 hcg4_1 hcg4_2 hcg5_0 hcg6_0; have HB := n_HB; have BKg4 := n_4; have BKg5 := n_5; have BKg6 := n_6; clear n_HB n_4 n_5 n_6; have hcg5_0 : w4.cell? ⟨g5, 0, none⟩ = some (.int .i64 a1) := (blk_cell BKg5.out 0).trans rfl; have hcg6_0 : w4.cell? ⟨g6, 0, none⟩ = some (.int .i64 a2) := (blk_cell BKg6.out 0).trans rfl))
      go_ret
      exact ⟨_, rfl, Kd.R_nil _ _ _ _ _, HB.out⟩
  rw [if_neg d4] at h
  have d4b : decide (4096 < a2) = false := decide_eq_false d4
  by_cases cp : pokB a0_0 a0_1 l0_2 = true
  rotate_left
  · rw [if_neg cp] at h
    exact absurd h (by simp)
  rw [if_pos cp] at h
  obtain rfl := Option.some.inj h
  have HP := Aside0.mk (pokB_ok cp)
  have HX := Aside0.mk (show (-4096 ≤ a1 ∧ a1 ≤ 4096) ∧ (-4096 ≤ a2 ∧ a2 ≤ 4096) from ⟨⟨by omega, by omega⟩, ⟨by omega, by omega⟩⟩)
  have hn8 : n ≤ 8 := by omega
  clear h cp c3 hn d1 d2 d3 d4
  rw [Int.toNat_natCast]
  rcases e48 with e4 | ⟨e4, e8⟩
  all_goals
    go_enter Try.func77, Try.ntmps77
    go_upto_region 3 with (first | ((with_reducible refine gate_dst (N := 4) rfl ?_); refine box_event ?hg (N := 4) ?hd (cs := #[.int .i64 a0_0, .int .i64 a0_1, .slice A0_2 l0_2.length c0_2]) (t := 29) ?hr ?_; (case hd => rfl); (case hg => rfl); (case hr => first | (go_simp; done) | (go_simp; rfl)); intro g4 hg w1 hbox hb; have n_HB := Aside0.mk (below_step HB.out hb); have GEg4 := Aside0.mk (show w.heap.size ≤ g4 from Nat.le_of_eq hg.symm); clear HB; have HB := n_HB; clear n_HB; have BKg4 := Aside0.mk hbox; clear hg hbox hb) | ((with_reducible refine gate_dst (N := 5) rfl ?_); refine box_event ?hg (N := 5) ?hd (cs := #[.int .i64 a1]) (t := 3) ?hr ?_; (case hd => rfl); (case hg => rfl); (case hr => first | (go_simp; done) | (go_simp; rfl)); intro g5 hg w2 hbox hb; have n_BKg4 := Aside0.mk (blk_below BKg4.out hb); have n_HB := Aside0.mk (below_step HB.out hb); have GEg5 := Aside0.mk (show w1.heap.size ≤ g5 from Nat.le_of_eq hg.symm); clear HB BKg4; have HB := n_HB; have BKg4 := n_BKg4; clear n_HB n_BKg4; have BKg5 := Aside0.mk hbox; clear hg hbox hb) | ((with_reducible refine gate_dst (N := 6) rfl ?_); refine box_event ?hg (N := 6) ?hd (cs := #[.int .i64 a2]) (t := 3) ?hr ?_; (case hd => rfl); (case hg => rfl); (case hr => first | (go_simp; done) | (go_simp; rfl)); intro g6 hg w3 hbox hb; have n_BKg4 := Aside0.mk (blk_below BKg4.out hb); have n_BKg5 := Aside0.mk (blk_below BKg5.out hb); have n_HB := Aside0.mk (below_step HB.out hb); have GEg6 := Aside0.mk (show w2.heap.size ≤ g6 from Nat.le_of_eq hg.symm); clear HB BKg4 BKg5; have HB := n_HB; have BKg4 := n_BKg4; have BKg5 := n_BKg5; clear n_HB n_BKg4 n_BKg5; have BKg6 := Aside0.mk hbox; clear hg hbox hb; have hcg4_0 : w3.cell? ⟨g4, 0, none⟩ = some (.int .i64 a0_0) := (blk_cell BKg4.out 0).trans rfl; have hcg4_1 : w3.cell? ⟨g4, 1, none⟩ = some (.int .i64 a0_1) := (blk_cell BKg4.out 1).trans rfl; have hcg4_2 : w3.cell? ⟨g4, 2, none⟩ = some (.slice A0_2 l0_2.length c0_2) := (blk_cell BKg4.out 2).trans rfl; have hcg5_0 : w3.cell? ⟨g5, 0, none⟩ = some (.int .i64 a1) := (blk_cell BKg5.out 0).trans rfl; have hcg6_0 : w3.cell? ⟨g6, 0, none⟩ = some (.int .i64 a2) := (blk_cell BKg6.out 0).trans rfl) | ((with_reducible refine gate_callee (f := 82) rfl ?_); refine goesL_ (some 14) rfl rfl Try.func82 (by kernel_rfl) rfl #[.agg #[.int .i64 a0_0, .int .i64 a0_1, .slice A0_2 l0_2.length c0_2]] rfl (by (try simp only [List.map_toArray, List.map_cons, List.map_nil]); first | done | rfl) ?_; (with_reducible refine (impl_GoodPlane.calls k a0_0 a0_1 _ _ l0_2 true _ ?side1 ?side2 A1.out).mono ?_); (case side1 => exact Kd.C_below HR.out HB.out); (case side2 => exact HC.out); rintro e w4 ⟨rfl, hb⟩; refine ⟨_, rfl, ?_⟩; have n_4 := Aside0.mk (blk_below BKg4.out hb); have n_5 := Aside0.mk (blk_below BKg5.out hb); have n_6 := Aside0.mk (blk_below BKg6.out hb); have n_HB := Aside0.mk (below_step HB.out hb); have SZ4 := Aside0.mk hb.size; clear HB BKg4 BKg5 BKg6 hb hcg4_0 hcg4_1 hcg4_2 hcg5_0 hcg6_0; have HB := n_HB; have BKg4 := n_4; have BKg5 := n_5; have BKg6 := n_6; clear n_HB n_4 n_5 n_6; have hcg5_0 : w4.cell? ⟨g5, 0, none⟩ = some (.int .i64 a1) := (blk_cell BKg5.out 0).trans rfl; have hcg6_0 : w4.cell? ⟨g6, 0, none⟩ = some (.int .i64 a2) := (blk_cell BKg6.out 0).trans rfl))
    go_upto_region 4 with (first | ((with_reducible refine gate_dst (N := 9) rfl ?_); refine box_event ?hg (N := 9) ?hd (cs := #[.nilFunc]) (t := 174) ?hr ?_; (case hd => rfl); (case hg => rfl); (case hr => first | (go_simp; done) | (go_simp; rfl)); intro g9 hg w5 hbox hb; have BKg9 := Aside0.mk hbox; have GEg9 := Aside0.mk (show w4.heap.size ≤ g9 from Nat.le_of_eq hg.symm); have HV := Aside0.mk hb; clear hg hb; have hcz : w5.cell? ⟨g9, 0, none⟩ = some (.nilFunc) := (blk_cell hbox 0).trans rfl; have hfz := blk_frozen hbox 0; clear hbox))
    have hb : Below w4.heap.size w4 (World.setCell w5 ⟨g9, 0, none⟩ (.func (.func 151) #[] #[.pointer (some ⟨g4, 0, none⟩)])) := below_set HV.out GEg9.out
    have hbox : (World.setCell w5 ⟨g9, 0, none⟩ (.func (.func 151) #[] #[.pointer (some ⟨g4, 0, none⟩)])).heap[g9]? = some (.cells #[.func (.func 151) #[] #[.pointer (some ⟨g4, 0, none⟩)]] 174 (0, 0)) := blk_set BKg9.out 0 (.func (.func 151) #[] #[.pointer (some ⟨g4, 0, none⟩)])
    clear hcz hfz hcg5_0 hcg6_0
    generalize (World.setCell w5 ⟨g9, 0, none⟩ (.func (.func 151) #[] #[.pointer (some ⟨g4, 0, none⟩)])) = w6 at hb hbox ⊢
    have n_4 := Aside0.mk (blk_below BKg4.out hb)
    have n_5 := Aside0.mk (blk_below BKg5.out hb)
    have n_6 := Aside0.mk (blk_below BKg6.out hb)
    have n_HB := Aside0.mk (below_step HB.out hb)
    clear HB BKg4 BKg5 BKg6 BKg9 HV hb
    have HB := n_HB
    have BKg4 := n_4
    have BKg5 := n_5
    have BKg6 := n_6
    have BKg9 := Aside0.mk hbox
    clear n_HB n_4 n_5 n_6 hbox
    go_wp2
    go_loopg [10, 42] (10 * n) (fun kq v10 v42 w' => ∃ (jn : Nat), v42 = .int .i64 (jn : Int) ∧ Aside0 (jn ≤ n ∧ 10 * n ≤ kq + 10 * jn) ∧ Aside0 (Kd.R (Kd.int .i64) 3 w' w.heap.size (fun k_ => k_ ≠ g5 ∧ k_ ≠ g6) v10 (mcol a0_0 a0_1 l0_2 a1 a2 n jn)) ∧ Aside0 (Below w.heap.size w w') ∧ Aside0 (w'.heap[g4]? = some (.cells #[.int .i64 a0_0, .int .i64 a0_1, .slice A0_2 l0_2.length c0_2] 29 (0, 0))) ∧ Aside0 (w'.heap[g5]? = some (.cells #[.int .i64 a1] 3 (0, 0))) ∧ Aside0 (w'.heap[g6]? = some (.cells #[.int .i64 a2] 3 (0, 0))) ∧ Aside0 (w'.heap[g9]? = some (.cells #[.func (.func 151) #[] #[.pointer (some ⟨g4, 0, none⟩)]] 174 (0, 0))))
    case atStart => exact ⟨0, rfl, ⟨by omega⟩, ⟨Kd.R_nil _ _ _ _ _⟩, HB, BKg4, BKg5, BKg6, BKg9⟩
    case round =>
      clear HB BKg4 BKg5 BKg6 BKg9 GEg4 GEg5 GEg6 GEg9 SZ4
      obtain ⟨jn, rfl, HJ, HO, HB, BKg4, BKg5, BKg6, BKg9⟩ := hrel
      by_cases hj : jn < n
      rotate_left
      · have hj2 : ¬ ((jn : Int) < (n : Int)) := by omega
        obtain rfl : jn = n := by have := HJ.out; omega
        go_wp2
        go_ret
        exact ⟨_, rfl, Kd.R_mono HO.out (fun _ _ => trivial), HB.out⟩
      have hj2 : (jn : Int) < (n : Int) := by omega
      obtain ⟨k1, rfl⟩ : ∃ q, gk = q + 1 := ⟨gk - 1, by have := HJ.out; omega⟩
      obtain ⟨wo, hwo⟩ : ∃ wo : World, wo = wr := ⟨_, rfl⟩
      rw [← hwo] at HO HB BKg4 BKg5 BKg6 BKg9 ⊢
      clear hwo
      go_upto_region 8 with (first | ((with_reducible refine gate_dst (N := 11) rfl ?_); refine box_event ?hg (N := 11) ?hd (cs := #[.int .i64 0]) (t := 3) ?hr ?_; (case hd => rfl); (case hg => rfl); (case hr => first | (go_simp; done) | (go_simp; rfl)); intro g11 hg w7 hbox hb; have BKg11 := Aside0.mk hbox; have GEg11 := Aside0.mk (show wo.heap.size ≤ g11 from Nat.le_of_eq hg.symm); have HV := Aside0.mk hb; clear hg hb; have hcz : w7.cell? ⟨g11, 0, none⟩ = some (.int .i64 0) := (blk_cell hbox 0).trans rfl; have hfz := blk_frozen hbox 0; clear hbox))
      have hb : Below wo.heap.size wo (World.setCell w7 ⟨g11, 0, none⟩ (.int .i64 (jn : Int))) := below_set HV.out GEg11.out
      have hbox : (World.setCell w7 ⟨g11, 0, none⟩ (.int .i64 (jn : Int))).heap[g11]? = some (.cells #[.int .i64 (jn : Int)] 3 (0, 0)) := blk_set BKg11.out 0 (.int .i64 (jn : Int))
      clear hcz hfz
      generalize (World.setCell w7 ⟨g11, 0, none⟩ (.int .i64 (jn : Int))) = w8 at hb hbox ⊢
      have n_4 := Aside0.mk (blk_below BKg4.out hb)
      have n_5 := Aside0.mk (blk_below BKg5.out hb)
      have n_6 := Aside0.mk (blk_below BKg6.out hb)
      have n_9 := Aside0.mk (blk_below BKg9.out hb)
      have n_HB := Aside0.mk (below_step HB.out hb)
      have n_HO := Aside0.mk (Kd.R_below (Kd.R_elderB HO.out g11 GEg11.out) hb)
      clear HB HO BKg4 BKg5 BKg6 BKg9 BKg11 HV hb GEg11
      have HB := n_HB
      have HO := n_HO
      have BKg4 := n_4
      have BKg5 := n_5
      have BKg6 := n_6
      have BKg9 := n_9
      have BKg11 := Aside0.mk hbox
      clear n_HB n_HO n_4 n_5 n_6 n_9 hbox
      go_wp2
      go_loopg [10, 46] k1 (fun kq v10 v46 w' => ∃ (im : Nat), v46 = .int .i64 (im : Int) ∧ Aside0 (im ≤ n ∧ (n - im) + 10 * n + 1 ≤ kq + 10 * (jn + 1) ∧ kq ≤ k1) ∧ Aside0 (Kd.R (Kd.int .i64) 3 w' w.heap.size (fun k_ => (k_ ≠ g5 ∧ k_ ≠ g6) ∧ k_ ≠ g11) v10 (mcol a0_0 a0_1 l0_2 a1 a2 n jn ++ mrow a0_0 a0_1 l0_2 a1 a2 jn im)) ∧ Aside0 (Below w.heap.size w w') ∧ Aside0 (w'.heap[g4]? = some (.cells #[.int .i64 a0_0, .int .i64 a0_1, .slice A0_2 l0_2.length c0_2] 29 (0, 0))) ∧ Aside0 (w'.heap[g5]? = some (.cells #[.int .i64 a1] 3 (0, 0))) ∧ Aside0 (w'.heap[g6]? = some (.cells #[.int .i64 a2] 3 (0, 0))) ∧ Aside0 (w'.heap[g9]? = some (.cells #[.func (.func 151) #[] #[.pointer (some ⟨g4, 0, none⟩)]] 174 (0, 0))) ∧ Aside0 (w'.heap[g11]? = some (.cells #[.int .i64 (jn : Int)] 3 (0, 0))))
      case atStart => exact ⟨0, rfl, ⟨by have := HJ.out; omega⟩, ⟨by rw [show mrow a0_0 a0_1 l0_2 a1 a2 jn 0 = [] from rfl, List.append_nil]; exact HO.out⟩, HB, BKg4, BKg5, BKg6, BKg9, BKg11⟩
      case round =>
        clear HO HB BKg4 BKg5 BKg6 BKg9 BKg11
        obtain ⟨im, rfl, HI, HO, HB, BKg4, BKg5, BKg6, BKg9, BKg11⟩ := hrel
        obtain ⟨k2, rfl⟩ : ∃ q, gk = q + 1 := ⟨gk - 1, by have := HI.out; have := HJ.out; omega⟩
        by_cases hi : im < n
        rotate_left
        · have hi2 : ¬ ((im : Int) < (n : Int)) := by omega
          obtain rfl : im = n := by have := HI.out; omega
          go_wp2
          go_roundg k2
          case measure => have := HI.out; omega
          case rel => exact ⟨jn + 1, (by first | rfl | simp), ⟨by have := HI.out; omega⟩, ⟨Kd.R_mono HO.out (fun _ hk => hk.1)⟩, HB, BKg4, BKg5, BKg6, BKg9⟩
        have hi2 : (im : Int) < (n : Int) := by omega
        obtain ⟨wi, hwi⟩ : ∃ wi : World, wi = wr := ⟨_, rfl⟩
        rw [← hwi] at HO HB BKg4 BKg5 BKg6 BKg9 BKg11 ⊢
        clear hwi
        go_upto_region 11 with (first | ((with_reducible refine gate_dst (N := 12) rfl ?_); refine box_event ?hg (N := 12) ?hd (cs := #[.int .i64 0]) (t := 3) ?hr ?_; (case hd => rfl); (case hg => rfl); (case hr => first | (go_simp; done) | (go_simp; rfl)); intro g12 hg w9 hbox hb; have BKg12 := Aside0.mk hbox; have GEg12 := Aside0.mk (show wi.heap.size ≤ g12 from Nat.le_of_eq hg.symm); have HV := Aside0.mk hb; clear hg hb; have hcz : w9.cell? ⟨g12, 0, none⟩ = some (.int .i64 0) := (blk_cell hbox 0).trans rfl; have hfz := blk_frozen hbox 0; clear hbox))
        have hb : Below wi.heap.size wi (World.setCell w9 ⟨g12, 0, none⟩ (.int .i64 (im : Int))) := below_set HV.out GEg12.out
        have hbox : (World.setCell w9 ⟨g12, 0, none⟩ (.int .i64 (im : Int))).heap[g12]? = some (.cells #[.int .i64 (im : Int)] 3 (0, 0)) := blk_set BKg12.out 0 (.int .i64 (im : Int))
        clear hcz hfz
        generalize (World.setCell w9 ⟨g12, 0, none⟩ (.int .i64 (im : Int))) = wa at hb hbox ⊢
        have n_4 := Aside0.mk (blk_below BKg4.out hb)
        have n_5 := Aside0.mk (blk_below BKg5.out hb)
        have n_6 := Aside0.mk (blk_below BKg6.out hb)
        have n_9 := Aside0.mk (blk_below BKg9.out hb)
        have n_11 := Aside0.mk (blk_below BKg11.out hb)
        have n_HB := Aside0.mk (below_step HB.out hb)
        have n_HO := Aside0.mk (Kd.R_below HO.out hb)
        clear HB HO BKg4 BKg5 BKg6 BKg9 BKg11 BKg12 HV hb GEg12
        have HB := n_HB
        have HO := n_HO
        have BKg4 := n_4
        have BKg5 := n_5
        have BKg6 := n_6
        have BKg9 := n_9
        have BKg11 := n_11
        have BKg12 := Aside0.mk hbox
        clear n_HB n_HO n_4 n_5 n_6 n_9 n_11 hbox
        have hcy : wa.cell? ⟨g6, 0, none⟩ = some (.int .i64 a2) := (blk_cell BKg6.out 0).trans rfl
        have HC_ := Aside0.mk (Kd.C_below HR.out HB.out)
        have HG := Aside0.mk (show Rg a1 a2 (im : Int) (jn : Int) from ⟨HX.out.1, HX.out.2, ⟨by omega, by omega⟩, ⟨by omega, by omega⟩⟩)
        have HBX := Aside0.mk (show Bx a0_0 a0_1 a1 a2 (im : Int) (jn : Int) l0_2 A0_2 c0_2 g4 g9 g5 g6 g12 g11 wa from ⟨BKg4.out, BKg9.out, BKg5.out, BKg6.out, BKg12.out, BKg11.out, HC_.out⟩)
        have LM := Aside0.mk (show (mcol a0_0 a0_1 l0_2 a1 a2 n jn ++ mrow a0_0 a0_1 l0_2 a1 a2 jn im).length < 17592186044416 by rw [List.length_append, mcol_len, mrow_len]; have : n * jn ≤ 8 * 8 := Nat.mul_le_mul hn8 (by omega); omega)
        go_wp2_with (first | ((with_reducible refine gate_callee (f := 152) rfl ?_); refine goesL_ (some 53) rfl rfl Try.func152 (by kernel_rfl) rfl #[.int .i64 (Go.bits .and .i64 a2 3), .func (.func 153) #[] #[.pointer (some ⟨g5, 0, none⟩), .pointer (some ⟨g9, 0, none⟩), .pointer (some ⟨g12, 0, none⟩), .pointer (some ⟨g6, 0, none⟩), .pointer (some ⟨g11, 0, none⟩)]] rfl (by (try simp only [List.map_toArray, List.map_cons, List.map_nil]); first | done | rfl) ?_; (with_reducible refine (btw_calls (Go.bits .and .i64 a2 3) 153 Try.f153 #[.pointer (some ⟨g5, 0, none⟩), .pointer (some ⟨g9, 0, none⟩), .pointer (some ⟨g12, 0, none⟩), .pointer (some ⟨g6, 0, none⟩), .pointer (some ⟨g11, 0, none⟩)] (fun d => btw (Go.bits .and .i64 a1 3) (fun e => smp a0_0 a0_1 l0_2 (a1 / 4 + (im : Int) + e) (a2 / 4 + (jn : Int) + d))) wa Try.func153 (by kernel_rfl) rfl ?ans ?rng).mono ?_); (case ans => exact fun d w2 hb2 d0 d1 => c153 HP.out HG.out d (Bx.below HBX.out hb2) d0 d1); (case rng => exact fun d => btw_in _ _ (fun e => HP.out.v _)); rintro en wb ⟨rfl, hb⟩; refine ⟨_, rfl, ?_⟩; have n_4 := Aside0.mk (blk_below BKg4.out hb); have n_5 := Aside0.mk (blk_below BKg5.out hb); have n_6 := Aside0.mk (blk_below BKg6.out hb); have n_9 := Aside0.mk (blk_below BKg9.out hb); have n_11 := Aside0.mk (blk_below BKg11.out hb); have n_HB := Aside0.mk (below_step HB.out hb); have n_HO := Aside0.mk (Kd.R_below HO.out hb); clear HB HO BKg4 BKg5 BKg6 BKg9 BKg11 BKg12 HBX hb hcy HC_; have HB := n_HB; have HO := n_HO; have BKg4 := n_4; have BKg5 := n_5; have BKg6 := n_6; have BKg9 := n_9; have BKg11 := n_11; clear n_HB n_HO n_4 n_5 n_6 n_9 n_11) | ((with_reducible refine gate_builtin (b := .append) (xs := #[.tmp 49, .tmp 54]) rfl ?_); at_builtin; refine Kd.R_append (Kd.int .i64) (w0 := w) (W := wb) w.heap.size rfl (.tmp 49) (.tmp 54) 22 3 (.int .i64 0) 8 rfl Try.underlying22 info3 rfl (by decide) (by omega) u10 (mcol a0_0 a0_1 l0_2 a1 a2 n jn ++ mrow a0_0 a0_1 l0_2 a1 a2 jn im) (mval a0_0 a0_1 l0_2 a1 a2 jn im) [.int .i64 (mval a0_0 a0_1 l0_2 a1 a2 jn im)] (fun k_ => (k_ ≠ g5 ∧ k_ ≠ g6) ∧ k_ ≠ g11) (fun _ => False) rfl (by first | rfl | (go_simp; done) | (go_simp; rfl)) ?aP (fun _ hk => hk.elim) ?aF ?aO ?aB ?aS ?aL ?_; (case aP => exact rfl); (case aB => exact HB.out); (case aF => exact fun k_ hk => ⟨⟨by have := blk_lt BKg5.out; omega, by have := blk_lt BKg6.out; omega⟩, by have := blk_lt BKg11.out; omega⟩); (case aO => exact HO.out); (case aS => exact below_size HB.out); (case aL => have := LM.out; omega); intro v9 wc ho hb hg hat; have n_4 := Aside0.mk (blk_grown BKg4.out hg (Kd.R_ne HO.out BKg4.out (by decide))); have n_5 := Aside0.mk (blk_grown BKg5.out hg (Kd.R_away HO.out (fun _ hk => hk.1.1))); have n_6 := Aside0.mk (blk_grown BKg6.out hg (Kd.R_away HO.out (fun _ hk => hk.1.2))); have n_9 := Aside0.mk (blk_grown BKg9.out hg (Kd.R_ne HO.out BKg9.out (by decide))); have n_11 := Aside0.mk (blk_grown BKg11.out hg (Kd.R_away HO.out (fun _ hk => hk.2))); have n_HB := Aside0.mk hb; have n_HO := Aside0.mk ho; clear HB HO BKg4 BKg5 BKg6 BKg9 BKg11 hb ho hg hat; have HB := n_HB; have HO := n_HO; have BKg4 := n_4; have BKg5 := n_5; have BKg6 := n_6; have BKg9 := n_9; have BKg11 := n_11; clear n_HB n_HO n_4 n_5 n_6 n_9 n_11))
        go_roundg k2
        case measure => have := HI.out; omega
        case rel => exact ⟨im + 1, (by first | rfl | simp), ⟨by have := HI.out; omega⟩, ⟨by rw [show mrow a0_0 a0_1 l0_2 a1 a2 jn (im + 1) = mrow a0_0 a0_1 l0_2 a1 a2 jn im ++ [mval a0_0 a0_1 l0_2 a1 a2 jn im] from rfl, ← List.append_assoc]; exact HO.out⟩, HB, BKg4, BKg5, BKg6, BKg9, BKg11⟩

/-! ### impl_zsquare: function 83 -/
def impl_zsquare.l0 : Nat → Int → Int → Int → List Int → Int → Int → Int → Int → List Int → Option (List Int)
  | 0, _, _, _, _, _, _, _, _, _ => none
  | k + 1, x1, x2, x3, x9, x11, x12, x207000, x207001, x207002 => if x12 < x11 then (if 0 ≤ (wrap64 ((wrap64 ((wrap64 (x2 + x12)) * x207000)) + x1)) then (if (wrap64 ((wrap64 ((wrap64 (x2 + x12)) * x207000)) + x1)) ≤ (wrap64 ((wrap64 ((wrap64 ((wrap64 (x2 + x12)) * x207000)) + x1)) + x3)) then (if (wrap64 ((wrap64 ((wrap64 ((wrap64 (x2 + x12)) * x207000)) + x1)) + x3)) ≤ (x207002.length : Int) then (if x9.length + ((x207002.take ((wrap64 ((wrap64 ((wrap64 ((wrap64 (x2 + x12)) * x207000)) + x1)) + x3)) : Int).toNat).drop ((wrap64 ((wrap64 ((wrap64 (x2 + x12)) * x207000)) + x1)) : Int).toNat).length < 17592186044416 then (impl_zsquare.l0 k x1 x2 x3 (x9 ++ ((x207002.take ((wrap64 ((wrap64 ((wrap64 ((wrap64 (x2 + x12)) * x207000)) + x1)) + x3)) : Int).toNat).drop ((wrap64 ((wrap64 ((wrap64 (x2 + x12)) * x207000)) + x1)) : Int).toNat)) x11 (wrap64 (x12 + 1)) x207000 x207001 x207002) else (none)) else (none)) else (none)) else (none)) else (some x9)
def impl_zsquare.f (k : Nat) (a0_0 : Int) (a0_1 : Int) (l0_2 : List Int) (a1 : Int) (a2 : Int) (a3 : Int) : Option (List Int) := impl_zsquare.l0 k a1 a2 a3 ([] : List Int) a3 0 a0_0 a0_1 l0_2
theorem impl_zsquare.mono_l : ∀ k, (∀ y0 y1 y2 y3 y4 y5 y6 y7 y8, LeO (impl_zsquare.l0 k y0 y1 y2 y3 y4 y5 y6 y7 y8) (impl_zsquare.l0 (k + 1) y0 y1 y2 y3 y4 y5 y6 y7 y8))
  | 0 => fun _ _ _ _ _ _ _ _ _ r h => by simp [impl_zsquare.l0] at h
  | k + 1 => by
    have ih0 := impl_zsquare.mono_l k
    · intro y0 y1 y2 y3 y4 y5 y6 y7 y8
      unfold impl_zsquare.l0
      repeat' first
      | (with_reducible exact ih0 _ _ _ _ _ _ _ _ _)
      | (with_reducible exact LeO.refl _)
      | (with_reducible exact LeO.none _)
      | (with_reducible refine LeO.ite ?_ ?_)
      | (with_reducible refine LeO.bind ?_ (fun _ => ?_))
      | exact ih0 _ _ _ _ _ _ _ _ _
      | exact LeO.none _
      | refine LeO.ite ?_ ?_
      | refine LeO.bind ?_ (fun _ => ?_)
theorem impl_zsquare.mono : ∀ a0 a1 a2 a3 a4 a5 k, LeO (impl_zsquare.f k a0 a1 a2 a3 a4 a5) (impl_zsquare.f (k + 1) a0 a1 a2 a3 a4 a5) := by
  intro a0 a1 a2 a3 a4 a5 k
  have ih0 := impl_zsquare.mono_l k
  unfold impl_zsquare.f
  repeat' first
      | (with_reducible exact ih0 _ _ _ _ _ _ _ _ _)
      | (with_reducible exact LeO.refl _)
      | (with_reducible exact LeO.none _)
      | (with_reducible refine LeO.ite ?_ ?_)
      | (with_reducible refine LeO.bind ?_ (fun _ => ?_))
      | exact ih0 _ _ _ _ _ _ _ _ _
      | exact LeO.none _
      | refine LeO.ite ?_ ?_
      | refine LeO.bind ?_ (fun _ => ?_)
set_option maxHeartbeats 8000000 in
set_option maxRecDepth 100000 in
theorem impl_zsquare.calls (k : Nat) (a0_0 : Int) (a0_1 : Int) (A0_2 : Option Addr) (c0_2 : Nat) (l0_2 : List Int) (a1 : Int) (a2 : Int) (a3 : Int) (r : List Int) (w : World) (hr0_2 : Kd.C (Kd.int .i64) w A0_2 l0_2.length l0_2) (hc0_2 : l0_2.length ≤ c0_2) (h : impl_zsquare.f k a0_0 a0_1 l0_2 a1 a2 a3 = some r) :
    Calls Try.prog 83 #[.agg #[.int .i64 a0_0, .int .i64 a0_1, .slice A0_2 l0_2.length c0_2], .int .i64 a1, .int .i64 a2, .int .i64 a3] w fun e w' => ∃ v0_ : Value, e = .returned (v0_) ∧ Kd.R (Kd.int .i64) 3 w' w.heap.size (fun _ => True) v0_ r ∧ Below w.heap.size w w' := by
  have hu29 := Try.underlying29
  have HR0_2 := Aside0.mk hr0_2
  have HC0_2 := Aside0.mk hc0_2
  clear hr0_2 hc0_2
  have HB := Aside0.mk (Below.refl w.heap.size w)
  have H : (impl_zsquare.l0 k a1 a2 a3 ([] : List Int) a3 0 a0_0 a0_1 l0_2) = some r := h
  clear h
  have H' := Aside0.mk H
  clear H
  go_enter Try.func83, Try.ntmps83
  go_wp2_with (first | ((with_reducible refine gate_dst (N := 4) rfl ?_); refine box_event ?hg (N := 4) ?hd (cs := #[.int .i64 a0_0, .int .i64 a0_1, .slice A0_2 l0_2.length c0_2]) (t := 29) ?hr ?_; (case hd => rfl); (case hg => rfl); (case hr => first | (go_simp; done) | (go_simp; rfl)); intro gb206 hg w5 hbox hb; have n0_ := Aside0.mk (below_step (by repeat (first | (with_reducible first | exact HB.out | apply below_alloc | apply pw_below_drewN | apply below_drew1) | exact HB.out)) hb); have n1_ := Aside0.mk (hbox); have n2_ := Aside0.mk ((by rw [hg]; exact (below_size (by repeat (first | (with_reducible first | exact HB.out | apply below_alloc | apply pw_below_drewN | apply below_drew1) | exact HB.out))) : w.heap.size ≤ gb206)); have n3_ := n2_; clear HB; have HB := n0_; have BK206 := n1_; have GW206 := n2_; have GE206 := n3_; clear n0_ n1_ n2_ n3_; clear hb hbox hg))
  go_loopg [9, 12] k (fun kq v9 v12 w' => ∃ (x9_1 : List Int) (x12_1 : Int), v12 = .int .i64 x12_1 ∧ Aside0 (impl_zsquare.l0 kq a1 a2 a3 x9_1 a3 x12_1 a0_0 a0_1 l0_2 = some r) ∧ Aside0 (kq ≤ k) ∧ Aside0 (Kd.R (Kd.int .i64) 3 w' w.heap.size (fun _ => True) v9 x9_1) ∧ Aside0 (w'.heap[gb206]? = some (.cells #[.int .i64 a0_0, .int .i64 a0_1, (.slice A0_2 l0_2.length c0_2)] 29 (0, 0))) ∧ Aside0 (Below w.heap.size w w'))
  case atStart => exact ⟨(([] : List Int)), (0), (by first | rfl | (simp; done) | (simp [*]; done)), H', ⟨Nat.le_refl _⟩, ⟨by first | exact Kd.R_nil _ _ _ _ _ | exact Kd.N_nil _ _ _ _ _ | exact Kd.V_nil _ _ _ _ _ | exact Kd.Q_nil _ _ _ _ _ | exact Kd.S_nil _ _ _ _ _⟩, ⟨by (with_reducible repeat (first | refine blk_drewN ?_ _ | refine blk_drew ?_ | refine blk_alloc ?_ _)); exact BK206.out⟩, ⟨by repeat (first | (with_reducible first | exact HB.out | apply below_alloc | apply pw_below_drewN | apply below_drew1 | refine below_set ?_ GE206.out) | exact HB.out)⟩⟩
  case round =>
    clear H'
    try clear p2
    obtain ⟨x9_1, x12_1, rfl, HA, HK1, HO_9, BK206, HB⟩ := hrel
    cases gk with
    | zero => exact absurd HA.out (by simp [impl_zsquare.l0])
    | succ k1 =>
      have H := HA.out
      clear HA
      simp only [impl_zsquare.l0] at H
      by_cases c6 : x12_1 < a3
      rotate_left
      · rw [if_neg c6] at H
        have c6b0 : decide (x12_1 < a3) = false := decide_eq_false c6
        clear c6
        obtain rfl := Option.some.inj H
        go_wp2
        go_ret
        exact ⟨_, by first | rfl | (simp [errW_none, errW_some] <;> rfl) | (simp [*, errW_none, errW_some] <;> rfl), by (with_reducible repeat (first | apply Kd.R_alloc | apply Kd.R_drewN | apply Kd.R_drew)); exact HO_9.out, by repeat (first | (with_reducible first | exact HB.out | apply below_alloc | apply pw_below_drewN | apply below_drew1 | refine below_set ?_ GE206.out) | exact HB.out)⟩
      rw [if_pos c6] at H
      have c6b0 : decide (x12_1 < a3) = true := decide_eq_true c6
      clear c6
      obtain ⟨ji7, hji7⟩ : ∃ j_ : Int, (wrap64 ((wrap64 ((wrap64 (a2 + x12_1)) * a0_0)) + a1)) = j_ := ⟨_, rfl⟩
      replace H : (if 0 ≤ (ji7) then (if (ji7) ≤ (wrap64 ((ji7) + a3)) then (if (wrap64 ((ji7) + a3)) ≤ (l0_2.length : Int) then (if x9_1.length + ((l0_2.take ((wrap64 ((ji7) + a3)) : Int).toNat).drop ((ji7) : Int).toNat).length < 17592186044416 then (impl_zsquare.l0 k1 a1 a2 a3 (x9_1 ++ ((l0_2.take ((wrap64 ((ji7) + a3)) : Int).toNat).drop ((ji7) : Int).toNat)) a3 (wrap64 (x12_1 + 1)) a0_0 a0_1 l0_2) else (none)) else (none)) else (none)) else (none)) = some r := by first | (rw [hji7] at H; exact H) | (simp only [hji7] at H ⊢; exact H)
      have hji7w : (IntKind.i64.wrap ((wrap64 ((wrap64 (a2 + x12_1)) * a0_0)) + a1)) = ji7 := (i64_w _).trans hji7
      by_cases c8 : 0 ≤ (ji7)
      rotate_left
      · rw [if_neg c8] at H
        exact absurd H (by simp)
      rw [if_pos c8] at H
      have c8b0 := eq_true c8
      have c8b1 : decide (0 ≤ (ji7)) = true := decide_eq_true c8
      clear c8
      by_cases c9 : (ji7) ≤ (wrap64 ((ji7) + a3))
      rotate_left
      · rw [if_neg c9] at H
        exact absurd H (by simp)
      rw [if_pos c9] at H
      have c9b0 := eq_true c9
      have c9b1 : decide ((ji7) ≤ (wrap64 ((ji7) + a3))) = true := decide_eq_true c9
      by_cases c10 : (wrap64 ((ji7) + a3)) ≤ (l0_2.length : Int)
      rotate_left
      · rw [if_neg c10] at H
        exact absurd H (by simp)
      rw [if_pos c10] at H
      have c10b0 := eq_true c10
      have c10b1 : decide ((wrap64 ((ji7) + a3)) ≤ (l0_2.length : Int)) = true := decide_eq_true c10
      by_cases c11 : x9_1.length + ((l0_2.take ((wrap64 ((ji7) + a3)) : Int).toNat).drop ((ji7) : Int).toNat).length < 17592186044416
      rotate_left
      · rw [if_neg c11] at H
        exact absurd H (by simp)
      rw [if_pos c11] at H
      have LMc11 := Aside0.mk c11
      clear c11
      obtain ⟨y208, hy208⟩ : ∃ y_ : List Int, y_ = (x9_1 ++ ((l0_2.take ((wrap64 ((ji7) + a3)) : Int).toNat).drop ((ji7) : Int).toNat)) := ⟨_, rfl⟩
      replace H : (impl_zsquare.l0 k1 a1 a2 a3 y208 a3 (wrap64 (x12_1 + 1)) a0_0 a0_1 l0_2) = some r := by first | (rw [hy208]; with_reducible exact H) | (have H2_ := (Option.bind_some _ _).symm.trans H; rw [hy208]; with_reducible exact H2_) | (have H2_ := (Option.bind_some _ _).symm.trans H; with_reducible exact H2_) | with_reducible exact H | (rw [hy208]; exact H) | exact H
      have Ny208 := Aside0.mk hy208
      clear hy208
      have H' := Aside0.mk H
      clear H
      have hcz12_0 : wr.cell? ⟨gb206, 0, none⟩ = some (.int .i64 a0_0) := (blk_cell BK206.out 0).trans rfl
      have hcz12_1 : wr.cell? ⟨gb206, 1, none⟩ = some (.int .i64 a0_1) := (blk_cell BK206.out 1).trans rfl
      have hcz12_2 : wr.cell? ⟨gb206, 2, none⟩ = some (.slice A0_2 l0_2.length c0_2) := (blk_cell BK206.out 2).trans rfl
      have hfz12_0 := blk_frozen BK206.out 0
      have hfz12_1 := blk_frozen BK206.out 1
      have hfz12_2 := blk_frozen BK206.out 2
      obtain ⟨i013, hi013, _, hsz13, _⟩ := info_parts info3
      obtain ⟨A13, hcut13, hA13, hC13⟩ := print_mid_of (P := Try.prog) (Value.int .i64) 0 22 3 .i64 .i64 Try.underlying22 hi013 hsz13 A0_2 c0_2 l0_2 (ji7) (wrap64 ((ji7) + a3)) (of_decide_eq_true (by first | (with_reducible assumption) | assumption)) (by first | omega | exact of_decide_eq_true (by first | (with_reducible assumption) | assumption)) (of_decide_eq_true (by first | (with_reducible assumption) | assumption)) HC0_2.out
      have HR207 := Aside0.mk (Kd.C_of_reads (h1 := fun _ => rfl) (hA13 _ (Kd.reads_of_C HR0_2.out)))
      have HC207 := Aside0.mk hC13
      clear hA13 hC13 hi013 hsz13
      go_wp2_with (first | ((with_reducible refine gate_builtin (b := .append) (xs := #[.tmp 15, .tmp 36]) rfl ?_); at_builtin; refine Kd.R_append_rows (Kd.int .i64) (w0 := w) w.heap.size rfl (.tmp 15) (.tmp 36) 22 3 (.int .i64 0) 8 rfl Try.underlying22 info3 rfl (by decide) (by omega) u9 x9_1 ((l0_2.take ((wrap64 ((ji7) + a3)) : Int).toNat).drop ((ji7) : Int).toNat) _ _ _ (fun _ => True) (fun _ => False) rfl rfl ?aO ?aR (fun _ _ h => h) (fun _ h => h.elim) ?aF ?aB ?aS ?aL ?_; (case aR => first | (rw [← show ((l0_2.take ((wrap64 ((ji7) + a3)) : Int).toNat).drop ((ji7) : Int).toNat).length = ((wrap64 ((ji7) + a3)).toNat - (ji7).toNat) from (by rw [List.length_drop, List.length_take]; have h_ : ((wrap64 ((ji7) + a3)) : Int) ≤ (l0_2.length : Int) := of_decide_eq_true (by first | (with_reducible assumption) | assumption); omega)]; repeat (first | exact (Kd.C_below HR207.out HB.out) | (with_reducible refine Kd.C_alloc ?_ _) | (with_reducible refine Kd.C_drewN ?_ _) | (with_reducible refine Kd.C_drew ?_))) | (repeat (first | exact (Kd.C_below HR207.out HB.out) | (with_reducible refine Kd.C_alloc ?_ _) | (with_reducible refine Kd.C_drewN ?_ _) | (with_reducible refine Kd.C_drew ?_)))); (case aB => exact (by repeat (first | (with_reducible first | exact HB.out | apply below_alloc | apply pw_below_drewN | apply below_drew1 | refine below_set ?_ GE206.out) | exact HB.out))); (case aF => exact (fun _ _ => trivial)); (case aO => exact (by (with_reducible repeat (first | apply Kd.R_alloc | apply Kd.R_drewN | apply Kd.R_drew)); exact HO_9.out)); (case aS => exact (below_size (by repeat (first | (with_reducible first | exact HB.out | apply below_alloc | apply pw_below_drewN | apply below_drew1 | refine below_set ?_ GE206.out) | exact HB.out)))); (case aL => have := LMc11.out; have hlx_ := (show ((l0_2.take ((wrap64 ((ji7) + a3)) : Int).toNat).drop ((ji7) : Int).toNat).length = ((wrap64 ((ji7) + a3)).toNat - (ji7).toNat) from (by rw [List.length_drop, List.length_take]; have h_ : ((wrap64 ((ji7) + a3)) : Int) ≤ (l0_2.length : Int) := of_decide_eq_true (by first | (with_reducible assumption) | assumption); omega)); omega); intro v209 w14 ho hb hg hat; rw [← Ny208.out] at ho; have n0_ := Aside0.mk (blk_grown (g := gb206) (o := .cells #[.int .i64 a0_0, .int .i64 a0_1, .slice A0_2 l0_2.length c0_2] 29 (0, 0)) (by (with_reducible repeat (first | refine blk_drewN ?_ _ | refine blk_drew ?_ | refine blk_alloc ?_ _)); exact BK206.out) hg (Kd.R_ne HO_9.out BK206.out (by decide))); have n1_ := Aside0.mk (hb); have n2_ := Aside0.mk (ho); clear BK206; clear HB; clear HO_9; have BK206 := n0_; have HB := n1_; have HO210 := n2_; clear n0_ n1_ n2_; clear ho hb hg hat))
      go_roundg k1
      case measure => have := HK1.out; omega
      case rel => exact ⟨(y208), (wrap64 (x12_1 + 1)), (by first | rfl | (simp; done) | (simp [*]; done)), H', ⟨by have := HK1.out; omega⟩, ⟨by (with_reducible repeat (first | apply Kd.R_alloc | apply Kd.R_drewN | apply Kd.R_drew)); exact HO210.out⟩, ⟨by (with_reducible repeat (first | refine blk_drewN ?_ _ | refine blk_drew ?_ | refine blk_alloc ?_ _)); exact BK206.out⟩, ⟨by repeat (first | (with_reducible first | exact HB.out | apply below_alloc | apply pw_below_drewN | apply below_drew1 | refine below_set ?_ GE206.out) | exact HB.out)⟩⟩

end Go.Proofs.Ytglaedjadlappaa.PFnExactBestMotion

-- written by myprint.py (a program of this session's over the kit's print)
import Derived.Test.YtggokppfhkebkaaPFnSmoothx0
namespace Go.Proofs.Ytggokppfhkebkaa.PFnSmooth
open Go.RowKit Go.Proofs.YtggokppfhkebkaaW.PrintWords Go.Proofs.YtggokppfhkebkaaW.PrintLast Go.Proofs.YtggokppfhkebkaaW.PrintMore
attribute [local go_sem] max2_int min2_int max_two min_two max_three min_three max_four min_four   -- for this text's walks alone
set_option linter.unusedVariables false
set_option linter.unusedSimpArgs false

/-! ### spec_l4Sides: function 77 -/
def spec_l4Sides.f (a0 : Int) (a1 : Int) : Option (Bool) := if a0 ≥ 1 then (if a0 ≤ 512 then (if a1 ≥ 1 then (some (decide (a1 ≤ 512))) else (some false)) else (some false)) else (some false)
set_option maxHeartbeats 8000000 in
set_option maxRecDepth 100000 in
theorem spec_l4Sides.calls (a0 : Int) (a1 : Int) (r : Bool) (w : World) (h : spec_l4Sides.f a0 a1 = some r) :
    Calls Try.prog 77 #[.int .i64 a0, .int .i64 a1] w fun e w' => e = .returned (.bool r) ∧ Drawn0 w w' := by
  have H : (if a0 ≥ 1 then (if a0 ≤ 512 then (if a1 ≥ 1 then (some (decide (a1 ≤ 512))) else (some false)) else (some false)) else (some false)) = some r := h
  clear h
  by_cases c3 : a0 ≥ 1
  · rw [if_pos c3] at H
    have c3b0 : decide (1 ≤ a0) = true := decide_eq_true c3
    clear c3
    by_cases c4 : a0 ≤ 512
    · rw [if_pos c4] at H
      have c4b0 : decide (a0 ≤ 512) = true := decide_eq_true c4
      clear c4
      by_cases c5 : a1 ≥ 1
      · rw [if_pos c5] at H
        have c5b0 : decide (1 ≤ a1) = true := decide_eq_true c5
        clear c5
        obtain rfl := Option.some.inj H
        go_enter Try.func77, Try.ntmps77
        go_wp2
        go_ret
        exact ⟨by first | rfl | (simp; done) | (simp [*]; done), by repeat (first | exact Drawn0.refl _ | apply Drawn0.step)⟩
      · rw [if_neg c5] at H
        have c5b0 : decide (1 ≤ a1) = false := decide_eq_false c5
        clear c5
        obtain rfl := Option.some.inj H
        go_enter Try.func77, Try.ntmps77
        go_wp2
        go_ret
        exact ⟨by first | rfl | (simp; done) | (simp [*]; done), by repeat (first | exact Drawn0.refl _ | apply Drawn0.step)⟩
    · rw [if_neg c4] at H
      have c4b0 : decide (a0 ≤ 512) = false := decide_eq_false c4
      clear c4
      obtain rfl := Option.some.inj H
      go_enter Try.func77, Try.ntmps77
      go_wp2
      go_ret
      exact ⟨by first | rfl | (simp; done) | (simp [*]; done), by repeat (first | exact Drawn0.refl _ | apply Drawn0.step)⟩
  · rw [if_neg c3] at H
    have c3b0 : decide (1 ≤ a0) = false := decide_eq_false c3
    clear c3
    obtain rfl := Option.some.inj H
    go_enter Try.func77, Try.ntmps77
    go_wp2
    go_ret
    exact ⟨by first | rfl | (simp; done) | (simp [*]; done), by repeat (first | exact Drawn0.refl _ | apply Drawn0.step)⟩

/-! ### spec_l7Sides: function 153 -/
def spec_l7Sides.f (a0 : Int) (a1 : Int) : Option (Bool) := (spec_l4Sides.f a0 a1).bind fun t230 => (if t230 = true then (some (decide ((wrap64 (a0 * a1)) ≤ 4096))) else (some false))
set_option maxHeartbeats 8000000 in
set_option maxRecDepth 100000 in
theorem spec_l7Sides.calls (a0 : Int) (a1 : Int) (r : Bool) (w : World) (h : spec_l7Sides.f a0 a1 = some r) :
    Calls Try.prog 153 #[.int .i64 a0, .int .i64 a1] w fun e w' => e = .returned (.bool r) ∧ Drawn0 w w' := by
  have H : ((spec_l4Sides.f a0 a1).bind fun t230 => (if t230 = true then (some (decide ((wrap64 (a0 * a1)) ≤ 4096))) else (some false))) = some r := h
  clear h
  replace H := Option.bind_eq_some_iff.mp H
  obtain ⟨t230, A30, H⟩ := H
  replace H : (if t230 = true then (some (decide ((wrap64 (a0 * a1)) ≤ 4096))) else (some false)) = some r := H
  have A3 := Aside0.mk A30
  clear A30
  by_cases c4 : t230 = true
  · subst c4
    have H1 : (some (decide ((wrap64 (a0 * a1)) ≤ 4096))) = some r := by rw [if_pos rfl] at H; exact H
    clear H
    have H := H1
    clear H1
    obtain rfl := Option.some.inj H
    go_enter Try.func153, Try.ntmps153
    go_wp2_with (first | ((with_reducible refine gate_callee (f := 77) rfl ?_); refine goesL_ (some 7) rfl rfl Try.func77 (by kernel_rfl) rfl #[.int .i64 a0, .int .i64 a1] rfl (by (try simp only [List.map_toArray, List.map_cons, List.map_nil]); first | done | rfl | (simp only [List.length_drop, List.length_take]; rfl)) ?_; (with_reducible refine (spec_l4Sides.calls a0 a1 true _ A3.out).mono ?_); rintro e w' ⟨rfl, ⟨nd, rfl⟩⟩; refine ⟨_, rfl, ?_⟩))
    go_ret
    exact ⟨by first | rfl | (simp; done) | (simp [*]; done), by repeat (first | exact Drawn0.refl _ | apply Drawn0.step)⟩
  · replace c4 := Bool.eq_false_iff.mpr c4
    subst c4
    have H1 : (some false) = some r := by rw [if_neg (show ¬ (false = true) by decide)] at H; exact H
    clear H
    have H := H1
    clear H1
    obtain rfl := Option.some.inj H
    go_enter Try.func153, Try.ntmps153
    go_wp2_with (first | ((with_reducible refine gate_callee (f := 77) rfl ?_); refine goesL_ (some 7) rfl rfl Try.func77 (by kernel_rfl) rfl #[.int .i64 a0, .int .i64 a1] rfl (by (try simp only [List.map_toArray, List.map_cons, List.map_nil]); first | done | rfl | (simp only [List.length_drop, List.length_take]; rfl)) ?_; (with_reducible refine (spec_l4Sides.calls a0 a1 false _ A3.out).mono ?_); rintro e w' ⟨rfl, ⟨nd, rfl⟩⟩; refine ⟨_, rfl, ?_⟩))
    go_ret
    exact ⟨by first | rfl | (simp; done) | (simp [*]; done), by repeat (first | exact Drawn0.refl _ | apply Drawn0.step)⟩

/-! ### spec_GoodPlane: function 111 -/
mutual
def spec_GoodPlane.j0 : Nat → Bool → Int → Int → List Int → Option (Bool)
  | 0, _, _, _, _ => none
  | k + 1, x21, x232000, x232001, x232002 => if x21 = true then (some false) else (spec_GoodPlane.l0 k x232002 (x232002.length : Int) 0)
def spec_GoodPlane.l0 : Nat → List Int → Int → Int → Option (Bool)
  | 0, _, _, _ => none
  | k + 1, x23, x24, x25 => if x25 < x24 then (if 0 ≤ x25 then (if x25 < (x23.length : Int) then (if (rd x23 x25) < 0 then (some false) else (if (rd x23 x25) > 255 then (some false) else (spec_GoodPlane.l0 k x23 x24 (wrap64 (x25 + 1))))) else (none)) else (none)) else (some true)
end
def spec_GoodPlane.f (k : Nat) (a0_0 : Int) (a0_1 : Int) (l0_2 : List Int) : Option (Bool) := (spec_l7Sides.f a0_0 a0_1).bind fun t232 => (if t232 = true then (spec_GoodPlane.j0 k ((l0_2.length : Int) != (wrap64 (a0_0 * a0_1))) a0_0 a0_1 l0_2) else (spec_GoodPlane.j0 k true a0_0 a0_1 l0_2))
theorem spec_GoodPlane.mono_l : ∀ k, (∀ y0 y1 y2 y3, LeO (spec_GoodPlane.j0 k y0 y1 y2 y3) (spec_GoodPlane.j0 (k + 1) y0 y1 y2 y3)) ∧ (∀ y0 y1 y2, LeO (spec_GoodPlane.l0 k y0 y1 y2) (spec_GoodPlane.l0 (k + 1) y0 y1 y2))
  | 0 => ⟨fun _ _ _ _ r h => by simp [spec_GoodPlane.j0] at h, fun _ _ _ r h => by simp [spec_GoodPlane.l0] at h⟩
  | k + 1 => by
    obtain ⟨ih0, ih1⟩ := spec_GoodPlane.mono_l k
    refine ⟨?_, ?_⟩
    · intro y0 y1 y2 y3
      unfold spec_GoodPlane.j0
      repeat' first
      | (with_reducible exact ih0 _ _ _ _)
      | (with_reducible exact ih1 _ _ _)
      | (with_reducible exact LeO.refl _)
      | (with_reducible exact LeO.none _)
      | (with_reducible refine LeO.ite ?_ ?_)
      | (with_reducible refine LeO.bind ?_ (fun _ => ?_))
      | exact ih0 _ _ _ _
      | exact ih1 _ _ _
      | exact LeO.none _
      | refine LeO.ite ?_ ?_
      | refine LeO.bind ?_ (fun _ => ?_)
    · intro y0 y1 y2
      unfold spec_GoodPlane.l0
      repeat' first
      | (with_reducible exact ih0 _ _ _ _)
      | (with_reducible exact ih1 _ _ _)
      | (with_reducible exact LeO.refl _)
      | (with_reducible exact LeO.none _)
      | (with_reducible refine LeO.ite ?_ ?_)
      | (with_reducible refine LeO.bind ?_ (fun _ => ?_))
      | exact ih0 _ _ _ _
      | exact ih1 _ _ _
      | exact LeO.none _
      | refine LeO.ite ?_ ?_
      | refine LeO.bind ?_ (fun _ => ?_)
theorem spec_GoodPlane.mono : ∀ a0 a1 a2 k, LeO (spec_GoodPlane.f k a0 a1 a2) (spec_GoodPlane.f (k + 1) a0 a1 a2) := by
  intro a0 a1 a2 k
  obtain ⟨ih0, ih1⟩ := spec_GoodPlane.mono_l k
  unfold spec_GoodPlane.f
  repeat' first
      | (with_reducible exact ih0 _ _ _ _)
      | (with_reducible exact ih1 _ _ _)
      | (with_reducible exact LeO.refl _)
      | (with_reducible exact LeO.none _)
      | (with_reducible refine LeO.ite ?_ ?_)
      | (with_reducible refine LeO.bind ?_ (fun _ => ?_))
      | exact ih0 _ _ _ _
      | exact ih1 _ _ _
      | exact LeO.none _
      | refine LeO.ite ?_ ?_
      | refine LeO.bind ?_ (fun _ => ?_)
set_option maxHeartbeats 8000000 in
set_option maxRecDepth 100000 in
theorem spec_GoodPlane.calls (k : Nat) (a0_0 : Int) (a0_1 : Int) (A0_2 : Option Addr) (c0_2 : Nat) (l0_2 : List Int) (r : Bool) (w : World) (hr0_2 : Kd.C (Kd.int .i64) w A0_2 l0_2.length l0_2) (hc0_2 : l0_2.length ≤ c0_2) (h : spec_GoodPlane.f k a0_0 a0_1 l0_2 = some r) :
    Calls Try.prog 111 #[.agg #[.int .i64 a0_0, .int .i64 a0_1, .slice A0_2 l0_2.length c0_2]] w fun e w' => e = .returned (.bool r) ∧ Below w.heap.size w w' := by
  have hu66 := Try.underlying66
  have HR0_2 := Aside0.mk hr0_2
  have HC0_2 := Aside0.mk hc0_2
  clear hr0_2 hc0_2
  have HB := Aside0.mk (Below.refl w.heap.size w)
  have H : ((spec_l7Sides.f a0_0 a0_1).bind fun t232 => (if t232 = true then (spec_GoodPlane.j0 k ((l0_2.length : Int) != (wrap64 (a0_0 * a0_1))) a0_0 a0_1 l0_2) else (spec_GoodPlane.j0 k true a0_0 a0_1 l0_2))) = some r := h
  clear h
  have HC2 := Aside0.mk H
  clear H
  go_enter Try.func111, Try.ntmps111
  go_upto_region 1 with (first | ((with_reducible refine gate_dst (N := 1) rfl ?_); (try (refine gate_guard (by rfl) ?_; dsimp only)); refine box_event ?hg (N := 1) ?hd (cs := #[.int .i64 a0_0, .int .i64 a0_1, .slice A0_2 l0_2.length c0_2]) (t := 66) ?hr ?_; (case hd => rfl); (case hg => rfl); (case hr => first | (go_simp; done) | (go_simp; rfl)); intro gb231 hg w3 hbox hb; have n0_ := Aside0.mk (below_step (by repeat (first | (with_reducible first | exact HB.out | apply below_alloc | apply pw_below_drewN | apply below_drew1) | exact HB.out)) hb); have n1_ := Aside0.mk (hbox); have n2_ := Aside0.mk ((by rw [hg]; exact (below_size (by repeat (first | (with_reducible first | exact HB.out | apply below_alloc | apply pw_below_drewN | apply below_drew1) | exact HB.out))) : w.heap.size ≤ gb231)); have n3_ := n2_; clear HB; have HB := n0_; have BK231 := n1_; have GW231 := n2_; have GE231 := n3_; clear n0_ n1_ n2_ n3_; clear hb hbox hg))
  (try simp only [Act.put, List.setIfInBounds_toArray, List.set_cons_zero, List.set_cons_succ])
  go_cut [21] (fun v21 wc => ∃ (kq : Nat) (x21_1 : Bool), v21 = .bool x21_1 ∧ Aside0 (spec_GoodPlane.j0 kq x21_1 a0_0 a0_1 l0_2 = some r) ∧ Aside0 (kq ≤ k) ∧ Aside0 (wc.heap[gb231]? = some (.cells #[.int .i64 a0_0, .int .i64 a0_1, (.slice A0_2 l0_2.length c0_2)] 66 (0, 0))) ∧ Aside0 (Below w.heap.size w wc))
  case first =>
    have H := HC2.out
    clear HC2
    replace H := Option.bind_eq_some_iff.mp H
    obtain ⟨t232, A40, H⟩ := H
    replace H : (if t232 = true then (spec_GoodPlane.j0 k ((l0_2.length : Int) != (wrap64 (a0_0 * a0_1))) a0_0 a0_1 l0_2) else (spec_GoodPlane.j0 k true a0_0 a0_1 l0_2)) = some r := H
    have A4 := Aside0.mk A40
    clear A40
    by_cases c5 : t232 = true
    rotate_left
    · replace c5 := Bool.eq_false_iff.mpr c5
      subst c5
      have H1 : (spec_GoodPlane.j0 k true a0_0 a0_1 l0_2) = some r := by rw [if_neg (show ¬ (false = true) by decide)] at H; exact H
      clear H
      have H := H1
      clear H1
      have H' := Aside0.mk H
      clear H
      have hcz7_0 : w3.cell? ⟨gb231, 0, none⟩ = some (.int .i64 a0_0) := (blk_cell BK231.out 0).trans rfl
      have hcz7_1 : w3.cell? ⟨gb231, 1, none⟩ = some (.int .i64 a0_1) := (blk_cell BK231.out 1).trans rfl
      have hcz7_2 : w3.cell? ⟨gb231, 2, none⟩ = some (.slice A0_2 l0_2.length c0_2) := (blk_cell BK231.out 2).trans rfl
      have hfz7_0 := blk_frozen BK231.out 0
      have hfz7_1 := blk_frozen BK231.out 1
      have hfz7_2 := blk_frozen BK231.out 2
      go_wp2_with (first | ((with_reducible refine gate_callee (f := 153) rfl ?_); refine goesL_ (some 9) rfl rfl Try.func153 (by kernel_rfl) rfl #[.int .i64 a0_0, .int .i64 a0_1] rfl (by (try simp only [List.map_toArray, List.map_cons, List.map_nil]); first | done | rfl | (simp only [List.length_drop, List.length_take]; rfl)) ?_; (with_reducible refine (spec_l7Sides.calls a0_0 a0_1 false _ A4.out).mono ?_); rintro e w' ⟨rfl, ⟨nd, rfl⟩⟩; refine ⟨_, rfl, ?_⟩))
      go_meet
      case rel => exact ⟨_, (true), (by first | rfl | (simp; done) | (simp [*]; done)), H', ⟨by first | omega | exact Nat.le_refl _⟩, ⟨by (with_reducible repeat (first | refine blk_drewN ?_ _ | refine blk_drew ?_ | refine blk_alloc ?_ _)); exact BK231.out⟩, ⟨by repeat (first | (with_reducible first | exact HB.out | apply below_alloc | apply pw_below_drewN | apply below_drew1 | refine below_set ?_ GE231.out) | exact HB.out)⟩⟩
    subst c5
    have H1 : (spec_GoodPlane.j0 k ((l0_2.length : Int) != (wrap64 (a0_0 * a0_1))) a0_0 a0_1 l0_2) = some r := by rw [if_pos rfl] at H; exact H
    clear H
    have H := H1
    clear H1
    have H' := Aside0.mk H
    clear H
    have hcz6_0 : w3.cell? ⟨gb231, 0, none⟩ = some (.int .i64 a0_0) := (blk_cell BK231.out 0).trans rfl
    have hcz6_1 : w3.cell? ⟨gb231, 1, none⟩ = some (.int .i64 a0_1) := (blk_cell BK231.out 1).trans rfl
    have hcz6_2 : w3.cell? ⟨gb231, 2, none⟩ = some (.slice A0_2 l0_2.length c0_2) := (blk_cell BK231.out 2).trans rfl
    have hfz6_0 := blk_frozen BK231.out 0
    have hfz6_1 := blk_frozen BK231.out 1
    have hfz6_2 := blk_frozen BK231.out 2
    go_wp2_with (first | ((with_reducible refine gate_callee (f := 153) rfl ?_); refine goesL_ (some 9) rfl rfl Try.func153 (by kernel_rfl) rfl #[.int .i64 a0_0, .int .i64 a0_1] rfl (by (try simp only [List.map_toArray, List.map_cons, List.map_nil]); first | done | rfl | (simp only [List.length_drop, List.length_take]; rfl)) ?_; (with_reducible refine (spec_l7Sides.calls a0_0 a0_1 true _ A4.out).mono ?_); rintro e w' ⟨rfl, ⟨nd, rfl⟩⟩; refine ⟨_, rfl, ?_⟩))
    go_meet
    case rel => exact ⟨_, (((l0_2.length : Int) != (wrap64 (a0_0 * a0_1)))), (by first | rfl | (simp; done) | (simp [*]; done)), H', ⟨by first | omega | exact Nat.le_refl _⟩, ⟨by (with_reducible repeat (first | refine blk_drewN ?_ _ | refine blk_drew ?_ | refine blk_alloc ?_ _)); exact BK231.out⟩, ⟨by repeat (first | (with_reducible first | exact HB.out | apply below_alloc | apply pw_below_drewN | apply below_drew1 | refine below_set ?_ GE231.out) | exact HB.out)⟩⟩
  case rest =>
    clear HC2
    try clear c1
    try clear p2
    try clear c5
    try clear p6
    try clear hcz6_0
    try clear hcz6_1
    try clear hcz6_2
    try clear hcz7_0
    try clear hcz7_1
    try clear hcz7_2
    try clear hfz6_0
    try clear hfz6_1
    try clear hfz6_2
    try clear hfz7_0
    try clear hfz7_1
    try clear hfz7_2
    obtain ⟨kq, x21_1, rfl, HA, HJ1, BK231, HB⟩ := hcut
    cases kq with
    | zero => exact absurd HA.out (by simp [spec_GoodPlane.j0])
    | succ kj1 =>
      have H := HA.out
      clear HA
      simp only [spec_GoodPlane.j0] at H
      by_cases c8 : x21_1 = true
      · subst c8
        have H1 : (some false) = some r := by rw [if_pos rfl] at H; exact H
        clear H
        have H := H1
        clear H1
        obtain rfl := Option.some.inj H
        go_wp2
        go_ret
        exact ⟨by first | rfl | (simp [errW_none, errW_some] <;> rfl) | (simp [*, errW_none, errW_some] <;> rfl), by repeat (first | (with_reducible first | exact HB.out | apply below_alloc | apply pw_below_drewN | apply below_drew1 | refine below_set ?_ GE231.out) | exact HB.out)⟩
      replace c8 := Bool.eq_false_iff.mpr c8
      subst c8
      have H1 : (spec_GoodPlane.l0 kj1 l0_2 (l0_2.length : Int) 0) = some r := by rw [if_neg (show ¬ (false = true) by decide)] at H; exact H
      clear H
      have H := H1
      clear H1
      have H' := Aside0.mk H
      clear H
      have hcz9_0 : wc.cell? ⟨gb231, 0, none⟩ = some (.int .i64 a0_0) := (blk_cell BK231.out 0).trans rfl
      have hcz9_1 : wc.cell? ⟨gb231, 1, none⟩ = some (.int .i64 a0_1) := (blk_cell BK231.out 1).trans rfl
      have hcz9_2 : wc.cell? ⟨gb231, 2, none⟩ = some (.slice A0_2 l0_2.length c0_2) := (blk_cell BK231.out 2).trans rfl
      have hfz9_0 := blk_frozen BK231.out 0
      have hfz9_1 := blk_frozen BK231.out 1
      have hfz9_2 := blk_frozen BK231.out 2
      go_wp2
      go_loopg [25] kj1 (fun kq v25 w' => ∃ (x25_2 : Int), v25 = .int .i64 x25_2 ∧ Aside0 (spec_GoodPlane.l0 kq l0_2 (l0_2.length : Int) x25_2 = some r) ∧ Aside0 (kq ≤ kj1) ∧ Aside0 (w'.heap[gb231]? = some (.cells #[.int .i64 a0_0, .int .i64 a0_1, (.slice A0_2 l0_2.length c0_2)] 66 (0, 0))) ∧ Aside0 (Below w.heap.size w w'))
      case atStart => exact ⟨(0), (by first | rfl | (simp; done) | (simp [*]; done)), H', ⟨Nat.le_refl _⟩, ⟨by (with_reducible repeat (first | refine blk_drewN ?_ _ | refine blk_drew ?_ | refine blk_alloc ?_ _)); exact BK231.out⟩, ⟨by repeat (first | (with_reducible first | exact HB.out | apply below_alloc | apply pw_below_drewN | apply below_drew1 | refine below_set ?_ GE231.out) | exact HB.out)⟩⟩
      case round =>
        clear H'
        try clear c1
        try clear p2
        try clear c5
        try clear p6
        try clear c8
        try clear hcz6_0
        try clear hcz6_1
        try clear hcz6_2
        try clear hcz7_0
        try clear hcz7_1
        try clear hcz7_2
        try clear hcz9_0
        try clear hcz9_1
        try clear hcz9_2
        try clear hfz6_0
        try clear hfz6_1
        try clear hfz6_2
        try clear hfz7_0
        try clear hfz7_1
        try clear hfz7_2
        try clear hfz9_0
        try clear hfz9_1
        try clear hfz9_2
        try clear p2
        try clear p6
        obtain ⟨x25_2, rfl, HA, HK2, BK231, HB⟩ := hrel
        cases gk with
        | zero => exact absurd HA.out (by simp [spec_GoodPlane.l0])
        | succ k2 =>
          have H := HA.out
          clear HA
          simp only [spec_GoodPlane.l0] at H
          by_cases c10 : x25_2 < (l0_2.length : Int)
          rotate_left
          · rw [if_neg c10] at H
            have c10b0 : decide (x25_2 < (l0_2.length : Int)) = false := decide_eq_false c10
            clear c10
            obtain rfl := Option.some.inj H
            go_wp2
            go_ret
            exact ⟨by first | rfl | (simp [errW_none, errW_some] <;> rfl) | (simp [*, errW_none, errW_some] <;> rfl), by repeat (first | (with_reducible first | exact HB.out | apply below_alloc | apply pw_below_drewN | apply below_drew1 | refine below_set ?_ GE231.out) | exact HB.out)⟩
          rw [if_pos c10] at H
          have c10b0 : decide (x25_2 < (l0_2.length : Int)) = true := decide_eq_true c10
          clear c10
          by_cases c11 : 0 ≤ x25_2
          rotate_left
          · rw [if_neg c11] at H
            exact absurd H (by simp)
          rw [if_pos c11] at H
          have c11b0 : decide (0 ≤ x25_2) = true := decide_eq_true c11
          clear c11
          by_cases c12 : x25_2 < (l0_2.length : Int)
          rotate_left
          · rw [if_neg c12] at H
            exact absurd H (by simp)
          rw [if_pos c12] at H
          have c12b0 : decide (x25_2 < (l0_2.length : Int)) = true := decide_eq_true c12
          clear c12
          by_cases c13 : (rd l0_2 x25_2) < 0
          · rw [if_pos c13] at H
            have c13b0 : decide ((rd l0_2 x25_2) < 0) = true := decide_eq_true c13
            clear c13
            obtain rfl := Option.some.inj H
            have p233 : 0 ≤ (x25_2 : Int) := of_decide_eq_true (by first | (with_reducible assumption) | assumption)
            have q233 : x25_2 < (l0_2.length : Int) := of_decide_eq_true (by first | (with_reducible assumption) | assumption)
            obtain ⟨ad233, e233, hx233_0⟩ := Kd.at_int HR0_2.out x25_2 p233 q233
            cases e233
            replace hx233_0 := (HB.out.cell (World.block_lt_of_cell? w _ hx233_0)).trans hx233_0
            replace p233 := eq_true p233
            replace q233 := eq_true q233
            go_wp2
            go_ret
            exact ⟨by first | rfl | (simp [errW_none, errW_some] <;> rfl) | (simp [*, errW_none, errW_some] <;> rfl), by repeat (first | (with_reducible first | exact HB.out | apply below_alloc | apply pw_below_drewN | apply below_drew1 | refine below_set ?_ GE231.out) | exact HB.out)⟩
          rw [if_neg c13] at H
          have c13b0 : decide ((rd l0_2 x25_2) < 0) = false := decide_eq_false c13
          clear c13
          by_cases c14 : (rd l0_2 x25_2) > 255
          · rw [if_pos c14] at H
            have c14b0 : decide (255 < (rd l0_2 x25_2)) = true := decide_eq_true c14
            clear c14
            obtain rfl := Option.some.inj H
            have p233 : 0 ≤ (x25_2 : Int) := of_decide_eq_true (by first | (with_reducible assumption) | assumption)
            have q233 : x25_2 < (l0_2.length : Int) := of_decide_eq_true (by first | (with_reducible assumption) | assumption)
            obtain ⟨ad233, e233, hx233_0⟩ := Kd.at_int HR0_2.out x25_2 p233 q233
            cases e233
            replace hx233_0 := (HB.out.cell (World.block_lt_of_cell? w _ hx233_0)).trans hx233_0
            replace p233 := eq_true p233
            replace q233 := eq_true q233
            go_wp2
            go_ret
            exact ⟨by first | rfl | (simp [errW_none, errW_some] <;> rfl) | (simp [*, errW_none, errW_some] <;> rfl), by repeat (first | (with_reducible first | exact HB.out | apply below_alloc | apply pw_below_drewN | apply below_drew1 | refine below_set ?_ GE231.out) | exact HB.out)⟩
          rw [if_neg c14] at H
          have c14b0 : decide (255 < (rd l0_2 x25_2)) = false := decide_eq_false c14
          clear c14
          have H' := Aside0.mk H
          clear H
          have p233 : 0 ≤ (x25_2 : Int) := of_decide_eq_true (by first | (with_reducible assumption) | assumption)
          have q233 : x25_2 < (l0_2.length : Int) := of_decide_eq_true (by first | (with_reducible assumption) | assumption)
          obtain ⟨ad233, e233, hx233_0⟩ := Kd.at_int HR0_2.out x25_2 p233 q233
          cases e233
          replace hx233_0 := (HB.out.cell (World.block_lt_of_cell? w _ hx233_0)).trans hx233_0
          replace p233 := eq_true p233
          replace q233 := eq_true q233
          go_wp2
          go_roundg k2
          case measure => have := HJ1.out; have := HK2.out; omega
          case rel => exact ⟨(wrap64 (x25_2 + 1)), (by first | rfl | (simp; done) | (simp [*]; done)), H', ⟨by have := HJ1.out; have := HK2.out; omega⟩, ⟨by (with_reducible repeat (first | refine blk_drewN ?_ _ | refine blk_drew ?_ | refine blk_alloc ?_ _)); exact BK231.out⟩, ⟨by repeat (first | (with_reducible first | exact HB.out | apply below_alloc | apply pw_below_drewN | apply below_drew1 | refine below_set ?_ GE231.out) | exact HB.out)⟩⟩

/-! ### spec_l4Abs: function 165 -/
def spec_l4Abs.f (a0 : Int) : Option (Int) := if a0 < 0 then (some (wrap64 (-a0))) else (some a0)
set_option maxHeartbeats 8000000 in
set_option maxRecDepth 100000 in
theorem spec_l4Abs.calls (a0 : Int) (r : Int) (w : World) (h : spec_l4Abs.f a0 = some r) :
    Calls Try.prog 165 #[.int .i64 a0] w fun e w' => e = .returned (.int .i64 r) ∧ Drawn0 w w' := by
  have H : (if a0 < 0 then (some (wrap64 (-a0))) else (some a0)) = some r := h
  clear h
  by_cases c2 : a0 < 0
  · rw [if_pos c2] at H
    have c2b0 : decide (a0 < 0) = true := decide_eq_true c2
    clear c2
    obtain rfl := Option.some.inj H
    go_enter Try.func165, Try.ntmps165
    go_wp2
    go_ret
    exact ⟨by first | rfl | (simp; done) | (simp [*]; done), by repeat (first | exact Drawn0.refl _ | apply Drawn0.step)⟩
  · rw [if_neg c2] at H
    have c2b0 : decide (a0 < 0) = false := decide_eq_false c2
    clear c2
    obtain rfl := Option.some.inj H
    go_enter Try.func165, Try.ntmps165
    go_wp2
    go_ret
    exact ⟨by first | rfl | (simp; done) | (simp [*]; done), by repeat (first | exact Drawn0.refl _ | apply Drawn0.step)⟩

/-! ### spec_l7Clip: function 166 -/
def spec_l7Clip.f (a0 : Int) : Option (Int) := if a0 < 0 then (some 0) else (if a0 > 255 then (some 255) else (some a0))
set_option maxHeartbeats 8000000 in
set_option maxRecDepth 100000 in
theorem spec_l7Clip.calls (a0 : Int) (r : Int) (w : World) (h : spec_l7Clip.f a0 = some r) :
    Calls Try.prog 166 #[.int .i64 a0] w fun e w' => e = .returned (.int .i64 r) ∧ Drawn0 w w' := by
  have H : (if a0 < 0 then (some 0) else (if a0 > 255 then (some 255) else (some a0))) = some r := h
  clear h
  by_cases c2 : a0 < 0
  · rw [if_pos c2] at H
    have c2b0 : decide (a0 < 0) = true := decide_eq_true c2
    clear c2
    obtain rfl := Option.some.inj H
    go_enter Try.func166, Try.ntmps166
    go_wp2
    go_ret
    exact ⟨by first | rfl | (simp; done) | (simp [*]; done), by repeat (first | exact Drawn0.refl _ | apply Drawn0.step)⟩
  · rw [if_neg c2] at H
    have c2b0 : decide (a0 < 0) = false := decide_eq_false c2
    clear c2
    by_cases c3 : a0 > 255
    · rw [if_pos c3] at H
      have c3b0 : decide (255 < a0) = true := decide_eq_true c3
      clear c3
      obtain rfl := Option.some.inj H
      go_enter Try.func166, Try.ntmps166
      go_wp2
      go_ret
      exact ⟨by first | rfl | (simp; done) | (simp [*]; done), by repeat (first | exact Drawn0.refl _ | apply Drawn0.step)⟩
    · rw [if_neg c3] at H
      have c3b0 : decide (255 < a0) = false := decide_eq_false c3
      clear c3
      obtain rfl := Option.some.inj H
      go_enter Try.func166, Try.ntmps166
      go_wp2
      go_ret
      exact ⟨by first | rfl | (simp; done) | (simp [*]; done), by repeat (first | exact Drawn0.refl _ | apply Drawn0.step)⟩

/-! ### spec_l13Edge: function 154 -/
mutual
def spec_l13Edge.j0 : Nat → Int → Int → Int → Int → Int → Bool → Option (Int × Int)
  | 0, _, _, _, _, _, _ => none
  | k + 1, x0, x1, x2, x3, x4, x42 => if x42 = true then (some (x1, x2)) else (if ((wrap64 ((wrap64 ((wrap64 (4 * (wrap64 (x2 - x1)))) + (wrap64 (x0 - x3)))) + 4)) / 8) < (wrap64 (-(wrap64 ((wrap64 (Int.tdiv x4 4)) + 1)))) then (spec_l13Edge.j1 k x1 x2 (wrap64 ((wrap64 (Int.tdiv x4 4)) + 1)) (wrap64 (-(wrap64 ((wrap64 (Int.tdiv x4 4)) + 1))))) else (spec_l13Edge.j1 k x1 x2 (wrap64 ((wrap64 (Int.tdiv x4 4)) + 1)) ((wrap64 ((wrap64 ((wrap64 (4 * (wrap64 (x2 - x1)))) + (wrap64 (x0 - x3)))) + 4)) / 8)))
def spec_l13Edge.j1 : Nat → Int → Int → Int → Int → Option (Int × Int)
  | 0, _, _, _, _ => none
  | k + 1, x1, x2, x12, x13 => if x13 > x12 then ((spec_l7Clip.f (wrap64 (x1 + x12))).bind fun t237 => ((spec_l7Clip.f (wrap64 (x2 - x12))).bind fun t238 => (some (t237, t238)))) else ((spec_l7Clip.f (wrap64 (x1 + x13))).bind fun t239 => ((spec_l7Clip.f (wrap64 (x2 - x13))).bind fun t240 => (some (t239, t240))))
end
def spec_l13Edge.f (k : Nat) (a0 : Int) (a1 : Int) (a2 : Int) (a3 : Int) (a4 : Int) : Option (Int × Int) := (spec_l4Abs.f (wrap64 (a2 - a1))).bind fun t234 => (if t234 ≥ (wrap64 (a4 + (wrap64 (Int.tdiv (wrap64 (a4 * a4)) 16)))) then (spec_l13Edge.j0 k a0 a1 a2 a3 a4 true) else ((spec_l4Abs.f (wrap64 (a1 - a0))).bind fun t235 => (if t235 ≥ (wrap64 (Int.tdiv a4 2)) then (spec_l13Edge.j0 k a0 a1 a2 a3 a4 true) else ((spec_l4Abs.f (wrap64 (a3 - a2))).bind fun t236 => (spec_l13Edge.j0 k a0 a1 a2 a3 a4 (decide (t236 ≥ (wrap64 (Int.tdiv a4 2)))))))))
theorem spec_l13Edge.mono_l : ∀ k, (∀ y0 y1 y2 y3 y4 y5, LeO (spec_l13Edge.j0 k y0 y1 y2 y3 y4 y5) (spec_l13Edge.j0 (k + 1) y0 y1 y2 y3 y4 y5)) ∧ (∀ y0 y1 y2 y3, LeO (spec_l13Edge.j1 k y0 y1 y2 y3) (spec_l13Edge.j1 (k + 1) y0 y1 y2 y3))
  | 0 => ⟨fun _ _ _ _ _ _ r h => by simp [spec_l13Edge.j0] at h, fun _ _ _ _ r h => by simp [spec_l13Edge.j1] at h⟩
  | k + 1 => by
    obtain ⟨ih0, ih1⟩ := spec_l13Edge.mono_l k
    refine ⟨?_, ?_⟩
    · intro y0 y1 y2 y3 y4 y5
      unfold spec_l13Edge.j0
      repeat' first
      | (with_reducible exact ih0 _ _ _ _ _ _)
      | (with_reducible exact ih1 _ _ _ _)
      | (with_reducible exact LeO.refl _)
      | (with_reducible exact LeO.none _)
      | (with_reducible refine LeO.ite ?_ ?_)
      | (with_reducible refine LeO.bind ?_ (fun _ => ?_))
      | exact ih0 _ _ _ _ _ _
      | exact ih1 _ _ _ _
      | exact LeO.none _
      | refine LeO.ite ?_ ?_
      | refine LeO.bind ?_ (fun _ => ?_)
    · intro y0 y1 y2 y3
      unfold spec_l13Edge.j1
      repeat' first
      | (with_reducible exact ih0 _ _ _ _ _ _)
      | (with_reducible exact ih1 _ _ _ _)
      | (with_reducible exact LeO.refl _)
      | (with_reducible exact LeO.none _)
      | (with_reducible refine LeO.ite ?_ ?_)
      | (with_reducible refine LeO.bind ?_ (fun _ => ?_))
      | exact ih0 _ _ _ _ _ _
      | exact ih1 _ _ _ _
      | exact LeO.none _
      | refine LeO.ite ?_ ?_
      | refine LeO.bind ?_ (fun _ => ?_)
theorem spec_l13Edge.mono : ∀ a0 a1 a2 a3 a4 k, LeO (spec_l13Edge.f k a0 a1 a2 a3 a4) (spec_l13Edge.f (k + 1) a0 a1 a2 a3 a4) := by
  intro a0 a1 a2 a3 a4 k
  obtain ⟨ih0, ih1⟩ := spec_l13Edge.mono_l k
  unfold spec_l13Edge.f
  repeat' first
      | (with_reducible exact ih0 _ _ _ _ _ _)
      | (with_reducible exact ih1 _ _ _ _)
      | (with_reducible exact LeO.refl _)
      | (with_reducible exact LeO.none _)
      | (with_reducible refine LeO.ite ?_ ?_)
      | (with_reducible refine LeO.bind ?_ (fun _ => ?_))
      | exact ih0 _ _ _ _ _ _
      | exact ih1 _ _ _ _
      | exact LeO.none _
      | refine LeO.ite ?_ ?_
      | refine LeO.bind ?_ (fun _ => ?_)
set_option maxHeartbeats 8000000 in
set_option maxRecDepth 100000 in
theorem spec_l13Edge.calls (k : Nat) (a0 : Int) (a1 : Int) (a2 : Int) (a3 : Int) (a4 : Int) (r1 : Int) (r2 : Int) (w : World) (h : spec_l13Edge.f k a0 a1 a2 a3 a4 = some (r1, r2)) :
    Calls Try.prog 154 #[.int .i64 a0, .int .i64 a1, .int .i64 a2, .int .i64 a3, .int .i64 a4] w fun e w' => e = .returned (.tuple #[.int .i64 r1, .int .i64 r2]) ∧ Drawn0 w w' := by
  have H : ((spec_l4Abs.f (wrap64 (a2 - a1))).bind fun t234 => (if t234 ≥ (wrap64 (a4 + (wrap64 (Int.tdiv (wrap64 (a4 * a4)) 16)))) then (spec_l13Edge.j0 k a0 a1 a2 a3 a4 true) else ((spec_l4Abs.f (wrap64 (a1 - a0))).bind fun t235 => (if t235 ≥ (wrap64 (Int.tdiv a4 2)) then (spec_l13Edge.j0 k a0 a1 a2 a3 a4 true) else ((spec_l4Abs.f (wrap64 (a3 - a2))).bind fun t236 => (spec_l13Edge.j0 k a0 a1 a2 a3 a4 (decide (t236 ≥ (wrap64 (Int.tdiv a4 2)))))))))) = some (r1, r2) := h
  clear h
  have HC6 := Aside0.mk H
  clear H
  go_enter Try.func154, Try.ntmps154
  go_upto_region 1 with (fail)
  go_cut [42] (fun v42 wc => ∃ (kq : Nat) (x42_5 : Bool), v42 = .bool x42_5 ∧ Aside0 (spec_l13Edge.j0 kq a0 a1 a2 a3 a4 x42_5 = some (r1, r2)) ∧ Aside0 (kq ≤ k) ∧ Drawn0 w wc)
  case first =>
    have H := HC6.out
    clear HC6
    replace H := Option.bind_eq_some_iff.mp H
    obtain ⟨t234, A70, H⟩ := H
    replace H : (if t234 ≥ (wrap64 (a4 + (wrap64 (Int.tdiv (wrap64 (a4 * a4)) 16)))) then (spec_l13Edge.j0 k a0 a1 a2 a3 a4 true) else ((spec_l4Abs.f (wrap64 (a1 - a0))).bind fun t235 => (if t235 ≥ (wrap64 (Int.tdiv a4 2)) then (spec_l13Edge.j0 k a0 a1 a2 a3 a4 true) else ((spec_l4Abs.f (wrap64 (a3 - a2))).bind fun t236 => (spec_l13Edge.j0 k a0 a1 a2 a3 a4 (decide (t236 ≥ (wrap64 (Int.tdiv a4 2))))))))) = some (r1, r2) := H
    have A7 := Aside0.mk A70
    clear A70
    by_cases c8 : t234 ≥ (wrap64 (a4 + (wrap64 (Int.tdiv (wrap64 (a4 * a4)) 16))))
    · rw [if_pos c8] at H
      have c8b0 : decide ((wrap64 (a4 + (wrap64 (Int.tdiv (wrap64 (a4 * a4)) 16)))) ≤ t234) = true := decide_eq_true c8
      clear c8
      (first | rw [c8b0] | (simp only [i64_w, i32_w]; rw [c8b0]) | skip)
      have H' := Aside0.mk H
      clear H
      go_wp2_with (first | ((with_reducible refine gate_callee (f := 165) rfl ?_); refine goesL_ (some 17) rfl rfl Try.func165 (by kernel_rfl) rfl #[.int .i64 (wrap64 (a2 - a1))] rfl (by (try simp only [List.map_toArray, List.map_cons, List.map_nil]); first | done | rfl | (simp only [List.length_drop, List.length_take]; rfl)) ?_; (with_reducible refine (spec_l4Abs.calls (wrap64 (a2 - a1)) t234 _ A7.out).mono ?_); rintro e w' ⟨rfl, ⟨nd, rfl⟩⟩; refine ⟨_, rfl, ?_⟩))
      go_meet
      case rel => exact ⟨_, (true), (by first | rfl | (simp; done) | (simp [*]; done)), H', ⟨by first | omega | exact Nat.le_refl _⟩, by repeat (first | exact Drawn0.refl _ | apply Drawn0.step)⟩
    rw [if_neg c8] at H
    have c8b0 : decide ((wrap64 (a4 + (wrap64 (Int.tdiv (wrap64 (a4 * a4)) 16)))) ≤ t234) = false := decide_eq_false c8
    clear c8
    (first | rw [c8b0] | (simp only [i64_w, i32_w]; rw [c8b0]) | skip)
    replace H := Option.bind_eq_some_iff.mp H
    obtain ⟨t235, A90, H⟩ := H
    replace H : (if t235 ≥ (wrap64 (Int.tdiv a4 2)) then (spec_l13Edge.j0 k a0 a1 a2 a3 a4 true) else ((spec_l4Abs.f (wrap64 (a3 - a2))).bind fun t236 => (spec_l13Edge.j0 k a0 a1 a2 a3 a4 (decide (t236 ≥ (wrap64 (Int.tdiv a4 2))))))) = some (r1, r2) := H
    have A9 := Aside0.mk A90
    clear A90
    by_cases c10 : t235 ≥ (wrap64 (Int.tdiv a4 2))
    · rw [if_pos c10] at H
      have c10b0 : decide ((wrap64 (Int.tdiv a4 2)) ≤ t235) = true := decide_eq_true c10
      clear c10
      have H' := Aside0.mk H
      clear H
      go_wp2_with (first | ((with_reducible refine gate_callee (f := 165) rfl ?_); refine goesL_ (some 17) rfl rfl Try.func165 (by kernel_rfl) rfl #[.int .i64 (wrap64 (a2 - a1))] rfl (by (try simp only [List.map_toArray, List.map_cons, List.map_nil]); first | done | rfl | (simp only [List.length_drop, List.length_take]; rfl)) ?_; (with_reducible refine (spec_l4Abs.calls (wrap64 (a2 - a1)) t234 _ A7.out).mono ?_); rintro e w' ⟨rfl, ⟨nd, rfl⟩⟩; refine ⟨_, rfl, ?_⟩) | (go_at_call 165; (with_reducible refine (spec_l4Abs.calls (wrap64 (a1 - a0)) t235 _ A9.out).mono ?_); rintro e w' ⟨rfl, ⟨nd, rfl⟩⟩))
      go_meet
      case rel => exact ⟨_, (true), (by first | rfl | (simp; done) | (simp [*]; done)), H', ⟨by first | omega | exact Nat.le_refl _⟩, by repeat (first | exact Drawn0.refl _ | apply Drawn0.step)⟩
    rw [if_neg c10] at H
    have c10b0 : decide ((wrap64 (Int.tdiv a4 2)) ≤ t235) = false := decide_eq_false c10
    clear c10
    replace H := Option.bind_eq_some_iff.mp H
    obtain ⟨t236, A110, H⟩ := H
    replace H : (spec_l13Edge.j0 k a0 a1 a2 a3 a4 (decide (t236 ≥ (wrap64 (Int.tdiv a4 2))))) = some (r1, r2) := H
    have A11 := Aside0.mk A110
    clear A110
    have H' := Aside0.mk H
    clear H
    go_wp2_with (first | ((with_reducible refine gate_callee (f := 165) rfl ?_); refine goesL_ (some 17) rfl rfl Try.func165 (by kernel_rfl) rfl #[.int .i64 (wrap64 (a2 - a1))] rfl (by (try simp only [List.map_toArray, List.map_cons, List.map_nil]); first | done | rfl | (simp only [List.length_drop, List.length_take]; rfl)) ?_; (with_reducible refine (spec_l4Abs.calls (wrap64 (a2 - a1)) t234 _ A7.out).mono ?_); rintro e w' ⟨rfl, ⟨nd, rfl⟩⟩; refine ⟨_, rfl, ?_⟩) | (go_at_call 165; (with_reducible refine (spec_l4Abs.calls (wrap64 (a1 - a0)) t235 _ A9.out).mono ?_); rintro e w' ⟨rfl, ⟨nd, rfl⟩⟩) | (go_at_call 165; (with_reducible refine (spec_l4Abs.calls (wrap64 (a3 - a2)) t236 _ A11.out).mono ?_); rintro e w' ⟨rfl, ⟨nd, rfl⟩⟩))
    go_meet
    case rel => exact ⟨_, (decide (t236 ≥ (wrap64 (Int.tdiv a4 2)))), (by first | rfl | (simp; done) | (simp [*]; done)), H', ⟨by first | omega | exact Nat.le_refl _⟩, by repeat (first | exact Drawn0.refl _ | apply Drawn0.step)⟩
  case rest =>
    clear HC6
    try clear c1
    try clear p2
    try clear p6
    try clear c8
    try clear c8b0
    try clear c10
    try clear c10b0
    obtain ⟨kq, x42_5, rfl, HA, HJ5, ⟨mc5, rfl⟩⟩ := hcut
    cases kq with
    | zero => exact absurd HA.out (by simp [spec_l13Edge.j0])
    | succ kj5 =>
      have H := HA.out
      clear HA
      simp only [spec_l13Edge.j0] at H
      by_cases c12 : x42_5 = true
      · subst c12
        have H1 : (some (a1, a2)) = some (r1, r2) := by rw [if_pos rfl] at H; exact H
        clear H
        have H := H1
        clear H1
        simp only [Option.some.injEq, Prod.mk.injEq] at H
        obtain ⟨rfl, rfl⟩ := H
        go_wp2
        go_ret2
        exact ⟨by first | rfl | (simp; done) | (simp [*]; done), by repeat (first | exact Drawn0.refl _ | apply Drawn0.step)⟩
      replace c12 := Bool.eq_false_iff.mpr c12
      subst c12
      have H1 : (if ((wrap64 ((wrap64 ((wrap64 (4 * (wrap64 (a2 - a1)))) + (wrap64 (a0 - a3)))) + 4)) / 8) < (wrap64 (-(wrap64 ((wrap64 (Int.tdiv a4 4)) + 1)))) then (spec_l13Edge.j1 kj5 a1 a2 (wrap64 ((wrap64 (Int.tdiv a4 4)) + 1)) (wrap64 (-(wrap64 ((wrap64 (Int.tdiv a4 4)) + 1))))) else (spec_l13Edge.j1 kj5 a1 a2 (wrap64 ((wrap64 (Int.tdiv a4 4)) + 1)) ((wrap64 ((wrap64 ((wrap64 (4 * (wrap64 (a2 - a1)))) + (wrap64 (a0 - a3)))) + 4)) / 8))) = some (r1, r2) := by rw [if_neg (show ¬ (false = true) by decide)] at H; exact H
      clear H
      have H := H1
      clear H1
      have HC13 := Aside0.mk H
      clear H
      go_upto_if 61 with (fail)
      go_cut [13] (fun v13 wc => ∃ (kq : Nat) (x13_12 : Int), v13 = .int .i64 x13_12 ∧ Aside0 (spec_l13Edge.j1 kq a1 a2 (wrap64 ((wrap64 (Int.tdiv a4 4)) + 1)) x13_12 = some (r1, r2)) ∧ Aside0 (kq ≤ kj5) ∧ Drawn0 w wc)
      case first =>
        have H := HC13.out
        clear HC13
        by_cases c14 : ((wrap64 ((wrap64 ((wrap64 (4 * (wrap64 (a2 - a1)))) + (wrap64 (a0 - a3)))) + 4)) / 8) < (wrap64 (-(wrap64 ((wrap64 (Int.tdiv a4 4)) + 1))))
        · rw [if_pos c14] at H
          have c14b0 : decide (((wrap64 ((wrap64 ((wrap64 (4 * (wrap64 (a2 - a1)))) + (wrap64 (a0 - a3)))) + 4)) / 8) < (wrap64 (-(wrap64 ((wrap64 (Int.tdiv a4 4)) + 1))))) = true := decide_eq_true c14
          clear c14
          (first | rw [c14b0] | (simp only [i64_w, i32_w]; rw [c14b0]) | skip)
          have H' := Aside0.mk H
          clear H
          go_wp2
          go_meet
          case rel => exact ⟨_, (wrap64 (-(wrap64 ((wrap64 (Int.tdiv a4 4)) + 1)))), (by first | rfl | (simp; done) | (simp [*]; done)), H', ⟨by have := HJ5.out; first | omega | exact Nat.le_refl _⟩, by repeat (first | exact Drawn0.refl _ | apply Drawn0.step)⟩
        rw [if_neg c14] at H
        have c14b0 : decide (((wrap64 ((wrap64 ((wrap64 (4 * (wrap64 (a2 - a1)))) + (wrap64 (a0 - a3)))) + 4)) / 8) < (wrap64 (-(wrap64 ((wrap64 (Int.tdiv a4 4)) + 1))))) = false := decide_eq_false c14
        clear c14
        (first | rw [c14b0] | (simp only [i64_w, i32_w]; rw [c14b0]) | skip)
        have H' := Aside0.mk H
        clear H
        go_wp2
        go_meet
        case rel => exact ⟨_, ((wrap64 ((wrap64 ((wrap64 (4 * (wrap64 (a2 - a1)))) + (wrap64 (a0 - a3)))) + 4)) / 8), (by first | rfl | (simp; done) | (simp [*]; done)), H', ⟨by have := HJ5.out; first | omega | exact Nat.le_refl _⟩, by repeat (first | exact Drawn0.refl _ | apply Drawn0.step)⟩
      case rest =>
        clear HC13
        try clear c1
        try clear p2
        try clear c5
        try clear p6
        try clear c8
        try clear c8b0
        try clear c10
        try clear c10b0
        try clear c12
        try clear c14
        try clear c14b0
        try clear p2
        try clear p6
        obtain ⟨kq, x13_12, rfl, HA, HJ12, ⟨mc12, rfl⟩⟩ := hcut
        cases kq with
        | zero => exact absurd HA.out (by simp [spec_l13Edge.j1])
        | succ kj12 =>
          have H := HA.out
          clear HA
          simp only [spec_l13Edge.j1] at H
          by_cases c15 : x13_12 > (wrap64 ((wrap64 (Int.tdiv a4 4)) + 1))
          rotate_left
          · rw [if_neg c15] at H
            have c15b0 : decide ((wrap64 ((wrap64 (Int.tdiv a4 4)) + 1)) < x13_12) = false := decide_eq_false c15
            clear c15
            replace H := Option.bind_eq_some_iff.mp H
            obtain ⟨t239, A180, H⟩ := H
            replace H : ((spec_l7Clip.f (wrap64 (a2 - x13_12))).bind fun t240 => (some (t239, t240))) = some (r1, r2) := H
            have A18 := Aside0.mk A180
            clear A180
            replace H := Option.bind_eq_some_iff.mp H
            obtain ⟨t240, A190, H⟩ := H
            replace H : (some (t239, t240)) = some (r1, r2) := H
            have A19 := Aside0.mk A190
            clear A190
            simp only [Option.some.injEq, Prod.mk.injEq] at H
            obtain ⟨rfl, rfl⟩ := H
            go_wp2_with (first | ((with_reducible refine gate_callee (f := 166) rfl ?_); refine goesL_ (some 71) rfl rfl Try.func166 (by kernel_rfl) rfl #[.int .i64 (wrap64 (a1 + x13_12))] rfl (by (try simp only [List.map_toArray, List.map_cons, List.map_nil]); first | done | rfl | (simp only [List.length_drop, List.length_take]; rfl)) ?_; (with_reducible refine (spec_l7Clip.calls (wrap64 (a1 + x13_12)) t239 _ A18.out).mono ?_); rintro e w' ⟨rfl, ⟨nd, rfl⟩⟩; refine ⟨_, rfl, ?_⟩) | ((with_reducible refine gate_callee (f := 166) rfl ?_); refine goesL_ (some 75) rfl rfl Try.func166 (by kernel_rfl) rfl #[.int .i64 (wrap64 (a2 - x13_12))] rfl (by (try simp only [List.map_toArray, List.map_cons, List.map_nil]); first | done | rfl | (simp only [List.length_drop, List.length_take]; rfl)) ?_; (with_reducible refine (spec_l7Clip.calls (wrap64 (a2 - x13_12)) t240 _ A19.out).mono ?_); rintro e w' ⟨rfl, ⟨nd, rfl⟩⟩; refine ⟨_, rfl, ?_⟩))
            go_ret2
            exact ⟨by first | rfl | (simp; done) | (simp [*]; done), by repeat (first | exact Drawn0.refl _ | apply Drawn0.step)⟩
          rw [if_pos c15] at H
          have c15b0 : decide ((wrap64 ((wrap64 (Int.tdiv a4 4)) + 1)) < x13_12) = true := decide_eq_true c15
          clear c15
          replace H := Option.bind_eq_some_iff.mp H
          obtain ⟨t237, A160, H⟩ := H
          replace H : ((spec_l7Clip.f (wrap64 (a2 - (wrap64 ((wrap64 (Int.tdiv a4 4)) + 1))))).bind fun t238 => (some (t237, t238))) = some (r1, r2) := H
          have A16 := Aside0.mk A160
          clear A160
          replace H := Option.bind_eq_some_iff.mp H
          obtain ⟨t238, A170, H⟩ := H
          replace H : (some (t237, t238)) = some (r1, r2) := H
          have A17 := Aside0.mk A170
          clear A170
          simp only [Option.some.injEq, Prod.mk.injEq] at H
          obtain ⟨rfl, rfl⟩ := H
          go_wp2_with (first | ((with_reducible refine gate_callee (f := 166) rfl ?_); refine goesL_ (some 71) rfl rfl Try.func166 (by kernel_rfl) rfl #[.int .i64 (wrap64 (a1 + (wrap64 ((wrap64 (Int.tdiv a4 4)) + 1))))] rfl (by (try simp only [List.map_toArray, List.map_cons, List.map_nil]); first | done | rfl | (simp only [List.length_drop, List.length_take]; rfl)) ?_; (with_reducible refine (spec_l7Clip.calls (wrap64 (a1 + (wrap64 ((wrap64 (Int.tdiv a4 4)) + 1)))) t237 _ A16.out).mono ?_); rintro e w' ⟨rfl, ⟨nd, rfl⟩⟩; refine ⟨_, rfl, ?_⟩) | ((with_reducible refine gate_callee (f := 166) rfl ?_); refine goesL_ (some 75) rfl rfl Try.func166 (by kernel_rfl) rfl #[.int .i64 (wrap64 (a2 - (wrap64 ((wrap64 (Int.tdiv a4 4)) + 1))))] rfl (by (try simp only [List.map_toArray, List.map_cons, List.map_nil]); first | done | rfl | (simp only [List.length_drop, List.length_take]; rfl)) ?_; (with_reducible refine (spec_l7Clip.calls (wrap64 (a2 - (wrap64 ((wrap64 (Int.tdiv a4 4)) + 1)))) t238 _ A17.out).mono ?_); rintro e w' ⟨rfl, ⟨nd, rfl⟩⟩; refine ⟨_, rfl, ?_⟩))
          go_ret2
          exact ⟨by first | rfl | (simp; done) | (simp [*]; done), by repeat (first | exact Drawn0.refl _ | apply Drawn0.step)⟩

end Go.Proofs.Ytggokppfhkebkaa.PFnSmooth

-- written by myprint.py (a program of this session's over the kit's print)
import Derived.Test.YtggokppfhkebkaaPFnExactOddsPackx0
import Derived.Test.YtggokppfhkebkaaPFnExactOddsPackx1
import Derived.Test.YtggokppfhkebkaaPFnExactOddsPackx2
namespace Go.Proofs.Ytggokppfhkebkaa.PFnExactOddsPack
open Go.RowKit Go.Proofs.YtggokppfhkebkaaW.PrintWords Go.Proofs.YtggokppfhkebkaaW.PrintLast Go.Proofs.YtggokppfhkebkaaW.PrintMore
attribute [local go_sem] max2_int min2_int max_two min_two max_three min_three max_four min_four   -- for this text's walks alone
set_option linter.unusedVariables false
set_option linter.unusedSimpArgs false

/-! ### spec_l12Out_bit: function 137 -/
mutual
def spec_l12Out_bit.j0 : Nat → List Int → Int → Int → Option (List Int × Int × Int)
  | 0, _, _, _ => none
  | k + 1, x1000, x1001, x1002 => spec_l12Out_bit.l0 k x1000 x1001 x1002
def spec_l12Out_bit.l0 : Nat → List Int → Int → Int → Option (List Int × Int × Int)
  | 0, _, _, _ => none
  | k + 1, x1000, x1001, x1002 => if x1002 < 16777216 then ((spec_l12Out_shift.f k x1000 x1001 (IntKind.u64.wrap (x1002 * 256))).bind fun bt123 => (spec_l12Out_bit.l0 k bt123.1 bt123.2.1 bt123.2.2)) else (some (x1000, x1001, x1002))
end
def spec_l12Out_bit.f (k : Nat) (s0_0 : List Int) (s0_1 : Int) (s0_2 : Int) (a1 : Int) (a2 : Int) : Option (List Int × Int × Int) := if a2 = 0 then (spec_l12Out_bit.j0 k s0_0 s0_1 (IntKind.u64.wrap ((s0_2 / 4096) * (IntKind.u64.wrap (a1))))) else (spec_l12Out_bit.j0 k s0_0 (IntKind.u64.wrap (s0_1 + (IntKind.u64.wrap ((s0_2 / 4096) * (IntKind.u64.wrap (a1)))))) (IntKind.u64.wrap (s0_2 - (IntKind.u64.wrap ((s0_2 / 4096) * (IntKind.u64.wrap (a1)))))))
theorem spec_l12Out_bit.mono_l : ∀ k, (∀ y0 y1 y2, LeO (spec_l12Out_bit.j0 k y0 y1 y2) (spec_l12Out_bit.j0 (k + 1) y0 y1 y2)) ∧ (∀ y0 y1 y2, LeO (spec_l12Out_bit.l0 k y0 y1 y2) (spec_l12Out_bit.l0 (k + 1) y0 y1 y2))
  | 0 => ⟨fun _ _ _ r h => by simp [spec_l12Out_bit.j0] at h, fun _ _ _ r h => by simp [spec_l12Out_bit.l0] at h⟩
  | k + 1 => by
    obtain ⟨ih0, ih1⟩ := spec_l12Out_bit.mono_l k
    refine ⟨?_, ?_⟩
    · intro y0 y1 y2
      unfold spec_l12Out_bit.j0
      repeat' first
      | (with_reducible exact ih0 _ _ _)
      | (with_reducible exact ih1 _ _ _)
      | (with_reducible exact spec_l12Out_shift.mono _ _ _ _)
      | (with_reducible exact LeO.refl _)
      | (with_reducible exact LeO.none _)
      | (with_reducible refine LeO.ite ?_ ?_)
      | (with_reducible refine LeO.bind ?_ (fun _ => ?_))
      | exact ih0 _ _ _
      | exact ih1 _ _ _
      | exact spec_l12Out_shift.mono _ _ _ _
      | exact LeO.none _
      | refine LeO.ite ?_ ?_
      | refine LeO.bind ?_ (fun _ => ?_)
    · intro y0 y1 y2
      unfold spec_l12Out_bit.l0
      repeat' first
      | (with_reducible exact ih0 _ _ _)
      | (with_reducible exact ih1 _ _ _)
      | (with_reducible exact spec_l12Out_shift.mono _ _ _ _)
      | (with_reducible exact LeO.refl _)
      | (with_reducible exact LeO.none _)
      | (with_reducible refine LeO.ite ?_ ?_)
      | (with_reducible refine LeO.bind ?_ (fun _ => ?_))
      | exact ih0 _ _ _
      | exact ih1 _ _ _
      | exact spec_l12Out_shift.mono _ _ _ _
      | exact LeO.none _
      | refine LeO.ite ?_ ?_
      | refine LeO.bind ?_ (fun _ => ?_)
theorem spec_l12Out_bit.mono : ∀ a0 a1 a2 a3 a4 k, LeO (spec_l12Out_bit.f k a0 a1 a2 a3 a4) (spec_l12Out_bit.f (k + 1) a0 a1 a2 a3 a4) := by
  intro a0 a1 a2 a3 a4 k
  obtain ⟨ih0, ih1⟩ := spec_l12Out_bit.mono_l k
  unfold spec_l12Out_bit.f
  repeat' first
      | (with_reducible exact ih0 _ _ _)
      | (with_reducible exact ih1 _ _ _)
      | (with_reducible exact spec_l12Out_shift.mono _ _ _ _)
      | (with_reducible exact LeO.refl _)
      | (with_reducible exact LeO.none _)
      | (with_reducible refine LeO.ite ?_ ?_)
      | (with_reducible refine LeO.bind ?_ (fun _ => ?_))
      | exact ih0 _ _ _
      | exact ih1 _ _ _
      | exact spec_l12Out_shift.mono _ _ _ _
      | exact LeO.none _
      | refine LeO.ite ?_ ?_
      | refine LeO.bind ?_ (fun _ => ?_)
set_option maxHeartbeats 8000000 in
set_option maxRecDepth 100000 in
theorem spec_l12Out_bit.calls (k : Nat) (g : Nat) (s0_0 : List Int) (s0_1 : Int) (s0_2 : Int) (a1 : Int) (a2 : Int) (r1 : List Int) (r2 : Int) (r3 : Int) (w : World) (wa : World) (hB : Below w.heap.size w wa) (hG : w.heap.size ≤ g) (u900_ : Value) (hbb : wa.heap[g]? = some (.cells #[u900_, .int .u64 s0_1, .int .u64 s0_2] 151 (0, 0))) (hob0 : Kd.R (Kd.int .u8) 5 wa w.heap.size (fun _ => True) u900_ s0_0) (h : spec_l12Out_bit.f k s0_0 s0_1 s0_2 a1 a2 = some (r1, r2, r3)) :
    Calls Try.prog 137 #[.pointer (some ⟨g, 0, none⟩), .int .i64 a1, .int .i64 a2] wa fun e w' => ∃ vb0_ : Value, e = .returned (.tuple #[]) ∧ w'.heap[g]? = some (.cells #[vb0_, .int .u64 r2, .int .u64 r3] 151 (0, 0)) ∧ Kd.R (Kd.int .u8) 5 w' w.heap.size (fun _ => True) vb0_ r1 ∧ Below w.heap.size w w' ∧ KT g 5 wa w' := by
  have HB := Aside0.mk hB
  have HKp := Aside0.mk (KT.refl g 5 wa)
  have GW0 := Aside0.mk hG
  have GE0 := Aside0.mk hG
  have BK0 := Aside0.mk hbb
  have HOb0 := Aside0.mk hob0
  clear hob0
  clear hB hG hbb
  have H : (if a2 = 0 then (spec_l12Out_bit.j0 k s0_0 s0_1 (IntKind.u64.wrap ((s0_2 / 4096) * (IntKind.u64.wrap (a1))))) else (spec_l12Out_bit.j0 k s0_0 (IntKind.u64.wrap (s0_1 + (IntKind.u64.wrap ((s0_2 / 4096) * (IntKind.u64.wrap (a1)))))) (IntKind.u64.wrap (s0_2 - (IntKind.u64.wrap ((s0_2 / 4096) * (IntKind.u64.wrap (a1)))))))) = some (r1, r2, r3) := h
  clear h
  have HC4 := Aside0.mk H
  clear H
  have hcz5_0 : wa.cell? ⟨g, 0, none⟩ = some (u900_) := (blk_cell BK0.out 0).trans rfl
  have hcz5_1 : wa.cell? ⟨g, 1, none⟩ = some (.int .u64 s0_1) := (blk_cell BK0.out 1).trans rfl
  have hcz5_2 : wa.cell? ⟨g, 2, none⟩ = some (.int .u64 s0_2) := (blk_cell BK0.out 2).trans rfl
  have hfz5_0 := blk_frozen BK0.out 0
  have hfz5_1 := blk_frozen BK0.out 1
  have hfz5_2 := blk_frozen BK0.out 2
  go_enter Try.func137, Try.ntmps137
  go_upto_if 16 with (fail)
  go_cut [] (fun wc => ∃ (kq : Nat) (x1001_3 : Int) (x1002_3 : Int), Aside0 (spec_l12Out_bit.j0 kq s0_0 x1001_3 x1002_3 = some (r1, r2, r3)) ∧ Aside0 (kq ≤ k) ∧ Aside0 (Kd.R (Kd.int .u8) 5 wc w.heap.size (fun _ => True) u900_ s0_0) ∧ Aside0 (wc.heap[g]? = some (.cells #[u900_, .int .u64 x1001_3, .int .u64 x1002_3] 151 (0, 0))) ∧ Aside0 (Below w.heap.size w wc) ∧ Aside0 (KT g 5 wa wc))
  case first =>
    have H := HC4.out
    clear HC4
    by_cases c6 : a2 = 0
    · rw [if_pos c6] at H
      have c6b0 : (a2 == 0) = true := beq_iff_eq.mpr c6
      have c6b1 : (a2 != 0) = false := bne_eq_false_iff_eq.mpr c6
      clear c6
      (first | rw [c6b0] | (simp only [i64_w, i32_w]; rw [c6b0]) | skip)
      have H' := Aside0.mk H
      clear H
      have hcz7_0 : wa.cell? ⟨g, 0, none⟩ = some (u900_) := (blk_cell BK0.out 0).trans rfl
      have hcz7_1 : wa.cell? ⟨g, 1, none⟩ = some (.int .u64 s0_1) := (blk_cell BK0.out 1).trans rfl
      have hcz7_2 : wa.cell? ⟨g, 2, none⟩ = some (.int .u64 s0_2) := (blk_cell BK0.out 2).trans rfl
      have hfz7_0 := blk_frozen BK0.out 0
      have hfz7_1 := blk_frozen BK0.out 1
      have hfz7_2 := blk_frozen BK0.out 2
      go_wp2
      go_meet
      case rel => exact ⟨_, (s0_1), (IntKind.u64.wrap ((s0_2 / 4096) * (IntKind.u64.wrap (a1)))), H', ⟨by first | omega | exact Nat.le_refl _⟩, ⟨by (with_reducible repeat (first | apply Kd.R_alloc | apply Kd.R_drewN | apply Kd.R_drew)); exact Kd.R_mono (Kd.R_far (p := ⟨g, 2, none⟩) (Kd.R_types HOb0.out BK0.out (by decide)) (fun _ hk => hk.2) (.int .u64 (IntKind.u64.wrap ((s0_2 / 4096) * (IntKind.u64.wrap (a1)))))) (fun _ hk => trivial)⟩, ⟨by (with_reducible repeat (first | refine blk_drewN ?_ _ | refine blk_drew ?_ | refine blk_alloc ?_ _)); refine blk_put (cs := #[u900_, .int .u64 s0_1, .int .u64 s0_2]) ?_ 2 _ rfl; (with_reducible repeat (first | refine blk_drewN ?_ _ | refine blk_drew ?_ | refine blk_alloc ?_ _)); exact BK0.out⟩, ⟨by repeat (first | (with_reducible first | exact HB.out | apply below_alloc | apply pw_below_drewN | apply below_drew1 | refine below_set ?_ GE0.out) | exact HB.out)⟩, ⟨by repeat (first | exact HKp.out | refine KT.set ?_ _ _ | refine KT.alloc ?_ _ | refine KT.drewN ?_ _ | refine KT.drew ?_)⟩⟩
    rw [if_neg c6] at H
    have c6b0 : (a2 == 0) = false := beq_eq_false_iff_ne.mpr c6
    have c6b1 : (a2 != 0) = true := bne_iff_ne.mpr c6
    (first | rw [c6b0] | (simp only [i64_w, i32_w]; rw [c6b0]) | skip)
    have H' := Aside0.mk H
    clear H
    have hcz8_0 : wa.cell? ⟨g, 0, none⟩ = some (u900_) := (blk_cell BK0.out 0).trans rfl
    have hcz8_1 : wa.cell? ⟨g, 1, none⟩ = some (.int .u64 s0_1) := (blk_cell BK0.out 1).trans rfl
    have hcz8_2 : wa.cell? ⟨g, 2, none⟩ = some (.int .u64 s0_2) := (blk_cell BK0.out 2).trans rfl
    have hfz8_0 := blk_frozen BK0.out 0
    have hfz8_1 := blk_frozen BK0.out 1
    have hfz8_2 := blk_frozen BK0.out 2
    go_wp2
    go_meet
    case rel => exact ⟨_, (IntKind.u64.wrap (s0_1 + (IntKind.u64.wrap ((s0_2 / 4096) * (IntKind.u64.wrap (a1)))))), (IntKind.u64.wrap (s0_2 - (IntKind.u64.wrap ((s0_2 / 4096) * (IntKind.u64.wrap (a1)))))), H', ⟨by first | omega | exact Nat.le_refl _⟩, ⟨by (with_reducible repeat (first | apply Kd.R_alloc | apply Kd.R_drewN | apply Kd.R_drew)); exact Kd.R_mono (Kd.R_far (p := ⟨g, 2, none⟩) (Kd.R_far (p := ⟨g, 1, none⟩) (Kd.R_types HOb0.out BK0.out (by decide)) (fun _ hk => hk.2) (.int .u64 (IntKind.u64.wrap (s0_1 + (IntKind.u64.wrap ((s0_2 / 4096) * (IntKind.u64.wrap (a1)))))))) (fun _ hk => hk.2) (.int .u64 (IntKind.u64.wrap (s0_2 - (IntKind.u64.wrap ((s0_2 / 4096) * (IntKind.u64.wrap (a1)))))))) (fun _ hk => trivial)⟩, ⟨by (with_reducible repeat (first | refine blk_drewN ?_ _ | refine blk_drew ?_ | refine blk_alloc ?_ _)); refine blk_put (cs := #[u900_, .int .u64 (IntKind.u64.wrap (s0_1 + (IntKind.u64.wrap ((s0_2 / 4096) * (IntKind.u64.wrap (a1)))))), .int .u64 s0_2]) ?_ 2 _ rfl; (with_reducible repeat (first | refine blk_drewN ?_ _ | refine blk_drew ?_ | refine blk_alloc ?_ _)); refine blk_put (cs := #[u900_, .int .u64 s0_1, .int .u64 s0_2]) ?_ 1 _ rfl; (with_reducible repeat (first | refine blk_drewN ?_ _ | refine blk_drew ?_ | refine blk_alloc ?_ _)); exact BK0.out⟩, ⟨by repeat (first | (with_reducible first | exact HB.out | apply below_alloc | apply pw_below_drewN | apply below_drew1 | refine below_set ?_ GE0.out) | exact HB.out)⟩, ⟨by repeat (first | exact HKp.out | refine KT.set ?_ _ _ | refine KT.alloc ?_ _ | refine KT.drewN ?_ _ | refine KT.drew ?_)⟩⟩
  case rest =>
    clear HC4
    try clear c1
    try clear p2
    try clear c6
    try clear c6b0
    try clear c6b1
    try clear hcz5_0
    try clear hcz5_1
    try clear hcz5_2
    try clear hcz7_0
    try clear hcz7_1
    try clear hcz7_2
    try clear hcz8_0
    try clear hcz8_1
    try clear hcz8_2
    try clear hfz5_0
    try clear hfz5_1
    try clear hfz5_2
    try clear hfz7_0
    try clear hfz7_1
    try clear hfz7_2
    try clear hfz8_0
    try clear hfz8_1
    try clear hfz8_2
    obtain ⟨kq, x1001_3, x1002_3, HA, HJ3, HO_1000, BK0, HB, HKp⟩ := hcut
    cases kq with
    | zero => exact absurd HA.out (by simp [spec_l12Out_bit.j0])
    | succ kj3 =>
      have H := HA.out
      clear HA
      simp only [spec_l12Out_bit.j0] at H
      have H' := Aside0.mk H
      clear H
      go_wp2
      go_loopg [] kj3 (fun kq w' => ∃ (x1000_2 : List Int) (x1001_2 : Int) (x1002_2 : Int) (u1000 : Value), Aside0 (spec_l12Out_bit.l0 kq x1000_2 x1001_2 x1002_2 = some (r1, r2, r3)) ∧ Aside0 (kq ≤ kj3) ∧ Aside0 (Kd.R (Kd.int .u8) 5 w' w.heap.size (fun _ => True) u1000 x1000_2) ∧ Aside0 (w'.heap[g]? = some (.cells #[u1000, .int .u64 x1001_2, .int .u64 x1002_2] 151 (0, 0))) ∧ Aside0 (Below w.heap.size w w') ∧ Aside0 (KT g 5 wa w'))
      case atStart => exact ⟨(s0_0), (x1001_3), (x1002_3), (u900_), H', ⟨Nat.le_refl _⟩, ⟨by (with_reducible repeat (first | apply Kd.R_alloc | apply Kd.R_drewN | apply Kd.R_drew)); exact HO_1000.out⟩, ⟨by (with_reducible repeat (first | refine blk_drewN ?_ _ | refine blk_drew ?_ | refine blk_alloc ?_ _)); exact BK0.out⟩, ⟨by repeat (first | (with_reducible first | exact HB.out | apply below_alloc | apply pw_below_drewN | apply below_drew1 | refine below_set ?_ GE0.out) | exact HB.out)⟩, ⟨by repeat (first | exact HKp.out | refine KT.set ?_ _ _ | refine KT.alloc ?_ _ | refine KT.drewN ?_ _ | refine KT.drew ?_)⟩⟩
      case round =>
        clear H'
        try clear c1
        try clear p2
        try clear c6
        try clear c6b0
        try clear c6b1
        try clear hcz5_0
        try clear hcz5_1
        try clear hcz5_2
        try clear hcz7_0
        try clear hcz7_1
        try clear hcz7_2
        try clear hcz8_0
        try clear hcz8_1
        try clear hcz8_2
        try clear hfz5_0
        try clear hfz5_1
        try clear hfz5_2
        try clear hfz7_0
        try clear hfz7_1
        try clear hfz7_2
        try clear hfz8_0
        try clear hfz8_1
        try clear hfz8_2
        try clear p2
        obtain ⟨x1000_2, x1001_2, x1002_2, u1000, HA, HK2, HO_1000, BK0, HB, HKp⟩ := hrel
        cases gk with
        | zero => exact absurd HA.out (by simp [spec_l12Out_bit.l0])
        | succ k2 =>
          have H := HA.out
          clear HA
          simp only [spec_l12Out_bit.l0] at H
          by_cases c9 : x1002_2 < 16777216
          rotate_left
          · rw [if_neg c9] at H
            have c9b0 : decide (x1002_2 < 16777216) = false := decide_eq_false c9
            clear c9
            simp only [Option.some.injEq, Prod.mk.injEq] at H
            obtain ⟨rfl, rfl, rfl⟩ := H
            have hcz14_0 : wr.cell? ⟨g, 0, none⟩ = some (u1000) := (blk_cell BK0.out 0).trans rfl
            have hcz14_1 : wr.cell? ⟨g, 1, none⟩ = some (.int .u64 x1001_2) := (blk_cell BK0.out 1).trans rfl
            have hcz14_2 : wr.cell? ⟨g, 2, none⟩ = some (.int .u64 x1002_2) := (blk_cell BK0.out 2).trans rfl
            have hfz14_0 := blk_frozen BK0.out 0
            have hfz14_1 := blk_frozen BK0.out 1
            have hfz14_2 := blk_frozen BK0.out 2
            go_wp2
            first | go_end0 | ((try simp only [Exit.inBlock, Exit.then]); refine bodyPost_ret (results_none rfl _ _ _) rfl ?_)
            exact ⟨_, by first | rfl | (simp; done), by (with_reducible repeat (first | refine blk_drewN ?_ _ | refine blk_drew ?_ | refine blk_alloc ?_ _)); exact BK0.out, Kd.R_mono (by (with_reducible repeat (first | apply Kd.R_alloc | apply Kd.R_drewN | apply Kd.R_drew)); exact HO_1000.out) (fun _ _ => trivial), by repeat (first | (with_reducible first | exact HB.out | apply below_alloc | apply pw_below_drewN | apply below_drew1 | refine below_set ?_ GE0.out) | exact HB.out), by repeat (first | exact HKp.out | refine KT.set ?_ _ _ | refine KT.alloc ?_ _ | refine KT.drewN ?_ _ | refine KT.drew ?_)⟩
          rw [if_pos c9] at H
          have c9b0 : decide (x1002_2 < 16777216) = true := decide_eq_true c9
          clear c9
          replace H := Option.bind_eq_some_iff.mp H
          obtain ⟨⟨t123, t126, t127⟩, A100, H⟩ := H
          replace H : (spec_l12Out_bit.l0 k2 t123 t126 t127) = some (r1, r2, r3) := H
          have A10 := Aside0.mk A100
          clear A100
          have H' := Aside0.mk H
          clear H
          have hcz11_0 : wr.cell? ⟨g, 0, none⟩ = some (u1000) := (blk_cell BK0.out 0).trans rfl
          have hcz11_1 : wr.cell? ⟨g, 1, none⟩ = some (.int .u64 x1001_2) := (blk_cell BK0.out 1).trans rfl
          have hcz11_2 : wr.cell? ⟨g, 2, none⟩ = some (.int .u64 x1002_2) := (blk_cell BK0.out 2).trans rfl
          have hfz11_0 := blk_frozen BK0.out 0
          have hfz11_1 := blk_frozen BK0.out 1
          have hfz11_2 := blk_frozen BK0.out 2
          obtain ⟨Ao13, co13, eo13⟩ := Kd.R_slice HO_1000.out
          subst eo13
          go_wp2_with (first | (go_at_call 139; (refine (spec_l12Out_shift.calls k2 g x1000_2 x1001_2 (IntKind.u64.wrap (x1002_2 * 256))  t123 t126 t127 w _ ?side1 ?side2 (.slice Ao13 x1000_2.length co13) ?side3 ?side4 A10.out).mono ?_); (case side1 => repeat (first | (with_reducible first | exact HB.out | apply below_alloc | apply pw_below_drewN | apply below_drew1 | refine below_set ?_ GE0.out) | exact HB.out)); (case side2 => exact GE0.out); (case side3 => exact (by (with_reducible repeat (first | refine blk_drewN ?_ _ | refine blk_drew ?_ | refine blk_alloc ?_ _)); refine blk_put (cs := #[.slice Ao13 x1000_2.length co13, .int .u64 x1001_2, .int .u64 x1002_2]) ?_ 2 _ rfl; (with_reducible repeat (first | refine blk_drewN ?_ _ | refine blk_drew ?_ | refine blk_alloc ?_ _)); exact BK0.out)); (case side4 => exact Kd.R_mono (by (with_reducible repeat (first | apply Kd.R_alloc | apply Kd.R_drewN | apply Kd.R_drew)); exact (Kd.R_mono (Kd.R_far (p := ⟨g, 2, none⟩) (Kd.R_types HO_1000.out BK0.out (by decide)) (fun _ hk => hk.2) (.int .u64 (IntKind.u64.wrap (x1002_2 * 256)))) (fun _ h_ => h_.1))) (fun _ _ => trivial)); rintro e w12 ⟨v124, rfl, hbx, ho0, hb, hkt⟩; have hq_ := fun h_ => KT.trans (wa := wa) (g := g) h_ hkt; replace HKp := Aside0.mk (hq_ (by repeat (first | exact HKp.out | refine KT.set ?_ _ _ | refine KT.alloc ?_ _ | refine KT.drewN ?_ _ | refine KT.drew ?_))); clear hq_ hkt; have n0_ := Aside0.mk (hbx); have n1_ := Aside0.mk (ho0); have n2_ := Aside0.mk (hb); clear BK0; clear HB; clear HO_1000; have BK0 := n0_; have HO125 := n1_; have HB := n2_; clear n0_ n1_ n2_; (try clear hb); (try clear hbx); (try clear ho0)))
          go_roundg k2
          case measure => have := HJ3.out; have := HK2.out; omega
          case rel => exact ⟨(t123), (t126), (t127), (v124), H', ⟨by have := HJ3.out; have := HK2.out; omega⟩, ⟨by (with_reducible repeat (first | apply Kd.R_alloc | apply Kd.R_drewN | apply Kd.R_drew)); exact HO125.out⟩, ⟨by (with_reducible repeat (first | refine blk_drewN ?_ _ | refine blk_drew ?_ | refine blk_alloc ?_ _)); exact BK0.out⟩, ⟨by repeat (first | (with_reducible first | exact HB.out | apply below_alloc | apply pw_below_drewN | apply below_drew1 | refine below_set ?_ GE0.out) | exact HB.out)⟩, ⟨by repeat (first | exact HKp.out | refine KT.set ?_ _ _ | refine KT.alloc ?_ _ | refine KT.drewN ?_ _ | refine KT.drew ?_)⟩⟩

/-! ### spec_l12Learn: function 138 -/
def spec_l12Learn.f (a0 : Int) (a1 : Int) : Option (Int) := if a1 = 0 then (some (wrap64 (a0 + ((wrap64 (4096 - a0)) / 32)))) else (some (wrap64 (a0 - (a0 / 32))))
set_option maxHeartbeats 8000000 in
set_option maxRecDepth 100000 in
theorem spec_l12Learn.calls (a0 : Int) (a1 : Int) (r : Int) (w : World) (h : spec_l12Learn.f a0 a1 = some r) :
    Calls Try.prog 138 #[.int .i64 a0, .int .i64 a1] w fun e w' => e = .returned (.int .i64 r) ∧ Drawn0 w w' := by
  have H : (if a1 = 0 then (some (wrap64 (a0 + ((wrap64 (4096 - a0)) / 32)))) else (some (wrap64 (a0 - (a0 / 32))))) = some r := h
  clear h
  by_cases c3 : a1 = 0
  · rw [if_pos c3] at H
    have c3b0 : (a1 == 0) = true := beq_iff_eq.mpr c3
    have c3b1 : (a1 != 0) = false := bne_eq_false_iff_eq.mpr c3
    clear c3
    obtain rfl := Option.some.inj H
    go_enter Try.func138, Try.ntmps138
    go_wp2
    go_ret
    exact ⟨by first | rfl | (simp; done) | (simp [*]; done), by repeat (first | exact Drawn0.refl _ | apply Drawn0.step)⟩
  · rw [if_neg c3] at H
    have c3b0 : (a1 == 0) = false := beq_eq_false_iff_ne.mpr c3
    have c3b1 : (a1 != 0) = true := bne_iff_ne.mpr c3
    obtain rfl := Option.some.inj H
    go_enter Try.func138, Try.ntmps138
    go_wp2
    go_ret
    exact ⟨by first | rfl | (simp; done) | (simp [*]; done), by repeat (first | exact Drawn0.refl _ | apply Drawn0.step)⟩

/-! ### spec_l12Pack: function 82 -/
mutual
def spec_l12Pack.l0 : Nat → List (S108) → Int → List Int → List Int → Int → Int → Option (List Int)
  | 0, _, _, _, _, _, _ => none
  | k + 1, l, i, od, o, lw, rg => if i < (l.length : Int) then (if 0 ≤ i then (if 0 ≤ (rd_T108 l i).f0 then (if (rd_T108 l i).f0 < (od.length : Int) then ((spec_l12Out_bit.f k o lw rg (rd od (rd_T108 l i).f0) (rd_T108 l i).f1).bind fun t => ((spec_l12Learn.f (rd od (rd_T108 l i).f0) (rd_T108 l i).f1).bind fun u => (spec_l12Pack.l0 k l (wrap64 (i + 1)) (od.set ((rd_T108 l i).f0 : Int).toNat u) t.1 t.2.1 t.2.2))) else (none)) else (none)) else (none)) else (spec_l12Pack.l1 k 0 o lw rg)
def spec_l12Pack.l1 : Nat → Int → List Int → Int → Int → Option (List Int)
  | 0, _, _, _, _ => none
  | k + 1, i, o, lw, rg => if i < 4 then ((spec_l12Out_shift.f k o lw rg).bind fun t => (spec_l12Pack.l1 k (wrap64 (i + 1)) t.1 t.2.1 t.2.2)) else (some o)
end
def spec_l12Pack.f (k : Nat) (a0 : Int) (l1 : List (S108)) : Option (List Int) := (spec_l12Odds.f k a0).bind fun od => (spec_l12Pack.l0 k l1 0 od [] 0 4294967295)
theorem spec_l12Pack.mono_l : ∀ k, (∀ y0 y1 y2 y3 y4 y5, LeO (spec_l12Pack.l0 k y0 y1 y2 y3 y4 y5) (spec_l12Pack.l0 (k + 1) y0 y1 y2 y3 y4 y5)) ∧ (∀ y0 y1 y2 y3, LeO (spec_l12Pack.l1 k y0 y1 y2 y3) (spec_l12Pack.l1 (k + 1) y0 y1 y2 y3))
  | 0 => ⟨fun _ _ _ _ _ _ r h => by simp [spec_l12Pack.l0] at h, fun _ _ _ _ r h => by simp [spec_l12Pack.l1] at h⟩
  | k + 1 => by
    have ih := spec_l12Pack.mono_l k
    obtain ⟨ih0, ih1⟩ := ih
    refine ⟨?_, ?_⟩
    · intro y0 y1 y2 y3 y4 y5
      unfold spec_l12Pack.l0
      repeat' first
      | (with_reducible exact ih0 _ _ _ _ _ _)
      | (with_reducible exact ih1 _ _ _ _)
      | (with_reducible exact spec_l12Out_bit.mono _ _ _ _ _ _)
      | (with_reducible exact spec_l12Out_shift.mono _ _ _ _)
      | (with_reducible exact spec_l12Odds.mono _ _)
      | (with_reducible exact LeO.refl _)
      | (with_reducible exact LeO.none _)
      | (with_reducible refine LeO.ite ?_ ?_)
      | (with_reducible refine LeO.bind ?_ (fun _ => ?_))
      | exact ih0 _ _ _ _ _ _
      | exact ih1 _ _ _ _
      | exact spec_l12Out_bit.mono _ _ _ _ _ _
      | exact spec_l12Out_shift.mono _ _ _ _
      | exact spec_l12Odds.mono _ _
      | exact LeO.none _
      | refine LeO.ite ?_ ?_
      | refine LeO.bind ?_ (fun _ => ?_)
    · intro y0 y1 y2 y3
      unfold spec_l12Pack.l1
      repeat' first
      | (with_reducible exact ih0 _ _ _ _ _ _)
      | (with_reducible exact ih1 _ _ _ _)
      | (with_reducible exact spec_l12Out_bit.mono _ _ _ _ _ _)
      | (with_reducible exact spec_l12Out_shift.mono _ _ _ _)
      | (with_reducible exact spec_l12Odds.mono _ _)
      | (with_reducible exact LeO.refl _)
      | (with_reducible exact LeO.none _)
      | (with_reducible refine LeO.ite ?_ ?_)
      | (with_reducible refine LeO.bind ?_ (fun _ => ?_))
      | exact ih0 _ _ _ _ _ _
      | exact ih1 _ _ _ _
      | exact spec_l12Out_bit.mono _ _ _ _ _ _
      | exact spec_l12Out_shift.mono _ _ _ _
      | exact spec_l12Odds.mono _ _
      | exact LeO.none _
      | refine LeO.ite ?_ ?_
      | refine LeO.bind ?_ (fun _ => ?_)
theorem spec_l12Pack.mono : ∀ a0 a1 k, LeO (spec_l12Pack.f k a0 a1) (spec_l12Pack.f (k + 1) a0 a1) := by
  intro a0 a1 k
  have ih := spec_l12Pack.mono_l k
  obtain ⟨ih0, ih1⟩ := ih
  unfold spec_l12Pack.f
  repeat' first
      | (with_reducible exact ih0 _ _ _ _ _ _)
      | (with_reducible exact ih1 _ _ _ _)
      | (with_reducible exact spec_l12Out_bit.mono _ _ _ _ _ _)
      | (with_reducible exact spec_l12Out_shift.mono _ _ _ _)
      | (with_reducible exact spec_l12Odds.mono _ _)
      | (with_reducible exact LeO.refl _)
      | (with_reducible exact LeO.none _)
      | (with_reducible refine LeO.ite ?_ ?_)
      | (with_reducible refine LeO.bind ?_ (fun _ => ?_))
      | exact ih0 _ _ _ _ _ _
      | exact ih1 _ _ _ _
      | exact spec_l12Out_bit.mono _ _ _ _ _ _
      | exact spec_l12Out_shift.mono _ _ _ _
      | exact spec_l12Odds.mono _ _
      | exact LeO.none _
      | refine LeO.ite ?_ ?_
      | refine LeO.bind ?_ (fun _ => ?_)
set_option maxHeartbeats 8000000 in
set_option maxRecDepth 100000 in
theorem spec_l12Pack.learn (a0 : Int) (a1 : Int) (r : Int) (w : World) (h : spec_l12Learn.f a0 a1 = some r) : Calls Try.prog 138 #[.int .i64 a0, .int .i64 a1] w fun e w' => e = .returned (.int .i64 r) ∧ w' = w := by
  unfold spec_l12Learn.f at h
  by_cases c : a1 = 0
  · rw [if_pos c] at h
    have cb := beq_iff_eq.mpr c
    clear c
    obtain rfl := Option.some.inj h
    clear h
    go_enter Try.func138, Try.ntmps138
    go_wp2
    go_ret
    exact ⟨rfl, rfl⟩
  · rw [if_neg c] at h
    have cb := beq_eq_false_iff_ne.mpr c
    clear c
    obtain rfl := Option.some.inj h
    clear h
    go_enter Try.func138, Try.ntmps138
    go_wp2
    go_ret
    exact ⟨rfl, rfl⟩
set_option maxHeartbeats 8000000 in
set_option maxRecDepth 100000 in
theorem spec_l12Pack.calls (k : Nat) (a0 : Int) (A1 : Option Addr) (c1 : Nat) (l1 : List (S108)) (r : List Int) (w : World) (hr1 : Kd.C k108 w A1 l1.length l1) (hc1 : l1.length ≤ c1) (h : spec_l12Pack.f k a0 l1 = some r) :
    Calls Try.prog 82 #[.int .i64 a0, .slice A1 l1.length c1] w fun e w' => ∃ v0_ : Value, e = .returned (v0_) ∧ Kd.R (Kd.int .u8) 5 w' w.heap.size (fun _ => True) v0_ r ∧ Below w.heap.size w w' := by
  have hu_ := Try.underlying151
  have huc_ := Try.underlying108
  have HR1 := Aside0.mk hr1
  have HC1 := Aside0.mk hc1
  clear hr1 hc1
  unfold spec_l12Pack.f at h
  obtain ⟨od0, A20, H⟩ := Option.bind_eq_some_iff.mp h
  clear h
  have A2 := Aside0.mk A20
  have HL := Aside0.mk H
  clear A20 H
  go_enter Try.func82, Try.ntmps82
  go_wp2_with (first | ((with_reducible refine gate_dst (N := 11) rfl ?_); refine box_event ?hg (N := 11) ?hd (cs := #[.slice none 0 0, .int .u64 0, .int .u64 4294967295]) (t := 151) ?hr ?_; (case hd => rfl); (case hg => rfl); (case hr => first | (go_simp; done) | (go_simp; rfl)); intro g hg wb hbox hb; have HB := Aside0.mk hb; have BK := Aside0.mk hbox; have GE := Aside0.mk (show w.heap.size ≤ g from Nat.le_of_eq hg.symm); clear hg hb hbox) | ((with_reducible refine gate_callee (f := 136) rfl ?_); refine goesL_ (some 13) rfl rfl Try.func136 (by kernel_rfl) rfl #[.int .i64 a0] rfl (by (try simp only [List.map_toArray, List.map_cons, List.map_nil]); first | done | rfl) ?_; (with_reducible refine (spec_l12Odds.calls k a0 od0 _ A2.out).mono ?_); rintro e wc ⟨v, rfl, ho, hb⟩; refine ⟨_, rfl, ?_⟩; have HO := Aside0.mk (Kd.R_lower ho (Nat.le_trans (below_size HB.out) (Nat.le_refl _))); have n0_ := Aside0.mk (below_step HB.out hb); have n1_ := Aside0.mk (blk_below BK.out hb); clear HB BK ho hb; have HB := n0_; have BK := n1_; clear n0_ n1_; obtain ⟨Ao, co, eo⟩ := Kd.R_slice HO.out; subst eo))
  go_loopg [16] k (fun kq v16 w' => ∃ (i : Int) (od o : List Int) (lw rg : Int) (u : Value), v16 = .int .i64 i ∧ Aside0 (spec_l12Pack.l0 kq l1 i od o lw rg = some r) ∧ Aside0 (kq ≤ k) ∧ Aside0 (Kd.R (Kd.int .i64) 3 w' w.heap.size (fun _ => True) (.slice Ao od0.length co) od) ∧ Aside0 (Kd.R (Kd.int .u8) 5 w' w.heap.size (fun _ => True) u o) ∧ Aside0 (w'.heap[g]? = some (.cells #[u, .int .u64 lw, .int .u64 rg] 151 (0, 0))) ∧ Aside0 (Below w.heap.size w w'))
  case atStart => exact ⟨0, od0, [], 0, 4294967295, .slice none 0 0, rfl, HL, ⟨Nat.le_refl _⟩, HO, ⟨Kd.R_nil _ _ _ _ _⟩, BK, HB⟩
  case round =>
    clear HL BK HB HO
    obtain ⟨i, od, o, lw, rg, u, rfl, HA, HK1, HO, HR, BK, HB⟩ := hrel
    cases gk with
    | zero => exact absurd HA.out (by simp [spec_l12Pack.l0])
    | succ k1 =>
      have H := HA.out
      clear HA
      simp only [spec_l12Pack.l0] at H
      by_cases c1 : i < (l1.length : Int)
      rotate_left
      · rw [if_neg c1] at H
        have c1b := decide_eq_false c1
        clear c1
        have HL := Aside0.mk H
        clear H
        go_wp2
        go_loopg [9] k1 (fun kq v9 w' => ∃ (i : Int) (o : List Int) (lw rg : Int) (u : Value), v9 = .int .i64 i ∧ Aside0 (spec_l12Pack.l1 kq i o lw rg = some r) ∧ Aside0 (kq ≤ k1) ∧ Aside0 (Kd.R (Kd.int .u8) 5 w' w.heap.size (fun _ => True) u o) ∧ Aside0 (w'.heap[g]? = some (.cells #[u, .int .u64 lw, .int .u64 rg] 151 (0, 0))) ∧ Aside0 (Below w.heap.size w w'))
        case atStart => exact ⟨0, o, lw, rg, u, rfl, HL, ⟨Nat.le_refl _⟩, HR, BK, HB⟩
        case round =>
          clear HL BK HB HO HR
          obtain ⟨i9, o, lw, rg, u, rfl, HA, HK2, HR, BK, HB⟩ := hrel
          cases gk with
          | zero => exact absurd HA.out (by simp [spec_l12Pack.l1])
          | succ k2 =>
            have H := HA.out
            clear HA
            simp only [spec_l12Pack.l1] at H
            by_cases c2 : i9 < 4
            rotate_left
            · rw [if_neg c2] at H
              have c2b := decide_eq_false c2
              clear c2
              obtain rfl := Option.some.inj H
              have hcz_g_0 : wr.cell? ⟨g, 0, none⟩ = some (u) := (blk_cell BK.out 0).trans rfl
              have hcz_g_1 : wr.cell? ⟨g, 1, none⟩ = some (.int .u64 lw) := (blk_cell BK.out 1).trans rfl
              have hcz_g_2 : wr.cell? ⟨g, 2, none⟩ = some (.int .u64 rg) := (blk_cell BK.out 2).trans rfl
              have hfz_g_0 := blk_frozen BK.out 0
              have hfz_g_1 := blk_frozen BK.out 1
              have hfz_g_2 := blk_frozen BK.out 2
              go_wp2
              go_ret
              exact ⟨_, rfl, HR.out, HB.out⟩
            rw [if_pos c2] at H
            have c2b := decide_eq_true c2
            clear c2
            replace H := Option.bind_eq_some_iff.mp H
            obtain ⟨⟨o', lw', rg'⟩, A50, H⟩ := H
            replace H : spec_l12Pack.l1 k2 (wrap64 (i9 + 1)) o' lw' rg' = some r := H
            have A5 := Aside0.mk A50
            have H' := Aside0.mk H
            clear A50 H
            go_wp2_with (first | ((with_reducible refine gate_callee (f := 139) rfl ?_); refine goesL_ (some 47) rfl rfl Try.func139 (by kernel_rfl) rfl #[.pointer (some ⟨g, 0, none⟩)] rfl (by (try simp only [List.map_toArray, List.map_cons, List.map_nil]); first | done | rfl) ?_; (with_reducible refine (spec_l12Out_shift.calls k2 g o lw rg o' lw' rg' w _ HB.out GE.out u BK.out HR.out A5.out).mono ?_); rintro e w5 ⟨v', rfl, hbx, ho, hb, -⟩; refine ⟨_, rfl, ?_⟩; clear HB BK HR; have HB := Aside0.mk hb; have BK := Aside0.mk hbx; have HR := Aside0.mk ho; clear hb hbx ho))
            go_roundg k2
            case measure => have := HK2.out; omega
            case rel => exact ⟨_, o', lw', rg', v', (by first | rfl | (simp; done) | (simp [*]; done)), H', ⟨by have := HK2.out; omega⟩, HR, BK, HB⟩
      rw [if_pos c1] at H
      by_cases c2 : 0 ≤ i
      rotate_left
      · rw [if_neg c2] at H
        exact absurd H (by simp)
      rw [if_pos c2] at H
      obtain ⟨e, he⟩ : ∃ e_ : S108, rd_T108 l1 i = e_ := ⟨_, rfl⟩
      obtain ⟨ad1, e1, hx0, hx1⟩ := at_T108 (Kd.C_below HR1.out HB.out) i c2 c1
      cases e1
      rw [he] at H hx0 hx1
      clear he
      obtain ⟨f0, f1⟩ := e
      dsimp only at H hx0 hx1
      have c1b := decide_eq_true c1
      have c2b := decide_eq_true c2
      replace c1 := eq_true c1
      replace c2 := eq_true c2
      by_cases c3 : 0 ≤ f0
      rotate_left
      · rw [if_neg c3] at H
        exact absurd H (by simp)
      rw [if_pos c3] at H
      by_cases c4 : f0 < (od.length : Int)
      rotate_left
      · rw [if_neg c4] at H
        exact absurd H (by simp)
      rw [if_pos c4] at H
      replace H := Option.bind_eq_some_iff.mp H
      obtain ⟨⟨o', lw', rg'⟩, A50, H⟩ := H
      replace H := Option.bind_eq_some_iff.mp H
      obtain ⟨q, A60, H⟩ := H
      replace H : spec_l12Pack.l0 k1 l1 (wrap64 (i + 1)) (od.set (f0 : Int).toNat q) o' lw' rg' = some r := H
      have A5 := Aside0.mk A50
      have A6 := Aside0.mk A60
      have H' := Aside0.mk H
      clear A50 A60 H
      have hlen : od0.length = od.length := (Kd.R_reads' HO.out).1
      have c4' : f0 < (od0.length : Int) := by omega
      obtain ⟨go, cap, eo, _, _, _⟩ := Kd.R_form HO.out (by omega)
      injection eo with ea el ec
      clear el
      subst ea
      subst ec
      have HLEN := Aside0.mk hlen
      clear hlen
      go_upto_region 6 with (first | ((with_reducible refine gate_dst (N := 8) rfl ?_); refine box_event ?hg (N := 8) ?hd (cs := #[.int .i64 0, .int .i64 0]) (t := 108) ?hr ?_; (case hd => rfl); (case hg => rfl); (case hr => first | (go_simp; done) | (go_simp; rfl)); intro g8 hg w8 hbox hb; have HV := Aside0.mk hb; have BK8 := Aside0.mk hbox; have GL := Aside0.mk (show wr.heap.size ≤ g8 from Nat.le_of_eq hg.symm); clear hg hb hbox; have hcy0 : w8.cell? ⟨g8, 0, none⟩ = some (.int .i64 0) := (blk_cell BK8.out 0).trans rfl; have hcy1 : w8.cell? ⟨g8, 1, none⟩ = some (.int .i64 0) := (blk_cell BK8.out 1).trans rfl; have hfy0 := blk_frozen BK8.out 0; have hfy1 := blk_frozen BK8.out 1; replace hx0 := pw_cell_below HV.out hx0; replace hx1 := pw_cell_below HV.out hx1))
      have hb_ : Below wr.heap.size wr (World.setCell (World.setCell w8 ⟨g8, 0, none⟩ (.int .i64 f0)) ⟨g8, 1, none⟩ (.int .i64 f1)) := by repeat (first | exact HV.out | refine below_set ?_ GL.out)
      have hbox_ : (World.setCell (World.setCell w8 ⟨g8, 0, none⟩ (.int .i64 f0)) ⟨g8, 1, none⟩ (.int .i64 f1)).heap[g8]? = some (.cells #[.int .i64 f0, .int .i64 f1] 108 (0, 0)) := blk_set (blk_set BK8.out 0 _) 1 _
      have hne := Aside0.mk (show g8 ≠ g from fun e_ => by have h1 := blk_lt BK.out; have h2 := GL.out; rw [e_] at h2; omega)
      clear HV BK8 hx0 hx1
      generalize (World.setCell (World.setCell w8 ⟨g8, 0, none⟩ (.int .i64 f0)) ⟨g8, 1, none⟩ (.int .i64 f1)) = w9 at hb_ hbox_ ⊢
      clear hcy0 hcy1 hfy0 hfy1
      have n_HO := Aside0.mk (Kd.R_below HO.out hb_)
      have n_HR := Aside0.mk (Kd.R_below HR.out hb_)
      have n_BK := Aside0.mk (blk_below BK.out hb_)
      have n_HB := Aside0.mk (below_step HB.out hb_)
      clear HO HR BK HB
      have HO := n_HO
      have HR := n_HR
      have BK := n_BK
      have HB := n_HB
      clear n_HO n_HR n_BK n_HB
      have BK8 := Aside0.mk hbox_
      clear hb_ hbox_ c1 c2
      (try clear c1b c2b)
      refine still_tail_ 8 (by kernel_rfl) (by kernel_rfl) (fun w4 hw4 => ?_)
      have hd_ := below_drew (Below.refl w9.heap.size w9)
      rw [← hw4] at hd_
      clear hw4
      have n_HO := Aside0.mk (Kd.R_below HO.out hd_)
      have n_HR := Aside0.mk (Kd.R_below HR.out hd_)
      have n_BK := Aside0.mk (blk_below BK.out hd_)
      have n_HB := Aside0.mk (below_step HB.out hd_)
      have n_BK8 := Aside0.mk (blk_below BK8.out hd_)
      clear HO HR BK HB BK8
      have HO := n_HO
      have HR := n_HR
      have BK := n_BK
      have HB := n_HB
      have BK8 := n_BK8
      clear n_HO n_HR n_BK n_HB n_BK8
      clear hd_
      have hz0 : w4.cell? ⟨g8, 0, none⟩ = some (.int .i64 f0) := (blk_cell BK8.out 0).trans rfl
      have hz1 : w4.cell? ⟨g8, 1, none⟩ = some (.int .i64 f1) := (blk_cell BK8.out 1).trans rfl
      obtain ⟨hq, _⟩ := Kd.R_celln 0 HO.out f0 c3 c4'
      rw [show rdOf 0 od f0 = rd od f0 from rfl] at hq
      have S0 := eq_true c3
      have S1 := eq_true c4'
      have S0b := decide_eq_true c3
      have S1b := decide_eq_true c4'
      simp only [List.take_succ_cons, List.take_zero, List.drop_succ_cons, List.drop_zero]
      repeat still_step
      refine wpStill_nil ?_
      clear hz0 hz1 hq
      go_upto_region 7 with (first | ((with_reducible refine gate_callee (f := 137) rfl ?_); refine goesL_ (some 28) rfl rfl Try.func137 (by kernel_rfl) rfl #[.pointer (some ⟨g, 0, none⟩), .int .i64 (rd od f0), .int .i64 f1] rfl (by (try simp only [List.map_toArray, List.map_cons, List.map_nil]); first | done | rfl) ?_; (with_reducible refine (spec_l12Out_bit.calls k1 g o lw rg (rd od f0) f1 o' lw' rg' w _ HB.out GE.out u BK.out HR.out A5.out).mono ?_); rintro e w5 ⟨v', rfl, hbx, ho, hb, hk⟩; refine ⟨_, rfl, ?_⟩; have n0_ := Aside0.mk (KT.R hk HO.out BK.out (by decide) (by decide)); have n1_ := Aside0.mk (KT.cells hk BK8.out hne.out (by decide)); clear HB BK HR HO BK8 hk; have HO := n0_; have BK8 := n1_; have HB := Aside0.mk hb; have BK := Aside0.mk hbx; have HR := Aside0.mk ho; clear n0_ n1_ hb hbx ho))
      refine still_tail_ 12 (by kernel_rfl) (by kernel_rfl) (fun w6 hw6 => ?_)
      have hd_ := below_drew (Below.refl w5.heap.size w5)
      rw [← hw6] at hd_
      clear hw6
      have n_HO := Aside0.mk (Kd.R_below HO.out hd_)
      have n_HR := Aside0.mk (Kd.R_below HR.out hd_)
      have n_BK := Aside0.mk (blk_below BK.out hd_)
      have n_HB := Aside0.mk (below_step HB.out hd_)
      have n_BK8 := Aside0.mk (blk_below BK8.out hd_)
      clear HO HR BK HB BK8
      have HO := n_HO
      have HR := n_HR
      have BK := n_BK
      have HB := n_HB
      have BK8 := n_BK8
      clear n_HO n_HR n_BK n_HB n_BK8
      clear hd_
      have hz0 : w6.cell? ⟨g8, 0, none⟩ = some (.int .i64 f0) := (blk_cell BK8.out 0).trans rfl
      have hz1 : w6.cell? ⟨g8, 1, none⟩ = some (.int .i64 f1) := (blk_cell BK8.out 1).trans rfl
      obtain ⟨hq, hf⟩ := Kd.R_celln 0 HO.out f0 c3 c4'
      rw [show rdOf 0 od f0 = rd od f0 from rfl] at hq
      simp only [List.take_succ_cons, List.take_zero, List.drop_succ_cons, List.drop_zero]
      repeat (first | still_step | still_call (spec_l12Pack.learn (rd od f0) f1 q _ A6.out))
      refine wpStill_nil ?_
      have HP := Kd.R_putg HO.out f0 q
      go_wp2_with (first | ((with_reducible refine gate_store (t := 3) (p := 40) (v := .tmp 39) rfl ?_); refine store_event (t := 3) (p := 40) (v := .tmp 39) (w1 := w6.setCell ⟨go, (f0 : Int).toNat, none⟩ (.int .i64 q)) rfl rfl rfl ?hr ?_; (case hr => first | (go_simp; done) | (go_simp; rfl)); intro w7 hw; have hg : w6.grownBy w7 (some go) := (by rw [hw]; exact HP.2); have hp_ := HP.1; rw [← hw] at hp_; have n0_ := Aside0.mk hp_; have n1_ := Aside0.mk (Kd.R_over' HR.out (v := .slice (some ⟨go, 0, none⟩) od0.length co) (Kd.R_typed HO.out) (by decide) hg); have n2_ := Aside0.mk (blk_grown BK.out hg (Kd.R_ne HO.out BK.out (by decide))); have n3_ := Aside0.mk (show Below w.heap.size w w7 from by rw [hw]; exact below_set HB.out (Kd.R_base HO.out go rfl)); clear HO HR BK HB HP hp_ hg hw hz0 hz1 hq hf; have HO := n0_; have HR := n1_; have BK := n2_; have HB := n3_; clear n0_ n1_ n2_ n3_))
      go_roundg k1
      case measure => have := HK1.out; omega
      case rel => exact ⟨_, _, o', lw', rg', v', (by first | rfl | (simp; done) | (simp [*]; done)), H', ⟨by have := HK1.out; omega⟩, HO, HR, BK, HB⟩

/-! ### spec_OddsPack: function 28 -/
def spec_OddsPack.f (k : Nat) (a0 : Int) (l1 : List (S108)) : Option (List Int) := (spec_l12Ok.f k a0 l1).bind fun t128 => (if t128 = true then ((spec_l12Pack.f k a0 l1).bind fun t129 => (some t129)) else (some ([] : List Int)))
theorem spec_OddsPack.mono : ∀ a0 a1 k, LeO (spec_OddsPack.f k a0 a1) (spec_OddsPack.f (k + 1) a0 a1) := by
  intro a0 a1 k
  unfold spec_OddsPack.f
  repeat' first
      | (with_reducible exact spec_l12Ok.mono _ _ _)
      | (with_reducible exact spec_l12Pack.mono _ _ _)
      | (with_reducible exact LeO.refl _)
      | (with_reducible exact LeO.none _)
      | (with_reducible refine LeO.ite ?_ ?_)
      | (with_reducible refine LeO.bind ?_ (fun _ => ?_))
      | exact spec_l12Ok.mono _ _ _
      | exact spec_l12Pack.mono _ _ _
      | exact LeO.none _
      | refine LeO.ite ?_ ?_
      | refine LeO.bind ?_ (fun _ => ?_)
set_option maxHeartbeats 8000000 in
set_option maxRecDepth 100000 in
theorem spec_OddsPack.calls (k : Nat) (a0 : Int) (A1 : Option Addr) (c1 : Nat) (l1 : List (S108)) (r : List Int) (w : World) (hr1 : Kd.C k108 w A1 l1.length l1) (hc1 : l1.length ≤ c1) (h : spec_OddsPack.f k a0 l1 = some r) :
    Calls Try.prog 28 #[.int .i64 a0, .slice A1 l1.length c1] w fun e w' => ∃ v0_ : Value, e = .returned (v0_) ∧ Kd.R (Kd.int .u8) 5 w' w.heap.size (fun _ => True) v0_ r ∧ Below w.heap.size w w' := by
  have HR1 := Aside0.mk hr1
  have HC1 := Aside0.mk hc1
  clear hr1 hc1
  have HB := Aside0.mk (Below.refl w.heap.size w)
  have H : ((spec_l12Ok.f k a0 l1).bind fun t128 => (if t128 = true then ((spec_l12Pack.f k a0 l1).bind fun t129 => (some t129)) else (some ([] : List Int)))) = some r := h
  clear h
  replace H := Option.bind_eq_some_iff.mp H
  obtain ⟨t128, A30, H⟩ := H
  replace H : (if t128 = true then ((spec_l12Pack.f k a0 l1).bind fun t129 => (some t129)) else (some ([] : List Int))) = some r := H
  have A3 := Aside0.mk A30
  clear A30
  by_cases c4 : t128 = true
  rotate_left
  · replace c4 := Bool.eq_false_iff.mpr c4
    subst c4
    have H1 : (some ([] : List Int)) = some r := by rw [if_neg (show ¬ (false = true) by decide)] at H; exact H
    clear H
    have H := H1
    clear H1
    obtain rfl := Option.some.inj H
    go_enter Try.func28, Try.ntmps28
    go_wp2_with (first | ((with_reducible refine gate_callee (f := 81) rfl ?_); refine goesL_ (some 7) rfl rfl Try.func81 (by kernel_rfl) rfl #[.int .i64 a0, .slice A1 l1.length c1] rfl (by (try simp only [List.map_toArray, List.map_cons, List.map_nil]); first | done | rfl | (simp only [List.length_drop, List.length_take]; rfl)) ?_; (with_reducible refine (spec_l12Ok.calls k a0 _ _ l1 false _ ?side1 ?side2 A3.out).mono ?_); (case side1 => repeat (first | exact HR1.out | (with_reducible refine Kd.C_alloc ?_ _) | (with_reducible refine Kd.C_drewN ?_ _) | (with_reducible refine Kd.C_drew ?_))); (case side2 => exact HC1.out); rintro e w8 ⟨rfl, hb⟩; refine ⟨_, rfl, ?_⟩; have n0_ := Aside0.mk (below_step (by repeat (first | (with_reducible first | exact HB.out | apply below_alloc | apply pw_below_drewN | apply below_drew1) | exact HB.out)) hb); clear HB; have HB := n0_; clear n0_; (try clear hb); (try clear hb2); (try clear hk); (try clear hi)))
    go_ret
    exact ⟨_, by first | rfl | (simp [errW_none, errW_some] <;> rfl) | (simp [*, errW_none, errW_some] <;> rfl), by first | exact Kd.R_nil _ _ _ _ _ | exact Kd.N_nil _ _ _ _ _ | exact Kd.V_nil _ _ _ _ _ | exact Kd.Q_nil _ _ _ _ _ | exact Kd.S_nil _ _ _ _ _, by repeat (first | (with_reducible first | exact HB.out | apply below_alloc | apply pw_below_drewN | apply below_drew1) | exact HB.out)⟩
  subst c4
  have H1 : ((spec_l12Pack.f k a0 l1).bind fun t129 => (some t129)) = some r := by rw [if_pos rfl] at H; exact H
  clear H
  have H := H1
  clear H1
  replace H := Option.bind_eq_some_iff.mp H
  obtain ⟨t129, A50, H⟩ := H
  replace H : (some t129) = some r := H
  have A5 := Aside0.mk A50
  clear A50
  obtain rfl := Option.some.inj H
  go_enter Try.func28, Try.ntmps28
  go_wp2_with (first | ((with_reducible refine gate_callee (f := 81) rfl ?_); refine goesL_ (some 7) rfl rfl Try.func81 (by kernel_rfl) rfl #[.int .i64 a0, .slice A1 l1.length c1] rfl (by (try simp only [List.map_toArray, List.map_cons, List.map_nil]); first | done | rfl | (simp only [List.length_drop, List.length_take]; rfl)) ?_; (with_reducible refine (spec_l12Ok.calls k a0 _ _ l1 true _ ?side1 ?side2 A3.out).mono ?_); (case side1 => repeat (first | exact HR1.out | (with_reducible refine Kd.C_alloc ?_ _) | (with_reducible refine Kd.C_drewN ?_ _) | (with_reducible refine Kd.C_drew ?_))); (case side2 => exact HC1.out); rintro e w6 ⟨rfl, hb⟩; refine ⟨_, rfl, ?_⟩; have n0_ := Aside0.mk (below_step (by repeat (first | (with_reducible first | exact HB.out | apply below_alloc | apply pw_below_drewN | apply below_drew1) | exact HB.out)) hb); clear HB; have HB := n0_; clear n0_; (try clear hb); (try clear hb2); (try clear hk); (try clear hi)) | ((with_reducible refine gate_callee (f := 82) rfl ?_); refine goesL_ (some 11) rfl rfl Try.func82 (by kernel_rfl) rfl #[.int .i64 a0, .slice A1 l1.length c1] rfl (by (try simp only [List.map_toArray, List.map_cons, List.map_nil]); first | done | rfl | (simp only [List.length_drop, List.length_take]; rfl)) ?_; (with_reducible refine (spec_l12Pack.calls k a0 _ _ l1 t129 _ ?side1 ?side2 A5.out).mono ?_); (case side1 => repeat (first | exact (Kd.C_below HR1.out HB.out) | (with_reducible refine Kd.C_alloc ?_ _) | (with_reducible refine Kd.C_drewN ?_ _) | (with_reducible refine Kd.C_drew ?_))); (case side2 => exact HC1.out); rintro e w7 ⟨v130, rfl, ho0, hb⟩; refine ⟨_, rfl, ?_⟩; have n0_ := Aside0.mk (Kd.R_lower ho0 (below_size (by repeat (first | (with_reducible first | exact HB.out | apply below_alloc | apply pw_below_drewN | apply below_drew1) | exact HB.out)))); have n1_ := Aside0.mk (below_step (by repeat (first | (with_reducible first | exact HB.out | apply below_alloc | apply pw_below_drewN | apply below_drew1) | exact HB.out)) hb); clear HB; have HO131 := n0_; have HB := n1_; clear n0_ n1_; (try clear hb); (try clear hb2); (try clear hk); (try clear hi); (try clear ho0)))
  go_ret
  exact ⟨_, by first | rfl | (simp [errW_none, errW_some] <;> rfl) | (simp [*, errW_none, errW_some] <;> rfl), by (with_reducible repeat (first | apply Kd.R_alloc | apply Kd.R_drewN | apply Kd.R_drew)); exact HO131.out, by repeat (first | (with_reducible first | exact HB.out | apply below_alloc | apply pw_below_drewN | apply below_drew1) | exact HB.out)⟩

/-! ### laws_toChoice: function 83 -/
def laws_toChoice.f (a0_0 : Int) (a0_1 : Int) : Option (Int × Int) := some (a0_0, a0_1)
set_option maxHeartbeats 8000000 in
set_option maxRecDepth 100000 in
theorem laws_toChoice.calls (a0_0 : Int) (a0_1 : Int) (r1 : Int) (r2 : Int) (w : World) (h : laws_toChoice.f a0_0 a0_1 = some (r1, r2)) :
    Calls Try.prog 83 #[.agg #[.int .i64 a0_0, .int .i64 a0_1]] w fun e w' => e = .returned (.agg #[.int .i64 r1, .int .i64 r2]) ∧ Below w.heap.size w w' := by
  have hu110 := Try.underlying110
  have hu108 := Try.underlying108
  have HB := Aside0.mk (Below.refl w.heap.size w)
  have H : (some (a0_0, a0_1)) = some (r1, r2) := h
  clear h
  simp only [Option.some.injEq, Prod.mk.injEq] at H
  obtain ⟨rfl, rfl⟩ := H
  go_enter Try.func83, Try.ntmps83
  go_wp2_with (first | ((with_reducible refine gate_dst (N := 1) rfl ?_); refine box_event ?hg (N := 1) ?hd (cs := #[.int .i64 a0_0, .int .i64 a0_1]) (t := 110) ?hr ?_; (case hd => rfl); (case hg => rfl); (case hr => first | (go_simp; done) | (go_simp; rfl)); intro gb132 hg w2 hbox hb; have n0_ := Aside0.mk (below_step (by repeat (first | (with_reducible first | exact HB.out | apply below_alloc | apply pw_below_drewN | apply below_drew1) | exact HB.out)) hb); have n1_ := Aside0.mk (hbox); have n2_ := Aside0.mk ((by rw [hg]; exact (below_size (by repeat (first | (with_reducible first | exact HB.out | apply below_alloc | apply pw_below_drewN | apply below_drew1) | exact HB.out))) : w.heap.size ≤ gb132)); have n3_ := n2_; clear HB; have HB := n0_; have BK132 := n1_; have GW132 := n2_; have GE132 := n3_; clear n0_ n1_ n2_ n3_; clear hb hbox hg) | ((with_reducible refine gate_dst (N := 2) rfl ?_); refine box_event ?hg (N := 2) ?hd (cs := #[.int .i64 0, .int .i64 0]) (t := 108) ?hr ?_; (case hd => rfl); (case hg => rfl); (case hr => first | (go_simp; done) | (go_simp; rfl)); intro gb133 hg w3 hbox hb; have n0_ := Aside0.mk (blk_below (g := gb132) (o := .cells #[.int .i64 a0_0, .int .i64 a0_1] 110 (0, 0)) (by (with_reducible repeat (first | refine blk_drewN ?_ _ | refine blk_drew ?_ | refine blk_alloc ?_ _)); exact BK132.out) hb); have n1_ := Aside0.mk (below_step (by repeat (first | (with_reducible first | exact HB.out | apply below_alloc | apply pw_below_drewN | apply below_drew1 | refine below_set ?_ GE132.out) | exact HB.out)) hb); have n2_ := Aside0.mk (hbox); have n3_ := Aside0.mk ((by rw [hg]; exact (below_size (by repeat (first | (with_reducible first | exact HB.out | apply below_alloc | apply pw_below_drewN | apply below_drew1 | refine below_set ?_ GE132.out) | exact HB.out))) : w.heap.size ≤ gb133)); have n4_ := n3_; have n5_ := Aside0.mk ((by rw [hg]; exact Nat.ne_of_lt (blk_lt (g := gb132) (o := .cells #[.int .i64 a0_0, .int .i64 a0_1] 110 (0, 0)) (by (with_reducible repeat (first | refine blk_drewN ?_ _ | refine blk_drew ?_ | refine blk_alloc ?_ _)); exact BK132.out)) : gb132 ≠ gb133)); have n6_ := Aside0.mk ((by rw [hg]; exact Nat.ne_of_gt (blk_lt (g := gb132) (o := .cells #[.int .i64 a0_0, .int .i64 a0_1] 110 (0, 0)) (by (with_reducible repeat (first | refine blk_drewN ?_ _ | refine blk_drew ?_ | refine blk_alloc ?_ _)); exact BK132.out)) : gb133 ≠ gb132)); clear BK132; clear HB; have BK132 := n0_; have HB := n1_; have BK133 := n2_; have GW133 := n3_; have GE133 := n4_; have NB132_133 := n5_; have NB133_132 := n6_; clear n0_ n1_ n2_ n3_ n4_ n5_ n6_; clear hb hbox hg) | ((with_reducible refine gate_dst (N := 3) rfl ?_); refine box_event ?hg (N := 3) ?hd (cs := #[.int .i64 0, .int .i64 0]) (t := 108) ?hr ?_; (case hd => rfl); (case hg => rfl); (case hr => first | (go_simp; done) | (go_simp; rfl)); intro gb134 hg w4 hbox hb; have n0_ := Aside0.mk (blk_below (g := gb132) (o := .cells #[.int .i64 a0_0, .int .i64 a0_1] 110 (0, 0)) (by (with_reducible repeat (first | refine blk_drewN ?_ _ | refine blk_drew ?_ | refine blk_alloc ?_ _)); exact BK132.out) hb); have n1_ := Aside0.mk (blk_below (g := gb133) (o := .cells #[.int .i64 0, .int .i64 0] 108 (0, 0)) (by (with_reducible repeat (first | refine blk_drewN ?_ _ | refine blk_drew ?_ | refine blk_alloc ?_ _)); exact BK133.out) hb); have n2_ := Aside0.mk (below_step (by repeat (first | (with_reducible first | exact HB.out | apply below_alloc | apply pw_below_drewN | apply below_drew1 | refine below_set ?_ GE132.out | refine below_set ?_ GE133.out) | exact HB.out)) hb); have n3_ := Aside0.mk (hbox); have n4_ := Aside0.mk ((by rw [hg]; exact (below_size (by repeat (first | (with_reducible first | exact HB.out | apply below_alloc | apply pw_below_drewN | apply below_drew1 | refine below_set ?_ GE132.out | refine below_set ?_ GE133.out) | exact HB.out))) : w.heap.size ≤ gb134)); have n5_ := n4_; have n6_ := Aside0.mk ((by rw [hg]; exact Nat.ne_of_lt (blk_lt (g := gb132) (o := .cells #[.int .i64 a0_0, .int .i64 a0_1] 110 (0, 0)) (by (with_reducible repeat (first | refine blk_drewN ?_ _ | refine blk_drew ?_ | refine blk_alloc ?_ _)); exact BK132.out)) : gb132 ≠ gb134)); have n7_ := Aside0.mk ((by rw [hg]; exact Nat.ne_of_gt (blk_lt (g := gb132) (o := .cells #[.int .i64 a0_0, .int .i64 a0_1] 110 (0, 0)) (by (with_reducible repeat (first | refine blk_drewN ?_ _ | refine blk_drew ?_ | refine blk_alloc ?_ _)); exact BK132.out)) : gb134 ≠ gb132)); have n8_ := Aside0.mk ((by rw [hg]; exact Nat.ne_of_lt (blk_lt (g := gb133) (o := .cells #[.int .i64 0, .int .i64 0] 108 (0, 0)) (by (with_reducible repeat (first | refine blk_drewN ?_ _ | refine blk_drew ?_ | refine blk_alloc ?_ _)); exact BK133.out)) : gb133 ≠ gb134)); have n9_ := Aside0.mk ((by rw [hg]; exact Nat.ne_of_gt (blk_lt (g := gb133) (o := .cells #[.int .i64 0, .int .i64 0] 108 (0, 0)) (by (with_reducible repeat (first | refine blk_drewN ?_ _ | refine blk_drew ?_ | refine blk_alloc ?_ _)); exact BK133.out)) : gb134 ≠ gb133)); clear BK132; clear BK133; clear HB; have BK132 := n0_; have BK133 := n1_; have HB := n2_; have BK134 := n3_; have GW134 := n4_; have GE134 := n5_; have NB132_134 := n6_; have NB134_132 := n7_; have NB133_134 := n8_; have NB134_133 := n9_; clear n0_ n1_ n2_ n3_ n4_ n5_ n6_ n7_ n8_ n9_; clear hb hbox hg; have hnb5 := NB132_133.out; have hnc5 := NB133_132.out; have hnb6 := NB132_134.out; have hnc6 := NB134_132.out; have hcz7_0 : w4.cell? ⟨gb132, 0, none⟩ = some (.int .i64 a0_0) := (blk_cell BK132.out 0).trans rfl; have hcz7_1 : w4.cell? ⟨gb132, 1, none⟩ = some (.int .i64 a0_1) := (blk_cell BK132.out 1).trans rfl; have hfz7_0 := blk_frozen BK132.out 0; have hfz7_1 := blk_frozen BK132.out 1; have hnb8 := NB134_133.out; have hnc8 := NB133_134.out; have hcz9_0 : w4.cell? ⟨gb134, 0, none⟩ = some (.int .i64 0) := (blk_cell BK134.out 0).trans rfl; have hcz9_1 : w4.cell? ⟨gb134, 1, none⟩ = some (.int .i64 0) := (blk_cell BK134.out 1).trans rfl; have hfz9_0 := blk_frozen BK134.out 0; have hfz9_1 := blk_frozen BK134.out 1; have hcz10_0 : w4.cell? ⟨gb133, 0, none⟩ = some (.int .i64 0) := (blk_cell BK133.out 0).trans rfl; have hcz10_1 : w4.cell? ⟨gb133, 1, none⟩ = some (.int .i64 0) := (blk_cell BK133.out 1).trans rfl; have hfz10_0 := blk_frozen BK133.out 0; have hfz10_1 := blk_frozen BK133.out 1))
  refine bodyPost_ret (results_cell_row rfl _ _ gb133 108 #[.int .i64 a0_0, .int .i64 a0_1] (0, 0) _ rfl (by (with_reducible repeat (first | refine blk_drewN ?_ _ | refine blk_drew ?_ | refine blk_alloc ?_ _)); refine blk_put (cs := #[.int .i64 a0_0, .int .i64 0]) ?_ 1 _ rfl; (with_reducible repeat (first | refine blk_drewN ?_ _ | refine blk_drew ?_ | refine blk_alloc ?_ _)); refine blk_put (cs := #[.int .i64 0, .int .i64 0]) ?_ 0 _ rfl; (with_reducible repeat (first | refine blk_drewN ?_ _ | refine blk_drew ?_ | refine blk_alloc ?_ _)); refine blk_far ?_ NB133_134.out _; (with_reducible repeat (first | refine blk_drewN ?_ _ | refine blk_drew ?_ | refine blk_alloc ?_ _)); refine blk_far ?_ NB133_134.out _; (with_reducible repeat (first | refine blk_drewN ?_ _ | refine blk_drew ?_ | refine blk_alloc ?_ _)); exact BK133.out) Try.underlying108 rfl (by kernel_rfl)) rfl ?_
  exact ⟨by first | rfl | (simp [errW_none, errW_some] <;> rfl) | (simp [*, errW_none, errW_some] <;> rfl), by repeat (first | (with_reducible first | exact HB.out | apply below_alloc | apply pw_below_drewN | apply below_drew1 | refine below_set ?_ GE132.out | refine below_set ?_ GE133.out | refine below_set ?_ GE134.out) | exact HB.out)⟩

/-! ### laws_toChoiceS: function 29 -/
def laws_toChoiceS.l0 : Nat → List (S110) → List (S108) → Int → Option ((List (S108)))
  | 0, _, _, _ => none
  | k + 1, x0, x3, x4 => if x4 < (x0.length : Int) then (if 0 ≤ x4 then ((laws_toChoice.f ((rd_T110 x0 x4).f0) ((rd_T110 x0 x4).f1)).bind fun bt139 => (if x4 < (x3.length : Int) then (laws_toChoiceS.l0 k x0 (x3.set (x4 : Int).toNat (⟨bt139.1, bt139.2⟩ : S108)) (wrap64 (x4 + 1))) else (none))) else (none)) else (some x3)
def laws_toChoiceS.f (k : Nat) (l0 : List (S110)) : Option ((List (S108))) := if 0 ≤ (l0.length : Int) then (if ((l0.length : Int) : Int).toNat ≤ 17592186044416 then (laws_toChoiceS.l0 k l0 (List.replicate ((l0.length : Int) : Int).toNat z108) 0) else (none)) else (none)
theorem laws_toChoiceS.mono_l : ∀ k, (∀ y0 y1 y2, LeO (laws_toChoiceS.l0 k y0 y1 y2) (laws_toChoiceS.l0 (k + 1) y0 y1 y2))
  | 0 => fun _ _ _ r h => by simp [laws_toChoiceS.l0] at h
  | k + 1 => by
    have ih0 := laws_toChoiceS.mono_l k
    · intro y0 y1 y2
      unfold laws_toChoiceS.l0
      repeat' first
      | (with_reducible exact ih0 _ _ _)
      | (with_reducible exact LeO.refl _)
      | (with_reducible exact LeO.none _)
      | (with_reducible refine LeO.ite ?_ ?_)
      | (with_reducible refine LeO.bind ?_ (fun _ => ?_))
      | exact ih0 _ _ _
      | exact LeO.none _
      | refine LeO.ite ?_ ?_
      | refine LeO.bind ?_ (fun _ => ?_)
theorem laws_toChoiceS.mono : ∀ a0 k, LeO (laws_toChoiceS.f k a0) (laws_toChoiceS.f (k + 1) a0) := by
  intro a0 k
  have ih0 := laws_toChoiceS.mono_l k
  unfold laws_toChoiceS.f
  repeat' first
      | (with_reducible exact ih0 _ _ _)
      | (with_reducible exact LeO.refl _)
      | (with_reducible exact LeO.none _)
      | (with_reducible refine LeO.ite ?_ ?_)
      | (with_reducible refine LeO.bind ?_ (fun _ => ?_))
      | exact ih0 _ _ _
      | exact LeO.none _
      | refine LeO.ite ?_ ?_
      | refine LeO.bind ?_ (fun _ => ?_)
set_option maxHeartbeats 8000000 in
set_option maxRecDepth 100000 in
theorem laws_toChoiceS.calls (k : Nat) (A0 : Option Addr) (c0 : Nat) (l0 : List (S110)) (r : List (S108)) (w : World) (hr0 : Kd.C k110 w A0 l0.length l0) (hc0 : l0.length ≤ c0) (h : laws_toChoiceS.f k l0 = some r) :
    Calls Try.prog 29 #[.slice A0 l0.length c0] w fun e w' => ∃ v0_ : Value, e = .returned (v0_) ∧ Kd.R k108 108 w' w.heap.size (fun _ => True) v0_ r ∧ Below w.heap.size w w' := by
  have hu110 := Try.underlying110
  have hu108 := Try.underlying108
  have HR0 := Aside0.mk hr0
  have HC0 := Aside0.mk hc0
  clear hr0 hc0
  have HB := Aside0.mk (Below.refl w.heap.size w)
  have H : (if 0 ≤ (l0.length : Int) then (if ((l0.length : Int) : Int).toNat ≤ 17592186044416 then (laws_toChoiceS.l0 k l0 (List.replicate ((l0.length : Int) : Int).toNat z108) 0) else (none)) else (none)) = some r := h
  clear h
  by_cases c2 : 0 ≤ (l0.length : Int)
  rotate_left
  · rw [if_neg c2] at H
    exact absurd H (by simp)
  rw [if_pos c2] at H
  have c2b0 := eq_true c2
  have c2b1 : decide (0 ≤ (l0.length : Int)) = true := decide_eq_true c2
  clear c2
  by_cases c3 : ((l0.length : Int) : Int).toNat ≤ 17592186044416
  rotate_left
  · rw [if_neg c3] at H
    exact absurd H (by simp)
  rw [if_pos c3] at H
  have c3b0 := eq_true c3
  have c3b1 : decide (((l0.length : Int) : Int).toNat ≤ 17592186044416) = true := decide_eq_true c3
  clear c3
  obtain ⟨y135, hy135⟩ : ∃ y_ : List (S108), y_ = (List.replicate ((l0.length : Int) : Int).toNat z108) := ⟨_, rfl⟩
  replace H : (laws_toChoiceS.l0 k l0 y135 0) = some r := by first | (rw [hy135]; with_reducible exact H) | (have H2_ := (Option.bind_some _ _).symm.trans H; rw [hy135]; with_reducible exact H2_) | (have H2_ := (Option.bind_some _ _).symm.trans H; with_reducible exact H2_) | with_reducible exact H | (rw [hy135]; exact H) | exact H
  have Ny135 := Aside0.mk hy135
  clear hy135
  have H' := Aside0.mk H
  clear H
  go_enter Try.func29, Try.ntmps29
  go_wp2_with (first | ((with_reducible refine gate_dst (N := 7) rfl ?_); refine Kd.R_make k108 _ 108 rfl (N := 7) rfl 46 _ _ rfl (l0.length : Int) rfl rfl Try.underlying46 (.agg #[(.int .i64 0), (.int .i64 0)]) 16 info108 rfl (by decide) (by omega) z108 (ok := fun _ => True) (okp := fun _ => True) (k108_mkM _ _ _ z108 ) (fun _ hk => hk) trivial (of_decide_eq_true (by first | (with_reducible assumption) | assumption)) (Nat.le_trans (Nat.mul_le_mul_right _ (of_decide_eq_true (by first | (with_reducible assumption) | assumption) : (l0.length : Int).toNat ≤ 17592186044416)) (by omega)) (Below.refl _ _) (Nat.le_refl _) ?_; intro v136 w4 ho5 hb hg_ hnew_; clear hg_ hnew_; (first | rw [← Ny135.out] at ho5 | (simp only [Int.reduceToNat] at ho5; rw [← Ny135.out] at ho5)); have n0_ := Aside0.mk (Kd.R_lower ho5 (below_size (by repeat (first | (with_reducible first | exact HB.out | apply below_alloc | apply pw_below_drewN | apply below_drew1) | exact HB.out)))); have n1_ := Aside0.mk (below_step (by repeat (first | (with_reducible first | exact HB.out | apply below_alloc | apply pw_below_drewN | apply below_drew1) | exact HB.out)) hb); clear HB; have HO137 := n0_; have HB := n1_; clear n0_ n1_; clear hb ho5))
  go_loopg [4] k (fun kq v4 w' => ∃ (x3_1 : List (S108)) (x4_1 : Int), v4 = .int .i64 x4_1 ∧ Aside0 (laws_toChoiceS.l0 kq l0 x3_1 x4_1 = some r) ∧ Aside0 (kq ≤ k) ∧ Aside0 (Kd.R k108 108 w' w.heap.size (fun _ => True) v136 x3_1) ∧ Aside0 (Below w.heap.size w w'))
  case atStart => exact ⟨(y135), (0), (by first | rfl | (simp; done) | (simp [*]; done)), H', ⟨Nat.le_refl _⟩, ⟨by (with_reducible repeat (first | apply Kd.R_alloc | apply Kd.R_drewN | apply Kd.R_drew)); exact HO137.out⟩, ⟨by repeat (first | (with_reducible first | exact HB.out | apply below_alloc | apply pw_below_drewN | apply below_drew1) | exact HB.out)⟩⟩
  case round =>
    clear H'
    try clear c2
    try clear c2b0
    try clear c2b1
    try clear p2
    try clear c3
    try clear c3b0
    try clear c3b1
    obtain ⟨x3_1, x4_1, rfl, HA, HK1, HO_3, HB⟩ := hrel
    cases gk with
    | zero => exact absurd HA.out (by simp [laws_toChoiceS.l0])
    | succ k1 =>
      have H := HA.out
      clear HA
      simp only [laws_toChoiceS.l0] at H
      by_cases c6 : x4_1 < (l0.length : Int)
      rotate_left
      · rw [if_neg c6] at H
        have c6b0 : decide (x4_1 < (l0.length : Int)) = false := decide_eq_false c6
        clear c6
        obtain rfl := Option.some.inj H
        go_wp2
        go_ret
        exact ⟨_, by first | rfl | (simp [errW_none, errW_some] <;> rfl) | (simp [*, errW_none, errW_some] <;> rfl), by (with_reducible repeat (first | apply Kd.R_alloc | apply Kd.R_drewN | apply Kd.R_drew)); exact HO_3.out, by repeat (first | (with_reducible first | exact HB.out | apply below_alloc | apply pw_below_drewN | apply below_drew1) | exact HB.out)⟩
      rw [if_pos c6] at H
      have c6b0 : decide (x4_1 < (l0.length : Int)) = true := decide_eq_true c6
      clear c6
      by_cases c7 : 0 ≤ x4_1
      rotate_left
      · rw [if_neg c7] at H
        exact absurd H (by simp)
      rw [if_pos c7] at H
      have c7b0 : decide (0 ≤ x4_1) = true := decide_eq_true c7
      clear c7
      replace H := Option.bind_eq_some_iff.mp H
      obtain ⟨⟨t139, t140⟩, A80, H⟩ := H
      replace H : (if x4_1 < (x3_1.length : Int) then (laws_toChoiceS.l0 k1 l0 (x3_1.set (x4_1 : Int).toNat (⟨t139, t140⟩ : S108)) (wrap64 (x4_1 + 1))) else (none)) = some r := H
      have A8 := Aside0.mk A80
      clear A80
      by_cases c9 : x4_1 < (x3_1.length : Int)
      rotate_left
      · rw [if_neg c9] at H
        exact absurd H (by simp)
      rw [if_pos c9] at H
      have c9b0 : decide (x4_1 < (x3_1.length : Int)) = true := decide_eq_true c9
      clear c9
      obtain ⟨y141, hy141⟩ : ∃ y_ : List (S108), y_ = (x3_1.set (x4_1 : Int).toNat (⟨t139, t140⟩ : S108)) := ⟨_, rfl⟩
      replace H : (laws_toChoiceS.l0 k1 l0 y141 (wrap64 (x4_1 + 1))) = some r := by first | (rw [hy141]; with_reducible exact H) | (have H2_ := (Option.bind_some _ _).symm.trans H; rw [hy141]; with_reducible exact H2_) | (have H2_ := (Option.bind_some _ _).symm.trans H; with_reducible exact H2_) | with_reducible exact H | (rw [hy141]; exact H) | exact H
      have Ny141 := Aside0.mk hy141
      clear hy141
      have H' := Aside0.mk H
      clear H
      have p138 : 0 ≤ (x4_1 : Int) := of_decide_eq_true (by first | (with_reducible assumption) | assumption)
      have q138 : x4_1 < (l0.length : Int) := of_decide_eq_true (by first | (with_reducible assumption) | assumption)
      obtain ⟨ad138, e138, hx138_0, hx138_1⟩ := at_T110 HR0.out x4_1 p138 q138
      cases e138
      replace hx138_0 := (HB.out.cell (World.block_lt_of_cell? w _ hx138_0)).trans hx138_0
      replace hx138_1 := (HB.out.cell (World.block_lt_of_cell? w _ hx138_1)).trans hx138_1
      replace p138 := eq_true p138
      replace q138 := eq_true q138
      go_wp2_with (first | ((with_reducible refine gate_callee (f := 83) rfl ?_); refine goesL_ (some 20) rfl rfl Try.func83 (by kernel_rfl) rfl #[.agg #[.int .i64 ((rd_T110 l0 x4_1).f0), .int .i64 ((rd_T110 l0 x4_1).f1)]] rfl (by (try simp only [List.map_toArray, List.map_cons, List.map_nil]); first | done | rfl | (simp only [List.length_drop, List.length_take]; rfl)) ?_; (with_reducible refine (laws_toChoice.calls ((rd_T110 l0 x4_1).f0) ((rd_T110 l0 x4_1).f1) t139 t140 _ A8.out).mono ?_); rintro e w11 ⟨rfl, hb⟩; refine ⟨_, rfl, ?_⟩; have n0_ := Aside0.mk (Kd.R_below (by (with_reducible repeat (first | apply Kd.R_alloc | apply Kd.R_drewN | apply Kd.R_drew)); exact HO_3.out) hb); have n1_ := Aside0.mk (below_step (by repeat (first | (with_reducible first | exact HB.out | apply below_alloc | apply pw_below_drewN | apply below_drew1) | exact HB.out)) hb); clear HO_3; clear HB; have HO_3 := n0_; have HB := n1_; clear n0_ n1_; (try clear hb); (try clear hb2); (try clear hk); (try clear hi); have p10 : 0 ≤ (x4_1 : Int) := of_decide_eq_true (by first | (with_reducible assumption) | assumption); have q10 : (x4_1 : Int) < ((x3_1.length : Int) : Int) := of_decide_eq_true (by first | (with_reducible assumption) | assumption); obtain ⟨go10, co10, eo10, gb10, gl10, cl10, HG10⟩ := Kd.R_form HO_3.out (by omega); (first | cases eo10 | (injection eo10 with ea_ en_ ec_; (first | subst ea_ | (injection ea_ with ea_; subst ea_)); subst ec_; clear en_)); have GB10 := Aside0.mk gb10; have GG10 := Aside0.mk HG10; clear gb10 gl10 HG10; obtain ⟨ce10, hcl10, hM10, hcc10, hfr10⟩ := Kd.R_elem HO_3.out z108 (x4_1 : Int) p10 q10; obtain rfl := k108_openM hM10; have hx10_0 : w11.cell? ⟨go10, (x4_1 : Int).toNat * 2, none⟩ = some (.int .i64 ((rd_T108 x3_1 x4_1).f0)) := hcc10 0 _ rfl; have hx10_1 : w11.cell? ⟨go10, (x4_1 : Int).toNat * 2 + 1, none⟩ = some (.int .i64 ((rd_T108 x3_1 x4_1).f1)) := hcc10 1 _ rfl; have hf10_0 : w11.frozen? ⟨go10, (x4_1 : Int).toNat * 2, none⟩ = false := hfr10 0; have hf10_1 : w11.frozen? ⟨go10, (x4_1 : Int).toNat * 2 + 1, none⟩ = false := hfr10 1; clear hcl10 hcc10 hfr10; (try clear hM10); replace p10 := eq_true p10; replace q10 := eq_true q10; have HX12 := Aside0.mk (show Kd.R k108 108 w11 w.heap.size (fun _ => True) (.slice (some ⟨go10, 0, none⟩) x3_1.length co10) x3_1 from (by (with_reducible repeat (first | apply Kd.R_alloc | apply Kd.R_drewN | apply Kd.R_drew)); exact HO_3.out)); obtain ⟨ce12, hcl12, hM12, hcc12, hfr12⟩ := Kd.R_elem HX12.out z108 (x4_1 : Int) (of_decide_eq_true (by first | (with_reducible assumption) | assumption)) (by have h_ : (x4_1 : Int) < ((x3_1.length : Int) : Int) := of_decide_eq_true (by first | (with_reducible assumption) | assumption); first | exact h_ | (have e_ := (Kd.R_reads' HO_3.out).1; omega) | simpa using h_); obtain rfl := k108_openM hM12; have HP12 := Kd.R_seg HX12.out (x4_1 : Int) (of_decide_eq_true (by first | (with_reducible assumption) | assumption)) (by have h_ : (x4_1 : Int) < ((x3_1.length : Int) : Int) := of_decide_eq_true (by first | (with_reducible assumption) | assumption); first | exact h_ | (have e_ := (Kd.R_reads' HO_3.out).1; omega) | simpa using h_) (seg := [.int .i64 t139, .int .i64 t140]) (j := 0) hcl12 hcc12 (show 2 ≤ 2 from by decide) (x' := (⟨t139, t140⟩ : S108)) (k108_mkM _ _ _ (⟨t139, t140⟩ : S108) ) (fun _ hk => hk); have hx12_0 := hcc12 0 _ rfl; (try simp only [show (k108).sz = 2 from rfl, Nat.mul_one, Nat.add_zero] at hx12_0); have hf12_0 := hfr12 0; (try simp only [show (k108).sz = 2 from rfl, Nat.mul_one, Nat.add_zero] at hf12_0); have hx12_1 := hcc12 1 _ rfl; (try simp only [show (k108).sz = 2 from rfl, Nat.mul_one, Nat.add_zero] at hx12_1); have hf12_1 := hfr12 1; (try simp only [show (k108).sz = 2 from rfl, Nat.mul_one, Nat.add_zero] at hf12_1); clear hcl12 hcc12 hfr12; (try clear hM12)) | ((with_reducible refine gate_store (t := 108) (p := 21) rfl ?_); refine store_event (t := 108) (p := 21) (v := ?vo_w13) (w1 := ((w11.setCell ⟨go10, (x4_1 : Int).toNat * 2, none⟩ (.int .i64 t139)).setCell ⟨go10, (x4_1 : Int).toNat * 2 + 1, none⟩ (.int .i64 t140))) ?hg ?ho ?hn ?hr ?_; (case ho => rfl); (case hg => rfl); (case hn => rfl); (case hr => first | (go_simp; done) | (go_simp; rfl)); intro w13 hw; have hg : w11.grownBy w13 (some go10) := (by rw [hw]; exact HP12.2); have hp_ : Kd.R k108 108 w13 w.heap.size (fun _ => True) (.slice (some ⟨go10, 0, none⟩) x3_1.length co10) y141 := (by rw [hw, Ny141.out]; exact HP12.1); clear HP12; have n0_ := Aside0.mk (hp_); have n1_ := Aside0.mk ((by rw [hw]; exact below_set (below_set (HB.out) GB10.out) GB10.out : Below w.heap.size w w13)); clear HO_3; clear HB; have HO_3 := n0_; have HB := n1_; clear n0_ n1_; clear hg hw hp_))
      go_roundg k1
      case measure => have := HK1.out; omega
      case rel => exact ⟨(y141), (wrap64 (x4_1 + 1)), (by first | rfl | (simp; done) | (simp [*]; done)), H', ⟨by have := HK1.out; omega⟩, ⟨by (with_reducible repeat (first | apply Kd.R_alloc | apply Kd.R_drewN | apply Kd.R_drew)); exact HO_3.out⟩, ⟨by repeat (first | (with_reducible first | exact HB.out | apply below_alloc | apply pw_below_drewN | apply below_drew1) | exact HB.out)⟩⟩

end Go.Proofs.Ytggokppfhkebkaa.PFnExactOddsPack

-- written by myprint.py (a program of this session's over the kit's print)
import Derived.Test.YtggokppfhkebkaaPFnExactWriteSymbolsx0
namespace Go.Proofs.Ytggokppfhkebkaa.PFnExactWriteSymbols
open Go.RowKit Go.Proofs.YtggokppfhkebkaaW.PrintWords Go.Proofs.YtggokppfhkebkaaW.PrintLast Go.Proofs.YtggokppfhkebkaaW.PrintMore
attribute [local go_sem] max2_int min2_int max_two min_two max_three min_three max_four min_four   -- for this text's walks alone
set_option linter.unusedVariables false
set_option linter.unusedSimpArgs false

/-! ### spec_l1Sink_bit: function 130 -/
def spec_l1Sink_bit.j0 : Nat → Int → Bool → List Int → Int → Option (Bool × List Int × Int)
  | 0, _, _, _, _ => none
  | k + 1, x1, x1000, x1001, x1002 => if x1 = 1 then (if x1000 = true then (if 0 ≤ (wrap64 (Int.tdiv x1002 8)) then (if (wrap64 (Int.tdiv x1002 8)) < (x1001.length : Int) then (if 0 ≤ (IntKind.u64.wrap (7 - (IntKind.u64.wrap (Int.tmod x1002 8)))) then (some (x1000, (x1001.set ((wrap64 (Int.tdiv x1002 8)) : Int).toNat (Go.bits .or .u8 (rd x1001 (wrap64 (Int.tdiv x1002 8))) (shl .u8 1 (IntKind.u64.wrap (7 - (IntKind.u64.wrap (Int.tmod x1002 8))))))), wrap64 (x1002 + 1))) else (none)) else (none)) else (none)) else (if 0 ≤ (wrap64 (Int.tdiv x1002 8)) then (if (wrap64 (Int.tdiv x1002 8)) < (x1001.length : Int) then (if 0 ≤ (IntKind.u64.wrap (Int.tmod x1002 8)) then (some (x1000, (x1001.set ((wrap64 (Int.tdiv x1002 8)) : Int).toNat (Go.bits .or .u8 (rd x1001 (wrap64 (Int.tdiv x1002 8))) (shl .u8 1 (IntKind.u64.wrap (Int.tmod x1002 8))))), wrap64 (x1002 + 1))) else (none)) else (none)) else (none))) else (some (x1000, x1001, wrap64 (x1002 + 1)))
def spec_l1Sink_bit.f (k : Nat) (s0_0 : Bool) (s0_1 : List Int) (s0_2 : Int) (a1 : Int) : Option (Bool × List Int × Int) := if (Int.tmod s0_2 8) = 0 then (if s0_1.length < 140737488355328 then (spec_l1Sink_bit.j0 k a1 s0_0 (s0_1 ++ [0]) s0_2) else (none)) else (spec_l1Sink_bit.j0 k a1 s0_0 s0_1 s0_2)
theorem spec_l1Sink_bit.mono_l : ∀ k, (∀ y0 y1 y2 y3, LeO (spec_l1Sink_bit.j0 k y0 y1 y2 y3) (spec_l1Sink_bit.j0 (k + 1) y0 y1 y2 y3))
  | 0 => fun _ _ _ _ r h => by simp [spec_l1Sink_bit.j0] at h
  | k + 1 => by
    have ih0 := spec_l1Sink_bit.mono_l k
    · intro y0 y1 y2 y3
      unfold spec_l1Sink_bit.j0
      repeat' first
      | (with_reducible exact ih0 _ _ _ _)
      | (with_reducible exact LeO.refl _)
      | (with_reducible exact LeO.none _)
      | (with_reducible refine LeO.ite ?_ ?_)
      | (with_reducible refine LeO.bind ?_ (fun _ => ?_))
      | exact ih0 _ _ _ _
      | exact LeO.none _
      | refine LeO.ite ?_ ?_
      | refine LeO.bind ?_ (fun _ => ?_)
theorem spec_l1Sink_bit.mono : ∀ a0 a1 a2 a3 k, LeO (spec_l1Sink_bit.f k a0 a1 a2 a3) (spec_l1Sink_bit.f (k + 1) a0 a1 a2 a3) := by
  intro a0 a1 a2 a3 k
  have ih0 := spec_l1Sink_bit.mono_l k
  unfold spec_l1Sink_bit.f
  repeat' first
      | (with_reducible exact ih0 _ _ _ _)
      | (with_reducible exact LeO.refl _)
      | (with_reducible exact LeO.none _)
      | (with_reducible refine LeO.ite ?_ ?_)
      | (with_reducible refine LeO.bind ?_ (fun _ => ?_))
      | exact ih0 _ _ _ _
      | exact LeO.none _
      | refine LeO.ite ?_ ?_
      | refine LeO.bind ?_ (fun _ => ?_)
def spec_l1Sink_bit.T6 : Bool × List (List Nat × List Nat) := (true, [([], []), ([0], [0]), ([1], [1]), ([2], [2]), ([], []), ([4], [4]), ([5], [5]), ([6], [6]), ([7], [7]), ([3, 8], [3, 8]), ([9], [9]), ([], []), ([11], [11]), ([10, 12], [10, 12]), ([3, 8, 0, 1, 2, 3, 4, 5, 6, 7, 8, 9, 10, 11, 12, 13], [3, 8]), ([14, 13, 0, 1, 2, 3, 4, 5, 6, 7, 8, 9, 10, 11, 12, 13], [13, 14])])
def spec_l1Sink_bit.B6 : List Nat := [0, 1, 3, 7, 0, 16, 48, 112, 240, 511, 1023, 0, 2048, 8191, 16383, 32767]
theorem spec_l1Sink_bit.tab6 : rtab .any (opsOf Try.f130 6) = spec_l1Sink_bit.T6 := by kernel_rfl
theorem spec_l1Sink_bit.bits6 : waitsOk spec_l1Sink_bit.T6.2 spec_l1Sink_bit.B6 = true := by kernel_rfl
set_option maxHeartbeats 8000000 in
set_option maxRecDepth 100000 in
theorem spec_l1Sink_bit.calls (k : Nat) (g : Nat) (s0_0 : Bool) (s0_1 : List Int) (s0_2 : Int) (a1 : Int) (r1 : Bool) (r2 : List Int) (r3 : Int) (w : World) (wa : World) (hB : Below w.heap.size w wa) (hG : w.heap.size ≤ g) (u901_ : Value) (hbb : wa.heap[g]? = some (.cells #[.bool s0_0, u901_, .int .i64 s0_2] 95 (0, 0))) (hob1 : Kd.R (Kd.int .u8) 5 wa w.heap.size (fun _ => True) u901_ s0_1) (h : spec_l1Sink_bit.f k s0_0 s0_1 s0_2 a1 = some (r1, r2, r3)) :
    Calls Try.prog 130 #[.pointer (some ⟨g, 0, none⟩), .int .u64 a1] wa fun e w' => ∃ vb1_ : Value, e = .returned (.tuple #[]) ∧ w'.heap[g]? = some (.cells #[.bool r1, vb1_, .int .i64 r3] 95 (0, 0)) ∧ Kd.R (Kd.int .u8) 5 w' w.heap.size (fun _ => True) vb1_ r2 ∧ Below w.heap.size w w' := by
  have HB := Aside0.mk hB
  have GW0 := Aside0.mk hG
  have GE0 := Aside0.mk hG
  have BK0 := Aside0.mk hbb
  have HOb1 := Aside0.mk hob1
  clear hob1
  clear hB hG hbb
  have H : (if (Int.tmod s0_2 8) = 0 then (if s0_1.length < 140737488355328 then (spec_l1Sink_bit.j0 k a1 s0_0 (s0_1 ++ [0]) s0_2) else (none)) else (spec_l1Sink_bit.j0 k a1 s0_0 s0_1 s0_2)) = some (r1, r2, r3) := h
  clear h
  have HC3 := Aside0.mk H
  clear H
  have hcz4_0 : wa.cell? ⟨g, 0, none⟩ = some (.bool s0_0) := (blk_cell BK0.out 0).trans rfl
  have hcz4_1 : wa.cell? ⟨g, 1, none⟩ = some (u901_) := (blk_cell BK0.out 1).trans rfl
  have hcz4_2 : wa.cell? ⟨g, 2, none⟩ = some (.int .i64 s0_2) := (blk_cell BK0.out 2).trans rfl
  have hfz4_0 := blk_frozen BK0.out 0
  have hfz4_1 := blk_frozen BK0.out 1
  have hfz4_2 := blk_frozen BK0.out 2
  go_enter Try.func130, Try.ntmps130
  go_upto_if 10 with (fail)
  go_cut [] (fun wc => ∃ (kq : Nat) (x1001_2 : List Int) (u1001 : Value), Aside0 (spec_l1Sink_bit.j0 kq a1 s0_0 x1001_2 s0_2 = some (r1, r2, r3)) ∧ Aside0 (kq ≤ k) ∧ Aside0 (Kd.R (Kd.int .u8) 5 wc w.heap.size (fun _ => True) u1001 x1001_2) ∧ Aside0 (wc.heap[g]? = some (.cells #[.bool s0_0, u1001, .int .i64 s0_2] 95 (0, 0))) ∧ Aside0 (Below w.heap.size w wc))
  case first =>
    have H := HC3.out
    clear HC3
    by_cases c5 : (Int.tmod s0_2 8) = 0
    rotate_left
    · rw [if_neg c5] at H
      have c5b0 : ((Int.tmod s0_2 8) == 0) = false := beq_eq_false_iff_ne.mpr c5
      have c5b1 : ((Int.tmod s0_2 8) != 0) = true := bne_iff_ne.mpr c5
      (first | rw [c5b0] | (simp only [i64_w, i32_w]; rw [c5b0]) | skip)
      have H' := Aside0.mk H
      clear H
      go_wp2
      go_meet
      case rel => exact ⟨_, (s0_1), (u901_), H', ⟨by first | omega | exact Nat.le_refl _⟩, ⟨by (with_reducible repeat (first | apply Kd.R_alloc | apply Kd.R_drewN | apply Kd.R_drew)); exact HOb1.out⟩, ⟨by (with_reducible repeat (first | refine blk_drewN ?_ _ | refine blk_drew ?_ | refine blk_alloc ?_ _)); exact BK0.out⟩, ⟨by repeat (first | (with_reducible first | exact HB.out | apply below_alloc | apply pw_below_drewN | apply below_drew1 | refine below_set ?_ GE0.out) | exact HB.out)⟩⟩
    rw [if_pos c5] at H
    have c5b0 : ((Int.tmod s0_2 8) == 0) = true := beq_iff_eq.mpr c5
    have c5b1 : ((Int.tmod s0_2 8) != 0) = false := bne_eq_false_iff_eq.mpr c5
    clear c5
    (first | rw [c5b0] | (simp only [i64_w, i32_w]; rw [c5b0]) | skip)
    by_cases c6 : s0_1.length < 140737488355328
    rotate_left
    · rw [if_neg c6] at H
      exact absurd H (by simp)
    rw [if_pos c6] at H
    have LMc6 := Aside0.mk c6
    clear c6
    obtain ⟨y110, hy110⟩ : ∃ y_ : List Int, y_ = (s0_1 ++ [0]) := ⟨_, rfl⟩
    replace H : (spec_l1Sink_bit.j0 k a1 s0_0 y110 s0_2) = some (r1, r2, r3) := by first | (rw [hy110]; with_reducible exact H) | (have H2_ := (Option.bind_some _ _).symm.trans H; rw [hy110]; with_reducible exact H2_) | (have H2_ := (Option.bind_some _ _).symm.trans H; with_reducible exact H2_) | with_reducible exact H | (rw [hy110]; exact H) | exact H
    have Ny110 := Aside0.mk hy110
    clear hy110
    have H' := Aside0.mk H
    clear H
    have hcz7_0 : wa.cell? ⟨g, 0, none⟩ = some (.bool s0_0) := (blk_cell BK0.out 0).trans rfl
    have hcz7_1 : wa.cell? ⟨g, 1, none⟩ = some (u901_) := (blk_cell BK0.out 1).trans rfl
    have hcz7_2 : wa.cell? ⟨g, 2, none⟩ = some (.int .i64 s0_2) := (blk_cell BK0.out 2).trans rfl
    have hfz7_0 := blk_frozen BK0.out 0
    have hfz7_1 := blk_frozen BK0.out 1
    have hfz7_2 := blk_frozen BK0.out 2
    go_wp2_with (first | ((with_reducible refine gate_builtin (b := .append) (xs := #[.tmp 15, .tmp 16]) rfl ?_); at_builtin; refine Kd.R_append (Kd.int .u8) (w0 := w) w.heap.size rfl (.tmp 15) (.tmp 16) 23 5 (.int .u8 0) 1 rfl Try.underlying23 info5 rfl (by decide) (by omega) u901_ s0_1 0 [.int .u8 0] (fun _ => True) (fun _ => False) rfl rfl ?aP (fun _ hk => hk.elim) ?aF ?aO ?aB ?aS ?aL ?_; (case aP => exact rfl); (case aB => exact (by repeat (first | (with_reducible first | exact HB.out | apply below_alloc | apply pw_below_drewN | apply below_drew1 | refine below_set ?_ GE0.out) | exact HB.out))); (case aF => exact (fun _ _ => trivial)); (case aO => exact (by (with_reducible repeat (first | apply Kd.R_alloc | apply Kd.R_drewN | apply Kd.R_drew)); exact HOb1.out)); (case aS => exact (below_size (by repeat (first | (with_reducible first | exact HB.out | apply below_alloc | apply pw_below_drewN | apply below_drew1 | refine below_set ?_ GE0.out) | exact HB.out)))); (case aL => have := LMc6.out; omega); intro v111 w8 ho hb hg hat; rw [← Ny110.out] at ho; have n0_ := Aside0.mk (blk_grown (g := g) (o := .cells #[.bool s0_0, u901_, .int .i64 s0_2] 95 (0, 0)) (by (with_reducible repeat (first | refine blk_drewN ?_ _ | refine blk_drew ?_ | refine blk_alloc ?_ _)); exact BK0.out) hg (Kd.R_ne HOb1.out BK0.out (by decide))); have n1_ := Aside0.mk (hb); have n2_ := Aside0.mk (ho); clear BK0; clear HB; clear HOb1; have BK0 := n0_; have HB := n1_; have HO112 := n2_; clear n0_ n1_ n2_; clear ho hb hg hat; obtain ⟨Ao9, co9, eo9⟩ := Kd.R_slice HO112.out; subst eo9; have hcz10_0 : w8.cell? ⟨g, 0, none⟩ = some (.bool s0_0) := (blk_cell BK0.out 0).trans rfl; have hcz10_1 : w8.cell? ⟨g, 1, none⟩ = some (u901_) := (blk_cell BK0.out 1).trans rfl; have hcz10_2 : w8.cell? ⟨g, 2, none⟩ = some (.int .i64 s0_2) := (blk_cell BK0.out 2).trans rfl; have hfz10_0 := blk_frozen BK0.out 0; have hfz10_1 := blk_frozen BK0.out 1; have hfz10_2 := blk_frozen BK0.out 2))
    go_meet
    case rel => exact ⟨_, (y110), (.slice Ao9 y110.length co9), H', ⟨by first | omega | exact Nat.le_refl _⟩, ⟨by (with_reducible repeat (first | apply Kd.R_alloc | apply Kd.R_drewN | apply Kd.R_drew)); exact Kd.R_mono (Kd.R_far (p := ⟨g, 1, none⟩) (Kd.R_types HO112.out BK0.out (by decide)) (fun _ hk => hk.2) (.slice Ao9 y110.length co9)) (fun _ hk => trivial)⟩, ⟨by (with_reducible repeat (first | refine blk_drewN ?_ _ | refine blk_drew ?_ | refine blk_alloc ?_ _)); refine blk_put (cs := #[.bool s0_0, u901_, .int .i64 s0_2]) ?_ 1 _ rfl; (with_reducible repeat (first | refine blk_drewN ?_ _ | refine blk_drew ?_ | refine blk_alloc ?_ _)); exact BK0.out⟩, ⟨by repeat (first | (with_reducible first | exact HB.out | apply below_alloc | apply pw_below_drewN | apply below_drew1 | refine below_set ?_ GE0.out) | exact HB.out)⟩⟩
  case rest =>
    clear HC3
    try clear c1
    try clear p2
    try clear c5
    try clear c5b0
    try clear c5b1
    try clear c6
    try clear hcz10_0
    try clear hcz10_1
    try clear hcz10_2
    try clear hcz4_0
    try clear hcz4_1
    try clear hcz4_2
    try clear hcz7_0
    try clear hcz7_1
    try clear hcz7_2
    try clear hfz10_0
    try clear hfz10_1
    try clear hfz10_2
    try clear hfz4_0
    try clear hfz4_1
    try clear hfz4_2
    try clear hfz7_0
    try clear hfz7_1
    try clear hfz7_2
    obtain ⟨kq, x1001_2, u1001, HA, HJ2, HO_1001, BK0, HB⟩ := hcut
    cases kq with
    | zero => exact absurd HA.out (by simp [spec_l1Sink_bit.j0])
    | succ kj2 =>
      have H := HA.out
      clear HA
      simp only [spec_l1Sink_bit.j0] at H
      by_cases c11 : a1 = 1
      rotate_left
      · rw [if_neg c11] at H
        have c11b0 : (a1 == 1) = false := beq_eq_false_iff_ne.mpr c11
        have c11b1 : (a1 != 1) = true := bne_iff_ne.mpr c11
        simp only [Option.some.injEq, Prod.mk.injEq] at H
        obtain ⟨rfl, rfl, rfl⟩ := H
        have hcz39_0 : wc.cell? ⟨g, 0, none⟩ = some (.bool s0_0) := (blk_cell BK0.out 0).trans rfl
        have hcz39_1 : wc.cell? ⟨g, 1, none⟩ = some (u1001) := (blk_cell BK0.out 1).trans rfl
        have hcz39_2 : wc.cell? ⟨g, 2, none⟩ = some (.int .i64 s0_2) := (blk_cell BK0.out 2).trans rfl
        have hfz39_0 := blk_frozen BK0.out 0
        have hfz39_1 := blk_frozen BK0.out 1
        have hfz39_2 := blk_frozen BK0.out 2
        go_wp2
        first | go_end0 | ((try simp only [Exit.inBlock, Exit.then]); refine bodyPost_ret (results_none rfl _ _ _) rfl ?_)
        exact ⟨_, by first | rfl | (simp; done), by (with_reducible repeat (first | refine blk_drewN ?_ _ | refine blk_drew ?_ | refine blk_alloc ?_ _)); refine blk_put (cs := #[.bool s0_0, u1001, .int .i64 s0_2]) ?_ 2 _ rfl; (with_reducible repeat (first | refine blk_drewN ?_ _ | refine blk_drew ?_ | refine blk_alloc ?_ _)); exact BK0.out, Kd.R_mono (by (with_reducible repeat (first | apply Kd.R_alloc | apply Kd.R_drewN | apply Kd.R_drew)); exact (Kd.R_mono (Kd.R_far (p := ⟨g, 2, none⟩) (Kd.R_types HO_1001.out BK0.out (by decide)) (fun _ hk => hk.2) (.int .i64 (wrap64 (s0_2 + 1)))) (fun _ h_ => h_.1))) (fun _ _ => trivial), by repeat (first | (with_reducible first | exact HB.out | apply below_alloc | apply pw_below_drewN | apply below_drew1 | refine below_set ?_ GE0.out) | exact HB.out)⟩
      rw [if_pos c11] at H
      have c11b0 : (a1 == 1) = true := beq_iff_eq.mpr c11
      have c11b1 : (a1 != 1) = false := bne_eq_false_iff_eq.mpr c11
      clear c11
      by_cases c12 : s0_0 = true
      rotate_left
      · replace c12 := Bool.eq_false_iff.mpr c12
        subst c12
        have H1 : (if 0 ≤ (wrap64 (Int.tdiv s0_2 8)) then (if (wrap64 (Int.tdiv s0_2 8)) < (x1001_2.length : Int) then (if 0 ≤ (IntKind.u64.wrap (Int.tmod s0_2 8)) then (some (false, (x1001_2.set ((wrap64 (Int.tdiv s0_2 8)) : Int).toNat (Go.bits .or .u8 (rd x1001_2 (wrap64 (Int.tdiv s0_2 8))) (shl .u8 1 (IntKind.u64.wrap (Int.tmod s0_2 8))))), wrap64 (s0_2 + 1))) else (none)) else (none)) else (none)) = some (r1, r2, r3) := by rw [if_neg (show ¬ (false = true) by decide)] at H; exact H
        clear H
        have H := H1
        clear H1
        obtain ⟨ji26, hji26⟩ : ∃ j_ : Int, (wrap64 (Int.tdiv s0_2 8)) = j_ := ⟨_, rfl⟩
        replace H : (if 0 ≤ (ji26) then (if (ji26) < (x1001_2.length : Int) then (if 0 ≤ (IntKind.u64.wrap (Int.tmod s0_2 8)) then (some (false, (x1001_2.set ((ji26) : Int).toNat (Go.bits .or .u8 (rd x1001_2 (ji26)) (shl .u8 1 (IntKind.u64.wrap (Int.tmod s0_2 8))))), wrap64 (s0_2 + 1))) else (none)) else (none)) else (none)) = some (r1, r2, r3) := by first | (rw [hji26] at H; exact H) | (simp only [hji26] at H ⊢; exact H)
        have hji26w : (IntKind.i64.wrap (Int.tdiv s0_2 8)) = ji26 := (i64_w _).trans hji26
        by_cases c27 : 0 ≤ (ji26)
        rotate_left
        · rw [if_neg c27] at H
          exact absurd H (by simp)
        rw [if_pos c27] at H
        have c27b0 : decide (0 ≤ (ji26)) = true := decide_eq_true c27
        clear c27
        by_cases c28 : (ji26) < (x1001_2.length : Int)
        rotate_left
        · rw [if_neg c28] at H
          exact absurd H (by simp)
        rw [if_pos c28] at H
        have c28b0 : decide ((ji26) < (x1001_2.length : Int)) = true := decide_eq_true c28
        clear c28
        obtain ⟨ji29, hji29⟩ : ∃ j_ : Int, (IntKind.u64.wrap (Int.tmod s0_2 8)) = j_ := ⟨_, rfl⟩
        replace H : (if 0 ≤ (ji29) then (some (false, (x1001_2.set ((ji26) : Int).toNat (Go.bits .or .u8 (rd x1001_2 (ji26)) (shl .u8 1 (ji29)))), wrap64 (s0_2 + 1))) else (none)) = some (r1, r2, r3) := by first | (rw [hji29] at H; exact H) | (simp only [hji29] at H ⊢; exact H)
        by_cases c30 : 0 ≤ (ji29)
        rotate_left
        · rw [if_neg c30] at H
          exact absurd H (by simp)
        rw [if_pos c30] at H
        have c30b0 := eq_true c30
        have c30b1 : decide (0 ≤ (ji29)) = true := decide_eq_true c30
        clear c30
        obtain ⟨ji31, hji31⟩ : ∃ j_ : Int, (shl .u8 1 (ji29)) = j_ := ⟨_, rfl⟩
        replace H : (some (false, (x1001_2.set ((ji26) : Int).toNat (Go.bits .or .u8 (rd x1001_2 (ji26)) (ji31))), wrap64 (s0_2 + 1))) = some (r1, r2, r3) := by first | (rw [hji31] at H; exact H) | (simp only [hji31] at H ⊢; exact H)
        have hji31_ : (IntKind.u8.wrap (1 * 2 ^ min (ji29).toNat 8)) = ji31 := hji31
        have hji31v : (1 * 2 ^ min (ji29).toNat 8) % 256 = ji31 := (IntKind.wrap_u8 _).symm.trans hji31_
        have hji31z : (ji29) ≤ 8 → (IntKind.u8.wrap (1 * 2 ^ (ji29).toNat)) = ji31 := shl_small hji31
        have hji31u : (IntKind.u8.wrap (2 ^ min (ji29).toNat 8)) = ji31 := by have h_ := hji31_; rw [Int.one_mul] at h_; exact h_
        have hji31v : (ji29) ≤ 8 → (IntKind.u8.wrap (2 ^ (ji29).toNat)) = ji31 := fun hle_ => by have h_ := hji31z hle_; rw [Int.one_mul] at h_; exact h_
        obtain ⟨y116, hy116⟩ : ∃ y_ : List Int, y_ = (x1001_2.set ((ji26) : Int).toNat (Go.bits .or .u8 (rd x1001_2 (ji26)) (ji31))) := ⟨_, rfl⟩
        replace H : (some (false, y116, wrap64 (s0_2 + 1))) = some (r1, r2, r3) := by first | (rw [hy116]; with_reducible exact H) | (have H2_ := (Option.bind_some _ _).symm.trans H; rw [hy116]; with_reducible exact H2_) | (have H2_ := (Option.bind_some _ _).symm.trans H; with_reducible exact H2_) | with_reducible exact H | (rw [hy116]; exact H) | exact H
        have Ny116 := Aside0.mk hy116
        clear hy116
        simp only [Option.some.injEq, Prod.mk.injEq] at H
        obtain ⟨rfl, rfl, rfl⟩ := H
        have hcz33_0 : wc.cell? ⟨g, 0, none⟩ = some (.bool false) := (blk_cell BK0.out 0).trans rfl
        have hcz33_1 : wc.cell? ⟨g, 1, none⟩ = some (u1001) := (blk_cell BK0.out 1).trans rfl
        have hcz33_2 : wc.cell? ⟨g, 2, none⟩ = some (.int .i64 s0_2) := (blk_cell BK0.out 2).trans rfl
        have hfz33_0 := blk_frozen BK0.out 0
        have hfz33_1 := blk_frozen BK0.out 1
        have hfz33_2 := blk_frozen BK0.out 2
        try go_wp2
        have n0_ := Aside0.mk (Kd.R_drew HO_1001.out)
        have n1_ := Aside0.mk (blk_drew BK0.out)
        have n2_ := Aside0.mk (below_drew1 HB.out)
        clear HO_1001
        clear BK0
        clear HB
        have HO_1001 := n0_
        have BK0 := n1_
        have HB := n2_
        clear n0_ n1_ n2_
        obtain ⟨Ao35, co35, eo35⟩ := Kd.R_slice HO_1001.out
        (first | subst eo35 | (injection eo35 with f1_ f2_ f3_; have f4_ := f1_.symm; have f5_ := f3_.symm; clear f1_ f2_ f3_; subst f4_; subst f5_))
        have p115 : 0 ≤ ((ji26) : Int) := of_decide_eq_true (by first | (with_reducible assumption) | assumption)
        have q115 : (ji26) < (x1001_2.length : Int) := of_decide_eq_true (by first | (with_reducible assumption) | assumption)
        obtain ⟨ad115, e115, hx115_0⟩ := Kd.at_int (Kd.R_reads' HO_1001.out).2.2 (ji26) p115 q115
        cases e115
        replace p115 := eq_true p115
        replace q115 := eq_true q115
        have p32 : 0 ≤ ((ji26) : Int) := of_decide_eq_true (by first | (with_reducible assumption) | assumption)
        have q32 : ((ji26) : Int) < ((x1001_2.length : Int) : Int) := of_decide_eq_true (by first | (with_reducible assumption) | assumption)
        obtain ⟨go32, co32, eo32, gb32, gl32, cl32, HG32⟩ := Kd.R_form HO_1001.out (by omega)
        (first | cases eo32 | (injection eo32 with ea_ en_ ec_; (first | subst ea_ | (injection ea_ with ea_; subst ea_)); subst ec_; clear en_))
        have GB32 := Aside0.mk gb32
        have GG32 := Aside0.mk HG32
        clear gb32 gl32 HG32
        (first | simp only [add_plain] at hx115_0 | skip)
        obtain ⟨hx32_0, hf32_0⟩ := Kd.R_celln 0 HO_1001.out ((ji26) : Int) p32 q32
        replace p32 := eq_true p32
        replace q32 := eq_true q32
        have HP36 := Kd.R_putn HO_1001.out ((ji26) : Int) (Go.bits .or .u8 (rd x1001_2 (ji26)) (ji31))
        rw [← Ny116.out] at HP36
        have HQ36 := Aside0.mk HP36
        clear HP36
        refine start_ (n := 16) (S := fun w' => w'.cell? ⟨g, 0, none⟩ = some (.bool false) ∧ w'.cell? ⟨g, 1, none⟩ = some (.slice (some ⟨go32, 0, none⟩) x1001_2.length co35) ∧ w'.cell? ⟨g, 2, none⟩ = some (.int .i64 s0_2) ∧ w'.cell? ⟨go32, ((ji26)).toNat, none⟩ = some (.int .u8 (rd x1001_2 (ji26)))) (ds := [15]) #[false, false, false, false, false, false, false, false, false, false, false, false, false, false, false, false] (by kernel_rfl) rfl rfl ⟨(blk_cell BK0.out 0).trans rfl, (blk_cell BK0.out 1).trans rfl, (blk_cell BK0.out 2).trans rfl, hx115_0⟩ (fun hHeld => ?_); refine with_tabW spec_l1Sink_bit.tab6 spec_l1Sink_bit.bits6 (fun HT_ HW_ => ?_)
        generalize wc.drew = w34 at HO_1001 BK0 HB GG32 HQ36 hf32_0 hx115_0 hx32_0 hHeld ⊢
        refine pure_ (i := 0) (N := some 34) (v := ?_) (a' := ?_) #[true, false, false, false, false, false, false, false, false, false, false, false, false, false, false, false] rfl rfl (any_of HT_.out (by kernel_rfl)) (fun _ _ _ h => h) (Or.inl ⟨by rfl, ?_⟩) ?_ ?_
        rotate_left
        · intro w'
          go_simp
          with_reducible rfl
        rotate_left
        · simp only [Act.put, List.setIfInBounds_toArray, List.set_cons_zero, List.set_cons_succ, i64_w, i32_w]
          rfl
        refine pure_ (i := 1) (N := some 35) (v := ?_) (a' := ?_) #[true, true, false, false, false, false, false, false, false, false, false, false, false, false, false, false] rfl rfl (any_of HT_.out (by kernel_rfl)) (fun _ _ _ h => h) (Or.inl ⟨by rfl, ?_⟩) ?_ ?_
        rotate_left
        · intro w'
          go_simp
          with_reducible rfl
        rotate_left
        · simp only [Act.put, List.setIfInBounds_toArray, List.set_cons_zero, List.set_cons_succ, i64_w, i32_w]
          rfl
        refine pure_ (i := 2) (N := some 36) (v := ?_) (a' := ?_) #[true, true, true, false, false, false, false, false, false, false, false, false, false, false, false, false] rfl rfl (any_of HT_.out (by kernel_rfl)) (fun _ _ _ h => h) (Or.inl ⟨by rfl, ?_⟩) ?_ ?_
        rotate_left
        · intro w'
          go_simp
          with_reducible rfl
        rotate_left
        · simp only [Act.put, List.setIfInBounds_toArray, List.set_cons_zero, List.set_cons_succ, i64_w, i32_w]
          rfl
        refine pure_ (i := 4) (N := some 38) (v := ?_) (a' := ?_) #[true, true, true, false, true, false, false, false, false, false, false, false, false, false, false, false] rfl rfl (any_of HT_.out (by kernel_rfl)) (fun _ _ _ h => h) (Or.inl ⟨by rfl, ?_⟩) ?_ ?_
        rotate_left
        · intro w'
          go_simp
          with_reducible rfl
        rotate_left
        · simp only [Act.put, List.setIfInBounds_toArray, List.set_cons_zero, List.set_cons_succ, i64_w, i32_w]
          rfl
        refine pure_ (i := 5) (N := some 39) (v := ?_) (a' := ?_) #[true, true, true, false, true, true, false, false, false, false, false, false, false, false, false, false] rfl rfl (any_of HT_.out (by kernel_rfl)) (fun _ _ _ h => h) (Or.inl ⟨by rfl, ?_⟩) ?_ ?_
        rotate_left
        · intro w'
          go_simp
          with_reducible rfl
        rotate_left
        · simp only [Act.put, List.setIfInBounds_toArray, List.set_cons_zero, List.set_cons_succ, i64_w, i32_w]
          rfl
        refine pure_ (i := 6) (N := some 40) (v := ?_) (a' := ?_) #[true, true, true, false, true, true, true, false, false, false, false, false, false, false, false, false] rfl rfl (any_of HT_.out (by kernel_rfl)) (fun _ _ _ h => h) (Or.inl ⟨by rfl, ?_⟩) ?_ ?_
        rotate_left
        · intro w'
          go_simp
          with_reducible rfl
        rotate_left
        · simp only [Act.put, List.setIfInBounds_toArray, List.set_cons_zero, List.set_cons_succ, i64_w, i32_w]
          rfl
        refine pure_ (i := 11) (N := some 45) (v := ?_) (a' := ?_) #[true, true, true, false, true, true, true, false, false, false, false, true, false, false, false, false] rfl rfl (any_of HT_.out (by kernel_rfl)) (fun _ _ _ h => h) (Or.inl ⟨by rfl, ?_⟩) ?_ ?_
        rotate_left
        · intro w'
          go_simp
          with_reducible rfl
        rotate_left
        · simp only [Act.put, List.setIfInBounds_toArray, List.set_cons_zero, List.set_cons_succ, i64_w, i32_w]
          rfl
        refine pure_ (i := 12) (N := some 46) (v := ?_) (a' := ?_) #[true, true, true, false, true, true, true, false, false, false, false, true, true, false, false, false] rfl rfl (any_of HT_.out (by kernel_rfl)) (fun _ _ _ h => h) (Or.inl ⟨by rfl, ?_⟩) ?_ ?_
        rotate_left
        · intro w'
          go_simp
          with_reducible rfl
        rotate_left
        · simp only [Act.put, List.setIfInBounds_toArray, List.set_cons_zero, List.set_cons_succ, i64_w, i32_w]
          rfl
        refine take_ (i := 3) (N := some 37) (v := ?_) (a' := ?_) #[true, true, true, true, true, true, true, false, false, false, false, true, true, false, false, false] rfl rfl (take_ofW HT_.out HW_.out (by kernel_rfl)) (fun _ _ _ h => h) (Or.inl ⟨by rfl, ?_⟩) hHeld ?_ ?_
        rotate_left
        · rintro w' ⟨s0, s1, s2, s3⟩
          go_simp
          with_reducible rfl
        rotate_left
        · simp only [Act.put, List.setIfInBounds_toArray, List.set_cons_zero, List.set_cons_succ, i64_w, i32_w]
          rfl
        refine take_ (i := 7) (N := some 41) (v := ?_) (a' := ?_) #[true, true, true, true, true, true, true, true, false, false, false, true, true, false, false, false] rfl rfl (take_ofW HT_.out HW_.out (by kernel_rfl)) (fun _ _ _ h => h) (Or.inl ⟨by rfl, ?_⟩) hHeld ?_ ?_
        rotate_left
        · rintro w' ⟨s0, s1, s2, s3⟩
          go_simp
          with_reducible rfl
        rotate_left
        · simp only [Act.put, List.setIfInBounds_toArray, List.set_cons_zero, List.set_cons_succ, i64_w, i32_w]
          rfl
        refine pure_ (i := 8) (N := some 42) (v := ?_) (a' := ?_) #[true, true, true, true, true, true, true, true, true, false, false, true, true, false, false, false] rfl rfl (any_of HT_.out (by kernel_rfl)) (fun _ _ _ h => h) (Or.inl ⟨by rfl, ?_⟩) ?_ ?_
        rotate_left
        · intro w'
          go_simp
          with_reducible rfl
        rotate_left
        · simp only [Act.put, List.setIfInBounds_toArray, List.set_cons_zero, List.set_cons_succ, i64_w, i32_w]
          rfl
        refine pure_ (i := 9) (N := some 43) (v := ?_) (a' := ?_) #[true, true, true, true, true, true, true, true, true, true, false, true, true, false, false, false] rfl rfl (any_of HT_.out (by kernel_rfl)) (fun _ _ _ h => h) (Or.inl ⟨by rfl, ?_⟩) ?_ ?_
        rotate_left
        · intro w'
          go_simp
          with_reducible rfl
        rotate_left
        · simp only [Act.put, List.setIfInBounds_toArray, List.set_cons_zero, List.set_cons_succ, i64_w, i32_w]
          rfl
        refine take_ (i := 10) (N := some 44) (v := ?_) (a' := ?_) #[true, true, true, true, true, true, true, true, true, true, true, true, true, false, false, false] rfl rfl (take_ofW HT_.out HW_.out (by kernel_rfl)) (fun _ _ _ h => h) (Or.inl ⟨by rfl, ?_⟩) hHeld ?_ ?_
        rotate_left
        · rintro w' ⟨s0, s1, s2, s3⟩
          go_simp
          with_reducible rfl
        rotate_left
        · simp only [Act.put, List.setIfInBounds_toArray, List.set_cons_zero, List.set_cons_succ, i64_w, i32_w]
          rfl
        refine pure_ (i := 13) (N := some 47) (v := ?_) (a' := ?_) #[true, true, true, true, true, true, true, true, true, true, true, true, true, true, false, false] rfl rfl (any_of HT_.out (by kernel_rfl)) (fun _ _ _ h => h) (Or.inl ⟨by rfl, ?_⟩) ?_ ?_
        rotate_left
        · intro w'
          go_simp
          with_reducible rfl
        rotate_left
        · simp only [Act.put, List.setIfInBounds_toArray, List.set_cons_zero, List.set_cons_succ, i64_w, i32_w]
          rfl
        refine pure_ (i := 14) (N := some 48) (v := ?_) (a' := ?_) #[true, true, true, true, true, true, true, true, true, true, true, true, true, true, true, false] rfl rfl (any_of HT_.out (by kernel_rfl)) (fun _ _ _ h => h) (Or.inl ⟨by rfl, ?_⟩) ?_ ?_
        rotate_left
        · intro w'
          go_simp
          with_reducible rfl
        rotate_left
        · simp only [Act.put, List.setIfInBounds_toArray, List.set_cons_zero, List.set_cons_succ, i64_w, i32_w]
          rfl
        refine last_ (i := 15) (N := none) #[true, true, true, true, true, true, true, true, true, true, true, true, true, true, true, true] rfl rfl (one_of HT_.out (by kernel_rfl)) (by decide) (fun K hK => ?_)
        refine skip_ (w1 := ?_) (by rfl) rfl ?_ ?_
        rotate_left
        · go_simp
          rfl
        refine hK.out _ _ ?_
        clear hK K
        refine done_ (done_of HT_.out (by kernel_rfl)) ?_
        have n0_ : Aside0 (Kd.R (Kd.int .u8) 5 (w34.setCell ⟨go32, ((ji26) : Int).toNat, none⟩ (.int .u8 (Go.bits .or .u8 (rd x1001_2 (ji26)) (ji31)))) w.heap.size (fun _ => True) (.slice (some ⟨go32, 0, none⟩) x1001_2.length co35) y116) := ⟨by (with_reducible repeat (first | apply Kd.R_alloc | apply Kd.R_drewN | apply Kd.R_drew)); exact HQ36.out⟩
        have n1_ : Aside0 ((w34.setCell ⟨go32, ((ji26) : Int).toNat, none⟩ (.int .u8 (Go.bits .or .u8 (rd x1001_2 (ji26)) (ji31)))).heap[g]? = some (.cells #[.bool false, .slice (some ⟨go32, 0, none⟩) x1001_2.length co35, .int .i64 s0_2] 95 (0, 0))) := ⟨by (with_reducible repeat (first | refine blk_drewN ?_ _ | refine blk_drew ?_ | refine blk_alloc ?_ _)); refine blk_far ?_ (by have h_ := Kd.R_ne HO_1001.out BK0.out (by decide); intro e_; exact h_ (by rw [e_]; rfl)) _; (with_reducible repeat (first | refine blk_drewN ?_ _ | refine blk_drew ?_ | refine blk_alloc ?_ _)); exact BK0.out⟩
        have n2_ : Aside0 (Below w.heap.size w (w34.setCell ⟨go32, ((ji26) : Int).toNat, none⟩ (.int .u8 (Go.bits .or .u8 (rd x1001_2 (ji26)) (ji31))))) := ⟨by repeat (first | (with_reducible first | exact HB.out | apply below_alloc | apply pw_below_drewN | apply below_drew1 | refine below_set ?_ GB32.out | refine below_set ?_ GE0.out) | exact HB.out)⟩
        (try clear HO_1001)
        (try clear BK0)
        (try clear HB)
        (try simp only [IntKind.wrap_u8, hji31v])
        (try (have hji31y := (IntKind.wrap_u8 _).symm.trans (hji31z (by first | omega | (have h_ := Int.tmod_lt_of_pos s0_1 (show (0 : Int) < 8 by decide); omega))); simp only [IntKind.wrap_u8, hji31y]))
        generalize (w34.setCell ⟨go32, ((ji26) : Int).toNat, none⟩ (.int .u8 (Go.bits .or .u8 (rd x1001_2 (ji26)) (ji31)))) = w37 at n0_ n1_ n2_ ⊢
        have HO_1001 := n0_
        have BK0 := n1_
        have HB := n2_
        clear n0_ n1_ n2_
        have hcz38_0 : w37.cell? ⟨g, 0, none⟩ = some (.bool false) := (blk_cell BK0.out 0).trans rfl
        have hcz38_1 : w37.cell? ⟨g, 1, none⟩ = some (.slice (some ⟨go32, 0, none⟩) x1001_2.length co35) := (blk_cell BK0.out 1).trans rfl
        have hcz38_2 : w37.cell? ⟨g, 2, none⟩ = some (.int .i64 s0_2) := (blk_cell BK0.out 2).trans rfl
        have hfz38_0 := blk_frozen BK0.out 0
        have hfz38_1 := blk_frozen BK0.out 1
        have hfz38_2 := blk_frozen BK0.out 2
        try go_wp2
        first | go_end0 | ((try simp only [Exit.inBlock, Exit.then]); refine bodyPost_ret (results_none rfl _ _ _) rfl ?_)
        exact ⟨_, by first | rfl | (simp; done), by (with_reducible repeat (first | refine blk_drewN ?_ _ | refine blk_drew ?_ | refine blk_alloc ?_ _)); refine blk_put (cs := #[.bool false, .slice (some ⟨go32, 0, none⟩) x1001_2.length co35, .int .i64 s0_2]) ?_ 2 _ rfl; (with_reducible repeat (first | refine blk_drewN ?_ _ | refine blk_drew ?_ | refine blk_alloc ?_ _)); exact BK0.out, Kd.R_mono (by (with_reducible repeat (first | apply Kd.R_alloc | apply Kd.R_drewN | apply Kd.R_drew)); exact (Kd.R_mono (Kd.R_far (p := ⟨g, 2, none⟩) (Kd.R_types HO_1001.out BK0.out (by decide)) (fun _ hk => hk.2) (.int .i64 (wrap64 (s0_2 + 1)))) (fun _ h_ => h_.1))) (fun _ _ => trivial), by repeat (first | (with_reducible first | exact HB.out | apply below_alloc | apply pw_below_drewN | apply below_drew1 | refine below_set ?_ GE0.out) | exact HB.out)⟩
      subst c12
      have H1 : (if 0 ≤ (wrap64 (Int.tdiv s0_2 8)) then (if (wrap64 (Int.tdiv s0_2 8)) < (x1001_2.length : Int) then (if 0 ≤ (IntKind.u64.wrap (7 - (IntKind.u64.wrap (Int.tmod s0_2 8)))) then (some (true, (x1001_2.set ((wrap64 (Int.tdiv s0_2 8)) : Int).toNat (Go.bits .or .u8 (rd x1001_2 (wrap64 (Int.tdiv s0_2 8))) (shl .u8 1 (IntKind.u64.wrap (7 - (IntKind.u64.wrap (Int.tmod s0_2 8))))))), wrap64 (s0_2 + 1))) else (none)) else (none)) else (none)) = some (r1, r2, r3) := by rw [if_pos rfl] at H; exact H
      clear H
      have H := H1
      clear H1
      obtain ⟨ji13, hji13⟩ : ∃ j_ : Int, (wrap64 (Int.tdiv s0_2 8)) = j_ := ⟨_, rfl⟩
      replace H : (if 0 ≤ (ji13) then (if (ji13) < (x1001_2.length : Int) then (if 0 ≤ (IntKind.u64.wrap (7 - (IntKind.u64.wrap (Int.tmod s0_2 8)))) then (some (true, (x1001_2.set ((ji13) : Int).toNat (Go.bits .or .u8 (rd x1001_2 (ji13)) (shl .u8 1 (IntKind.u64.wrap (7 - (IntKind.u64.wrap (Int.tmod s0_2 8))))))), wrap64 (s0_2 + 1))) else (none)) else (none)) else (none)) = some (r1, r2, r3) := by first | (rw [hji13] at H; exact H) | (simp only [hji13] at H ⊢; exact H)
      have hji13w : (IntKind.i64.wrap (Int.tdiv s0_2 8)) = ji13 := (i64_w _).trans hji13
      by_cases c14 : 0 ≤ (ji13)
      rotate_left
      · rw [if_neg c14] at H
        exact absurd H (by simp)
      rw [if_pos c14] at H
      have c14b0 : decide (0 ≤ (ji13)) = true := decide_eq_true c14
      clear c14
      by_cases c15 : (ji13) < (x1001_2.length : Int)
      rotate_left
      · rw [if_neg c15] at H
        exact absurd H (by simp)
      rw [if_pos c15] at H
      have c15b0 : decide ((ji13) < (x1001_2.length : Int)) = true := decide_eq_true c15
      clear c15
      obtain ⟨ji16, hji16⟩ : ∃ j_ : Int, (IntKind.u64.wrap (7 - (IntKind.u64.wrap (Int.tmod s0_2 8)))) = j_ := ⟨_, rfl⟩
      replace H : (if 0 ≤ (ji16) then (some (true, (x1001_2.set ((ji13) : Int).toNat (Go.bits .or .u8 (rd x1001_2 (ji13)) (shl .u8 1 (ji16)))), wrap64 (s0_2 + 1))) else (none)) = some (r1, r2, r3) := by first | (rw [hji16] at H; exact H) | (simp only [hji16] at H ⊢; exact H)
      by_cases c17 : 0 ≤ (ji16)
      rotate_left
      · rw [if_neg c17] at H
        exact absurd H (by simp)
      rw [if_pos c17] at H
      have c17b0 := eq_true c17
      have c17b1 : decide (0 ≤ (ji16)) = true := decide_eq_true c17
      clear c17
      obtain ⟨ji18, hji18⟩ : ∃ j_ : Int, (shl .u8 1 (ji16)) = j_ := ⟨_, rfl⟩
      replace H : (some (true, (x1001_2.set ((ji13) : Int).toNat (Go.bits .or .u8 (rd x1001_2 (ji13)) (ji18))), wrap64 (s0_2 + 1))) = some (r1, r2, r3) := by first | (rw [hji18] at H; exact H) | (simp only [hji18] at H ⊢; exact H)
      have hji18_ : (IntKind.u8.wrap (1 * 2 ^ min (ji16).toNat 8)) = ji18 := hji18
      have hji18v : (1 * 2 ^ min (ji16).toNat 8) % 256 = ji18 := (IntKind.wrap_u8 _).symm.trans hji18_
      have hji18z : (ji16) ≤ 8 → (IntKind.u8.wrap (1 * 2 ^ (ji16).toNat)) = ji18 := shl_small hji18
      have hji18u : (IntKind.u8.wrap (2 ^ min (ji16).toNat 8)) = ji18 := by have h_ := hji18_; rw [Int.one_mul] at h_; exact h_
      have hji18v : (ji16) ≤ 8 → (IntKind.u8.wrap (2 ^ (ji16).toNat)) = ji18 := fun hle_ => by have h_ := hji18z hle_; rw [Int.one_mul] at h_; exact h_
      obtain ⟨y114, hy114⟩ : ∃ y_ : List Int, y_ = (x1001_2.set ((ji13) : Int).toNat (Go.bits .or .u8 (rd x1001_2 (ji13)) (ji18))) := ⟨_, rfl⟩
      replace H : (some (true, y114, wrap64 (s0_2 + 1))) = some (r1, r2, r3) := by first | (rw [hy114]; with_reducible exact H) | (have H2_ := (Option.bind_some _ _).symm.trans H; rw [hy114]; with_reducible exact H2_) | (have H2_ := (Option.bind_some _ _).symm.trans H; with_reducible exact H2_) | with_reducible exact H | (rw [hy114]; exact H) | exact H
      have Ny114 := Aside0.mk hy114
      clear hy114
      simp only [Option.some.injEq, Prod.mk.injEq] at H
      obtain ⟨rfl, rfl, rfl⟩ := H
      have hcz20_0 : wc.cell? ⟨g, 0, none⟩ = some (.bool true) := (blk_cell BK0.out 0).trans rfl
      have hcz20_1 : wc.cell? ⟨g, 1, none⟩ = some (u1001) := (blk_cell BK0.out 1).trans rfl
      have hcz20_2 : wc.cell? ⟨g, 2, none⟩ = some (.int .i64 s0_2) := (blk_cell BK0.out 2).trans rfl
      have hfz20_0 := blk_frozen BK0.out 0
      have hfz20_1 := blk_frozen BK0.out 1
      have hfz20_2 := blk_frozen BK0.out 2
      try go_wp2
      have n0_ := Aside0.mk (Kd.R_drew HO_1001.out)
      have n1_ := Aside0.mk (blk_drew BK0.out)
      have n2_ := Aside0.mk (below_drew1 HB.out)
      clear HO_1001
      clear BK0
      clear HB
      have HO_1001 := n0_
      have BK0 := n1_
      have HB := n2_
      clear n0_ n1_ n2_
      obtain ⟨Ao22, co22, eo22⟩ := Kd.R_slice HO_1001.out
      (first | subst eo22 | (injection eo22 with f1_ f2_ f3_; have f4_ := f1_.symm; have f5_ := f3_.symm; clear f1_ f2_ f3_; subst f4_; subst f5_))
      have p113 : 0 ≤ ((ji13) : Int) := of_decide_eq_true (by first | (with_reducible assumption) | assumption)
      have q113 : (ji13) < (x1001_2.length : Int) := of_decide_eq_true (by first | (with_reducible assumption) | assumption)
      obtain ⟨ad113, e113, hx113_0⟩ := Kd.at_int (Kd.R_reads' HO_1001.out).2.2 (ji13) p113 q113
      cases e113
      replace p113 := eq_true p113
      replace q113 := eq_true q113
      have p19 : 0 ≤ ((ji13) : Int) := of_decide_eq_true (by first | (with_reducible assumption) | assumption)
      have q19 : ((ji13) : Int) < ((x1001_2.length : Int) : Int) := of_decide_eq_true (by first | (with_reducible assumption) | assumption)
      obtain ⟨go19, co19, eo19, gb19, gl19, cl19, HG19⟩ := Kd.R_form HO_1001.out (by omega)
      (first | cases eo19 | (injection eo19 with ea_ en_ ec_; (first | subst ea_ | (injection ea_ with ea_; subst ea_)); subst ec_; clear en_))
      have GB19 := Aside0.mk gb19
      have GG19 := Aside0.mk HG19
      clear gb19 gl19 HG19
      (first | simp only [add_plain] at hx113_0 | skip)
      obtain ⟨hx19_0, hf19_0⟩ := Kd.R_celln 0 HO_1001.out ((ji13) : Int) p19 q19
      replace p19 := eq_true p19
      replace q19 := eq_true q19
      have HP23 := Kd.R_putn HO_1001.out ((ji13) : Int) (Go.bits .or .u8 (rd x1001_2 (ji13)) (ji18))
      rw [← Ny114.out] at HP23
      have HQ23 := Aside0.mk HP23
      clear HP23
      refine start_ (n := 16) (S := fun w' => w'.cell? ⟨g, 0, none⟩ = some (.bool true) ∧ w'.cell? ⟨g, 1, none⟩ = some (.slice (some ⟨go19, 0, none⟩) x1001_2.length co22) ∧ w'.cell? ⟨g, 2, none⟩ = some (.int .i64 s0_2) ∧ w'.cell? ⟨go19, ((ji13)).toNat, none⟩ = some (.int .u8 (rd x1001_2 (ji13)))) (ds := [15]) #[false, false, false, false, false, false, false, false, false, false, false, false, false, false, false, false] (by kernel_rfl) rfl rfl ⟨(blk_cell BK0.out 0).trans rfl, (blk_cell BK0.out 1).trans rfl, (blk_cell BK0.out 2).trans rfl, hx113_0⟩ (fun hHeld => ?_); refine with_tabW spec_l1Sink_bit.tab6 spec_l1Sink_bit.bits6 (fun HT_ HW_ => ?_)
      generalize wc.drew = w21 at HO_1001 BK0 HB GG19 HQ23 hf19_0 hx113_0 hx19_0 hHeld ⊢
      refine pure_ (i := 0) (N := some 34) (v := ?_) (a' := ?_) #[true, false, false, false, false, false, false, false, false, false, false, false, false, false, false, false] rfl rfl (any_of HT_.out (by kernel_rfl)) (fun _ _ _ h => h) (Or.inl ⟨by rfl, ?_⟩) ?_ ?_
      rotate_left
      · intro w'
        go_simp
        with_reducible rfl
      rotate_left
      · simp only [Act.put, List.setIfInBounds_toArray, List.set_cons_zero, List.set_cons_succ, i64_w, i32_w]
        rfl
      refine pure_ (i := 1) (N := some 35) (v := ?_) (a' := ?_) #[true, true, false, false, false, false, false, false, false, false, false, false, false, false, false, false] rfl rfl (any_of HT_.out (by kernel_rfl)) (fun _ _ _ h => h) (Or.inl ⟨by rfl, ?_⟩) ?_ ?_
      rotate_left
      · intro w'
        go_simp
        with_reducible rfl
      rotate_left
      · simp only [Act.put, List.setIfInBounds_toArray, List.set_cons_zero, List.set_cons_succ, i64_w, i32_w]
        rfl
      refine pure_ (i := 2) (N := some 36) (v := ?_) (a' := ?_) #[true, true, true, false, false, false, false, false, false, false, false, false, false, false, false, false] rfl rfl (any_of HT_.out (by kernel_rfl)) (fun _ _ _ h => h) (Or.inl ⟨by rfl, ?_⟩) ?_ ?_
      rotate_left
      · intro w'
        go_simp
        with_reducible rfl
      rotate_left
      · simp only [Act.put, List.setIfInBounds_toArray, List.set_cons_zero, List.set_cons_succ, i64_w, i32_w]
        rfl
      refine pure_ (i := 4) (N := some 38) (v := ?_) (a' := ?_) #[true, true, true, false, true, false, false, false, false, false, false, false, false, false, false, false] rfl rfl (any_of HT_.out (by kernel_rfl)) (fun _ _ _ h => h) (Or.inl ⟨by rfl, ?_⟩) ?_ ?_
      rotate_left
      · intro w'
        go_simp
        with_reducible rfl
      rotate_left
      · simp only [Act.put, List.setIfInBounds_toArray, List.set_cons_zero, List.set_cons_succ, i64_w, i32_w]
        rfl
      refine pure_ (i := 5) (N := some 39) (v := ?_) (a' := ?_) #[true, true, true, false, true, true, false, false, false, false, false, false, false, false, false, false] rfl rfl (any_of HT_.out (by kernel_rfl)) (fun _ _ _ h => h) (Or.inl ⟨by rfl, ?_⟩) ?_ ?_
      rotate_left
      · intro w'
        go_simp
        with_reducible rfl
      rotate_left
      · simp only [Act.put, List.setIfInBounds_toArray, List.set_cons_zero, List.set_cons_succ, i64_w, i32_w]
        rfl
      refine pure_ (i := 6) (N := some 40) (v := ?_) (a' := ?_) #[true, true, true, false, true, true, true, false, false, false, false, false, false, false, false, false] rfl rfl (any_of HT_.out (by kernel_rfl)) (fun _ _ _ h => h) (Or.inl ⟨by rfl, ?_⟩) ?_ ?_
      rotate_left
      · intro w'
        go_simp
        with_reducible rfl
      rotate_left
      · simp only [Act.put, List.setIfInBounds_toArray, List.set_cons_zero, List.set_cons_succ, i64_w, i32_w]
        rfl
      refine pure_ (i := 11) (N := some 45) (v := ?_) (a' := ?_) #[true, true, true, false, true, true, true, false, false, false, false, true, false, false, false, false] rfl rfl (any_of HT_.out (by kernel_rfl)) (fun _ _ _ h => h) (Or.inl ⟨by rfl, ?_⟩) ?_ ?_
      rotate_left
      · intro w'
        go_simp
        with_reducible rfl
      rotate_left
      · simp only [Act.put, List.setIfInBounds_toArray, List.set_cons_zero, List.set_cons_succ, i64_w, i32_w]
        rfl
      refine pure_ (i := 12) (N := some 46) (v := ?_) (a' := ?_) #[true, true, true, false, true, true, true, false, false, false, false, true, true, false, false, false] rfl rfl (any_of HT_.out (by kernel_rfl)) (fun _ _ _ h => h) (Or.inl ⟨by rfl, ?_⟩) ?_ ?_
      rotate_left
      · intro w'
        go_simp
        with_reducible rfl
      rotate_left
      · simp only [Act.put, List.setIfInBounds_toArray, List.set_cons_zero, List.set_cons_succ, i64_w, i32_w]
        rfl
      refine take_ (i := 3) (N := some 37) (v := ?_) (a' := ?_) #[true, true, true, true, true, true, true, false, false, false, false, true, true, false, false, false] rfl rfl (take_ofW HT_.out HW_.out (by kernel_rfl)) (fun _ _ _ h => h) (Or.inl ⟨by rfl, ?_⟩) hHeld ?_ ?_
      rotate_left
      · rintro w' ⟨s0, s1, s2, s3⟩
        go_simp
        with_reducible rfl
      rotate_left
      · simp only [Act.put, List.setIfInBounds_toArray, List.set_cons_zero, List.set_cons_succ, i64_w, i32_w]
        rfl
      refine take_ (i := 7) (N := some 41) (v := ?_) (a' := ?_) #[true, true, true, true, true, true, true, true, false, false, false, true, true, false, false, false] rfl rfl (take_ofW HT_.out HW_.out (by kernel_rfl)) (fun _ _ _ h => h) (Or.inl ⟨by rfl, ?_⟩) hHeld ?_ ?_
      rotate_left
      · rintro w' ⟨s0, s1, s2, s3⟩
        go_simp
        with_reducible rfl
      rotate_left
      · simp only [Act.put, List.setIfInBounds_toArray, List.set_cons_zero, List.set_cons_succ, i64_w, i32_w]
        rfl
      refine pure_ (i := 8) (N := some 42) (v := ?_) (a' := ?_) #[true, true, true, true, true, true, true, true, true, false, false, true, true, false, false, false] rfl rfl (any_of HT_.out (by kernel_rfl)) (fun _ _ _ h => h) (Or.inl ⟨by rfl, ?_⟩) ?_ ?_
      rotate_left
      · intro w'
        go_simp
        with_reducible rfl
      rotate_left
      · simp only [Act.put, List.setIfInBounds_toArray, List.set_cons_zero, List.set_cons_succ, i64_w, i32_w]
        rfl
      refine pure_ (i := 9) (N := some 43) (v := ?_) (a' := ?_) #[true, true, true, true, true, true, true, true, true, true, false, true, true, false, false, false] rfl rfl (any_of HT_.out (by kernel_rfl)) (fun _ _ _ h => h) (Or.inl ⟨by rfl, ?_⟩) ?_ ?_
      rotate_left
      · intro w'
        go_simp
        with_reducible rfl
      rotate_left
      · simp only [Act.put, List.setIfInBounds_toArray, List.set_cons_zero, List.set_cons_succ, i64_w, i32_w]
        rfl
      refine take_ (i := 10) (N := some 44) (v := ?_) (a' := ?_) #[true, true, true, true, true, true, true, true, true, true, true, true, true, false, false, false] rfl rfl (take_ofW HT_.out HW_.out (by kernel_rfl)) (fun _ _ _ h => h) (Or.inl ⟨by rfl, ?_⟩) hHeld ?_ ?_
      rotate_left
      · rintro w' ⟨s0, s1, s2, s3⟩
        go_simp
        with_reducible rfl
      rotate_left
      · simp only [Act.put, List.setIfInBounds_toArray, List.set_cons_zero, List.set_cons_succ, i64_w, i32_w]
        rfl
      refine pure_ (i := 13) (N := some 47) (v := ?_) (a' := ?_) #[true, true, true, true, true, true, true, true, true, true, true, true, true, true, false, false] rfl rfl (any_of HT_.out (by kernel_rfl)) (fun _ _ _ h => h) (Or.inl ⟨by rfl, ?_⟩) ?_ ?_
      rotate_left
      · intro w'
        go_simp
        with_reducible rfl
      rotate_left
      · simp only [Act.put, List.setIfInBounds_toArray, List.set_cons_zero, List.set_cons_succ, i64_w, i32_w]
        rfl
      refine pure_ (i := 14) (N := some 48) (v := ?_) (a' := ?_) #[true, true, true, true, true, true, true, true, true, true, true, true, true, true, true, false] rfl rfl (any_of HT_.out (by kernel_rfl)) (fun _ _ _ h => h) (Or.inl ⟨by rfl, ?_⟩) ?_ ?_
      rotate_left
      · intro w'
        go_simp
        with_reducible rfl
      rotate_left
      · simp only [Act.put, List.setIfInBounds_toArray, List.set_cons_zero, List.set_cons_succ, i64_w, i32_w]
        rfl
      refine last_ (i := 15) (N := none) #[true, true, true, true, true, true, true, true, true, true, true, true, true, true, true, true] rfl rfl (one_of HT_.out (by kernel_rfl)) (by decide) (fun K hK => ?_)
      refine skip_ (w1 := ?_) (by rfl) rfl ?_ ?_
      rotate_left
      · go_simp
        rfl
      refine hK.out _ _ ?_
      clear hK K
      refine done_ (done_of HT_.out (by kernel_rfl)) ?_
      have n0_ : Aside0 (Kd.R (Kd.int .u8) 5 (w21.setCell ⟨go19, ((ji13) : Int).toNat, none⟩ (.int .u8 (Go.bits .or .u8 (rd x1001_2 (ji13)) (ji18)))) w.heap.size (fun _ => True) (.slice (some ⟨go19, 0, none⟩) x1001_2.length co22) y114) := ⟨by (with_reducible repeat (first | apply Kd.R_alloc | apply Kd.R_drewN | apply Kd.R_drew)); exact HQ23.out⟩
      have n1_ : Aside0 ((w21.setCell ⟨go19, ((ji13) : Int).toNat, none⟩ (.int .u8 (Go.bits .or .u8 (rd x1001_2 (ji13)) (ji18)))).heap[g]? = some (.cells #[.bool true, .slice (some ⟨go19, 0, none⟩) x1001_2.length co22, .int .i64 s0_2] 95 (0, 0))) := ⟨by (with_reducible repeat (first | refine blk_drewN ?_ _ | refine blk_drew ?_ | refine blk_alloc ?_ _)); refine blk_far ?_ (by have h_ := Kd.R_ne HO_1001.out BK0.out (by decide); intro e_; exact h_ (by rw [e_]; rfl)) _; (with_reducible repeat (first | refine blk_drewN ?_ _ | refine blk_drew ?_ | refine blk_alloc ?_ _)); exact BK0.out⟩
      have n2_ : Aside0 (Below w.heap.size w (w21.setCell ⟨go19, ((ji13) : Int).toNat, none⟩ (.int .u8 (Go.bits .or .u8 (rd x1001_2 (ji13)) (ji18))))) := ⟨by repeat (first | (with_reducible first | exact HB.out | apply below_alloc | apply pw_below_drewN | apply below_drew1 | refine below_set ?_ GB19.out | refine below_set ?_ GE0.out) | exact HB.out)⟩
      (try clear HO_1001)
      (try clear BK0)
      (try clear HB)
      (try simp only [IntKind.wrap_u8, hji18v])
      (try (have hji18y := (IntKind.wrap_u8 _).symm.trans (hji18z (by first | omega | (have h_ := Int.tmod_lt_of_pos s0_1 (show (0 : Int) < 8 by decide); omega))); simp only [IntKind.wrap_u8, hji18y]))
      generalize (w21.setCell ⟨go19, ((ji13) : Int).toNat, none⟩ (.int .u8 (Go.bits .or .u8 (rd x1001_2 (ji13)) (ji18)))) = w24 at n0_ n1_ n2_ ⊢
      have HO_1001 := n0_
      have BK0 := n1_
      have HB := n2_
      clear n0_ n1_ n2_
      have hcz25_0 : w24.cell? ⟨g, 0, none⟩ = some (.bool true) := (blk_cell BK0.out 0).trans rfl
      have hcz25_1 : w24.cell? ⟨g, 1, none⟩ = some (.slice (some ⟨go19, 0, none⟩) x1001_2.length co22) := (blk_cell BK0.out 1).trans rfl
      have hcz25_2 : w24.cell? ⟨g, 2, none⟩ = some (.int .i64 s0_2) := (blk_cell BK0.out 2).trans rfl
      have hfz25_0 := blk_frozen BK0.out 0
      have hfz25_1 := blk_frozen BK0.out 1
      have hfz25_2 := blk_frozen BK0.out 2
      try go_wp2
      first | go_end0 | ((try simp only [Exit.inBlock, Exit.then]); refine bodyPost_ret (results_none rfl _ _ _) rfl ?_)
      exact ⟨_, by first | rfl | (simp; done), by (with_reducible repeat (first | refine blk_drewN ?_ _ | refine blk_drew ?_ | refine blk_alloc ?_ _)); refine blk_put (cs := #[.bool true, .slice (some ⟨go19, 0, none⟩) x1001_2.length co22, .int .i64 s0_2]) ?_ 2 _ rfl; (with_reducible repeat (first | refine blk_drewN ?_ _ | refine blk_drew ?_ | refine blk_alloc ?_ _)); exact BK0.out, Kd.R_mono (by (with_reducible repeat (first | apply Kd.R_alloc | apply Kd.R_drewN | apply Kd.R_drew)); exact (Kd.R_mono (Kd.R_far (p := ⟨g, 2, none⟩) (Kd.R_types HO_1001.out BK0.out (by decide)) (fun _ hk => hk.2) (.int .i64 (wrap64 (s0_2 + 1)))) (fun _ h_ => h_.1))) (fun _ _ => trivial), by repeat (first | (with_reducible first | exact HB.out | apply below_alloc | apply pw_below_drewN | apply below_drew1 | refine below_set ?_ GE0.out) | exact HB.out)⟩

/-! ### spec_l1Sink_put: function 72 -/
def spec_l1Sink_put.l0 : Nat → Int → Int → Int → Bool → List Int → Int → Option (Bool × List Int × Int)
  | 0, _, _, _, _, _, _ => none
  | k + 1, x1, x2, x6, x1000, x1001, x1002 => if x6 < x1 then (if x1000 = true then (if 0 ≤ (IntKind.u64.wrap (wrap64 ((wrap64 (x1 - 1)) - x6))) then ((spec_l1Sink_bit.f k x1000 x1001 x1002 (Go.bits .and .u64 (shr .u64 x2 (IntKind.u64.wrap (wrap64 ((wrap64 (x1 - 1)) - x6)))) 1)).bind fun bt117 => (spec_l1Sink_put.l0 k x1 x2 (wrap64 (x6 + 1)) bt117.1 bt117.2.1 bt117.2.2)) else (none)) else (if 0 ≤ (IntKind.u64.wrap (x6)) then ((spec_l1Sink_bit.f k x1000 x1001 x1002 (Go.bits .and .u64 (shr .u64 x2 (IntKind.u64.wrap (x6))) 1)).bind fun bt122 => (spec_l1Sink_put.l0 k x1 x2 (wrap64 (x6 + 1)) bt122.1 bt122.2.1 bt122.2.2)) else (none))) else (some (x1000, x1001, x1002))
def spec_l1Sink_put.f (k : Nat) (s0_0 : Bool) (s0_1 : List Int) (s0_2 : Int) (a1 : Int) (a2 : Int) : Option (Bool × List Int × Int) := spec_l1Sink_put.l0 k a1 a2 0 s0_0 s0_1 s0_2
theorem spec_l1Sink_put.mono_l : ∀ k, (∀ y0 y1 y2 y3 y4 y5, LeO (spec_l1Sink_put.l0 k y0 y1 y2 y3 y4 y5) (spec_l1Sink_put.l0 (k + 1) y0 y1 y2 y3 y4 y5))
  | 0 => fun _ _ _ _ _ _ r h => by simp [spec_l1Sink_put.l0] at h
  | k + 1 => by
    have ih0 := spec_l1Sink_put.mono_l k
    · intro y0 y1 y2 y3 y4 y5
      unfold spec_l1Sink_put.l0
      repeat' first
      | (with_reducible exact ih0 _ _ _ _ _ _)
      | (with_reducible exact spec_l1Sink_bit.mono _ _ _ _ _)
      | (with_reducible exact LeO.refl _)
      | (with_reducible exact LeO.none _)
      | (with_reducible refine LeO.ite ?_ ?_)
      | (with_reducible refine LeO.bind ?_ (fun _ => ?_))
      | exact ih0 _ _ _ _ _ _
      | exact spec_l1Sink_bit.mono _ _ _ _ _
      | exact LeO.none _
      | refine LeO.ite ?_ ?_
      | refine LeO.bind ?_ (fun _ => ?_)
theorem spec_l1Sink_put.mono : ∀ a0 a1 a2 a3 a4 k, LeO (spec_l1Sink_put.f k a0 a1 a2 a3 a4) (spec_l1Sink_put.f (k + 1) a0 a1 a2 a3 a4) := by
  intro a0 a1 a2 a3 a4 k
  have ih0 := spec_l1Sink_put.mono_l k
  unfold spec_l1Sink_put.f
  repeat' first
      | (with_reducible exact ih0 _ _ _ _ _ _)
      | (with_reducible exact spec_l1Sink_bit.mono _ _ _ _ _)
      | (with_reducible exact LeO.refl _)
      | (with_reducible exact LeO.none _)
      | (with_reducible refine LeO.ite ?_ ?_)
      | (with_reducible refine LeO.bind ?_ (fun _ => ?_))
      | exact ih0 _ _ _ _ _ _
      | exact spec_l1Sink_bit.mono _ _ _ _ _
      | exact LeO.none _
      | refine LeO.ite ?_ ?_
      | refine LeO.bind ?_ (fun _ => ?_)
set_option maxHeartbeats 8000000 in
set_option maxRecDepth 100000 in
theorem spec_l1Sink_put.calls (k : Nat) (g : Nat) (s0_0 : Bool) (s0_1 : List Int) (s0_2 : Int) (a1 : Int) (a2 : Int) (r1 : Bool) (r2 : List Int) (r3 : Int) (w : World) (wa : World) (hB : Below w.heap.size w wa) (hG : w.heap.size ≤ g) (u901_ : Value) (hbb : wa.heap[g]? = some (.cells #[.bool s0_0, u901_, .int .i64 s0_2] 95 (0, 0))) (hob1 : Kd.R (Kd.int .u8) 5 wa w.heap.size (fun _ => True) u901_ s0_1) (h : spec_l1Sink_put.f k s0_0 s0_1 s0_2 a1 a2 = some (r1, r2, r3)) :
    Calls Try.prog 72 #[.pointer (some ⟨g, 0, none⟩), .int .i64 a1, .int .u64 a2] wa fun e w' => ∃ vb1_ : Value, e = .returned (.tuple #[]) ∧ w'.heap[g]? = some (.cells #[.bool r1, vb1_, .int .i64 r3] 95 (0, 0)) ∧ Kd.R (Kd.int .u8) 5 w' w.heap.size (fun _ => True) vb1_ r2 ∧ Below w.heap.size w w' := by
  have HB := Aside0.mk hB
  have GW0 := Aside0.mk hG
  have GE0 := Aside0.mk hG
  have BK0 := Aside0.mk hbb
  have HOb1 := Aside0.mk hob1
  clear hob1
  clear hB hG hbb
  have H : (spec_l1Sink_put.l0 k a1 a2 0 s0_0 s0_1 s0_2) = some (r1, r2, r3) := h
  clear h
  have H' := Aside0.mk H
  clear H
  go_enter Try.func72, Try.ntmps72
  go_wp2
  go_loopg [6] k (fun kq v6 w' => ∃ (x6_1 : Int) (x1000_1 : Bool) (x1001_1 : List Int) (x1002_1 : Int) (u1001 : Value), v6 = .int .i64 x6_1 ∧ Aside0 (spec_l1Sink_put.l0 kq a1 a2 x6_1 x1000_1 x1001_1 x1002_1 = some (r1, r2, r3)) ∧ Aside0 (kq ≤ k) ∧ Aside0 (Kd.R (Kd.int .u8) 5 w' w.heap.size (fun _ => True) u1001 x1001_1) ∧ Aside0 (w'.heap[g]? = some (.cells #[.bool x1000_1, u1001, .int .i64 x1002_1] 95 (0, 0))) ∧ Aside0 (Below w.heap.size w w'))
  case atStart => exact ⟨(0), (s0_0), (s0_1), (s0_2), (u901_), (by first | rfl | (simp; done) | (simp [*]; done)), H', ⟨Nat.le_refl _⟩, ⟨by (with_reducible repeat (first | apply Kd.R_alloc | apply Kd.R_drewN | apply Kd.R_drew)); exact HOb1.out⟩, ⟨by (with_reducible repeat (first | refine blk_drewN ?_ _ | refine blk_drew ?_ | refine blk_alloc ?_ _)); exact BK0.out⟩, ⟨by repeat (first | (with_reducible first | exact HB.out | apply below_alloc | apply pw_below_drewN | apply below_drew1 | refine below_set ?_ GE0.out) | exact HB.out)⟩⟩
  case round =>
    clear H'
    try clear p2
    obtain ⟨x6_1, x1000_1, x1001_1, x1002_1, u1001, rfl, HA, HK1, HO_1001, BK0, HB⟩ := hrel
    cases gk with
    | zero => exact absurd HA.out (by simp [spec_l1Sink_put.l0])
    | succ k1 =>
      have H := HA.out
      clear HA
      simp only [spec_l1Sink_put.l0] at H
      by_cases c4 : x6_1 < a1
      rotate_left
      · rw [if_neg c4] at H
        have c4b0 : decide (x6_1 < a1) = false := decide_eq_false c4
        clear c4
        simp only [Option.some.injEq, Prod.mk.injEq] at H
        obtain ⟨rfl, rfl, rfl⟩ := H
        go_wp2
        first | go_end0 | ((try simp only [Exit.inBlock, Exit.then]); refine bodyPost_ret (results_none rfl _ _ _) rfl ?_)
        exact ⟨_, by first | rfl | (simp; done), by (with_reducible repeat (first | refine blk_drewN ?_ _ | refine blk_drew ?_ | refine blk_alloc ?_ _)); exact BK0.out, Kd.R_mono (by (with_reducible repeat (first | apply Kd.R_alloc | apply Kd.R_drewN | apply Kd.R_drew)); exact HO_1001.out) (fun _ _ => trivial), by repeat (first | (with_reducible first | exact HB.out | apply below_alloc | apply pw_below_drewN | apply below_drew1 | refine below_set ?_ GE0.out) | exact HB.out)⟩
      rw [if_pos c4] at H
      have c4b0 : decide (x6_1 < a1) = true := decide_eq_true c4
      clear c4
      by_cases c5 : x1000_1 = true
      · subst c5
        have H1 : (if 0 ≤ (IntKind.u64.wrap (wrap64 ((wrap64 (a1 - 1)) - x6_1))) then ((spec_l1Sink_bit.f k1 true x1001_1 x1002_1 (Go.bits .and .u64 (shr .u64 a2 (IntKind.u64.wrap (wrap64 ((wrap64 (a1 - 1)) - x6_1)))) 1)).bind fun bt117 => (spec_l1Sink_put.l0 k1 a1 a2 (wrap64 (x6_1 + 1)) bt117.1 bt117.2.1 bt117.2.2)) else (none)) = some (r1, r2, r3) := by rw [if_pos rfl] at H; exact H
        clear H
        have H := H1
        clear H1
        obtain ⟨ji6, hji6⟩ : ∃ j_ : Int, (IntKind.u64.wrap (wrap64 ((wrap64 (a1 - 1)) - x6_1))) = j_ := ⟨_, rfl⟩
        replace H : (if 0 ≤ (ji6) then ((spec_l1Sink_bit.f k1 true x1001_1 x1002_1 (Go.bits .and .u64 (shr .u64 a2 (ji6)) 1)).bind fun bt117 => (spec_l1Sink_put.l0 k1 a1 a2 (wrap64 (x6_1 + 1)) bt117.1 bt117.2.1 bt117.2.2)) else (none)) = some (r1, r2, r3) := by first | (rw [hji6] at H; exact H) | (simp only [hji6] at H ⊢; exact H)
        by_cases c7 : 0 ≤ (ji6)
        rotate_left
        · rw [if_neg c7] at H
          exact absurd H (by simp)
        rw [if_pos c7] at H
        have c7b0 := eq_true c7
        have c7b1 : decide (0 ≤ (ji6)) = true := decide_eq_true c7
        clear c7
        obtain ⟨ji8, hji8⟩ : ∃ j_ : Int, (shr .u64 a2 (ji6)) = j_ := ⟨_, rfl⟩
        replace H : ((spec_l1Sink_bit.f k1 true x1001_1 x1002_1 (Go.bits .and .u64 (ji8) 1)).bind fun bt117 => (spec_l1Sink_put.l0 k1 a1 a2 (wrap64 (x6_1 + 1)) bt117.1 bt117.2.1 bt117.2.2)) = some (r1, r2, r3) := by first | (rw [hji8] at H; exact H) | (simp only [hji8] at H ⊢; exact H)
        have hji8_ : (a2 / 2 ^ min (ji6).toNat 64) = ji8 := hji8
        have hji8z : (ji6) ≤ 64 → (a2 / 2 ^ (ji6).toNat) = ji8 := shr_small hji8
        replace H := Option.bind_eq_some_iff.mp H
        obtain ⟨⟨t117, t118, t121⟩, A90, H⟩ := H
        replace H : (spec_l1Sink_put.l0 k1 a1 a2 (wrap64 (x6_1 + 1)) t117 t118 t121) = some (r1, r2, r3) := H
        have A9 := Aside0.mk A90
        clear A90
        have H' := Aside0.mk H
        clear H
        have hcz10_0 : wr.cell? ⟨g, 0, none⟩ = some (.bool true) := (blk_cell BK0.out 0).trans rfl
        have hcz10_1 : wr.cell? ⟨g, 1, none⟩ = some (u1001) := (blk_cell BK0.out 1).trans rfl
        have hcz10_2 : wr.cell? ⟨g, 2, none⟩ = some (.int .i64 x1002_1) := (blk_cell BK0.out 2).trans rfl
        have hfz10_0 := blk_frozen BK0.out 0
        have hfz10_1 := blk_frozen BK0.out 1
        have hfz10_2 := blk_frozen BK0.out 2
        obtain ⟨Ao12, co12, eo12⟩ := Kd.R_slice HO_1001.out
        subst eo12
        go_wp2_with (first | (go_at_call 130; (refine (spec_l1Sink_bit.calls k1 g true x1001_1 x1002_1 (Go.bits .and .u64 (ji8) 1) t117 t118 t121 w _ ?side1 ?side2 (.slice Ao12 x1001_1.length co12) ?side3 ?side4 A9.out).mono ?_); (case side1 => repeat (first | (with_reducible first | exact HB.out | apply below_alloc | apply pw_below_drewN | apply below_drew1 | refine below_set ?_ GE0.out) | exact HB.out)); (case side2 => exact GE0.out); (case side3 => exact (by (with_reducible repeat (first | refine blk_drewN ?_ _ | refine blk_drew ?_ | refine blk_alloc ?_ _)); exact BK0.out)); (case side4 => exact Kd.R_mono (by (with_reducible repeat (first | apply Kd.R_alloc | apply Kd.R_drewN | apply Kd.R_drew)); exact HO_1001.out) (fun _ _ => trivial)); rintro e w11 ⟨v119, rfl, hbx, ho0, hb⟩; have n0_ := Aside0.mk (hbx); have n1_ := Aside0.mk (ho0); have n2_ := Aside0.mk (hb); clear BK0; clear HB; clear HO_1001; have BK0 := n0_; have HO120 := n1_; have HB := n2_; clear n0_ n1_ n2_; (try clear hb); (try clear hbx); (try clear ho0)))
        go_roundg k1
        case measure => have := HK1.out; omega
        case rel => exact ⟨(wrap64 (x6_1 + 1)), (t117), (t118), (t121), (v119), (by first | rfl | (simp; done) | (simp [*]; done)), H', ⟨by have := HK1.out; omega⟩, ⟨by (with_reducible repeat (first | apply Kd.R_alloc | apply Kd.R_drewN | apply Kd.R_drew)); exact HO120.out⟩, ⟨by (with_reducible repeat (first | refine blk_drewN ?_ _ | refine blk_drew ?_ | refine blk_alloc ?_ _)); exact BK0.out⟩, ⟨by repeat (first | (with_reducible first | exact HB.out | apply below_alloc | apply pw_below_drewN | apply below_drew1 | refine below_set ?_ GE0.out) | exact HB.out)⟩⟩
      replace c5 := Bool.eq_false_iff.mpr c5
      subst c5
      have H1 : (if 0 ≤ (IntKind.u64.wrap (x6_1)) then ((spec_l1Sink_bit.f k1 false x1001_1 x1002_1 (Go.bits .and .u64 (shr .u64 a2 (IntKind.u64.wrap (x6_1))) 1)).bind fun bt122 => (spec_l1Sink_put.l0 k1 a1 a2 (wrap64 (x6_1 + 1)) bt122.1 bt122.2.1 bt122.2.2)) else (none)) = some (r1, r2, r3) := by rw [if_neg (show ¬ (false = true) by decide)] at H; exact H
      clear H
      have H := H1
      clear H1
      obtain ⟨ji13, hji13⟩ : ∃ j_ : Int, (IntKind.u64.wrap (x6_1)) = j_ := ⟨_, rfl⟩
      replace H : (if 0 ≤ (ji13) then ((spec_l1Sink_bit.f k1 false x1001_1 x1002_1 (Go.bits .and .u64 (shr .u64 a2 (ji13)) 1)).bind fun bt122 => (spec_l1Sink_put.l0 k1 a1 a2 (wrap64 (x6_1 + 1)) bt122.1 bt122.2.1 bt122.2.2)) else (none)) = some (r1, r2, r3) := by first | (rw [hji13] at H; exact H) | (simp only [hji13] at H ⊢; exact H)
      by_cases c14 : 0 ≤ (ji13)
      rotate_left
      · rw [if_neg c14] at H
        exact absurd H (by simp)
      rw [if_pos c14] at H
      have c14b0 := eq_true c14
      have c14b1 : decide (0 ≤ (ji13)) = true := decide_eq_true c14
      clear c14
      obtain ⟨ji15, hji15⟩ : ∃ j_ : Int, (shr .u64 a2 (ji13)) = j_ := ⟨_, rfl⟩
      replace H : ((spec_l1Sink_bit.f k1 false x1001_1 x1002_1 (Go.bits .and .u64 (ji15) 1)).bind fun bt122 => (spec_l1Sink_put.l0 k1 a1 a2 (wrap64 (x6_1 + 1)) bt122.1 bt122.2.1 bt122.2.2)) = some (r1, r2, r3) := by first | (rw [hji15] at H; exact H) | (simp only [hji15] at H ⊢; exact H)
      have hji15_ : (a2 / 2 ^ min (ji13).toNat 64) = ji15 := hji15
      have hji15z : (ji13) ≤ 64 → (a2 / 2 ^ (ji13).toNat) = ji15 := shr_small hji15
      replace H := Option.bind_eq_some_iff.mp H
      obtain ⟨⟨t122, t123, t126⟩, A160, H⟩ := H
      replace H : (spec_l1Sink_put.l0 k1 a1 a2 (wrap64 (x6_1 + 1)) t122 t123 t126) = some (r1, r2, r3) := H
      have A16 := Aside0.mk A160
      clear A160
      have H' := Aside0.mk H
      clear H
      have hcz17_0 : wr.cell? ⟨g, 0, none⟩ = some (.bool false) := (blk_cell BK0.out 0).trans rfl
      have hcz17_1 : wr.cell? ⟨g, 1, none⟩ = some (u1001) := (blk_cell BK0.out 1).trans rfl
      have hcz17_2 : wr.cell? ⟨g, 2, none⟩ = some (.int .i64 x1002_1) := (blk_cell BK0.out 2).trans rfl
      have hfz17_0 := blk_frozen BK0.out 0
      have hfz17_1 := blk_frozen BK0.out 1
      have hfz17_2 := blk_frozen BK0.out 2
      obtain ⟨Ao19, co19, eo19⟩ := Kd.R_slice HO_1001.out
      subst eo19
      go_wp2_with (first | (go_at_call 130; (refine (spec_l1Sink_bit.calls k1 g false x1001_1 x1002_1 (Go.bits .and .u64 (ji15) 1) t122 t123 t126 w _ ?side1 ?side2 (.slice Ao19 x1001_1.length co19) ?side3 ?side4 A16.out).mono ?_); (case side1 => repeat (first | (with_reducible first | exact HB.out | apply below_alloc | apply pw_below_drewN | apply below_drew1 | refine below_set ?_ GE0.out) | exact HB.out)); (case side2 => exact GE0.out); (case side3 => exact (by (with_reducible repeat (first | refine blk_drewN ?_ _ | refine blk_drew ?_ | refine blk_alloc ?_ _)); exact BK0.out)); (case side4 => exact Kd.R_mono (by (with_reducible repeat (first | apply Kd.R_alloc | apply Kd.R_drewN | apply Kd.R_drew)); exact HO_1001.out) (fun _ _ => trivial)); rintro e w18 ⟨v124, rfl, hbx, ho0, hb⟩; have n0_ := Aside0.mk (hbx); have n1_ := Aside0.mk (ho0); have n2_ := Aside0.mk (hb); clear BK0; clear HB; clear HO_1001; have BK0 := n0_; have HO125 := n1_; have HB := n2_; clear n0_ n1_ n2_; (try clear hb); (try clear hbx); (try clear ho0)))
      go_roundg k1
      case measure => have := HK1.out; omega
      case rel => exact ⟨(wrap64 (x6_1 + 1)), (t122), (t123), (t126), (v124), (by first | rfl | (simp; done) | (simp [*]; done)), H', ⟨by have := HK1.out; omega⟩, ⟨by (with_reducible repeat (first | apply Kd.R_alloc | apply Kd.R_drewN | apply Kd.R_drew)); exact HO125.out⟩, ⟨by (with_reducible repeat (first | refine blk_drewN ?_ _ | refine blk_drew ?_ | refine blk_alloc ?_ _)); exact BK0.out⟩, ⟨by repeat (first | (with_reducible first | exact HB.out | apply below_alloc | apply pw_below_drewN | apply below_drew1 | refine below_set ?_ GE0.out) | exact HB.out)⟩⟩

end Go.Proofs.Ytggokppfhkebkaa.PFnExactWriteSymbols

-- written by myprint.py (a program of this session's over the kit's print)
import Derived.Test.YtglaedjadlappaaPFnExactSmoothx0
import Derived.Test.YtglaedjadlappaaPFnExactSmoothx2
namespace Go.Proofs.Ytglaedjadlappaa.PFnExactSmooth
open Go.RowKit Go.Proofs.YtglaedjadlappaaW.PrintWords Go.Proofs.YtglaedjadlappaaW.PrintLast Go.Proofs.YtglaedjadlappaaW.PrintMore
attribute [local go_sem] max2_int min2_int max_two min_two max_three min_three max_four min_four   -- for this text's walks alone
set_option linter.unusedVariables false
set_option linter.unusedSimpArgs false

/-! ### spec_l13Smooth: function 133 -/
mutual
def spec_l13Smooth.l0 : Nat → Int → Int → Int → Int → List Int → Int → Int → List Int → Option (Int × Int × List Int)
  | 0, _, _, _, _, _, _, _, _ => none
  | k + 1, x1, x7, x131000, x131001, x131002, x133000, x133001, x133002 => if x7 < x131001 then (spec_l13Smooth.l1 k x1 x7 4 x131000 x131001 x131002 x133000 x133001 x133002) else (spec_l13Smooth.l2 k x1 0 x131000 x131001 x131002 x133000 x133001 x133002)
def spec_l13Smooth.l1 : Nat → Int → Int → Int → Int → Int → List Int → Int → Int → List Int → Option (Int × Int × List Int)
  | 0, _, _, _, _, _, _, _, _, _ => none
  | k + 1, x1, x7, x8, x131000, x131001, x131002, x133000, x133001, x133002 => if (wrap64 (x8 + 1)) < x131000 then (if 0 ≤ (wrap64 ((wrap64 ((wrap64 (x7 * x131000)) + x8)) - 2)) then (if (wrap64 ((wrap64 ((wrap64 (x7 * x131000)) + x8)) - 2)) < (x133002.length : Int) then (if 0 ≤ (wrap64 ((wrap64 ((wrap64 (x7 * x131000)) + x8)) - 1)) then (if (wrap64 ((wrap64 ((wrap64 (x7 * x131000)) + x8)) - 1)) < (x133002.length : Int) then (if 0 ≤ (wrap64 ((wrap64 (x7 * x131000)) + x8)) then (if (wrap64 ((wrap64 (x7 * x131000)) + x8)) < (x133002.length : Int) then (if 0 ≤ (wrap64 ((wrap64 ((wrap64 (x7 * x131000)) + x8)) + 1)) then (if (wrap64 ((wrap64 ((wrap64 (x7 * x131000)) + x8)) + 1)) < (x133002.length : Int) then ((spec_l13Edge.f k (rd x133002 (wrap64 ((wrap64 ((wrap64 (x7 * x131000)) + x8)) - 2))) (rd x133002 (wrap64 ((wrap64 ((wrap64 (x7 * x131000)) + x8)) - 1))) (rd x133002 (wrap64 ((wrap64 (x7 * x131000)) + x8))) (rd x133002 (wrap64 ((wrap64 ((wrap64 (x7 * x131000)) + x8)) + 1))) x1).bind fun bt140 => (spec_l13Smooth.l1 k x1 x7 (wrap64 (x8 + 4)) x131000 x131001 x131002 x133000 x133001 ((x133002.set ((wrap64 ((wrap64 ((wrap64 (x7 * x131000)) + x8)) - 1)) : Int).toNat bt140.1).set ((wrap64 ((wrap64 (x7 * x131000)) + x8)) : Int).toNat bt140.2))) else (none)) else (none)) else (none)) else (none)) else (none)) else (none)) else (none)) else (none)) else (spec_l13Smooth.l0 k x1 (wrap64 (x7 + 1)) x131000 x131001 x131002 x133000 x133001 x133002)
def spec_l13Smooth.l2 : Nat → Int → Int → Int → Int → List Int → Int → Int → List Int → Option (Int × Int × List Int)
  | 0, _, _, _, _, _, _, _, _ => none
  | k + 1, x1, x12, x131000, x131001, x131002, x133000, x133001, x133002 => if x12 < x131000 then (spec_l13Smooth.l3 k x1 x12 4 x131000 x131001 x131002 x133000 x133001 x133002) else (some (x133000, x133001, x133002))
def spec_l13Smooth.l3 : Nat → Int → Int → Int → Int → Int → List Int → Int → Int → List Int → Option (Int × Int × List Int)
  | 0, _, _, _, _, _, _, _, _, _ => none
  | k + 1, x1, x12, x13, x131000, x131001, x131002, x133000, x133001, x133002 => if (wrap64 (x13 + 1)) < x131001 then (if 0 ≤ (wrap64 ((wrap64 ((wrap64 (x13 * x131000)) + x12)) - (wrap64 (2 * x131000)))) then (if (wrap64 ((wrap64 ((wrap64 (x13 * x131000)) + x12)) - (wrap64 (2 * x131000)))) < (x133002.length : Int) then (if 0 ≤ (wrap64 ((wrap64 ((wrap64 (x13 * x131000)) + x12)) - x131000)) then (if (wrap64 ((wrap64 ((wrap64 (x13 * x131000)) + x12)) - x131000)) < (x133002.length : Int) then (if 0 ≤ (wrap64 ((wrap64 (x13 * x131000)) + x12)) then (if (wrap64 ((wrap64 (x13 * x131000)) + x12)) < (x133002.length : Int) then (if 0 ≤ (wrap64 ((wrap64 ((wrap64 (x13 * x131000)) + x12)) + x131000)) then (if (wrap64 ((wrap64 ((wrap64 (x13 * x131000)) + x12)) + x131000)) < (x133002.length : Int) then ((spec_l13Edge.f k (rd x133002 (wrap64 ((wrap64 ((wrap64 (x13 * x131000)) + x12)) - (wrap64 (2 * x131000))))) (rd x133002 (wrap64 ((wrap64 ((wrap64 (x13 * x131000)) + x12)) - x131000))) (rd x133002 (wrap64 ((wrap64 (x13 * x131000)) + x12))) (rd x133002 (wrap64 ((wrap64 ((wrap64 (x13 * x131000)) + x12)) + x131000))) x1).bind fun bt148 => (spec_l13Smooth.l3 k x1 x12 (wrap64 (x13 + 4)) x131000 x131001 x131002 x133000 x133001 ((x133002.set ((wrap64 ((wrap64 ((wrap64 (x13 * x131000)) + x12)) - x131000)) : Int).toNat bt148.1).set ((wrap64 ((wrap64 (x13 * x131000)) + x12)) : Int).toNat bt148.2))) else (none)) else (none)) else (none)) else (none)) else (none)) else (none)) else (none)) else (none)) else (spec_l13Smooth.l2 k x1 (wrap64 (x12 + 1)) x131000 x131001 x131002 x133000 x133001 x133002)
end
def spec_l13Smooth.f (k : Nat) (a0_0 : Int) (a0_1 : Int) (l0_2 : List Int) (a1 : Int) : Option (Int × Int × List Int) := if ([] : List Int).length + l0_2.length < 17592186044416 then ((some (([] : List Int) ++ l0_2 : List Int)).bind fun y133 => (if a1 < 8 then (some (a0_0, a0_1, y133)) else (spec_l13Smooth.l0 k a1 0 a0_0 a0_1 l0_2 a0_0 a0_1 y133))) else (none)
theorem spec_l13Smooth.mono_l : ∀ k, (∀ y0 y1 y2 y3 y4 y5 y6 y7, LeO (spec_l13Smooth.l0 k y0 y1 y2 y3 y4 y5 y6 y7) (spec_l13Smooth.l0 (k + 1) y0 y1 y2 y3 y4 y5 y6 y7)) ∧ (∀ y0 y1 y2 y3 y4 y5 y6 y7 y8, LeO (spec_l13Smooth.l1 k y0 y1 y2 y3 y4 y5 y6 y7 y8) (spec_l13Smooth.l1 (k + 1) y0 y1 y2 y3 y4 y5 y6 y7 y8)) ∧ (∀ y0 y1 y2 y3 y4 y5 y6 y7, LeO (spec_l13Smooth.l2 k y0 y1 y2 y3 y4 y5 y6 y7) (spec_l13Smooth.l2 (k + 1) y0 y1 y2 y3 y4 y5 y6 y7)) ∧ (∀ y0 y1 y2 y3 y4 y5 y6 y7 y8, LeO (spec_l13Smooth.l3 k y0 y1 y2 y3 y4 y5 y6 y7 y8) (spec_l13Smooth.l3 (k + 1) y0 y1 y2 y3 y4 y5 y6 y7 y8))
  | 0 => ⟨fun _ _ _ _ _ _ _ _ r h => by simp [spec_l13Smooth.l0] at h, fun _ _ _ _ _ _ _ _ _ r h => by simp [spec_l13Smooth.l1] at h, fun _ _ _ _ _ _ _ _ r h => by simp [spec_l13Smooth.l2] at h, fun _ _ _ _ _ _ _ _ _ r h => by simp [spec_l13Smooth.l3] at h⟩
  | k + 1 => by
    obtain ⟨ih0, ih1, ih2, ih3⟩ := spec_l13Smooth.mono_l k
    refine ⟨?_, ?_, ?_, ?_⟩
    · intro y0 y1 y2 y3 y4 y5 y6 y7
      unfold spec_l13Smooth.l0
      repeat' first
      | (with_reducible exact ih0 _ _ _ _ _ _ _ _)
      | (with_reducible exact ih1 _ _ _ _ _ _ _ _ _)
      | (with_reducible exact ih2 _ _ _ _ _ _ _ _)
      | (with_reducible exact ih3 _ _ _ _ _ _ _ _ _)
      | (with_reducible exact spec_l13Edge.mono _ _ _ _ _ _)
      | (with_reducible exact LeO.refl _)
      | (with_reducible exact LeO.none _)
      | (with_reducible refine LeO.ite ?_ ?_)
      | (with_reducible refine LeO.bind ?_ (fun _ => ?_))
      | exact ih0 _ _ _ _ _ _ _ _
      | exact ih1 _ _ _ _ _ _ _ _ _
      | exact ih2 _ _ _ _ _ _ _ _
      | exact ih3 _ _ _ _ _ _ _ _ _
      | exact spec_l13Edge.mono _ _ _ _ _ _
      | exact LeO.none _
      | refine LeO.ite ?_ ?_
      | refine LeO.bind ?_ (fun _ => ?_)
    · intro y0 y1 y2 y3 y4 y5 y6 y7 y8
      unfold spec_l13Smooth.l1
      repeat' first
      | (with_reducible exact ih0 _ _ _ _ _ _ _ _)
      | (with_reducible exact ih1 _ _ _ _ _ _ _ _ _)
      | (with_reducible exact ih2 _ _ _ _ _ _ _ _)
      | (with_reducible exact ih3 _ _ _ _ _ _ _ _ _)
      | (with_reducible exact spec_l13Edge.mono _ _ _ _ _ _)
      | (with_reducible exact LeO.refl _)
      | (with_reducible exact LeO.none _)
      | (with_reducible refine LeO.ite ?_ ?_)
      | (with_reducible refine LeO.bind ?_ (fun _ => ?_))
      | exact ih0 _ _ _ _ _ _ _ _
      | exact ih1 _ _ _ _ _ _ _ _ _
      | exact ih2 _ _ _ _ _ _ _ _
      | exact ih3 _ _ _ _ _ _ _ _ _
      | exact spec_l13Edge.mono _ _ _ _ _ _
      | exact LeO.none _
      | refine LeO.ite ?_ ?_
      | refine LeO.bind ?_ (fun _ => ?_)
    · intro y0 y1 y2 y3 y4 y5 y6 y7
      unfold spec_l13Smooth.l2
      repeat' first
      | (with_reducible exact ih0 _ _ _ _ _ _ _ _)
      | (with_reducible exact ih1 _ _ _ _ _ _ _ _ _)
      | (with_reducible exact ih2 _ _ _ _ _ _ _ _)
      | (with_reducible exact ih3 _ _ _ _ _ _ _ _ _)
      | (with_reducible exact spec_l13Edge.mono _ _ _ _ _ _)
      | (with_reducible exact LeO.refl _)
      | (with_reducible exact LeO.none _)
      | (with_reducible refine LeO.ite ?_ ?_)
      | (with_reducible refine LeO.bind ?_ (fun _ => ?_))
      | exact ih0 _ _ _ _ _ _ _ _
      | exact ih1 _ _ _ _ _ _ _ _ _
      | exact ih2 _ _ _ _ _ _ _ _
      | exact ih3 _ _ _ _ _ _ _ _ _
      | exact spec_l13Edge.mono _ _ _ _ _ _
      | exact LeO.none _
      | refine LeO.ite ?_ ?_
      | refine LeO.bind ?_ (fun _ => ?_)
    · intro y0 y1 y2 y3 y4 y5 y6 y7 y8
      unfold spec_l13Smooth.l3
      repeat' first
      | (with_reducible exact ih0 _ _ _ _ _ _ _ _)
      | (with_reducible exact ih1 _ _ _ _ _ _ _ _ _)
      | (with_reducible exact ih2 _ _ _ _ _ _ _ _)
      | (with_reducible exact ih3 _ _ _ _ _ _ _ _ _)
      | (with_reducible exact spec_l13Edge.mono _ _ _ _ _ _)
      | (with_reducible exact LeO.refl _)
      | (with_reducible exact LeO.none _)
      | (with_reducible refine LeO.ite ?_ ?_)
      | (with_reducible refine LeO.bind ?_ (fun _ => ?_))
      | exact ih0 _ _ _ _ _ _ _ _
      | exact ih1 _ _ _ _ _ _ _ _ _
      | exact ih2 _ _ _ _ _ _ _ _
      | exact ih3 _ _ _ _ _ _ _ _ _
      | exact spec_l13Edge.mono _ _ _ _ _ _
      | exact LeO.none _
      | refine LeO.ite ?_ ?_
      | refine LeO.bind ?_ (fun _ => ?_)
theorem spec_l13Smooth.mono : ∀ a0 a1 a2 a3 k, LeO (spec_l13Smooth.f k a0 a1 a2 a3) (spec_l13Smooth.f (k + 1) a0 a1 a2 a3) := by
  intro a0 a1 a2 a3 k
  obtain ⟨ih0, ih1, ih2, ih3⟩ := spec_l13Smooth.mono_l k
  unfold spec_l13Smooth.f
  repeat' first
      | (with_reducible exact ih0 _ _ _ _ _ _ _ _)
      | (with_reducible exact ih1 _ _ _ _ _ _ _ _ _)
      | (with_reducible exact ih2 _ _ _ _ _ _ _ _)
      | (with_reducible exact ih3 _ _ _ _ _ _ _ _ _)
      | (with_reducible exact spec_l13Edge.mono _ _ _ _ _ _)
      | (with_reducible exact LeO.refl _)
      | (with_reducible exact LeO.none _)
      | (with_reducible refine LeO.ite ?_ ?_)
      | (with_reducible refine LeO.bind ?_ (fun _ => ?_))
      | exact ih0 _ _ _ _ _ _ _ _
      | exact ih1 _ _ _ _ _ _ _ _ _
      | exact ih2 _ _ _ _ _ _ _ _
      | exact ih3 _ _ _ _ _ _ _ _ _
      | exact spec_l13Edge.mono _ _ _ _ _ _
      | exact LeO.none _
      | refine LeO.ite ?_ ?_
      | refine LeO.bind ?_ (fun _ => ?_)
set_option maxHeartbeats 8000000 in
set_option maxRecDepth 100000 in
theorem spec_l13Smooth.calls (k : Nat) (a0_0 : Int) (a0_1 : Int) (A0_2 : Option Addr) (c0_2 : Nat) (l0_2 : List Int) (a1 : Int) (r1 : Int) (r2 : Int) (r3 : List Int) (w : World) (hr0_2 : Kd.C (Kd.int .i64) w A0_2 l0_2.length l0_2) (hc0_2 : l0_2.length ≤ c0_2) (h : spec_l13Smooth.f k a0_0 a0_1 l0_2 a1 = some (r1, r2, r3)) :
    Calls Try.prog 133 #[.agg #[.int .i64 a0_0, .int .i64 a0_1, .slice A0_2 l0_2.length c0_2], .int .i64 a1] w fun e w' => ∃ v2_ : Value, e = .returned (.agg #[.int .i64 r1, .int .i64 r2, v2_]) ∧ Kd.R (Kd.int .i64) 3 w' w.heap.size (fun _ => True) v2_ r3 ∧ Below w.heap.size w w' := by
  have hu29 := Try.underlying29
  have HR0_2 := Aside0.mk hr0_2
  have HC0_2 := Aside0.mk hc0_2
  clear hr0_2 hc0_2
  have HB := Aside0.mk (Below.refl w.heap.size w)
  have H : (if ([] : List Int).length + l0_2.length < 17592186044416 then ((some (([] : List Int) ++ l0_2 : List Int)).bind fun y133 => (if a1 < 8 then (some (a0_0, a0_1, y133)) else (spec_l13Smooth.l0 k a1 0 a0_0 a0_1 l0_2 a0_0 a0_1 y133))) else (none)) = some (r1, r2, r3) := h
  clear h
  by_cases c3 : ([] : List Int).length + l0_2.length < 17592186044416
  rotate_left
  · rw [if_neg c3] at H
    exact absurd H (by simp)
  rw [if_pos c3] at H
  have LMc3 := Aside0.mk c3
  clear c3
  obtain ⟨y133, hy133⟩ : ∃ y_ : List Int, y_ = (([] : List Int) ++ l0_2) := ⟨_, rfl⟩
  replace H : (if a1 < 8 then (some (a0_0, a0_1, y133)) else (spec_l13Smooth.l0 k a1 0 a0_0 a0_1 l0_2 a0_0 a0_1 y133)) = some (r1, r2, r3) := by first | (rw [hy133]; with_reducible exact H) | (have H2_ := (Option.bind_some _ _).symm.trans H; rw [hy133]; with_reducible exact H2_) | (have H2_ := (Option.bind_some _ _).symm.trans H; with_reducible exact H2_) | with_reducible exact H | (rw [hy133]; exact H) | exact H
  have Ny133 := Aside0.mk hy133
  clear hy133
  by_cases c4 : a1 < 8
  · rw [if_pos c4] at H
    have c4b0 : decide (a1 < 8) = true := decide_eq_true c4
    clear c4
    simp only [Option.some.injEq, Prod.mk.injEq] at H
    obtain ⟨rfl, rfl, rfl⟩ := H
    go_enter Try.func133, Try.ntmps133
    iterate 3 (try go_wp2_with (first | ((with_reducible refine gate_dst (N := 2) rfl ?_); refine box_event ?hg (N := 2) ?hd (cs := #[.int .i64 a0_0, .int .i64 a0_1, .slice A0_2 l0_2.length c0_2]) (t := 29) ?hr ?_; (case hd => rfl); (case hg => rfl); (case hr => first | (go_simp; done) | (go_simp; rfl)); intro gb130 hg w5 hbox hb; have n0_ := Aside0.mk (below_step (by repeat (first | (with_reducible first | exact HB.out | apply below_alloc | apply pw_below_drewN | apply below_drew1) | exact HB.out)) hb); have n1_ := Aside0.mk (hbox); have n2_ := Aside0.mk ((by rw [hg]; exact (below_size (by repeat (first | (with_reducible first | exact HB.out | apply below_alloc | apply pw_below_drewN | apply below_drew1) | exact HB.out))) : w.heap.size ≤ gb130)); have n3_ := n2_; clear HB; have HB := n0_; have BK130 := n1_; have GW130 := n2_; have GE130 := n3_; clear n0_ n1_ n2_ n3_; clear hb hbox hg) | ((with_reducible refine gate_dst (N := 4) rfl ?_); refine box_event ?hg (N := 4) ?hd (cs := #[.int .i64 0, .int .i64 0, .slice none 0 0]) (t := 29) ?hr ?_; (case hd => rfl); (case hg => rfl); (case hr => first | (go_simp; done) | (go_simp; rfl)); intro gb131 hg w6 hbox hb; have n0_ := Aside0.mk (blk_below (g := gb130) (o := .cells #[.int .i64 a0_0, .int .i64 a0_1, .slice A0_2 l0_2.length c0_2] 29 (0, 0)) (by (with_reducible repeat (first | refine blk_drewN ?_ _ | refine blk_drew ?_ | refine blk_alloc ?_ _)); exact BK130.out) hb); have n1_ := Aside0.mk (below_step (by repeat (first | (with_reducible first | exact HB.out | apply below_alloc | apply pw_below_drewN | apply below_drew1 | refine below_set ?_ GE130.out) | exact HB.out)) hb); have n2_ := Aside0.mk (hbox); have n3_ := Aside0.mk ((by rw [hg]; exact (below_size (by repeat (first | (with_reducible first | exact HB.out | apply below_alloc | apply pw_below_drewN | apply below_drew1 | refine below_set ?_ GE130.out) | exact HB.out))) : w.heap.size ≤ gb131)); have n4_ := n3_; have n5_ := Aside0.mk ((by rw [hg]; exact Nat.ne_of_lt (blk_lt (g := gb130) (o := .cells #[.int .i64 a0_0, .int .i64 a0_1, .slice A0_2 l0_2.length c0_2] 29 (0, 0)) (by (with_reducible repeat (first | refine blk_drewN ?_ _ | refine blk_drew ?_ | refine blk_alloc ?_ _)); exact BK130.out)) : gb130 ≠ gb131)); have n6_ := Aside0.mk ((by rw [hg]; exact Nat.ne_of_gt (blk_lt (g := gb130) (o := .cells #[.int .i64 a0_0, .int .i64 a0_1, .slice A0_2 l0_2.length c0_2] 29 (0, 0)) (by (with_reducible repeat (first | refine blk_drewN ?_ _ | refine blk_drew ?_ | refine blk_alloc ?_ _)); exact BK130.out)) : gb131 ≠ gb130)); clear BK130; clear HB; have BK130 := n0_; have HB := n1_; have BK131 := n2_; have GW131 := n3_; have GE131 := n4_; have NB130_131 := n5_; have NB131_130 := n6_; clear n0_ n1_ n2_ n3_ n4_ n5_ n6_; clear hb hbox hg; have hnb7 := NB130_131.out; have hnc7 := NB131_130.out; have hcz8_0 : w6.cell? ⟨gb130, 0, none⟩ = some (.int .i64 a0_0) := (blk_cell BK130.out 0).trans rfl; have hcz8_1 : w6.cell? ⟨gb130, 1, none⟩ = some (.int .i64 a0_1) := (blk_cell BK130.out 1).trans rfl; have hcz8_2 : w6.cell? ⟨gb130, 2, none⟩ = some (.slice A0_2 l0_2.length c0_2) := (blk_cell BK130.out 2).trans rfl; have hfz8_0 := blk_frozen BK130.out 0; have hfz8_1 := blk_frozen BK130.out 1; have hfz8_2 := blk_frozen BK130.out 2) | ((with_reducible refine gate_dst (N := 5) rfl ?_); refine box_event ?hg (N := 5) ?hd (cs := #[.int .i64 0, .int .i64 0, .slice none 0 0]) (t := 29) ?hr ?_; (case hd => rfl); (case hg => rfl); (case hr => first | (go_simp; done) | (go_simp; rfl)); intro gb132 hg w9 hbox hb; have n0_ := Aside0.mk (blk_below (g := gb130) (o := .cells #[.int .i64 a0_0, .int .i64 a0_1, .slice A0_2 l0_2.length c0_2] 29 (0, 0)) (by (with_reducible repeat (first | refine blk_drewN ?_ _ | refine blk_drew ?_ | refine blk_alloc ?_ _)); exact BK130.out) hb); have n1_ := Aside0.mk (blk_below (g := gb131) (o := .cells #[.int .i64 0, .int .i64 0, .slice none 0 0] 29 (0, 0)) (by (with_reducible repeat (first | refine blk_drewN ?_ _ | refine blk_drew ?_ | refine blk_alloc ?_ _)); exact BK131.out) hb); have n2_ := Aside0.mk (below_step (by repeat (first | (with_reducible first | exact HB.out | apply below_alloc | apply pw_below_drewN | apply below_drew1 | refine below_set ?_ GE130.out | refine below_set ?_ GE131.out) | exact HB.out)) hb); have n3_ := Aside0.mk (hbox); have n4_ := Aside0.mk ((by rw [hg]; exact (below_size (by repeat (first | (with_reducible first | exact HB.out | apply below_alloc | apply pw_below_drewN | apply below_drew1 | refine below_set ?_ GE130.out | refine below_set ?_ GE131.out) | exact HB.out))) : w.heap.size ≤ gb132)); have n5_ := n4_; have n6_ := Aside0.mk ((by rw [hg]; exact Nat.ne_of_lt (blk_lt (g := gb130) (o := .cells #[.int .i64 a0_0, .int .i64 a0_1, .slice A0_2 l0_2.length c0_2] 29 (0, 0)) (by (with_reducible repeat (first | refine blk_drewN ?_ _ | refine blk_drew ?_ | refine blk_alloc ?_ _)); exact BK130.out)) : gb130 ≠ gb132)); have n7_ := Aside0.mk ((by rw [hg]; exact Nat.ne_of_gt (blk_lt (g := gb130) (o := .cells #[.int .i64 a0_0, .int .i64 a0_1, .slice A0_2 l0_2.length c0_2] 29 (0, 0)) (by (with_reducible repeat (first | refine blk_drewN ?_ _ | refine blk_drew ?_ | refine blk_alloc ?_ _)); exact BK130.out)) : gb132 ≠ gb130)); have n8_ := Aside0.mk ((by rw [hg]; exact Nat.ne_of_lt (blk_lt (g := gb131) (o := .cells #[.int .i64 0, .int .i64 0, .slice none 0 0] 29 (0, 0)) (by (with_reducible repeat (first | refine blk_drewN ?_ _ | refine blk_drew ?_ | refine blk_alloc ?_ _)); exact BK131.out)) : gb131 ≠ gb132)); have n9_ := Aside0.mk ((by rw [hg]; exact Nat.ne_of_gt (blk_lt (g := gb131) (o := .cells #[.int .i64 0, .int .i64 0, .slice none 0 0] 29 (0, 0)) (by (with_reducible repeat (first | refine blk_drewN ?_ _ | refine blk_drew ?_ | refine blk_alloc ?_ _)); exact BK131.out)) : gb132 ≠ gb131)); clear BK130; clear BK131; clear HB; have BK130 := n0_; have BK131 := n1_; have HB := n2_; have BK132 := n3_; have GW132 := n4_; have GE132 := n5_; have NB130_132 := n6_; have NB132_130 := n7_; have NB131_132 := n8_; have NB132_131 := n9_; clear n0_ n1_ n2_ n3_ n4_ n5_ n6_ n7_ n8_ n9_; clear hb hbox hg; have hnb10 := NB132_130.out; have hnc10 := NB130_132.out; have hnb11 := NB132_131.out; have hnc11 := NB131_132.out; have hcz12_0 : w9.cell? ⟨gb132, 0, none⟩ = some (.int .i64 0) := (blk_cell BK132.out 0).trans rfl; have hcz12_1 : w9.cell? ⟨gb132, 1, none⟩ = some (.int .i64 0) := (blk_cell BK132.out 1).trans rfl; have hcz12_2 : w9.cell? ⟨gb132, 2, none⟩ = some (.slice none 0 0) := (blk_cell BK132.out 2).trans rfl; have hfz12_0 := blk_frozen BK132.out 0; have hfz12_1 := blk_frozen BK132.out 1; have hfz12_2 := blk_frozen BK132.out 2; have hcz13_0 : w9.cell? ⟨gb130, 0, none⟩ = some (.int .i64 a0_0) := (blk_cell BK130.out 0).trans rfl; have hcz13_1 : w9.cell? ⟨gb130, 1, none⟩ = some (.int .i64 a0_1) := (blk_cell BK130.out 1).trans rfl; have hcz13_2 : w9.cell? ⟨gb130, 2, none⟩ = some (.slice A0_2 l0_2.length c0_2) := (blk_cell BK130.out 2).trans rfl; have hfz13_0 := blk_frozen BK130.out 0; have hfz13_1 := blk_frozen BK130.out 1; have hfz13_2 := blk_frozen BK130.out 2) | ((with_reducible refine gate_builtin (b := .append) (xs := #[.tmp 24, .tmp 26]) rfl ?_); at_builtin; refine Kd.R_append_rows (Kd.int .i64) (w0 := w) w.heap.size rfl (.tmp 24) (.tmp 26) 22 3 (.int .i64 0) 8 rfl Try.underlying22 info3 rfl (by decide) (by omega) (.slice none 0 0) ([] : List Int) l0_2 _ _ _ (fun _ => True) (fun _ => False) rfl rfl ?aO ?aR (fun _ _ h => h) (fun _ h => h.elim) ?aF ?aB ?aS ?aL ?_; (case aR => exact Kd.C_below HR0_2.out (by repeat (first | (with_reducible first | exact HB.out | apply below_alloc | apply pw_below_drewN | apply below_drew1 | refine below_set ?_ GE130.out | refine below_set ?_ GE131.out | refine below_set ?_ GE132.out) | exact HB.out))); (case aB => exact (by repeat (first | (with_reducible first | exact HB.out | apply below_alloc | apply pw_below_drewN | apply below_drew1 | refine below_set ?_ GE130.out | refine below_set ?_ GE131.out | refine below_set ?_ GE132.out) | exact HB.out))); (case aF => exact (fun _ _ => trivial)); (case aO => exact ((Kd.R_nil _ _ _ _ (fun _ => True)))); (case aS => exact (below_size (by repeat (first | (with_reducible first | exact HB.out | apply below_alloc | apply pw_below_drewN | apply below_drew1 | refine below_set ?_ GE130.out | refine below_set ?_ GE131.out | refine below_set ?_ GE132.out) | exact HB.out)))); (case aL => have := LMc3.out; omega); intro v134 w14 ho hb hg hat; rw [← Ny133.out] at ho; have n0_ := Aside0.mk (blk_grown (g := gb130) (o := .cells #[.int .i64 a0_0, .int .i64 a0_1, .slice A0_2 l0_2.length c0_2] 29 (0, 0)) (by (with_reducible repeat (first | refine blk_drewN ?_ _ | refine blk_drew ?_ | refine blk_alloc ?_ _)); refine blk_far ?_ NB130_132.out _; (with_reducible repeat (first | refine blk_drewN ?_ _ | refine blk_drew ?_ | refine blk_alloc ?_ _)); refine blk_far ?_ NB130_132.out _; (with_reducible repeat (first | refine blk_drewN ?_ _ | refine blk_drew ?_ | refine blk_alloc ?_ _)); refine blk_far ?_ NB130_132.out _; (with_reducible repeat (first | refine blk_drewN ?_ _ | refine blk_drew ?_ | refine blk_alloc ?_ _)); exact BK130.out) hg (by simp [Value.ownBlock])); have n1_ := Aside0.mk (blk_grown (g := gb131) (o := .cells #[.int .i64 0, .int .i64 0, .slice none 0 0] 29 (0, 0)) (by (with_reducible repeat (first | refine blk_drewN ?_ _ | refine blk_drew ?_ | refine blk_alloc ?_ _)); refine blk_far ?_ NB131_132.out _; (with_reducible repeat (first | refine blk_drewN ?_ _ | refine blk_drew ?_ | refine blk_alloc ?_ _)); refine blk_far ?_ NB131_132.out _; (with_reducible repeat (first | refine blk_drewN ?_ _ | refine blk_drew ?_ | refine blk_alloc ?_ _)); refine blk_far ?_ NB131_132.out _; (with_reducible repeat (first | refine blk_drewN ?_ _ | refine blk_drew ?_ | refine blk_alloc ?_ _)); exact BK131.out) hg (by simp [Value.ownBlock])); have n2_ := Aside0.mk (blk_grown (g := gb132) (o := .cells #[.int .i64 a0_0, .int .i64 a0_1, .slice none 0 0] 29 (0, 0)) (by (with_reducible repeat (first | refine blk_drewN ?_ _ | refine blk_drew ?_ | refine blk_alloc ?_ _)); refine blk_put (cs := #[.int .i64 a0_0, .int .i64 a0_1, .slice none 0 0]) ?_ 2 _ rfl; (with_reducible repeat (first | refine blk_drewN ?_ _ | refine blk_drew ?_ | refine blk_alloc ?_ _)); refine blk_put (cs := #[.int .i64 a0_0, .int .i64 0, .slice none 0 0]) ?_ 1 _ rfl; (with_reducible repeat (first | refine blk_drewN ?_ _ | refine blk_drew ?_ | refine blk_alloc ?_ _)); refine blk_put (cs := #[.int .i64 0, .int .i64 0, .slice none 0 0]) ?_ 0 _ rfl; (with_reducible repeat (first | refine blk_drewN ?_ _ | refine blk_drew ?_ | refine blk_alloc ?_ _)); exact BK132.out) hg (by simp [Value.ownBlock])); have n3_ := Aside0.mk (hb); have n4_ := Aside0.mk (ho); clear BK130; clear BK131; clear BK132; clear HB; have BK130 := n0_; have BK131 := n1_; have BK132 := n2_; have HB := n3_; have HO135 := n4_; clear n0_ n1_ n2_ n3_ n4_; clear ho hb hg hat; obtain ⟨Ao15, co15, eo15⟩ := Kd.R_slice HO135.out; subst eo15; have hcz16_0 : w14.cell? ⟨gb132, 0, none⟩ = some (.int .i64 a0_0) := (blk_cell BK132.out 0).trans rfl; have hcz16_1 : w14.cell? ⟨gb132, 1, none⟩ = some (.int .i64 a0_1) := (blk_cell BK132.out 1).trans rfl; have hcz16_2 : w14.cell? ⟨gb132, 2, none⟩ = some (.slice none 0 0) := (blk_cell BK132.out 2).trans rfl; have hfz16_0 := blk_frozen BK132.out 0; have hfz16_1 := blk_frozen BK132.out 1; have hfz16_2 := blk_frozen BK132.out 2; have hcz17_0 : w14.cell? ⟨gb131, 0, none⟩ = some (.int .i64 0) := (blk_cell BK131.out 0).trans rfl; have hcz17_1 : w14.cell? ⟨gb131, 1, none⟩ = some (.int .i64 0) := (blk_cell BK131.out 1).trans rfl; have hcz17_2 : w14.cell? ⟨gb131, 2, none⟩ = some (.slice none 0 0) := (blk_cell BK131.out 2).trans rfl; have hfz17_0 := blk_frozen BK131.out 0; have hfz17_1 := blk_frozen BK131.out 1; have hfz17_2 := blk_frozen BK131.out 2)); try go_quiet (first | ((with_reducible refine gate_builtin (b := .append) (xs := #[.tmp 24, .tmp 26]) rfl ?_); at_builtin; refine Kd.R_append_rows (Kd.int .i64) (w0 := w) w.heap.size rfl (.tmp 24) (.tmp 26) 22 3 (.int .i64 0) 8 rfl Try.underlying22 info3 rfl (by decide) (by omega) (.slice none 0 0) ([] : List Int) l0_2 _ _ _ (fun _ => True) (fun _ => False) rfl rfl ?aO ?aR (fun _ _ h => h) (fun _ h => h.elim) ?aF ?aB ?aS ?aL ?_; (case aR => exact Kd.C_below HR0_2.out (by repeat (first | (with_reducible first | exact HB.out | apply below_alloc | apply pw_below_drewN | apply below_drew1 | refine below_set ?_ GE130.out | refine below_set ?_ GE131.out | refine below_set ?_ GE132.out) | exact HB.out))); (case aB => exact (by repeat (first | (with_reducible first | exact HB.out | apply below_alloc | apply pw_below_drewN | apply below_drew1 | refine below_set ?_ GE130.out | refine below_set ?_ GE131.out | refine below_set ?_ GE132.out) | exact HB.out))); (case aF => exact (fun _ _ => trivial)); (case aO => exact ((Kd.R_nil _ _ _ _ (fun _ => True)))); (case aS => exact (below_size (by repeat (first | (with_reducible first | exact HB.out | apply below_alloc | apply pw_below_drewN | apply below_drew1 | refine below_set ?_ GE130.out | refine below_set ?_ GE131.out | refine below_set ?_ GE132.out) | exact HB.out)))); (case aL => have := LMc3.out; omega); intro v134 w14 ho hb hg hat; rw [← Ny133.out] at ho; have n0_ := Aside0.mk (blk_grown (g := gb130) (o := .cells #[.int .i64 a0_0, .int .i64 a0_1, .slice A0_2 l0_2.length c0_2] 29 (0, 0)) (by (with_reducible repeat (first | refine blk_drewN ?_ _ | refine blk_drew ?_ | refine blk_alloc ?_ _)); refine blk_far ?_ NB130_132.out _; (with_reducible repeat (first | refine blk_drewN ?_ _ | refine blk_drew ?_ | refine blk_alloc ?_ _)); refine blk_far ?_ NB130_132.out _; (with_reducible repeat (first | refine blk_drewN ?_ _ | refine blk_drew ?_ | refine blk_alloc ?_ _)); refine blk_far ?_ NB130_132.out _; (with_reducible repeat (first | refine blk_drewN ?_ _ | refine blk_drew ?_ | refine blk_alloc ?_ _)); exact BK130.out) hg (by simp [Value.ownBlock])); have n1_ := Aside0.mk (blk_grown (g := gb131) (o := .cells #[.int .i64 0, .int .i64 0, .slice none 0 0] 29 (0, 0)) (by (with_reducible repeat (first | refine blk_drewN ?_ _ | refine blk_drew ?_ | refine blk_alloc ?_ _)); refine blk_far ?_ NB131_132.out _; (with_reducible repeat (first | refine blk_drewN ?_ _ | refine blk_drew ?_ | refine blk_alloc ?_ _)); refine blk_far ?_ NB131_132.out _; (with_reducible repeat (first | refine blk_drewN ?_ _ | refine blk_drew ?_ | refine blk_alloc ?_ _)); refine blk_far ?_ NB131_132.out _; (with_reducible repeat (first | refine blk_drewN ?_ _ | refine blk_drew ?_ | refine blk_alloc ?_ _)); exact BK131.out) hg (by simp [Value.ownBlock])); have n2_ := Aside0.mk (blk_grown (g := gb132) (o := .cells #[.int .i64 a0_0, .int .i64 a0_1, .slice none 0 0] 29 (0, 0)) (by (with_reducible repeat (first | refine blk_drewN ?_ _ | refine blk_drew ?_ | refine blk_alloc ?_ _)); refine blk_put (cs := #[.int .i64 a0_0, .int .i64 a0_1, .slice none 0 0]) ?_ 2 _ rfl; (with_reducible repeat (first | refine blk_drewN ?_ _ | refine blk_drew ?_ | refine blk_alloc ?_ _)); refine blk_put (cs := #[.int .i64 a0_0, .int .i64 0, .slice none 0 0]) ?_ 1 _ rfl; (with_reducible repeat (first | refine blk_drewN ?_ _ | refine blk_drew ?_ | refine blk_alloc ?_ _)); refine blk_put (cs := #[.int .i64 0, .int .i64 0, .slice none 0 0]) ?_ 0 _ rfl; (with_reducible repeat (first | refine blk_drewN ?_ _ | refine blk_drew ?_ | refine blk_alloc ?_ _)); exact BK132.out) hg (by simp [Value.ownBlock])); have n3_ := Aside0.mk (hb); have n4_ := Aside0.mk (ho); clear BK130; clear BK131; clear BK132; clear HB; have BK130 := n0_; have BK131 := n1_; have BK132 := n2_; have HB := n3_; have HO135 := n4_; clear n0_ n1_ n2_ n3_ n4_; clear ho hb hg hat; obtain ⟨Ao15, co15, eo15⟩ := Kd.R_slice HO135.out; subst eo15; have hcz16_0 : w14.cell? ⟨gb132, 0, none⟩ = some (.int .i64 a0_0) := (blk_cell BK132.out 0).trans rfl; have hcz16_1 : w14.cell? ⟨gb132, 1, none⟩ = some (.int .i64 a0_1) := (blk_cell BK132.out 1).trans rfl; have hcz16_2 : w14.cell? ⟨gb132, 2, none⟩ = some (.slice none 0 0) := (blk_cell BK132.out 2).trans rfl; have hfz16_0 := blk_frozen BK132.out 0; have hfz16_1 := blk_frozen BK132.out 1; have hfz16_2 := blk_frozen BK132.out 2; have hcz17_0 : w14.cell? ⟨gb131, 0, none⟩ = some (.int .i64 0) := (blk_cell BK131.out 0).trans rfl; have hcz17_1 : w14.cell? ⟨gb131, 1, none⟩ = some (.int .i64 0) := (blk_cell BK131.out 1).trans rfl; have hcz17_2 : w14.cell? ⟨gb131, 2, none⟩ = some (.slice none 0 0) := (blk_cell BK131.out 2).trans rfl; have hfz17_0 := blk_frozen BK131.out 0; have hfz17_1 := blk_frozen BK131.out 1; have hfz17_2 := blk_frozen BK131.out 2)))
    refine bodyPost_ret (results_cell_row rfl _ _ gb131 29 #[.int .i64 a0_0, .int .i64 a0_1, .slice Ao15 y133.length co15] (0, 0) _ rfl (by (with_reducible repeat (first | refine blk_drewN ?_ _ | refine blk_drew ?_ | refine blk_alloc ?_ _)); refine blk_put (cs := #[.int .i64 a0_0, .int .i64 a0_1, .slice none 0 0]) ?_ 2 _ rfl; (with_reducible repeat (first | refine blk_drewN ?_ _ | refine blk_drew ?_ | refine blk_alloc ?_ _)); refine blk_put (cs := #[.int .i64 a0_0, .int .i64 0, .slice none 0 0]) ?_ 1 _ rfl; (with_reducible repeat (first | refine blk_drewN ?_ _ | refine blk_drew ?_ | refine blk_alloc ?_ _)); refine blk_put (cs := #[.int .i64 0, .int .i64 0, .slice none 0 0]) ?_ 0 _ rfl; (with_reducible repeat (first | refine blk_drewN ?_ _ | refine blk_drew ?_ | refine blk_alloc ?_ _)); refine blk_far ?_ NB131_132.out _; (with_reducible repeat (first | refine blk_drewN ?_ _ | refine blk_drew ?_ | refine blk_alloc ?_ _)); exact BK131.out) Try.underlying29 rfl (by kernel_rfl)) rfl ?_
    exact ⟨_, by first | rfl | (simp [errW_none, errW_some] <;> rfl) | (simp [*, errW_none, errW_some] <;> rfl), by (with_reducible repeat (first | apply Kd.R_alloc | apply Kd.R_drewN | apply Kd.R_drew)); exact Kd.R_mono (Kd.R_far (p := ⟨gb131, 2, none⟩) (Kd.R_far (p := ⟨gb131, 1, none⟩) (Kd.R_far (p := ⟨gb131, 0, none⟩) (Kd.R_far (p := ⟨gb132, 2, none⟩) (Kd.R_types (Kd.R_types HO135.out BK132.out (by decide)) BK131.out (by decide)) (fun _ hk => hk.1.2) (.slice Ao15 y133.length co15)) (fun _ hk => hk.2) (.int .i64 a0_0)) (fun _ hk => hk.2) (.int .i64 a0_1)) (fun _ hk => hk.2) (.slice Ao15 y133.length co15)) (fun _ hk => trivial), by repeat (first | (with_reducible first | exact HB.out | apply below_alloc | apply pw_below_drewN | apply below_drew1 | refine below_set ?_ GE130.out | refine below_set ?_ GE131.out | refine below_set ?_ GE132.out) | exact HB.out)⟩
  rw [if_neg c4] at H
  have c4b0 : decide (a1 < 8) = false := decide_eq_false c4
  clear c4
  have H' := Aside0.mk H
  clear H
  go_enter Try.func133, Try.ntmps133
  iterate 3 (try go_wp2_with (first | ((with_reducible refine gate_dst (N := 2) rfl ?_); refine box_event ?hg (N := 2) ?hd (cs := #[.int .i64 a0_0, .int .i64 a0_1, .slice A0_2 l0_2.length c0_2]) (t := 29) ?hr ?_; (case hd => rfl); (case hg => rfl); (case hr => first | (go_simp; done) | (go_simp; rfl)); intro gb130 hg w18 hbox hb; have n0_ := Aside0.mk (below_step (by repeat (first | (with_reducible first | exact HB.out | apply below_alloc | apply pw_below_drewN | apply below_drew1) | exact HB.out)) hb); have n1_ := Aside0.mk (hbox); have n2_ := Aside0.mk ((by rw [hg]; exact (below_size (by repeat (first | (with_reducible first | exact HB.out | apply below_alloc | apply pw_below_drewN | apply below_drew1) | exact HB.out))) : w.heap.size ≤ gb130)); have n3_ := n2_; clear HB; have HB := n0_; have BK130 := n1_; have GW130 := n2_; have GE130 := n3_; clear n0_ n1_ n2_ n3_; clear hb hbox hg) | ((with_reducible refine gate_dst (N := 4) rfl ?_); refine box_event ?hg (N := 4) ?hd (cs := #[.int .i64 0, .int .i64 0, .slice none 0 0]) (t := 29) ?hr ?_; (case hd => rfl); (case hg => rfl); (case hr => first | (go_simp; done) | (go_simp; rfl)); intro gb131 hg w19 hbox hb; have n0_ := Aside0.mk (blk_below (g := gb130) (o := .cells #[.int .i64 a0_0, .int .i64 a0_1, .slice A0_2 l0_2.length c0_2] 29 (0, 0)) (by (with_reducible repeat (first | refine blk_drewN ?_ _ | refine blk_drew ?_ | refine blk_alloc ?_ _)); exact BK130.out) hb); have n1_ := Aside0.mk (below_step (by repeat (first | (with_reducible first | exact HB.out | apply below_alloc | apply pw_below_drewN | apply below_drew1 | refine below_set ?_ GE130.out) | exact HB.out)) hb); have n2_ := Aside0.mk (hbox); have n3_ := Aside0.mk ((by rw [hg]; exact (below_size (by repeat (first | (with_reducible first | exact HB.out | apply below_alloc | apply pw_below_drewN | apply below_drew1 | refine below_set ?_ GE130.out) | exact HB.out))) : w.heap.size ≤ gb131)); have n4_ := n3_; have n5_ := Aside0.mk ((by rw [hg]; exact Nat.ne_of_lt (blk_lt (g := gb130) (o := .cells #[.int .i64 a0_0, .int .i64 a0_1, .slice A0_2 l0_2.length c0_2] 29 (0, 0)) (by (with_reducible repeat (first | refine blk_drewN ?_ _ | refine blk_drew ?_ | refine blk_alloc ?_ _)); exact BK130.out)) : gb130 ≠ gb131)); have n6_ := Aside0.mk ((by rw [hg]; exact Nat.ne_of_gt (blk_lt (g := gb130) (o := .cells #[.int .i64 a0_0, .int .i64 a0_1, .slice A0_2 l0_2.length c0_2] 29 (0, 0)) (by (with_reducible repeat (first | refine blk_drewN ?_ _ | refine blk_drew ?_ | refine blk_alloc ?_ _)); exact BK130.out)) : gb131 ≠ gb130)); clear BK130; clear HB; have BK130 := n0_; have HB := n1_; have BK131 := n2_; have GW131 := n3_; have GE131 := n4_; have NB130_131 := n5_; have NB131_130 := n6_; clear n0_ n1_ n2_ n3_ n4_ n5_ n6_; clear hb hbox hg; have hnb20 := NB130_131.out; have hnc20 := NB131_130.out; have hcz21_0 : w19.cell? ⟨gb130, 0, none⟩ = some (.int .i64 a0_0) := (blk_cell BK130.out 0).trans rfl; have hcz21_1 : w19.cell? ⟨gb130, 1, none⟩ = some (.int .i64 a0_1) := (blk_cell BK130.out 1).trans rfl; have hcz21_2 : w19.cell? ⟨gb130, 2, none⟩ = some (.slice A0_2 l0_2.length c0_2) := (blk_cell BK130.out 2).trans rfl; have hfz21_0 := blk_frozen BK130.out 0; have hfz21_1 := blk_frozen BK130.out 1; have hfz21_2 := blk_frozen BK130.out 2) | ((with_reducible refine gate_dst (N := 5) rfl ?_); refine box_event ?hg (N := 5) ?hd (cs := #[.int .i64 0, .int .i64 0, .slice none 0 0]) (t := 29) ?hr ?_; (case hd => rfl); (case hg => rfl); (case hr => first | (go_simp; done) | (go_simp; rfl)); intro gb132 hg w22 hbox hb; have n0_ := Aside0.mk (blk_below (g := gb130) (o := .cells #[.int .i64 a0_0, .int .i64 a0_1, .slice A0_2 l0_2.length c0_2] 29 (0, 0)) (by (with_reducible repeat (first | refine blk_drewN ?_ _ | refine blk_drew ?_ | refine blk_alloc ?_ _)); exact BK130.out) hb); have n1_ := Aside0.mk (blk_below (g := gb131) (o := .cells #[.int .i64 0, .int .i64 0, .slice none 0 0] 29 (0, 0)) (by (with_reducible repeat (first | refine blk_drewN ?_ _ | refine blk_drew ?_ | refine blk_alloc ?_ _)); exact BK131.out) hb); have n2_ := Aside0.mk (below_step (by repeat (first | (with_reducible first | exact HB.out | apply below_alloc | apply pw_below_drewN | apply below_drew1 | refine below_set ?_ GE130.out | refine below_set ?_ GE131.out) | exact HB.out)) hb); have n3_ := Aside0.mk (hbox); have n4_ := Aside0.mk ((by rw [hg]; exact (below_size (by repeat (first | (with_reducible first | exact HB.out | apply below_alloc | apply pw_below_drewN | apply below_drew1 | refine below_set ?_ GE130.out | refine below_set ?_ GE131.out) | exact HB.out))) : w.heap.size ≤ gb132)); have n5_ := n4_; have n6_ := Aside0.mk ((by rw [hg]; exact Nat.ne_of_lt (blk_lt (g := gb130) (o := .cells #[.int .i64 a0_0, .int .i64 a0_1, .slice A0_2 l0_2.length c0_2] 29 (0, 0)) (by (with_reducible repeat (first | refine blk_drewN ?_ _ | refine blk_drew ?_ | refine blk_alloc ?_ _)); exact BK130.out)) : gb130 ≠ gb132)); have n7_ := Aside0.mk ((by rw [hg]; exact Nat.ne_of_gt (blk_lt (g := gb130) (o := .cells #[.int .i64 a0_0, .int .i64 a0_1, .slice A0_2 l0_2.length c0_2] 29 (0, 0)) (by (with_reducible repeat (first | refine blk_drewN ?_ _ | refine blk_drew ?_ | refine blk_alloc ?_ _)); exact BK130.out)) : gb132 ≠ gb130)); have n8_ := Aside0.mk ((by rw [hg]; exact Nat.ne_of_lt (blk_lt (g := gb131) (o := .cells #[.int .i64 0, .int .i64 0, .slice none 0 0] 29 (0, 0)) (by (with_reducible repeat (first | refine blk_drewN ?_ _ | refine blk_drew ?_ | refine blk_alloc ?_ _)); exact BK131.out)) : gb131 ≠ gb132)); have n9_ := Aside0.mk ((by rw [hg]; exact Nat.ne_of_gt (blk_lt (g := gb131) (o := .cells #[.int .i64 0, .int .i64 0, .slice none 0 0] 29 (0, 0)) (by (with_reducible repeat (first | refine blk_drewN ?_ _ | refine blk_drew ?_ | refine blk_alloc ?_ _)); exact BK131.out)) : gb132 ≠ gb131)); clear BK130; clear BK131; clear HB; have BK130 := n0_; have BK131 := n1_; have HB := n2_; have BK132 := n3_; have GW132 := n4_; have GE132 := n5_; have NB130_132 := n6_; have NB132_130 := n7_; have NB131_132 := n8_; have NB132_131 := n9_; clear n0_ n1_ n2_ n3_ n4_ n5_ n6_ n7_ n8_ n9_; clear hb hbox hg; have hnb23 := NB132_130.out; have hnc23 := NB130_132.out; have hnb24 := NB132_131.out; have hnc24 := NB131_132.out; have hcz25_0 : w22.cell? ⟨gb132, 0, none⟩ = some (.int .i64 0) := (blk_cell BK132.out 0).trans rfl; have hcz25_1 : w22.cell? ⟨gb132, 1, none⟩ = some (.int .i64 0) := (blk_cell BK132.out 1).trans rfl; have hcz25_2 : w22.cell? ⟨gb132, 2, none⟩ = some (.slice none 0 0) := (blk_cell BK132.out 2).trans rfl; have hfz25_0 := blk_frozen BK132.out 0; have hfz25_1 := blk_frozen BK132.out 1; have hfz25_2 := blk_frozen BK132.out 2; have hcz26_0 : w22.cell? ⟨gb130, 0, none⟩ = some (.int .i64 a0_0) := (blk_cell BK130.out 0).trans rfl; have hcz26_1 : w22.cell? ⟨gb130, 1, none⟩ = some (.int .i64 a0_1) := (blk_cell BK130.out 1).trans rfl; have hcz26_2 : w22.cell? ⟨gb130, 2, none⟩ = some (.slice A0_2 l0_2.length c0_2) := (blk_cell BK130.out 2).trans rfl; have hfz26_0 := blk_frozen BK130.out 0; have hfz26_1 := blk_frozen BK130.out 1; have hfz26_2 := blk_frozen BK130.out 2) | ((with_reducible refine gate_builtin (b := .append) (xs := #[.tmp 24, .tmp 26]) rfl ?_); at_builtin; refine Kd.R_append_rows (Kd.int .i64) (w0 := w) w.heap.size rfl (.tmp 24) (.tmp 26) 22 3 (.int .i64 0) 8 rfl Try.underlying22 info3 rfl (by decide) (by omega) (.slice none 0 0) ([] : List Int) l0_2 _ _ _ (fun _ => True) (fun _ => False) rfl rfl ?aO ?aR (fun _ _ h => h) (fun _ h => h.elim) ?aF ?aB ?aS ?aL ?_; (case aR => exact Kd.C_below HR0_2.out (by repeat (first | (with_reducible first | exact HB.out | apply below_alloc | apply pw_below_drewN | apply below_drew1 | refine below_set ?_ GE130.out | refine below_set ?_ GE131.out | refine below_set ?_ GE132.out) | exact HB.out))); (case aB => exact (by repeat (first | (with_reducible first | exact HB.out | apply below_alloc | apply pw_below_drewN | apply below_drew1 | refine below_set ?_ GE130.out | refine below_set ?_ GE131.out | refine below_set ?_ GE132.out) | exact HB.out))); (case aF => exact (fun _ _ => trivial)); (case aO => exact ((Kd.R_nil _ _ _ _ (fun _ => True)))); (case aS => exact (below_size (by repeat (first | (with_reducible first | exact HB.out | apply below_alloc | apply pw_below_drewN | apply below_drew1 | refine below_set ?_ GE130.out | refine below_set ?_ GE131.out | refine below_set ?_ GE132.out) | exact HB.out)))); (case aL => have := LMc3.out; omega); intro v134 w27 ho hb hg hat; rw [← Ny133.out] at ho; have n0_ := Aside0.mk (blk_grown (g := gb130) (o := .cells #[.int .i64 a0_0, .int .i64 a0_1, .slice A0_2 l0_2.length c0_2] 29 (0, 0)) (by (with_reducible repeat (first | refine blk_drewN ?_ _ | refine blk_drew ?_ | refine blk_alloc ?_ _)); refine blk_far ?_ NB130_132.out _; (with_reducible repeat (first | refine blk_drewN ?_ _ | refine blk_drew ?_ | refine blk_alloc ?_ _)); refine blk_far ?_ NB130_132.out _; (with_reducible repeat (first | refine blk_drewN ?_ _ | refine blk_drew ?_ | refine blk_alloc ?_ _)); refine blk_far ?_ NB130_132.out _; (with_reducible repeat (first | refine blk_drewN ?_ _ | refine blk_drew ?_ | refine blk_alloc ?_ _)); exact BK130.out) hg (by simp [Value.ownBlock])); have n1_ := Aside0.mk (blk_grown (g := gb131) (o := .cells #[.int .i64 0, .int .i64 0, .slice none 0 0] 29 (0, 0)) (by (with_reducible repeat (first | refine blk_drewN ?_ _ | refine blk_drew ?_ | refine blk_alloc ?_ _)); refine blk_far ?_ NB131_132.out _; (with_reducible repeat (first | refine blk_drewN ?_ _ | refine blk_drew ?_ | refine blk_alloc ?_ _)); refine blk_far ?_ NB131_132.out _; (with_reducible repeat (first | refine blk_drewN ?_ _ | refine blk_drew ?_ | refine blk_alloc ?_ _)); refine blk_far ?_ NB131_132.out _; (with_reducible repeat (first | refine blk_drewN ?_ _ | refine blk_drew ?_ | refine blk_alloc ?_ _)); exact BK131.out) hg (by simp [Value.ownBlock])); have n2_ := Aside0.mk (blk_grown (g := gb132) (o := .cells #[.int .i64 a0_0, .int .i64 a0_1, .slice none 0 0] 29 (0, 0)) (by (with_reducible repeat (first | refine blk_drewN ?_ _ | refine blk_drew ?_ | refine blk_alloc ?_ _)); refine blk_put (cs := #[.int .i64 a0_0, .int .i64 a0_1, .slice none 0 0]) ?_ 2 _ rfl; (with_reducible repeat (first | refine blk_drewN ?_ _ | refine blk_drew ?_ | refine blk_alloc ?_ _)); refine blk_put (cs := #[.int .i64 a0_0, .int .i64 0, .slice none 0 0]) ?_ 1 _ rfl; (with_reducible repeat (first | refine blk_drewN ?_ _ | refine blk_drew ?_ | refine blk_alloc ?_ _)); refine blk_put (cs := #[.int .i64 0, .int .i64 0, .slice none 0 0]) ?_ 0 _ rfl; (with_reducible repeat (first | refine blk_drewN ?_ _ | refine blk_drew ?_ | refine blk_alloc ?_ _)); exact BK132.out) hg (by simp [Value.ownBlock])); have n3_ := Aside0.mk (hb); have n4_ := Aside0.mk (ho); clear BK130; clear BK131; clear BK132; clear HB; have BK130 := n0_; have BK131 := n1_; have BK132 := n2_; have HB := n3_; have HO135 := n4_; clear n0_ n1_ n2_ n3_ n4_; clear ho hb hg hat; obtain ⟨Ao28, co28, eo28⟩ := Kd.R_slice HO135.out; subst eo28; have hcz29_0 : w27.cell? ⟨gb132, 0, none⟩ = some (.int .i64 a0_0) := (blk_cell BK132.out 0).trans rfl; have hcz29_1 : w27.cell? ⟨gb132, 1, none⟩ = some (.int .i64 a0_1) := (blk_cell BK132.out 1).trans rfl; have hcz29_2 : w27.cell? ⟨gb132, 2, none⟩ = some (.slice none 0 0) := (blk_cell BK132.out 2).trans rfl; have hfz29_0 := blk_frozen BK132.out 0; have hfz29_1 := blk_frozen BK132.out 1; have hfz29_2 := blk_frozen BK132.out 2)); try go_quiet (first | ((with_reducible refine gate_builtin (b := .append) (xs := #[.tmp 24, .tmp 26]) rfl ?_); at_builtin; refine Kd.R_append_rows (Kd.int .i64) (w0 := w) w.heap.size rfl (.tmp 24) (.tmp 26) 22 3 (.int .i64 0) 8 rfl Try.underlying22 info3 rfl (by decide) (by omega) (.slice none 0 0) ([] : List Int) l0_2 _ _ _ (fun _ => True) (fun _ => False) rfl rfl ?aO ?aR (fun _ _ h => h) (fun _ h => h.elim) ?aF ?aB ?aS ?aL ?_; (case aR => exact Kd.C_below HR0_2.out (by repeat (first | (with_reducible first | exact HB.out | apply below_alloc | apply pw_below_drewN | apply below_drew1 | refine below_set ?_ GE130.out | refine below_set ?_ GE131.out | refine below_set ?_ GE132.out) | exact HB.out))); (case aB => exact (by repeat (first | (with_reducible first | exact HB.out | apply below_alloc | apply pw_below_drewN | apply below_drew1 | refine below_set ?_ GE130.out | refine below_set ?_ GE131.out | refine below_set ?_ GE132.out) | exact HB.out))); (case aF => exact (fun _ _ => trivial)); (case aO => exact ((Kd.R_nil _ _ _ _ (fun _ => True)))); (case aS => exact (below_size (by repeat (first | (with_reducible first | exact HB.out | apply below_alloc | apply pw_below_drewN | apply below_drew1 | refine below_set ?_ GE130.out | refine below_set ?_ GE131.out | refine below_set ?_ GE132.out) | exact HB.out)))); (case aL => have := LMc3.out; omega); intro v134 w27 ho hb hg hat; rw [← Ny133.out] at ho; have n0_ := Aside0.mk (blk_grown (g := gb130) (o := .cells #[.int .i64 a0_0, .int .i64 a0_1, .slice A0_2 l0_2.length c0_2] 29 (0, 0)) (by (with_reducible repeat (first | refine blk_drewN ?_ _ | refine blk_drew ?_ | refine blk_alloc ?_ _)); refine blk_far ?_ NB130_132.out _; (with_reducible repeat (first | refine blk_drewN ?_ _ | refine blk_drew ?_ | refine blk_alloc ?_ _)); refine blk_far ?_ NB130_132.out _; (with_reducible repeat (first | refine blk_drewN ?_ _ | refine blk_drew ?_ | refine blk_alloc ?_ _)); refine blk_far ?_ NB130_132.out _; (with_reducible repeat (first | refine blk_drewN ?_ _ | refine blk_drew ?_ | refine blk_alloc ?_ _)); exact BK130.out) hg (by simp [Value.ownBlock])); have n1_ := Aside0.mk (blk_grown (g := gb131) (o := .cells #[.int .i64 0, .int .i64 0, .slice none 0 0] 29 (0, 0)) (by (with_reducible repeat (first | refine blk_drewN ?_ _ | refine blk_drew ?_ | refine blk_alloc ?_ _)); refine blk_far ?_ NB131_132.out _; (with_reducible repeat (first | refine blk_drewN ?_ _ | refine blk_drew ?_ | refine blk_alloc ?_ _)); refine blk_far ?_ NB131_132.out _; (with_reducible repeat (first | refine blk_drewN ?_ _ | refine blk_drew ?_ | refine blk_alloc ?_ _)); refine blk_far ?_ NB131_132.out _; (with_reducible repeat (first | refine blk_drewN ?_ _ | refine blk_drew ?_ | refine blk_alloc ?_ _)); exact BK131.out) hg (by simp [Value.ownBlock])); have n2_ := Aside0.mk (blk_grown (g := gb132) (o := .cells #[.int .i64 a0_0, .int .i64 a0_1, .slice none 0 0] 29 (0, 0)) (by (with_reducible repeat (first | refine blk_drewN ?_ _ | refine blk_drew ?_ | refine blk_alloc ?_ _)); refine blk_put (cs := #[.int .i64 a0_0, .int .i64 a0_1, .slice none 0 0]) ?_ 2 _ rfl; (with_reducible repeat (first | refine blk_drewN ?_ _ | refine blk_drew ?_ | refine blk_alloc ?_ _)); refine blk_put (cs := #[.int .i64 a0_0, .int .i64 0, .slice none 0 0]) ?_ 1 _ rfl; (with_reducible repeat (first | refine blk_drewN ?_ _ | refine blk_drew ?_ | refine blk_alloc ?_ _)); refine blk_put (cs := #[.int .i64 0, .int .i64 0, .slice none 0 0]) ?_ 0 _ rfl; (with_reducible repeat (first | refine blk_drewN ?_ _ | refine blk_drew ?_ | refine blk_alloc ?_ _)); exact BK132.out) hg (by simp [Value.ownBlock])); have n3_ := Aside0.mk (hb); have n4_ := Aside0.mk (ho); clear BK130; clear BK131; clear BK132; clear HB; have BK130 := n0_; have BK131 := n1_; have BK132 := n2_; have HB := n3_; have HO135 := n4_; clear n0_ n1_ n2_ n3_ n4_; clear ho hb hg hat; obtain ⟨Ao28, co28, eo28⟩ := Kd.R_slice HO135.out; subst eo28; have hcz29_0 : w27.cell? ⟨gb132, 0, none⟩ = some (.int .i64 a0_0) := (blk_cell BK132.out 0).trans rfl; have hcz29_1 : w27.cell? ⟨gb132, 1, none⟩ = some (.int .i64 a0_1) := (blk_cell BK132.out 1).trans rfl; have hcz29_2 : w27.cell? ⟨gb132, 2, none⟩ = some (.slice none 0 0) := (blk_cell BK132.out 2).trans rfl; have hfz29_0 := blk_frozen BK132.out 0; have hfz29_1 := blk_frozen BK132.out 1; have hfz29_2 := blk_frozen BK132.out 2)))
  go_loopg [7] k (fun kq v7 w' => ∃ (x7_1 : Int) (x133002_1 : List Int), v7 = .int .i64 x7_1 ∧ Aside0 (spec_l13Smooth.l0 kq a1 x7_1 a0_0 a0_1 l0_2 a0_0 a0_1 x133002_1 = some (r1, r2, r3)) ∧ Aside0 (kq ≤ k) ∧ Aside0 (Kd.R (Kd.int .i64) 3 w' w.heap.size (fun _ => True) (.slice Ao28 y133.length co28) x133002_1) ∧ Aside0 (w'.heap[gb130]? = some (.cells #[.int .i64 a0_0, .int .i64 a0_1, (.slice A0_2 l0_2.length c0_2)] 29 (0, 0))) ∧ Aside0 (w'.heap[gb131]? = some (.cells #[.int .i64 0, .int .i64 0, (.slice none 0 0)] 29 (0, 0))) ∧ Aside0 (w'.heap[gb132]? = some (.cells #[.int .i64 a0_0, .int .i64 a0_1, (.slice Ao28 y133.length co28)] 29 (0, 0))) ∧ Aside0 (Below w.heap.size w w'))
  case atStart => exact ⟨(0), (y133), (by first | rfl | (simp; done) | (simp [*]; done)), H', ⟨Nat.le_refl _⟩, ⟨by (with_reducible repeat (first | apply Kd.R_alloc | apply Kd.R_drewN | apply Kd.R_drew)); exact Kd.R_mono (Kd.R_far (p := ⟨gb132, 2, none⟩) (Kd.R_types HO135.out BK132.out (by decide)) (fun _ hk => hk.2) (.slice Ao28 y133.length co28)) (fun _ hk => trivial)⟩, ⟨by (with_reducible repeat (first | refine blk_drewN ?_ _ | refine blk_drew ?_ | refine blk_alloc ?_ _)); refine blk_far ?_ NB130_132.out _; (with_reducible repeat (first | refine blk_drewN ?_ _ | refine blk_drew ?_ | refine blk_alloc ?_ _)); exact BK130.out⟩, ⟨by (with_reducible repeat (first | refine blk_drewN ?_ _ | refine blk_drew ?_ | refine blk_alloc ?_ _)); refine blk_far ?_ NB131_132.out _; (with_reducible repeat (first | refine blk_drewN ?_ _ | refine blk_drew ?_ | refine blk_alloc ?_ _)); exact BK131.out⟩, ⟨by (with_reducible repeat (first | refine blk_drewN ?_ _ | refine blk_drew ?_ | refine blk_alloc ?_ _)); refine blk_put (cs := #[.int .i64 a0_0, .int .i64 a0_1, .slice none 0 0]) ?_ 2 _ rfl; (with_reducible repeat (first | refine blk_drewN ?_ _ | refine blk_drew ?_ | refine blk_alloc ?_ _)); exact BK132.out⟩, ⟨by repeat (first | (with_reducible first | exact HB.out | apply below_alloc | apply pw_below_drewN | apply below_drew1 | refine below_set ?_ GE130.out | refine below_set ?_ GE131.out | refine below_set ?_ GE132.out) | exact HB.out)⟩⟩
  case round =>
    clear H'
    try clear c1
    try clear c2
    try clear p2
    try clear c3
    try clear c4
    try clear c4b0
    try clear c7
    try clear c10
    try clear c11
    try clear c13
    try clear c20
    try clear c23
    try clear c24
    try clear hcz12_0
    try clear hcz12_1
    try clear hcz12_2
    try clear hcz13_0
    try clear hcz13_1
    try clear hcz13_2
    try clear hcz16_0
    try clear hcz16_1
    try clear hcz16_2
    try clear hcz17_0
    try clear hcz17_1
    try clear hcz17_2
    try clear hcz21_0
    try clear hcz21_1
    try clear hcz21_2
    try clear hcz25_0
    try clear hcz25_1
    try clear hcz25_2
    try clear hcz26_0
    try clear hcz26_1
    try clear hcz26_2
    try clear hcz29_0
    try clear hcz29_1
    try clear hcz29_2
    try clear hcz8_0
    try clear hcz8_1
    try clear hcz8_2
    try clear hfz12_0
    try clear hfz12_1
    try clear hfz12_2
    try clear hfz13_0
    try clear hfz13_1
    try clear hfz13_2
    try clear hfz16_0
    try clear hfz16_1
    try clear hfz16_2
    try clear hfz17_0
    try clear hfz17_1
    try clear hfz17_2
    try clear hfz21_0
    try clear hfz21_1
    try clear hfz21_2
    try clear hfz25_0
    try clear hfz25_1
    try clear hfz25_2
    try clear hfz26_0
    try clear hfz26_1
    try clear hfz26_2
    try clear hfz29_0
    try clear hfz29_1
    try clear hfz29_2
    try clear hfz8_0
    try clear hfz8_1
    try clear hfz8_2
    obtain ⟨x7_1, x133002_1, rfl, HA, HK1, HO_133002, BK130, BK131, BK132, HB⟩ := hrel
    have hl133002_1 := (Kd.R_reads' HO_133002.out).1
    rw [hl133002_1] at HO_133002
    (try simp only [hl133002_1])
    (try simp only [hl133002_1] at BK130)
    (try simp only [hl133002_1] at BK131)
    (try simp only [hl133002_1] at BK132)
    cases gk with
    | zero => exact absurd HA.out (by simp [spec_l13Smooth.l0])
    | succ k1 =>
      have H := HA.out
      clear HA
      simp only [spec_l13Smooth.l0] at H
      by_cases c30 : x7_1 < a0_1
      · rw [if_pos c30] at H
        have c30b0 : decide (x7_1 < a0_1) = true := decide_eq_true c30
        clear c30
        have H' := Aside0.mk H
        clear H
        have hnb31 := NB130_131.out
        have hnc31 := NB131_130.out
        have hnb32 := NB130_132.out
        have hnc32 := NB132_130.out
        have hcz33_0 : wr.cell? ⟨gb130, 0, none⟩ = some (.int .i64 a0_0) := (blk_cell BK130.out 0).trans rfl
        have hcz33_1 : wr.cell? ⟨gb130, 1, none⟩ = some (.int .i64 a0_1) := (blk_cell BK130.out 1).trans rfl
        have hcz33_2 : wr.cell? ⟨gb130, 2, none⟩ = some (.slice A0_2 l0_2.length c0_2) := (blk_cell BK130.out 2).trans rfl
        have hfz33_0 := blk_frozen BK130.out 0
        have hfz33_1 := blk_frozen BK130.out 1
        have hfz33_2 := blk_frozen BK130.out 2
        go_wp2
        repeat (go_quiet (fail); try go_wp2)
        go_loopg [8] k1 (fun kq v8 w' => ∃ (x8_2 : Int) (x133002_2 : List Int), v8 = .int .i64 x8_2 ∧ Aside0 (spec_l13Smooth.l1 kq a1 x7_1 x8_2 a0_0 a0_1 l0_2 a0_0 a0_1 x133002_2 = some (r1, r2, r3)) ∧ Aside0 (kq ≤ k1) ∧ Aside0 (Kd.R (Kd.int .i64) 3 w' w.heap.size (fun _ => True) (.slice Ao28 x133002_1.length co28) x133002_2) ∧ Aside0 (w'.heap[gb130]? = some (.cells #[.int .i64 a0_0, .int .i64 a0_1, (.slice A0_2 l0_2.length c0_2)] 29 (0, 0))) ∧ Aside0 (w'.heap[gb131]? = some (.cells #[.int .i64 0, .int .i64 0, (.slice none 0 0)] 29 (0, 0))) ∧ Aside0 (w'.heap[gb132]? = some (.cells #[.int .i64 a0_0, .int .i64 a0_1, (.slice Ao28 x133002_1.length co28)] 29 (0, 0))) ∧ Aside0 (Below w.heap.size w w'))
        case atStart => exact ⟨(4), (x133002_1), (by first | rfl | (simp; done) | (simp [*]; done)), H', ⟨Nat.le_refl _⟩, ⟨by (try simp only [hl133002_1]); (with_reducible repeat (first | apply Kd.R_alloc | apply Kd.R_drewN | apply Kd.R_drew)); exact HO_133002.out⟩, ⟨by (try simp only [hl133002_1]); (with_reducible repeat (first | refine blk_drewN ?_ _ | refine blk_drew ?_ | refine blk_alloc ?_ _)); exact BK130.out⟩, ⟨by (try simp only [hl133002_1]); (with_reducible repeat (first | refine blk_drewN ?_ _ | refine blk_drew ?_ | refine blk_alloc ?_ _)); exact BK131.out⟩, ⟨by (try simp only [hl133002_1]); (with_reducible repeat (first | refine blk_drewN ?_ _ | refine blk_drew ?_ | refine blk_alloc ?_ _)); exact BK132.out⟩, ⟨by repeat (first | (with_reducible first | exact HB.out | apply below_alloc | apply pw_below_drewN | apply below_drew1 | refine below_set ?_ GE130.out | refine below_set ?_ GE131.out | refine below_set ?_ GE132.out) | exact HB.out)⟩⟩
        case round =>
          clear H'
          try clear c1
          try clear c2
          try clear p2
          try clear c3
          try clear c4
          try clear c4b0
          try clear c7
          try clear c10
          try clear c11
          try clear c13
          try clear c20
          try clear c23
          try clear c24
          try clear c30
          try clear c30b0
          try clear c31
          try clear c32
          try clear hcz12_0
          try clear hcz12_1
          try clear hcz12_2
          try clear hcz13_0
          try clear hcz13_1
          try clear hcz13_2
          try clear hcz16_0
          try clear hcz16_1
          try clear hcz16_2
          try clear hcz17_0
          try clear hcz17_1
          try clear hcz17_2
          try clear hcz21_0
          try clear hcz21_1
          try clear hcz21_2
          try clear hcz25_0
          try clear hcz25_1
          try clear hcz25_2
          try clear hcz26_0
          try clear hcz26_1
          try clear hcz26_2
          try clear hcz29_0
          try clear hcz29_1
          try clear hcz29_2
          try clear hcz33_0
          try clear hcz33_1
          try clear hcz33_2
          try clear hcz8_0
          try clear hcz8_1
          try clear hcz8_2
          try clear hfz12_0
          try clear hfz12_1
          try clear hfz12_2
          try clear hfz13_0
          try clear hfz13_1
          try clear hfz13_2
          try clear hfz16_0
          try clear hfz16_1
          try clear hfz16_2
          try clear hfz17_0
          try clear hfz17_1
          try clear hfz17_2
          try clear hfz21_0
          try clear hfz21_1
          try clear hfz21_2
          try clear hfz25_0
          try clear hfz25_1
          try clear hfz25_2
          try clear hfz26_0
          try clear hfz26_1
          try clear hfz26_2
          try clear hfz29_0
          try clear hfz29_1
          try clear hfz29_2
          try clear hfz33_0
          try clear hfz33_1
          try clear hfz33_2
          try clear hfz8_0
          try clear hfz8_1
          try clear hfz8_2
          try clear p2
          obtain ⟨x8_2, x133002_2, rfl, HA, HK2, HO_133002, BK130, BK131, BK132, HB⟩ := hrel
          have hl133002_2 := (Kd.R_reads' HO_133002.out).1
          rw [hl133002_2] at HO_133002
          (try simp only [hl133002_2])
          (try simp only [hl133002_2] at BK130)
          (try simp only [hl133002_2] at BK131)
          (try simp only [hl133002_2] at BK132)
          cases gk with
          | zero => exact absurd HA.out (by simp [spec_l13Smooth.l1])
          | succ k2 =>
            have H := HA.out
            clear HA
            simp only [spec_l13Smooth.l1] at H
            by_cases c34 : (wrap64 (x8_2 + 1)) < a0_0
            rotate_left
            · rw [if_neg c34] at H
              have c34b0 : decide ((wrap64 (x8_2 + 1)) < a0_0) = false := decide_eq_false c34
              clear c34
              have H' := Aside0.mk H
              clear H
              have hnb57 := NB130_131.out
              have hnc57 := NB131_130.out
              have hnb58 := NB130_132.out
              have hnc58 := NB132_130.out
              have hcz59_0 : wr.cell? ⟨gb130, 0, none⟩ = some (.int .i64 a0_0) := (blk_cell BK130.out 0).trans rfl
              have hcz59_1 : wr.cell? ⟨gb130, 1, none⟩ = some (.int .i64 a0_1) := (blk_cell BK130.out 1).trans rfl
              have hcz59_2 : wr.cell? ⟨gb130, 2, none⟩ = some (.slice A0_2 l0_2.length c0_2) := (blk_cell BK130.out 2).trans rfl
              have hfz59_0 := blk_frozen BK130.out 0
              have hfz59_1 := blk_frozen BK130.out 1
              have hfz59_2 := blk_frozen BK130.out 2
              go_wp2
              repeat (go_quiet (fail); try go_wp2)
              (try simp only [← hl133002_1, ← hl133002_2])
              go_roundg k2
              case measure => have := HK1.out; have := HK2.out; omega
              case rel => exact ⟨(wrap64 (x7_1 + 1)), (x133002_2), (by first | rfl | (simp; done) | (simp [*]; done)), H', ⟨by have := HK1.out; have := HK2.out; omega⟩, ⟨by (try simp only [hl133002_1]); (try simp only [hl133002_2]); (with_reducible repeat (first | apply Kd.R_alloc | apply Kd.R_drewN | apply Kd.R_drew)); exact HO_133002.out⟩, ⟨by (try simp only [hl133002_1]); (try simp only [hl133002_2]); (with_reducible repeat (first | refine blk_drewN ?_ _ | refine blk_drew ?_ | refine blk_alloc ?_ _)); exact BK130.out⟩, ⟨by (try simp only [hl133002_1]); (try simp only [hl133002_2]); (with_reducible repeat (first | refine blk_drewN ?_ _ | refine blk_drew ?_ | refine blk_alloc ?_ _)); exact BK131.out⟩, ⟨by (try simp only [hl133002_1]); (try simp only [hl133002_2]); (with_reducible repeat (first | refine blk_drewN ?_ _ | refine blk_drew ?_ | refine blk_alloc ?_ _)); exact BK132.out⟩, ⟨by repeat (first | (with_reducible first | exact HB.out | apply below_alloc | apply pw_below_drewN | apply below_drew1 | refine below_set ?_ GE130.out | refine below_set ?_ GE131.out | refine below_set ?_ GE132.out) | exact HB.out)⟩⟩
            rw [if_pos c34] at H
            have c34b0 : decide ((wrap64 (x8_2 + 1)) < a0_0) = true := decide_eq_true c34
            clear c34
            obtain ⟨ji35, hji35⟩ : ∃ j_ : Int, (wrap64 ((wrap64 ((wrap64 (x7_1 * a0_0)) + x8_2)) - 2)) = j_ := ⟨_, rfl⟩
            replace H : (if 0 ≤ (ji35) then (if (ji35) < (x133002_2.length : Int) then (if 0 ≤ (wrap64 ((wrap64 ((wrap64 (x7_1 * a0_0)) + x8_2)) - 1)) then (if (wrap64 ((wrap64 ((wrap64 (x7_1 * a0_0)) + x8_2)) - 1)) < (x133002_2.length : Int) then (if 0 ≤ (wrap64 ((wrap64 (x7_1 * a0_0)) + x8_2)) then (if (wrap64 ((wrap64 (x7_1 * a0_0)) + x8_2)) < (x133002_2.length : Int) then (if 0 ≤ (wrap64 ((wrap64 ((wrap64 (x7_1 * a0_0)) + x8_2)) + 1)) then (if (wrap64 ((wrap64 ((wrap64 (x7_1 * a0_0)) + x8_2)) + 1)) < (x133002_2.length : Int) then ((spec_l13Edge.f k2 (rd x133002_2 (ji35)) (rd x133002_2 (wrap64 ((wrap64 ((wrap64 (x7_1 * a0_0)) + x8_2)) - 1))) (rd x133002_2 (wrap64 ((wrap64 (x7_1 * a0_0)) + x8_2))) (rd x133002_2 (wrap64 ((wrap64 ((wrap64 (x7_1 * a0_0)) + x8_2)) + 1))) a1).bind fun bt140 => (spec_l13Smooth.l1 k2 a1 x7_1 (wrap64 (x8_2 + 4)) a0_0 a0_1 l0_2 a0_0 a0_1 ((x133002_2.set ((wrap64 ((wrap64 ((wrap64 (x7_1 * a0_0)) + x8_2)) - 1)) : Int).toNat bt140.1).set ((wrap64 ((wrap64 (x7_1 * a0_0)) + x8_2)) : Int).toNat bt140.2))) else (none)) else (none)) else (none)) else (none)) else (none)) else (none)) else (none)) else (none)) = some (r1, r2, r3) := by first | (rw [hji35] at H; exact H) | (simp only [hji35] at H ⊢; exact H)
            have hji35w : (IntKind.i64.wrap ((wrap64 ((wrap64 (x7_1 * a0_0)) + x8_2)) - 2)) = ji35 := (i64_w _).trans hji35
            by_cases c36 : 0 ≤ (ji35)
            rotate_left
            · rw [if_neg c36] at H
              exact absurd H (by simp)
            rw [if_pos c36] at H
            have c36b0 : decide (0 ≤ (ji35)) = true := decide_eq_true c36
            clear c36
            by_cases c37 : (ji35) < (x133002_2.length : Int)
            rotate_left
            · rw [if_neg c37] at H
              exact absurd H (by simp)
            rw [if_pos c37] at H
            have c37b0 : decide ((ji35) < (x133002_2.length : Int)) = true := decide_eq_true c37
            (try simp only [hl133002_1] at c37b0)
            (try simp only [hl133002_2] at c37b0)
            clear c37
            obtain ⟨ji38, hji38⟩ : ∃ j_ : Int, (wrap64 ((wrap64 ((wrap64 (x7_1 * a0_0)) + x8_2)) - 1)) = j_ := ⟨_, rfl⟩
            replace H : (if 0 ≤ (ji38) then (if (ji38) < (x133002_2.length : Int) then (if 0 ≤ (wrap64 ((wrap64 (x7_1 * a0_0)) + x8_2)) then (if (wrap64 ((wrap64 (x7_1 * a0_0)) + x8_2)) < (x133002_2.length : Int) then (if 0 ≤ (wrap64 ((wrap64 ((wrap64 (x7_1 * a0_0)) + x8_2)) + 1)) then (if (wrap64 ((wrap64 ((wrap64 (x7_1 * a0_0)) + x8_2)) + 1)) < (x133002_2.length : Int) then ((spec_l13Edge.f k2 (rd x133002_2 (ji35)) (rd x133002_2 (ji38)) (rd x133002_2 (wrap64 ((wrap64 (x7_1 * a0_0)) + x8_2))) (rd x133002_2 (wrap64 ((wrap64 ((wrap64 (x7_1 * a0_0)) + x8_2)) + 1))) a1).bind fun bt140 => (spec_l13Smooth.l1 k2 a1 x7_1 (wrap64 (x8_2 + 4)) a0_0 a0_1 l0_2 a0_0 a0_1 ((x133002_2.set ((ji38) : Int).toNat bt140.1).set ((wrap64 ((wrap64 (x7_1 * a0_0)) + x8_2)) : Int).toNat bt140.2))) else (none)) else (none)) else (none)) else (none)) else (none)) else (none)) = some (r1, r2, r3) := by first | (rw [hji38] at H; exact H) | (simp only [hji38] at H ⊢; exact H)
            have hji38w : (IntKind.i64.wrap ((wrap64 ((wrap64 (x7_1 * a0_0)) + x8_2)) - 1)) = ji38 := (i64_w _).trans hji38
            by_cases c39 : 0 ≤ (ji38)
            rotate_left
            · rw [if_neg c39] at H
              exact absurd H (by simp)
            rw [if_pos c39] at H
            have c39b0 : decide (0 ≤ (ji38)) = true := decide_eq_true c39
            clear c39
            by_cases c40 : (ji38) < (x133002_2.length : Int)
            rotate_left
            · rw [if_neg c40] at H
              exact absurd H (by simp)
            rw [if_pos c40] at H
            have c40b0 : decide ((ji38) < (x133002_2.length : Int)) = true := decide_eq_true c40
            (try simp only [hl133002_1] at c40b0)
            (try simp only [hl133002_2] at c40b0)
            clear c40
            obtain ⟨ji41, hji41⟩ : ∃ j_ : Int, (wrap64 ((wrap64 (x7_1 * a0_0)) + x8_2)) = j_ := ⟨_, rfl⟩
            have hji35xji41 : wrap64 (ji41 - 2) = ji35 := by rw [← hji41]; exact hji35
            have hji38xji41 : wrap64 (ji41 - 1) = ji38 := by rw [← hji41]; exact hji38
            replace H : (if 0 ≤ (ji41) then (if (ji41) < (x133002_2.length : Int) then (if 0 ≤ (wrap64 ((ji41) + 1)) then (if (wrap64 ((ji41) + 1)) < (x133002_2.length : Int) then ((spec_l13Edge.f k2 (rd x133002_2 (ji35)) (rd x133002_2 (ji38)) (rd x133002_2 (ji41)) (rd x133002_2 (wrap64 ((ji41) + 1))) a1).bind fun bt140 => (spec_l13Smooth.l1 k2 a1 x7_1 (wrap64 (x8_2 + 4)) a0_0 a0_1 l0_2 a0_0 a0_1 ((x133002_2.set ((ji38) : Int).toNat bt140.1).set ((ji41) : Int).toNat bt140.2))) else (none)) else (none)) else (none)) else (none)) = some (r1, r2, r3) := by first | (rw [hji41] at H; exact H) | (simp only [hji41] at H ⊢; exact H)
            have hji41w : (IntKind.i64.wrap ((wrap64 (x7_1 * a0_0)) + x8_2)) = ji41 := (i64_w _).trans hji41
            by_cases c42 : 0 ≤ (ji41)
            rotate_left
            · rw [if_neg c42] at H
              exact absurd H (by simp)
            rw [if_pos c42] at H
            have c42b0 : decide (0 ≤ (ji41)) = true := decide_eq_true c42
            clear c42
            by_cases c43 : (ji41) < (x133002_2.length : Int)
            rotate_left
            · rw [if_neg c43] at H
              exact absurd H (by simp)
            rw [if_pos c43] at H
            have c43b0 : decide ((ji41) < (x133002_2.length : Int)) = true := decide_eq_true c43
            (try simp only [hl133002_1] at c43b0)
            (try simp only [hl133002_2] at c43b0)
            clear c43
            obtain ⟨ji44, hji44⟩ : ∃ j_ : Int, (wrap64 ((ji41) + 1)) = j_ := ⟨_, rfl⟩
            replace H : (if 0 ≤ (ji44) then (if (ji44) < (x133002_2.length : Int) then ((spec_l13Edge.f k2 (rd x133002_2 (ji35)) (rd x133002_2 (ji38)) (rd x133002_2 (ji41)) (rd x133002_2 (ji44)) a1).bind fun bt140 => (spec_l13Smooth.l1 k2 a1 x7_1 (wrap64 (x8_2 + 4)) a0_0 a0_1 l0_2 a0_0 a0_1 ((x133002_2.set ((ji38) : Int).toNat bt140.1).set ((ji41) : Int).toNat bt140.2))) else (none)) else (none)) = some (r1, r2, r3) := by first | (rw [hji44] at H; exact H) | (simp only [hji44] at H ⊢; exact H)
            have hji44w : (IntKind.i64.wrap ((ji41) + 1)) = ji44 := (i64_w _).trans hji44
            by_cases c45 : 0 ≤ (ji44)
            rotate_left
            · rw [if_neg c45] at H
              exact absurd H (by simp)
            rw [if_pos c45] at H
            have c45b0 : decide (0 ≤ (ji44)) = true := decide_eq_true c45
            clear c45
            by_cases c46 : (ji44) < (x133002_2.length : Int)
            rotate_left
            · rw [if_neg c46] at H
              exact absurd H (by simp)
            rw [if_pos c46] at H
            have c46b0 : decide ((ji44) < (x133002_2.length : Int)) = true := decide_eq_true c46
            (try simp only [hl133002_1] at c46b0)
            (try simp only [hl133002_2] at c46b0)
            clear c46
            replace H := Option.bind_eq_some_iff.mp H
            obtain ⟨⟨t140, t141⟩, A470, H⟩ := H
            replace H : (spec_l13Smooth.l1 k2 a1 x7_1 (wrap64 (x8_2 + 4)) a0_0 a0_1 l0_2 a0_0 a0_1 ((x133002_2.set ((ji38) : Int).toNat t140).set ((ji41) : Int).toNat t141)) = some (r1, r2, r3) := H
            have A47 := Aside0.mk A470
            clear A470
            obtain ⟨y142, hy142⟩ : ∃ y_ : List Int, y_ = (x133002_2.set ((ji38) : Int).toNat t140) := ⟨_, rfl⟩
            replace H : (spec_l13Smooth.l1 k2 a1 x7_1 (wrap64 (x8_2 + 4)) a0_0 a0_1 l0_2 a0_0 a0_1 (y142.set ((ji41) : Int).toNat t141)) = some (r1, r2, r3) := by first | (rw [hy142]; with_reducible exact H) | (have H2_ := (Option.bind_some _ _).symm.trans H; rw [hy142]; with_reducible exact H2_) | (have H2_ := (Option.bind_some _ _).symm.trans H; with_reducible exact H2_) | with_reducible exact H | (rw [hy142]; exact H) | exact H
            have Ny142 := Aside0.mk hy142
            clear hy142
            obtain ⟨y143, hy143⟩ : ∃ y_ : List Int, y_ = (y142.set ((ji41) : Int).toNat t141) := ⟨_, rfl⟩
            replace H : (spec_l13Smooth.l1 k2 a1 x7_1 (wrap64 (x8_2 + 4)) a0_0 a0_1 l0_2 a0_0 a0_1 y143) = some (r1, r2, r3) := by first | (rw [hy143]; with_reducible exact H) | (have H2_ := (Option.bind_some _ _).symm.trans H; rw [hy143]; with_reducible exact H2_) | (have H2_ := (Option.bind_some _ _).symm.trans H; with_reducible exact H2_) | with_reducible exact H | (rw [hy143]; exact H) | exact H
            have Ny143 := Aside0.mk hy143
            clear hy143
            have H' := Aside0.mk H
            clear H
            have hnb50 := NB130_131.out
            have hnc50 := NB131_130.out
            have hnb51 := NB130_132.out
            have hnc51 := NB132_130.out
            have hcz52_0 : wr.cell? ⟨gb130, 0, none⟩ = some (.int .i64 a0_0) := (blk_cell BK130.out 0).trans rfl
            have hcz52_1 : wr.cell? ⟨gb130, 1, none⟩ = some (.int .i64 a0_1) := (blk_cell BK130.out 1).trans rfl
            have hcz52_2 : wr.cell? ⟨gb130, 2, none⟩ = some (.slice A0_2 l0_2.length c0_2) := (blk_cell BK130.out 2).trans rfl
            have hfz52_0 := blk_frozen BK130.out 0
            have hfz52_1 := blk_frozen BK130.out 1
            have hfz52_2 := blk_frozen BK130.out 2
            have p136 : 0 ≤ ((ji35) : Int) := of_decide_eq_true (by first | (with_reducible assumption) | assumption)
            have q136 : (ji35) < (x133002_2.length : Int) := of_decide_eq_true (by first | (with_reducible assumption) | assumption)
            obtain ⟨ad136, e136, hx136_0⟩ := Kd.at_int (Kd.R_reads' HO_133002.out).2.2 (ji35) p136 q136
            cases e136
            replace p136 := eq_true p136
            replace q136 := eq_true q136
            have p137 : 0 ≤ ((ji38) : Int) := of_decide_eq_true (by first | (with_reducible assumption) | assumption)
            have q137 : (ji38) < (x133002_2.length : Int) := of_decide_eq_true (by first | (with_reducible assumption) | assumption)
            obtain ⟨ad137, e137, hx137_0⟩ := Kd.at_int (Kd.R_reads' HO_133002.out).2.2 (ji38) p137 q137
            obtain rfl : ad136 = ad137 := (by injection e137)
            replace p137 := eq_true p137
            replace q137 := eq_true q137
            have p138 : 0 ≤ ((ji41) : Int) := of_decide_eq_true (by first | (with_reducible assumption) | assumption)
            have q138 : (ji41) < (x133002_2.length : Int) := of_decide_eq_true (by first | (with_reducible assumption) | assumption)
            obtain ⟨ad138, e138, hx138_0⟩ := Kd.at_int (Kd.R_reads' HO_133002.out).2.2 (ji41) p138 q138
            obtain rfl : ad136 = ad138 := (by injection e138)
            replace p138 := eq_true p138
            replace q138 := eq_true q138
            have p139 : 0 ≤ ((ji44) : Int) := of_decide_eq_true (by first | (with_reducible assumption) | assumption)
            have q139 : (ji44) < (x133002_2.length : Int) := of_decide_eq_true (by first | (with_reducible assumption) | assumption)
            obtain ⟨ad139, e139, hx139_0⟩ := Kd.at_int (Kd.R_reads' HO_133002.out).2.2 (ji44) p139 q139
            obtain rfl : ad136 = ad139 := (by injection e139)
            replace p139 := eq_true p139
            replace q139 := eq_true q139
            have p48 : 0 ≤ ((ji38) : Int) := of_decide_eq_true (by first | (with_reducible assumption) | assumption); have q48 : ((ji38) : Int) < ((x133002_2.length : Int) : Int) := of_decide_eq_true (by first | (with_reducible assumption) | assumption); obtain ⟨go48, co48, eo48, gb48, gl48, cl48, HG48⟩ := Kd.R_form HO_133002.out (by omega); (first | cases eo48 | (injection eo48 with ea_ en_ ec_; (first | subst ea_ | (injection ea_ with ea_; subst ea_)); subst ec_; clear en_)); have GB48 := Aside0.mk gb48; have GG48 := Aside0.mk HG48; clear gb48 gl48 HG48; (first | simp only [add_plain] at hx136_0 | skip); (first | simp only [add_plain] at hx137_0 | skip); (first | simp only [add_plain] at hx138_0 | skip); (first | simp only [add_plain] at hx139_0 | skip); obtain ⟨hx48_0, hf48_0⟩ := Kd.R_celln 0 HO_133002.out ((ji38) : Int) p48 q48; replace p48 := eq_true p48; replace q48 := eq_true q48; obtain ⟨hy53_, hz53_⟩ := Kd.R_celln 0 HO_133002.out ((ji38) : Int) (of_decide_eq_true (by first | (with_reducible assumption) | assumption)) (of_decide_eq_true (by first | (with_reducible assumption) | assumption)); have HP53 := Kd.R_putg HO_133002.out ((ji38) : Int) t140
            iterate 3 (try go_wp2_with (first | (go_at_call 179; (with_reducible refine (spec_l13Edge.calls k2 (rd x133002_2 (ji35)) (rd x133002_2 (ji38)) (rd x133002_2 (ji41)) (rd x133002_2 (ji44)) a1 t140 t141 _ A47.out).mono ?_); rintro e w' ⟨rfl, ⟨nd, rfl⟩⟩; (try first | exact ⟨rfl, _, World.drewN_drewN _ _ _⟩ | exact ⟨rfl, _, Eq.trans (World.drewN_drewN _ _ _) (congrArg (World.drewN _) (Nat.add_assoc _ _ _))⟩)) | ((with_reducible refine gate_store (t := 3) (p := 81) rfl ?_); (try (rw [drewN_self wr]; generalize hq_ : World.drewN wr _ = wr; have n0_ := Aside0.mk (Kd.R_at hq_ HO_133002.out); have n1_ := Aside0.mk (blk_at hq_ BK130.out); have n2_ := Aside0.mk (blk_at hq_ BK131.out); have n3_ := Aside0.mk (blk_at hq_ BK132.out); have n4_ := Aside0.mk (below_at hq_ HB.out); clear hq_ HO_133002 BK130 BK131 BK132 HB; have HO_133002 := n0_; have BK130 := n1_; have BK131 := n2_; have BK132 := n3_; have HB := n4_; clear n0_ n1_ n2_ n3_ n4_; (try (obtain ⟨hy53_, hz53_⟩ := Kd.R_celln 0 HO_133002.out ((ji38) : Int) (of_decide_eq_true (by first | (with_reducible assumption) | assumption)) (of_decide_eq_true (by first | (with_reducible assumption) | assumption)))); (try (have HP53 := Kd.R_putg HO_133002.out ((ji38) : Int) t140)))); refine store_event (t := 3) (p := 81) (v := ?vo_w54) (w1 := (wr.setCell ⟨go48, ((ji38) : Int).toNat, none⟩ (.int .i64 t140))) ?hg ?ho ?hn ?hr ?_; (case ho => rfl); (case hg => rfl); (case hn => rfl); (case hr => first | (go_simp; done) | (go_simp; rfl)); intro w54 hw; have hg : wr.grownBy w54 (some go48) := (by rw [hw]; exact HP53.2); have hp_ : Kd.R (Kd.int .i64) 3 w54 w.heap.size (fun _ => True) (.slice (some ⟨go48, 0, none⟩) x133002_2.length co28) y142 := (by rw [hw, Ny142.out]; exact HP53.1); clear HP53; have n0_ := Aside0.mk (hp_); have n1_ := Aside0.mk (blk_grown (g := gb130) (o := .cells #[.int .i64 a0_0, .int .i64 a0_1, .slice A0_2 l0_2.length c0_2] 29 (0, 0)) (by (with_reducible repeat (first | refine blk_drewN ?_ _ | refine blk_drew ?_ | refine blk_alloc ?_ _)); exact BK130.out) hg (Kd.R_ne HO_133002.out BK130.out (by decide))); have n2_ := Aside0.mk (blk_grown (g := gb131) (o := .cells #[.int .i64 0, .int .i64 0, .slice none 0 0] 29 (0, 0)) (by (with_reducible repeat (first | refine blk_drewN ?_ _ | refine blk_drew ?_ | refine blk_alloc ?_ _)); exact BK131.out) hg (Kd.R_ne HO_133002.out BK131.out (by decide))); have n3_ := Aside0.mk (blk_grown (g := gb132) (o := .cells #[.int .i64 a0_0, .int .i64 a0_1, .slice (some ⟨go48, 0, none⟩) x133002_2.length co28] 29 (0, 0)) (by (with_reducible repeat (first | refine blk_drewN ?_ _ | refine blk_drew ?_ | refine blk_alloc ?_ _)); exact BK132.out) hg (Kd.R_ne HO_133002.out BK132.out (by decide))); have n4_ := Aside0.mk ((by rw [hw]; exact below_set (HB.out) GB48.out : Below w.heap.size w w54)); clear HO_133002; clear BK130; clear BK131; clear BK132; clear HB; have HO_133002 := n0_; have BK130 := n1_; have BK131 := n2_; have BK132 := n3_; have HB := n4_; clear n0_ n1_ n2_ n3_ n4_; clear hg hw hp_; have p49 : 0 ≤ ((ji41) : Int) := of_decide_eq_true (by first | (with_reducible assumption) | assumption); have q49 : ((ji41) : Int) < ((x133002_2.length : Int) : Int) := of_decide_eq_true (by first | (with_reducible assumption) | assumption); obtain ⟨hx49_0, hf49_0⟩ := Kd.R_celln 0 HO_133002.out ((ji41) : Int) p49 q49; replace p49 := eq_true p49; replace q49 := eq_true q49; obtain ⟨hy55_, hz55_⟩ := Kd.R_celln 0 HO_133002.out ((ji41) : Int) (of_decide_eq_true (by first | (with_reducible assumption) | assumption)) (of_decide_eq_true (by first | (with_reducible assumption) | assumption)); have HP55 := Kd.R_putg HO_133002.out ((ji41) : Int) t141) | ((with_reducible refine gate_store (t := 3) (p := 85) rfl ?_); (try (rw [drewN_self w54]; generalize hq_ : World.drewN w54 _ = w54; have n0_ := Aside0.mk (Kd.R_at hq_ HO_133002.out); have n1_ := Aside0.mk (blk_at hq_ BK130.out); have n2_ := Aside0.mk (blk_at hq_ BK131.out); have n3_ := Aside0.mk (blk_at hq_ BK132.out); have n4_ := Aside0.mk (below_at hq_ HB.out); clear hq_ HO_133002 BK130 BK131 BK132 HB; have HO_133002 := n0_; have BK130 := n1_; have BK131 := n2_; have BK132 := n3_; have HB := n4_; clear n0_ n1_ n2_ n3_ n4_; (try (obtain ⟨hy55_, hz55_⟩ := Kd.R_celln 0 HO_133002.out ((ji41) : Int) (of_decide_eq_true (by first | (with_reducible assumption) | assumption)) (of_decide_eq_true (by first | (with_reducible assumption) | assumption)))); (try (have HP55 := Kd.R_putg HO_133002.out ((ji41) : Int) t141)))); refine store_event (t := 3) (p := 85) (v := ?vo_w56) (w1 := (w54.setCell ⟨go48, ((ji41) : Int).toNat, none⟩ (.int .i64 t141))) ?hg ?ho ?hn ?hr ?_; (case ho => rfl); (case hg => rfl); (case hn => rfl); (case hr => first | (go_simp; done) | (go_simp; rfl)); intro w56 hw; have hg : w54.grownBy w56 (some go48) := (by rw [hw]; exact HP55.2); have hp_ : Kd.R (Kd.int .i64) 3 w56 w.heap.size (fun _ => True) (.slice (some ⟨go48, 0, none⟩) x133002_2.length co28) y143 := (by rw [hw, Ny143.out]; exact HP55.1); clear HP55; have n0_ := Aside0.mk (hp_); have n1_ := Aside0.mk (blk_grown (g := gb130) (o := .cells #[.int .i64 a0_0, .int .i64 a0_1, .slice A0_2 l0_2.length c0_2] 29 (0, 0)) (by (with_reducible repeat (first | refine blk_drewN ?_ _ | refine blk_drew ?_ | refine blk_alloc ?_ _)); exact BK130.out) hg (Kd.R_ne HO_133002.out BK130.out (by decide))); have n2_ := Aside0.mk (blk_grown (g := gb131) (o := .cells #[.int .i64 0, .int .i64 0, .slice none 0 0] 29 (0, 0)) (by (with_reducible repeat (first | refine blk_drewN ?_ _ | refine blk_drew ?_ | refine blk_alloc ?_ _)); exact BK131.out) hg (Kd.R_ne HO_133002.out BK131.out (by decide))); have n3_ := Aside0.mk (blk_grown (g := gb132) (o := .cells #[.int .i64 a0_0, .int .i64 a0_1, .slice (some ⟨go48, 0, none⟩) x133002_2.length co28] 29 (0, 0)) (by (with_reducible repeat (first | refine blk_drewN ?_ _ | refine blk_drew ?_ | refine blk_alloc ?_ _)); exact BK132.out) hg (Kd.R_ne HO_133002.out BK132.out (by decide))); have n4_ := Aside0.mk ((by rw [hw]; exact below_set (HB.out) GB48.out : Below w.heap.size w w56)); clear HO_133002; clear BK130; clear BK131; clear BK132; clear HB; have HO_133002 := n0_; have BK130 := n1_; have BK131 := n2_; have BK132 := n3_; have HB := n4_; clear n0_ n1_ n2_ n3_ n4_; clear hg hw hp_)); try go_quiet (first | (go_at_call 179; (with_reducible refine (spec_l13Edge.calls k2 (rd x133002_2 (ji35)) (rd x133002_2 (ji38)) (rd x133002_2 (ji41)) (rd x133002_2 (ji44)) a1 t140 t141 _ A47.out).mono ?_); rintro e w' ⟨rfl, ⟨nd, rfl⟩⟩; (try first | exact ⟨rfl, _, World.drewN_drewN _ _ _⟩ | exact ⟨rfl, _, Eq.trans (World.drewN_drewN _ _ _) (congrArg (World.drewN _) (Nat.add_assoc _ _ _))⟩)) | ((with_reducible refine gate_store (t := 3) (p := 81) rfl ?_); (try (rw [drewN_self wr]; generalize hq_ : World.drewN wr _ = wr; have n0_ := Aside0.mk (Kd.R_at hq_ HO_133002.out); have n1_ := Aside0.mk (blk_at hq_ BK130.out); have n2_ := Aside0.mk (blk_at hq_ BK131.out); have n3_ := Aside0.mk (blk_at hq_ BK132.out); have n4_ := Aside0.mk (below_at hq_ HB.out); clear hq_ HO_133002 BK130 BK131 BK132 HB; have HO_133002 := n0_; have BK130 := n1_; have BK131 := n2_; have BK132 := n3_; have HB := n4_; clear n0_ n1_ n2_ n3_ n4_; (try (obtain ⟨hy53_, hz53_⟩ := Kd.R_celln 0 HO_133002.out ((ji38) : Int) (of_decide_eq_true (by first | (with_reducible assumption) | assumption)) (of_decide_eq_true (by first | (with_reducible assumption) | assumption)))); (try (have HP53 := Kd.R_putg HO_133002.out ((ji38) : Int) t140)))); refine store_event (t := 3) (p := 81) (v := ?vo_w54) (w1 := (wr.setCell ⟨go48, ((ji38) : Int).toNat, none⟩ (.int .i64 t140))) ?hg ?ho ?hn ?hr ?_; (case ho => rfl); (case hg => rfl); (case hn => rfl); (case hr => first | (go_simp; done) | (go_simp; rfl)); intro w54 hw; have hg : wr.grownBy w54 (some go48) := (by rw [hw]; exact HP53.2); have hp_ : Kd.R (Kd.int .i64) 3 w54 w.heap.size (fun _ => True) (.slice (some ⟨go48, 0, none⟩) x133002_2.length co28) y142 := (by rw [hw, Ny142.out]; exact HP53.1); clear HP53; have n0_ := Aside0.mk (hp_); have n1_ := Aside0.mk (blk_grown (g := gb130) (o := .cells #[.int .i64 a0_0, .int .i64 a0_1, .slice A0_2 l0_2.length c0_2] 29 (0, 0)) (by (with_reducible repeat (first | refine blk_drewN ?_ _ | refine blk_drew ?_ | refine blk_alloc ?_ _)); exact BK130.out) hg (Kd.R_ne HO_133002.out BK130.out (by decide))); have n2_ := Aside0.mk (blk_grown (g := gb131) (o := .cells #[.int .i64 0, .int .i64 0, .slice none 0 0] 29 (0, 0)) (by (with_reducible repeat (first | refine blk_drewN ?_ _ | refine blk_drew ?_ | refine blk_alloc ?_ _)); exact BK131.out) hg (Kd.R_ne HO_133002.out BK131.out (by decide))); have n3_ := Aside0.mk (blk_grown (g := gb132) (o := .cells #[.int .i64 a0_0, .int .i64 a0_1, .slice (some ⟨go48, 0, none⟩) x133002_2.length co28] 29 (0, 0)) (by (with_reducible repeat (first | refine blk_drewN ?_ _ | refine blk_drew ?_ | refine blk_alloc ?_ _)); exact BK132.out) hg (Kd.R_ne HO_133002.out BK132.out (by decide))); have n4_ := Aside0.mk ((by rw [hw]; exact below_set (HB.out) GB48.out : Below w.heap.size w w54)); clear HO_133002; clear BK130; clear BK131; clear BK132; clear HB; have HO_133002 := n0_; have BK130 := n1_; have BK131 := n2_; have BK132 := n3_; have HB := n4_; clear n0_ n1_ n2_ n3_ n4_; clear hg hw hp_; have p49 : 0 ≤ ((ji41) : Int) := of_decide_eq_true (by first | (with_reducible assumption) | assumption); have q49 : ((ji41) : Int) < ((x133002_2.length : Int) : Int) := of_decide_eq_true (by first | (with_reducible assumption) | assumption); obtain ⟨hx49_0, hf49_0⟩ := Kd.R_celln 0 HO_133002.out ((ji41) : Int) p49 q49; replace p49 := eq_true p49; replace q49 := eq_true q49; obtain ⟨hy55_, hz55_⟩ := Kd.R_celln 0 HO_133002.out ((ji41) : Int) (of_decide_eq_true (by first | (with_reducible assumption) | assumption)) (of_decide_eq_true (by first | (with_reducible assumption) | assumption)); have HP55 := Kd.R_putg HO_133002.out ((ji41) : Int) t141) | ((with_reducible refine gate_store (t := 3) (p := 85) rfl ?_); (try (rw [drewN_self w54]; generalize hq_ : World.drewN w54 _ = w54; have n0_ := Aside0.mk (Kd.R_at hq_ HO_133002.out); have n1_ := Aside0.mk (blk_at hq_ BK130.out); have n2_ := Aside0.mk (blk_at hq_ BK131.out); have n3_ := Aside0.mk (blk_at hq_ BK132.out); have n4_ := Aside0.mk (below_at hq_ HB.out); clear hq_ HO_133002 BK130 BK131 BK132 HB; have HO_133002 := n0_; have BK130 := n1_; have BK131 := n2_; have BK132 := n3_; have HB := n4_; clear n0_ n1_ n2_ n3_ n4_; (try (obtain ⟨hy55_, hz55_⟩ := Kd.R_celln 0 HO_133002.out ((ji41) : Int) (of_decide_eq_true (by first | (with_reducible assumption) | assumption)) (of_decide_eq_true (by first | (with_reducible assumption) | assumption)))); (try (have HP55 := Kd.R_putg HO_133002.out ((ji41) : Int) t141)))); refine store_event (t := 3) (p := 85) (v := ?vo_w56) (w1 := (w54.setCell ⟨go48, ((ji41) : Int).toNat, none⟩ (.int .i64 t141))) ?hg ?ho ?hn ?hr ?_; (case ho => rfl); (case hg => rfl); (case hn => rfl); (case hr => first | (go_simp; done) | (go_simp; rfl)); intro w56 hw; have hg : w54.grownBy w56 (some go48) := (by rw [hw]; exact HP55.2); have hp_ : Kd.R (Kd.int .i64) 3 w56 w.heap.size (fun _ => True) (.slice (some ⟨go48, 0, none⟩) x133002_2.length co28) y143 := (by rw [hw, Ny143.out]; exact HP55.1); clear HP55; have n0_ := Aside0.mk (hp_); have n1_ := Aside0.mk (blk_grown (g := gb130) (o := .cells #[.int .i64 a0_0, .int .i64 a0_1, .slice A0_2 l0_2.length c0_2] 29 (0, 0)) (by (with_reducible repeat (first | refine blk_drewN ?_ _ | refine blk_drew ?_ | refine blk_alloc ?_ _)); exact BK130.out) hg (Kd.R_ne HO_133002.out BK130.out (by decide))); have n2_ := Aside0.mk (blk_grown (g := gb131) (o := .cells #[.int .i64 0, .int .i64 0, .slice none 0 0] 29 (0, 0)) (by (with_reducible repeat (first | refine blk_drewN ?_ _ | refine blk_drew ?_ | refine blk_alloc ?_ _)); exact BK131.out) hg (Kd.R_ne HO_133002.out BK131.out (by decide))); have n3_ := Aside0.mk (blk_grown (g := gb132) (o := .cells #[.int .i64 a0_0, .int .i64 a0_1, .slice (some ⟨go48, 0, none⟩) x133002_2.length co28] 29 (0, 0)) (by (with_reducible repeat (first | refine blk_drewN ?_ _ | refine blk_drew ?_ | refine blk_alloc ?_ _)); exact BK132.out) hg (Kd.R_ne HO_133002.out BK132.out (by decide))); have n4_ := Aside0.mk ((by rw [hw]; exact below_set (HB.out) GB48.out : Below w.heap.size w w56)); clear HO_133002; clear BK130; clear BK131; clear BK132; clear HB; have HO_133002 := n0_; have BK130 := n1_; have BK131 := n2_; have BK132 := n3_; have HB := n4_; clear n0_ n1_ n2_ n3_ n4_; clear hg hw hp_)))
            (try simp only [← hl133002_2])
            go_roundg k2
            case measure => have := HK1.out; have := HK2.out; omega
            case rel => exact ⟨(wrap64 (x8_2 + 4)), (y143), (by first | rfl | (simp; done) | (simp [*]; done)), H', ⟨by have := HK1.out; have := HK2.out; omega⟩, ⟨by (try simp only [hl133002_1]); (try simp only [hl133002_2]); (with_reducible repeat (first | apply Kd.R_alloc | apply Kd.R_drewN | apply Kd.R_drew)); exact HO_133002.out⟩, ⟨by (try simp only [hl133002_1]); (try simp only [hl133002_2]); (with_reducible repeat (first | refine blk_drewN ?_ _ | refine blk_drew ?_ | refine blk_alloc ?_ _)); exact BK130.out⟩, ⟨by (try simp only [hl133002_1]); (try simp only [hl133002_2]); (with_reducible repeat (first | refine blk_drewN ?_ _ | refine blk_drew ?_ | refine blk_alloc ?_ _)); exact BK131.out⟩, ⟨by (try simp only [hl133002_1]); (try simp only [hl133002_2]); (with_reducible repeat (first | refine blk_drewN ?_ _ | refine blk_drew ?_ | refine blk_alloc ?_ _)); exact BK132.out⟩, ⟨by repeat (first | (with_reducible first | exact HB.out | apply below_alloc | apply pw_below_drewN | apply below_drew1 | refine below_set ?_ GE130.out | refine below_set ?_ GE131.out | refine below_set ?_ GE132.out) | exact HB.out)⟩⟩
      rw [if_neg c30] at H
      have c30b0 : decide (x7_1 < a0_1) = false := decide_eq_false c30
      clear c30
      have H' := Aside0.mk H
      clear H
      have hnb60 := NB130_131.out
      have hnc60 := NB131_130.out
      have hnb61 := NB130_132.out
      have hnc61 := NB132_130.out
      have hcz62_0 : wr.cell? ⟨gb130, 0, none⟩ = some (.int .i64 a0_0) := (blk_cell BK130.out 0).trans rfl
      have hcz62_1 : wr.cell? ⟨gb130, 1, none⟩ = some (.int .i64 a0_1) := (blk_cell BK130.out 1).trans rfl
      have hcz62_2 : wr.cell? ⟨gb130, 2, none⟩ = some (.slice A0_2 l0_2.length c0_2) := (blk_cell BK130.out 2).trans rfl
      have hfz62_0 := blk_frozen BK130.out 0
      have hfz62_1 := blk_frozen BK130.out 1
      have hfz62_2 := blk_frozen BK130.out 2
      go_wp2
      repeat (go_quiet (fail); try go_wp2)
      go_loopg [12] k1 (fun kq v12 w' => ∃ (x12_2 : Int) (x133002_2 : List Int), v12 = .int .i64 x12_2 ∧ Aside0 (spec_l13Smooth.l2 kq a1 x12_2 a0_0 a0_1 l0_2 a0_0 a0_1 x133002_2 = some (r1, r2, r3)) ∧ Aside0 (kq ≤ k1) ∧ Aside0 (Kd.R (Kd.int .i64) 3 w' w.heap.size (fun _ => True) (.slice Ao28 x133002_1.length co28) x133002_2) ∧ Aside0 (w'.heap[gb130]? = some (.cells #[.int .i64 a0_0, .int .i64 a0_1, (.slice A0_2 l0_2.length c0_2)] 29 (0, 0))) ∧ Aside0 (w'.heap[gb131]? = some (.cells #[.int .i64 0, .int .i64 0, (.slice none 0 0)] 29 (0, 0))) ∧ Aside0 (w'.heap[gb132]? = some (.cells #[.int .i64 a0_0, .int .i64 a0_1, (.slice Ao28 x133002_1.length co28)] 29 (0, 0))) ∧ Aside0 (Below w.heap.size w w'))
      case atStart => exact ⟨(0), (x133002_1), (by first | rfl | (simp; done) | (simp [*]; done)), H', ⟨Nat.le_refl _⟩, ⟨by (try simp only [hl133002_1]); (with_reducible repeat (first | apply Kd.R_alloc | apply Kd.R_drewN | apply Kd.R_drew)); exact HO_133002.out⟩, ⟨by (try simp only [hl133002_1]); (with_reducible repeat (first | refine blk_drewN ?_ _ | refine blk_drew ?_ | refine blk_alloc ?_ _)); exact BK130.out⟩, ⟨by (try simp only [hl133002_1]); (with_reducible repeat (first | refine blk_drewN ?_ _ | refine blk_drew ?_ | refine blk_alloc ?_ _)); exact BK131.out⟩, ⟨by (try simp only [hl133002_1]); (with_reducible repeat (first | refine blk_drewN ?_ _ | refine blk_drew ?_ | refine blk_alloc ?_ _)); exact BK132.out⟩, ⟨by repeat (first | (with_reducible first | exact HB.out | apply below_alloc | apply pw_below_drewN | apply below_drew1 | refine below_set ?_ GE130.out | refine below_set ?_ GE131.out | refine below_set ?_ GE132.out) | exact HB.out)⟩⟩
      case round =>
        clear H'
        try clear c1
        try clear p1
        try clear q1
        try clear hx1
        try clear c2
        try clear p2
        try clear c3
        try clear c4
        try clear c4b0
        try clear p4
        try clear q4
        try clear hx4
        try clear hf4
        try clear c5
        try clear c6
        try clear p6
        try clear c7
        try clear c10
        try clear c11
        try clear c13
        try clear p13
        try clear q13
        try clear hx13
        try clear c20
        try clear c23
        try clear c24
        try clear c30
        try clear c30b0
        try clear c31
        try clear c32
        try clear c34
        try clear c34b0
        try clear c36
        try clear c36b0
        try clear c37
        try clear c37b0
        try clear c39
        try clear c39b0
        try clear c40
        try clear c40b0
        try clear c42
        try clear c42b0
        try clear c43
        try clear c43b0
        try clear c45
        try clear c45b0
        try clear c46
        try clear c46b0
        try clear p48
        try clear q48
        try clear hx48
        try clear hf48
        try clear p49
        try clear q49
        try clear hx49
        try clear hf49
        try clear c50
        try clear c51
        try clear c57
        try clear c58
        try clear c60
        try clear c61
        try clear hcz12_0
        try clear hcz12_1
        try clear hcz12_2
        try clear hcz13_0
        try clear hcz13_1
        try clear hcz13_2
        try clear hcz16_0
        try clear hcz16_1
        try clear hcz16_2
        try clear hcz17_0
        try clear hcz17_1
        try clear hcz17_2
        try clear hcz21_0
        try clear hcz21_1
        try clear hcz21_2
        try clear hcz25_0
        try clear hcz25_1
        try clear hcz25_2
        try clear hcz26_0
        try clear hcz26_1
        try clear hcz26_2
        try clear hcz29_0
        try clear hcz29_1
        try clear hcz29_2
        try clear hcz33_0
        try clear hcz33_1
        try clear hcz33_2
        try clear hcz52_0
        try clear hcz52_1
        try clear hcz52_2
        try clear hcz59_0
        try clear hcz59_1
        try clear hcz59_2
        try clear hcz62_0
        try clear hcz62_1
        try clear hcz62_2
        try clear hcz8_0
        try clear hcz8_1
        try clear hcz8_2
        try clear hfz12_0
        try clear hfz12_1
        try clear hfz12_2
        try clear hfz13_0
        try clear hfz13_1
        try clear hfz13_2
        try clear hfz16_0
        try clear hfz16_1
        try clear hfz16_2
        try clear hfz17_0
        try clear hfz17_1
        try clear hfz17_2
        try clear hfz21_0
        try clear hfz21_1
        try clear hfz21_2
        try clear hfz25_0
        try clear hfz25_1
        try clear hfz25_2
        try clear hfz26_0
        try clear hfz26_1
        try clear hfz26_2
        try clear hfz29_0
        try clear hfz29_1
        try clear hfz29_2
        try clear hfz33_0
        try clear hfz33_1
        try clear hfz33_2
        try clear hfz52_0
        try clear hfz52_1
        try clear hfz52_2
        try clear hfz59_0
        try clear hfz59_1
        try clear hfz59_2
        try clear hfz62_0
        try clear hfz62_1
        try clear hfz62_2
        try clear hfz8_0
        try clear hfz8_1
        try clear hfz8_2
        try clear hx136_0
        try clear hx137_0
        try clear hx138_0
        try clear hx139_0
        try clear hx48_0
        try clear hx49_0
        try clear p136
        try clear p137
        try clear p138
        try clear p139
        try clear p2
        try clear p48
        try clear p49
        try clear q136
        try clear q137
        try clear q138
        try clear q139
        try clear q48
        try clear q49
        obtain ⟨x12_2, x133002_2, rfl, HA, HK2, HO_133002, BK130, BK131, BK132, HB⟩ := hrel
        have hl133002_2 := (Kd.R_reads' HO_133002.out).1
        rw [hl133002_2] at HO_133002
        (try simp only [hl133002_2])
        (try simp only [hl133002_2] at BK130)
        (try simp only [hl133002_2] at BK131)
        (try simp only [hl133002_2] at BK132)
        cases gk with
        | zero => exact absurd HA.out (by simp [spec_l13Smooth.l2])
        | succ k2 =>
          have H := HA.out
          clear HA
          simp only [spec_l13Smooth.l2] at H
          by_cases c63 : x12_2 < a0_0
          rotate_left
          · rw [if_neg c63] at H
            have c63b0 : decide (x12_2 < a0_0) = false := decide_eq_false c63
            clear c63
            simp only [Option.some.injEq, Prod.mk.injEq] at H
            obtain ⟨rfl, rfl, rfl⟩ := H
            have hnb93 := NB130_131.out
            have hnc93 := NB131_130.out
            have hnb94 := NB130_132.out
            have hnc94 := NB132_130.out
            have hcz95_0 : wr.cell? ⟨gb130, 0, none⟩ = some (.int .i64 a0_0) := (blk_cell BK130.out 0).trans rfl
            have hcz95_1 : wr.cell? ⟨gb130, 1, none⟩ = some (.int .i64 a0_1) := (blk_cell BK130.out 1).trans rfl
            have hcz95_2 : wr.cell? ⟨gb130, 2, none⟩ = some (.slice A0_2 l0_2.length c0_2) := (blk_cell BK130.out 2).trans rfl
            have hfz95_0 := blk_frozen BK130.out 0
            have hfz95_1 := blk_frozen BK130.out 1
            have hfz95_2 := blk_frozen BK130.out 2
            have hnb96 := NB132_131.out
            have hnc96 := NB131_132.out
            have hcz97_0 : wr.cell? ⟨gb132, 0, none⟩ = some (.int .i64 a0_0) := (blk_cell BK132.out 0).trans rfl
            have hcz97_1 : wr.cell? ⟨gb132, 1, none⟩ = some (.int .i64 a0_1) := (blk_cell BK132.out 1).trans rfl
            have hcz97_2 : wr.cell? ⟨gb132, 2, none⟩ = some (.slice Ao28 x133002_2.length co28) := (blk_cell BK132.out 2).trans rfl
            have hfz97_0 := blk_frozen BK132.out 0
            have hfz97_1 := blk_frozen BK132.out 1
            have hfz97_2 := blk_frozen BK132.out 2
            have hcz98_0 : wr.cell? ⟨gb131, 0, none⟩ = some (.int .i64 0) := (blk_cell BK131.out 0).trans rfl
            have hcz98_1 : wr.cell? ⟨gb131, 1, none⟩ = some (.int .i64 0) := (blk_cell BK131.out 1).trans rfl
            have hcz98_2 : wr.cell? ⟨gb131, 2, none⟩ = some (.slice none 0 0) := (blk_cell BK131.out 2).trans rfl
            have hfz98_0 := blk_frozen BK131.out 0
            have hfz98_1 := blk_frozen BK131.out 1
            have hfz98_2 := blk_frozen BK131.out 2
            go_wp2
            repeat (go_quiet (fail); try go_wp2)
            refine bodyPost_ret (results_cell_row rfl _ _ gb131 29 #[.int .i64 a0_0, .int .i64 a0_1, .slice Ao28 x133002_2.length co28] (0, 0) _ rfl (by (with_reducible repeat (first | refine blk_drewN ?_ _ | refine blk_drew ?_ | refine blk_alloc ?_ _)); refine blk_put (cs := #[.int .i64 a0_0, .int .i64 a0_1, .slice none 0 0]) ?_ 2 _ rfl; (with_reducible repeat (first | refine blk_drewN ?_ _ | refine blk_drew ?_ | refine blk_alloc ?_ _)); refine blk_put (cs := #[.int .i64 a0_0, .int .i64 0, .slice none 0 0]) ?_ 1 _ rfl; (with_reducible repeat (first | refine blk_drewN ?_ _ | refine blk_drew ?_ | refine blk_alloc ?_ _)); refine blk_put (cs := #[.int .i64 0, .int .i64 0, .slice none 0 0]) ?_ 0 _ rfl; (with_reducible repeat (first | refine blk_drewN ?_ _ | refine blk_drew ?_ | refine blk_alloc ?_ _)); exact BK131.out) Try.underlying29 rfl (by kernel_rfl)) rfl ?_
            exact ⟨_, by first | rfl | (simp [errW_none, errW_some] <;> rfl) | (simp [*, errW_none, errW_some] <;> rfl), by (with_reducible repeat (first | apply Kd.R_alloc | apply Kd.R_drewN | apply Kd.R_drew)); exact Kd.R_mono (Kd.R_far (p := ⟨gb131, 2, none⟩) (Kd.R_far (p := ⟨gb131, 1, none⟩) (Kd.R_far (p := ⟨gb131, 0, none⟩) (Kd.R_types HO_133002.out BK131.out (by decide)) (fun _ hk => hk.2) (.int .i64 a0_0)) (fun _ hk => hk.2) (.int .i64 a0_1)) (fun _ hk => hk.2) (.slice Ao28 x133002_2.length co28)) (fun _ hk => trivial), by repeat (first | (with_reducible first | exact HB.out | apply below_alloc | apply pw_below_drewN | apply below_drew1 | refine below_set ?_ GE130.out | refine below_set ?_ GE131.out | refine below_set ?_ GE132.out) | exact HB.out)⟩
          rw [if_pos c63] at H
          have c63b0 : decide (x12_2 < a0_0) = true := decide_eq_true c63
          clear c63
          have H' := Aside0.mk H
          clear H
          have hnb64 := NB130_131.out
          have hnc64 := NB131_130.out
          have hnb65 := NB130_132.out
          have hnc65 := NB132_130.out
          have hcz66_0 : wr.cell? ⟨gb130, 0, none⟩ = some (.int .i64 a0_0) := (blk_cell BK130.out 0).trans rfl
          have hcz66_1 : wr.cell? ⟨gb130, 1, none⟩ = some (.int .i64 a0_1) := (blk_cell BK130.out 1).trans rfl
          have hcz66_2 : wr.cell? ⟨gb130, 2, none⟩ = some (.slice A0_2 l0_2.length c0_2) := (blk_cell BK130.out 2).trans rfl
          have hfz66_0 := blk_frozen BK130.out 0
          have hfz66_1 := blk_frozen BK130.out 1
          have hfz66_2 := blk_frozen BK130.out 2
          go_wp2
          repeat (go_quiet (fail); try go_wp2)
          go_loopg [13] k2 (fun kq v13 w' => ∃ (x13_3 : Int) (x133002_3 : List Int), v13 = .int .i64 x13_3 ∧ Aside0 (spec_l13Smooth.l3 kq a1 x12_2 x13_3 a0_0 a0_1 l0_2 a0_0 a0_1 x133002_3 = some (r1, r2, r3)) ∧ Aside0 (kq ≤ k2) ∧ Aside0 (Kd.R (Kd.int .i64) 3 w' w.heap.size (fun _ => True) (.slice Ao28 x133002_2.length co28) x133002_3) ∧ Aside0 (w'.heap[gb130]? = some (.cells #[.int .i64 a0_0, .int .i64 a0_1, (.slice A0_2 l0_2.length c0_2)] 29 (0, 0))) ∧ Aside0 (w'.heap[gb131]? = some (.cells #[.int .i64 0, .int .i64 0, (.slice none 0 0)] 29 (0, 0))) ∧ Aside0 (w'.heap[gb132]? = some (.cells #[.int .i64 a0_0, .int .i64 a0_1, (.slice Ao28 x133002_2.length co28)] 29 (0, 0))) ∧ Aside0 (Below w.heap.size w w'))
          case atStart => exact ⟨(4), (x133002_2), (by first | rfl | (simp; done) | (simp [*]; done)), H', ⟨Nat.le_refl _⟩, ⟨by (try simp only [hl133002_1]); (try simp only [hl133002_2]); (with_reducible repeat (first | apply Kd.R_alloc | apply Kd.R_drewN | apply Kd.R_drew)); exact HO_133002.out⟩, ⟨by (try simp only [hl133002_1]); (try simp only [hl133002_2]); (with_reducible repeat (first | refine blk_drewN ?_ _ | refine blk_drew ?_ | refine blk_alloc ?_ _)); exact BK130.out⟩, ⟨by (try simp only [hl133002_1]); (try simp only [hl133002_2]); (with_reducible repeat (first | refine blk_drewN ?_ _ | refine blk_drew ?_ | refine blk_alloc ?_ _)); exact BK131.out⟩, ⟨by (try simp only [hl133002_1]); (try simp only [hl133002_2]); (with_reducible repeat (first | refine blk_drewN ?_ _ | refine blk_drew ?_ | refine blk_alloc ?_ _)); exact BK132.out⟩, ⟨by repeat (first | (with_reducible first | exact HB.out | apply below_alloc | apply pw_below_drewN | apply below_drew1 | refine below_set ?_ GE130.out | refine below_set ?_ GE131.out | refine below_set ?_ GE132.out) | exact HB.out)⟩⟩
          case round =>
            clear H'
            try clear c1
            try clear p1
            try clear q1
            try clear hx1
            try clear c2
            try clear p2
            try clear c3
            try clear c4
            try clear c4b0
            try clear p4
            try clear q4
            try clear hx4
            try clear hf4
            try clear c5
            try clear c6
            try clear p6
            try clear c7
            try clear c10
            try clear c11
            try clear c13
            try clear p13
            try clear q13
            try clear hx13
            try clear c20
            try clear c23
            try clear c24
            try clear c30
            try clear c30b0
            try clear c31
            try clear c32
            try clear c34
            try clear c34b0
            try clear c36
            try clear c36b0
            try clear c37
            try clear c37b0
            try clear c39
            try clear c39b0
            try clear c40
            try clear c40b0
            try clear c42
            try clear c42b0
            try clear c43
            try clear c43b0
            try clear c45
            try clear c45b0
            try clear c46
            try clear c46b0
            try clear p48
            try clear q48
            try clear hx48
            try clear hf48
            try clear p49
            try clear q49
            try clear hx49
            try clear hf49
            try clear c50
            try clear c51
            try clear c57
            try clear c58
            try clear c60
            try clear c61
            try clear c63
            try clear c63b0
            try clear c64
            try clear p64
            try clear c65
            try clear hcz12_0
            try clear hcz12_1
            try clear hcz12_2
            try clear hcz13_0
            try clear hcz13_1
            try clear hcz13_2
            try clear hcz16_0
            try clear hcz16_1
            try clear hcz16_2
            try clear hcz17_0
            try clear hcz17_1
            try clear hcz17_2
            try clear hcz21_0
            try clear hcz21_1
            try clear hcz21_2
            try clear hcz25_0
            try clear hcz25_1
            try clear hcz25_2
            try clear hcz26_0
            try clear hcz26_1
            try clear hcz26_2
            try clear hcz29_0
            try clear hcz29_1
            try clear hcz29_2
            try clear hcz33_0
            try clear hcz33_1
            try clear hcz33_2
            try clear hcz52_0
            try clear hcz52_1
            try clear hcz52_2
            try clear hcz59_0
            try clear hcz59_1
            try clear hcz59_2
            try clear hcz62_0
            try clear hcz62_1
            try clear hcz62_2
            try clear hcz66_0
            try clear hcz66_1
            try clear hcz66_2
            try clear hcz8_0
            try clear hcz8_1
            try clear hcz8_2
            try clear hfz12_0
            try clear hfz12_1
            try clear hfz12_2
            try clear hfz13_0
            try clear hfz13_1
            try clear hfz13_2
            try clear hfz16_0
            try clear hfz16_1
            try clear hfz16_2
            try clear hfz17_0
            try clear hfz17_1
            try clear hfz17_2
            try clear hfz21_0
            try clear hfz21_1
            try clear hfz21_2
            try clear hfz25_0
            try clear hfz25_1
            try clear hfz25_2
            try clear hfz26_0
            try clear hfz26_1
            try clear hfz26_2
            try clear hfz29_0
            try clear hfz29_1
            try clear hfz29_2
            try clear hfz33_0
            try clear hfz33_1
            try clear hfz33_2
            try clear hfz52_0
            try clear hfz52_1
            try clear hfz52_2
            try clear hfz59_0
            try clear hfz59_1
            try clear hfz59_2
            try clear hfz62_0
            try clear hfz62_1
            try clear hfz62_2
            try clear hfz66_0
            try clear hfz66_1
            try clear hfz66_2
            try clear hfz8_0
            try clear hfz8_1
            try clear hfz8_2
            try clear hx136_0
            try clear hx137_0
            try clear hx138_0
            try clear hx139_0
            try clear hx48_0
            try clear hx49_0
            try clear p1
            try clear p13
            try clear p136
            try clear p137
            try clear p138
            try clear p139
            try clear p2
            try clear p4
            try clear p48
            try clear p49
            try clear p6
            try clear q1
            try clear q13
            try clear q136
            try clear q137
            try clear q138
            try clear q139
            try clear q4
            try clear q48
            try clear q49
            obtain ⟨x13_3, x133002_3, rfl, HA, HK3, HO_133002, BK130, BK131, BK132, HB⟩ := hrel
            have hl133002_3 := (Kd.R_reads' HO_133002.out).1
            rw [hl133002_3] at HO_133002
            (try simp only [hl133002_3])
            (try simp only [hl133002_3] at BK130)
            (try simp only [hl133002_3] at BK131)
            (try simp only [hl133002_3] at BK132)
            cases gk with
            | zero => exact absurd HA.out (by simp [spec_l13Smooth.l3])
            | succ k3 =>
              have H := HA.out
              clear HA
              simp only [spec_l13Smooth.l3] at H
              by_cases c67 : (wrap64 (x13_3 + 1)) < a0_1
              rotate_left
              · rw [if_neg c67] at H
                have c67b0 : decide ((wrap64 (x13_3 + 1)) < a0_1) = false := decide_eq_false c67
                clear c67
                have H' := Aside0.mk H
                clear H
                have hnb90 := NB130_131.out
                have hnc90 := NB131_130.out
                have hnb91 := NB130_132.out
                have hnc91 := NB132_130.out
                have hcz92_0 : wr.cell? ⟨gb130, 0, none⟩ = some (.int .i64 a0_0) := (blk_cell BK130.out 0).trans rfl
                have hcz92_1 : wr.cell? ⟨gb130, 1, none⟩ = some (.int .i64 a0_1) := (blk_cell BK130.out 1).trans rfl
                have hcz92_2 : wr.cell? ⟨gb130, 2, none⟩ = some (.slice A0_2 l0_2.length c0_2) := (blk_cell BK130.out 2).trans rfl
                have hfz92_0 := blk_frozen BK130.out 0
                have hfz92_1 := blk_frozen BK130.out 1
                have hfz92_2 := blk_frozen BK130.out 2
                go_wp2
                repeat (go_quiet (fail); try go_wp2)
                (try simp only [← hl133002_2, ← hl133002_3])
                go_roundg k3
                case measure => have := HK1.out; have := HK2.out; have := HK3.out; omega
                case rel => exact ⟨(wrap64 (x12_2 + 1)), (x133002_3), (by first | rfl | (simp; done) | (simp [*]; done)), H', ⟨by have := HK1.out; have := HK2.out; have := HK3.out; omega⟩, ⟨by (try simp only [hl133002_1]); (try simp only [hl133002_2]); (try simp only [hl133002_3]); (with_reducible repeat (first | apply Kd.R_alloc | apply Kd.R_drewN | apply Kd.R_drew)); exact HO_133002.out⟩, ⟨by (try simp only [hl133002_1]); (try simp only [hl133002_2]); (try simp only [hl133002_3]); (with_reducible repeat (first | refine blk_drewN ?_ _ | refine blk_drew ?_ | refine blk_alloc ?_ _)); exact BK130.out⟩, ⟨by (try simp only [hl133002_1]); (try simp only [hl133002_2]); (try simp only [hl133002_3]); (with_reducible repeat (first | refine blk_drewN ?_ _ | refine blk_drew ?_ | refine blk_alloc ?_ _)); exact BK131.out⟩, ⟨by (try simp only [hl133002_1]); (try simp only [hl133002_2]); (try simp only [hl133002_3]); (with_reducible repeat (first | refine blk_drewN ?_ _ | refine blk_drew ?_ | refine blk_alloc ?_ _)); exact BK132.out⟩, ⟨by repeat (first | (with_reducible first | exact HB.out | apply below_alloc | apply pw_below_drewN | apply below_drew1 | refine below_set ?_ GE130.out | refine below_set ?_ GE131.out | refine below_set ?_ GE132.out) | exact HB.out)⟩⟩
              rw [if_pos c67] at H
              have c67b0 : decide ((wrap64 (x13_3 + 1)) < a0_1) = true := decide_eq_true c67
              clear c67
              obtain ⟨ji68, hji68⟩ : ∃ j_ : Int, (wrap64 ((wrap64 ((wrap64 (x13_3 * a0_0)) + x12_2)) - (wrap64 (2 * a0_0)))) = j_ := ⟨_, rfl⟩
              replace H : (if 0 ≤ (ji68) then (if (ji68) < (x133002_3.length : Int) then (if 0 ≤ (wrap64 ((wrap64 ((wrap64 (x13_3 * a0_0)) + x12_2)) - a0_0)) then (if (wrap64 ((wrap64 ((wrap64 (x13_3 * a0_0)) + x12_2)) - a0_0)) < (x133002_3.length : Int) then (if 0 ≤ (wrap64 ((wrap64 (x13_3 * a0_0)) + x12_2)) then (if (wrap64 ((wrap64 (x13_3 * a0_0)) + x12_2)) < (x133002_3.length : Int) then (if 0 ≤ (wrap64 ((wrap64 ((wrap64 (x13_3 * a0_0)) + x12_2)) + a0_0)) then (if (wrap64 ((wrap64 ((wrap64 (x13_3 * a0_0)) + x12_2)) + a0_0)) < (x133002_3.length : Int) then ((spec_l13Edge.f k3 (rd x133002_3 (ji68)) (rd x133002_3 (wrap64 ((wrap64 ((wrap64 (x13_3 * a0_0)) + x12_2)) - a0_0))) (rd x133002_3 (wrap64 ((wrap64 (x13_3 * a0_0)) + x12_2))) (rd x133002_3 (wrap64 ((wrap64 ((wrap64 (x13_3 * a0_0)) + x12_2)) + a0_0))) a1).bind fun bt148 => (spec_l13Smooth.l3 k3 a1 x12_2 (wrap64 (x13_3 + 4)) a0_0 a0_1 l0_2 a0_0 a0_1 ((x133002_3.set ((wrap64 ((wrap64 ((wrap64 (x13_3 * a0_0)) + x12_2)) - a0_0)) : Int).toNat bt148.1).set ((wrap64 ((wrap64 (x13_3 * a0_0)) + x12_2)) : Int).toNat bt148.2))) else (none)) else (none)) else (none)) else (none)) else (none)) else (none)) else (none)) else (none)) = some (r1, r2, r3) := by first | (rw [hji68] at H; exact H) | (simp only [hji68] at H ⊢; exact H)
              have hji68w : (IntKind.i64.wrap ((wrap64 ((wrap64 (x13_3 * a0_0)) + x12_2)) - (wrap64 (2 * a0_0)))) = ji68 := (i64_w _).trans hji68
              by_cases c69 : 0 ≤ (ji68)
              rotate_left
              · rw [if_neg c69] at H
                exact absurd H (by simp)
              rw [if_pos c69] at H
              have c69b0 : decide (0 ≤ (ji68)) = true := decide_eq_true c69
              clear c69
              by_cases c70 : (ji68) < (x133002_3.length : Int)
              rotate_left
              · rw [if_neg c70] at H
                exact absurd H (by simp)
              rw [if_pos c70] at H
              have c70b0 : decide ((ji68) < (x133002_3.length : Int)) = true := decide_eq_true c70
              (try simp only [hl133002_1] at c70b0)
              (try simp only [hl133002_2] at c70b0)
              (try simp only [hl133002_3] at c70b0)
              clear c70
              obtain ⟨ji71, hji71⟩ : ∃ j_ : Int, (wrap64 ((wrap64 ((wrap64 (x13_3 * a0_0)) + x12_2)) - a0_0)) = j_ := ⟨_, rfl⟩
              replace H : (if 0 ≤ (ji71) then (if (ji71) < (x133002_3.length : Int) then (if 0 ≤ (wrap64 ((wrap64 (x13_3 * a0_0)) + x12_2)) then (if (wrap64 ((wrap64 (x13_3 * a0_0)) + x12_2)) < (x133002_3.length : Int) then (if 0 ≤ (wrap64 ((wrap64 ((wrap64 (x13_3 * a0_0)) + x12_2)) + a0_0)) then (if (wrap64 ((wrap64 ((wrap64 (x13_3 * a0_0)) + x12_2)) + a0_0)) < (x133002_3.length : Int) then ((spec_l13Edge.f k3 (rd x133002_3 (ji68)) (rd x133002_3 (ji71)) (rd x133002_3 (wrap64 ((wrap64 (x13_3 * a0_0)) + x12_2))) (rd x133002_3 (wrap64 ((wrap64 ((wrap64 (x13_3 * a0_0)) + x12_2)) + a0_0))) a1).bind fun bt148 => (spec_l13Smooth.l3 k3 a1 x12_2 (wrap64 (x13_3 + 4)) a0_0 a0_1 l0_2 a0_0 a0_1 ((x133002_3.set ((ji71) : Int).toNat bt148.1).set ((wrap64 ((wrap64 (x13_3 * a0_0)) + x12_2)) : Int).toNat bt148.2))) else (none)) else (none)) else (none)) else (none)) else (none)) else (none)) = some (r1, r2, r3) := by first | (rw [hji71] at H; exact H) | (simp only [hji71] at H ⊢; exact H)
              have hji71w : (IntKind.i64.wrap ((wrap64 ((wrap64 (x13_3 * a0_0)) + x12_2)) - a0_0)) = ji71 := (i64_w _).trans hji71
              by_cases c72 : 0 ≤ (ji71)
              rotate_left
              · rw [if_neg c72] at H
                exact absurd H (by simp)
              rw [if_pos c72] at H
              have c72b0 : decide (0 ≤ (ji71)) = true := decide_eq_true c72
              clear c72
              by_cases c73 : (ji71) < (x133002_3.length : Int)
              rotate_left
              · rw [if_neg c73] at H
                exact absurd H (by simp)
              rw [if_pos c73] at H
              have c73b0 : decide ((ji71) < (x133002_3.length : Int)) = true := decide_eq_true c73
              (try simp only [hl133002_1] at c73b0)
              (try simp only [hl133002_2] at c73b0)
              (try simp only [hl133002_3] at c73b0)
              clear c73
              obtain ⟨ji74, hji74⟩ : ∃ j_ : Int, (wrap64 ((wrap64 (x13_3 * a0_0)) + x12_2)) = j_ := ⟨_, rfl⟩
              have hji68xji74 : wrap64 (ji74 - (wrap64 (2 * a0_0))) = ji68 := by rw [← hji74]; exact hji68
              have hji71xji74 : wrap64 (ji74 - a0_0) = ji71 := by rw [← hji74]; exact hji71
              replace H : (if 0 ≤ (ji74) then (if (ji74) < (x133002_3.length : Int) then (if 0 ≤ (wrap64 ((ji74) + a0_0)) then (if (wrap64 ((ji74) + a0_0)) < (x133002_3.length : Int) then ((spec_l13Edge.f k3 (rd x133002_3 (ji68)) (rd x133002_3 (ji71)) (rd x133002_3 (ji74)) (rd x133002_3 (wrap64 ((ji74) + a0_0))) a1).bind fun bt148 => (spec_l13Smooth.l3 k3 a1 x12_2 (wrap64 (x13_3 + 4)) a0_0 a0_1 l0_2 a0_0 a0_1 ((x133002_3.set ((ji71) : Int).toNat bt148.1).set ((ji74) : Int).toNat bt148.2))) else (none)) else (none)) else (none)) else (none)) = some (r1, r2, r3) := by first | (rw [hji74] at H; exact H) | (simp only [hji74] at H ⊢; exact H)
              have hji74w : (IntKind.i64.wrap ((wrap64 (x13_3 * a0_0)) + x12_2)) = ji74 := (i64_w _).trans hji74
              by_cases c75 : 0 ≤ (ji74)
              rotate_left
              · rw [if_neg c75] at H
                exact absurd H (by simp)
              rw [if_pos c75] at H
              have c75b0 : decide (0 ≤ (ji74)) = true := decide_eq_true c75
              clear c75
              by_cases c76 : (ji74) < (x133002_3.length : Int)
              rotate_left
              · rw [if_neg c76] at H
                exact absurd H (by simp)
              rw [if_pos c76] at H
              have c76b0 : decide ((ji74) < (x133002_3.length : Int)) = true := decide_eq_true c76
              (try simp only [hl133002_1] at c76b0)
              (try simp only [hl133002_2] at c76b0)
              (try simp only [hl133002_3] at c76b0)
              clear c76
              obtain ⟨ji77, hji77⟩ : ∃ j_ : Int, (wrap64 ((ji74) + a0_0)) = j_ := ⟨_, rfl⟩
              replace H : (if 0 ≤ (ji77) then (if (ji77) < (x133002_3.length : Int) then ((spec_l13Edge.f k3 (rd x133002_3 (ji68)) (rd x133002_3 (ji71)) (rd x133002_3 (ji74)) (rd x133002_3 (ji77)) a1).bind fun bt148 => (spec_l13Smooth.l3 k3 a1 x12_2 (wrap64 (x13_3 + 4)) a0_0 a0_1 l0_2 a0_0 a0_1 ((x133002_3.set ((ji71) : Int).toNat bt148.1).set ((ji74) : Int).toNat bt148.2))) else (none)) else (none)) = some (r1, r2, r3) := by first | (rw [hji77] at H; exact H) | (simp only [hji77] at H ⊢; exact H)
              have hji77w : (IntKind.i64.wrap ((ji74) + a0_0)) = ji77 := (i64_w _).trans hji77
              by_cases c78 : 0 ≤ (ji77)
              rotate_left
              · rw [if_neg c78] at H
                exact absurd H (by simp)
              rw [if_pos c78] at H
              have c78b0 : decide (0 ≤ (ji77)) = true := decide_eq_true c78
              clear c78
              by_cases c79 : (ji77) < (x133002_3.length : Int)
              rotate_left
              · rw [if_neg c79] at H
                exact absurd H (by simp)
              rw [if_pos c79] at H
              have c79b0 : decide ((ji77) < (x133002_3.length : Int)) = true := decide_eq_true c79
              (try simp only [hl133002_1] at c79b0)
              (try simp only [hl133002_2] at c79b0)
              (try simp only [hl133002_3] at c79b0)
              clear c79
              replace H := Option.bind_eq_some_iff.mp H
              obtain ⟨⟨t148, t149⟩, A800, H⟩ := H
              replace H : (spec_l13Smooth.l3 k3 a1 x12_2 (wrap64 (x13_3 + 4)) a0_0 a0_1 l0_2 a0_0 a0_1 ((x133002_3.set ((ji71) : Int).toNat t148).set ((ji74) : Int).toNat t149)) = some (r1, r2, r3) := H
              have A80 := Aside0.mk A800
              clear A800
              obtain ⟨y150, hy150⟩ : ∃ y_ : List Int, y_ = (x133002_3.set ((ji71) : Int).toNat t148) := ⟨_, rfl⟩
              replace H : (spec_l13Smooth.l3 k3 a1 x12_2 (wrap64 (x13_3 + 4)) a0_0 a0_1 l0_2 a0_0 a0_1 (y150.set ((ji74) : Int).toNat t149)) = some (r1, r2, r3) := by first | (rw [hy150]; with_reducible exact H) | (have H2_ := (Option.bind_some _ _).symm.trans H; rw [hy150]; with_reducible exact H2_) | (have H2_ := (Option.bind_some _ _).symm.trans H; with_reducible exact H2_) | with_reducible exact H | (rw [hy150]; exact H) | exact H
              have Ny150 := Aside0.mk hy150
              clear hy150
              obtain ⟨y151, hy151⟩ : ∃ y_ : List Int, y_ = (y150.set ((ji74) : Int).toNat t149) := ⟨_, rfl⟩
              replace H : (spec_l13Smooth.l3 k3 a1 x12_2 (wrap64 (x13_3 + 4)) a0_0 a0_1 l0_2 a0_0 a0_1 y151) = some (r1, r2, r3) := by first | (rw [hy151]; with_reducible exact H) | (have H2_ := (Option.bind_some _ _).symm.trans H; rw [hy151]; with_reducible exact H2_) | (have H2_ := (Option.bind_some _ _).symm.trans H; with_reducible exact H2_) | with_reducible exact H | (rw [hy151]; exact H) | exact H
              have Ny151 := Aside0.mk hy151
              clear hy151
              have H' := Aside0.mk H
              clear H
              have hnb83 := NB130_131.out
              have hnc83 := NB131_130.out
              have hnb84 := NB130_132.out
              have hnc84 := NB132_130.out
              have hcz85_0 : wr.cell? ⟨gb130, 0, none⟩ = some (.int .i64 a0_0) := (blk_cell BK130.out 0).trans rfl
              have hcz85_1 : wr.cell? ⟨gb130, 1, none⟩ = some (.int .i64 a0_1) := (blk_cell BK130.out 1).trans rfl
              have hcz85_2 : wr.cell? ⟨gb130, 2, none⟩ = some (.slice A0_2 l0_2.length c0_2) := (blk_cell BK130.out 2).trans rfl
              have hfz85_0 := blk_frozen BK130.out 0
              have hfz85_1 := blk_frozen BK130.out 1
              have hfz85_2 := blk_frozen BK130.out 2
              have p144 : 0 ≤ ((ji68) : Int) := of_decide_eq_true (by first | (with_reducible assumption) | assumption)
              have q144 : (ji68) < (x133002_3.length : Int) := of_decide_eq_true (by first | (with_reducible assumption) | assumption)
              obtain ⟨ad144, e144, hx144_0⟩ := Kd.at_int (Kd.R_reads' HO_133002.out).2.2 (ji68) p144 q144
              cases e144
              replace p144 := eq_true p144
              replace q144 := eq_true q144
              have p145 : 0 ≤ ((ji71) : Int) := of_decide_eq_true (by first | (with_reducible assumption) | assumption)
              have q145 : (ji71) < (x133002_3.length : Int) := of_decide_eq_true (by first | (with_reducible assumption) | assumption)
              obtain ⟨ad145, e145, hx145_0⟩ := Kd.at_int (Kd.R_reads' HO_133002.out).2.2 (ji71) p145 q145
              obtain rfl : ad144 = ad145 := (by injection e145)
              replace p145 := eq_true p145
              replace q145 := eq_true q145
              have p146 : 0 ≤ ((ji74) : Int) := of_decide_eq_true (by first | (with_reducible assumption) | assumption)
              have q146 : (ji74) < (x133002_3.length : Int) := of_decide_eq_true (by first | (with_reducible assumption) | assumption)
              obtain ⟨ad146, e146, hx146_0⟩ := Kd.at_int (Kd.R_reads' HO_133002.out).2.2 (ji74) p146 q146
              obtain rfl : ad144 = ad146 := (by injection e146)
              replace p146 := eq_true p146
              replace q146 := eq_true q146
              have p147 : 0 ≤ ((ji77) : Int) := of_decide_eq_true (by first | (with_reducible assumption) | assumption)
              have q147 : (ji77) < (x133002_3.length : Int) := of_decide_eq_true (by first | (with_reducible assumption) | assumption)
              obtain ⟨ad147, e147, hx147_0⟩ := Kd.at_int (Kd.R_reads' HO_133002.out).2.2 (ji77) p147 q147
              obtain rfl : ad144 = ad147 := (by injection e147)
              replace p147 := eq_true p147
              replace q147 := eq_true q147
              have p81 : 0 ≤ ((ji71) : Int) := of_decide_eq_true (by first | (with_reducible assumption) | assumption); have q81 : ((ji71) : Int) < ((x133002_3.length : Int) : Int) := of_decide_eq_true (by first | (with_reducible assumption) | assumption); obtain ⟨go81, co81, eo81, gb81, gl81, cl81, HG81⟩ := Kd.R_form HO_133002.out (by omega); (first | cases eo81 | (injection eo81 with ea_ en_ ec_; (first | subst ea_ | (injection ea_ with ea_; subst ea_)); subst ec_; clear en_)); have GB81 := Aside0.mk gb81; have GG81 := Aside0.mk HG81; clear gb81 gl81 HG81; (first | simp only [add_plain] at hx144_0 | skip); (first | simp only [add_plain] at hx145_0 | skip); (first | simp only [add_plain] at hx146_0 | skip); (first | simp only [add_plain] at hx147_0 | skip); obtain ⟨hx81_0, hf81_0⟩ := Kd.R_celln 0 HO_133002.out ((ji71) : Int) p81 q81; replace p81 := eq_true p81; replace q81 := eq_true q81; obtain ⟨hy86_, hz86_⟩ := Kd.R_celln 0 HO_133002.out ((ji71) : Int) (of_decide_eq_true (by first | (with_reducible assumption) | assumption)) (of_decide_eq_true (by first | (with_reducible assumption) | assumption)); have HP86 := Kd.R_putg HO_133002.out ((ji71) : Int) t148
              iterate 3 (try go_wp2_with (first | (go_at_call 179; (with_reducible refine (spec_l13Edge.calls k3 (rd x133002_3 (ji68)) (rd x133002_3 (ji71)) (rd x133002_3 (ji74)) (rd x133002_3 (ji77)) a1 t148 t149 _ A80.out).mono ?_); rintro e w' ⟨rfl, ⟨nd, rfl⟩⟩; (try first | exact ⟨rfl, _, World.drewN_drewN _ _ _⟩ | exact ⟨rfl, _, Eq.trans (World.drewN_drewN _ _ _) (congrArg (World.drewN _) (Nat.add_assoc _ _ _))⟩)) | ((with_reducible refine gate_store (t := 3) (p := 140) rfl ?_); (try (rw [drewN_self wr]; generalize hq_ : World.drewN wr _ = wr; have n0_ := Aside0.mk (Kd.R_at hq_ HO_133002.out); have n1_ := Aside0.mk (blk_at hq_ BK130.out); have n2_ := Aside0.mk (blk_at hq_ BK131.out); have n3_ := Aside0.mk (blk_at hq_ BK132.out); have n4_ := Aside0.mk (below_at hq_ HB.out); clear hq_ HO_133002 BK130 BK131 BK132 HB; have HO_133002 := n0_; have BK130 := n1_; have BK131 := n2_; have BK132 := n3_; have HB := n4_; clear n0_ n1_ n2_ n3_ n4_; (try (obtain ⟨hy86_, hz86_⟩ := Kd.R_celln 0 HO_133002.out ((ji71) : Int) (of_decide_eq_true (by first | (with_reducible assumption) | assumption)) (of_decide_eq_true (by first | (with_reducible assumption) | assumption)))); (try (have HP86 := Kd.R_putg HO_133002.out ((ji71) : Int) t148)))); refine store_event (t := 3) (p := 140) (v := ?vo_w87) (w1 := (wr.setCell ⟨go81, ((ji71) : Int).toNat, none⟩ (.int .i64 t148))) ?hg ?ho ?hn ?hr ?_; (case ho => rfl); (case hg => rfl); (case hn => rfl); (case hr => first | (go_simp; done) | (go_simp; rfl)); intro w87 hw; have hg : wr.grownBy w87 (some go81) := (by rw [hw]; exact HP86.2); have hp_ : Kd.R (Kd.int .i64) 3 w87 w.heap.size (fun _ => True) (.slice (some ⟨go81, 0, none⟩) x133002_3.length co28) y150 := (by rw [hw, Ny150.out]; exact HP86.1); clear HP86; have n0_ := Aside0.mk (hp_); have n1_ := Aside0.mk (blk_grown (g := gb130) (o := .cells #[.int .i64 a0_0, .int .i64 a0_1, .slice A0_2 l0_2.length c0_2] 29 (0, 0)) (by (with_reducible repeat (first | refine blk_drewN ?_ _ | refine blk_drew ?_ | refine blk_alloc ?_ _)); exact BK130.out) hg (Kd.R_ne HO_133002.out BK130.out (by decide))); have n2_ := Aside0.mk (blk_grown (g := gb131) (o := .cells #[.int .i64 0, .int .i64 0, .slice none 0 0] 29 (0, 0)) (by (with_reducible repeat (first | refine blk_drewN ?_ _ | refine blk_drew ?_ | refine blk_alloc ?_ _)); exact BK131.out) hg (Kd.R_ne HO_133002.out BK131.out (by decide))); have n3_ := Aside0.mk (blk_grown (g := gb132) (o := .cells #[.int .i64 a0_0, .int .i64 a0_1, .slice (some ⟨go81, 0, none⟩) x133002_3.length co28] 29 (0, 0)) (by (with_reducible repeat (first | refine blk_drewN ?_ _ | refine blk_drew ?_ | refine blk_alloc ?_ _)); exact BK132.out) hg (Kd.R_ne HO_133002.out BK132.out (by decide))); have n4_ := Aside0.mk ((by rw [hw]; exact below_set (HB.out) GB81.out : Below w.heap.size w w87)); clear HO_133002; clear BK130; clear BK131; clear BK132; clear HB; have HO_133002 := n0_; have BK130 := n1_; have BK131 := n2_; have BK132 := n3_; have HB := n4_; clear n0_ n1_ n2_ n3_ n4_; clear hg hw hp_; have p82 : 0 ≤ ((ji74) : Int) := of_decide_eq_true (by first | (with_reducible assumption) | assumption); have q82 : ((ji74) : Int) < ((x133002_3.length : Int) : Int) := of_decide_eq_true (by first | (with_reducible assumption) | assumption); obtain ⟨hx82_0, hf82_0⟩ := Kd.R_celln 0 HO_133002.out ((ji74) : Int) p82 q82; replace p82 := eq_true p82; replace q82 := eq_true q82; obtain ⟨hy88_, hz88_⟩ := Kd.R_celln 0 HO_133002.out ((ji74) : Int) (of_decide_eq_true (by first | (with_reducible assumption) | assumption)) (of_decide_eq_true (by first | (with_reducible assumption) | assumption)); have HP88 := Kd.R_putg HO_133002.out ((ji74) : Int) t149) | ((with_reducible refine gate_store (t := 3) (p := 144) rfl ?_); (try (rw [drewN_self w87]; generalize hq_ : World.drewN w87 _ = w87; have n0_ := Aside0.mk (Kd.R_at hq_ HO_133002.out); have n1_ := Aside0.mk (blk_at hq_ BK130.out); have n2_ := Aside0.mk (blk_at hq_ BK131.out); have n3_ := Aside0.mk (blk_at hq_ BK132.out); have n4_ := Aside0.mk (below_at hq_ HB.out); clear hq_ HO_133002 BK130 BK131 BK132 HB; have HO_133002 := n0_; have BK130 := n1_; have BK131 := n2_; have BK132 := n3_; have HB := n4_; clear n0_ n1_ n2_ n3_ n4_; (try (obtain ⟨hy88_, hz88_⟩ := Kd.R_celln 0 HO_133002.out ((ji74) : Int) (of_decide_eq_true (by first | (with_reducible assumption) | assumption)) (of_decide_eq_true (by first | (with_reducible assumption) | assumption)))); (try (have HP88 := Kd.R_putg HO_133002.out ((ji74) : Int) t149)))); refine store_event (t := 3) (p := 144) (v := ?vo_w89) (w1 := (w87.setCell ⟨go81, ((ji74) : Int).toNat, none⟩ (.int .i64 t149))) ?hg ?ho ?hn ?hr ?_; (case ho => rfl); (case hg => rfl); (case hn => rfl); (case hr => first | (go_simp; done) | (go_simp; rfl)); intro w89 hw; have hg : w87.grownBy w89 (some go81) := (by rw [hw]; exact HP88.2); have hp_ : Kd.R (Kd.int .i64) 3 w89 w.heap.size (fun _ => True) (.slice (some ⟨go81, 0, none⟩) x133002_3.length co28) y151 := (by rw [hw, Ny151.out]; exact HP88.1); clear HP88; have n0_ := Aside0.mk (hp_); have n1_ := Aside0.mk (blk_grown (g := gb130) (o := .cells #[.int .i64 a0_0, .int .i64 a0_1, .slice A0_2 l0_2.length c0_2] 29 (0, 0)) (by (with_reducible repeat (first | refine blk_drewN ?_ _ | refine blk_drew ?_ | refine blk_alloc ?_ _)); exact BK130.out) hg (Kd.R_ne HO_133002.out BK130.out (by decide))); have n2_ := Aside0.mk (blk_grown (g := gb131) (o := .cells #[.int .i64 0, .int .i64 0, .slice none 0 0] 29 (0, 0)) (by (with_reducible repeat (first | refine blk_drewN ?_ _ | refine blk_drew ?_ | refine blk_alloc ?_ _)); exact BK131.out) hg (Kd.R_ne HO_133002.out BK131.out (by decide))); have n3_ := Aside0.mk (blk_grown (g := gb132) (o := .cells #[.int .i64 a0_0, .int .i64 a0_1, .slice (some ⟨go81, 0, none⟩) x133002_3.length co28] 29 (0, 0)) (by (with_reducible repeat (first | refine blk_drewN ?_ _ | refine blk_drew ?_ | refine blk_alloc ?_ _)); exact BK132.out) hg (Kd.R_ne HO_133002.out BK132.out (by decide))); have n4_ := Aside0.mk ((by rw [hw]; exact below_set (HB.out) GB81.out : Below w.heap.size w w89)); clear HO_133002; clear BK130; clear BK131; clear BK132; clear HB; have HO_133002 := n0_; have BK130 := n1_; have BK131 := n2_; have BK132 := n3_; have HB := n4_; clear n0_ n1_ n2_ n3_ n4_; clear hg hw hp_)); try go_quiet (first | (go_at_call 179; (with_reducible refine (spec_l13Edge.calls k3 (rd x133002_3 (ji68)) (rd x133002_3 (ji71)) (rd x133002_3 (ji74)) (rd x133002_3 (ji77)) a1 t148 t149 _ A80.out).mono ?_); rintro e w' ⟨rfl, ⟨nd, rfl⟩⟩; (try first | exact ⟨rfl, _, World.drewN_drewN _ _ _⟩ | exact ⟨rfl, _, Eq.trans (World.drewN_drewN _ _ _) (congrArg (World.drewN _) (Nat.add_assoc _ _ _))⟩)) | ((with_reducible refine gate_store (t := 3) (p := 140) rfl ?_); (try (rw [drewN_self wr]; generalize hq_ : World.drewN wr _ = wr; have n0_ := Aside0.mk (Kd.R_at hq_ HO_133002.out); have n1_ := Aside0.mk (blk_at hq_ BK130.out); have n2_ := Aside0.mk (blk_at hq_ BK131.out); have n3_ := Aside0.mk (blk_at hq_ BK132.out); have n4_ := Aside0.mk (below_at hq_ HB.out); clear hq_ HO_133002 BK130 BK131 BK132 HB; have HO_133002 := n0_; have BK130 := n1_; have BK131 := n2_; have BK132 := n3_; have HB := n4_; clear n0_ n1_ n2_ n3_ n4_; (try (obtain ⟨hy86_, hz86_⟩ := Kd.R_celln 0 HO_133002.out ((ji71) : Int) (of_decide_eq_true (by first | (with_reducible assumption) | assumption)) (of_decide_eq_true (by first | (with_reducible assumption) | assumption)))); (try (have HP86 := Kd.R_putg HO_133002.out ((ji71) : Int) t148)))); refine store_event (t := 3) (p := 140) (v := ?vo_w87) (w1 := (wr.setCell ⟨go81, ((ji71) : Int).toNat, none⟩ (.int .i64 t148))) ?hg ?ho ?hn ?hr ?_; (case ho => rfl); (case hg => rfl); (case hn => rfl); (case hr => first | (go_simp; done) | (go_simp; rfl)); intro w87 hw; have hg : wr.grownBy w87 (some go81) := (by rw [hw]; exact HP86.2); have hp_ : Kd.R (Kd.int .i64) 3 w87 w.heap.size (fun _ => True) (.slice (some ⟨go81, 0, none⟩) x133002_3.length co28) y150 := (by rw [hw, Ny150.out]; exact HP86.1); clear HP86; have n0_ := Aside0.mk (hp_); have n1_ := Aside0.mk (blk_grown (g := gb130) (o := .cells #[.int .i64 a0_0, .int .i64 a0_1, .slice A0_2 l0_2.length c0_2] 29 (0, 0)) (by (with_reducible repeat (first | refine blk_drewN ?_ _ | refine blk_drew ?_ | refine blk_alloc ?_ _)); exact BK130.out) hg (Kd.R_ne HO_133002.out BK130.out (by decide))); have n2_ := Aside0.mk (blk_grown (g := gb131) (o := .cells #[.int .i64 0, .int .i64 0, .slice none 0 0] 29 (0, 0)) (by (with_reducible repeat (first | refine blk_drewN ?_ _ | refine blk_drew ?_ | refine blk_alloc ?_ _)); exact BK131.out) hg (Kd.R_ne HO_133002.out BK131.out (by decide))); have n3_ := Aside0.mk (blk_grown (g := gb132) (o := .cells #[.int .i64 a0_0, .int .i64 a0_1, .slice (some ⟨go81, 0, none⟩) x133002_3.length co28] 29 (0, 0)) (by (with_reducible repeat (first | refine blk_drewN ?_ _ | refine blk_drew ?_ | refine blk_alloc ?_ _)); exact BK132.out) hg (Kd.R_ne HO_133002.out BK132.out (by decide))); have n4_ := Aside0.mk ((by rw [hw]; exact below_set (HB.out) GB81.out : Below w.heap.size w w87)); clear HO_133002; clear BK130; clear BK131; clear BK132; clear HB; have HO_133002 := n0_; have BK130 := n1_; have BK131 := n2_; have BK132 := n3_; have HB := n4_; clear n0_ n1_ n2_ n3_ n4_; clear hg hw hp_; have p82 : 0 ≤ ((ji74) : Int) := of_decide_eq_true (by first | (with_reducible assumption) | assumption); have q82 : ((ji74) : Int) < ((x133002_3.length : Int) : Int) := of_decide_eq_true (by first | (with_reducible assumption) | assumption); obtain ⟨hx82_0, hf82_0⟩ := Kd.R_celln 0 HO_133002.out ((ji74) : Int) p82 q82; replace p82 := eq_true p82; replace q82 := eq_true q82; obtain ⟨hy88_, hz88_⟩ := Kd.R_celln 0 HO_133002.out ((ji74) : Int) (of_decide_eq_true (by first | (with_reducible assumption) | assumption)) (of_decide_eq_true (by first | (with_reducible assumption) | assumption)); have HP88 := Kd.R_putg HO_133002.out ((ji74) : Int) t149) | ((with_reducible refine gate_store (t := 3) (p := 144) rfl ?_); (try (rw [drewN_self w87]; generalize hq_ : World.drewN w87 _ = w87; have n0_ := Aside0.mk (Kd.R_at hq_ HO_133002.out); have n1_ := Aside0.mk (blk_at hq_ BK130.out); have n2_ := Aside0.mk (blk_at hq_ BK131.out); have n3_ := Aside0.mk (blk_at hq_ BK132.out); have n4_ := Aside0.mk (below_at hq_ HB.out); clear hq_ HO_133002 BK130 BK131 BK132 HB; have HO_133002 := n0_; have BK130 := n1_; have BK131 := n2_; have BK132 := n3_; have HB := n4_; clear n0_ n1_ n2_ n3_ n4_; (try (obtain ⟨hy88_, hz88_⟩ := Kd.R_celln 0 HO_133002.out ((ji74) : Int) (of_decide_eq_true (by first | (with_reducible assumption) | assumption)) (of_decide_eq_true (by first | (with_reducible assumption) | assumption)))); (try (have HP88 := Kd.R_putg HO_133002.out ((ji74) : Int) t149)))); refine store_event (t := 3) (p := 144) (v := ?vo_w89) (w1 := (w87.setCell ⟨go81, ((ji74) : Int).toNat, none⟩ (.int .i64 t149))) ?hg ?ho ?hn ?hr ?_; (case ho => rfl); (case hg => rfl); (case hn => rfl); (case hr => first | (go_simp; done) | (go_simp; rfl)); intro w89 hw; have hg : w87.grownBy w89 (some go81) := (by rw [hw]; exact HP88.2); have hp_ : Kd.R (Kd.int .i64) 3 w89 w.heap.size (fun _ => True) (.slice (some ⟨go81, 0, none⟩) x133002_3.length co28) y151 := (by rw [hw, Ny151.out]; exact HP88.1); clear HP88; have n0_ := Aside0.mk (hp_); have n1_ := Aside0.mk (blk_grown (g := gb130) (o := .cells #[.int .i64 a0_0, .int .i64 a0_1, .slice A0_2 l0_2.length c0_2] 29 (0, 0)) (by (with_reducible repeat (first | refine blk_drewN ?_ _ | refine blk_drew ?_ | refine blk_alloc ?_ _)); exact BK130.out) hg (Kd.R_ne HO_133002.out BK130.out (by decide))); have n2_ := Aside0.mk (blk_grown (g := gb131) (o := .cells #[.int .i64 0, .int .i64 0, .slice none 0 0] 29 (0, 0)) (by (with_reducible repeat (first | refine blk_drewN ?_ _ | refine blk_drew ?_ | refine blk_alloc ?_ _)); exact BK131.out) hg (Kd.R_ne HO_133002.out BK131.out (by decide))); have n3_ := Aside0.mk (blk_grown (g := gb132) (o := .cells #[.int .i64 a0_0, .int .i64 a0_1, .slice (some ⟨go81, 0, none⟩) x133002_3.length co28] 29 (0, 0)) (by (with_reducible repeat (first | refine blk_drewN ?_ _ | refine blk_drew ?_ | refine blk_alloc ?_ _)); exact BK132.out) hg (Kd.R_ne HO_133002.out BK132.out (by decide))); have n4_ := Aside0.mk ((by rw [hw]; exact below_set (HB.out) GB81.out : Below w.heap.size w w89)); clear HO_133002; clear BK130; clear BK131; clear BK132; clear HB; have HO_133002 := n0_; have BK130 := n1_; have BK131 := n2_; have BK132 := n3_; have HB := n4_; clear n0_ n1_ n2_ n3_ n4_; clear hg hw hp_)))
              (try simp only [← hl133002_3])
              go_roundg k3
              case measure => have := HK1.out; have := HK2.out; have := HK3.out; omega
              case rel => exact ⟨(wrap64 (x13_3 + 4)), (y151), (by first | rfl | (simp; done) | (simp [*]; done)), H', ⟨by have := HK1.out; have := HK2.out; have := HK3.out; omega⟩, ⟨by (try simp only [hl133002_1]); (try simp only [hl133002_2]); (try simp only [hl133002_3]); (with_reducible repeat (first | apply Kd.R_alloc | apply Kd.R_drewN | apply Kd.R_drew)); exact HO_133002.out⟩, ⟨by (try simp only [hl133002_1]); (try simp only [hl133002_2]); (try simp only [hl133002_3]); (with_reducible repeat (first | refine blk_drewN ?_ _ | refine blk_drew ?_ | refine blk_alloc ?_ _)); exact BK130.out⟩, ⟨by (try simp only [hl133002_1]); (try simp only [hl133002_2]); (try simp only [hl133002_3]); (with_reducible repeat (first | refine blk_drewN ?_ _ | refine blk_drew ?_ | refine blk_alloc ?_ _)); exact BK131.out⟩, ⟨by (try simp only [hl133002_1]); (try simp only [hl133002_2]); (try simp only [hl133002_3]); (with_reducible repeat (first | refine blk_drewN ?_ _ | refine blk_drew ?_ | refine blk_alloc ?_ _)); exact BK132.out⟩, ⟨by repeat (first | (with_reducible first | exact HB.out | apply below_alloc | apply pw_below_drewN | apply below_drew1 | refine below_set ?_ GE130.out | refine below_set ?_ GE131.out | refine below_set ?_ GE132.out) | exact HB.out)⟩⟩

end Go.Proofs.Ytglaedjadlappaa.PFnExactSmooth

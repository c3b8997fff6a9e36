-- written by myprint.py (a program of this session's over the kit's print)
import Derived.Test.YtggokppfhkebkaaPFnSmoothx0
import Derived.Test.YtggokppfhkebkaaPFnSmoothx6
namespace Go.Proofs.Ytggokppfhkebkaa.PFnSmooth
open Go.RowKit Go.Proofs.YtggokppfhkebkaaW.PrintWords Go.Proofs.YtggokppfhkebkaaW.PrintLast Go.Proofs.YtggokppfhkebkaaW.PrintMore
attribute [local go_sem] max2_int min2_int max_two min_two max_three min_three max_four min_four   -- for this text's walks alone
set_option linter.unusedVariables false
set_option linter.unusedSimpArgs false

/-! ### spec_l13Smooth: function 112 -/
mutual
def spec_l13Smooth.l0 : Nat → Int → Int → Int → Int → List Int → Int → Int → List Int → Option (Int × Int × List Int)
  | 0, _, _, _, _, _, _, _, _ => none
  | k + 1, x1, x7, x242000, x242001, x242002, x244000, x244001, x244002 => if x7 < x242001 then (spec_l13Smooth.l1 k x1 x7 4 x242000 x242001 x242002 x244000 x244001 x244002) else (spec_l13Smooth.l2 k x1 0 x242000 x242001 x242002 x244000 x244001 x244002)
def spec_l13Smooth.l1 : Nat → Int → Int → Int → Int → Int → List Int → Int → Int → List Int → Option (Int × Int × List Int)
  | 0, _, _, _, _, _, _, _, _, _ => none
  | k + 1, x1, x7, x8, x242000, x242001, x242002, x244000, x244001, x244002 => if (wrap64 (x8 + 1)) < x242000 then (if 0 ≤ (wrap64 ((wrap64 ((wrap64 (x7 * x242000)) + x8)) - 2)) then (if (wrap64 ((wrap64 ((wrap64 (x7 * x242000)) + x8)) - 2)) < (x244002.length : Int) then (if 0 ≤ (wrap64 ((wrap64 ((wrap64 (x7 * x242000)) + x8)) - 1)) then (if (wrap64 ((wrap64 ((wrap64 (x7 * x242000)) + x8)) - 1)) < (x244002.length : Int) then (if 0 ≤ (wrap64 ((wrap64 (x7 * x242000)) + x8)) then (if (wrap64 ((wrap64 (x7 * x242000)) + x8)) < (x244002.length : Int) then (if 0 ≤ (wrap64 ((wrap64 ((wrap64 (x7 * x242000)) + x8)) + 1)) then (if (wrap64 ((wrap64 ((wrap64 (x7 * x242000)) + x8)) + 1)) < (x244002.length : Int) then ((spec_l13Edge.f k (rd x244002 (wrap64 ((wrap64 ((wrap64 (x7 * x242000)) + x8)) - 2))) (rd x244002 (wrap64 ((wrap64 ((wrap64 (x7 * x242000)) + x8)) - 1))) (rd x244002 (wrap64 ((wrap64 (x7 * x242000)) + x8))) (rd x244002 (wrap64 ((wrap64 ((wrap64 (x7 * x242000)) + x8)) + 1))) x1).bind fun bt251 => (spec_l13Smooth.l1 k x1 x7 (wrap64 (x8 + 4)) x242000 x242001 x242002 x244000 x244001 ((x244002.set ((wrap64 ((wrap64 ((wrap64 (x7 * x242000)) + x8)) - 1)) : Int).toNat bt251.1).set ((wrap64 ((wrap64 (x7 * x242000)) + x8)) : Int).toNat bt251.2))) else (none)) else (none)) else (none)) else (none)) else (none)) else (none)) else (none)) else (none)) else (spec_l13Smooth.l0 k x1 (wrap64 (x7 + 1)) x242000 x242001 x242002 x244000 x244001 x244002)
def spec_l13Smooth.l2 : Nat → Int → Int → Int → Int → List Int → Int → Int → List Int → Option (Int × Int × List Int)
  | 0, _, _, _, _, _, _, _, _ => none
  | k + 1, x1, x12, x242000, x242001, x242002, x244000, x244001, x244002 => if x12 < x242000 then (spec_l13Smooth.l3 k x1 x12 4 x242000 x242001 x242002 x244000 x244001 x244002) else (some (x244000, x244001, x244002))
def spec_l13Smooth.l3 : Nat → Int → Int → Int → Int → Int → List Int → Int → Int → List Int → Option (Int × Int × List Int)
  | 0, _, _, _, _, _, _, _, _, _ => none
  | k + 1, x1, x12, x13, x242000, x242001, x242002, x244000, x244001, x244002 => if (wrap64 (x13 + 1)) < x242001 then (if 0 ≤ (wrap64 ((wrap64 ((wrap64 (x13 * x242000)) + x12)) - (wrap64 (2 * x242000)))) then (if (wrap64 ((wrap64 ((wrap64 (x13 * x242000)) + x12)) - (wrap64 (2 * x242000)))) < (x244002.length : Int) then (if 0 ≤ (wrap64 ((wrap64 ((wrap64 (x13 * x242000)) + x12)) - x242000)) then (if (wrap64 ((wrap64 ((wrap64 (x13 * x242000)) + x12)) - x242000)) < (x244002.length : Int) then (if 0 ≤ (wrap64 ((wrap64 (x13 * x242000)) + x12)) then (if (wrap64 ((wrap64 (x13 * x242000)) + x12)) < (x244002.length : Int) then (if 0 ≤ (wrap64 ((wrap64 ((wrap64 (x13 * x242000)) + x12)) + x242000)) then (if (wrap64 ((wrap64 ((wrap64 (x13 * x242000)) + x12)) + x242000)) < (x244002.length : Int) then ((spec_l13Edge.f k (rd x244002 (wrap64 ((wrap64 ((wrap64 (x13 * x242000)) + x12)) - (wrap64 (2 * x242000))))) (rd x244002 (wrap64 ((wrap64 ((wrap64 (x13 * x242000)) + x12)) - x242000))) (rd x244002 (wrap64 ((wrap64 (x13 * x242000)) + x12))) (rd x244002 (wrap64 ((wrap64 ((wrap64 (x13 * x242000)) + x12)) + x242000))) x1).bind fun bt259 => (spec_l13Smooth.l3 k x1 x12 (wrap64 (x13 + 4)) x242000 x242001 x242002 x244000 x244001 ((x244002.set ((wrap64 ((wrap64 ((wrap64 (x13 * x242000)) + x12)) - x242000)) : Int).toNat bt259.1).set ((wrap64 ((wrap64 (x13 * x242000)) + x12)) : Int).toNat bt259.2))) else (none)) else (none)) else (none)) else (none)) else (none)) else (none)) else (none)) else (none)) else (spec_l13Smooth.l2 k x1 (wrap64 (x12 + 1)) x242000 x242001 x242002 x244000 x244001 x244002)
end
def spec_l13Smooth.f (k : Nat) (a0_0 : Int) (a0_1 : Int) (l0_2 : List Int) (a1 : Int) : Option (Int × Int × List Int) := if ([] : List Int).length + l0_2.length < 17592186044416 then ((some (([] : List Int) ++ l0_2 : List Int)).bind fun y244 => (if a1 < 8 then (some (a0_0, a0_1, y244)) else (spec_l13Smooth.l0 k a1 0 a0_0 a0_1 l0_2 a0_0 a0_1 y244))) else (none)
theorem spec_l13Smooth.mono_l : ∀ k, (∀ y0 y1 y2 y3 y4 y5 y6 y7, LeO (spec_l13Smooth.l0 k y0 y1 y2 y3 y4 y5 y6 y7) (spec_l13Smooth.l0 (k + 1) y0 y1 y2 y3 y4 y5 y6 y7)) ∧ (∀ y0 y1 y2 y3 y4 y5 y6 y7 y8, LeO (spec_l13Smooth.l1 k y0 y1 y2 y3 y4 y5 y6 y7 y8) (spec_l13Smooth.l1 (k + 1) y0 y1 y2 y3 y4 y5 y6 y7 y8)) ∧ (∀ y0 y1 y2 y3 y4 y5 y6 y7, LeO (spec_l13Smooth.l2 k y0 y1 y2 y3 y4 y5 y6 y7) (spec_l13Smooth.l2 (k + 1) y0 y1 y2 y3 y4 y5 y6 y7)) ∧ (∀ y0 y1 y2 y3 y4 y5 y6 y7 y8, LeO (spec_l13Smooth.l3 k y0 y1 y2 y3 y4 y5 y6 y7 y8) (spec_l13Smooth.l3 (k + 1) y0 y1 y2 y3 y4 y5 y6 y7 y8))
  | 0 => ⟨fun _ _ _ _ _ _ _ _ r h => by simp [spec_l13Smooth.l0] at h, fun _ _ _ _ _ _ _ _ _ r h => by simp [spec_l13Smooth.l1] at h, fun _ _ _ _ _ _ _ _ r h => by simp [spec_l13Smooth.l2] at h, fun _ _ _ _ _ _ _ _ _ r h => by simp [spec_l13Smooth.l3] at h⟩
  | k + 1 => by
    obtain ⟨ih0, ih1, ih2, ih3⟩ := spec_l13Smooth.mono_l k
    refine ⟨?_, ?_, ?_, ?_⟩
    · intro y0 y1 y2 y3 y4 y5 y6 y7
      unfold spec_l13Smooth.l0
      repeat' first
      | (with_reducible exact ih0 _ _ _ _ _ _ _ _)
      | (with_reducible exact ih1 _ _ _ _ _ _ _ _ _)
      | (with_reducible exact ih2 _ _ _ _ _ _ _ _)
      | (with_reducible exact ih3 _ _ _ _ _ _ _ _ _)
      | (with_reducible exact spec_l13Edge.mono _ _ _ _ _ _)
      | (with_reducible exact LeO.refl _)
      | (with_reducible exact LeO.none _)
      | (with_reducible refine LeO.ite ?_ ?_)
      | (with_reducible refine LeO.bind ?_ (fun _ => ?_))
      | exact ih0 _ _ _ _ _ _ _ _
      | exact ih1 _ _ _ _ _ _ _ _ _
      | exact ih2 _ _ _ _ _ _ _ _
      | exact ih3 _ _ _ _ _ _ _ _ _
      | exact spec_l13Edge.mono _ _ _ _ _ _
      | exact LeO.none _
      | refine LeO.ite ?_ ?_
      | refine LeO.bind ?_ (fun _ => ?_)
    · intro y0 y1 y2 y3 y4 y5 y6 y7 y8
      unfold spec_l13Smooth.l1
      repeat' first
      | (with_reducible exact ih0 _ _ _ _ _ _ _ _)
      | (with_reducible exact ih1 _ _ _ _ _ _ _ _ _)
      | (with_reducible exact ih2 _ _ _ _ _ _ _ _)
      | (with_reducible exact ih3 _ _ _ _ _ _ _ _ _)
      | (with_reducible exact spec_l13Edge.mono _ _ _ _ _ _)
      | (with_reducible exact LeO.refl _)
      | (with_reducible exact LeO.none _)
      | (with_reducible refine LeO.ite ?_ ?_)
      | (with_reducible refine LeO.bind ?_ (fun _ => ?_))
      | exact ih0 _ _ _ _ _ _ _ _
      | exact ih1 _ _ _ _ _ _ _ _ _
      | exact ih2 _ _ _ _ _ _ _ _
      | exact ih3 _ _ _ _ _ _ _ _ _
      | exact spec_l13Edge.mono _ _ _ _ _ _
      | exact LeO.none _
      | refine LeO.ite ?_ ?_
      | refine LeO.bind ?_ (fun _ => ?_)
    · intro y0 y1 y2 y3 y4 y5 y6 y7
      unfold spec_l13Smooth.l2
      repeat' first
      | (with_reducible exact ih0 _ _ _ _ _ _ _ _)
      | (with_reducible exact ih1 _ _ _ _ _ _ _ _ _)
      | (with_reducible exact ih2 _ _ _ _ _ _ _ _)
      | (with_reducible exact ih3 _ _ _ _ _ _ _ _ _)
      | (with_reducible exact spec_l13Edge.mono _ _ _ _ _ _)
      | (with_reducible exact LeO.refl _)
      | (with_reducible exact LeO.none _)
      | (with_reducible refine LeO.ite ?_ ?_)
      | (with_reducible refine LeO.bind ?_ (fun _ => ?_))
      | exact ih0 _ _ _ _ _ _ _ _
      | exact ih1 _ _ _ _ _ _ _ _ _
      | exact ih2 _ _ _ _ _ _ _ _
      | exact ih3 _ _ _ _ _ _ _ _ _
      | exact spec_l13Edge.mono _ _ _ _ _ _
      | exact LeO.none _
      | refine LeO.ite ?_ ?_
      | refine LeO.bind ?_ (fun _ => ?_)
    · intro y0 y1 y2 y3 y4 y5 y6 y7 y8
      unfold spec_l13Smooth.l3
      repeat' first
      | (with_reducible exact ih0 _ _ _ _ _ _ _ _)
      | (with_reducible exact ih1 _ _ _ _ _ _ _ _ _)
      | (with_reducible exact ih2 _ _ _ _ _ _ _ _)
      | (with_reducible exact ih3 _ _ _ _ _ _ _ _ _)
      | (with_reducible exact spec_l13Edge.mono _ _ _ _ _ _)
      | (with_reducible exact LeO.refl _)
      | (with_reducible exact LeO.none _)
      | (with_reducible refine LeO.ite ?_ ?_)
      | (with_reducible refine LeO.bind ?_ (fun _ => ?_))
      | exact ih0 _ _ _ _ _ _ _ _
      | exact ih1 _ _ _ _ _ _ _ _ _
      | exact ih2 _ _ _ _ _ _ _ _
      | exact ih3 _ _ _ _ _ _ _ _ _
      | exact spec_l13Edge.mono _ _ _ _ _ _
      | exact LeO.none _
      | refine LeO.ite ?_ ?_
      | refine LeO.bind ?_ (fun _ => ?_)
theorem spec_l13Smooth.mono : ∀ a0 a1 a2 a3 k, LeO (spec_l13Smooth.f k a0 a1 a2 a3) (spec_l13Smooth.f (k + 1) a0 a1 a2 a3) := by
  intro a0 a1 a2 a3 k
  obtain ⟨ih0, ih1, ih2, ih3⟩ := spec_l13Smooth.mono_l k
  unfold spec_l13Smooth.f
  repeat' first
      | (with_reducible exact ih0 _ _ _ _ _ _ _ _)
      | (with_reducible exact ih1 _ _ _ _ _ _ _ _ _)
      | (with_reducible exact ih2 _ _ _ _ _ _ _ _)
      | (with_reducible exact ih3 _ _ _ _ _ _ _ _ _)
      | (with_reducible exact spec_l13Edge.mono _ _ _ _ _ _)
      | (with_reducible exact LeO.refl _)
      | (with_reducible exact LeO.none _)
      | (with_reducible refine LeO.ite ?_ ?_)
      | (with_reducible refine LeO.bind ?_ (fun _ => ?_))
      | exact ih0 _ _ _ _ _ _ _ _
      | exact ih1 _ _ _ _ _ _ _ _ _
      | exact ih2 _ _ _ _ _ _ _ _
      | exact ih3 _ _ _ _ _ _ _ _ _
      | exact spec_l13Edge.mono _ _ _ _ _ _
      | exact LeO.none _
      | refine LeO.ite ?_ ?_
      | refine LeO.bind ?_ (fun _ => ?_)
set_option maxHeartbeats 8000000 in
set_option maxRecDepth 100000 in
theorem spec_l13Smooth.calls (k : Nat) (a0_0 : Int) (a0_1 : Int) (A0_2 : Option Addr) (c0_2 : Nat) (l0_2 : List Int) (a1 : Int) (r1 : Int) (r2 : Int) (r3 : List Int) (w : World) (hr0_2 : Kd.C (Kd.int .i64) w A0_2 l0_2.length l0_2) (hc0_2 : l0_2.length ≤ c0_2) (h : spec_l13Smooth.f k a0_0 a0_1 l0_2 a1 = some (r1, r2, r3)) :
    Calls Try.prog 112 #[.agg #[.int .i64 a0_0, .int .i64 a0_1, .slice A0_2 l0_2.length c0_2], .int .i64 a1] w fun e w' => ∃ v2_ : Value, e = .returned (.agg #[.int .i64 r1, .int .i64 r2, v2_]) ∧ Kd.R (Kd.int .i64) 3 w' w.heap.size (fun _ => True) v2_ r3 ∧ Below w.heap.size w w' := by
  have hu66 := Try.underlying66
  have HR0_2 := Aside0.mk hr0_2
  have HC0_2 := Aside0.mk hc0_2
  clear hr0_2 hc0_2
  have HB := Aside0.mk (Below.refl w.heap.size w)
  have H : (if ([] : List Int).length + l0_2.length < 17592186044416 then ((some (([] : List Int) ++ l0_2 : List Int)).bind fun y244 => (if a1 < 8 then (some (a0_0, a0_1, y244)) else (spec_l13Smooth.l0 k a1 0 a0_0 a0_1 l0_2 a0_0 a0_1 y244))) else (none)) = some (r1, r2, r3) := h
  clear h
  by_cases c3 : ([] : List Int).length + l0_2.length < 17592186044416
  rotate_left
  · rw [if_neg c3] at H
    exact absurd H (by simp)
  rw [if_pos c3] at H
  have LMc3 := Aside0.mk c3
  clear c3
  obtain ⟨y244, hy244⟩ : ∃ y_ : List Int, y_ = (([] : List Int) ++ l0_2) := ⟨_, rfl⟩
  replace H : (if a1 < 8 then (some (a0_0, a0_1, y244)) else (spec_l13Smooth.l0 k a1 0 a0_0 a0_1 l0_2 a0_0 a0_1 y244)) = some (r1, r2, r3) := by first | (rw [hy244]; with_reducible exact H) | (have H2_ := (Option.bind_some _ _).symm.trans H; rw [hy244]; with_reducible exact H2_) | (have H2_ := (Option.bind_some _ _).symm.trans H; with_reducible exact H2_) | with_reducible exact H | (rw [hy244]; exact H) | exact H
  have Ny244 := Aside0.mk hy244
  clear hy244
  by_cases c4 : a1 < 8
  · rw [if_pos c4] at H
    have c4b0 : decide (a1 < 8) = true := decide_eq_true c4
    clear c4
    simp only [Option.some.injEq, Prod.mk.injEq] at H
    obtain ⟨rfl, rfl, rfl⟩ := H
    go_enter Try.func112, Try.ntmps112
    iterate 3 (try go_wp2_with (first | ((with_reducible refine gate_dst (N := 2) rfl ?_); refine box_event ?hg (N := 2) ?hd (cs := #[.int .i64 a0_0, .int .i64 a0_1, .slice A0_2 l0_2.length c0_2]) (t := 66) ?hr ?_; (case hd => rfl); (case hg => rfl); (case hr => first | (go_simp; done) | (go_simp; rfl)); intro gb241 hg w5 hbox hb; have n0_ := Aside0.mk (below_step (by repeat (first | (with_reducible first | exact HB.out | apply below_alloc | apply pw_below_drewN | apply below_drew1) | exact HB.out)) hb); have n1_ := Aside0.mk (hbox); have n2_ := Aside0.mk ((by rw [hg]; exact (below_size (by repeat (first | (with_reducible first | exact HB.out | apply below_alloc | apply pw_below_drewN | apply below_drew1) | exact HB.out))) : w.heap.size ≤ gb241)); have n3_ := n2_; clear HB; have HB := n0_; have BK241 := n1_; have GW241 := n2_; have GE241 := n3_; clear n0_ n1_ n2_ n3_; clear hb hbox hg) | ((with_reducible refine gate_dst (N := 4) rfl ?_); refine box_event ?hg (N := 4) ?hd (cs := #[.int .i64 0, .int .i64 0, .slice none 0 0]) (t := 66) ?hr ?_; (case hd => rfl); (case hg => rfl); (case hr => first | (go_simp; done) | (go_simp; rfl)); intro gb242 hg w6 hbox hb; have n0_ := Aside0.mk (blk_below (g := gb241) (o := .cells #[.int .i64 a0_0, .int .i64 a0_1, .slice A0_2 l0_2.length c0_2] 66 (0, 0)) (by (with_reducible repeat (first | refine blk_drewN ?_ _ | refine blk_drew ?_ | refine blk_alloc ?_ _)); exact BK241.out) hb); have n1_ := Aside0.mk (below_step (by repeat (first | (with_reducible first | exact HB.out | apply below_alloc | apply pw_below_drewN | apply below_drew1 | refine below_set ?_ GE241.out) | exact HB.out)) hb); have n2_ := Aside0.mk (hbox); have n3_ := Aside0.mk ((by rw [hg]; exact (below_size (by repeat (first | (with_reducible first | exact HB.out | apply below_alloc | apply pw_below_drewN | apply below_drew1 | refine below_set ?_ GE241.out) | exact HB.out))) : w.heap.size ≤ gb242)); have n4_ := n3_; have n5_ := Aside0.mk ((by rw [hg]; exact Nat.ne_of_lt (blk_lt (g := gb241) (o := .cells #[.int .i64 a0_0, .int .i64 a0_1, .slice A0_2 l0_2.length c0_2] 66 (0, 0)) (by (with_reducible repeat (first | refine blk_drewN ?_ _ | refine blk_drew ?_ | refine blk_alloc ?_ _)); exact BK241.out)) : gb241 ≠ gb242)); have n6_ := Aside0.mk ((by rw [hg]; exact Nat.ne_of_gt (blk_lt (g := gb241) (o := .cells #[.int .i64 a0_0, .int .i64 a0_1, .slice A0_2 l0_2.length c0_2] 66 (0, 0)) (by (with_reducible repeat (first | refine blk_drewN ?_ _ | refine blk_drew ?_ | refine blk_alloc ?_ _)); exact BK241.out)) : gb242 ≠ gb241)); clear BK241; clear HB; have BK241 := n0_; have HB := n1_; have BK242 := n2_; have GW242 := n3_; have GE242 := n4_; have NB241_242 := n5_; have NB242_241 := n6_; clear n0_ n1_ n2_ n3_ n4_ n5_ n6_; clear hb hbox hg; have hnb7 := NB241_242.out; have hnc7 := NB242_241.out; have hcz8_0 : w6.cell? ⟨gb241, 0, none⟩ = some (.int .i64 a0_0) := (blk_cell BK241.out 0).trans rfl; have hcz8_1 : w6.cell? ⟨gb241, 1, none⟩ = some (.int .i64 a0_1) := (blk_cell BK241.out 1).trans rfl; have hcz8_2 : w6.cell? ⟨gb241, 2, none⟩ = some (.slice A0_2 l0_2.length c0_2) := (blk_cell BK241.out 2).trans rfl; have hfz8_0 := blk_frozen BK241.out 0; have hfz8_1 := blk_frozen BK241.out 1; have hfz8_2 := blk_frozen BK241.out 2) | ((with_reducible refine gate_dst (N := 5) rfl ?_); refine box_event ?hg (N := 5) ?hd (cs := #[.int .i64 0, .int .i64 0, .slice none 0 0]) (t := 66) ?hr ?_; (case hd => rfl); (case hg => rfl); (case hr => first | (go_simp; done) | (go_simp; rfl)); intro gb243 hg w9 hbox hb; have n0_ := Aside0.mk (blk_below (g := gb241) (o := .cells #[.int .i64 a0_0, .int .i64 a0_1, .slice A0_2 l0_2.length c0_2] 66 (0, 0)) (by (with_reducible repeat (first | refine blk_drewN ?_ _ | refine blk_drew ?_ | refine blk_alloc ?_ _)); exact BK241.out) hb); have n1_ := Aside0.mk (blk_below (g := gb242) (o := .cells #[.int .i64 0, .int .i64 0, .slice none 0 0] 66 (0, 0)) (by (with_reducible repeat (first | refine blk_drewN ?_ _ | refine blk_drew ?_ | refine blk_alloc ?_ _)); exact BK242.out) hb); have n2_ := Aside0.mk (below_step (by repeat (first | (with_reducible first | exact HB.out | apply below_alloc | apply pw_below_drewN | apply below_drew1 | refine below_set ?_ GE241.out | refine below_set ?_ GE242.out) | exact HB.out)) hb); have n3_ := Aside0.mk (hbox); have n4_ := Aside0.mk ((by rw [hg]; exact (below_size (by repeat (first | (with_reducible first | exact HB.out | apply below_alloc | apply pw_below_drewN | apply below_drew1 | refine below_set ?_ GE241.out | refine below_set ?_ GE242.out) | exact HB.out))) : w.heap.size ≤ gb243)); have n5_ := n4_; have n6_ := Aside0.mk ((by rw [hg]; exact Nat.ne_of_lt (blk_lt (g := gb241) (o := .cells #[.int .i64 a0_0, .int .i64 a0_1, .slice A0_2 l0_2.length c0_2] 66 (0, 0)) (by (with_reducible repeat (first | refine blk_drewN ?_ _ | refine blk_drew ?_ | refine blk_alloc ?_ _)); exact BK241.out)) : gb241 ≠ gb243)); have n7_ := Aside0.mk ((by rw [hg]; exact Nat.ne_of_gt (blk_lt (g := gb241) (o := .cells #[.int .i64 a0_0, .int .i64 a0_1, .slice A0_2 l0_2.length c0_2] 66 (0, 0)) (by (with_reducible repeat (first | refine blk_drewN ?_ _ | refine blk_drew ?_ | refine blk_alloc ?_ _)); exact BK241.out)) : gb243 ≠ gb241)); have n8_ := Aside0.mk ((by rw [hg]; exact Nat.ne_of_lt (blk_lt (g := gb242) (o := .cells #[.int .i64 0, .int .i64 0, .slice none 0 0] 66 (0, 0)) (by (with_reducible repeat (first | refine blk_drewN ?_ _ | refine blk_drew ?_ | refine blk_alloc ?_ _)); exact BK242.out)) : gb242 ≠ gb243)); have n9_ := Aside0.mk ((by rw [hg]; exact Nat.ne_of_gt (blk_lt (g := gb242) (o := .cells #[.int .i64 0, .int .i64 0, .slice none 0 0] 66 (0, 0)) (by (with_reducible repeat (first | refine blk_drewN ?_ _ | refine blk_drew ?_ | refine blk_alloc ?_ _)); exact BK242.out)) : gb243 ≠ gb242)); clear BK241; clear BK242; clear HB; have BK241 := n0_; have BK242 := n1_; have HB := n2_; have BK243 := n3_; have GW243 := n4_; have GE243 := n5_; have NB241_243 := n6_; have NB243_241 := n7_; have NB242_243 := n8_; have NB243_242 := n9_; clear n0_ n1_ n2_ n3_ n4_ n5_ n6_ n7_ n8_ n9_; clear hb hbox hg; have hnb10 := NB243_241.out; have hnc10 := NB241_243.out; have hnb11 := NB243_242.out; have hnc11 := NB242_243.out; have hcz12_0 : w9.cell? ⟨gb243, 0, none⟩ = some (.int .i64 0) := (blk_cell BK243.out 0).trans rfl; have hcz12_1 : w9.cell? ⟨gb243, 1, none⟩ = some (.int .i64 0) := (blk_cell BK243.out 1).trans rfl; have hcz12_2 : w9.cell? ⟨gb243, 2, none⟩ = some (.slice none 0 0) := (blk_cell BK243.out 2).trans rfl; have hfz12_0 := blk_frozen BK243.out 0; have hfz12_1 := blk_frozen BK243.out 1; have hfz12_2 := blk_frozen BK243.out 2; have hcz13_0 : w9.cell? ⟨gb241, 0, none⟩ = some (.int .i64 a0_0) := (blk_cell BK241.out 0).trans rfl; have hcz13_1 : w9.cell? ⟨gb241, 1, none⟩ = some (.int .i64 a0_1) := (blk_cell BK241.out 1).trans rfl; have hcz13_2 : w9.cell? ⟨gb241, 2, none⟩ = some (.slice A0_2 l0_2.length c0_2) := (blk_cell BK241.out 2).trans rfl; have hfz13_0 := blk_frozen BK241.out 0; have hfz13_1 := blk_frozen BK241.out 1; have hfz13_2 := blk_frozen BK241.out 2) | ((with_reducible refine gate_builtin (b := .append) (xs := #[.tmp 24, .tmp 26]) rfl ?_); at_builtin; refine Kd.R_append_rows (Kd.int .i64) (w0 := w) w.heap.size rfl (.tmp 24) (.tmp 26) 22 3 (.int .i64 0) 8 rfl Try.underlying22 info3 rfl (by decide) (by omega) (.slice none 0 0) ([] : List Int) l0_2 _ _ _ (fun _ => True) (fun _ => False) rfl rfl ?aO ?aR (fun _ _ h => h) (fun _ h => h.elim) ?aF ?aB ?aS ?aL ?_; (case aR => exact Kd.C_below HR0_2.out (by repeat (first | (with_reducible first | exact HB.out | apply below_alloc | apply pw_below_drewN | apply below_drew1 | refine below_set ?_ GE241.out | refine below_set ?_ GE242.out | refine below_set ?_ GE243.out) | exact HB.out))); (case aB => exact (by repeat (first | (with_reducible first | exact HB.out | apply below_alloc | apply pw_below_drewN | apply below_drew1 | refine below_set ?_ GE241.out | refine below_set ?_ GE242.out | refine below_set ?_ GE243.out) | exact HB.out))); (case aF => exact (fun _ _ => trivial)); (case aO => exact ((Kd.R_nil _ _ _ _ (fun _ => True)))); (case aS => exact (below_size (by repeat (first | (with_reducible first | exact HB.out | apply below_alloc | apply pw_below_drewN | apply below_drew1 | refine below_set ?_ GE241.out | refine below_set ?_ GE242.out | refine below_set ?_ GE243.out) | exact HB.out)))); (case aL => have := LMc3.out; omega); intro v245 w14 ho hb hg hat; rw [← Ny244.out] at ho; have n0_ := Aside0.mk (blk_grown (g := gb241) (o := .cells #[.int .i64 a0_0, .int .i64 a0_1, .slice A0_2 l0_2.length c0_2] 66 (0, 0)) (by (with_reducible repeat (first | refine blk_drewN ?_ _ | refine blk_drew ?_ | refine blk_alloc ?_ _)); refine blk_far ?_ NB241_243.out _; (with_reducible repeat (first | refine blk_drewN ?_ _ | refine blk_drew ?_ | refine blk_alloc ?_ _)); refine blk_far ?_ NB241_243.out _; (with_reducible repeat (first | refine blk_drewN ?_ _ | refine blk_drew ?_ | refine blk_alloc ?_ _)); refine blk_far ?_ NB241_243.out _; (with_reducible repeat (first | refine blk_drewN ?_ _ | refine blk_drew ?_ | refine blk_alloc ?_ _)); exact BK241.out) hg (by simp [Value.ownBlock])); have n1_ := Aside0.mk (blk_grown (g := gb242) (o := .cells #[.int .i64 0, .int .i64 0, .slice none 0 0] 66 (0, 0)) (by (with_reducible repeat (first | refine blk_drewN ?_ _ | refine blk_drew ?_ | refine blk_alloc ?_ _)); refine blk_far ?_ NB242_243.out _; (with_reducible repeat (first | refine blk_drewN ?_ _ | refine blk_drew ?_ | refine blk_alloc ?_ _)); refine blk_far ?_ NB242_243.out _; (with_reducible repeat (first | refine blk_drewN ?_ _ | refine blk_drew ?_ | refine blk_alloc ?_ _)); refine blk_far ?_ NB242_243.out _; (with_reducible repeat (first | refine blk_drewN ?_ _ | refine blk_drew ?_ | refine blk_alloc ?_ _)); exact BK242.out) hg (by simp [Value.ownBlock])); have n2_ := Aside0.mk (blk_grown (g := gb243) (o := .cells #[.int .i64 a0_0, .int .i64 a0_1, .slice none 0 0] 66 (0, 0)) (by (with_reducible repeat (first | refine blk_drewN ?_ _ | refine blk_drew ?_ | refine blk_alloc ?_ _)); refine blk_put (cs := #[.int .i64 a0_0, .int .i64 a0_1, .slice none 0 0]) ?_ 2 _ rfl; (with_reducible repeat (first | refine blk_drewN ?_ _ | refine blk_drew ?_ | refine blk_alloc ?_ _)); refine blk_put (cs := #[.int .i64 a0_0, .int .i64 0, .slice none 0 0]) ?_ 1 _ rfl; (with_reducible repeat (first | refine blk_drewN ?_ _ | refine blk_drew ?_ | refine blk_alloc ?_ _)); refine blk_put (cs := #[.int .i64 0, .int .i64 0, .slice none 0 0]) ?_ 0 _ rfl; (with_reducible repeat (first | refine blk_drewN ?_ _ | refine blk_drew ?_ | refine blk_alloc ?_ _)); exact BK243.out) hg (by simp [Value.ownBlock])); have n3_ := Aside0.mk (hb); have n4_ := Aside0.mk (ho); clear BK241; clear BK242; clear BK243; clear HB; have BK241 := n0_; have BK242 := n1_; have BK243 := n2_; have HB := n3_; have HO246 := n4_; clear n0_ n1_ n2_ n3_ n4_; clear ho hb hg hat; obtain ⟨Ao15, co15, eo15⟩ := Kd.R_slice HO246.out; subst eo15; have hcz16_0 : w14.cell? ⟨gb243, 0, none⟩ = some (.int .i64 a0_0) := (blk_cell BK243.out 0).trans rfl; have hcz16_1 : w14.cell? ⟨gb243, 1, none⟩ = some (.int .i64 a0_1) := (blk_cell BK243.out 1).trans rfl; have hcz16_2 : w14.cell? ⟨gb243, 2, none⟩ = some (.slice none 0 0) := (blk_cell BK243.out 2).trans rfl; have hfz16_0 := blk_frozen BK243.out 0; have hfz16_1 := blk_frozen BK243.out 1; have hfz16_2 := blk_frozen BK243.out 2; have hcz17_0 : w14.cell? ⟨gb242, 0, none⟩ = some (.int .i64 0) := (blk_cell BK242.out 0).trans rfl; have hcz17_1 : w14.cell? ⟨gb242, 1, none⟩ = some (.int .i64 0) := (blk_cell BK242.out 1).trans rfl; have hcz17_2 : w14.cell? ⟨gb242, 2, none⟩ = some (.slice none 0 0) := (blk_cell BK242.out 2).trans rfl; have hfz17_0 := blk_frozen BK242.out 0; have hfz17_1 := blk_frozen BK242.out 1; have hfz17_2 := blk_frozen BK242.out 2)); try go_quiet (first | ((with_reducible refine gate_builtin (b := .append) (xs := #[.tmp 24, .tmp 26]) rfl ?_); at_builtin; refine Kd.R_append_rows (Kd.int .i64) (w0 := w) w.heap.size rfl (.tmp 24) (.tmp 26) 22 3 (.int .i64 0) 8 rfl Try.underlying22 info3 rfl (by decide) (by omega) (.slice none 0 0) ([] : List Int) l0_2 _ _ _ (fun _ => True) (fun _ => False) rfl rfl ?aO ?aR (fun _ _ h => h) (fun _ h => h.elim) ?aF ?aB ?aS ?aL ?_; (case aR => exact Kd.C_below HR0_2.out (by repeat (first | (with_reducible first | exact HB.out | apply below_alloc | apply pw_below_drewN | apply below_drew1 | refine below_set ?_ GE241.out | refine below_set ?_ GE242.out | refine below_set ?_ GE243.out) | exact HB.out))); (case aB => exact (by repeat (first | (with_reducible first | exact HB.out | apply below_alloc | apply pw_below_drewN | apply below_drew1 | refine below_set ?_ GE241.out | refine below_set ?_ GE242.out | refine below_set ?_ GE243.out) | exact HB.out))); (case aF => exact (fun _ _ => trivial)); (case aO => exact ((Kd.R_nil _ _ _ _ (fun _ => True)))); (case aS => exact (below_size (by repeat (first | (with_reducible first | exact HB.out | apply below_alloc | apply pw_below_drewN | apply below_drew1 | refine below_set ?_ GE241.out | refine below_set ?_ GE242.out | refine below_set ?_ GE243.out) | exact HB.out)))); (case aL => have := LMc3.out; omega); intro v245 w14 ho hb hg hat; rw [← Ny244.out] at ho; have n0_ := Aside0.mk (blk_grown (g := gb241) (o := .cells #[.int .i64 a0_0, .int .i64 a0_1, .slice A0_2 l0_2.length c0_2] 66 (0, 0)) (by (with_reducible repeat (first | refine blk_drewN ?_ _ | refine blk_drew ?_ | refine blk_alloc ?_ _)); refine blk_far ?_ NB241_243.out _; (with_reducible repeat (first | refine blk_drewN ?_ _ | refine blk_drew ?_ | refine blk_alloc ?_ _)); refine blk_far ?_ NB241_243.out _; (with_reducible repeat (first | refine blk_drewN ?_ _ | refine blk_drew ?_ | refine blk_alloc ?_ _)); refine blk_far ?_ NB241_243.out _; (with_reducible repeat (first | refine blk_drewN ?_ _ | refine blk_drew ?_ | refine blk_alloc ?_ _)); exact BK241.out) hg (by simp [Value.ownBlock])); have n1_ := Aside0.mk (blk_grown (g := gb242) (o := .cells #[.int .i64 0, .int .i64 0, .slice none 0 0] 66 (0, 0)) (by (with_reducible repeat (first | refine blk_drewN ?_ _ | refine blk_drew ?_ | refine blk_alloc ?_ _)); refine blk_far ?_ NB242_243.out _; (with_reducible repeat (first | refine blk_drewN ?_ _ | refine blk_drew ?_ | refine blk_alloc ?_ _)); refine blk_far ?_ NB242_243.out _; (with_reducible repeat (first | refine blk_drewN ?_ _ | refine blk_drew ?_ | refine blk_alloc ?_ _)); refine blk_far ?_ NB242_243.out _; (with_reducible repeat (first | refine blk_drewN ?_ _ | refine blk_drew ?_ | refine blk_alloc ?_ _)); exact BK242.out) hg (by simp [Value.ownBlock])); have n2_ := Aside0.mk (blk_grown (g := gb243) (o := .cells #[.int .i64 a0_0, .int .i64 a0_1, .slice none 0 0] 66 (0, 0)) (by (with_reducible repeat (first | refine blk_drewN ?_ _ | refine blk_drew ?_ | refine blk_alloc ?_ _)); refine blk_put (cs := #[.int .i64 a0_0, .int .i64 a0_1, .slice none 0 0]) ?_ 2 _ rfl; (with_reducible repeat (first | refine blk_drewN ?_ _ | refine blk_drew ?_ | refine blk_alloc ?_ _)); refine blk_put (cs := #[.int .i64 a0_0, .int .i64 0, .slice none 0 0]) ?_ 1 _ rfl; (with_reducible repeat (first | refine blk_drewN ?_ _ | refine blk_drew ?_ | refine blk_alloc ?_ _)); refine blk_put (cs := #[.int .i64 0, .int .i64 0, .slice none 0 0]) ?_ 0 _ rfl; (with_reducible repeat (first | refine blk_drewN ?_ _ | refine blk_drew ?_ | refine blk_alloc ?_ _)); exact BK243.out) hg (by simp [Value.ownBlock])); have n3_ := Aside0.mk (hb); have n4_ := Aside0.mk (ho); clear BK241; clear BK242; clear BK243; clear HB; have BK241 := n0_; have BK242 := n1_; have BK243 := n2_; have HB := n3_; have HO246 := n4_; clear n0_ n1_ n2_ n3_ n4_; clear ho hb hg hat; obtain ⟨Ao15, co15, eo15⟩ := Kd.R_slice HO246.out; subst eo15; have hcz16_0 : w14.cell? ⟨gb243, 0, none⟩ = some (.int .i64 a0_0) := (blk_cell BK243.out 0).trans rfl; have hcz16_1 : w14.cell? ⟨gb243, 1, none⟩ = some (.int .i64 a0_1) := (blk_cell BK243.out 1).trans rfl; have hcz16_2 : w14.cell? ⟨gb243, 2, none⟩ = some (.slice none 0 0) := (blk_cell BK243.out 2).trans rfl; have hfz16_0 := blk_frozen BK243.out 0; have hfz16_1 := blk_frozen BK243.out 1; have hfz16_2 := blk_frozen BK243.out 2; have hcz17_0 : w14.cell? ⟨gb242, 0, none⟩ = some (.int .i64 0) := (blk_cell BK242.out 0).trans rfl; have hcz17_1 : w14.cell? ⟨gb242, 1, none⟩ = some (.int .i64 0) := (blk_cell BK242.out 1).trans rfl; have hcz17_2 : w14.cell? ⟨gb242, 2, none⟩ = some (.slice none 0 0) := (blk_cell BK242.out 2).trans rfl; have hfz17_0 := blk_frozen BK242.out 0; have hfz17_1 := blk_frozen BK242.out 1; have hfz17_2 := blk_frozen BK242.out 2)))
    refine bodyPost_ret (results_cell_row rfl _ _ gb242 66 #[.int .i64 a0_0, .int .i64 a0_1, .slice Ao15 y244.length co15] (0, 0) _ rfl (by (with_reducible repeat (first | refine blk_drewN ?_ _ | refine blk_drew ?_ | refine blk_alloc ?_ _)); refine blk_put (cs := #[.int .i64 a0_0, .int .i64 a0_1, .slice none 0 0]) ?_ 2 _ rfl; (with_reducible repeat (first | refine blk_drewN ?_ _ | refine blk_drew ?_ | refine blk_alloc ?_ _)); refine blk_put (cs := #[.int .i64 a0_0, .int .i64 0, .slice none 0 0]) ?_ 1 _ rfl; (with_reducible repeat (first | refine blk_drewN ?_ _ | refine blk_drew ?_ | refine blk_alloc ?_ _)); refine blk_put (cs := #[.int .i64 0, .int .i64 0, .slice none 0 0]) ?_ 0 _ rfl; (with_reducible repeat (first | refine blk_drewN ?_ _ | refine blk_drew ?_ | refine blk_alloc ?_ _)); refine blk_far ?_ NB242_243.out _; (with_reducible repeat (first | refine blk_drewN ?_ _ | refine blk_drew ?_ | refine blk_alloc ?_ _)); exact BK242.out) Try.underlying66 rfl (by kernel_rfl)) rfl ?_
    exact ⟨_, by first | rfl | (simp [errW_none, errW_some] <;> rfl) | (simp [*, errW_none, errW_some] <;> rfl), by (with_reducible repeat (first | apply Kd.R_alloc | apply Kd.R_drewN | apply Kd.R_drew)); exact Kd.R_mono (Kd.R_far (p := ⟨gb242, 2, none⟩) (Kd.R_far (p := ⟨gb242, 1, none⟩) (Kd.R_far (p := ⟨gb242, 0, none⟩) (Kd.R_far (p := ⟨gb243, 2, none⟩) (Kd.R_types (Kd.R_types HO246.out BK243.out (by decide)) BK242.out (by decide)) (fun _ hk => hk.1.2) (.slice Ao15 y244.length co15)) (fun _ hk => hk.2) (.int .i64 a0_0)) (fun _ hk => hk.2) (.int .i64 a0_1)) (fun _ hk => hk.2) (.slice Ao15 y244.length co15)) (fun _ hk => trivial), by repeat (first | (with_reducible first | exact HB.out | apply below_alloc | apply pw_below_drewN | apply below_drew1 | refine below_set ?_ GE241.out | refine below_set ?_ GE242.out | refine below_set ?_ GE243.out) | exact HB.out)⟩
  rw [if_neg c4] at H
  have c4b0 : decide (a1 < 8) = false := decide_eq_false c4
  clear c4
  have H' := Aside0.mk H
  clear H
  go_enter Try.func112, Try.ntmps112
  iterate 3 (try go_wp2_with (first | ((with_reducible refine gate_dst (N := 2) rfl ?_); refine box_event ?hg (N := 2) ?hd (cs := #[.int .i64 a0_0, .int .i64 a0_1, .slice A0_2 l0_2.length c0_2]) (t := 66) ?hr ?_; (case hd => rfl); (case hg => rfl); (case hr => first | (go_simp; done) | (go_simp; rfl)); intro gb241 hg w18 hbox hb; have n0_ := Aside0.mk (below_step (by repeat (first | (with_reducible first | exact HB.out | apply below_alloc | apply pw_below_drewN | apply below_drew1) | exact HB.out)) hb); have n1_ := Aside0.mk (hbox); have n2_ := Aside0.mk ((by rw [hg]; exact (below_size (by repeat (first | (with_reducible first | exact HB.out | apply below_alloc | apply pw_below_drewN | apply below_drew1) | exact HB.out))) : w.heap.size ≤ gb241)); have n3_ := n2_; clear HB; have HB := n0_; have BK241 := n1_; have GW241 := n2_; have GE241 := n3_; clear n0_ n1_ n2_ n3_; clear hb hbox hg) | ((with_reducible refine gate_dst (N := 4) rfl ?_); refine box_event ?hg (N := 4) ?hd (cs := #[.int .i64 0, .int .i64 0, .slice none 0 0]) (t := 66) ?hr ?_; (case hd => rfl); (case hg => rfl); (case hr => first | (go_simp; done) | (go_simp; rfl)); intro gb242 hg w19 hbox hb; have n0_ := Aside0.mk (blk_below (g := gb241) (o := .cells #[.int .i64 a0_0, .int .i64 a0_1, .slice A0_2 l0_2.length c0_2] 66 (0, 0)) (by (with_reducible repeat (first | refine blk_drewN ?_ _ | refine blk_drew ?_ | refine blk_alloc ?_ _)); exact BK241.out) hb); have n1_ := Aside0.mk (below_step (by repeat (first | (with_reducible first | exact HB.out | apply below_alloc | apply pw_below_drewN | apply below_drew1 | refine below_set ?_ GE241.out) | exact HB.out)) hb); have n2_ := Aside0.mk (hbox); have n3_ := Aside0.mk ((by rw [hg]; exact (below_size (by repeat (first | (with_reducible first | exact HB.out | apply below_alloc | apply pw_below_drewN | apply below_drew1 | refine below_set ?_ GE241.out) | exact HB.out))) : w.heap.size ≤ gb242)); have n4_ := n3_; have n5_ := Aside0.mk ((by rw [hg]; exact Nat.ne_of_lt (blk_lt (g := gb241) (o := .cells #[.int .i64 a0_0, .int .i64 a0_1, .slice A0_2 l0_2.length c0_2] 66 (0, 0)) (by (with_reducible repeat (first | refine blk_drewN ?_ _ | refine blk_drew ?_ | refine blk_alloc ?_ _)); exact BK241.out)) : gb241 ≠ gb242)); have n6_ := Aside0.mk ((by rw [hg]; exact Nat.ne_of_gt (blk_lt (g := gb241) (o := .cells #[.int .i64 a0_0, .int .i64 a0_1, .slice A0_2 l0_2.length c0_2] 66 (0, 0)) (by (with_reducible repeat (first | refine blk_drewN ?_ _ | refine blk_drew ?_ | refine blk_alloc ?_ _)); exact BK241.out)) : gb242 ≠ gb241)); clear BK241; clear HB; have BK241 := n0_; have HB := n1_; have BK242 := n2_; have GW242 := n3_; have GE242 := n4_; have NB241_242 := n5_; have NB242_241 := n6_; clear n0_ n1_ n2_ n3_ n4_ n5_ n6_; clear hb hbox hg; have hnb20 := NB241_242.out; have hnc20 := NB242_241.out; have hcz21_0 : w19.cell? ⟨gb241, 0, none⟩ = some (.int .i64 a0_0) := (blk_cell BK241.out 0).trans rfl; have hcz21_1 : w19.cell? ⟨gb241, 1, none⟩ = some (.int .i64 a0_1) := (blk_cell BK241.out 1).trans rfl; have hcz21_2 : w19.cell? ⟨gb241, 2, none⟩ = some (.slice A0_2 l0_2.length c0_2) := (blk_cell BK241.out 2).trans rfl; have hfz21_0 := blk_frozen BK241.out 0; have hfz21_1 := blk_frozen BK241.out 1; have hfz21_2 := blk_frozen BK241.out 2) | ((with_reducible refine gate_dst (N := 5) rfl ?_); refine box_event ?hg (N := 5) ?hd (cs := #[.int .i64 0, .int .i64 0, .slice none 0 0]) (t := 66) ?hr ?_; (case hd => rfl); (case hg => rfl); (case hr => first | (go_simp; done) | (go_simp; rfl)); intro gb243 hg w22 hbox hb; have n0_ := Aside0.mk (blk_below (g := gb241) (o := .cells #[.int .i64 a0_0, .int .i64 a0_1, .slice A0_2 l0_2.length c0_2] 66 (0, 0)) (by (with_reducible repeat (first | refine blk_drewN ?_ _ | refine blk_drew ?_ | refine blk_alloc ?_ _)); exact BK241.out) hb); have n1_ := Aside0.mk (blk_below (g := gb242) (o := .cells #[.int .i64 0, .int .i64 0, .slice none 0 0] 66 (0, 0)) (by (with_reducible repeat (first | refine blk_drewN ?_ _ | refine blk_drew ?_ | refine blk_alloc ?_ _)); exact BK242.out) hb); have n2_ := Aside0.mk (below_step (by repeat (first | (with_reducible first | exact HB.out | apply below_alloc | apply pw_below_drewN | apply below_drew1 | refine below_set ?_ GE241.out | refine below_set ?_ GE242.out) | exact HB.out)) hb); have n3_ := Aside0.mk (hbox); have n4_ := Aside0.mk ((by rw [hg]; exact (below_size (by repeat (first | (with_reducible first | exact HB.out | apply below_alloc | apply pw_below_drewN | apply below_drew1 | refine below_set ?_ GE241.out | refine below_set ?_ GE242.out) | exact HB.out))) : w.heap.size ≤ gb243)); have n5_ := n4_; have n6_ := Aside0.mk ((by rw [hg]; exact Nat.ne_of_lt (blk_lt (g := gb241) (o := .cells #[.int .i64 a0_0, .int .i64 a0_1, .slice A0_2 l0_2.length c0_2] 66 (0, 0)) (by (with_reducible repeat (first | refine blk_drewN ?_ _ | refine blk_drew ?_ | refine blk_alloc ?_ _)); exact BK241.out)) : gb241 ≠ gb243)); have n7_ := Aside0.mk ((by rw [hg]; exact Nat.ne_of_gt (blk_lt (g := gb241) (o := .cells #[.int .i64 a0_0, .int .i64 a0_1, .slice A0_2 l0_2.length c0_2] 66 (0, 0)) (by (with_reducible repeat (first | refine blk_drewN ?_ _ | refine blk_drew ?_ | refine blk_alloc ?_ _)); exact BK241.out)) : gb243 ≠ gb241)); have n8_ := Aside0.mk ((by rw [hg]; exact Nat.ne_of_lt (blk_lt (g := gb242) (o := .cells #[.int .i64 0, .int .i64 0, .slice none 0 0] 66 (0, 0)) (by (with_reducible repeat (first | refine blk_drewN ?_ _ | refine blk_drew ?_ | refine blk_alloc ?_ _)); exact BK242.out)) : gb242 ≠ gb243)); have n9_ := Aside0.mk ((by rw [hg]; exact Nat.ne_of_gt (blk_lt (g := gb242) (o := .cells #[.int .i64 0, .int .i64 0, .slice none 0 0] 66 (0, 0)) (by (with_reducible repeat (first | refine blk_drewN ?_ _ | refine blk_drew ?_ | refine blk_alloc ?_ _)); exact BK242.out)) : gb243 ≠ gb242)); clear BK241; clear BK242; clear HB; have BK241 := n0_; have BK242 := n1_; have HB := n2_; have BK243 := n3_; have GW243 := n4_; have GE243 := n5_; have NB241_243 := n6_; have NB243_241 := n7_; have NB242_243 := n8_; have NB243_242 := n9_; clear n0_ n1_ n2_ n3_ n4_ n5_ n6_ n7_ n8_ n9_; clear hb hbox hg; have hnb23 := NB243_241.out; have hnc23 := NB241_243.out; have hnb24 := NB243_242.out; have hnc24 := NB242_243.out; have hcz25_0 : w22.cell? ⟨gb243, 0, none⟩ = some (.int .i64 0) := (blk_cell BK243.out 0).trans rfl; have hcz25_1 : w22.cell? ⟨gb243, 1, none⟩ = some (.int .i64 0) := (blk_cell BK243.out 1).trans rfl; have hcz25_2 : w22.cell? ⟨gb243, 2, none⟩ = some (.slice none 0 0) := (blk_cell BK243.out 2).trans rfl; have hfz25_0 := blk_frozen BK243.out 0; have hfz25_1 := blk_frozen BK243.out 1; have hfz25_2 := blk_frozen BK243.out 2; have hcz26_0 : w22.cell? ⟨gb241, 0, none⟩ = some (.int .i64 a0_0) := (blk_cell BK241.out 0).trans rfl; have hcz26_1 : w22.cell? ⟨gb241, 1, none⟩ = some (.int .i64 a0_1) := (blk_cell BK241.out 1).trans rfl; have hcz26_2 : w22.cell? ⟨gb241, 2, none⟩ = some (.slice A0_2 l0_2.length c0_2) := (blk_cell BK241.out 2).trans rfl; have hfz26_0 := blk_frozen BK241.out 0; have hfz26_1 := blk_frozen BK241.out 1; have hfz26_2 := blk_frozen BK241.out 2) | ((with_reducible refine gate_builtin (b := .append) (xs := #[.tmp 24, .tmp 26]) rfl ?_); at_builtin; refine Kd.R_append_rows (Kd.int .i64) (w0 := w) w.heap.size rfl (.tmp 24) (.tmp 26) 22 3 (.int .i64 0) 8 rfl Try.underlying22 info3 rfl (by decide) (by omega) (.slice none 0 0) ([] : List Int) l0_2 _ _ _ (fun _ => True) (fun _ => False) rfl rfl ?aO ?aR (fun _ _ h => h) (fun _ h => h.elim) ?aF ?aB ?aS ?aL ?_; (case aR => exact Kd.C_below HR0_2.out (by repeat (first | (with_reducible first | exact HB.out | apply below_alloc | apply pw_below_drewN | apply below_drew1 | refine below_set ?_ GE241.out | refine below_set ?_ GE242.out | refine below_set ?_ GE243.out) | exact HB.out))); (case aB => exact (by repeat (first | (with_reducible first | exact HB.out | apply below_alloc | apply pw_below_drewN | apply below_drew1 | refine below_set ?_ GE241.out | refine below_set ?_ GE242.out | refine below_set ?_ GE243.out) | exact HB.out))); (case aF => exact (fun _ _ => trivial)); (case aO => exact ((Kd.R_nil _ _ _ _ (fun _ => True)))); (case aS => exact (below_size (by repeat (first | (with_reducible first | exact HB.out | apply below_alloc | apply pw_below_drewN | apply below_drew1 | refine below_set ?_ GE241.out | refine below_set ?_ GE242.out | refine below_set ?_ GE243.out) | exact HB.out)))); (case aL => have := LMc3.out; omega); intro v245 w27 ho hb hg hat; rw [← Ny244.out] at ho; have n0_ := Aside0.mk (blk_grown (g := gb241) (o := .cells #[.int .i64 a0_0, .int .i64 a0_1, .slice A0_2 l0_2.length c0_2] 66 (0, 0)) (by (with_reducible repeat (first | refine blk_drewN ?_ _ | refine blk_drew ?_ | refine blk_alloc ?_ _)); refine blk_far ?_ NB241_243.out _; (with_reducible repeat (first | refine blk_drewN ?_ _ | refine blk_drew ?_ | refine blk_alloc ?_ _)); refine blk_far ?_ NB241_243.out _; (with_reducible repeat (first | refine blk_drewN ?_ _ | refine blk_drew ?_ | refine blk_alloc ?_ _)); refine blk_far ?_ NB241_243.out _; (with_reducible repeat (first | refine blk_drewN ?_ _ | refine blk_drew ?_ | refine blk_alloc ?_ _)); exact BK241.out) hg (by simp [Value.ownBlock])); have n1_ := Aside0.mk (blk_grown (g := gb242) (o := .cells #[.int .i64 0, .int .i64 0, .slice none 0 0] 66 (0, 0)) (by (with_reducible repeat (first | refine blk_drewN ?_ _ | refine blk_drew ?_ | refine blk_alloc ?_ _)); refine blk_far ?_ NB242_243.out _; (with_reducible repeat (first | refine blk_drewN ?_ _ | refine blk_drew ?_ | refine blk_alloc ?_ _)); refine blk_far ?_ NB242_243.out _; (with_reducible repeat (first | refine blk_drewN ?_ _ | refine blk_drew ?_ | refine blk_alloc ?_ _)); refine blk_far ?_ NB242_243.out _; (with_reducible repeat (first | refine blk_drewN ?_ _ | refine blk_drew ?_ | refine blk_alloc ?_ _)); exact BK242.out) hg (by simp [Value.ownBlock])); have n2_ := Aside0.mk (blk_grown (g := gb243) (o := .cells #[.int .i64 a0_0, .int .i64 a0_1, .slice none 0 0] 66 (0, 0)) (by (with_reducible repeat (first | refine blk_drewN ?_ _ | refine blk_drew ?_ | refine blk_alloc ?_ _)); refine blk_put (cs := #[.int .i64 a0_0, .int .i64 a0_1, .slice none 0 0]) ?_ 2 _ rfl; (with_reducible repeat (first | refine blk_drewN ?_ _ | refine blk_drew ?_ | refine blk_alloc ?_ _)); refine blk_put (cs := #[.int .i64 a0_0, .int .i64 0, .slice none 0 0]) ?_ 1 _ rfl; (with_reducible repeat (first | refine blk_drewN ?_ _ | refine blk_drew ?_ | refine blk_alloc ?_ _)); refine blk_put (cs := #[.int .i64 0, .int .i64 0, .slice none 0 0]) ?_ 0 _ rfl; (with_reducible repeat (first | refine blk_drewN ?_ _ | refine blk_drew ?_ | refine blk_alloc ?_ _)); exact BK243.out) hg (by simp [Value.ownBlock])); have n3_ := Aside0.mk (hb); have n4_ := Aside0.mk (ho); clear BK241; clear BK242; clear BK243; clear HB; have BK241 := n0_; have BK242 := n1_; have BK243 := n2_; have HB := n3_; have HO246 := n4_; clear n0_ n1_ n2_ n3_ n4_; clear ho hb hg hat; obtain ⟨Ao28, co28, eo28⟩ := Kd.R_slice HO246.out; subst eo28; have hcz29_0 : w27.cell? ⟨gb243, 0, none⟩ = some (.int .i64 a0_0) := (blk_cell BK243.out 0).trans rfl; have hcz29_1 : w27.cell? ⟨gb243, 1, none⟩ = some (.int .i64 a0_1) := (blk_cell BK243.out 1).trans rfl; have hcz29_2 : w27.cell? ⟨gb243, 2, none⟩ = some (.slice none 0 0) := (blk_cell BK243.out 2).trans rfl; have hfz29_0 := blk_frozen BK243.out 0; have hfz29_1 := blk_frozen BK243.out 1; have hfz29_2 := blk_frozen BK243.out 2)); try go_quiet (first | ((with_reducible refine gate_builtin (b := .append) (xs := #[.tmp 24, .tmp 26]) rfl ?_); at_builtin; refine Kd.R_append_rows (Kd.int .i64) (w0 := w) w.heap.size rfl (.tmp 24) (.tmp 26) 22 3 (.int .i64 0) 8 rfl Try.underlying22 info3 rfl (by decide) (by omega) (.slice none 0 0) ([] : List Int) l0_2 _ _ _ (fun _ => True) (fun _ => False) rfl rfl ?aO ?aR (fun _ _ h => h) (fun _ h => h.elim) ?aF ?aB ?aS ?aL ?_; (case aR => exact Kd.C_below HR0_2.out (by repeat (first | (with_reducible first | exact HB.out | apply below_alloc | apply pw_below_drewN | apply below_drew1 | refine below_set ?_ GE241.out | refine below_set ?_ GE242.out | refine below_set ?_ GE243.out) | exact HB.out))); (case aB => exact (by repeat (first | (with_reducible first | exact HB.out | apply below_alloc | apply pw_below_drewN | apply below_drew1 | refine below_set ?_ GE241.out | refine below_set ?_ GE242.out | refine below_set ?_ GE243.out) | exact HB.out))); (case aF => exact (fun _ _ => trivial)); (case aO => exact ((Kd.R_nil _ _ _ _ (fun _ => True)))); (case aS => exact (below_size (by repeat (first | (with_reducible first | exact HB.out | apply below_alloc | apply pw_below_drewN | apply below_drew1 | refine below_set ?_ GE241.out | refine below_set ?_ GE242.out | refine below_set ?_ GE243.out) | exact HB.out)))); (case aL => have := LMc3.out; omega); intro v245 w27 ho hb hg hat; rw [← Ny244.out] at ho; have n0_ := Aside0.mk (blk_grown (g := gb241) (o := .cells #[.int .i64 a0_0, .int .i64 a0_1, .slice A0_2 l0_2.length c0_2] 66 (0, 0)) (by (with_reducible repeat (first | refine blk_drewN ?_ _ | refine blk_drew ?_ | refine blk_alloc ?_ _)); refine blk_far ?_ NB241_243.out _; (with_reducible repeat (first | refine blk_drewN ?_ _ | refine blk_drew ?_ | refine blk_alloc ?_ _)); refine blk_far ?_ NB241_243.out _; (with_reducible repeat (first | refine blk_drewN ?_ _ | refine blk_drew ?_ | refine blk_alloc ?_ _)); refine blk_far ?_ NB241_243.out _; (with_reducible repeat (first | refine blk_drewN ?_ _ | refine blk_drew ?_ | refine blk_alloc ?_ _)); exact BK241.out) hg (by simp [Value.ownBlock])); have n1_ := Aside0.mk (blk_grown (g := gb242) (o := .cells #[.int .i64 0, .int .i64 0, .slice none 0 0] 66 (0, 0)) (by (with_reducible repeat (first | refine blk_drewN ?_ _ | refine blk_drew ?_ | refine blk_alloc ?_ _)); refine blk_far ?_ NB242_243.out _; (with_reducible repeat (first | refine blk_drewN ?_ _ | refine blk_drew ?_ | refine blk_alloc ?_ _)); refine blk_far ?_ NB242_243.out _; (with_reducible repeat (first | refine blk_drewN ?_ _ | refine blk_drew ?_ | refine blk_alloc ?_ _)); refine blk_far ?_ NB242_243.out _; (with_reducible repeat (first | refine blk_drewN ?_ _ | refine blk_drew ?_ | refine blk_alloc ?_ _)); exact BK242.out) hg (by simp [Value.ownBlock])); have n2_ := Aside0.mk (blk_grown (g := gb243) (o := .cells #[.int .i64 a0_0, .int .i64 a0_1, .slice none 0 0] 66 (0, 0)) (by (with_reducible repeat (first | refine blk_drewN ?_ _ | refine blk_drew ?_ | refine blk_alloc ?_ _)); refine blk_put (cs := #[.int .i64 a0_0, .int .i64 a0_1, .slice none 0 0]) ?_ 2 _ rfl; (with_reducible repeat (first | refine blk_drewN ?_ _ | refine blk_drew ?_ | refine blk_alloc ?_ _)); refine blk_put (cs := #[.int .i64 a0_0, .int .i64 0, .slice none 0 0]) ?_ 1 _ rfl; (with_reducible repeat (first | refine blk_drewN ?_ _ | refine blk_drew ?_ | refine blk_alloc ?_ _)); refine blk_put (cs := #[.int .i64 0, .int .i64 0, .slice none 0 0]) ?_ 0 _ rfl; (with_reducible repeat (first | refine blk_drewN ?_ _ | refine blk_drew ?_ | refine blk_alloc ?_ _)); exact BK243.out) hg (by simp [Value.ownBlock])); have n3_ := Aside0.mk (hb); have n4_ := Aside0.mk (ho); clear BK241; clear BK242; clear BK243; clear HB; have BK241 := n0_; have BK242 := n1_; have BK243 := n2_; have HB := n3_; have HO246 := n4_; clear n0_ n1_ n2_ n3_ n4_; clear ho hb hg hat; obtain ⟨Ao28, co28, eo28⟩ := Kd.R_slice HO246.out; subst eo28; have hcz29_0 : w27.cell? ⟨gb243, 0, none⟩ = some (.int .i64 a0_0) := (blk_cell BK243.out 0).trans rfl; have hcz29_1 : w27.cell? ⟨gb243, 1, none⟩ = some (.int .i64 a0_1) := (blk_cell BK243.out 1).trans rfl; have hcz29_2 : w27.cell? ⟨gb243, 2, none⟩ = some (.slice none 0 0) := (blk_cell BK243.out 2).trans rfl; have hfz29_0 := blk_frozen BK243.out 0; have hfz29_1 := blk_frozen BK243.out 1; have hfz29_2 := blk_frozen BK243.out 2)))
  go_loopg [7] k (fun kq v7 w' => ∃ (x7_1 : Int) (x244002_1 : List Int), v7 = .int .i64 x7_1 ∧ Aside0 (spec_l13Smooth.l0 kq a1 x7_1 a0_0 a0_1 l0_2 a0_0 a0_1 x244002_1 = some (r1, r2, r3)) ∧ Aside0 (kq ≤ k) ∧ Aside0 (Kd.R (Kd.int .i64) 3 w' w.heap.size (fun _ => True) (.slice Ao28 y244.length co28) x244002_1) ∧ Aside0 (w'.heap[gb241]? = some (.cells #[.int .i64 a0_0, .int .i64 a0_1, (.slice A0_2 l0_2.length c0_2)] 66 (0, 0))) ∧ Aside0 (w'.heap[gb242]? = some (.cells #[.int .i64 0, .int .i64 0, (.slice none 0 0)] 66 (0, 0))) ∧ Aside0 (w'.heap[gb243]? = some (.cells #[.int .i64 a0_0, .int .i64 a0_1, (.slice Ao28 y244.length co28)] 66 (0, 0))) ∧ Aside0 (Below w.heap.size w w'))
  case atStart => exact ⟨(0), (y244), (by first | rfl | (simp; done) | (simp [*]; done)), H', ⟨Nat.le_refl _⟩, ⟨by (with_reducible repeat (first | apply Kd.R_alloc | apply Kd.R_drewN | apply Kd.R_drew)); exact Kd.R_mono (Kd.R_far (p := ⟨gb243, 2, none⟩) (Kd.R_types HO246.out BK243.out (by decide)) (fun _ hk => hk.2) (.slice Ao28 y244.length co28)) (fun _ hk => trivial)⟩, ⟨by (with_reducible repeat (first | refine blk_drewN ?_ _ | refine blk_drew ?_ | refine blk_alloc ?_ _)); refine blk_far ?_ NB241_243.out _; (with_reducible repeat (first | refine blk_drewN ?_ _ | refine blk_drew ?_ | refine blk_alloc ?_ _)); exact BK241.out⟩, ⟨by (with_reducible repeat (first | refine blk_drewN ?_ _ | refine blk_drew ?_ | refine blk_alloc ?_ _)); refine blk_far ?_ NB242_243.out _; (with_reducible repeat (first | refine blk_drewN ?_ _ | refine blk_drew ?_ | refine blk_alloc ?_ _)); exact BK242.out⟩, ⟨by (with_reducible repeat (first | refine blk_drewN ?_ _ | refine blk_drew ?_ | refine blk_alloc ?_ _)); refine blk_put (cs := #[.int .i64 a0_0, .int .i64 a0_1, .slice none 0 0]) ?_ 2 _ rfl; (with_reducible repeat (first | refine blk_drewN ?_ _ | refine blk_drew ?_ | refine blk_alloc ?_ _)); exact BK243.out⟩, ⟨by repeat (first | (with_reducible first | exact HB.out | apply below_alloc | apply pw_below_drewN | apply below_drew1 | refine below_set ?_ GE241.out | refine below_set ?_ GE242.out | refine below_set ?_ GE243.out) | exact HB.out)⟩⟩
  case round =>
    clear H'
    try clear c1
    try clear c2
    try clear p2
    try clear c3
    try clear c4
    try clear c4b0
    try clear c7
    try clear c10
    try clear c11
    try clear c20
    try clear c23
    try clear c24
    try clear hcz12_0
    try clear hcz12_1
    try clear hcz12_2
    try clear hcz13_0
    try clear hcz13_1
    try clear hcz13_2
    try clear hcz16_0
    try clear hcz16_1
    try clear hcz16_2
    try clear hcz17_0
    try clear hcz17_1
    try clear hcz17_2
    try clear hcz21_0
    try clear hcz21_1
    try clear hcz21_2
    try clear hcz25_0
    try clear hcz25_1
    try clear hcz25_2
    try clear hcz26_0
    try clear hcz26_1
    try clear hcz26_2
    try clear hcz29_0
    try clear hcz29_1
    try clear hcz29_2
    try clear hcz8_0
    try clear hcz8_1
    try clear hcz8_2
    try clear hfz12_0
    try clear hfz12_1
    try clear hfz12_2
    try clear hfz13_0
    try clear hfz13_1
    try clear hfz13_2
    try clear hfz16_0
    try clear hfz16_1
    try clear hfz16_2
    try clear hfz17_0
    try clear hfz17_1
    try clear hfz17_2
    try clear hfz21_0
    try clear hfz21_1
    try clear hfz21_2
    try clear hfz25_0
    try clear hfz25_1
    try clear hfz25_2
    try clear hfz26_0
    try clear hfz26_1
    try clear hfz26_2
    try clear hfz29_0
    try clear hfz29_1
    try clear hfz29_2
    try clear hfz8_0
    try clear hfz8_1
    try clear hfz8_2
    obtain ⟨x7_1, x244002_1, rfl, HA, HK1, HO_244002, BK241, BK242, BK243, HB⟩ := hrel
    have hl244002_1 := (Kd.R_reads' HO_244002.out).1
    rw [hl244002_1] at HO_244002
    (try simp only [hl244002_1])
    (try simp only [hl244002_1] at BK241)
    (try simp only [hl244002_1] at BK242)
    (try simp only [hl244002_1] at BK243)
    cases gk with
    | zero => exact absurd HA.out (by simp [spec_l13Smooth.l0])
    | succ k1 =>
      have H := HA.out
      clear HA
      simp only [spec_l13Smooth.l0] at H
      by_cases c30 : x7_1 < a0_1
      · rw [if_pos c30] at H
        have c30b0 : decide (x7_1 < a0_1) = true := decide_eq_true c30
        clear c30
        have H' := Aside0.mk H
        clear H
        have hnb31 := NB241_242.out
        have hnc31 := NB242_241.out
        have hnb32 := NB241_243.out
        have hnc32 := NB243_241.out
        have hcz33_0 : wr.cell? ⟨gb241, 0, none⟩ = some (.int .i64 a0_0) := (blk_cell BK241.out 0).trans rfl
        have hcz33_1 : wr.cell? ⟨gb241, 1, none⟩ = some (.int .i64 a0_1) := (blk_cell BK241.out 1).trans rfl
        have hcz33_2 : wr.cell? ⟨gb241, 2, none⟩ = some (.slice A0_2 l0_2.length c0_2) := (blk_cell BK241.out 2).trans rfl
        have hfz33_0 := blk_frozen BK241.out 0
        have hfz33_1 := blk_frozen BK241.out 1
        have hfz33_2 := blk_frozen BK241.out 2
        go_wp2
        repeat (go_quiet (fail); try go_wp2)
        go_loopg [8] k1 (fun kq v8 w' => ∃ (x8_2 : Int) (x244002_2 : List Int), v8 = .int .i64 x8_2 ∧ Aside0 (spec_l13Smooth.l1 kq a1 x7_1 x8_2 a0_0 a0_1 l0_2 a0_0 a0_1 x244002_2 = some (r1, r2, r3)) ∧ Aside0 (kq ≤ k1) ∧ Aside0 (Kd.R (Kd.int .i64) 3 w' w.heap.size (fun _ => True) (.slice Ao28 x244002_1.length co28) x244002_2) ∧ Aside0 (w'.heap[gb241]? = some (.cells #[.int .i64 a0_0, .int .i64 a0_1, (.slice A0_2 l0_2.length c0_2)] 66 (0, 0))) ∧ Aside0 (w'.heap[gb242]? = some (.cells #[.int .i64 0, .int .i64 0, (.slice none 0 0)] 66 (0, 0))) ∧ Aside0 (w'.heap[gb243]? = some (.cells #[.int .i64 a0_0, .int .i64 a0_1, (.slice Ao28 x244002_1.length co28)] 66 (0, 0))) ∧ Aside0 (Below w.heap.size w w'))
        case atStart => exact ⟨(4), (x244002_1), (by first | rfl | (simp; done) | (simp [*]; done)), H', ⟨Nat.le_refl _⟩, ⟨by (try simp only [hl244002_1]); (with_reducible repeat (first | apply Kd.R_alloc | apply Kd.R_drewN | apply Kd.R_drew)); exact HO_244002.out⟩, ⟨by (try simp only [hl244002_1]); (with_reducible repeat (first | refine blk_drewN ?_ _ | refine blk_drew ?_ | refine blk_alloc ?_ _)); exact BK241.out⟩, ⟨by (try simp only [hl244002_1]); (with_reducible repeat (first | refine blk_drewN ?_ _ | refine blk_drew ?_ | refine blk_alloc ?_ _)); exact BK242.out⟩, ⟨by (try simp only [hl244002_1]); (with_reducible repeat (first | refine blk_drewN ?_ _ | refine blk_drew ?_ | refine blk_alloc ?_ _)); exact BK243.out⟩, ⟨by repeat (first | (with_reducible first | exact HB.out | apply below_alloc | apply pw_below_drewN | apply below_drew1 | refine below_set ?_ GE241.out | refine below_set ?_ GE242.out | refine below_set ?_ GE243.out) | exact HB.out)⟩⟩
        case round =>
          clear H'
          try clear c1
          try clear c2
          try clear p2
          try clear c3
          try clear c4
          try clear c4b0
          try clear c7
          try clear c10
          try clear c11
          try clear c20
          try clear c23
          try clear c24
          try clear c30
          try clear c30b0
          try clear c31
          try clear c32
          try clear hcz12_0
          try clear hcz12_1
          try clear hcz12_2
          try clear hcz13_0
          try clear hcz13_1
          try clear hcz13_2
          try clear hcz16_0
          try clear hcz16_1
          try clear hcz16_2
          try clear hcz17_0
          try clear hcz17_1
          try clear hcz17_2
          try clear hcz21_0
          try clear hcz21_1
          try clear hcz21_2
          try clear hcz25_0
          try clear hcz25_1
          try clear hcz25_2
          try clear hcz26_0
          try clear hcz26_1
          try clear hcz26_2
          try clear hcz29_0
          try clear hcz29_1
          try clear hcz29_2
          try clear hcz33_0
          try clear hcz33_1
          try clear hcz33_2
          try clear hcz8_0
          try clear hcz8_1
          try clear hcz8_2
          try clear hfz12_0
          try clear hfz12_1
          try clear hfz12_2
          try clear hfz13_0
          try clear hfz13_1
          try clear hfz13_2
          try clear hfz16_0
          try clear hfz16_1
          try clear hfz16_2
          try clear hfz17_0
          try clear hfz17_1
          try clear hfz17_2
          try clear hfz21_0
          try clear hfz21_1
          try clear hfz21_2
          try clear hfz25_0
          try clear hfz25_1
          try clear hfz25_2
          try clear hfz26_0
          try clear hfz26_1
          try clear hfz26_2
          try clear hfz29_0
          try clear hfz29_1
          try clear hfz29_2
          try clear hfz33_0
          try clear hfz33_1
          try clear hfz33_2
          try clear hfz8_0
          try clear hfz8_1
          try clear hfz8_2
          try clear p2
          obtain ⟨x8_2, x244002_2, rfl, HA, HK2, HO_244002, BK241, BK242, BK243, HB⟩ := hrel
          have hl244002_2 := (Kd.R_reads' HO_244002.out).1
          rw [hl244002_2] at HO_244002
          (try simp only [hl244002_2])
          (try simp only [hl244002_2] at BK241)
          (try simp only [hl244002_2] at BK242)
          (try simp only [hl244002_2] at BK243)
          cases gk with
          | zero => exact absurd HA.out (by simp [spec_l13Smooth.l1])
          | succ k2 =>
            have H := HA.out
            clear HA
            simp only [spec_l13Smooth.l1] at H
            by_cases c34 : (wrap64 (x8_2 + 1)) < a0_0
            rotate_left
            · rw [if_neg c34] at H
              have c34b0 : decide ((wrap64 (x8_2 + 1)) < a0_0) = false := decide_eq_false c34
              clear c34
              have H' := Aside0.mk H
              clear H
              have hnb57 := NB241_242.out
              have hnc57 := NB242_241.out
              have hnb58 := NB241_243.out
              have hnc58 := NB243_241.out
              have hcz59_0 : wr.cell? ⟨gb241, 0, none⟩ = some (.int .i64 a0_0) := (blk_cell BK241.out 0).trans rfl
              have hcz59_1 : wr.cell? ⟨gb241, 1, none⟩ = some (.int .i64 a0_1) := (blk_cell BK241.out 1).trans rfl
              have hcz59_2 : wr.cell? ⟨gb241, 2, none⟩ = some (.slice A0_2 l0_2.length c0_2) := (blk_cell BK241.out 2).trans rfl
              have hfz59_0 := blk_frozen BK241.out 0
              have hfz59_1 := blk_frozen BK241.out 1
              have hfz59_2 := blk_frozen BK241.out 2
              go_wp2
              repeat (go_quiet (fail); try go_wp2)
              (try simp only [← hl244002_1, ← hl244002_2])
              go_roundg k2
              case measure => have := HK1.out; have := HK2.out; omega
              case rel => exact ⟨(wrap64 (x7_1 + 1)), (x244002_2), (by first | rfl | (simp; done) | (simp [*]; done)), H', ⟨by have := HK1.out; have := HK2.out; omega⟩, ⟨by (try simp only [hl244002_1]); (try simp only [hl244002_2]); (with_reducible repeat (first | apply Kd.R_alloc | apply Kd.R_drewN | apply Kd.R_drew)); exact HO_244002.out⟩, ⟨by (try simp only [hl244002_1]); (try simp only [hl244002_2]); (with_reducible repeat (first | refine blk_drewN ?_ _ | refine blk_drew ?_ | refine blk_alloc ?_ _)); exact BK241.out⟩, ⟨by (try simp only [hl244002_1]); (try simp only [hl244002_2]); (with_reducible repeat (first | refine blk_drewN ?_ _ | refine blk_drew ?_ | refine blk_alloc ?_ _)); exact BK242.out⟩, ⟨by (try simp only [hl244002_1]); (try simp only [hl244002_2]); (with_reducible repeat (first | refine blk_drewN ?_ _ | refine blk_drew ?_ | refine blk_alloc ?_ _)); exact BK243.out⟩, ⟨by repeat (first | (with_reducible first | exact HB.out | apply below_alloc | apply pw_below_drewN | apply below_drew1 | refine below_set ?_ GE241.out | refine below_set ?_ GE242.out | refine below_set ?_ GE243.out) | exact HB.out)⟩⟩
            rw [if_pos c34] at H
            have c34b0 : decide ((wrap64 (x8_2 + 1)) < a0_0) = true := decide_eq_true c34
            clear c34
            obtain ⟨ji35, hji35⟩ : ∃ j_ : Int, (wrap64 ((wrap64 ((wrap64 (x7_1 * a0_0)) + x8_2)) - 2)) = j_ := ⟨_, rfl⟩
            replace H : (if 0 ≤ (ji35) then (if (ji35) < (x244002_2.length : Int) then (if 0 ≤ (wrap64 ((wrap64 ((wrap64 (x7_1 * a0_0)) + x8_2)) - 1)) then (if (wrap64 ((wrap64 ((wrap64 (x7_1 * a0_0)) + x8_2)) - 1)) < (x244002_2.length : Int) then (if 0 ≤ (wrap64 ((wrap64 (x7_1 * a0_0)) + x8_2)) then (if (wrap64 ((wrap64 (x7_1 * a0_0)) + x8_2)) < (x244002_2.length : Int) then (if 0 ≤ (wrap64 ((wrap64 ((wrap64 (x7_1 * a0_0)) + x8_2)) + 1)) then (if (wrap64 ((wrap64 ((wrap64 (x7_1 * a0_0)) + x8_2)) + 1)) < (x244002_2.length : Int) then ((spec_l13Edge.f k2 (rd x244002_2 (ji35)) (rd x244002_2 (wrap64 ((wrap64 ((wrap64 (x7_1 * a0_0)) + x8_2)) - 1))) (rd x244002_2 (wrap64 ((wrap64 (x7_1 * a0_0)) + x8_2))) (rd x244002_2 (wrap64 ((wrap64 ((wrap64 (x7_1 * a0_0)) + x8_2)) + 1))) a1).bind fun bt251 => (spec_l13Smooth.l1 k2 a1 x7_1 (wrap64 (x8_2 + 4)) a0_0 a0_1 l0_2 a0_0 a0_1 ((x244002_2.set ((wrap64 ((wrap64 ((wrap64 (x7_1 * a0_0)) + x8_2)) - 1)) : Int).toNat bt251.1).set ((wrap64 ((wrap64 (x7_1 * a0_0)) + x8_2)) : Int).toNat bt251.2))) else (none)) else (none)) else (none)) else (none)) else (none)) else (none)) else (none)) else (none)) = some (r1, r2, r3) := by first | (rw [hji35] at H; exact H) | (simp only [hji35] at H ⊢; exact H)
            have hji35w : (IntKind.i64.wrap ((wrap64 ((wrap64 (x7_1 * a0_0)) + x8_2)) - 2)) = ji35 := (i64_w _).trans hji35
            by_cases c36 : 0 ≤ (ji35)
            rotate_left
            · rw [if_neg c36] at H
              exact absurd H (by simp)
            rw [if_pos c36] at H
            have c36b0 : decide (0 ≤ (ji35)) = true := decide_eq_true c36
            clear c36
            by_cases c37 : (ji35) < (x244002_2.length : Int)
            rotate_left
            · rw [if_neg c37] at H
              exact absurd H (by simp)
            rw [if_pos c37] at H
            have c37b0 : decide ((ji35) < (x244002_2.length : Int)) = true := decide_eq_true c37
            (try simp only [hl244002_1] at c37b0)
            (try simp only [hl244002_2] at c37b0)
            clear c37
            obtain ⟨ji38, hji38⟩ : ∃ j_ : Int, (wrap64 ((wrap64 ((wrap64 (x7_1 * a0_0)) + x8_2)) - 1)) = j_ := ⟨_, rfl⟩
            replace H : (if 0 ≤ (ji38) then (if (ji38) < (x244002_2.length : Int) then (if 0 ≤ (wrap64 ((wrap64 (x7_1 * a0_0)) + x8_2)) then (if (wrap64 ((wrap64 (x7_1 * a0_0)) + x8_2)) < (x244002_2.length : Int) then (if 0 ≤ (wrap64 ((wrap64 ((wrap64 (x7_1 * a0_0)) + x8_2)) + 1)) then (if (wrap64 ((wrap64 ((wrap64 (x7_1 * a0_0)) + x8_2)) + 1)) < (x244002_2.length : Int) then ((spec_l13Edge.f k2 (rd x244002_2 (ji35)) (rd x244002_2 (ji38)) (rd x244002_2 (wrap64 ((wrap64 (x7_1 * a0_0)) + x8_2))) (rd x244002_2 (wrap64 ((wrap64 ((wrap64 (x7_1 * a0_0)) + x8_2)) + 1))) a1).bind fun bt251 => (spec_l13Smooth.l1 k2 a1 x7_1 (wrap64 (x8_2 + 4)) a0_0 a0_1 l0_2 a0_0 a0_1 ((x244002_2.set ((ji38) : Int).toNat bt251.1).set ((wrap64 ((wrap64 (x7_1 * a0_0)) + x8_2)) : Int).toNat bt251.2))) else (none)) else (none)) else (none)) else (none)) else (none)) else (none)) = some (r1, r2, r3) := by first | (rw [hji38] at H; exact H) | (simp only [hji38] at H ⊢; exact H)
            have hji38w : (IntKind.i64.wrap ((wrap64 ((wrap64 (x7_1 * a0_0)) + x8_2)) - 1)) = ji38 := (i64_w _).trans hji38
            by_cases c39 : 0 ≤ (ji38)
            rotate_left
            · rw [if_neg c39] at H
              exact absurd H (by simp)
            rw [if_pos c39] at H
            have c39b0 : decide (0 ≤ (ji38)) = true := decide_eq_true c39
            clear c39
            by_cases c40 : (ji38) < (x244002_2.length : Int)
            rotate_left
            · rw [if_neg c40] at H
              exact absurd H (by simp)
            rw [if_pos c40] at H
            have c40b0 : decide ((ji38) < (x244002_2.length : Int)) = true := decide_eq_true c40
            (try simp only [hl244002_1] at c40b0)
            (try simp only [hl244002_2] at c40b0)
            clear c40
            obtain ⟨ji41, hji41⟩ : ∃ j_ : Int, (wrap64 ((wrap64 (x7_1 * a0_0)) + x8_2)) = j_ := ⟨_, rfl⟩
            have hji35xji41 : wrap64 (ji41 - 2) = ji35 := by rw [← hji41]; exact hji35
            have hji38xji41 : wrap64 (ji41 - 1) = ji38 := by rw [← hji41]; exact hji38
            replace H : (if 0 ≤ (ji41) then (if (ji41) < (x244002_2.length : Int) then (if 0 ≤ (wrap64 ((ji41) + 1)) then (if (wrap64 ((ji41) + 1)) < (x244002_2.length : Int) then ((spec_l13Edge.f k2 (rd x244002_2 (ji35)) (rd x244002_2 (ji38)) (rd x244002_2 (ji41)) (rd x244002_2 (wrap64 ((ji41) + 1))) a1).bind fun bt251 => (spec_l13Smooth.l1 k2 a1 x7_1 (wrap64 (x8_2 + 4)) a0_0 a0_1 l0_2 a0_0 a0_1 ((x244002_2.set ((ji38) : Int).toNat bt251.1).set ((ji41) : Int).toNat bt251.2))) else (none)) else (none)) else (none)) else (none)) = some (r1, r2, r3) := by first | (rw [hji41] at H; exact H) | (simp only [hji41] at H ⊢; exact H)
            have hji41w : (IntKind.i64.wrap ((wrap64 (x7_1 * a0_0)) + x8_2)) = ji41 := (i64_w _).trans hji41
            by_cases c42 : 0 ≤ (ji41)
            rotate_left
            · rw [if_neg c42] at H
              exact absurd H (by simp)
            rw [if_pos c42] at H
            have c42b0 : decide (0 ≤ (ji41)) = true := decide_eq_true c42
            clear c42
            by_cases c43 : (ji41) < (x244002_2.length : Int)
            rotate_left
            · rw [if_neg c43] at H
              exact absurd H (by simp)
            rw [if_pos c43] at H
            have c43b0 : decide ((ji41) < (x244002_2.length : Int)) = true := decide_eq_true c43
            (try simp only [hl244002_1] at c43b0)
            (try simp only [hl244002_2] at c43b0)
            clear c43
            obtain ⟨ji44, hji44⟩ : ∃ j_ : Int, (wrap64 ((ji41) + 1)) = j_ := ⟨_, rfl⟩
            replace H : (if 0 ≤ (ji44) then (if (ji44) < (x244002_2.length : Int) then ((spec_l13Edge.f k2 (rd x244002_2 (ji35)) (rd x244002_2 (ji38)) (rd x244002_2 (ji41)) (rd x244002_2 (ji44)) a1).bind fun bt251 => (spec_l13Smooth.l1 k2 a1 x7_1 (wrap64 (x8_2 + 4)) a0_0 a0_1 l0_2 a0_0 a0_1 ((x244002_2.set ((ji38) : Int).toNat bt251.1).set ((ji41) : Int).toNat bt251.2))) else (none)) else (none)) = some (r1, r2, r3) := by first | (rw [hji44] at H; exact H) | (simp only [hji44] at H ⊢; exact H)
            have hji44w : (IntKind.i64.wrap ((ji41) + 1)) = ji44 := (i64_w _).trans hji44
            by_cases c45 : 0 ≤ (ji44)
            rotate_left
            · rw [if_neg c45] at H
              exact absurd H (by simp)
            rw [if_pos c45] at H
            have c45b0 : decide (0 ≤ (ji44)) = true := decide_eq_true c45
            clear c45
            by_cases c46 : (ji44) < (x244002_2.length : Int)
            rotate_left
            · rw [if_neg c46] at H
              exact absurd H (by simp)
            rw [if_pos c46] at H
            have c46b0 : decide ((ji44) < (x244002_2.length : Int)) = true := decide_eq_true c46
            (try simp only [hl244002_1] at c46b0)
            (try simp only [hl244002_2] at c46b0)
            clear c46
            replace H := Option.bind_eq_some_iff.mp H
            obtain ⟨⟨t251, t252⟩, A470, H⟩ := H
            replace H : (spec_l13Smooth.l1 k2 a1 x7_1 (wrap64 (x8_2 + 4)) a0_0 a0_1 l0_2 a0_0 a0_1 ((x244002_2.set ((ji38) : Int).toNat t251).set ((ji41) : Int).toNat t252)) = some (r1, r2, r3) := H
            have A47 := Aside0.mk A470
            clear A470
            obtain ⟨y253, hy253⟩ : ∃ y_ : List Int, y_ = (x244002_2.set ((ji38) : Int).toNat t251) := ⟨_, rfl⟩
            replace H : (spec_l13Smooth.l1 k2 a1 x7_1 (wrap64 (x8_2 + 4)) a0_0 a0_1 l0_2 a0_0 a0_1 (y253.set ((ji41) : Int).toNat t252)) = some (r1, r2, r3) := by first | (rw [hy253]; with_reducible exact H) | (have H2_ := (Option.bind_some _ _).symm.trans H; rw [hy253]; with_reducible exact H2_) | (have H2_ := (Option.bind_some _ _).symm.trans H; with_reducible exact H2_) | with_reducible exact H | (rw [hy253]; exact H) | exact H
            have Ny253 := Aside0.mk hy253
            clear hy253
            obtain ⟨y254, hy254⟩ : ∃ y_ : List Int, y_ = (y253.set ((ji41) : Int).toNat t252) := ⟨_, rfl⟩
            replace H : (spec_l13Smooth.l1 k2 a1 x7_1 (wrap64 (x8_2 + 4)) a0_0 a0_1 l0_2 a0_0 a0_1 y254) = some (r1, r2, r3) := by first | (rw [hy254]; with_reducible exact H) | (have H2_ := (Option.bind_some _ _).symm.trans H; rw [hy254]; with_reducible exact H2_) | (have H2_ := (Option.bind_some _ _).symm.trans H; with_reducible exact H2_) | with_reducible exact H | (rw [hy254]; exact H) | exact H
            have Ny254 := Aside0.mk hy254
            clear hy254
            have H' := Aside0.mk H
            clear H
            have hnb50 := NB241_242.out
            have hnc50 := NB242_241.out
            have hnb51 := NB241_243.out
            have hnc51 := NB243_241.out
            have hcz52_0 : wr.cell? ⟨gb241, 0, none⟩ = some (.int .i64 a0_0) := (blk_cell BK241.out 0).trans rfl
            have hcz52_1 : wr.cell? ⟨gb241, 1, none⟩ = some (.int .i64 a0_1) := (blk_cell BK241.out 1).trans rfl
            have hcz52_2 : wr.cell? ⟨gb241, 2, none⟩ = some (.slice A0_2 l0_2.length c0_2) := (blk_cell BK241.out 2).trans rfl
            have hfz52_0 := blk_frozen BK241.out 0
            have hfz52_1 := blk_frozen BK241.out 1
            have hfz52_2 := blk_frozen BK241.out 2
            have p247 : 0 ≤ ((ji35) : Int) := of_decide_eq_true (by first | (with_reducible assumption) | assumption)
            have q247 : (ji35) < (x244002_2.length : Int) := of_decide_eq_true (by first | (with_reducible assumption) | assumption)
            obtain ⟨ad247, e247, hx247_0⟩ := Kd.at_int (Kd.R_reads' HO_244002.out).2.2 (ji35) p247 q247
            cases e247
            replace p247 := eq_true p247
            replace q247 := eq_true q247
            have p248 : 0 ≤ ((ji38) : Int) := of_decide_eq_true (by first | (with_reducible assumption) | assumption)
            have q248 : (ji38) < (x244002_2.length : Int) := of_decide_eq_true (by first | (with_reducible assumption) | assumption)
            obtain ⟨ad248, e248, hx248_0⟩ := Kd.at_int (Kd.R_reads' HO_244002.out).2.2 (ji38) p248 q248
            obtain rfl : ad247 = ad248 := (by injection e248)
            replace p248 := eq_true p248
            replace q248 := eq_true q248
            have p249 : 0 ≤ ((ji41) : Int) := of_decide_eq_true (by first | (with_reducible assumption) | assumption)
            have q249 : (ji41) < (x244002_2.length : Int) := of_decide_eq_true (by first | (with_reducible assumption) | assumption)
            obtain ⟨ad249, e249, hx249_0⟩ := Kd.at_int (Kd.R_reads' HO_244002.out).2.2 (ji41) p249 q249
            obtain rfl : ad247 = ad249 := (by injection e249)
            replace p249 := eq_true p249
            replace q249 := eq_true q249
            have p250 : 0 ≤ ((ji44) : Int) := of_decide_eq_true (by first | (with_reducible assumption) | assumption)
            have q250 : (ji44) < (x244002_2.length : Int) := of_decide_eq_true (by first | (with_reducible assumption) | assumption)
            obtain ⟨ad250, e250, hx250_0⟩ := Kd.at_int (Kd.R_reads' HO_244002.out).2.2 (ji44) p250 q250
            obtain rfl : ad247 = ad250 := (by injection e250)
            replace p250 := eq_true p250
            replace q250 := eq_true q250
            have p48 : 0 ≤ ((ji38) : Int) := of_decide_eq_true (by first | (with_reducible assumption) | assumption); have q48 : ((ji38) : Int) < ((x244002_2.length : Int) : Int) := of_decide_eq_true (by first | (with_reducible assumption) | assumption); obtain ⟨go48, co48, eo48, gb48, gl48, cl48, HG48⟩ := Kd.R_form HO_244002.out (by omega); (first | cases eo48 | (injection eo48 with ea_ en_ ec_; (first | subst ea_ | (injection ea_ with ea_; subst ea_)); subst ec_; clear en_)); have GB48 := Aside0.mk gb48; have GG48 := Aside0.mk HG48; clear gb48 gl48 HG48; (first | simp only [add_plain] at hx247_0 | skip); (first | simp only [add_plain] at hx248_0 | skip); (first | simp only [add_plain] at hx249_0 | skip); (first | simp only [add_plain] at hx250_0 | skip); obtain ⟨hx48_0, hf48_0⟩ := Kd.R_celln 0 HO_244002.out ((ji38) : Int) p48 q48; replace p48 := eq_true p48; replace q48 := eq_true q48; obtain ⟨hy53_, hz53_⟩ := Kd.R_celln 0 HO_244002.out ((ji38) : Int) (of_decide_eq_true (by first | (with_reducible assumption) | assumption)) (of_decide_eq_true (by first | (with_reducible assumption) | assumption)); have HP53 := Kd.R_putg HO_244002.out ((ji38) : Int) t251
            iterate 3 (try go_wp2_with (first | (go_at_call 154; (with_reducible refine (spec_l13Edge.calls k2 (rd x244002_2 (ji35)) (rd x244002_2 (ji38)) (rd x244002_2 (ji41)) (rd x244002_2 (ji44)) a1 t251 t252 _ A47.out).mono ?_); rintro e w' ⟨rfl, ⟨nd, rfl⟩⟩; (try first | exact ⟨rfl, _, World.drewN_drewN _ _ _⟩ | exact ⟨rfl, _, Eq.trans (World.drewN_drewN _ _ _) (congrArg (World.drewN _) (Nat.add_assoc _ _ _))⟩)) | ((with_reducible refine gate_store (t := 3) (p := 81) rfl ?_); (try (rw [drewN_self wr]; generalize hq_ : World.drewN wr _ = wr; have n0_ := Aside0.mk (Kd.R_at hq_ HO_244002.out); have n1_ := Aside0.mk (blk_at hq_ BK241.out); have n2_ := Aside0.mk (blk_at hq_ BK242.out); have n3_ := Aside0.mk (blk_at hq_ BK243.out); have n4_ := Aside0.mk (below_at hq_ HB.out); clear hq_ HO_244002 BK241 BK242 BK243 HB; have HO_244002 := n0_; have BK241 := n1_; have BK242 := n2_; have BK243 := n3_; have HB := n4_; clear n0_ n1_ n2_ n3_ n4_; (try (obtain ⟨hy53_, hz53_⟩ := Kd.R_celln 0 HO_244002.out ((ji38) : Int) (of_decide_eq_true (by first | (with_reducible assumption) | assumption)) (of_decide_eq_true (by first | (with_reducible assumption) | assumption)))); (try (have HP53 := Kd.R_putg HO_244002.out ((ji38) : Int) t251)))); refine store_event (t := 3) (p := 81) (v := ?vo_w54) (w1 := (wr.setCell ⟨go48, ((ji38) : Int).toNat, none⟩ (.int .i64 t251))) ?hg ?ho ?hn ?hr ?_; (case ho => rfl); (case hg => rfl); (case hn => rfl); (case hr => first | (go_simp; done) | (go_simp; rfl)); intro w54 hw; have hg : wr.grownBy w54 (some go48) := (by rw [hw]; exact HP53.2); have hp_ : Kd.R (Kd.int .i64) 3 w54 w.heap.size (fun _ => True) (.slice (some ⟨go48, 0, none⟩) x244002_2.length co28) y253 := (by rw [hw, Ny253.out]; exact HP53.1); clear HP53; have n0_ := Aside0.mk (hp_); have n1_ := Aside0.mk (blk_grown (g := gb241) (o := .cells #[.int .i64 a0_0, .int .i64 a0_1, .slice A0_2 l0_2.length c0_2] 66 (0, 0)) (by (with_reducible repeat (first | refine blk_drewN ?_ _ | refine blk_drew ?_ | refine blk_alloc ?_ _)); exact BK241.out) hg (Kd.R_ne HO_244002.out BK241.out (by decide))); have n2_ := Aside0.mk (blk_grown (g := gb242) (o := .cells #[.int .i64 0, .int .i64 0, .slice none 0 0] 66 (0, 0)) (by (with_reducible repeat (first | refine blk_drewN ?_ _ | refine blk_drew ?_ | refine blk_alloc ?_ _)); exact BK242.out) hg (Kd.R_ne HO_244002.out BK242.out (by decide))); have n3_ := Aside0.mk (blk_grown (g := gb243) (o := .cells #[.int .i64 a0_0, .int .i64 a0_1, .slice (some ⟨go48, 0, none⟩) x244002_2.length co28] 66 (0, 0)) (by (with_reducible repeat (first | refine blk_drewN ?_ _ | refine blk_drew ?_ | refine blk_alloc ?_ _)); exact BK243.out) hg (Kd.R_ne HO_244002.out BK243.out (by decide))); have n4_ := Aside0.mk ((by rw [hw]; exact below_set (HB.out) GB48.out : Below w.heap.size w w54)); clear HO_244002; clear BK241; clear BK242; clear BK243; clear HB; have HO_244002 := n0_; have BK241 := n1_; have BK242 := n2_; have BK243 := n3_; have HB := n4_; clear n0_ n1_ n2_ n3_ n4_; clear hg hw hp_; have p49 : 0 ≤ ((ji41) : Int) := of_decide_eq_true (by first | (with_reducible assumption) | assumption); have q49 : ((ji41) : Int) < ((x244002_2.length : Int) : Int) := of_decide_eq_true (by first | (with_reducible assumption) | assumption); obtain ⟨hx49_0, hf49_0⟩ := Kd.R_celln 0 HO_244002.out ((ji41) : Int) p49 q49; replace p49 := eq_true p49; replace q49 := eq_true q49; obtain ⟨hy55_, hz55_⟩ := Kd.R_celln 0 HO_244002.out ((ji41) : Int) (of_decide_eq_true (by first | (with_reducible assumption) | assumption)) (of_decide_eq_true (by first | (with_reducible assumption) | assumption)); have HP55 := Kd.R_putg HO_244002.out ((ji41) : Int) t252) | ((with_reducible refine gate_store (t := 3) (p := 85) rfl ?_); (try (rw [drewN_self w54]; generalize hq_ : World.drewN w54 _ = w54; have n0_ := Aside0.mk (Kd.R_at hq_ HO_244002.out); have n1_ := Aside0.mk (blk_at hq_ BK241.out); have n2_ := Aside0.mk (blk_at hq_ BK242.out); have n3_ := Aside0.mk (blk_at hq_ BK243.out); have n4_ := Aside0.mk (below_at hq_ HB.out); clear hq_ HO_244002 BK241 BK242 BK243 HB; have HO_244002 := n0_; have BK241 := n1_; have BK242 := n2_; have BK243 := n3_; have HB := n4_; clear n0_ n1_ n2_ n3_ n4_; (try (obtain ⟨hy55_, hz55_⟩ := Kd.R_celln 0 HO_244002.out ((ji41) : Int) (of_decide_eq_true (by first | (with_reducible assumption) | assumption)) (of_decide_eq_true (by first | (with_reducible assumption) | assumption)))); (try (have HP55 := Kd.R_putg HO_244002.out ((ji41) : Int) t252)))); refine store_event (t := 3) (p := 85) (v := ?vo_w56) (w1 := (w54.setCell ⟨go48, ((ji41) : Int).toNat, none⟩ (.int .i64 t252))) ?hg ?ho ?hn ?hr ?_; (case ho => rfl); (case hg => rfl); (case hn => rfl); (case hr => first | (go_simp; done) | (go_simp; rfl)); intro w56 hw; have hg : w54.grownBy w56 (some go48) := (by rw [hw]; exact HP55.2); have hp_ : Kd.R (Kd.int .i64) 3 w56 w.heap.size (fun _ => True) (.slice (some ⟨go48, 0, none⟩) x244002_2.length co28) y254 := (by rw [hw, Ny254.out]; exact HP55.1); clear HP55; have n0_ := Aside0.mk (hp_); have n1_ := Aside0.mk (blk_grown (g := gb241) (o := .cells #[.int .i64 a0_0, .int .i64 a0_1, .slice A0_2 l0_2.length c0_2] 66 (0, 0)) (by (with_reducible repeat (first | refine blk_drewN ?_ _ | refine blk_drew ?_ | refine blk_alloc ?_ _)); exact BK241.out) hg (Kd.R_ne HO_244002.out BK241.out (by decide))); have n2_ := Aside0.mk (blk_grown (g := gb242) (o := .cells #[.int .i64 0, .int .i64 0, .slice none 0 0] 66 (0, 0)) (by (with_reducible repeat (first | refine blk_drewN ?_ _ | refine blk_drew ?_ | refine blk_alloc ?_ _)); exact BK242.out) hg (Kd.R_ne HO_244002.out BK242.out (by decide))); have n3_ := Aside0.mk (blk_grown (g := gb243) (o := .cells #[.int .i64 a0_0, .int .i64 a0_1, .slice (some ⟨go48, 0, none⟩) x244002_2.length co28] 66 (0, 0)) (by (with_reducible repeat (first | refine blk_drewN ?_ _ | refine blk_drew ?_ | refine blk_alloc ?_ _)); exact BK243.out) hg (Kd.R_ne HO_244002.out BK243.out (by decide))); have n4_ := Aside0.mk ((by rw [hw]; exact below_set (HB.out) GB48.out : Below w.heap.size w w56)); clear HO_244002; clear BK241; clear BK242; clear BK243; clear HB; have HO_244002 := n0_; have BK241 := n1_; have BK242 := n2_; have BK243 := n3_; have HB := n4_; clear n0_ n1_ n2_ n3_ n4_; clear hg hw hp_)); try go_quiet (first | (go_at_call 154; (with_reducible refine (spec_l13Edge.calls k2 (rd x244002_2 (ji35)) (rd x244002_2 (ji38)) (rd x244002_2 (ji41)) (rd x244002_2 (ji44)) a1 t251 t252 _ A47.out).mono ?_); rintro e w' ⟨rfl, ⟨nd, rfl⟩⟩; (try first | exact ⟨rfl, _, World.drewN_drewN _ _ _⟩ | exact ⟨rfl, _, Eq.trans (World.drewN_drewN _ _ _) (congrArg (World.drewN _) (Nat.add_assoc _ _ _))⟩)) | ((with_reducible refine gate_store (t := 3) (p := 81) rfl ?_); (try (rw [drewN_self wr]; generalize hq_ : World.drewN wr _ = wr; have n0_ := Aside0.mk (Kd.R_at hq_ HO_244002.out); have n1_ := Aside0.mk (blk_at hq_ BK241.out); have n2_ := Aside0.mk (blk_at hq_ BK242.out); have n3_ := Aside0.mk (blk_at hq_ BK243.out); have n4_ := Aside0.mk (below_at hq_ HB.out); clear hq_ HO_244002 BK241 BK242 BK243 HB; have HO_244002 := n0_; have BK241 := n1_; have BK242 := n2_; have BK243 := n3_; have HB := n4_; clear n0_ n1_ n2_ n3_ n4_; (try (obtain ⟨hy53_, hz53_⟩ := Kd.R_celln 0 HO_244002.out ((ji38) : Int) (of_decide_eq_true (by first | (with_reducible assumption) | assumption)) (of_decide_eq_true (by first | (with_reducible assumption) | assumption)))); (try (have HP53 := Kd.R_putg HO_244002.out ((ji38) : Int) t251)))); refine store_event (t := 3) (p := 81) (v := ?vo_w54) (w1 := (wr.setCell ⟨go48, ((ji38) : Int).toNat, none⟩ (.int .i64 t251))) ?hg ?ho ?hn ?hr ?_; (case ho => rfl); (case hg => rfl); (case hn => rfl); (case hr => first | (go_simp; done) | (go_simp; rfl)); intro w54 hw; have hg : wr.grownBy w54 (some go48) := (by rw [hw]; exact HP53.2); have hp_ : Kd.R (Kd.int .i64) 3 w54 w.heap.size (fun _ => True) (.slice (some ⟨go48, 0, none⟩) x244002_2.length co28) y253 := (by rw [hw, Ny253.out]; exact HP53.1); clear HP53; have n0_ := Aside0.mk (hp_); have n1_ := Aside0.mk (blk_grown (g := gb241) (o := .cells #[.int .i64 a0_0, .int .i64 a0_1, .slice A0_2 l0_2.length c0_2] 66 (0, 0)) (by (with_reducible repeat (first | refine blk_drewN ?_ _ | refine blk_drew ?_ | refine blk_alloc ?_ _)); exact BK241.out) hg (Kd.R_ne HO_244002.out BK241.out (by decide))); have n2_ := Aside0.mk (blk_grown (g := gb242) (o := .cells #[.int .i64 0, .int .i64 0, .slice none 0 0] 66 (0, 0)) (by (with_reducible repeat (first | refine blk_drewN ?_ _ | refine blk_drew ?_ | refine blk_alloc ?_ _)); exact BK242.out) hg (Kd.R_ne HO_244002.out BK242.out (by decide))); have n3_ := Aside0.mk (blk_grown (g := gb243) (o := .cells #[.int .i64 a0_0, .int .i64 a0_1, .slice (some ⟨go48, 0, none⟩) x244002_2.length co28] 66 (0, 0)) (by (with_reducible repeat (first | refine blk_drewN ?_ _ | refine blk_drew ?_ | refine blk_alloc ?_ _)); exact BK243.out) hg (Kd.R_ne HO_244002.out BK243.out (by decide))); have n4_ := Aside0.mk ((by rw [hw]; exact below_set (HB.out) GB48.out : Below w.heap.size w w54)); clear HO_244002; clear BK241; clear BK242; clear BK243; clear HB; have HO_244002 := n0_; have BK241 := n1_; have BK242 := n2_; have BK243 := n3_; have HB := n4_; clear n0_ n1_ n2_ n3_ n4_; clear hg hw hp_; have p49 : 0 ≤ ((ji41) : Int) := of_decide_eq_true (by first | (with_reducible assumption) | assumption); have q49 : ((ji41) : Int) < ((x244002_2.length : Int) : Int) := of_decide_eq_true (by first | (with_reducible assumption) | assumption); obtain ⟨hx49_0, hf49_0⟩ := Kd.R_celln 0 HO_244002.out ((ji41) : Int) p49 q49; replace p49 := eq_true p49; replace q49 := eq_true q49; obtain ⟨hy55_, hz55_⟩ := Kd.R_celln 0 HO_244002.out ((ji41) : Int) (of_decide_eq_true (by first | (with_reducible assumption) | assumption)) (of_decide_eq_true (by first | (with_reducible assumption) | assumption)); have HP55 := Kd.R_putg HO_244002.out ((ji41) : Int) t252) | ((with_reducible refine gate_store (t := 3) (p := 85) rfl ?_); (try (rw [drewN_self w54]; generalize hq_ : World.drewN w54 _ = w54; have n0_ := Aside0.mk (Kd.R_at hq_ HO_244002.out); have n1_ := Aside0.mk (blk_at hq_ BK241.out); have n2_ := Aside0.mk (blk_at hq_ BK242.out); have n3_ := Aside0.mk (blk_at hq_ BK243.out); have n4_ := Aside0.mk (below_at hq_ HB.out); clear hq_ HO_244002 BK241 BK242 BK243 HB; have HO_244002 := n0_; have BK241 := n1_; have BK242 := n2_; have BK243 := n3_; have HB := n4_; clear n0_ n1_ n2_ n3_ n4_; (try (obtain ⟨hy55_, hz55_⟩ := Kd.R_celln 0 HO_244002.out ((ji41) : Int) (of_decide_eq_true (by first | (with_reducible assumption) | assumption)) (of_decide_eq_true (by first | (with_reducible assumption) | assumption)))); (try (have HP55 := Kd.R_putg HO_244002.out ((ji41) : Int) t252)))); refine store_event (t := 3) (p := 85) (v := ?vo_w56) (w1 := (w54.setCell ⟨go48, ((ji41) : Int).toNat, none⟩ (.int .i64 t252))) ?hg ?ho ?hn ?hr ?_; (case ho => rfl); (case hg => rfl); (case hn => rfl); (case hr => first | (go_simp; done) | (go_simp; rfl)); intro w56 hw; have hg : w54.grownBy w56 (some go48) := (by rw [hw]; exact HP55.2); have hp_ : Kd.R (Kd.int .i64) 3 w56 w.heap.size (fun _ => True) (.slice (some ⟨go48, 0, none⟩) x244002_2.length co28) y254 := (by rw [hw, Ny254.out]; exact HP55.1); clear HP55; have n0_ := Aside0.mk (hp_); have n1_ := Aside0.mk (blk_grown (g := gb241) (o := .cells #[.int .i64 a0_0, .int .i64 a0_1, .slice A0_2 l0_2.length c0_2] 66 (0, 0)) (by (with_reducible repeat (first | refine blk_drewN ?_ _ | refine blk_drew ?_ | refine blk_alloc ?_ _)); exact BK241.out) hg (Kd.R_ne HO_244002.out BK241.out (by decide))); have n2_ := Aside0.mk (blk_grown (g := gb242) (o := .cells #[.int .i64 0, .int .i64 0, .slice none 0 0] 66 (0, 0)) (by (with_reducible repeat (first | refine blk_drewN ?_ _ | refine blk_drew ?_ | refine blk_alloc ?_ _)); exact BK242.out) hg (Kd.R_ne HO_244002.out BK242.out (by decide))); have n3_ := Aside0.mk (blk_grown (g := gb243) (o := .cells #[.int .i64 a0_0, .int .i64 a0_1, .slice (some ⟨go48, 0, none⟩) x244002_2.length co28] 66 (0, 0)) (by (with_reducible repeat (first | refine blk_drewN ?_ _ | refine blk_drew ?_ | refine blk_alloc ?_ _)); exact BK243.out) hg (Kd.R_ne HO_244002.out BK243.out (by decide))); have n4_ := Aside0.mk ((by rw [hw]; exact below_set (HB.out) GB48.out : Below w.heap.size w w56)); clear HO_244002; clear BK241; clear BK242; clear BK243; clear HB; have HO_244002 := n0_; have BK241 := n1_; have BK242 := n2_; have BK243 := n3_; have HB := n4_; clear n0_ n1_ n2_ n3_ n4_; clear hg hw hp_)))
            (try simp only [← hl244002_2])
            go_roundg k2
            case measure => have := HK1.out; have := HK2.out; omega
            case rel => exact ⟨(wrap64 (x8_2 + 4)), (y254), (by first | rfl | (simp; done) | (simp [*]; done)), H', ⟨by have := HK1.out; have := HK2.out; omega⟩, ⟨by (try simp only [hl244002_1]); (try simp only [hl244002_2]); (with_reducible repeat (first | apply Kd.R_alloc | apply Kd.R_drewN | apply Kd.R_drew)); exact HO_244002.out⟩, ⟨by (try simp only [hl244002_1]); (try simp only [hl244002_2]); (with_reducible repeat (first | refine blk_drewN ?_ _ | refine blk_drew ?_ | refine blk_alloc ?_ _)); exact BK241.out⟩, ⟨by (try simp only [hl244002_1]); (try simp only [hl244002_2]); (with_reducible repeat (first | refine blk_drewN ?_ _ | refine blk_drew ?_ | refine blk_alloc ?_ _)); exact BK242.out⟩, ⟨by (try simp only [hl244002_1]); (try simp only [hl244002_2]); (with_reducible repeat (first | refine blk_drewN ?_ _ | refine blk_drew ?_ | refine blk_alloc ?_ _)); exact BK243.out⟩, ⟨by repeat (first | (with_reducible first | exact HB.out | apply below_alloc | apply pw_below_drewN | apply below_drew1 | refine below_set ?_ GE241.out | refine below_set ?_ GE242.out | refine below_set ?_ GE243.out) | exact HB.out)⟩⟩
      rw [if_neg c30] at H
      have c30b0 : decide (x7_1 < a0_1) = false := decide_eq_false c30
      clear c30
      have H' := Aside0.mk H
      clear H
      have hnb60 := NB241_242.out
      have hnc60 := NB242_241.out
      have hnb61 := NB241_243.out
      have hnc61 := NB243_241.out
      have hcz62_0 : wr.cell? ⟨gb241, 0, none⟩ = some (.int .i64 a0_0) := (blk_cell BK241.out 0).trans rfl
      have hcz62_1 : wr.cell? ⟨gb241, 1, none⟩ = some (.int .i64 a0_1) := (blk_cell BK241.out 1).trans rfl
      have hcz62_2 : wr.cell? ⟨gb241, 2, none⟩ = some (.slice A0_2 l0_2.length c0_2) := (blk_cell BK241.out 2).trans rfl
      have hfz62_0 := blk_frozen BK241.out 0
      have hfz62_1 := blk_frozen BK241.out 1
      have hfz62_2 := blk_frozen BK241.out 2
      go_wp2
      repeat (go_quiet (fail); try go_wp2)
      go_loopg [12] k1 (fun kq v12 w' => ∃ (x12_2 : Int) (x244002_2 : List Int), v12 = .int .i64 x12_2 ∧ Aside0 (spec_l13Smooth.l2 kq a1 x12_2 a0_0 a0_1 l0_2 a0_0 a0_1 x244002_2 = some (r1, r2, r3)) ∧ Aside0 (kq ≤ k1) ∧ Aside0 (Kd.R (Kd.int .i64) 3 w' w.heap.size (fun _ => True) (.slice Ao28 x244002_1.length co28) x244002_2) ∧ Aside0 (w'.heap[gb241]? = some (.cells #[.int .i64 a0_0, .int .i64 a0_1, (.slice A0_2 l0_2.length c0_2)] 66 (0, 0))) ∧ Aside0 (w'.heap[gb242]? = some (.cells #[.int .i64 0, .int .i64 0, (.slice none 0 0)] 66 (0, 0))) ∧ Aside0 (w'.heap[gb243]? = some (.cells #[.int .i64 a0_0, .int .i64 a0_1, (.slice Ao28 x244002_1.length co28)] 66 (0, 0))) ∧ Aside0 (Below w.heap.size w w'))
      case atStart => exact ⟨(0), (x244002_1), (by first | rfl | (simp; done) | (simp [*]; done)), H', ⟨Nat.le_refl _⟩, ⟨by (try simp only [hl244002_1]); (with_reducible repeat (first | apply Kd.R_alloc | apply Kd.R_drewN | apply Kd.R_drew)); exact HO_244002.out⟩, ⟨by (try simp only [hl244002_1]); (with_reducible repeat (first | refine blk_drewN ?_ _ | refine blk_drew ?_ | refine blk_alloc ?_ _)); exact BK241.out⟩, ⟨by (try simp only [hl244002_1]); (with_reducible repeat (first | refine blk_drewN ?_ _ | refine blk_drew ?_ | refine blk_alloc ?_ _)); exact BK242.out⟩, ⟨by (try simp only [hl244002_1]); (with_reducible repeat (first | refine blk_drewN ?_ _ | refine blk_drew ?_ | refine blk_alloc ?_ _)); exact BK243.out⟩, ⟨by repeat (first | (with_reducible first | exact HB.out | apply below_alloc | apply pw_below_drewN | apply below_drew1 | refine below_set ?_ GE241.out | refine below_set ?_ GE242.out | refine below_set ?_ GE243.out) | exact HB.out)⟩⟩
      case round =>
        clear H'
        try clear c1
        try clear c2
        try clear p2
        try clear q2
        try clear hx2
        try clear c3
        try clear c4
        try clear c4b0
        try clear p4
        try clear q4
        try clear hx4
        try clear hf4
        try clear c5
        try clear c6
        try clear p6
        try clear c7
        try clear c10
        try clear c11
        try clear c20
        try clear c23
        try clear c24
        try clear p24
        try clear q24
        try clear hx24
        try clear p25
        try clear q25
        try clear hx25
        try clear c30
        try clear c30b0
        try clear c31
        try clear c32
        try clear c34
        try clear c34b0
        try clear c36
        try clear c36b0
        try clear c37
        try clear c37b0
        try clear c39
        try clear c39b0
        try clear c40
        try clear c40b0
        try clear c42
        try clear c42b0
        try clear c43
        try clear c43b0
        try clear c45
        try clear c45b0
        try clear c46
        try clear c46b0
        try clear p48
        try clear q48
        try clear hx48
        try clear hf48
        try clear p49
        try clear q49
        try clear hx49
        try clear hf49
        try clear c50
        try clear c51
        try clear c57
        try clear c58
        try clear c60
        try clear c61
        try clear hcz12_0
        try clear hcz12_1
        try clear hcz12_2
        try clear hcz13_0
        try clear hcz13_1
        try clear hcz13_2
        try clear hcz16_0
        try clear hcz16_1
        try clear hcz16_2
        try clear hcz17_0
        try clear hcz17_1
        try clear hcz17_2
        try clear hcz21_0
        try clear hcz21_1
        try clear hcz21_2
        try clear hcz25_0
        try clear hcz25_1
        try clear hcz25_2
        try clear hcz26_0
        try clear hcz26_1
        try clear hcz26_2
        try clear hcz29_0
        try clear hcz29_1
        try clear hcz29_2
        try clear hcz33_0
        try clear hcz33_1
        try clear hcz33_2
        try clear hcz52_0
        try clear hcz52_1
        try clear hcz52_2
        try clear hcz59_0
        try clear hcz59_1
        try clear hcz59_2
        try clear hcz62_0
        try clear hcz62_1
        try clear hcz62_2
        try clear hcz8_0
        try clear hcz8_1
        try clear hcz8_2
        try clear hfz12_0
        try clear hfz12_1
        try clear hfz12_2
        try clear hfz13_0
        try clear hfz13_1
        try clear hfz13_2
        try clear hfz16_0
        try clear hfz16_1
        try clear hfz16_2
        try clear hfz17_0
        try clear hfz17_1
        try clear hfz17_2
        try clear hfz21_0
        try clear hfz21_1
        try clear hfz21_2
        try clear hfz25_0
        try clear hfz25_1
        try clear hfz25_2
        try clear hfz26_0
        try clear hfz26_1
        try clear hfz26_2
        try clear hfz29_0
        try clear hfz29_1
        try clear hfz29_2
        try clear hfz33_0
        try clear hfz33_1
        try clear hfz33_2
        try clear hfz52_0
        try clear hfz52_1
        try clear hfz52_2
        try clear hfz59_0
        try clear hfz59_1
        try clear hfz59_2
        try clear hfz62_0
        try clear hfz62_1
        try clear hfz62_2
        try clear hfz8_0
        try clear hfz8_1
        try clear hfz8_2
        try clear hx247_0
        try clear hx248_0
        try clear hx249_0
        try clear hx250_0
        try clear hx48_0
        try clear hx49_0
        try clear p2
        try clear p247
        try clear p248
        try clear p249
        try clear p250
        try clear p48
        try clear p49
        try clear q247
        try clear q248
        try clear q249
        try clear q250
        try clear q48
        try clear q49
        obtain ⟨x12_2, x244002_2, rfl, HA, HK2, HO_244002, BK241, BK242, BK243, HB⟩ := hrel
        have hl244002_2 := (Kd.R_reads' HO_244002.out).1
        rw [hl244002_2] at HO_244002
        (try simp only [hl244002_2])
        (try simp only [hl244002_2] at BK241)
        (try simp only [hl244002_2] at BK242)
        (try simp only [hl244002_2] at BK243)
        cases gk with
        | zero => exact absurd HA.out (by simp [spec_l13Smooth.l2])
        | succ k2 =>
          have H := HA.out
          clear HA
          simp only [spec_l13Smooth.l2] at H
          by_cases c63 : x12_2 < a0_0
          rotate_left
          · rw [if_neg c63] at H
            have c63b0 : decide (x12_2 < a0_0) = false := decide_eq_false c63
            clear c63
            simp only [Option.some.injEq, Prod.mk.injEq] at H
            obtain ⟨rfl, rfl, rfl⟩ := H
            have hnb93 := NB241_242.out
            have hnc93 := NB242_241.out
            have hnb94 := NB241_243.out
            have hnc94 := NB243_241.out
            have hcz95_0 : wr.cell? ⟨gb241, 0, none⟩ = some (.int .i64 a0_0) := (blk_cell BK241.out 0).trans rfl
            have hcz95_1 : wr.cell? ⟨gb241, 1, none⟩ = some (.int .i64 a0_1) := (blk_cell BK241.out 1).trans rfl
            have hcz95_2 : wr.cell? ⟨gb241, 2, none⟩ = some (.slice A0_2 l0_2.length c0_2) := (blk_cell BK241.out 2).trans rfl
            have hfz95_0 := blk_frozen BK241.out 0
            have hfz95_1 := blk_frozen BK241.out 1
            have hfz95_2 := blk_frozen BK241.out 2
            have hnb96 := NB243_242.out
            have hnc96 := NB242_243.out
            have hcz97_0 : wr.cell? ⟨gb243, 0, none⟩ = some (.int .i64 a0_0) := (blk_cell BK243.out 0).trans rfl
            have hcz97_1 : wr.cell? ⟨gb243, 1, none⟩ = some (.int .i64 a0_1) := (blk_cell BK243.out 1).trans rfl
            have hcz97_2 : wr.cell? ⟨gb243, 2, none⟩ = some (.slice Ao28 x244002_2.length co28) := (blk_cell BK243.out 2).trans rfl
            have hfz97_0 := blk_frozen BK243.out 0
            have hfz97_1 := blk_frozen BK243.out 1
            have hfz97_2 := blk_frozen BK243.out 2
            have hcz98_0 : wr.cell? ⟨gb242, 0, none⟩ = some (.int .i64 0) := (blk_cell BK242.out 0).trans rfl
            have hcz98_1 : wr.cell? ⟨gb242, 1, none⟩ = some (.int .i64 0) := (blk_cell BK242.out 1).trans rfl
            have hcz98_2 : wr.cell? ⟨gb242, 2, none⟩ = some (.slice none 0 0) := (blk_cell BK242.out 2).trans rfl
            have hfz98_0 := blk_frozen BK242.out 0
            have hfz98_1 := blk_frozen BK242.out 1
            have hfz98_2 := blk_frozen BK242.out 2
            go_wp2
            repeat (go_quiet (fail); try go_wp2)
            refine bodyPost_ret (results_cell_row rfl _ _ gb242 66 #[.int .i64 a0_0, .int .i64 a0_1, .slice Ao28 x244002_2.length co28] (0, 0) _ rfl (by (with_reducible repeat (first | refine blk_drewN ?_ _ | refine blk_drew ?_ | refine blk_alloc ?_ _)); refine blk_put (cs := #[.int .i64 a0_0, .int .i64 a0_1, .slice none 0 0]) ?_ 2 _ rfl; (with_reducible repeat (first | refine blk_drewN ?_ _ | refine blk_drew ?_ | refine blk_alloc ?_ _)); refine blk_put (cs := #[.int .i64 a0_0, .int .i64 0, .slice none 0 0]) ?_ 1 _ rfl; (with_reducible repeat (first | refine blk_drewN ?_ _ | refine blk_drew ?_ | refine blk_alloc ?_ _)); refine blk_put (cs := #[.int .i64 0, .int .i64 0, .slice none 0 0]) ?_ 0 _ rfl; (with_reducible repeat (first | refine blk_drewN ?_ _ | refine blk_drew ?_ | refine blk_alloc ?_ _)); exact BK242.out) Try.underlying66 rfl (by kernel_rfl)) rfl ?_
            exact ⟨_, by first | rfl | (simp [errW_none, errW_some] <;> rfl) | (simp [*, errW_none, errW_some] <;> rfl), by (with_reducible repeat (first | apply Kd.R_alloc | apply Kd.R_drewN | apply Kd.R_drew)); exact Kd.R_mono (Kd.R_far (p := ⟨gb242, 2, none⟩) (Kd.R_far (p := ⟨gb242, 1, none⟩) (Kd.R_far (p := ⟨gb242, 0, none⟩) (Kd.R_types HO_244002.out BK242.out (by decide)) (fun _ hk => hk.2) (.int .i64 a0_0)) (fun _ hk => hk.2) (.int .i64 a0_1)) (fun _ hk => hk.2) (.slice Ao28 x244002_2.length co28)) (fun _ hk => trivial), by repeat (first | (with_reducible first | exact HB.out | apply below_alloc | apply pw_below_drewN | apply below_drew1 | refine below_set ?_ GE241.out | refine below_set ?_ GE242.out | refine below_set ?_ GE243.out) | exact HB.out)⟩
          rw [if_pos c63] at H
          have c63b0 : decide (x12_2 < a0_0) = true := decide_eq_true c63
          clear c63
          have H' := Aside0.mk H
          clear H
          have hnb64 := NB241_242.out
          have hnc64 := NB242_241.out
          have hnb65 := NB241_243.out
          have hnc65 := NB243_241.out
          have hcz66_0 : wr.cell? ⟨gb241, 0, none⟩ = some (.int .i64 a0_0) := (blk_cell BK241.out 0).trans rfl
          have hcz66_1 : wr.cell? ⟨gb241, 1, none⟩ = some (.int .i64 a0_1) := (blk_cell BK241.out 1).trans rfl
          have hcz66_2 : wr.cell? ⟨gb241, 2, none⟩ = some (.slice A0_2 l0_2.length c0_2) := (blk_cell BK241.out 2).trans rfl
          have hfz66_0 := blk_frozen BK241.out 0
          have hfz66_1 := blk_frozen BK241.out 1
          have hfz66_2 := blk_frozen BK241.out 2
          go_wp2
          repeat (go_quiet (fail); try go_wp2)
          go_loopg [13] k2 (fun kq v13 w' => ∃ (x13_3 : Int) (x244002_3 : List Int), v13 = .int .i64 x13_3 ∧ Aside0 (spec_l13Smooth.l3 kq a1 x12_2 x13_3 a0_0 a0_1 l0_2 a0_0 a0_1 x244002_3 = some (r1, r2, r3)) ∧ Aside0 (kq ≤ k2) ∧ Aside0 (Kd.R (Kd.int .i64) 3 w' w.heap.size (fun _ => True) (.slice Ao28 x244002_2.length co28) x244002_3) ∧ Aside0 (w'.heap[gb241]? = some (.cells #[.int .i64 a0_0, .int .i64 a0_1, (.slice A0_2 l0_2.length c0_2)] 66 (0, 0))) ∧ Aside0 (w'.heap[gb242]? = some (.cells #[.int .i64 0, .int .i64 0, (.slice none 0 0)] 66 (0, 0))) ∧ Aside0 (w'.heap[gb243]? = some (.cells #[.int .i64 a0_0, .int .i64 a0_1, (.slice Ao28 x244002_2.length co28)] 66 (0, 0))) ∧ Aside0 (Below w.heap.size w w'))
          case atStart => exact ⟨(4), (x244002_2), (by first | rfl | (simp; done) | (simp [*]; done)), H', ⟨Nat.le_refl _⟩, ⟨by (try simp only [hl244002_1]); (try simp only [hl244002_2]); (with_reducible repeat (first | apply Kd.R_alloc | apply Kd.R_drewN | apply Kd.R_drew)); exact HO_244002.out⟩, ⟨by (try simp only [hl244002_1]); (try simp only [hl244002_2]); (with_reducible repeat (first | refine blk_drewN ?_ _ | refine blk_drew ?_ | refine blk_alloc ?_ _)); exact BK241.out⟩, ⟨by (try simp only [hl244002_1]); (try simp only [hl244002_2]); (with_reducible repeat (first | refine blk_drewN ?_ _ | refine blk_drew ?_ | refine blk_alloc ?_ _)); exact BK242.out⟩, ⟨by (try simp only [hl244002_1]); (try simp only [hl244002_2]); (with_reducible repeat (first | refine blk_drewN ?_ _ | refine blk_drew ?_ | refine blk_alloc ?_ _)); exact BK243.out⟩, ⟨by repeat (first | (with_reducible first | exact HB.out | apply below_alloc | apply pw_below_drewN | apply below_drew1 | refine below_set ?_ GE241.out | refine below_set ?_ GE242.out | refine below_set ?_ GE243.out) | exact HB.out)⟩⟩
          case round =>
            clear H'
            try clear c1
            try clear c2
            try clear p2
            try clear q2
            try clear hx2
            try clear c3
            try clear c4
            try clear c4b0
            try clear p4
            try clear q4
            try clear hx4
            try clear hf4
            try clear c5
            try clear c6
            try clear p6
            try clear c7
            try clear c10
            try clear c11
            try clear c20
            try clear c23
            try clear c24
            try clear p24
            try clear q24
            try clear hx24
            try clear p25
            try clear q25
            try clear hx25
            try clear c30
            try clear c30b0
            try clear c31
            try clear c32
            try clear c34
            try clear c34b0
            try clear c36
            try clear c36b0
            try clear c37
            try clear c37b0
            try clear c39
            try clear c39b0
            try clear c40
            try clear c40b0
            try clear c42
            try clear c42b0
            try clear c43
            try clear c43b0
            try clear c45
            try clear c45b0
            try clear c46
            try clear c46b0
            try clear p48
            try clear q48
            try clear hx48
            try clear hf48
            try clear p49
            try clear q49
            try clear hx49
            try clear hf49
            try clear c50
            try clear c51
            try clear c57
            try clear c58
            try clear c60
            try clear c61
            try clear c63
            try clear c63b0
            try clear c64
            try clear p64
            try clear c65
            try clear hcz12_0
            try clear hcz12_1
            try clear hcz12_2
            try clear hcz13_0
            try clear hcz13_1
            try clear hcz13_2
            try clear hcz16_0
            try clear hcz16_1
            try clear hcz16_2
            try clear hcz17_0
            try clear hcz17_1
            try clear hcz17_2
            try clear hcz21_0
            try clear hcz21_1
            try clear hcz21_2
            try clear hcz25_0
            try clear hcz25_1
            try clear hcz25_2
            try clear hcz26_0
            try clear hcz26_1
            try clear hcz26_2
            try clear hcz29_0
            try clear hcz29_1
            try clear hcz29_2
            try clear hcz33_0
            try clear hcz33_1
            try clear hcz33_2
            try clear hcz52_0
            try clear hcz52_1
            try clear hcz52_2
            try clear hcz59_0
            try clear hcz59_1
            try clear hcz59_2
            try clear hcz62_0
            try clear hcz62_1
            try clear hcz62_2
            try clear hcz66_0
            try clear hcz66_1
            try clear hcz66_2
            try clear hcz8_0
            try clear hcz8_1
            try clear hcz8_2
            try clear hfz12_0
            try clear hfz12_1
            try clear hfz12_2
            try clear hfz13_0
            try clear hfz13_1
            try clear hfz13_2
            try clear hfz16_0
            try clear hfz16_1
            try clear hfz16_2
            try clear hfz17_0
            try clear hfz17_1
            try clear hfz17_2
            try clear hfz21_0
            try clear hfz21_1
            try clear hfz21_2
            try clear hfz25_0
            try clear hfz25_1
            try clear hfz25_2
            try clear hfz26_0
            try clear hfz26_1
            try clear hfz26_2
            try clear hfz29_0
            try clear hfz29_1
            try clear hfz29_2
            try clear hfz33_0
            try clear hfz33_1
            try clear hfz33_2
            try clear hfz52_0
            try clear hfz52_1
            try clear hfz52_2
            try clear hfz59_0
            try clear hfz59_1
            try clear hfz59_2
            try clear hfz62_0
            try clear hfz62_1
            try clear hfz62_2
            try clear hfz66_0
            try clear hfz66_1
            try clear hfz66_2
            try clear hfz8_0
            try clear hfz8_1
            try clear hfz8_2
            try clear hx247_0
            try clear hx248_0
            try clear hx249_0
            try clear hx250_0
            try clear hx48_0
            try clear hx49_0
            try clear p2
            try clear p24
            try clear p247
            try clear p248
            try clear p249
            try clear p25
            try clear p250
            try clear p4
            try clear p48
            try clear p49
            try clear p6
            try clear q2
            try clear q24
            try clear q247
            try clear q248
            try clear q249
            try clear q25
            try clear q250
            try clear q4
            try clear q48
            try clear q49
            obtain ⟨x13_3, x244002_3, rfl, HA, HK3, HO_244002, BK241, BK242, BK243, HB⟩ := hrel
            have hl244002_3 := (Kd.R_reads' HO_244002.out).1
            rw [hl244002_3] at HO_244002
            (try simp only [hl244002_3])
            (try simp only [hl244002_3] at BK241)
            (try simp only [hl244002_3] at BK242)
            (try simp only [hl244002_3] at BK243)
            cases gk with
            | zero => exact absurd HA.out (by simp [spec_l13Smooth.l3])
            | succ k3 =>
              have H := HA.out
              clear HA
              simp only [spec_l13Smooth.l3] at H
              by_cases c67 : (wrap64 (x13_3 + 1)) < a0_1
              rotate_left
              · rw [if_neg c67] at H
                have c67b0 : decide ((wrap64 (x13_3 + 1)) < a0_1) = false := decide_eq_false c67
                clear c67
                have H' := Aside0.mk H
                clear H
                have hnb90 := NB241_242.out
                have hnc90 := NB242_241.out
                have hnb91 := NB241_243.out
                have hnc91 := NB243_241.out
                have hcz92_0 : wr.cell? ⟨gb241, 0, none⟩ = some (.int .i64 a0_0) := (blk_cell BK241.out 0).trans rfl
                have hcz92_1 : wr.cell? ⟨gb241, 1, none⟩ = some (.int .i64 a0_1) := (blk_cell BK241.out 1).trans rfl
                have hcz92_2 : wr.cell? ⟨gb241, 2, none⟩ = some (.slice A0_2 l0_2.length c0_2) := (blk_cell BK241.out 2).trans rfl
                have hfz92_0 := blk_frozen BK241.out 0
                have hfz92_1 := blk_frozen BK241.out 1
                have hfz92_2 := blk_frozen BK241.out 2
                go_wp2
                repeat (go_quiet (fail); try go_wp2)
                (try simp only [← hl244002_2, ← hl244002_3])
                go_roundg k3
                case measure => have := HK1.out; have := HK2.out; have := HK3.out; omega
                case rel => exact ⟨(wrap64 (x12_2 + 1)), (x244002_3), (by first | rfl | (simp; done) | (simp [*]; done)), H', ⟨by have := HK1.out; have := HK2.out; have := HK3.out; omega⟩, ⟨by (try simp only [hl244002_1]); (try simp only [hl244002_2]); (try simp only [hl244002_3]); (with_reducible repeat (first | apply Kd.R_alloc | apply Kd.R_drewN | apply Kd.R_drew)); exact HO_244002.out⟩, ⟨by (try simp only [hl244002_1]); (try simp only [hl244002_2]); (try simp only [hl244002_3]); (with_reducible repeat (first | refine blk_drewN ?_ _ | refine blk_drew ?_ | refine blk_alloc ?_ _)); exact BK241.out⟩, ⟨by (try simp only [hl244002_1]); (try simp only [hl244002_2]); (try simp only [hl244002_3]); (with_reducible repeat (first | refine blk_drewN ?_ _ | refine blk_drew ?_ | refine blk_alloc ?_ _)); exact BK242.out⟩, ⟨by (try simp only [hl244002_1]); (try simp only [hl244002_2]); (try simp only [hl244002_3]); (with_reducible repeat (first | refine blk_drewN ?_ _ | refine blk_drew ?_ | refine blk_alloc ?_ _)); exact BK243.out⟩, ⟨by repeat (first | (with_reducible first | exact HB.out | apply below_alloc | apply pw_below_drewN | apply below_drew1 | refine below_set ?_ GE241.out | refine below_set ?_ GE242.out | refine below_set ?_ GE243.out) | exact HB.out)⟩⟩
              rw [if_pos c67] at H
              have c67b0 : decide ((wrap64 (x13_3 + 1)) < a0_1) = true := decide_eq_true c67
              clear c67
              obtain ⟨ji68, hji68⟩ : ∃ j_ : Int, (wrap64 ((wrap64 ((wrap64 (x13_3 * a0_0)) + x12_2)) - (wrap64 (2 * a0_0)))) = j_ := ⟨_, rfl⟩
              replace H : (if 0 ≤ (ji68) then (if (ji68) < (x244002_3.length : Int) then (if 0 ≤ (wrap64 ((wrap64 ((wrap64 (x13_3 * a0_0)) + x12_2)) - a0_0)) then (if (wrap64 ((wrap64 ((wrap64 (x13_3 * a0_0)) + x12_2)) - a0_0)) < (x244002_3.length : Int) then (if 0 ≤ (wrap64 ((wrap64 (x13_3 * a0_0)) + x12_2)) then (if (wrap64 ((wrap64 (x13_3 * a0_0)) + x12_2)) < (x244002_3.length : Int) then (if 0 ≤ (wrap64 ((wrap64 ((wrap64 (x13_3 * a0_0)) + x12_2)) + a0_0)) then (if (wrap64 ((wrap64 ((wrap64 (x13_3 * a0_0)) + x12_2)) + a0_0)) < (x244002_3.length : Int) then ((spec_l13Edge.f k3 (rd x244002_3 (ji68)) (rd x244002_3 (wrap64 ((wrap64 ((wrap64 (x13_3 * a0_0)) + x12_2)) - a0_0))) (rd x244002_3 (wrap64 ((wrap64 (x13_3 * a0_0)) + x12_2))) (rd x244002_3 (wrap64 ((wrap64 ((wrap64 (x13_3 * a0_0)) + x12_2)) + a0_0))) a1).bind fun bt259 => (spec_l13Smooth.l3 k3 a1 x12_2 (wrap64 (x13_3 + 4)) a0_0 a0_1 l0_2 a0_0 a0_1 ((x244002_3.set ((wrap64 ((wrap64 ((wrap64 (x13_3 * a0_0)) + x12_2)) - a0_0)) : Int).toNat bt259.1).set ((wrap64 ((wrap64 (x13_3 * a0_0)) + x12_2)) : Int).toNat bt259.2))) else (none)) else (none)) else (none)) else (none)) else (none)) else (none)) else (none)) else (none)) = some (r1, r2, r3) := by first | (rw [hji68] at H; exact H) | (simp only [hji68] at H ⊢; exact H)
              have hji68w : (IntKind.i64.wrap ((wrap64 ((wrap64 (x13_3 * a0_0)) + x12_2)) - (wrap64 (2 * a0_0)))) = ji68 := (i64_w _).trans hji68
              by_cases c69 : 0 ≤ (ji68)
              rotate_left
              · rw [if_neg c69] at H
                exact absurd H (by simp)
              rw [if_pos c69] at H
              have c69b0 : decide (0 ≤ (ji68)) = true := decide_eq_true c69
              clear c69
              by_cases c70 : (ji68) < (x244002_3.length : Int)
              rotate_left
              · rw [if_neg c70] at H
                exact absurd H (by simp)
              rw [if_pos c70] at H
              have c70b0 : decide ((ji68) < (x244002_3.length : Int)) = true := decide_eq_true c70
              (try simp only [hl244002_1] at c70b0)
              (try simp only [hl244002_2] at c70b0)
              (try simp only [hl244002_3] at c70b0)
              clear c70
              obtain ⟨ji71, hji71⟩ : ∃ j_ : Int, (wrap64 ((wrap64 ((wrap64 (x13_3 * a0_0)) + x12_2)) - a0_0)) = j_ := ⟨_, rfl⟩
              replace H : (if 0 ≤ (ji71) then (if (ji71) < (x244002_3.length : Int) then (if 0 ≤ (wrap64 ((wrap64 (x13_3 * a0_0)) + x12_2)) then (if (wrap64 ((wrap64 (x13_3 * a0_0)) + x12_2)) < (x244002_3.length : Int) then (if 0 ≤ (wrap64 ((wrap64 ((wrap64 (x13_3 * a0_0)) + x12_2)) + a0_0)) then (if (wrap64 ((wrap64 ((wrap64 (x13_3 * a0_0)) + x12_2)) + a0_0)) < (x244002_3.length : Int) then ((spec_l13Edge.f k3 (rd x244002_3 (ji68)) (rd x244002_3 (ji71)) (rd x244002_3 (wrap64 ((wrap64 (x13_3 * a0_0)) + x12_2))) (rd x244002_3 (wrap64 ((wrap64 ((wrap64 (x13_3 * a0_0)) + x12_2)) + a0_0))) a1).bind fun bt259 => (spec_l13Smooth.l3 k3 a1 x12_2 (wrap64 (x13_3 + 4)) a0_0 a0_1 l0_2 a0_0 a0_1 ((x244002_3.set ((ji71) : Int).toNat bt259.1).set ((wrap64 ((wrap64 (x13_3 * a0_0)) + x12_2)) : Int).toNat bt259.2))) else (none)) else (none)) else (none)) else (none)) else (none)) else (none)) = some (r1, r2, r3) := by first | (rw [hji71] at H; exact H) | (simp only [hji71] at H ⊢; exact H)
              have hji71w : (IntKind.i64.wrap ((wrap64 ((wrap64 (x13_3 * a0_0)) + x12_2)) - a0_0)) = ji71 := (i64_w _).trans hji71
              by_cases c72 : 0 ≤ (ji71)
              rotate_left
              · rw [if_neg c72] at H
                exact absurd H (by simp)
              rw [if_pos c72] at H
              have c72b0 : decide (0 ≤ (ji71)) = true := decide_eq_true c72
              clear c72
              by_cases c73 : (ji71) < (x244002_3.length : Int)
              rotate_left
              · rw [if_neg c73] at H
                exact absurd H (by simp)
              rw [if_pos c73] at H
              have c73b0 : decide ((ji71) < (x244002_3.length : Int)) = true := decide_eq_true c73
              (try simp only [hl244002_1] at c73b0)
              (try simp only [hl244002_2] at c73b0)
              (try simp only [hl244002_3] at c73b0)
              clear c73
              obtain ⟨ji74, hji74⟩ : ∃ j_ : Int, (wrap64 ((wrap64 (x13_3 * a0_0)) + x12_2)) = j_ := ⟨_, rfl⟩
              have hji68xji74 : wrap64 (ji74 - (wrap64 (2 * a0_0))) = ji68 := by rw [← hji74]; exact hji68
              have hji71xji74 : wrap64 (ji74 - a0_0) = ji71 := by rw [← hji74]; exact hji71
              replace H : (if 0 ≤ (ji74) then (if (ji74) < (x244002_3.length : Int) then (if 0 ≤ (wrap64 ((ji74) + a0_0)) then (if (wrap64 ((ji74) + a0_0)) < (x244002_3.length : Int) then ((spec_l13Edge.f k3 (rd x244002_3 (ji68)) (rd x244002_3 (ji71)) (rd x244002_3 (ji74)) (rd x244002_3 (wrap64 ((ji74) + a0_0))) a1).bind fun bt259 => (spec_l13Smooth.l3 k3 a1 x12_2 (wrap64 (x13_3 + 4)) a0_0 a0_1 l0_2 a0_0 a0_1 ((x244002_3.set ((ji71) : Int).toNat bt259.1).set ((ji74) : Int).toNat bt259.2))) else (none)) else (none)) else (none)) else (none)) = some (r1, r2, r3) := by first | (rw [hji74] at H; exact H) | (simp only [hji74] at H ⊢; exact H)
              have hji74w : (IntKind.i64.wrap ((wrap64 (x13_3 * a0_0)) + x12_2)) = ji74 := (i64_w _).trans hji74
              by_cases c75 : 0 ≤ (ji74)
              rotate_left
              · rw [if_neg c75] at H
                exact absurd H (by simp)
              rw [if_pos c75] at H
              have c75b0 : decide (0 ≤ (ji74)) = true := decide_eq_true c75
              clear c75
              by_cases c76 : (ji74) < (x244002_3.length : Int)
              rotate_left
              · rw [if_neg c76] at H
                exact absurd H (by simp)
              rw [if_pos c76] at H
              have c76b0 : decide ((ji74) < (x244002_3.length : Int)) = true := decide_eq_true c76
              (try simp only [hl244002_1] at c76b0)
              (try simp only [hl244002_2] at c76b0)
              (try simp only [hl244002_3] at c76b0)
              clear c76
              obtain ⟨ji77, hji77⟩ : ∃ j_ : Int, (wrap64 ((ji74) + a0_0)) = j_ := ⟨_, rfl⟩
              replace H : (if 0 ≤ (ji77) then (if (ji77) < (x244002_3.length : Int) then ((spec_l13Edge.f k3 (rd x244002_3 (ji68)) (rd x244002_3 (ji71)) (rd x244002_3 (ji74)) (rd x244002_3 (ji77)) a1).bind fun bt259 => (spec_l13Smooth.l3 k3 a1 x12_2 (wrap64 (x13_3 + 4)) a0_0 a0_1 l0_2 a0_0 a0_1 ((x244002_3.set ((ji71) : Int).toNat bt259.1).set ((ji74) : Int).toNat bt259.2))) else (none)) else (none)) = some (r1, r2, r3) := by first | (rw [hji77] at H; exact H) | (simp only [hji77] at H ⊢; exact H)
              have hji77w : (IntKind.i64.wrap ((ji74) + a0_0)) = ji77 := (i64_w _).trans hji77
              by_cases c78 : 0 ≤ (ji77)
              rotate_left
              · rw [if_neg c78] at H
                exact absurd H (by simp)
              rw [if_pos c78] at H
              have c78b0 : decide (0 ≤ (ji77)) = true := decide_eq_true c78
              clear c78
              by_cases c79 : (ji77) < (x244002_3.length : Int)
              rotate_left
              · rw [if_neg c79] at H
                exact absurd H (by simp)
              rw [if_pos c79] at H
              have c79b0 : decide ((ji77) < (x244002_3.length : Int)) = true := decide_eq_true c79
              (try simp only [hl244002_1] at c79b0)
              (try simp only [hl244002_2] at c79b0)
              (try simp only [hl244002_3] at c79b0)
              clear c79
              replace H := Option.bind_eq_some_iff.mp H
              obtain ⟨⟨t259, t260⟩, A800, H⟩ := H
              replace H : (spec_l13Smooth.l3 k3 a1 x12_2 (wrap64 (x13_3 + 4)) a0_0 a0_1 l0_2 a0_0 a0_1 ((x244002_3.set ((ji71) : Int).toNat t259).set ((ji74) : Int).toNat t260)) = some (r1, r2, r3) := H
              have A80 := Aside0.mk A800
              clear A800
              obtain ⟨y261, hy261⟩ : ∃ y_ : List Int, y_ = (x244002_3.set ((ji71) : Int).toNat t259) := ⟨_, rfl⟩
              replace H : (spec_l13Smooth.l3 k3 a1 x12_2 (wrap64 (x13_3 + 4)) a0_0 a0_1 l0_2 a0_0 a0_1 (y261.set ((ji74) : Int).toNat t260)) = some (r1, r2, r3) := by first | (rw [hy261]; with_reducible exact H) | (have H2_ := (Option.bind_some _ _).symm.trans H; rw [hy261]; with_reducible exact H2_) | (have H2_ := (Option.bind_some _ _).symm.trans H; with_reducible exact H2_) | with_reducible exact H | (rw [hy261]; exact H) | exact H
              have Ny261 := Aside0.mk hy261
              clear hy261
              obtain ⟨y262, hy262⟩ : ∃ y_ : List Int, y_ = (y261.set ((ji74) : Int).toNat t260) := ⟨_, rfl⟩
              replace H : (spec_l13Smooth.l3 k3 a1 x12_2 (wrap64 (x13_3 + 4)) a0_0 a0_1 l0_2 a0_0 a0_1 y262) = some (r1, r2, r3) := by first | (rw [hy262]; with_reducible exact H) | (have H2_ := (Option.bind_some _ _).symm.trans H; rw [hy262]; with_reducible exact H2_) | (have H2_ := (Option.bind_some _ _).symm.trans H; with_reducible exact H2_) | with_reducible exact H | (rw [hy262]; exact H) | exact H
              have Ny262 := Aside0.mk hy262
              clear hy262
              have H' := Aside0.mk H
              clear H
              have hnb83 := NB241_242.out
              have hnc83 := NB242_241.out
              have hnb84 := NB241_243.out
              have hnc84 := NB243_241.out
              have hcz85_0 : wr.cell? ⟨gb241, 0, none⟩ = some (.int .i64 a0_0) := (blk_cell BK241.out 0).trans rfl
              have hcz85_1 : wr.cell? ⟨gb241, 1, none⟩ = some (.int .i64 a0_1) := (blk_cell BK241.out 1).trans rfl
              have hcz85_2 : wr.cell? ⟨gb241, 2, none⟩ = some (.slice A0_2 l0_2.length c0_2) := (blk_cell BK241.out 2).trans rfl
              have hfz85_0 := blk_frozen BK241.out 0
              have hfz85_1 := blk_frozen BK241.out 1
              have hfz85_2 := blk_frozen BK241.out 2
              have p255 : 0 ≤ ((ji68) : Int) := of_decide_eq_true (by first | (with_reducible assumption) | assumption)
              have q255 : (ji68) < (x244002_3.length : Int) := of_decide_eq_true (by first | (with_reducible assumption) | assumption)
              obtain ⟨ad255, e255, hx255_0⟩ := Kd.at_int (Kd.R_reads' HO_244002.out).2.2 (ji68) p255 q255
              cases e255
              replace p255 := eq_true p255
              replace q255 := eq_true q255
              have p256 : 0 ≤ ((ji71) : Int) := of_decide_eq_true (by first | (with_reducible assumption) | assumption)
              have q256 : (ji71) < (x244002_3.length : Int) := of_decide_eq_true (by first | (with_reducible assumption) | assumption)
              obtain ⟨ad256, e256, hx256_0⟩ := Kd.at_int (Kd.R_reads' HO_244002.out).2.2 (ji71) p256 q256
              obtain rfl : ad255 = ad256 := (by injection e256)
              replace p256 := eq_true p256
              replace q256 := eq_true q256
              have p257 : 0 ≤ ((ji74) : Int) := of_decide_eq_true (by first | (with_reducible assumption) | assumption)
              have q257 : (ji74) < (x244002_3.length : Int) := of_decide_eq_true (by first | (with_reducible assumption) | assumption)
              obtain ⟨ad257, e257, hx257_0⟩ := Kd.at_int (Kd.R_reads' HO_244002.out).2.2 (ji74) p257 q257
              obtain rfl : ad255 = ad257 := (by injection e257)
              replace p257 := eq_true p257
              replace q257 := eq_true q257
              have p258 : 0 ≤ ((ji77) : Int) := of_decide_eq_true (by first | (with_reducible assumption) | assumption)
              have q258 : (ji77) < (x244002_3.length : Int) := of_decide_eq_true (by first | (with_reducible assumption) | assumption)
              obtain ⟨ad258, e258, hx258_0⟩ := Kd.at_int (Kd.R_reads' HO_244002.out).2.2 (ji77) p258 q258
              obtain rfl : ad255 = ad258 := (by injection e258)
              replace p258 := eq_true p258
              replace q258 := eq_true q258
              have p81 : 0 ≤ ((ji71) : Int) := of_decide_eq_true (by first | (with_reducible assumption) | assumption); have q81 : ((ji71) : Int) < ((x244002_3.length : Int) : Int) := of_decide_eq_true (by first | (with_reducible assumption) | assumption); obtain ⟨go81, co81, eo81, gb81, gl81, cl81, HG81⟩ := Kd.R_form HO_244002.out (by omega); (first | cases eo81 | (injection eo81 with ea_ en_ ec_; (first | subst ea_ | (injection ea_ with ea_; subst ea_)); subst ec_; clear en_)); have GB81 := Aside0.mk gb81; have GG81 := Aside0.mk HG81; clear gb81 gl81 HG81; (first | simp only [add_plain] at hx255_0 | skip); (first | simp only [add_plain] at hx256_0 | skip); (first | simp only [add_plain] at hx257_0 | skip); (first | simp only [add_plain] at hx258_0 | skip); obtain ⟨hx81_0, hf81_0⟩ := Kd.R_celln 0 HO_244002.out ((ji71) : Int) p81 q81; replace p81 := eq_true p81; replace q81 := eq_true q81; obtain ⟨hy86_, hz86_⟩ := Kd.R_celln 0 HO_244002.out ((ji71) : Int) (of_decide_eq_true (by first | (with_reducible assumption) | assumption)) (of_decide_eq_true (by first | (with_reducible assumption) | assumption)); have HP86 := Kd.R_putg HO_244002.out ((ji71) : Int) t259
              iterate 3 (try go_wp2_with (first | (go_at_call 154; (with_reducible refine (spec_l13Edge.calls k3 (rd x244002_3 (ji68)) (rd x244002_3 (ji71)) (rd x244002_3 (ji74)) (rd x244002_3 (ji77)) a1 t259 t260 _ A80.out).mono ?_); rintro e w' ⟨rfl, ⟨nd, rfl⟩⟩; (try first | exact ⟨rfl, _, World.drewN_drewN _ _ _⟩ | exact ⟨rfl, _, Eq.trans (World.drewN_drewN _ _ _) (congrArg (World.drewN _) (Nat.add_assoc _ _ _))⟩)) | ((with_reducible refine gate_store (t := 3) (p := 140) rfl ?_); (try (rw [drewN_self wr]; generalize hq_ : World.drewN wr _ = wr; have n0_ := Aside0.mk (Kd.R_at hq_ HO_244002.out); have n1_ := Aside0.mk (blk_at hq_ BK241.out); have n2_ := Aside0.mk (blk_at hq_ BK242.out); have n3_ := Aside0.mk (blk_at hq_ BK243.out); have n4_ := Aside0.mk (below_at hq_ HB.out); clear hq_ HO_244002 BK241 BK242 BK243 HB; have HO_244002 := n0_; have BK241 := n1_; have BK242 := n2_; have BK243 := n3_; have HB := n4_; clear n0_ n1_ n2_ n3_ n4_; (try (obtain ⟨hy86_, hz86_⟩ := Kd.R_celln 0 HO_244002.out ((ji71) : Int) (of_decide_eq_true (by first | (with_reducible assumption) | assumption)) (of_decide_eq_true (by first | (with_reducible assumption) | assumption)))); (try (have HP86 := Kd.R_putg HO_244002.out ((ji71) : Int) t259)))); refine store_event (t := 3) (p := 140) (v := ?vo_w87) (w1 := (wr.setCell ⟨go81, ((ji71) : Int).toNat, none⟩ (.int .i64 t259))) ?hg ?ho ?hn ?hr ?_; (case ho => rfl); (case hg => rfl); (case hn => rfl); (case hr => first | (go_simp; done) | (go_simp; rfl)); intro w87 hw; have hg : wr.grownBy w87 (some go81) := (by rw [hw]; exact HP86.2); have hp_ : Kd.R (Kd.int .i64) 3 w87 w.heap.size (fun _ => True) (.slice (some ⟨go81, 0, none⟩) x244002_3.length co28) y261 := (by rw [hw, Ny261.out]; exact HP86.1); clear HP86; have n0_ := Aside0.mk (hp_); have n1_ := Aside0.mk (blk_grown (g := gb241) (o := .cells #[.int .i64 a0_0, .int .i64 a0_1, .slice A0_2 l0_2.length c0_2] 66 (0, 0)) (by (with_reducible repeat (first | refine blk_drewN ?_ _ | refine blk_drew ?_ | refine blk_alloc ?_ _)); exact BK241.out) hg (Kd.R_ne HO_244002.out BK241.out (by decide))); have n2_ := Aside0.mk (blk_grown (g := gb242) (o := .cells #[.int .i64 0, .int .i64 0, .slice none 0 0] 66 (0, 0)) (by (with_reducible repeat (first | refine blk_drewN ?_ _ | refine blk_drew ?_ | refine blk_alloc ?_ _)); exact BK242.out) hg (Kd.R_ne HO_244002.out BK242.out (by decide))); have n3_ := Aside0.mk (blk_grown (g := gb243) (o := .cells #[.int .i64 a0_0, .int .i64 a0_1, .slice (some ⟨go81, 0, none⟩) x244002_3.length co28] 66 (0, 0)) (by (with_reducible repeat (first | refine blk_drewN ?_ _ | refine blk_drew ?_ | refine blk_alloc ?_ _)); exact BK243.out) hg (Kd.R_ne HO_244002.out BK243.out (by decide))); have n4_ := Aside0.mk ((by rw [hw]; exact below_set (HB.out) GB81.out : Below w.heap.size w w87)); clear HO_244002; clear BK241; clear BK242; clear BK243; clear HB; have HO_244002 := n0_; have BK241 := n1_; have BK242 := n2_; have BK243 := n3_; have HB := n4_; clear n0_ n1_ n2_ n3_ n4_; clear hg hw hp_; have p82 : 0 ≤ ((ji74) : Int) := of_decide_eq_true (by first | (with_reducible assumption) | assumption); have q82 : ((ji74) : Int) < ((x244002_3.length : Int) : Int) := of_decide_eq_true (by first | (with_reducible assumption) | assumption); obtain ⟨hx82_0, hf82_0⟩ := Kd.R_celln 0 HO_244002.out ((ji74) : Int) p82 q82; replace p82 := eq_true p82; replace q82 := eq_true q82; obtain ⟨hy88_, hz88_⟩ := Kd.R_celln 0 HO_244002.out ((ji74) : Int) (of_decide_eq_true (by first | (with_reducible assumption) | assumption)) (of_decide_eq_true (by first | (with_reducible assumption) | assumption)); have HP88 := Kd.R_putg HO_244002.out ((ji74) : Int) t260) | ((with_reducible refine gate_store (t := 3) (p := 144) rfl ?_); (try (rw [drewN_self w87]; generalize hq_ : World.drewN w87 _ = w87; have n0_ := Aside0.mk (Kd.R_at hq_ HO_244002.out); have n1_ := Aside0.mk (blk_at hq_ BK241.out); have n2_ := Aside0.mk (blk_at hq_ BK242.out); have n3_ := Aside0.mk (blk_at hq_ BK243.out); have n4_ := Aside0.mk (below_at hq_ HB.out); clear hq_ HO_244002 BK241 BK242 BK243 HB; have HO_244002 := n0_; have BK241 := n1_; have BK242 := n2_; have BK243 := n3_; have HB := n4_; clear n0_ n1_ n2_ n3_ n4_; (try (obtain ⟨hy88_, hz88_⟩ := Kd.R_celln 0 HO_244002.out ((ji74) : Int) (of_decide_eq_true (by first | (with_reducible assumption) | assumption)) (of_decide_eq_true (by first | (with_reducible assumption) | assumption)))); (try (have HP88 := Kd.R_putg HO_244002.out ((ji74) : Int) t260)))); refine store_event (t := 3) (p := 144) (v := ?vo_w89) (w1 := (w87.setCell ⟨go81, ((ji74) : Int).toNat, none⟩ (.int .i64 t260))) ?hg ?ho ?hn ?hr ?_; (case ho => rfl); (case hg => rfl); (case hn => rfl); (case hr => first | (go_simp; done) | (go_simp; rfl)); intro w89 hw; have hg : w87.grownBy w89 (some go81) := (by rw [hw]; exact HP88.2); have hp_ : Kd.R (Kd.int .i64) 3 w89 w.heap.size (fun _ => True) (.slice (some ⟨go81, 0, none⟩) x244002_3.length co28) y262 := (by rw [hw, Ny262.out]; exact HP88.1); clear HP88; have n0_ := Aside0.mk (hp_); have n1_ := Aside0.mk (blk_grown (g := gb241) (o := .cells #[.int .i64 a0_0, .int .i64 a0_1, .slice A0_2 l0_2.length c0_2] 66 (0, 0)) (by (with_reducible repeat (first | refine blk_drewN ?_ _ | refine blk_drew ?_ | refine blk_alloc ?_ _)); exact BK241.out) hg (Kd.R_ne HO_244002.out BK241.out (by decide))); have n2_ := Aside0.mk (blk_grown (g := gb242) (o := .cells #[.int .i64 0, .int .i64 0, .slice none 0 0] 66 (0, 0)) (by (with_reducible repeat (first | refine blk_drewN ?_ _ | refine blk_drew ?_ | refine blk_alloc ?_ _)); exact BK242.out) hg (Kd.R_ne HO_244002.out BK242.out (by decide))); have n3_ := Aside0.mk (blk_grown (g := gb243) (o := .cells #[.int .i64 a0_0, .int .i64 a0_1, .slice (some ⟨go81, 0, none⟩) x244002_3.length co28] 66 (0, 0)) (by (with_reducible repeat (first | refine blk_drewN ?_ _ | refine blk_drew ?_ | refine blk_alloc ?_ _)); exact BK243.out) hg (Kd.R_ne HO_244002.out BK243.out (by decide))); have n4_ := Aside0.mk ((by rw [hw]; exact below_set (HB.out) GB81.out : Below w.heap.size w w89)); clear HO_244002; clear BK241; clear BK242; clear BK243; clear HB; have HO_244002 := n0_; have BK241 := n1_; have BK242 := n2_; have BK243 := n3_; have HB := n4_; clear n0_ n1_ n2_ n3_ n4_; clear hg hw hp_)); try go_quiet (first | (go_at_call 154; (with_reducible refine (spec_l13Edge.calls k3 (rd x244002_3 (ji68)) (rd x244002_3 (ji71)) (rd x244002_3 (ji74)) (rd x244002_3 (ji77)) a1 t259 t260 _ A80.out).mono ?_); rintro e w' ⟨rfl, ⟨nd, rfl⟩⟩; (try first | exact ⟨rfl, _, World.drewN_drewN _ _ _⟩ | exact ⟨rfl, _, Eq.trans (World.drewN_drewN _ _ _) (congrArg (World.drewN _) (Nat.add_assoc _ _ _))⟩)) | ((with_reducible refine gate_store (t := 3) (p := 140) rfl ?_); (try (rw [drewN_self wr]; generalize hq_ : World.drewN wr _ = wr; have n0_ := Aside0.mk (Kd.R_at hq_ HO_244002.out); have n1_ := Aside0.mk (blk_at hq_ BK241.out); have n2_ := Aside0.mk (blk_at hq_ BK242.out); have n3_ := Aside0.mk (blk_at hq_ BK243.out); have n4_ := Aside0.mk (below_at hq_ HB.out); clear hq_ HO_244002 BK241 BK242 BK243 HB; have HO_244002 := n0_; have BK241 := n1_; have BK242 := n2_; have BK243 := n3_; have HB := n4_; clear n0_ n1_ n2_ n3_ n4_; (try (obtain ⟨hy86_, hz86_⟩ := Kd.R_celln 0 HO_244002.out ((ji71) : Int) (of_decide_eq_true (by first | (with_reducible assumption) | assumption)) (of_decide_eq_true (by first | (with_reducible assumption) | assumption)))); (try (have HP86 := Kd.R_putg HO_244002.out ((ji71) : Int) t259)))); refine store_event (t := 3) (p := 140) (v := ?vo_w87) (w1 := (wr.setCell ⟨go81, ((ji71) : Int).toNat, none⟩ (.int .i64 t259))) ?hg ?ho ?hn ?hr ?_; (case ho => rfl); (case hg => rfl); (case hn => rfl); (case hr => first | (go_simp; done) | (go_simp; rfl)); intro w87 hw; have hg : wr.grownBy w87 (some go81) := (by rw [hw]; exact HP86.2); have hp_ : Kd.R (Kd.int .i64) 3 w87 w.heap.size (fun _ => True) (.slice (some ⟨go81, 0, none⟩) x244002_3.length co28) y261 := (by rw [hw, Ny261.out]; exact HP86.1); clear HP86; have n0_ := Aside0.mk (hp_); have n1_ := Aside0.mk (blk_grown (g := gb241) (o := .cells #[.int .i64 a0_0, .int .i64 a0_1, .slice A0_2 l0_2.length c0_2] 66 (0, 0)) (by (with_reducible repeat (first | refine blk_drewN ?_ _ | refine blk_drew ?_ | refine blk_alloc ?_ _)); exact BK241.out) hg (Kd.R_ne HO_244002.out BK241.out (by decide))); have n2_ := Aside0.mk (blk_grown (g := gb242) (o := .cells #[.int .i64 0, .int .i64 0, .slice none 0 0] 66 (0, 0)) (by (with_reducible repeat (first | refine blk_drewN ?_ _ | refine blk_drew ?_ | refine blk_alloc ?_ _)); exact BK242.out) hg (Kd.R_ne HO_244002.out BK242.out (by decide))); have n3_ := Aside0.mk (blk_grown (g := gb243) (o := .cells #[.int .i64 a0_0, .int .i64 a0_1, .slice (some ⟨go81, 0, none⟩) x244002_3.length co28] 66 (0, 0)) (by (with_reducible repeat (first | refine blk_drewN ?_ _ | refine blk_drew ?_ | refine blk_alloc ?_ _)); exact BK243.out) hg (Kd.R_ne HO_244002.out BK243.out (by decide))); have n4_ := Aside0.mk ((by rw [hw]; exact below_set (HB.out) GB81.out : Below w.heap.size w w87)); clear HO_244002; clear BK241; clear BK242; clear BK243; clear HB; have HO_244002 := n0_; have BK241 := n1_; have BK242 := n2_; have BK243 := n3_; have HB := n4_; clear n0_ n1_ n2_ n3_ n4_; clear hg hw hp_; have p82 : 0 ≤ ((ji74) : Int) := of_decide_eq_true (by first | (with_reducible assumption) | assumption); have q82 : ((ji74) : Int) < ((x244002_3.length : Int) : Int) := of_decide_eq_true (by first | (with_reducible assumption) | assumption); obtain ⟨hx82_0, hf82_0⟩ := Kd.R_celln 0 HO_244002.out ((ji74) : Int) p82 q82; replace p82 := eq_true p82; replace q82 := eq_true q82; obtain ⟨hy88_, hz88_⟩ := Kd.R_celln 0 HO_244002.out ((ji74) : Int) (of_decide_eq_true (by first | (with_reducible assumption) | assumption)) (of_decide_eq_true (by first | (with_reducible assumption) | assumption)); have HP88 := Kd.R_putg HO_244002.out ((ji74) : Int) t260) | ((with_reducible refine gate_store (t := 3) (p := 144) rfl ?_); (try (rw [drewN_self w87]; generalize hq_ : World.drewN w87 _ = w87; have n0_ := Aside0.mk (Kd.R_at hq_ HO_244002.out); have n1_ := Aside0.mk (blk_at hq_ BK241.out); have n2_ := Aside0.mk (blk_at hq_ BK242.out); have n3_ := Aside0.mk (blk_at hq_ BK243.out); have n4_ := Aside0.mk (below_at hq_ HB.out); clear hq_ HO_244002 BK241 BK242 BK243 HB; have HO_244002 := n0_; have BK241 := n1_; have BK242 := n2_; have BK243 := n3_; have HB := n4_; clear n0_ n1_ n2_ n3_ n4_; (try (obtain ⟨hy88_, hz88_⟩ := Kd.R_celln 0 HO_244002.out ((ji74) : Int) (of_decide_eq_true (by first | (with_reducible assumption) | assumption)) (of_decide_eq_true (by first | (with_reducible assumption) | assumption)))); (try (have HP88 := Kd.R_putg HO_244002.out ((ji74) : Int) t260)))); refine store_event (t := 3) (p := 144) (v := ?vo_w89) (w1 := (w87.setCell ⟨go81, ((ji74) : Int).toNat, none⟩ (.int .i64 t260))) ?hg ?ho ?hn ?hr ?_; (case ho => rfl); (case hg => rfl); (case hn => rfl); (case hr => first | (go_simp; done) | (go_simp; rfl)); intro w89 hw; have hg : w87.grownBy w89 (some go81) := (by rw [hw]; exact HP88.2); have hp_ : Kd.R (Kd.int .i64) 3 w89 w.heap.size (fun _ => True) (.slice (some ⟨go81, 0, none⟩) x244002_3.length co28) y262 := (by rw [hw, Ny262.out]; exact HP88.1); clear HP88; have n0_ := Aside0.mk (hp_); have n1_ := Aside0.mk (blk_grown (g := gb241) (o := .cells #[.int .i64 a0_0, .int .i64 a0_1, .slice A0_2 l0_2.length c0_2] 66 (0, 0)) (by (with_reducible repeat (first | refine blk_drewN ?_ _ | refine blk_drew ?_ | refine blk_alloc ?_ _)); exact BK241.out) hg (Kd.R_ne HO_244002.out BK241.out (by decide))); have n2_ := Aside0.mk (blk_grown (g := gb242) (o := .cells #[.int .i64 0, .int .i64 0, .slice none 0 0] 66 (0, 0)) (by (with_reducible repeat (first | refine blk_drewN ?_ _ | refine blk_drew ?_ | refine blk_alloc ?_ _)); exact BK242.out) hg (Kd.R_ne HO_244002.out BK242.out (by decide))); have n3_ := Aside0.mk (blk_grown (g := gb243) (o := .cells #[.int .i64 a0_0, .int .i64 a0_1, .slice (some ⟨go81, 0, none⟩) x244002_3.length co28] 66 (0, 0)) (by (with_reducible repeat (first | refine blk_drewN ?_ _ | refine blk_drew ?_ | refine blk_alloc ?_ _)); exact BK243.out) hg (Kd.R_ne HO_244002.out BK243.out (by decide))); have n4_ := Aside0.mk ((by rw [hw]; exact below_set (HB.out) GB81.out : Below w.heap.size w w89)); clear HO_244002; clear BK241; clear BK242; clear BK243; clear HB; have HO_244002 := n0_; have BK241 := n1_; have BK242 := n2_; have BK243 := n3_; have HB := n4_; clear n0_ n1_ n2_ n3_ n4_; clear hg hw hp_)))
              (try simp only [← hl244002_3])
              go_roundg k3
              case measure => have := HK1.out; have := HK2.out; have := HK3.out; omega
              case rel => exact ⟨(wrap64 (x13_3 + 4)), (y262), (by first | rfl | (simp; done) | (simp [*]; done)), H', ⟨by have := HK1.out; have := HK2.out; have := HK3.out; omega⟩, ⟨by (try simp only [hl244002_1]); (try simp only [hl244002_2]); (try simp only [hl244002_3]); (with_reducible repeat (first | apply Kd.R_alloc | apply Kd.R_drewN | apply Kd.R_drew)); exact HO_244002.out⟩, ⟨by (try simp only [hl244002_1]); (try simp only [hl244002_2]); (try simp only [hl244002_3]); (with_reducible repeat (first | refine blk_drewN ?_ _ | refine blk_drew ?_ | refine blk_alloc ?_ _)); exact BK241.out⟩, ⟨by (try simp only [hl244002_1]); (try simp only [hl244002_2]); (try simp only [hl244002_3]); (with_reducible repeat (first | refine blk_drewN ?_ _ | refine blk_drew ?_ | refine blk_alloc ?_ _)); exact BK242.out⟩, ⟨by (try simp only [hl244002_1]); (try simp only [hl244002_2]); (try simp only [hl244002_3]); (with_reducible repeat (first | refine blk_drewN ?_ _ | refine blk_drew ?_ | refine blk_alloc ?_ _)); exact BK243.out⟩, ⟨by repeat (first | (with_reducible first | exact HB.out | apply below_alloc | apply pw_below_drewN | apply below_drew1 | refine below_set ?_ GE241.out | refine below_set ?_ GE242.out | refine below_set ?_ GE243.out) | exact HB.out)⟩⟩

end Go.Proofs.Ytggokppfhkebkaa.PFnSmooth

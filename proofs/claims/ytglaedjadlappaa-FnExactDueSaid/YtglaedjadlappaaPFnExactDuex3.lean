-- written by myprint.py (a program of this session's over the kit's print)
import Derived.Test.YtglaedjadlappaaPFnExactDuex0
import Derived.Test.YtglaedjadlappaaPFnExactDuex2
namespace Go.Proofs.Ytglaedjadlappaa.PFnExactDue
open Go.RowKit Go.Proofs.YtglaedjadlappaaW.PrintWords Go.Proofs.YtglaedjadlappaaW.PrintLast
set_option linter.unusedVariables false
set_option linter.unusedSimpArgs false

/-! ### spec_l16Earlier: function 168 -/
def spec_l16Earlier.f (l0_0 : List (S186)) (l0_1 : List (S185)) (a1 : Int) (a2 : Int) : Option (Bool) := if 0 ≤ a1 then (if a1 < (l0_1.length : Int) then (if 0 ≤ a2 then (if a2 < (l0_1.length : Int) then (if 0 ≤ ((rd_T185 l0_1 a2).f0) then (if ((rd_T185 l0_1 a2).f0) < (l0_0.length : Int) then (if 0 ≤ ((rd_T185 l0_1 a1).f0) then (if ((rd_T185 l0_1 a1).f0) < (l0_0.length : Int) then (if (wrap64 (((rd_T185 l0_1 a1).f1) * ((rd_T186 l0_0 ((rd_T185 l0_1 a2).f0)).f1))) = (wrap64 (((rd_T185 l0_1 a2).f1) * ((rd_T186 l0_0 ((rd_T185 l0_1 a1).f0)).f1))) then (if ((rd_T185 l0_1 a1).f0) = ((rd_T185 l0_1 a2).f0) then (some (decide (a1 < a2))) else (some (decide (((rd_T185 l0_1 a1).f0) < ((rd_T185 l0_1 a2).f0))))) else (some (decide ((wrap64 (((rd_T185 l0_1 a1).f1) * ((rd_T186 l0_0 ((rd_T185 l0_1 a2).f0)).f1))) < (wrap64 (((rd_T185 l0_1 a2).f1) * ((rd_T186 l0_0 ((rd_T185 l0_1 a1).f0)).f1))))))) else (none)) else (none)) else (none)) else (none)) else (none)) else (none)) else (none)) else (none)
def spec_l16Earlier.T3 : Bool × List (List Nat × List Nat) := (true, [([], []), ([0], [0]), ([], []), ([2], [2]), ([], []), ([4], [4]), ([3, 5], [3, 5]), ([6], [6]), ([7], [7]), ([1, 8], [1, 8]), ([9, 0, 1, 2, 3, 4, 5, 6, 7, 8, 9], [9])])
def spec_l16Earlier.B3 : List Nat := [0, 1, 0, 4, 0, 16, 60, 124, 252, 511, 1023]
theorem spec_l16Earlier.tab3 : rtab .any (opsOf Try.f168 3) = spec_l16Earlier.T3 := by kernel_rfl
theorem spec_l16Earlier.bits3 : waitsOk spec_l16Earlier.T3.2 spec_l16Earlier.B3 = true := by kernel_rfl
def spec_l16Earlier.T4 : Bool × List (List Nat × List Nat) := (true, [([], []), ([0], [0]), ([], []), ([2], [2]), ([], []), ([4], [4]), ([3, 5], [3, 5]), ([6], [6]), ([7], [7]), ([1, 8], [1, 8]), ([9, 0, 1, 2, 3, 4, 5, 6, 7, 8, 9], [9])])
def spec_l16Earlier.B4 : List Nat := [0, 1, 0, 4, 0, 16, 60, 124, 252, 511, 1023]
theorem spec_l16Earlier.tab4 : rtab .any (opsOf Try.f168 4) = spec_l16Earlier.T4 := by kernel_rfl
theorem spec_l16Earlier.bits4 : waitsOk spec_l16Earlier.T4.2 spec_l16Earlier.B4 = true := by kernel_rfl
set_option maxHeartbeats 8000000 in
set_option maxRecDepth 100000 in
theorem spec_l16Earlier.calls (A0_0 : Option Addr) (c0_0 : Nat) (l0_0 : List (S186)) (A0_1 : Option Addr) (c0_1 : Nat) (l0_1 : List (S185)) (a1 : Int) (a2 : Int) (r : Bool) (w : World) (hr0_0 : Kd.C k186 w A0_0 l0_0.length l0_0) (hc0_0 : l0_0.length ≤ c0_0) (hr0_1 : Kd.C k185 w A0_1 l0_1.length l0_1) (hc0_1 : l0_1.length ≤ c0_1) (h : spec_l16Earlier.f l0_0 l0_1 a1 a2 = some r) :
    Calls Try.prog 168 #[.agg #[.slice A0_0 l0_0.length c0_0, .slice A0_1 l0_1.length c0_1], .int .i64 a1, .int .i64 a2] w fun e w' => e = .returned (.bool r) ∧ Below w.heap.size w w' := by
  have hu76 := Try.underlying76
  have hu185 := Try.underlying185
  have HR0_0 := Aside0.mk hr0_0
  have HC0_0 := Aside0.mk hc0_0
  clear hr0_0 hc0_0
  have HR0_1 := Aside0.mk hr0_1
  have HC0_1 := Aside0.mk hc0_1
  clear hr0_1 hc0_1
  have HB := Aside0.mk (Below.refl w.heap.size w)
  have H : (if 0 ≤ a1 then (if a1 < (l0_1.length : Int) then (if 0 ≤ a2 then (if a2 < (l0_1.length : Int) then (if 0 ≤ ((rd_T185 l0_1 a2).f0) then (if ((rd_T185 l0_1 a2).f0) < (l0_0.length : Int) then (if 0 ≤ ((rd_T185 l0_1 a1).f0) then (if ((rd_T185 l0_1 a1).f0) < (l0_0.length : Int) then (if (wrap64 (((rd_T185 l0_1 a1).f1) * ((rd_T186 l0_0 ((rd_T185 l0_1 a2).f0)).f1))) = (wrap64 (((rd_T185 l0_1 a2).f1) * ((rd_T186 l0_0 ((rd_T185 l0_1 a1).f0)).f1))) then (if ((rd_T185 l0_1 a1).f0) = ((rd_T185 l0_1 a2).f0) then (some (decide (a1 < a2))) else (some (decide (((rd_T185 l0_1 a1).f0) < ((rd_T185 l0_1 a2).f0))))) else (some (decide ((wrap64 (((rd_T185 l0_1 a1).f1) * ((rd_T186 l0_0 ((rd_T185 l0_1 a2).f0)).f1))) < (wrap64 (((rd_T185 l0_1 a2).f1) * ((rd_T186 l0_0 ((rd_T185 l0_1 a1).f0)).f1))))))) else (none)) else (none)) else (none)) else (none)) else (none)) else (none)) else (none)) else (none)) = some r := h
  clear h
  by_cases c4 : 0 ≤ a1
  rotate_left
  · rw [if_neg c4] at H
    exact absurd H (by simp)
  rw [if_pos c4] at H
  have c4b0 : decide (0 ≤ a1) = true := decide_eq_true c4
  clear c4
  by_cases c5 : a1 < (l0_1.length : Int)
  rotate_left
  · rw [if_neg c5] at H
    exact absurd H (by simp)
  rw [if_pos c5] at H
  have c5b0 : decide (a1 < (l0_1.length : Int)) = true := decide_eq_true c5
  clear c5
  by_cases c6 : 0 ≤ a2
  rotate_left
  · rw [if_neg c6] at H
    exact absurd H (by simp)
  rw [if_pos c6] at H
  have c6b0 : decide (0 ≤ a2) = true := decide_eq_true c6
  clear c6
  by_cases c7 : a2 < (l0_1.length : Int)
  rotate_left
  · rw [if_neg c7] at H
    exact absurd H (by simp)
  rw [if_pos c7] at H
  have c7b0 : decide (a2 < (l0_1.length : Int)) = true := decide_eq_true c7
  clear c7
  by_cases c8 : 0 ≤ ((rd_T185 l0_1 a2).f0)
  rotate_left
  · rw [if_neg c8] at H
    exact absurd H (by simp)
  rw [if_pos c8] at H
  have c8b0 : decide (0 ≤ ((rd_T185 l0_1 a2).f0)) = true := decide_eq_true c8
  clear c8
  by_cases c9 : ((rd_T185 l0_1 a2).f0) < (l0_0.length : Int)
  rotate_left
  · rw [if_neg c9] at H
    exact absurd H (by simp)
  rw [if_pos c9] at H
  have c9b0 : decide (((rd_T185 l0_1 a2).f0) < (l0_0.length : Int)) = true := decide_eq_true c9
  clear c9
  by_cases c10 : 0 ≤ ((rd_T185 l0_1 a1).f0)
  rotate_left
  · rw [if_neg c10] at H
    exact absurd H (by simp)
  rw [if_pos c10] at H
  have c10b0 : decide (0 ≤ ((rd_T185 l0_1 a1).f0)) = true := decide_eq_true c10
  clear c10
  by_cases c11 : ((rd_T185 l0_1 a1).f0) < (l0_0.length : Int)
  rotate_left
  · rw [if_neg c11] at H
    exact absurd H (by simp)
  rw [if_pos c11] at H
  have c11b0 : decide (((rd_T185 l0_1 a1).f0) < (l0_0.length : Int)) = true := decide_eq_true c11
  clear c11
  by_cases c12 : (wrap64 (((rd_T185 l0_1 a1).f1) * ((rd_T186 l0_0 ((rd_T185 l0_1 a2).f0)).f1))) = (wrap64 (((rd_T185 l0_1 a2).f1) * ((rd_T186 l0_0 ((rd_T185 l0_1 a1).f0)).f1)))
  rw [if_pos c12] at H
  have c12b0 : ((wrap64 (((rd_T185 l0_1 a1).f1) * ((rd_T186 l0_0 ((rd_T185 l0_1 a2).f0)).f1))) == (wrap64 (((rd_T185 l0_1 a2).f1) * ((rd_T186 l0_0 ((rd_T185 l0_1 a1).f0)).f1)))) = true := beq_iff_eq.mpr c12
  have c12b1 : ((wrap64 (((rd_T185 l0_1 a1).f1) * ((rd_T186 l0_0 ((rd_T185 l0_1 a2).f0)).f1))) != (wrap64 (((rd_T185 l0_1 a2).f1) * ((rd_T186 l0_0 ((rd_T185 l0_1 a1).f0)).f1)))) = false := bne_eq_false_iff_eq.mpr c12
  clear c12
  by_cases c13 : ((rd_T185 l0_1 a1).f0) = ((rd_T185 l0_1 a2).f0)
  rw [if_pos c13] at H
  have c13b0 : (((rd_T185 l0_1 a1).f0) == ((rd_T185 l0_1 a2).f0)) = true := beq_iff_eq.mpr c13
  have c13b1 : (((rd_T185 l0_1 a1).f0) != ((rd_T185 l0_1 a2).f0)) = false := bne_eq_false_iff_eq.mpr c13
  clear c13
  obtain rfl := Option.some.inj H
  rotate_left
  rw [if_neg c13] at H
  have c13b0 : (((rd_T185 l0_1 a1).f0) == ((rd_T185 l0_1 a2).f0)) = false := beq_eq_false_iff_ne.mpr c13
  have c13b1 : (((rd_T185 l0_1 a1).f0) != ((rd_T185 l0_1 a2).f0)) = true := bne_iff_ne.mpr c13
  obtain rfl := Option.some.inj H
  rotate_left
  rw [if_neg c12] at H
  have c12b0 : ((wrap64 (((rd_T185 l0_1 a1).f1) * ((rd_T186 l0_0 ((rd_T185 l0_1 a2).f0)).f1))) == (wrap64 (((rd_T185 l0_1 a2).f1) * ((rd_T186 l0_0 ((rd_T185 l0_1 a1).f0)).f1)))) = false := beq_eq_false_iff_ne.mpr c12
  have c12b1 : ((wrap64 (((rd_T185 l0_1 a1).f1) * ((rd_T186 l0_0 ((rd_T185 l0_1 a2).f0)).f1))) != (wrap64 (((rd_T185 l0_1 a2).f1) * ((rd_T186 l0_0 ((rd_T185 l0_1 a1).f0)).f1)))) = true := bne_iff_ne.mpr c12
  obtain rfl := Option.some.inj H
  all_goals
    go_enter Try.func168, Try.ntmps168
    try go_wp2_with (first | ((with_reducible refine gate_dst (N := 3) rfl ?_); refine box_event ?hg (N := 3) ?hd (cs := #[.slice A0_0 l0_0.length c0_0, .slice A0_1 l0_1.length c0_1]) (t := 76) ?hr ?_; (case hd => rfl); (case hg => rfl); (case hr => first | (go_simp; done) | (go_simp; rfl)); intro gb129 hg w14 hbox hb; have n0_ := Aside0.mk (below_step (by repeat (first | (with_reducible first | exact HB.out | apply below_alloc | apply pw_below_drewN | apply below_drew1) | exact HB.out)) hb); have n1_ := Aside0.mk (hbox); have n2_ := Aside0.mk ((by rw [hg]; exact (below_size (by repeat (first | (with_reducible first | exact HB.out | apply below_alloc | apply pw_below_drewN | apply below_drew1) | exact HB.out))) : w.heap.size ≤ gb129)); have n3_ := n2_; clear HB; have HB := n0_; have BK129 := n1_; have GW129 := n2_; have GE129 := n3_; clear n0_ n1_ n2_ n3_; clear hb hbox hg; have hcz15_0 : w14.cell? ⟨gb129, 0, none⟩ = some (.slice A0_0 l0_0.length c0_0) := (blk_cell BK129.out 0).trans rfl; have hcz15_1 : w14.cell? ⟨gb129, 1, none⟩ = some (.slice A0_1 l0_1.length c0_1) := (blk_cell BK129.out 1).trans rfl; have hfz15_0 := blk_frozen BK129.out 0; have hfz15_1 := blk_frozen BK129.out 1; have p130 : 0 ≤ (a1 : Int) := of_decide_eq_true (by first | (with_reducible assumption) | assumption); have q130 : a1 < (l0_1.length : Int) := of_decide_eq_true (by first | (with_reducible assumption) | assumption); obtain ⟨ad130, A130_4, c130_4, e130, hx130_0, hx130_1, hx130_2, hx130_3, hx130_4, hl130_4, hi130_4⟩ := at_T185 HR0_1.out a1 p130 q130; cases e130; replace hx130_0 := (HB.out.cell (World.block_lt_of_cell? w _ hx130_0)).trans hx130_0; replace hx130_1 := (HB.out.cell (World.block_lt_of_cell? w _ hx130_1)).trans hx130_1; replace hx130_2 := (HB.out.cell (World.block_lt_of_cell? w _ hx130_2)).trans hx130_2; replace hx130_3 := (HB.out.cell (World.block_lt_of_cell? w _ hx130_3)).trans hx130_3; replace hx130_4 := (HB.out.cell (World.block_lt_of_cell? w _ hx130_4)).trans hx130_4; have HR130_4 := Aside0.mk hi130_4; have HC130_4 := Aside0.mk hl130_4; clear hi130_4 hl130_4; replace p130 := eq_true p130; replace q130 := eq_true q130) | ((with_reducible refine gate_dst (N := 7) rfl ?_); refine box_event ?hg (N := 7) ?hd (cs := #[.int .i64 0, .int .i64 0, .int .i64 0, .bool false, .slice none 0 0]) (t := 185) ?hr ?_; (case hd => rfl); (case hg => rfl); (case hr => first | (go_simp; done) | (go_simp; rfl)); intro gb131 hg w16 hbox hb; have n0_ := Aside0.mk (blk_below (g := gb129) (o := .cells #[.slice A0_0 l0_0.length c0_0, .slice (some ad130) l0_1.length c0_1] 76 (0, 0)) (by (with_reducible repeat (first | refine blk_drewN ?_ _ | refine blk_drew ?_ | refine blk_alloc ?_ _)); exact BK129.out) hb); have n1_ := Aside0.mk (below_step (by repeat (first | (with_reducible first | exact HB.out | apply below_alloc | apply pw_below_drewN | apply below_drew1 | refine below_set ?_ GE129.out) | exact HB.out)) hb); have n2_ := Aside0.mk (hbox); have n3_ := Aside0.mk ((by rw [hg]; exact (below_size (by repeat (first | (with_reducible first | exact HB.out | apply below_alloc | apply pw_below_drewN | apply below_drew1 | refine below_set ?_ GE129.out) | exact HB.out))) : w.heap.size ≤ gb131)); have n4_ := n3_; have n5_ := Aside0.mk ((by rw [hg]; exact Nat.ne_of_lt (blk_lt (g := gb129) (o := .cells #[.slice A0_0 l0_0.length c0_0, .slice (some ad130) l0_1.length c0_1] 76 (0, 0)) (by (with_reducible repeat (first | refine blk_drewN ?_ _ | refine blk_drew ?_ | refine blk_alloc ?_ _)); exact BK129.out)) : gb129 ≠ gb131)); have n6_ := Aside0.mk ((by rw [hg]; exact Nat.ne_of_gt (blk_lt (g := gb129) (o := .cells #[.slice A0_0 l0_0.length c0_0, .slice (some ad130) l0_1.length c0_1] 76 (0, 0)) (by (with_reducible repeat (first | refine blk_drewN ?_ _ | refine blk_drew ?_ | refine blk_alloc ?_ _)); exact BK129.out)) : gb131 ≠ gb129)); clear BK129; clear HB; have BK129 := n0_; have HB := n1_; have BK131 := n2_; have GW131 := n3_; have GE131 := n4_; have NB129_131 := n5_; have NB131_129 := n6_; clear n0_ n1_ n2_ n3_ n4_ n5_ n6_; clear hb hbox hg; have hnb17 := NB131_129.out; have hnc17 := NB129_131.out; have hcz18_0 : w16.cell? ⟨gb131, 0, none⟩ = some (.int .i64 0) := (blk_cell BK131.out 0).trans rfl; have hcz18_1 : w16.cell? ⟨gb131, 1, none⟩ = some (.int .i64 0) := (blk_cell BK131.out 1).trans rfl; have hcz18_2 : w16.cell? ⟨gb131, 2, none⟩ = some (.int .i64 0) := (blk_cell BK131.out 2).trans rfl; have hcz18_3 : w16.cell? ⟨gb131, 3, none⟩ = some (.bool false) := (blk_cell BK131.out 3).trans rfl; have hcz18_4 : w16.cell? ⟨gb131, 4, none⟩ = some (.slice none 0 0) := (blk_cell BK131.out 4).trans rfl; have hfz18_0 := blk_frozen BK131.out 0; have hfz18_1 := blk_frozen BK131.out 1; have hfz18_2 := blk_frozen BK131.out 2; have hfz18_3 := blk_frozen BK131.out 3; have hfz18_4 := blk_frozen BK131.out 4; have hcz19_0 : w16.cell? ⟨gb129, 0, none⟩ = some (.slice A0_0 l0_0.length c0_0) := (blk_cell BK129.out 0).trans rfl; have hcz19_1 : w16.cell? ⟨gb129, 1, none⟩ = some (.slice (some ad130) l0_1.length c0_1) := (blk_cell BK129.out 1).trans rfl; have hfz19_0 := blk_frozen BK129.out 0; have hfz19_1 := blk_frozen BK129.out 1; have p132 : 0 ≤ (a2 : Int) := of_decide_eq_true (by first | (with_reducible assumption) | assumption); have q132 : a2 < (l0_1.length : Int) := of_decide_eq_true (by first | (with_reducible assumption) | assumption); obtain ⟨ad132, A132_4, c132_4, e132, hx132_0, hx132_1, hx132_2, hx132_3, hx132_4, hl132_4, hi132_4⟩ := at_T185 HR0_1.out a2 p132 q132; obtain rfl : ad130 = ad132 := (by injection e132); have hn132_0 : ad130.block ≠ gb131 := Nat.ne_of_lt (Nat.lt_of_lt_of_le (by have := World.block_lt_of_cell? _ _ hx132_0; first | rwa [add_block] at this | exact this) GW131.out); have hn132_1 : ad130.block ≠ gb131 := Nat.ne_of_lt (Nat.lt_of_lt_of_le (by have := World.block_lt_of_cell? _ _ hx132_0; first | rwa [add_block] at this | exact this) GW131.out); have hn132_2 : ad130.block ≠ gb131 := Nat.ne_of_lt (Nat.lt_of_lt_of_le (by have := World.block_lt_of_cell? _ _ hx132_0; first | rwa [add_block] at this | exact this) GW131.out); have hn132_3 : ad130.block ≠ gb131 := Nat.ne_of_lt (Nat.lt_of_lt_of_le (by have := World.block_lt_of_cell? _ _ hx132_0; first | rwa [add_block] at this | exact this) GW131.out); have hn132_4 : ad130.block ≠ gb131 := Nat.ne_of_lt (Nat.lt_of_lt_of_le (by have := World.block_lt_of_cell? _ _ hx132_0; first | rwa [add_block] at this | exact this) GW131.out); replace hx132_0 := (HB.out.cell (World.block_lt_of_cell? w _ hx132_0)).trans hx132_0; replace hx132_1 := (HB.out.cell (World.block_lt_of_cell? w _ hx132_1)).trans hx132_1; replace hx132_2 := (HB.out.cell (World.block_lt_of_cell? w _ hx132_2)).trans hx132_2; replace hx132_3 := (HB.out.cell (World.block_lt_of_cell? w _ hx132_3)).trans hx132_3; replace hx132_4 := (HB.out.cell (World.block_lt_of_cell? w _ hx132_4)).trans hx132_4; have HR132_4 := Aside0.mk hi132_4; have HC132_4 := Aside0.mk hl132_4; clear hi132_4 hl132_4; replace hx132_0 := (cell_far (p := ⟨gb131, 0, none⟩) (by first | (rw [add_block]; exact hn132_0) | (show (Addr.add _ _).block ≠ _; rw [add_block]; exact hn132_0) | exact hn132_0) (.int .i64 ((rd_T185 l0_1 a1).f0))).trans hx132_0; replace hx132_1 := (cell_far (p := ⟨gb131, 0, none⟩) (by first | (rw [add_block]; exact hn132_0) | (show (Addr.add _ _).block ≠ _; rw [add_block]; exact hn132_0) | exact hn132_0) (.int .i64 ((rd_T185 l0_1 a1).f0))).trans hx132_1; replace hx132_2 := (cell_far (p := ⟨gb131, 0, none⟩) (by first | (rw [add_block]; exact hn132_0) | (show (Addr.add _ _).block ≠ _; rw [add_block]; exact hn132_0) | exact hn132_0) (.int .i64 ((rd_T185 l0_1 a1).f0))).trans hx132_2; replace hx132_3 := (cell_far (p := ⟨gb131, 0, none⟩) (by first | (rw [add_block]; exact hn132_0) | (show (Addr.add _ _).block ≠ _; rw [add_block]; exact hn132_0) | exact hn132_0) (.int .i64 ((rd_T185 l0_1 a1).f0))).trans hx132_3; replace hx132_4 := (cell_far (p := ⟨gb131, 0, none⟩) (by first | (rw [add_block]; exact hn132_0) | (show (Addr.add _ _).block ≠ _; rw [add_block]; exact hn132_0) | exact hn132_0) (.int .i64 ((rd_T185 l0_1 a1).f0))).trans hx132_4; replace hx132_0 := (cell_far (p := ⟨gb131, 1, none⟩) (by first | (rw [add_block]; exact hn132_1) | (show (Addr.add _ _).block ≠ _; rw [add_block]; exact hn132_1) | exact hn132_1) (.int .i64 ((rd_T185 l0_1 a1).f1))).trans hx132_0; replace hx132_1 := (cell_far (p := ⟨gb131, 1, none⟩) (by first | (rw [add_block]; exact hn132_1) | (show (Addr.add _ _).block ≠ _; rw [add_block]; exact hn132_1) | exact hn132_1) (.int .i64 ((rd_T185 l0_1 a1).f1))).trans hx132_1; replace hx132_2 := (cell_far (p := ⟨gb131, 1, none⟩) (by first | (rw [add_block]; exact hn132_1) | (show (Addr.add _ _).block ≠ _; rw [add_block]; exact hn132_1) | exact hn132_1) (.int .i64 ((rd_T185 l0_1 a1).f1))).trans hx132_2; replace hx132_3 := (cell_far (p := ⟨gb131, 1, none⟩) (by first | (rw [add_block]; exact hn132_1) | (show (Addr.add _ _).block ≠ _; rw [add_block]; exact hn132_1) | exact hn132_1) (.int .i64 ((rd_T185 l0_1 a1).f1))).trans hx132_3; replace hx132_4 := (cell_far (p := ⟨gb131, 1, none⟩) (by first | (rw [add_block]; exact hn132_1) | (show (Addr.add _ _).block ≠ _; rw [add_block]; exact hn132_1) | exact hn132_1) (.int .i64 ((rd_T185 l0_1 a1).f1))).trans hx132_4; replace hx132_0 := (cell_far (p := ⟨gb131, 2, none⟩) (by first | (rw [add_block]; exact hn132_2) | (show (Addr.add _ _).block ≠ _; rw [add_block]; exact hn132_2) | exact hn132_2) (.int .i64 ((rd_T185 l0_1 a1).f2))).trans hx132_0; replace hx132_1 := (cell_far (p := ⟨gb131, 2, none⟩) (by first | (rw [add_block]; exact hn132_2) | (show (Addr.add _ _).block ≠ _; rw [add_block]; exact hn132_2) | exact hn132_2) (.int .i64 ((rd_T185 l0_1 a1).f2))).trans hx132_1; replace hx132_2 := (cell_far (p := ⟨gb131, 2, none⟩) (by first | (rw [add_block]; exact hn132_2) | (show (Addr.add _ _).block ≠ _; rw [add_block]; exact hn132_2) | exact hn132_2) (.int .i64 ((rd_T185 l0_1 a1).f2))).trans hx132_2; replace hx132_3 := (cell_far (p := ⟨gb131, 2, none⟩) (by first | (rw [add_block]; exact hn132_2) | (show (Addr.add _ _).block ≠ _; rw [add_block]; exact hn132_2) | exact hn132_2) (.int .i64 ((rd_T185 l0_1 a1).f2))).trans hx132_3; replace hx132_4 := (cell_far (p := ⟨gb131, 2, none⟩) (by first | (rw [add_block]; exact hn132_2) | (show (Addr.add _ _).block ≠ _; rw [add_block]; exact hn132_2) | exact hn132_2) (.int .i64 ((rd_T185 l0_1 a1).f2))).trans hx132_4; replace hx132_0 := (cell_far (p := ⟨gb131, 3, none⟩) (by first | (rw [add_block]; exact hn132_3) | (show (Addr.add _ _).block ≠ _; rw [add_block]; exact hn132_3) | exact hn132_3) (.bool ((rd_T185 l0_1 a1).f3))).trans hx132_0; replace hx132_1 := (cell_far (p := ⟨gb131, 3, none⟩) (by first | (rw [add_block]; exact hn132_3) | (show (Addr.add _ _).block ≠ _; rw [add_block]; exact hn132_3) | exact hn132_3) (.bool ((rd_T185 l0_1 a1).f3))).trans hx132_1; replace hx132_2 := (cell_far (p := ⟨gb131, 3, none⟩) (by first | (rw [add_block]; exact hn132_3) | (show (Addr.add _ _).block ≠ _; rw [add_block]; exact hn132_3) | exact hn132_3) (.bool ((rd_T185 l0_1 a1).f3))).trans hx132_2; replace hx132_3 := (cell_far (p := ⟨gb131, 3, none⟩) (by first | (rw [add_block]; exact hn132_3) | (show (Addr.add _ _).block ≠ _; rw [add_block]; exact hn132_3) | exact hn132_3) (.bool ((rd_T185 l0_1 a1).f3))).trans hx132_3; replace hx132_4 := (cell_far (p := ⟨gb131, 3, none⟩) (by first | (rw [add_block]; exact hn132_3) | (show (Addr.add _ _).block ≠ _; rw [add_block]; exact hn132_3) | exact hn132_3) (.bool ((rd_T185 l0_1 a1).f3))).trans hx132_4; replace hx132_0 := (cell_far (p := ⟨gb131, 4, none⟩) (by first | (rw [add_block]; exact hn132_4) | (show (Addr.add _ _).block ≠ _; rw [add_block]; exact hn132_4) | exact hn132_4) (.slice A130_4 ((rd_T185 l0_1 a1).f4).length c130_4)).trans hx132_0; replace hx132_1 := (cell_far (p := ⟨gb131, 4, none⟩) (by first | (rw [add_block]; exact hn132_4) | (show (Addr.add _ _).block ≠ _; rw [add_block]; exact hn132_4) | exact hn132_4) (.slice A130_4 ((rd_T185 l0_1 a1).f4).length c130_4)).trans hx132_1; replace hx132_2 := (cell_far (p := ⟨gb131, 4, none⟩) (by first | (rw [add_block]; exact hn132_4) | (show (Addr.add _ _).block ≠ _; rw [add_block]; exact hn132_4) | exact hn132_4) (.slice A130_4 ((rd_T185 l0_1 a1).f4).length c130_4)).trans hx132_2; replace hx132_3 := (cell_far (p := ⟨gb131, 4, none⟩) (by first | (rw [add_block]; exact hn132_4) | (show (Addr.add _ _).block ≠ _; rw [add_block]; exact hn132_4) | exact hn132_4) (.slice A130_4 ((rd_T185 l0_1 a1).f4).length c130_4)).trans hx132_3; replace hx132_4 := (cell_far (p := ⟨gb131, 4, none⟩) (by first | (rw [add_block]; exact hn132_4) | (show (Addr.add _ _).block ≠ _; rw [add_block]; exact hn132_4) | exact hn132_4) (.slice A130_4 ((rd_T185 l0_1 a1).f4).length c130_4)).trans hx132_4; clear hn132_0; clear hn132_1; clear hn132_2; clear hn132_3; clear hn132_4; replace p132 := eq_true p132; replace q132 := eq_true q132) | ((with_reducible refine gate_dst (N := 8) rfl ?_); refine box_event ?hg (N := 8) ?hd (cs := #[.int .i64 0, .int .i64 0, .int .i64 0, .bool false, .slice none 0 0]) (t := 185) ?hr ?_; (case hd => rfl); (case hg => rfl); (case hr => first | (go_simp; done) | (go_simp; rfl)); intro gb133 hg w20 hbox hb; have n0_ := Aside0.mk (blk_below (g := gb129) (o := .cells #[.slice A0_0 l0_0.length c0_0, .slice (some ad130) l0_1.length c0_1] 76 (0, 0)) (by (with_reducible repeat (first | refine blk_drewN ?_ _ | refine blk_drew ?_ | refine blk_alloc ?_ _)); refine blk_far ?_ NB129_131.out _; (with_reducible repeat (first | refine blk_drewN ?_ _ | refine blk_drew ?_ | refine blk_alloc ?_ _)); refine blk_far ?_ NB129_131.out _; (with_reducible repeat (first | refine blk_drewN ?_ _ | refine blk_drew ?_ | refine blk_alloc ?_ _)); refine blk_far ?_ NB129_131.out _; (with_reducible repeat (first | refine blk_drewN ?_ _ | refine blk_drew ?_ | refine blk_alloc ?_ _)); refine blk_far ?_ NB129_131.out _; (with_reducible repeat (first | refine blk_drewN ?_ _ | refine blk_drew ?_ | refine blk_alloc ?_ _)); refine blk_far ?_ NB129_131.out _; (with_reducible repeat (first | refine blk_drewN ?_ _ | refine blk_drew ?_ | refine blk_alloc ?_ _)); exact BK129.out) hb); have n1_ := Aside0.mk (blk_below (g := gb131) (o := .cells #[.int .i64 ((rd_T185 l0_1 a1).f0), .int .i64 ((rd_T185 l0_1 a1).f1), .int .i64 ((rd_T185 l0_1 a1).f2), .bool ((rd_T185 l0_1 a1).f3), .slice A130_4 ((rd_T185 l0_1 a1).f4).length c130_4] 185 (0, 0)) (by (with_reducible repeat (first | refine blk_drewN ?_ _ | refine blk_drew ?_ | refine blk_alloc ?_ _)); refine blk_put (cs := #[.int .i64 ((rd_T185 l0_1 a1).f0), .int .i64 ((rd_T185 l0_1 a1).f1), .int .i64 ((rd_T185 l0_1 a1).f2), .bool ((rd_T185 l0_1 a1).f3), .slice none 0 0]) ?_ 4 _ rfl; (with_reducible repeat (first | refine blk_drewN ?_ _ | refine blk_drew ?_ | refine blk_alloc ?_ _)); refine blk_put (cs := #[.int .i64 ((rd_T185 l0_1 a1).f0), .int .i64 ((rd_T185 l0_1 a1).f1), .int .i64 ((rd_T185 l0_1 a1).f2), .bool false, .slice none 0 0]) ?_ 3 _ rfl; (with_reducible repeat (first | refine blk_drewN ?_ _ | refine blk_drew ?_ | refine blk_alloc ?_ _)); refine blk_put (cs := #[.int .i64 ((rd_T185 l0_1 a1).f0), .int .i64 ((rd_T185 l0_1 a1).f1), .int .i64 0, .bool false, .slice none 0 0]) ?_ 2 _ rfl; (with_reducible repeat (first | refine blk_drewN ?_ _ | refine blk_drew ?_ | refine blk_alloc ?_ _)); refine blk_put (cs := #[.int .i64 ((rd_T185 l0_1 a1).f0), .int .i64 0, .int .i64 0, .bool false, .slice none 0 0]) ?_ 1 _ rfl; (with_reducible repeat (first | refine blk_drewN ?_ _ | refine blk_drew ?_ | refine blk_alloc ?_ _)); refine blk_put (cs := #[.int .i64 0, .int .i64 0, .int .i64 0, .bool false, .slice none 0 0]) ?_ 0 _ rfl; (with_reducible repeat (first | refine blk_drewN ?_ _ | refine blk_drew ?_ | refine blk_alloc ?_ _)); exact BK131.out) hb); have n2_ := Aside0.mk (below_step (by repeat (first | (with_reducible first | exact HB.out | apply below_alloc | apply pw_below_drewN | apply below_drew1 | refine below_set ?_ GE129.out | refine below_set ?_ GE131.out) | exact HB.out)) hb); have n3_ := Aside0.mk (hbox); have n4_ := Aside0.mk ((by rw [hg]; exact (below_size (by repeat (first | (with_reducible first | exact HB.out | apply below_alloc | apply pw_below_drewN | apply below_drew1 | refine below_set ?_ GE129.out | refine below_set ?_ GE131.out) | exact HB.out))) : w.heap.size ≤ gb133)); have n5_ := n4_; have n6_ := Aside0.mk ((by rw [hg]; exact Nat.ne_of_lt (blk_lt (g := gb129) (o := .cells #[.slice A0_0 l0_0.length c0_0, .slice (some ad130) l0_1.length c0_1] 76 (0, 0)) (by (with_reducible repeat (first | refine blk_drewN ?_ _ | refine blk_drew ?_ | refine blk_alloc ?_ _)); refine blk_far ?_ NB129_131.out _; (with_reducible repeat (first | refine blk_drewN ?_ _ | refine blk_drew ?_ | refine blk_alloc ?_ _)); refine blk_far ?_ NB129_131.out _; (with_reducible repeat (first | refine blk_drewN ?_ _ | refine blk_drew ?_ | refine blk_alloc ?_ _)); refine blk_far ?_ NB129_131.out _; (with_reducible repeat (first | refine blk_drewN ?_ _ | refine blk_drew ?_ | refine blk_alloc ?_ _)); refine blk_far ?_ NB129_131.out _; (with_reducible repeat (first | refine blk_drewN ?_ _ | refine blk_drew ?_ | refine blk_alloc ?_ _)); refine blk_far ?_ NB129_131.out _; (with_reducible repeat (first | refine blk_drewN ?_ _ | refine blk_drew ?_ | refine blk_alloc ?_ _)); exact BK129.out)) : gb129 ≠ gb133)); have n7_ := Aside0.mk ((by rw [hg]; exact Nat.ne_of_gt (blk_lt (g := gb129) (o := .cells #[.slice A0_0 l0_0.length c0_0, .slice (some ad130) l0_1.length c0_1] 76 (0, 0)) (by (with_reducible repeat (first | refine blk_drewN ?_ _ | refine blk_drew ?_ | refine blk_alloc ?_ _)); refine blk_far ?_ NB129_131.out _; (with_reducible repeat (first | refine blk_drewN ?_ _ | refine blk_drew ?_ | refine blk_alloc ?_ _)); refine blk_far ?_ NB129_131.out _; (with_reducible repeat (first | refine blk_drewN ?_ _ | refine blk_drew ?_ | refine blk_alloc ?_ _)); refine blk_far ?_ NB129_131.out _; (with_reducible repeat (first | refine blk_drewN ?_ _ | refine blk_drew ?_ | refine blk_alloc ?_ _)); refine blk_far ?_ NB129_131.out _; (with_reducible repeat (first | refine blk_drewN ?_ _ | refine blk_drew ?_ | refine blk_alloc ?_ _)); refine blk_far ?_ NB129_131.out _; (with_reducible repeat (first | refine blk_drewN ?_ _ | refine blk_drew ?_ | refine blk_alloc ?_ _)); exact BK129.out)) : gb133 ≠ gb129)); have n8_ := Aside0.mk ((by rw [hg]; exact Nat.ne_of_lt (blk_lt (g := gb131) (o := .cells #[.int .i64 ((rd_T185 l0_1 a1).f0), .int .i64 ((rd_T185 l0_1 a1).f1), .int .i64 ((rd_T185 l0_1 a1).f2), .bool ((rd_T185 l0_1 a1).f3), .slice A130_4 ((rd_T185 l0_1 a1).f4).length c130_4] 185 (0, 0)) (by (with_reducible repeat (first | refine blk_drewN ?_ _ | refine blk_drew ?_ | refine blk_alloc ?_ _)); refine blk_put (cs := #[.int .i64 ((rd_T185 l0_1 a1).f0), .int .i64 ((rd_T185 l0_1 a1).f1), .int .i64 ((rd_T185 l0_1 a1).f2), .bool ((rd_T185 l0_1 a1).f3), .slice none 0 0]) ?_ 4 _ rfl; (with_reducible repeat (first | refine blk_drewN ?_ _ | refine blk_drew ?_ | refine blk_alloc ?_ _)); refine blk_put (cs := #[.int .i64 ((rd_T185 l0_1 a1).f0), .int .i64 ((rd_T185 l0_1 a1).f1), .int .i64 ((rd_T185 l0_1 a1).f2), .bool false, .slice none 0 0]) ?_ 3 _ rfl; (with_reducible repeat (first | refine blk_drewN ?_ _ | refine blk_drew ?_ | refine blk_alloc ?_ _)); refine blk_put (cs := #[.int .i64 ((rd_T185 l0_1 a1).f0), .int .i64 ((rd_T185 l0_1 a1).f1), .int .i64 0, .bool false, .slice none 0 0]) ?_ 2 _ rfl; (with_reducible repeat (first | refine blk_drewN ?_ _ | refine blk_drew ?_ | refine blk_alloc ?_ _)); refine blk_put (cs := #[.int .i64 ((rd_T185 l0_1 a1).f0), .int .i64 0, .int .i64 0, .bool false, .slice none 0 0]) ?_ 1 _ rfl; (with_reducible repeat (first | refine blk_drewN ?_ _ | refine blk_drew ?_ | refine blk_alloc ?_ _)); refine blk_put (cs := #[.int .i64 0, .int .i64 0, .int .i64 0, .bool false, .slice none 0 0]) ?_ 0 _ rfl; (with_reducible repeat (first | refine blk_drewN ?_ _ | refine blk_drew ?_ | refine blk_alloc ?_ _)); exact BK131.out)) : gb131 ≠ gb133)); have n9_ := Aside0.mk ((by rw [hg]; exact Nat.ne_of_gt (blk_lt (g := gb131) (o := .cells #[.int .i64 ((rd_T185 l0_1 a1).f0), .int .i64 ((rd_T185 l0_1 a1).f1), .int .i64 ((rd_T185 l0_1 a1).f2), .bool ((rd_T185 l0_1 a1).f3), .slice A130_4 ((rd_T185 l0_1 a1).f4).length c130_4] 185 (0, 0)) (by (with_reducible repeat (first | refine blk_drewN ?_ _ | refine blk_drew ?_ | refine blk_alloc ?_ _)); refine blk_put (cs := #[.int .i64 ((rd_T185 l0_1 a1).f0), .int .i64 ((rd_T185 l0_1 a1).f1), .int .i64 ((rd_T185 l0_1 a1).f2), .bool ((rd_T185 l0_1 a1).f3), .slice none 0 0]) ?_ 4 _ rfl; (with_reducible repeat (first | refine blk_drewN ?_ _ | refine blk_drew ?_ | refine blk_alloc ?_ _)); refine blk_put (cs := #[.int .i64 ((rd_T185 l0_1 a1).f0), .int .i64 ((rd_T185 l0_1 a1).f1), .int .i64 ((rd_T185 l0_1 a1).f2), .bool false, .slice none 0 0]) ?_ 3 _ rfl; (with_reducible repeat (first | refine blk_drewN ?_ _ | refine blk_drew ?_ | refine blk_alloc ?_ _)); refine blk_put (cs := #[.int .i64 ((rd_T185 l0_1 a1).f0), .int .i64 ((rd_T185 l0_1 a1).f1), .int .i64 0, .bool false, .slice none 0 0]) ?_ 2 _ rfl; (with_reducible repeat (first | refine blk_drewN ?_ _ | refine blk_drew ?_ | refine blk_alloc ?_ _)); refine blk_put (cs := #[.int .i64 ((rd_T185 l0_1 a1).f0), .int .i64 0, .int .i64 0, .bool false, .slice none 0 0]) ?_ 1 _ rfl; (with_reducible repeat (first | refine blk_drewN ?_ _ | refine blk_drew ?_ | refine blk_alloc ?_ _)); refine blk_put (cs := #[.int .i64 0, .int .i64 0, .int .i64 0, .bool false, .slice none 0 0]) ?_ 0 _ rfl; (with_reducible repeat (first | refine blk_drewN ?_ _ | refine blk_drew ?_ | refine blk_alloc ?_ _)); exact BK131.out)) : gb133 ≠ gb131)); clear BK129; clear BK131; clear HB; have BK129 := n0_; have BK131 := n1_; have HB := n2_; have BK133 := n3_; have GW133 := n4_; have GE133 := n5_; have NB129_133 := n6_; have NB133_129 := n7_; have NB131_133 := n8_; have NB133_131 := n9_; clear n0_ n1_ n2_ n3_ n4_ n5_ n6_ n7_ n8_ n9_; clear hb hbox hg; have hnb21 := NB133_129.out; have hnc21 := NB129_133.out; have hnb22 := NB133_131.out; have hnc22 := NB131_133.out; have hcz23_0 : w20.cell? ⟨gb133, 0, none⟩ = some (.int .i64 0) := (blk_cell BK133.out 0).trans rfl; have hcz23_1 : w20.cell? ⟨gb133, 1, none⟩ = some (.int .i64 0) := (blk_cell BK133.out 1).trans rfl; have hcz23_2 : w20.cell? ⟨gb133, 2, none⟩ = some (.int .i64 0) := (blk_cell BK133.out 2).trans rfl; have hcz23_3 : w20.cell? ⟨gb133, 3, none⟩ = some (.bool false) := (blk_cell BK133.out 3).trans rfl; have hcz23_4 : w20.cell? ⟨gb133, 4, none⟩ = some (.slice none 0 0) := (blk_cell BK133.out 4).trans rfl; have hfz23_0 := blk_frozen BK133.out 0; have hfz23_1 := blk_frozen BK133.out 1; have hfz23_2 := blk_frozen BK133.out 2; have hfz23_3 := blk_frozen BK133.out 3; have hfz23_4 := blk_frozen BK133.out 4))
    have n0_ : Aside0 ((((((w20.setCell ⟨gb133, 0, none⟩ (.int .i64 ((rd_T185 l0_1 a2).f0))).setCell ⟨gb133, 1, none⟩ (.int .i64 ((rd_T185 l0_1 a2).f1))).setCell ⟨gb133, 2, none⟩ (.int .i64 ((rd_T185 l0_1 a2).f2))).setCell ⟨gb133, 3, none⟩ (.bool ((rd_T185 l0_1 a2).f3))).setCell ⟨gb133, 4, none⟩ (.slice A132_4 ((rd_T185 l0_1 a2).f4).length c132_4)).heap[gb129]? = some (.cells #[.slice A0_0 l0_0.length c0_0, .slice (some ad130) l0_1.length c0_1] 76 (0, 0))) := ⟨by (with_reducible repeat (first | refine blk_drewN ?_ _ | refine blk_drew ?_ | refine blk_alloc ?_ _)); refine blk_far ?_ NB129_133.out _; (with_reducible repeat (first | refine blk_drewN ?_ _ | refine blk_drew ?_ | refine blk_alloc ?_ _)); refine blk_far ?_ NB129_133.out _; (with_reducible repeat (first | refine blk_drewN ?_ _ | refine blk_drew ?_ | refine blk_alloc ?_ _)); refine blk_far ?_ NB129_133.out _; (with_reducible repeat (first | refine blk_drewN ?_ _ | refine blk_drew ?_ | refine blk_alloc ?_ _)); refine blk_far ?_ NB129_133.out _; (with_reducible repeat (first | refine blk_drewN ?_ _ | refine blk_drew ?_ | refine blk_alloc ?_ _)); refine blk_far ?_ NB129_133.out _; (with_reducible repeat (first | refine blk_drewN ?_ _ | refine blk_drew ?_ | refine blk_alloc ?_ _)); exact BK129.out⟩
    have n1_ : Aside0 ((((((w20.setCell ⟨gb133, 0, none⟩ (.int .i64 ((rd_T185 l0_1 a2).f0))).setCell ⟨gb133, 1, none⟩ (.int .i64 ((rd_T185 l0_1 a2).f1))).setCell ⟨gb133, 2, none⟩ (.int .i64 ((rd_T185 l0_1 a2).f2))).setCell ⟨gb133, 3, none⟩ (.bool ((rd_T185 l0_1 a2).f3))).setCell ⟨gb133, 4, none⟩ (.slice A132_4 ((rd_T185 l0_1 a2).f4).length c132_4)).heap[gb131]? = some (.cells #[.int .i64 ((rd_T185 l0_1 a1).f0), .int .i64 ((rd_T185 l0_1 a1).f1), .int .i64 ((rd_T185 l0_1 a1).f2), .bool ((rd_T185 l0_1 a1).f3), .slice A130_4 ((rd_T185 l0_1 a1).f4).length c130_4] 185 (0, 0))) := ⟨by (with_reducible repeat (first | refine blk_drewN ?_ _ | refine blk_drew ?_ | refine blk_alloc ?_ _)); refine blk_far ?_ NB131_133.out _; (with_reducible repeat (first | refine blk_drewN ?_ _ | refine blk_drew ?_ | refine blk_alloc ?_ _)); refine blk_far ?_ NB131_133.out _; (with_reducible repeat (first | refine blk_drewN ?_ _ | refine blk_drew ?_ | refine blk_alloc ?_ _)); refine blk_far ?_ NB131_133.out _; (with_reducible repeat (first | refine blk_drewN ?_ _ | refine blk_drew ?_ | refine blk_alloc ?_ _)); refine blk_far ?_ NB131_133.out _; (with_reducible repeat (first | refine blk_drewN ?_ _ | refine blk_drew ?_ | refine blk_alloc ?_ _)); refine blk_far ?_ NB131_133.out _; (with_reducible repeat (first | refine blk_drewN ?_ _ | refine blk_drew ?_ | refine blk_alloc ?_ _)); exact BK131.out⟩
    have n2_ : Aside0 ((((((w20.setCell ⟨gb133, 0, none⟩ (.int .i64 ((rd_T185 l0_1 a2).f0))).setCell ⟨gb133, 1, none⟩ (.int .i64 ((rd_T185 l0_1 a2).f1))).setCell ⟨gb133, 2, none⟩ (.int .i64 ((rd_T185 l0_1 a2).f2))).setCell ⟨gb133, 3, none⟩ (.bool ((rd_T185 l0_1 a2).f3))).setCell ⟨gb133, 4, none⟩ (.slice A132_4 ((rd_T185 l0_1 a2).f4).length c132_4)).heap[gb133]? = some (.cells #[.int .i64 ((rd_T185 l0_1 a2).f0), .int .i64 ((rd_T185 l0_1 a2).f1), .int .i64 ((rd_T185 l0_1 a2).f2), .bool ((rd_T185 l0_1 a2).f3), .slice A132_4 ((rd_T185 l0_1 a2).f4).length c132_4] 185 (0, 0))) := ⟨by (with_reducible repeat (first | refine blk_drewN ?_ _ | refine blk_drew ?_ | refine blk_alloc ?_ _)); refine blk_put (cs := #[.int .i64 ((rd_T185 l0_1 a2).f0), .int .i64 ((rd_T185 l0_1 a2).f1), .int .i64 ((rd_T185 l0_1 a2).f2), .bool ((rd_T185 l0_1 a2).f3), .slice none 0 0]) ?_ 4 _ rfl; (with_reducible repeat (first | refine blk_drewN ?_ _ | refine blk_drew ?_ | refine blk_alloc ?_ _)); refine blk_put (cs := #[.int .i64 ((rd_T185 l0_1 a2).f0), .int .i64 ((rd_T185 l0_1 a2).f1), .int .i64 ((rd_T185 l0_1 a2).f2), .bool false, .slice none 0 0]) ?_ 3 _ rfl; (with_reducible repeat (first | refine blk_drewN ?_ _ | refine blk_drew ?_ | refine blk_alloc ?_ _)); refine blk_put (cs := #[.int .i64 ((rd_T185 l0_1 a2).f0), .int .i64 ((rd_T185 l0_1 a2).f1), .int .i64 0, .bool false, .slice none 0 0]) ?_ 2 _ rfl; (with_reducible repeat (first | refine blk_drewN ?_ _ | refine blk_drew ?_ | refine blk_alloc ?_ _)); refine blk_put (cs := #[.int .i64 ((rd_T185 l0_1 a2).f0), .int .i64 0, .int .i64 0, .bool false, .slice none 0 0]) ?_ 1 _ rfl; (with_reducible repeat (first | refine blk_drewN ?_ _ | refine blk_drew ?_ | refine blk_alloc ?_ _)); refine blk_put (cs := #[.int .i64 0, .int .i64 0, .int .i64 0, .bool false, .slice none 0 0]) ?_ 0 _ rfl; (with_reducible repeat (first | refine blk_drewN ?_ _ | refine blk_drew ?_ | refine blk_alloc ?_ _)); exact BK133.out⟩
    have n3_ : Aside0 (Below w.heap.size w (((((w20.setCell ⟨gb133, 0, none⟩ (.int .i64 ((rd_T185 l0_1 a2).f0))).setCell ⟨gb133, 1, none⟩ (.int .i64 ((rd_T185 l0_1 a2).f1))).setCell ⟨gb133, 2, none⟩ (.int .i64 ((rd_T185 l0_1 a2).f2))).setCell ⟨gb133, 3, none⟩ (.bool ((rd_T185 l0_1 a2).f3))).setCell ⟨gb133, 4, none⟩ (.slice A132_4 ((rd_T185 l0_1 a2).f4).length c132_4))) := ⟨by repeat (first | (with_reducible first | exact HB.out | apply below_alloc | apply pw_below_drewN | apply below_drew1 | refine below_set ?_ GE129.out | refine below_set ?_ GE131.out | refine below_set ?_ GE133.out) | exact HB.out)⟩
    (try clear BK129)
    (try clear BK131)
    (try clear BK133)
    (try clear HB)
    generalize (((((w20.setCell ⟨gb133, 0, none⟩ (.int .i64 ((rd_T185 l0_1 a2).f0))).setCell ⟨gb133, 1, none⟩ (.int .i64 ((rd_T185 l0_1 a2).f1))).setCell ⟨gb133, 2, none⟩ (.int .i64 ((rd_T185 l0_1 a2).f2))).setCell ⟨gb133, 3, none⟩ (.bool ((rd_T185 l0_1 a2).f3))).setCell ⟨gb133, 4, none⟩ (.slice A132_4 ((rd_T185 l0_1 a2).f4).length c132_4)) = w24 at n0_ n1_ n2_ n3_ ⊢
    have BK129 := n0_
    have BK131 := n1_
    have BK133 := n2_
    have HB := n3_
    clear n0_ n1_ n2_ n3_
    have n0_ := Aside0.mk (blk_drew BK129.out)
    have n1_ := Aside0.mk (blk_drew BK131.out)
    have n2_ := Aside0.mk (blk_drew BK133.out)
    have n3_ := Aside0.mk (below_drew1 HB.out)
    clear BK129
    clear BK131
    clear BK133
    clear HB
    have BK129 := n0_
    have BK131 := n1_
    have BK133 := n2_
    have HB := n3_
    clear n0_ n1_ n2_ n3_
    have p134 : 0 ≤ (((rd_T185 l0_1 a2).f0) : Int) := of_decide_eq_true (by first | (with_reducible assumption) | assumption)
    have q134 : ((rd_T185 l0_1 a2).f0) < (l0_0.length : Int) := of_decide_eq_true (by first | (with_reducible assumption) | assumption)
    obtain ⟨ad134, e134, hx134_0, hx134_1, hx134_2⟩ := at_T186 HR0_0.out ((rd_T185 l0_1 a2).f0) p134 q134
    have hw134_2 := hx134_2
    have hw134_1 := hx134_1
    have hw134_0 := hx134_0
    cases e134
    replace hx134_0 := (HB.out.cell (World.block_lt_of_cell? w _ hx134_0)).trans hx134_0
    replace hx134_1 := (HB.out.cell (World.block_lt_of_cell? w _ hx134_1)).trans hx134_1
    replace hx134_2 := (HB.out.cell (World.block_lt_of_cell? w _ hx134_2)).trans hx134_2
    replace p134 := eq_true p134
    replace q134 := eq_true q134
    refine start_ (n := 11) (S := fun w' => w'.cell? ⟨gb131, 0, none⟩ = some (.int .i64 ((rd_T185 l0_1 a1).f0)) ∧ w'.cell? ⟨gb131, 1, none⟩ = some (.int .i64 ((rd_T185 l0_1 a1).f1)) ∧ w'.cell? ⟨gb131, 2, none⟩ = some (.int .i64 ((rd_T185 l0_1 a1).f2)) ∧ w'.cell? ⟨gb131, 3, none⟩ = some (.bool ((rd_T185 l0_1 a1).f3)) ∧ w'.cell? ⟨gb131, 4, none⟩ = some (.slice A130_4 ((rd_T185 l0_1 a1).f4).length c130_4) ∧ w'.cell? ⟨gb129, 0, none⟩ = some (.slice (some ad134) l0_0.length c0_0) ∧ w'.cell? ⟨gb129, 1, none⟩ = some (.slice (some ad130) l0_1.length c0_1) ∧ w'.cell? ⟨gb133, 0, none⟩ = some (.int .i64 ((rd_T185 l0_1 a2).f0)) ∧ w'.cell? ⟨gb133, 1, none⟩ = some (.int .i64 ((rd_T185 l0_1 a2).f1)) ∧ w'.cell? ⟨gb133, 2, none⟩ = some (.int .i64 ((rd_T185 l0_1 a2).f2)) ∧ w'.cell? ⟨gb133, 3, none⟩ = some (.bool ((rd_T185 l0_1 a2).f3)) ∧ w'.cell? ⟨gb133, 4, none⟩ = some (.slice A132_4 ((rd_T185 l0_1 a2).f4).length c132_4) ∧ w'.cell? (ad134.add ((((rd_T185 l0_1 a2).f0)).toNat * 3)) = some (.int .i64 ((rd_T186 l0_0 ((rd_T185 l0_1 a2).f0)).f0)) ∧ w'.cell? ⟨(ad134.add ((((rd_T185 l0_1 a2).f0)).toNat * 3)).block, (ad134.add ((((rd_T185 l0_1 a2).f0)).toNat * 3)).off + 1, none⟩ = some (.int .i64 ((rd_T186 l0_0 ((rd_T185 l0_1 a2).f0)).f1)) ∧ w'.cell? ⟨(ad134.add ((((rd_T185 l0_1 a2).f0)).toNat * 3)).block, (ad134.add ((((rd_T185 l0_1 a2).f0)).toNat * 3)).off + 2, none⟩ = some (.string ((rd_T186 l0_0 ((rd_T185 l0_1 a2).f0)).f2))) (ds := []) #[false, false, false, false, false, false, false, false, false, false, false] (by kernel_rfl) rfl rfl ⟨(blk_cell BK131.out 0).trans rfl, (blk_cell BK131.out 1).trans rfl, (blk_cell BK131.out 2).trans rfl, (blk_cell BK131.out 3).trans rfl, (blk_cell BK131.out 4).trans rfl, (blk_cell BK129.out 0).trans rfl, (blk_cell BK129.out 1).trans rfl, (blk_cell BK133.out 0).trans rfl, (blk_cell BK133.out 1).trans rfl, (blk_cell BK133.out 2).trans rfl, (blk_cell BK133.out 3).trans rfl, (blk_cell BK133.out 4).trans rfl, ((HB.out.cell (World.block_lt_of_cell? w _ hw134_0)).trans hw134_0), ((HB.out.cell (World.block_lt_of_cell? w _ hw134_1)).trans hw134_1), ((HB.out.cell (World.block_lt_of_cell? w _ hw134_2)).trans hw134_2)⟩ (fun hHeld => ?_); refine with_tabW spec_l16Earlier.tab3 spec_l16Earlier.bits3 (fun HT_ HW_ => ?_)
    generalize w24.drew = w25 at BK129 BK131 BK133 HB hx134_0 hx134_1 hx134_2 hHeld ⊢
    refine pure_ (i := 0) (N := some 21) (v := ?_) (a' := ?_) #[true, false, false, false, false, false, false, false, false, false, false] rfl rfl (any_of HT_.out (by kernel_rfl)) (fun _ _ _ h => h) (Or.inl ⟨by rfl, ?_⟩) ?_ ?_
    rotate_left
    · intro w'
      go_simp
      with_reducible rfl
    rotate_left
    · simp only [Act.put, List.setIfInBounds_toArray, List.set_cons_zero, List.set_cons_succ, i64_w, i32_w]
      rfl
    refine pure_ (i := 2) (N := some 23) (v := ?_) (a' := ?_) #[true, false, true, false, false, false, false, false, false, false, false] rfl rfl (any_of HT_.out (by kernel_rfl)) (fun _ _ _ h => h) (Or.inl ⟨by rfl, ?_⟩) ?_ ?_
    rotate_left
    · intro w'
      go_simp
      with_reducible rfl
    rotate_left
    · simp only [Act.put, List.setIfInBounds_toArray, List.set_cons_zero, List.set_cons_succ, i64_w, i32_w]
      rfl
    refine pure_ (i := 4) (N := some 25) (v := ?_) (a' := ?_) #[true, false, true, false, true, false, false, false, false, false, false] rfl rfl (any_of HT_.out (by kernel_rfl)) (fun _ _ _ h => h) (Or.inl ⟨by rfl, ?_⟩) ?_ ?_
    rotate_left
    · intro w'
      go_simp
      with_reducible rfl
    rotate_left
    · simp only [Act.put, List.setIfInBounds_toArray, List.set_cons_zero, List.set_cons_succ, i64_w, i32_w]
      rfl
    refine take_ (i := 1) (N := some 22) (v := ?_) (a' := ?_) #[true, true, true, false, true, false, false, false, false, false, false] rfl rfl (take_ofW HT_.out HW_.out (by kernel_rfl)) (fun _ _ _ h => h) (Or.inl ⟨by rfl, ?_⟩) hHeld ?_ ?_
    rotate_left
    · rintro w' ⟨s0, s1, s2, s3, s4, s5, s6, s7, s8, s9, s10, s11, s12, s13, s14⟩
      go_simp
      with_reducible rfl
    rotate_left
    · simp only [Act.put, List.setIfInBounds_toArray, List.set_cons_zero, List.set_cons_succ, i64_w, i32_w]
      rfl
    refine take_ (i := 3) (N := some 24) (v := ?_) (a' := ?_) #[true, true, true, true, true, false, false, false, false, false, false] rfl rfl (take_ofW HT_.out HW_.out (by kernel_rfl)) (fun _ _ _ h => h) (Or.inl ⟨by rfl, ?_⟩) hHeld ?_ ?_
    rotate_left
    · rintro w' ⟨s0, s1, s2, s3, s4, s5, s6, s7, s8, s9, s10, s11, s12, s13, s14⟩
      go_simp
      with_reducible rfl
    rotate_left
    · simp only [Act.put, List.setIfInBounds_toArray, List.set_cons_zero, List.set_cons_succ, i64_w, i32_w]
      rfl
    refine take_ (i := 5) (N := some 26) (v := ?_) (a' := ?_) #[true, true, true, true, true, true, false, false, false, false, false] rfl rfl (take_ofW HT_.out HW_.out (by kernel_rfl)) (fun _ _ _ h => h) (Or.inl ⟨by rfl, ?_⟩) hHeld ?_ ?_
    rotate_left
    · rintro w' ⟨s0, s1, s2, s3, s4, s5, s6, s7, s8, s9, s10, s11, s12, s13, s14⟩
      go_simp
      with_reducible rfl
    rotate_left
    · simp only [Act.put, List.setIfInBounds_toArray, List.set_cons_zero, List.set_cons_succ, i64_w, i32_w]
      rfl
    refine pure_ (i := 6) (N := some 27) (v := ?_) (a' := ?_) #[true, true, true, true, true, true, true, false, false, false, false] rfl rfl (any_of HT_.out (by kernel_rfl)) (fun _ _ _ h => h) (Or.inl ⟨by rfl, ?_⟩) ?_ ?_
    rotate_left
    · intro w'
      go_simp
      with_reducible rfl
    rotate_left
    · simp only [Act.put, List.setIfInBounds_toArray, List.set_cons_zero, List.set_cons_succ, i64_w, i32_w]
      rfl
    refine pure_ (i := 7) (N := some 28) (v := ?_) (a' := ?_) #[true, true, true, true, true, true, true, true, false, false, false] rfl rfl (any_of HT_.out (by kernel_rfl)) (fun _ _ _ h => h) (Or.inl ⟨by rfl, ?_⟩) ?_ ?_
    rotate_left
    · intro w'
      go_simp
      with_reducible rfl
    rotate_left
    · simp only [Act.put, List.setIfInBounds_toArray, List.set_cons_zero, List.set_cons_succ, i64_w, i32_w]
      rfl
    refine take_ (i := 8) (N := some 29) (v := ?_) (a' := ?_) #[true, true, true, true, true, true, true, true, true, false, false] rfl rfl (take_ofW HT_.out HW_.out (by kernel_rfl)) (fun _ _ _ h => h) (Or.inl ⟨by rfl, ?_⟩) hHeld ?_ ?_
    rotate_left
    · rintro w' ⟨s0, s1, s2, s3, s4, s5, s6, s7, s8, s9, s10, s11, s12, s13, s14⟩
      go_simp
      with_reducible rfl
    rotate_left
    · simp only [Act.put, List.setIfInBounds_toArray, List.set_cons_zero, List.set_cons_succ, i64_w, i32_w]
      rfl
    refine pure_ (i := 9) (N := some 30) (v := ?_) (a' := ?_) #[true, true, true, true, true, true, true, true, true, true, false] rfl rfl (any_of HT_.out (by kernel_rfl)) (fun _ _ _ h => h) (Or.inl ⟨by rfl, ?_⟩) ?_ ?_
    rotate_left
    · intro w'
      go_simp
      with_reducible rfl
    rotate_left
    · simp only [Act.put, List.setIfInBounds_toArray, List.set_cons_zero, List.set_cons_succ, i64_w, i32_w]
      rfl
    refine pure_ (i := 10) (N := some 9) (v := ?_) (a' := ?_) #[true, true, true, true, true, true, true, true, true, true, true] rfl rfl (any_of HT_.out (by kernel_rfl)) (fun _ _ _ h => h) (Or.inl ⟨by rfl, ?_⟩) ?_ ?_
    rotate_left
    · intro w'
      go_simp
      with_reducible rfl
    rotate_left
    · simp only [Act.put, List.setIfInBounds_toArray, List.set_cons_zero, List.set_cons_succ, i64_w, i32_w]
      rfl
    refine done_ (done_of HT_.out (by kernel_rfl)) ?_
    try go_wp2
    have n0_ := Aside0.mk (blk_drew BK129.out)
    have n1_ := Aside0.mk (blk_drew BK131.out)
    have n2_ := Aside0.mk (blk_drew BK133.out)
    have n3_ := Aside0.mk (below_drew1 HB.out)
    clear BK129
    clear BK131
    clear BK133
    clear HB
    have BK129 := n0_
    have BK131 := n1_
    have BK133 := n2_
    have HB := n3_
    clear n0_ n1_ n2_ n3_
    have p135 : 0 ≤ (((rd_T185 l0_1 a1).f0) : Int) := of_decide_eq_true (by first | (with_reducible assumption) | assumption)
    have q135 : ((rd_T185 l0_1 a1).f0) < (l0_0.length : Int) := of_decide_eq_true (by first | (with_reducible assumption) | assumption)
    obtain ⟨ad135, e135, hx135_0, hx135_1, hx135_2⟩ := at_T186 HR0_0.out ((rd_T185 l0_1 a1).f0) p135 q135
    have hw135_2 := hx135_2
    have hw135_1 := hx135_1
    have hw135_0 := hx135_0
    obtain rfl : ad134 = ad135 := (by injection e135)
    replace hx135_0 := (HB.out.cell (World.block_lt_of_cell? w _ hx135_0)).trans hx135_0
    replace hx135_1 := (HB.out.cell (World.block_lt_of_cell? w _ hx135_1)).trans hx135_1
    replace hx135_2 := (HB.out.cell (World.block_lt_of_cell? w _ hx135_2)).trans hx135_2
    replace p135 := eq_true p135
    replace q135 := eq_true q135
    refine start_ (n := 11) (S := fun w' => w'.cell? ⟨gb133, 0, none⟩ = some (.int .i64 ((rd_T185 l0_1 a2).f0)) ∧ w'.cell? ⟨gb133, 1, none⟩ = some (.int .i64 ((rd_T185 l0_1 a2).f1)) ∧ w'.cell? ⟨gb133, 2, none⟩ = some (.int .i64 ((rd_T185 l0_1 a2).f2)) ∧ w'.cell? ⟨gb133, 3, none⟩ = some (.bool ((rd_T185 l0_1 a2).f3)) ∧ w'.cell? ⟨gb133, 4, none⟩ = some (.slice A132_4 ((rd_T185 l0_1 a2).f4).length c132_4) ∧ w'.cell? ⟨gb129, 0, none⟩ = some (.slice (some ad134) l0_0.length c0_0) ∧ w'.cell? ⟨gb129, 1, none⟩ = some (.slice (some ad130) l0_1.length c0_1) ∧ w'.cell? ⟨gb131, 0, none⟩ = some (.int .i64 ((rd_T185 l0_1 a1).f0)) ∧ w'.cell? ⟨gb131, 1, none⟩ = some (.int .i64 ((rd_T185 l0_1 a1).f1)) ∧ w'.cell? ⟨gb131, 2, none⟩ = some (.int .i64 ((rd_T185 l0_1 a1).f2)) ∧ w'.cell? ⟨gb131, 3, none⟩ = some (.bool ((rd_T185 l0_1 a1).f3)) ∧ w'.cell? ⟨gb131, 4, none⟩ = some (.slice A130_4 ((rd_T185 l0_1 a1).f4).length c130_4) ∧ w'.cell? (ad134.add ((((rd_T185 l0_1 a1).f0)).toNat * 3)) = some (.int .i64 ((rd_T186 l0_0 ((rd_T185 l0_1 a1).f0)).f0)) ∧ w'.cell? ⟨(ad134.add ((((rd_T185 l0_1 a1).f0)).toNat * 3)).block, (ad134.add ((((rd_T185 l0_1 a1).f0)).toNat * 3)).off + 1, none⟩ = some (.int .i64 ((rd_T186 l0_0 ((rd_T185 l0_1 a1).f0)).f1)) ∧ w'.cell? ⟨(ad134.add ((((rd_T185 l0_1 a1).f0)).toNat * 3)).block, (ad134.add ((((rd_T185 l0_1 a1).f0)).toNat * 3)).off + 2, none⟩ = some (.string ((rd_T186 l0_0 ((rd_T185 l0_1 a1).f0)).f2))) (ds := []) #[false, false, false, false, false, false, false, false, false, false, false] (by kernel_rfl) rfl rfl ⟨(blk_cell BK133.out 0).trans rfl, (blk_cell BK133.out 1).trans rfl, (blk_cell BK133.out 2).trans rfl, (blk_cell BK133.out 3).trans rfl, (blk_cell BK133.out 4).trans rfl, (blk_cell BK129.out 0).trans rfl, (blk_cell BK129.out 1).trans rfl, (blk_cell BK131.out 0).trans rfl, (blk_cell BK131.out 1).trans rfl, (blk_cell BK131.out 2).trans rfl, (blk_cell BK131.out 3).trans rfl, (blk_cell BK131.out 4).trans rfl, ((HB.out.cell (World.block_lt_of_cell? w _ hw135_0)).trans hw135_0), ((HB.out.cell (World.block_lt_of_cell? w _ hw135_1)).trans hw135_1), ((HB.out.cell (World.block_lt_of_cell? w _ hw135_2)).trans hw135_2)⟩ (fun hHeld => ?_); refine with_tabW spec_l16Earlier.tab4 spec_l16Earlier.bits4 (fun HT_ HW_ => ?_)
    generalize w25.drew = w26 at BK129 BK131 BK133 HB hx135_0 hx135_1 hx135_2 hHeld ⊢
    refine pure_ (i := 0) (N := some 31) (v := ?_) (a' := ?_) #[true, false, false, false, false, false, false, false, false, false, false] rfl rfl (any_of HT_.out (by kernel_rfl)) (fun _ _ _ h => h) (Or.inl ⟨by rfl, ?_⟩) ?_ ?_
    rotate_left
    · intro w'
      go_simp
      with_reducible rfl
    rotate_left
    · simp only [Act.put, List.setIfInBounds_toArray, List.set_cons_zero, List.set_cons_succ, i64_w, i32_w]
      rfl
    refine pure_ (i := 2) (N := some 33) (v := ?_) (a' := ?_) #[true, false, true, false, false, false, false, false, false, false, false] rfl rfl (any_of HT_.out (by kernel_rfl)) (fun _ _ _ h => h) (Or.inl ⟨by rfl, ?_⟩) ?_ ?_
    rotate_left
    · intro w'
      go_simp
      with_reducible rfl
    rotate_left
    · simp only [Act.put, List.setIfInBounds_toArray, List.set_cons_zero, List.set_cons_succ, i64_w, i32_w]
      rfl
    refine pure_ (i := 4) (N := some 35) (v := ?_) (a' := ?_) #[true, false, true, false, true, false, false, false, false, false, false] rfl rfl (any_of HT_.out (by kernel_rfl)) (fun _ _ _ h => h) (Or.inl ⟨by rfl, ?_⟩) ?_ ?_
    rotate_left
    · intro w'
      go_simp
      with_reducible rfl
    rotate_left
    · simp only [Act.put, List.setIfInBounds_toArray, List.set_cons_zero, List.set_cons_succ, i64_w, i32_w]
      rfl
    refine take_ (i := 1) (N := some 32) (v := ?_) (a' := ?_) #[true, true, true, false, true, false, false, false, false, false, false] rfl rfl (take_ofW HT_.out HW_.out (by kernel_rfl)) (fun _ _ _ h => h) (Or.inl ⟨by rfl, ?_⟩) hHeld ?_ ?_
    rotate_left
    · rintro w' ⟨s0, s1, s2, s3, s4, s5, s6, s7, s8, s9, s10, s11, s12, s13, s14⟩
      go_simp
      with_reducible rfl
    rotate_left
    · simp only [Act.put, List.setIfInBounds_toArray, List.set_cons_zero, List.set_cons_succ, i64_w, i32_w]
      rfl
    refine take_ (i := 3) (N := some 34) (v := ?_) (a' := ?_) #[true, true, true, true, true, false, false, false, false, false, false] rfl rfl (take_ofW HT_.out HW_.out (by kernel_rfl)) (fun _ _ _ h => h) (Or.inl ⟨by rfl, ?_⟩) hHeld ?_ ?_
    rotate_left
    · rintro w' ⟨s0, s1, s2, s3, s4, s5, s6, s7, s8, s9, s10, s11, s12, s13, s14⟩
      go_simp
      with_reducible rfl
    rotate_left
    · simp only [Act.put, List.setIfInBounds_toArray, List.set_cons_zero, List.set_cons_succ, i64_w, i32_w]
      rfl
    refine take_ (i := 5) (N := some 36) (v := ?_) (a' := ?_) #[true, true, true, true, true, true, false, false, false, false, false] rfl rfl (take_ofW HT_.out HW_.out (by kernel_rfl)) (fun _ _ _ h => h) (Or.inl ⟨by rfl, ?_⟩) hHeld ?_ ?_
    rotate_left
    · rintro w' ⟨s0, s1, s2, s3, s4, s5, s6, s7, s8, s9, s10, s11, s12, s13, s14⟩
      go_simp
      with_reducible rfl
    rotate_left
    · simp only [Act.put, List.setIfInBounds_toArray, List.set_cons_zero, List.set_cons_succ, i64_w, i32_w]
      rfl
    refine pure_ (i := 6) (N := some 37) (v := ?_) (a' := ?_) #[true, true, true, true, true, true, true, false, false, false, false] rfl rfl (any_of HT_.out (by kernel_rfl)) (fun _ _ _ h => h) (Or.inl ⟨by rfl, ?_⟩) ?_ ?_
    rotate_left
    · intro w'
      go_simp
      with_reducible rfl
    rotate_left
    · simp only [Act.put, List.setIfInBounds_toArray, List.set_cons_zero, List.set_cons_succ, i64_w, i32_w]
      rfl
    refine pure_ (i := 7) (N := some 38) (v := ?_) (a' := ?_) #[true, true, true, true, true, true, true, true, false, false, false] rfl rfl (any_of HT_.out (by kernel_rfl)) (fun _ _ _ h => h) (Or.inl ⟨by rfl, ?_⟩) ?_ ?_
    rotate_left
    · intro w'
      go_simp
      with_reducible rfl
    rotate_left
    · simp only [Act.put, List.setIfInBounds_toArray, List.set_cons_zero, List.set_cons_succ, i64_w, i32_w]
      rfl
    refine take_ (i := 8) (N := some 39) (v := ?_) (a' := ?_) #[true, true, true, true, true, true, true, true, true, false, false] rfl rfl (take_ofW HT_.out HW_.out (by kernel_rfl)) (fun _ _ _ h => h) (Or.inl ⟨by rfl, ?_⟩) hHeld ?_ ?_
    rotate_left
    · rintro w' ⟨s0, s1, s2, s3, s4, s5, s6, s7, s8, s9, s10, s11, s12, s13, s14⟩
      go_simp
      with_reducible rfl
    rotate_left
    · simp only [Act.put, List.setIfInBounds_toArray, List.set_cons_zero, List.set_cons_succ, i64_w, i32_w]
      rfl
    refine pure_ (i := 9) (N := some 40) (v := ?_) (a' := ?_) #[true, true, true, true, true, true, true, true, true, true, false] rfl rfl (any_of HT_.out (by kernel_rfl)) (fun _ _ _ h => h) (Or.inl ⟨by rfl, ?_⟩) ?_ ?_
    rotate_left
    · intro w'
      go_simp
      with_reducible rfl
    rotate_left
    · simp only [Act.put, List.setIfInBounds_toArray, List.set_cons_zero, List.set_cons_succ, i64_w, i32_w]
      rfl
    refine pure_ (i := 10) (N := some 10) (v := ?_) (a' := ?_) #[true, true, true, true, true, true, true, true, true, true, true] rfl rfl (any_of HT_.out (by kernel_rfl)) (fun _ _ _ h => h) (Or.inl ⟨by rfl, ?_⟩) ?_ ?_
    rotate_left
    · intro w'
      go_simp
      with_reducible rfl
    rotate_left
    · simp only [Act.put, List.setIfInBounds_toArray, List.set_cons_zero, List.set_cons_succ, i64_w, i32_w]
      rfl
    refine done_ (done_of HT_.out (by kernel_rfl)) ?_
  · try go_wp2
    go_ret
    exact ⟨by first | rfl | (simp [errW_none, errW_some] <;> rfl) | (simp [*, errW_none, errW_some] <;> rfl), by repeat (first | (with_reducible first | exact HB.out | apply below_alloc | apply pw_below_drewN | apply below_drew1 | refine below_set ?_ GE129.out | refine below_set ?_ GE131.out | refine below_set ?_ GE133.out) | exact HB.out)⟩
  · have hcz27_0 : w26.cell? ⟨gb131, 0, none⟩ = some (.int .i64 ((rd_T185 l0_1 a1).f0)) := (blk_cell BK131.out 0).trans rfl
    have hcz27_1 : w26.cell? ⟨gb131, 1, none⟩ = some (.int .i64 ((rd_T185 l0_1 a1).f1)) := (blk_cell BK131.out 1).trans rfl
    have hcz27_2 : w26.cell? ⟨gb131, 2, none⟩ = some (.int .i64 ((rd_T185 l0_1 a1).f2)) := (blk_cell BK131.out 2).trans rfl
    have hcz27_3 : w26.cell? ⟨gb131, 3, none⟩ = some (.bool ((rd_T185 l0_1 a1).f3)) := (blk_cell BK131.out 3).trans rfl
    have hcz27_4 : w26.cell? ⟨gb131, 4, none⟩ = some (.slice A130_4 ((rd_T185 l0_1 a1).f4).length c130_4) := (blk_cell BK131.out 4).trans rfl
    have hfz27_0 := blk_frozen BK131.out 0
    have hfz27_1 := blk_frozen BK131.out 1
    have hfz27_2 := blk_frozen BK131.out 2
    have hfz27_3 := blk_frozen BK131.out 3
    have hfz27_4 := blk_frozen BK131.out 4
    have hcz28_0 : w26.cell? ⟨gb133, 0, none⟩ = some (.int .i64 ((rd_T185 l0_1 a2).f0)) := (blk_cell BK133.out 0).trans rfl
    have hcz28_1 : w26.cell? ⟨gb133, 1, none⟩ = some (.int .i64 ((rd_T185 l0_1 a2).f1)) := (blk_cell BK133.out 1).trans rfl
    have hcz28_2 : w26.cell? ⟨gb133, 2, none⟩ = some (.int .i64 ((rd_T185 l0_1 a2).f2)) := (blk_cell BK133.out 2).trans rfl
    have hcz28_3 : w26.cell? ⟨gb133, 3, none⟩ = some (.bool ((rd_T185 l0_1 a2).f3)) := (blk_cell BK133.out 3).trans rfl
    have hcz28_4 : w26.cell? ⟨gb133, 4, none⟩ = some (.slice A132_4 ((rd_T185 l0_1 a2).f4).length c132_4) := (blk_cell BK133.out 4).trans rfl
    have hfz28_0 := blk_frozen BK133.out 0
    have hfz28_1 := blk_frozen BK133.out 1
    have hfz28_2 := blk_frozen BK133.out 2
    have hfz28_3 := blk_frozen BK133.out 3
    have hfz28_4 := blk_frozen BK133.out 4
    try go_wp2
    go_ret
    exact ⟨by first | rfl | (simp [errW_none, errW_some] <;> rfl) | (simp [*, errW_none, errW_some] <;> rfl), by repeat (first | (with_reducible first | exact HB.out | apply below_alloc | apply pw_below_drewN | apply below_drew1 | refine below_set ?_ GE129.out | refine below_set ?_ GE131.out | refine below_set ?_ GE133.out) | exact HB.out)⟩
  · have hcz27_0 : w26.cell? ⟨gb131, 0, none⟩ = some (.int .i64 ((rd_T185 l0_1 a1).f0)) := (blk_cell BK131.out 0).trans rfl
    have hcz27_1 : w26.cell? ⟨gb131, 1, none⟩ = some (.int .i64 ((rd_T185 l0_1 a1).f1)) := (blk_cell BK131.out 1).trans rfl
    have hcz27_2 : w26.cell? ⟨gb131, 2, none⟩ = some (.int .i64 ((rd_T185 l0_1 a1).f2)) := (blk_cell BK131.out 2).trans rfl
    have hcz27_3 : w26.cell? ⟨gb131, 3, none⟩ = some (.bool ((rd_T185 l0_1 a1).f3)) := (blk_cell BK131.out 3).trans rfl
    have hcz27_4 : w26.cell? ⟨gb131, 4, none⟩ = some (.slice A130_4 ((rd_T185 l0_1 a1).f4).length c130_4) := (blk_cell BK131.out 4).trans rfl
    have hfz27_0 := blk_frozen BK131.out 0
    have hfz27_1 := blk_frozen BK131.out 1
    have hfz27_2 := blk_frozen BK131.out 2
    have hfz27_3 := blk_frozen BK131.out 3
    have hfz27_4 := blk_frozen BK131.out 4
    have hcz28_0 : w26.cell? ⟨gb133, 0, none⟩ = some (.int .i64 ((rd_T185 l0_1 a2).f0)) := (blk_cell BK133.out 0).trans rfl
    have hcz28_1 : w26.cell? ⟨gb133, 1, none⟩ = some (.int .i64 ((rd_T185 l0_1 a2).f1)) := (blk_cell BK133.out 1).trans rfl
    have hcz28_2 : w26.cell? ⟨gb133, 2, none⟩ = some (.int .i64 ((rd_T185 l0_1 a2).f2)) := (blk_cell BK133.out 2).trans rfl
    have hcz28_3 : w26.cell? ⟨gb133, 3, none⟩ = some (.bool ((rd_T185 l0_1 a2).f3)) := (blk_cell BK133.out 3).trans rfl
    have hcz28_4 : w26.cell? ⟨gb133, 4, none⟩ = some (.slice A132_4 ((rd_T185 l0_1 a2).f4).length c132_4) := (blk_cell BK133.out 4).trans rfl
    have hfz28_0 := blk_frozen BK133.out 0
    have hfz28_1 := blk_frozen BK133.out 1
    have hfz28_2 := blk_frozen BK133.out 2
    have hfz28_3 := blk_frozen BK133.out 3
    have hfz28_4 := blk_frozen BK133.out 4
    try go_wp2
    go_ret
    exact ⟨by first | rfl | (simp [errW_none, errW_some] <;> rfl) | (simp [*, errW_none, errW_some] <;> rfl), by repeat (first | (with_reducible first | exact HB.out | apply below_alloc | apply pw_below_drewN | apply below_drew1 | refine below_set ?_ GE129.out | refine below_set ?_ GE131.out | refine below_set ?_ GE133.out) | exact HB.out)⟩

/-! ### spec_GoodBox: function 113 -/
def spec_GoodBox.l0 : Nat → Int → List (S186) → List (S185) → Option (Bool)
  | 0, _, _, _ => none
  | k + 1, x3, x137000, x137001 => if x3 < (x137001.length : Int) then ((spec_l16Earlier.f x137000 x137001 (wrap64 (x3 - 1)) x3).bind fun t138 => (if t138 = true then (spec_GoodBox.l0 k (wrap64 (x3 + 1)) x137000 x137001) else (some false))) else (some true)
def spec_GoodBox.f (k : Nat) (l0_0 : List (S186)) (l0_1 : List (S185)) : Option (Bool) := (spec_l16Right.f k l0_0 l0_1).bind fun t137 => (if t137 = true then (spec_GoodBox.l0 k 1 l0_0 l0_1) else (some false))
theorem spec_GoodBox.mono_l : ∀ k, (∀ y0 y1 y2, LeO (spec_GoodBox.l0 k y0 y1 y2) (spec_GoodBox.l0 (k + 1) y0 y1 y2))
  | 0 => fun _ _ _ r h => by simp [spec_GoodBox.l0] at h
  | k + 1 => by
    have ih0 := spec_GoodBox.mono_l k
    · intro y0 y1 y2
      unfold spec_GoodBox.l0
      repeat' first
      | (with_reducible exact ih0 _ _ _)
      | (with_reducible exact spec_l16Right.mono _ _ _)
      | (with_reducible exact LeO.refl _)
      | (with_reducible exact LeO.none _)
      | (with_reducible refine LeO.ite ?_ ?_)
      | (with_reducible refine LeO.bind ?_ (fun _ => ?_))
      | exact ih0 _ _ _
      | exact spec_l16Right.mono _ _ _
      | exact LeO.none _
      | refine LeO.ite ?_ ?_
      | refine LeO.bind ?_ (fun _ => ?_)
theorem spec_GoodBox.mono : ∀ a0 a1 k, LeO (spec_GoodBox.f k a0 a1) (spec_GoodBox.f (k + 1) a0 a1) := by
  intro a0 a1 k
  have ih0 := spec_GoodBox.mono_l k
  unfold spec_GoodBox.f
  repeat' first
      | (with_reducible exact ih0 _ _ _)
      | (with_reducible exact spec_l16Right.mono _ _ _)
      | (with_reducible exact LeO.refl _)
      | (with_reducible exact LeO.none _)
      | (with_reducible refine LeO.ite ?_ ?_)
      | (with_reducible refine LeO.bind ?_ (fun _ => ?_))
      | exact ih0 _ _ _
      | exact spec_l16Right.mono _ _ _
      | exact LeO.none _
      | refine LeO.ite ?_ ?_
      | refine LeO.bind ?_ (fun _ => ?_)
set_option maxHeartbeats 8000000 in
set_option maxRecDepth 100000 in
theorem spec_GoodBox.calls (k : Nat) (A0_0 : Option Addr) (c0_0 : Nat) (l0_0 : List (S186)) (A0_1 : Option Addr) (c0_1 : Nat) (l0_1 : List (S185)) (r : Bool) (w : World) (hr0_0 : Kd.C k186 w A0_0 l0_0.length l0_0) (hc0_0 : l0_0.length ≤ c0_0) (hr0_1 : Kd.C k185 w A0_1 l0_1.length l0_1) (hc0_1 : l0_1.length ≤ c0_1) (h : spec_GoodBox.f k l0_0 l0_1 = some r) :
    Calls Try.prog 113 #[.agg #[.slice A0_0 l0_0.length c0_0, .slice A0_1 l0_1.length c0_1]] w fun e w' => e = .returned (.bool r) ∧ Below w.heap.size w w' := by
  have hu76 := Try.underlying76
  have HR0_0 := Aside0.mk hr0_0
  have HC0_0 := Aside0.mk hc0_0
  clear hr0_0 hc0_0
  have HR0_1 := Aside0.mk hr0_1
  have HC0_1 := Aside0.mk hc0_1
  clear hr0_1 hc0_1
  have HB := Aside0.mk (Below.refl w.heap.size w)
  have H : ((spec_l16Right.f k l0_0 l0_1).bind fun t137 => (if t137 = true then (spec_GoodBox.l0 k 1 l0_0 l0_1) else (some false))) = some r := h
  clear h
  replace H := Option.bind_eq_some_iff.mp H
  obtain ⟨t137, A20, H⟩ := H
  replace H : (if t137 = true then (spec_GoodBox.l0 k 1 l0_0 l0_1) else (some false)) = some r := H
  have A2 := Aside0.mk A20
  clear A20
  by_cases c3 : t137 = true
  rotate_left
  · replace c3 := Bool.eq_false_iff.mpr c3
    subst c3
    have H1 : (some false) = some r := by rw [if_neg (show ¬ (false = true) by decide)] at H; exact H
    clear H
    have H := H1
    clear H1
    obtain rfl := Option.some.inj H
    go_enter Try.func113, Try.ntmps113
    go_wp2_with (first | ((with_reducible refine gate_dst (N := 1) rfl ?_); refine box_event ?hg (N := 1) ?hd (cs := #[.slice A0_0 l0_0.length c0_0, .slice A0_1 l0_1.length c0_1]) (t := 76) ?hr ?_; (case hd => rfl); (case hg => rfl); (case hr => first | (go_simp; done) | (go_simp; rfl)); intro gb136 hg w15 hbox hb; have n0_ := Aside0.mk (below_step (by repeat (first | (with_reducible first | exact HB.out | apply below_alloc | apply pw_below_drewN | apply below_drew1) | exact HB.out)) hb); have n1_ := Aside0.mk (hbox); have n2_ := Aside0.mk ((by rw [hg]; exact (below_size (by repeat (first | (with_reducible first | exact HB.out | apply below_alloc | apply pw_below_drewN | apply below_drew1) | exact HB.out))) : w.heap.size ≤ gb136)); have n3_ := n2_; clear HB; have HB := n0_; have BK136 := n1_; have GW136 := n2_; have GE136 := n3_; clear n0_ n1_ n2_ n3_; clear hb hbox hg; have hcz16_0 : w15.cell? ⟨gb136, 0, none⟩ = some (.slice A0_0 l0_0.length c0_0) := (blk_cell BK136.out 0).trans rfl; have hcz16_1 : w15.cell? ⟨gb136, 1, none⟩ = some (.slice A0_1 l0_1.length c0_1) := (blk_cell BK136.out 1).trans rfl; have hfz16_0 := blk_frozen BK136.out 0; have hfz16_1 := blk_frozen BK136.out 1) | ((with_reducible refine gate_callee (f := 167) rfl ?_); refine goesL_ (some 5) rfl rfl Try.func167 (by kernel_rfl) rfl #[.agg #[.slice A0_0 l0_0.length c0_0, .slice A0_1 l0_1.length c0_1]] rfl (by (try simp only [List.map_toArray, List.map_cons, List.map_nil]); first | done | rfl | (simp only [List.length_drop, List.length_take]; rfl)) ?_; (with_reducible refine (spec_l16Right.calls k _ _ l0_0 _ _ l0_1 false _ ?side1 ?side2 ?side3 ?side4 A2.out).mono ?_); (case side1 => repeat (first | exact (Kd.C_below HR0_0.out HB.out) | (with_reducible refine Kd.C_alloc ?_ _) | (with_reducible refine Kd.C_drewN ?_ _) | (with_reducible refine Kd.C_drew ?_))); (case side2 => exact HC0_0.out); (case side3 => repeat (first | exact (Kd.C_below HR0_1.out HB.out) | (with_reducible refine Kd.C_alloc ?_ _) | (with_reducible refine Kd.C_drewN ?_ _) | (with_reducible refine Kd.C_drew ?_))); (case side4 => exact HC0_1.out); rintro e w17 ⟨rfl, hb⟩; refine ⟨_, rfl, ?_⟩; have n0_ := Aside0.mk (blk_below (g := gb136) (o := .cells #[.slice A0_0 l0_0.length c0_0, .slice A0_1 l0_1.length c0_1] 76 (0, 0)) (by (with_reducible repeat (first | refine blk_drewN ?_ _ | refine blk_drew ?_ | refine blk_alloc ?_ _)); exact BK136.out) hb); have n1_ := Aside0.mk (below_step (by repeat (first | (with_reducible first | exact HB.out | apply below_alloc | apply pw_below_drewN | apply below_drew1 | refine below_set ?_ GE136.out) | exact HB.out)) hb); clear BK136; clear HB; have BK136 := n0_; have HB := n1_; clear n0_ n1_; (try clear hb); (try clear hb2); (try clear hk); (try clear hi)))
    go_ret
    exact ⟨by first | rfl | (simp [errW_none, errW_some] <;> rfl) | (simp [*, errW_none, errW_some] <;> rfl), by repeat (first | (with_reducible first | exact HB.out | apply below_alloc | apply pw_below_drewN | apply below_drew1 | refine below_set ?_ GE136.out) | exact HB.out)⟩
  subst c3
  have H1 : (spec_GoodBox.l0 k 1 l0_0 l0_1) = some r := by rw [if_pos rfl] at H; exact H
  clear H
  have H := H1
  clear H1
  have H' := Aside0.mk H
  clear H
  go_enter Try.func113, Try.ntmps113
  go_wp2_with (first | ((with_reducible refine gate_dst (N := 1) rfl ?_); refine box_event ?hg (N := 1) ?hd (cs := #[.slice A0_0 l0_0.length c0_0, .slice A0_1 l0_1.length c0_1]) (t := 76) ?hr ?_; (case hd => rfl); (case hg => rfl); (case hr => first | (go_simp; done) | (go_simp; rfl)); intro gb136 hg w4 hbox hb; have n0_ := Aside0.mk (below_step (by repeat (first | (with_reducible first | exact HB.out | apply below_alloc | apply pw_below_drewN | apply below_drew1) | exact HB.out)) hb); have n1_ := Aside0.mk (hbox); have n2_ := Aside0.mk ((by rw [hg]; exact (below_size (by repeat (first | (with_reducible first | exact HB.out | apply below_alloc | apply pw_below_drewN | apply below_drew1) | exact HB.out))) : w.heap.size ≤ gb136)); have n3_ := n2_; clear HB; have HB := n0_; have BK136 := n1_; have GW136 := n2_; have GE136 := n3_; clear n0_ n1_ n2_ n3_; clear hb hbox hg; have hcz5_0 : w4.cell? ⟨gb136, 0, none⟩ = some (.slice A0_0 l0_0.length c0_0) := (blk_cell BK136.out 0).trans rfl; have hcz5_1 : w4.cell? ⟨gb136, 1, none⟩ = some (.slice A0_1 l0_1.length c0_1) := (blk_cell BK136.out 1).trans rfl; have hfz5_0 := blk_frozen BK136.out 0; have hfz5_1 := blk_frozen BK136.out 1) | ((with_reducible refine gate_callee (f := 167) rfl ?_); refine goesL_ (some 5) rfl rfl Try.func167 (by kernel_rfl) rfl #[.agg #[.slice A0_0 l0_0.length c0_0, .slice A0_1 l0_1.length c0_1]] rfl (by (try simp only [List.map_toArray, List.map_cons, List.map_nil]); first | done | rfl | (simp only [List.length_drop, List.length_take]; rfl)) ?_; (with_reducible refine (spec_l16Right.calls k _ _ l0_0 _ _ l0_1 true _ ?side1 ?side2 ?side3 ?side4 A2.out).mono ?_); (case side1 => repeat (first | exact (Kd.C_below HR0_0.out HB.out) | (with_reducible refine Kd.C_alloc ?_ _) | (with_reducible refine Kd.C_drewN ?_ _) | (with_reducible refine Kd.C_drew ?_))); (case side2 => exact HC0_0.out); (case side3 => repeat (first | exact (Kd.C_below HR0_1.out HB.out) | (with_reducible refine Kd.C_alloc ?_ _) | (with_reducible refine Kd.C_drewN ?_ _) | (with_reducible refine Kd.C_drew ?_))); (case side4 => exact HC0_1.out); rintro e w6 ⟨rfl, hb⟩; refine ⟨_, rfl, ?_⟩; have n0_ := Aside0.mk (blk_below (g := gb136) (o := .cells #[.slice A0_0 l0_0.length c0_0, .slice A0_1 l0_1.length c0_1] 76 (0, 0)) (by (with_reducible repeat (first | refine blk_drewN ?_ _ | refine blk_drew ?_ | refine blk_alloc ?_ _)); exact BK136.out) hb); have n1_ := Aside0.mk (below_step (by repeat (first | (with_reducible first | exact HB.out | apply below_alloc | apply pw_below_drewN | apply below_drew1 | refine below_set ?_ GE136.out) | exact HB.out)) hb); clear BK136; clear HB; have BK136 := n0_; have HB := n1_; clear n0_ n1_; (try clear hb); (try clear hb2); (try clear hk); (try clear hi)))
  go_loopg [3] k (fun kq v3 w' => ∃ (x3_1 : Int), v3 = .int .i64 x3_1 ∧ Aside0 (spec_GoodBox.l0 kq x3_1 l0_0 l0_1 = some r) ∧ Aside0 (kq ≤ k) ∧ Aside0 (w'.heap[gb136]? = some (.cells #[(.slice A0_0 l0_0.length c0_0), (.slice A0_1 l0_1.length c0_1)] 76 (0, 0))) ∧ Aside0 (Below w.heap.size w w'))
  case atStart => exact ⟨(1), (by first | rfl | (simp; done) | (simp [*]; done)), H', ⟨Nat.le_refl _⟩, ⟨by (with_reducible repeat (first | refine blk_drewN ?_ _ | refine blk_drew ?_ | refine blk_alloc ?_ _)); exact BK136.out⟩, ⟨by repeat (first | (with_reducible first | exact HB.out | apply below_alloc | apply pw_below_drewN | apply below_drew1 | refine below_set ?_ GE136.out) | exact HB.out)⟩⟩
  case round =>
    clear H'
    try clear c1
    try clear p2
    try clear c3
    try clear hcz5_0
    try clear hcz5_1
    try clear hfz5_0
    try clear hfz5_1
    obtain ⟨x3_1, rfl, HA, HK1, BK136, HB⟩ := hrel
    cases gk with
    | zero => exact absurd HA.out (by simp [spec_GoodBox.l0])
    | succ k1 =>
      have H := HA.out
      clear HA
      simp only [spec_GoodBox.l0] at H
      by_cases c7 : x3_1 < (l0_1.length : Int)
      rotate_left
      · rw [if_neg c7] at H
        have c7b0 : decide (x3_1 < (l0_1.length : Int)) = false := decide_eq_false c7
        clear c7
        obtain rfl := Option.some.inj H
        have hcz14_0 : wr.cell? ⟨gb136, 0, none⟩ = some (.slice A0_0 l0_0.length c0_0) := (blk_cell BK136.out 0).trans rfl
        have hcz14_1 : wr.cell? ⟨gb136, 1, none⟩ = some (.slice A0_1 l0_1.length c0_1) := (blk_cell BK136.out 1).trans rfl
        have hfz14_0 := blk_frozen BK136.out 0
        have hfz14_1 := blk_frozen BK136.out 1
        go_wp2
        go_ret
        exact ⟨by first | rfl | (simp [errW_none, errW_some] <;> rfl) | (simp [*, errW_none, errW_some] <;> rfl), by repeat (first | (with_reducible first | exact HB.out | apply below_alloc | apply pw_below_drewN | apply below_drew1 | refine below_set ?_ GE136.out) | exact HB.out)⟩
      rw [if_pos c7] at H
      have c7b0 : decide (x3_1 < (l0_1.length : Int)) = true := decide_eq_true c7
      clear c7
      replace H := Option.bind_eq_some_iff.mp H
      obtain ⟨t138, A80, H⟩ := H
      replace H : (if t138 = true then (spec_GoodBox.l0 k1 (wrap64 (x3_1 + 1)) l0_0 l0_1) else (some false)) = some r := H
      have A8 := Aside0.mk A80
      clear A80
      by_cases c9 : t138 = true
      rotate_left
      · replace c9 := Bool.eq_false_iff.mpr c9
        subst c9
        have H1 : (some false) = some r := by rw [if_neg (show ¬ (false = true) by decide)] at H; exact H
        clear H
        have H := H1
        clear H1
        obtain rfl := Option.some.inj H
        have hcz12_0 : wr.cell? ⟨gb136, 0, none⟩ = some (.slice A0_0 l0_0.length c0_0) := (blk_cell BK136.out 0).trans rfl
        have hcz12_1 : wr.cell? ⟨gb136, 1, none⟩ = some (.slice A0_1 l0_1.length c0_1) := (blk_cell BK136.out 1).trans rfl
        have hfz12_0 := blk_frozen BK136.out 0
        have hfz12_1 := blk_frozen BK136.out 1
        go_wp2_with (first | ((with_reducible refine gate_callee (f := 168) rfl ?_); refine goesL_ (some 18) rfl rfl Try.func168 (by kernel_rfl) rfl #[.agg #[.slice A0_0 l0_0.length c0_0, .slice A0_1 l0_1.length c0_1], .int .i64 (wrap64 (x3_1 - 1)), .int .i64 x3_1] rfl (by (try simp only [List.map_toArray, List.map_cons, List.map_nil]); first | done | rfl | (simp only [List.length_drop, List.length_take]; rfl)) ?_; (with_reducible refine (spec_l16Earlier.calls _ _ l0_0 _ _ l0_1 (wrap64 (x3_1 - 1)) x3_1 false _ ?side1 ?side2 ?side3 ?side4 A8.out).mono ?_); (case side1 => repeat (first | exact (Kd.C_below HR0_0.out HB.out) | (with_reducible refine Kd.C_alloc ?_ _) | (with_reducible refine Kd.C_drewN ?_ _) | (with_reducible refine Kd.C_drew ?_))); (case side2 => exact HC0_0.out); (case side3 => repeat (first | exact (Kd.C_below HR0_1.out HB.out) | (with_reducible refine Kd.C_alloc ?_ _) | (with_reducible refine Kd.C_drewN ?_ _) | (with_reducible refine Kd.C_drew ?_))); (case side4 => exact HC0_1.out); rintro e w13 ⟨rfl, hb⟩; refine ⟨_, rfl, ?_⟩; have n0_ := Aside0.mk (blk_below (g := gb136) (o := .cells #[.slice A0_0 l0_0.length c0_0, .slice A0_1 l0_1.length c0_1] 76 (0, 0)) (by (with_reducible repeat (first | refine blk_drewN ?_ _ | refine blk_drew ?_ | refine blk_alloc ?_ _)); exact BK136.out) hb); have n1_ := Aside0.mk (below_step (by repeat (first | (with_reducible first | exact HB.out | apply below_alloc | apply pw_below_drewN | apply below_drew1 | refine below_set ?_ GE136.out) | exact HB.out)) hb); clear BK136; clear HB; have BK136 := n0_; have HB := n1_; clear n0_ n1_; (try clear hb); (try clear hb2); (try clear hk); (try clear hi)))
        go_ret
        exact ⟨by first | rfl | (simp [errW_none, errW_some] <;> rfl) | (simp [*, errW_none, errW_some] <;> rfl), by repeat (first | (with_reducible first | exact HB.out | apply below_alloc | apply pw_below_drewN | apply below_drew1 | refine below_set ?_ GE136.out) | exact HB.out)⟩
      subst c9
      have H1 : (spec_GoodBox.l0 k1 (wrap64 (x3_1 + 1)) l0_0 l0_1) = some r := by rw [if_pos rfl] at H; exact H
      clear H
      have H := H1
      clear H1
      have H' := Aside0.mk H
      clear H
      have hcz10_0 : wr.cell? ⟨gb136, 0, none⟩ = some (.slice A0_0 l0_0.length c0_0) := (blk_cell BK136.out 0).trans rfl
      have hcz10_1 : wr.cell? ⟨gb136, 1, none⟩ = some (.slice A0_1 l0_1.length c0_1) := (blk_cell BK136.out 1).trans rfl
      have hfz10_0 := blk_frozen BK136.out 0
      have hfz10_1 := blk_frozen BK136.out 1
      go_wp2_with (first | ((with_reducible refine gate_callee (f := 168) rfl ?_); refine goesL_ (some 18) rfl rfl Try.func168 (by kernel_rfl) rfl #[.agg #[.slice A0_0 l0_0.length c0_0, .slice A0_1 l0_1.length c0_1], .int .i64 (wrap64 (x3_1 - 1)), .int .i64 x3_1] rfl (by (try simp only [List.map_toArray, List.map_cons, List.map_nil]); first | done | rfl | (simp only [List.length_drop, List.length_take]; rfl)) ?_; (with_reducible refine (spec_l16Earlier.calls _ _ l0_0 _ _ l0_1 (wrap64 (x3_1 - 1)) x3_1 true _ ?side1 ?side2 ?side3 ?side4 A8.out).mono ?_); (case side1 => repeat (first | exact (Kd.C_below HR0_0.out HB.out) | (with_reducible refine Kd.C_alloc ?_ _) | (with_reducible refine Kd.C_drewN ?_ _) | (with_reducible refine Kd.C_drew ?_))); (case side2 => exact HC0_0.out); (case side3 => repeat (first | exact (Kd.C_below HR0_1.out HB.out) | (with_reducible refine Kd.C_alloc ?_ _) | (with_reducible refine Kd.C_drewN ?_ _) | (with_reducible refine Kd.C_drew ?_))); (case side4 => exact HC0_1.out); rintro e w11 ⟨rfl, hb⟩; refine ⟨_, rfl, ?_⟩; have n0_ := Aside0.mk (blk_below (g := gb136) (o := .cells #[.slice A0_0 l0_0.length c0_0, .slice A0_1 l0_1.length c0_1] 76 (0, 0)) (by (with_reducible repeat (first | refine blk_drewN ?_ _ | refine blk_drew ?_ | refine blk_alloc ?_ _)); exact BK136.out) hb); have n1_ := Aside0.mk (below_step (by repeat (first | (with_reducible first | exact HB.out | apply below_alloc | apply pw_below_drewN | apply below_drew1 | refine below_set ?_ GE136.out) | exact HB.out)) hb); clear BK136; clear HB; have BK136 := n0_; have HB := n1_; clear n0_ n1_; (try clear hb); (try clear hb2); (try clear hk); (try clear hi)))
      go_roundg k1
      case measure => have := HK1.out; omega
      case rel => exact ⟨(wrap64 (x3_1 + 1)), (by first | rfl | (simp; done) | (simp [*]; done)), H', ⟨by have := HK1.out; omega⟩, ⟨by (with_reducible repeat (first | refine blk_drewN ?_ _ | refine blk_drew ?_ | refine blk_alloc ?_ _)); exact BK136.out⟩, ⟨by repeat (first | (with_reducible first | exact HB.out | apply below_alloc | apply pw_below_drewN | apply below_drew1 | refine below_set ?_ GE136.out) | exact HB.out)⟩⟩

/-! ### spec_l17Due: function 114 -/
def spec_l17Due.f (l0_0 : List (S186)) (l0_1 : List (S185)) (a1 : Int) : Option (Int) := if 0 ≤ a1 then (if a1 < (l0_1.length : Int) then (if 0 ≤ ((rd_T185 l0_1 a1).f0) then (if ((rd_T185 l0_1 a1).f0) < (l0_0.length : Int) then (if ((rd_T186 l0_0 ((rd_T185 l0_1 a1).f0)).f1) = 0 then (none) else (some (wrap64 (Int.tdiv (wrap64 (((rd_T185 l0_1 a1).f1) * 1000000)) ((rd_T186 l0_0 ((rd_T185 l0_1 a1).f0)).f1))))) else (none)) else (none)) else (none)) else (none)
set_option maxHeartbeats 8000000 in
set_option maxRecDepth 100000 in
theorem spec_l17Due.calls (A0_0 : Option Addr) (c0_0 : Nat) (l0_0 : List (S186)) (A0_1 : Option Addr) (c0_1 : Nat) (l0_1 : List (S185)) (a1 : Int) (r : Int) (w : World) (hr0_0 : Kd.C k186 w A0_0 l0_0.length l0_0) (hc0_0 : l0_0.length ≤ c0_0) (hr0_1 : Kd.C k185 w A0_1 l0_1.length l0_1) (hc0_1 : l0_1.length ≤ c0_1) (h : spec_l17Due.f l0_0 l0_1 a1 = some r) :
    Calls Try.prog 114 #[.agg #[.slice A0_0 l0_0.length c0_0, .slice A0_1 l0_1.length c0_1], .int .i64 a1] w fun e w' => e = .returned (.int .i64 r) ∧ Below w.heap.size w w' := by
  have hu76 := Try.underlying76
  have hu185 := Try.underlying185
  have HR0_0 := Aside0.mk hr0_0
  have HC0_0 := Aside0.mk hc0_0
  clear hr0_0 hc0_0
  have HR0_1 := Aside0.mk hr0_1
  have HC0_1 := Aside0.mk hc0_1
  clear hr0_1 hc0_1
  have HB := Aside0.mk (Below.refl w.heap.size w)
  have H : (if 0 ≤ a1 then (if a1 < (l0_1.length : Int) then (if 0 ≤ ((rd_T185 l0_1 a1).f0) then (if ((rd_T185 l0_1 a1).f0) < (l0_0.length : Int) then (if ((rd_T186 l0_0 ((rd_T185 l0_1 a1).f0)).f1) = 0 then (none) else (some (wrap64 (Int.tdiv (wrap64 (((rd_T185 l0_1 a1).f1) * 1000000)) ((rd_T186 l0_0 ((rd_T185 l0_1 a1).f0)).f1))))) else (none)) else (none)) else (none)) else (none)) = some r := h
  clear h
  by_cases c3 : 0 ≤ a1
  rotate_left
  · rw [if_neg c3] at H
    exact absurd H (by simp)
  rw [if_pos c3] at H
  have c3b0 : decide (0 ≤ a1) = true := decide_eq_true c3
  clear c3
  by_cases c4 : a1 < (l0_1.length : Int)
  rotate_left
  · rw [if_neg c4] at H
    exact absurd H (by simp)
  rw [if_pos c4] at H
  have c4b0 : decide (a1 < (l0_1.length : Int)) = true := decide_eq_true c4
  clear c4
  by_cases c5 : 0 ≤ ((rd_T185 l0_1 a1).f0)
  rotate_left
  · rw [if_neg c5] at H
    exact absurd H (by simp)
  rw [if_pos c5] at H
  have c5b0 : decide (0 ≤ ((rd_T185 l0_1 a1).f0)) = true := decide_eq_true c5
  clear c5
  by_cases c6 : ((rd_T185 l0_1 a1).f0) < (l0_0.length : Int)
  rotate_left
  · rw [if_neg c6] at H
    exact absurd H (by simp)
  rw [if_pos c6] at H
  have c6b0 : decide (((rd_T185 l0_1 a1).f0) < (l0_0.length : Int)) = true := decide_eq_true c6
  clear c6
  by_cases c7 : ((rd_T186 l0_0 ((rd_T185 l0_1 a1).f0)).f1) = 0
  · rw [if_pos c7] at H
    exact absurd H (by simp)
  rw [if_neg c7] at H
  have c7b0 : (((rd_T186 l0_0 ((rd_T185 l0_1 a1).f0)).f1) == 0) = false := beq_eq_false_iff_ne.mpr c7
  have c7b1 : (((rd_T186 l0_0 ((rd_T185 l0_1 a1).f0)).f1) != 0) = true := bne_iff_ne.mpr c7
  obtain rfl := Option.some.inj H
  go_enter Try.func114, Try.ntmps114
  iterate 3 (try go_wp2_with (first | ((with_reducible refine gate_dst (N := 2) rfl ?_); refine box_event ?hg (N := 2) ?hd (cs := #[.slice A0_0 l0_0.length c0_0, .slice A0_1 l0_1.length c0_1]) (t := 76) ?hr ?_; (case hd => rfl); (case hg => rfl); (case hr => first | (go_simp; done) | (go_simp; rfl)); intro gb139 hg w8 hbox hb; have n0_ := Aside0.mk (below_step (by repeat (first | (with_reducible first | exact HB.out | apply below_alloc | apply pw_below_drewN | apply below_drew1) | exact HB.out)) hb); have n1_ := Aside0.mk (hbox); have n2_ := Aside0.mk ((by rw [hg]; exact (below_size (by repeat (first | (with_reducible first | exact HB.out | apply below_alloc | apply pw_below_drewN | apply below_drew1) | exact HB.out))) : w.heap.size ≤ gb139)); have n3_ := n2_; clear HB; have HB := n0_; have BK139 := n1_; have GW139 := n2_; have GE139 := n3_; clear n0_ n1_ n2_ n3_; clear hb hbox hg; have hcz9_0 : w8.cell? ⟨gb139, 0, none⟩ = some (.slice A0_0 l0_0.length c0_0) := (blk_cell BK139.out 0).trans rfl; have hcz9_1 : w8.cell? ⟨gb139, 1, none⟩ = some (.slice A0_1 l0_1.length c0_1) := (blk_cell BK139.out 1).trans rfl; have hfz9_0 := blk_frozen BK139.out 0; have hfz9_1 := blk_frozen BK139.out 1; have p140 : 0 ≤ (a1 : Int) := of_decide_eq_true (by first | (with_reducible assumption) | assumption); have q140 : a1 < (l0_1.length : Int) := of_decide_eq_true (by first | (with_reducible assumption) | assumption); obtain ⟨ad140, A140_4, c140_4, e140, hx140_0, hx140_1, hx140_2, hx140_3, hx140_4, hl140_4, hi140_4⟩ := at_T185 HR0_1.out a1 p140 q140; cases e140; replace hx140_0 := (HB.out.cell (World.block_lt_of_cell? w _ hx140_0)).trans hx140_0; replace hx140_1 := (HB.out.cell (World.block_lt_of_cell? w _ hx140_1)).trans hx140_1; replace hx140_2 := (HB.out.cell (World.block_lt_of_cell? w _ hx140_2)).trans hx140_2; replace hx140_3 := (HB.out.cell (World.block_lt_of_cell? w _ hx140_3)).trans hx140_3; replace hx140_4 := (HB.out.cell (World.block_lt_of_cell? w _ hx140_4)).trans hx140_4; have HR140_4 := Aside0.mk hi140_4; have HC140_4 := Aside0.mk hl140_4; clear hi140_4 hl140_4; replace p140 := eq_true p140; replace q140 := eq_true q140) | ((with_reducible refine gate_dst (N := 5) rfl ?_); refine box_event ?hg (N := 5) ?hd (cs := #[.int .i64 0, .int .i64 0, .int .i64 0, .bool false, .slice none 0 0]) (t := 185) ?hr ?_; (case hd => rfl); (case hg => rfl); (case hr => first | (go_simp; done) | (go_simp; rfl)); intro gb141 hg w10 hbox hb; have n0_ := Aside0.mk (blk_below (g := gb139) (o := .cells #[.slice A0_0 l0_0.length c0_0, .slice (some ad140) l0_1.length c0_1] 76 (0, 0)) (by (with_reducible repeat (first | refine blk_drewN ?_ _ | refine blk_drew ?_ | refine blk_alloc ?_ _)); exact BK139.out) hb); have n1_ := Aside0.mk (below_step (by repeat (first | (with_reducible first | exact HB.out | apply below_alloc | apply pw_below_drewN | apply below_drew1 | refine below_set ?_ GE139.out) | exact HB.out)) hb); have n2_ := Aside0.mk (hbox); have n3_ := Aside0.mk ((by rw [hg]; exact (below_size (by repeat (first | (with_reducible first | exact HB.out | apply below_alloc | apply pw_below_drewN | apply below_drew1 | refine below_set ?_ GE139.out) | exact HB.out))) : w.heap.size ≤ gb141)); have n4_ := n3_; have n5_ := Aside0.mk ((by rw [hg]; exact Nat.ne_of_lt (blk_lt (g := gb139) (o := .cells #[.slice A0_0 l0_0.length c0_0, .slice (some ad140) l0_1.length c0_1] 76 (0, 0)) (by (with_reducible repeat (first | refine blk_drewN ?_ _ | refine blk_drew ?_ | refine blk_alloc ?_ _)); exact BK139.out)) : gb139 ≠ gb141)); have n6_ := Aside0.mk ((by rw [hg]; exact Nat.ne_of_gt (blk_lt (g := gb139) (o := .cells #[.slice A0_0 l0_0.length c0_0, .slice (some ad140) l0_1.length c0_1] 76 (0, 0)) (by (with_reducible repeat (first | refine blk_drewN ?_ _ | refine blk_drew ?_ | refine blk_alloc ?_ _)); exact BK139.out)) : gb141 ≠ gb139)); clear BK139; clear HB; have BK139 := n0_; have HB := n1_; have BK141 := n2_; have GW141 := n3_; have GE141 := n4_; have NB139_141 := n5_; have NB141_139 := n6_; clear n0_ n1_ n2_ n3_ n4_ n5_ n6_; clear hb hbox hg; have hnb11 := NB141_139.out; have hnc11 := NB139_141.out; have hcz12_0 : w10.cell? ⟨gb141, 0, none⟩ = some (.int .i64 0) := (blk_cell BK141.out 0).trans rfl; have hcz12_1 : w10.cell? ⟨gb141, 1, none⟩ = some (.int .i64 0) := (blk_cell BK141.out 1).trans rfl; have hcz12_2 : w10.cell? ⟨gb141, 2, none⟩ = some (.int .i64 0) := (blk_cell BK141.out 2).trans rfl; have hcz12_3 : w10.cell? ⟨gb141, 3, none⟩ = some (.bool false) := (blk_cell BK141.out 3).trans rfl; have hcz12_4 : w10.cell? ⟨gb141, 4, none⟩ = some (.slice none 0 0) := (blk_cell BK141.out 4).trans rfl; have hfz12_0 := blk_frozen BK141.out 0; have hfz12_1 := blk_frozen BK141.out 1; have hfz12_2 := blk_frozen BK141.out 2; have hfz12_3 := blk_frozen BK141.out 3; have hfz12_4 := blk_frozen BK141.out 4; have hcz13_0 : w10.cell? ⟨gb139, 0, none⟩ = some (.slice A0_0 l0_0.length c0_0) := (blk_cell BK139.out 0).trans rfl; have hcz13_1 : w10.cell? ⟨gb139, 1, none⟩ = some (.slice (some ad140) l0_1.length c0_1) := (blk_cell BK139.out 1).trans rfl; have hfz13_0 := blk_frozen BK139.out 0; have hfz13_1 := blk_frozen BK139.out 1; have p142 : 0 ≤ (((rd_T185 l0_1 a1).f0) : Int) := of_decide_eq_true (by first | (with_reducible assumption) | assumption); have q142 : ((rd_T185 l0_1 a1).f0) < (l0_0.length : Int) := of_decide_eq_true (by first | (with_reducible assumption) | assumption); obtain ⟨ad142, e142, hx142_0, hx142_1, hx142_2⟩ := at_T186 HR0_0.out ((rd_T185 l0_1 a1).f0) p142 q142; cases e142; have hn142_0 : ad142.block ≠ gb141 := Nat.ne_of_lt (Nat.lt_of_lt_of_le (by have := World.block_lt_of_cell? _ _ hx142_0; first | rwa [add_block] at this | exact this) GW141.out); have hn142_1 : ad142.block ≠ gb141 := Nat.ne_of_lt (Nat.lt_of_lt_of_le (by have := World.block_lt_of_cell? _ _ hx142_0; first | rwa [add_block] at this | exact this) GW141.out); have hn142_2 : ad142.block ≠ gb141 := Nat.ne_of_lt (Nat.lt_of_lt_of_le (by have := World.block_lt_of_cell? _ _ hx142_0; first | rwa [add_block] at this | exact this) GW141.out); have hn142_3 : ad142.block ≠ gb141 := Nat.ne_of_lt (Nat.lt_of_lt_of_le (by have := World.block_lt_of_cell? _ _ hx142_0; first | rwa [add_block] at this | exact this) GW141.out); have hn142_4 : ad142.block ≠ gb141 := Nat.ne_of_lt (Nat.lt_of_lt_of_le (by have := World.block_lt_of_cell? _ _ hx142_0; first | rwa [add_block] at this | exact this) GW141.out); replace hx142_0 := (HB.out.cell (World.block_lt_of_cell? w _ hx142_0)).trans hx142_0; replace hx142_1 := (HB.out.cell (World.block_lt_of_cell? w _ hx142_1)).trans hx142_1; replace hx142_2 := (HB.out.cell (World.block_lt_of_cell? w _ hx142_2)).trans hx142_2; replace hx142_0 := (cell_far (p := ⟨gb141, 0, none⟩) (by first | (rw [add_block]; exact hn142_0) | (show (Addr.add _ _).block ≠ _; rw [add_block]; exact hn142_0) | exact hn142_0) (.int .i64 ((rd_T185 l0_1 a1).f0))).trans hx142_0; replace hx142_1 := (cell_far (p := ⟨gb141, 0, none⟩) (by first | (rw [add_block]; exact hn142_0) | (show (Addr.add _ _).block ≠ _; rw [add_block]; exact hn142_0) | exact hn142_0) (.int .i64 ((rd_T185 l0_1 a1).f0))).trans hx142_1; replace hx142_2 := (cell_far (p := ⟨gb141, 0, none⟩) (by first | (rw [add_block]; exact hn142_0) | (show (Addr.add _ _).block ≠ _; rw [add_block]; exact hn142_0) | exact hn142_0) (.int .i64 ((rd_T185 l0_1 a1).f0))).trans hx142_2; replace hx142_0 := (cell_far (p := ⟨gb141, 1, none⟩) (by first | (rw [add_block]; exact hn142_1) | (show (Addr.add _ _).block ≠ _; rw [add_block]; exact hn142_1) | exact hn142_1) (.int .i64 ((rd_T185 l0_1 a1).f1))).trans hx142_0; replace hx142_1 := (cell_far (p := ⟨gb141, 1, none⟩) (by first | (rw [add_block]; exact hn142_1) | (show (Addr.add _ _).block ≠ _; rw [add_block]; exact hn142_1) | exact hn142_1) (.int .i64 ((rd_T185 l0_1 a1).f1))).trans hx142_1; replace hx142_2 := (cell_far (p := ⟨gb141, 1, none⟩) (by first | (rw [add_block]; exact hn142_1) | (show (Addr.add _ _).block ≠ _; rw [add_block]; exact hn142_1) | exact hn142_1) (.int .i64 ((rd_T185 l0_1 a1).f1))).trans hx142_2; replace hx142_0 := (cell_far (p := ⟨gb141, 2, none⟩) (by first | (rw [add_block]; exact hn142_2) | (show (Addr.add _ _).block ≠ _; rw [add_block]; exact hn142_2) | exact hn142_2) (.int .i64 ((rd_T185 l0_1 a1).f2))).trans hx142_0; replace hx142_1 := (cell_far (p := ⟨gb141, 2, none⟩) (by first | (rw [add_block]; exact hn142_2) | (show (Addr.add _ _).block ≠ _; rw [add_block]; exact hn142_2) | exact hn142_2) (.int .i64 ((rd_T185 l0_1 a1).f2))).trans hx142_1; replace hx142_2 := (cell_far (p := ⟨gb141, 2, none⟩) (by first | (rw [add_block]; exact hn142_2) | (show (Addr.add _ _).block ≠ _; rw [add_block]; exact hn142_2) | exact hn142_2) (.int .i64 ((rd_T185 l0_1 a1).f2))).trans hx142_2; replace hx142_0 := (cell_far (p := ⟨gb141, 3, none⟩) (by first | (rw [add_block]; exact hn142_3) | (show (Addr.add _ _).block ≠ _; rw [add_block]; exact hn142_3) | exact hn142_3) (.bool ((rd_T185 l0_1 a1).f3))).trans hx142_0; replace hx142_1 := (cell_far (p := ⟨gb141, 3, none⟩) (by first | (rw [add_block]; exact hn142_3) | (show (Addr.add _ _).block ≠ _; rw [add_block]; exact hn142_3) | exact hn142_3) (.bool ((rd_T185 l0_1 a1).f3))).trans hx142_1; replace hx142_2 := (cell_far (p := ⟨gb141, 3, none⟩) (by first | (rw [add_block]; exact hn142_3) | (show (Addr.add _ _).block ≠ _; rw [add_block]; exact hn142_3) | exact hn142_3) (.bool ((rd_T185 l0_1 a1).f3))).trans hx142_2; replace hx142_0 := (cell_far (p := ⟨gb141, 4, none⟩) (by first | (rw [add_block]; exact hn142_4) | (show (Addr.add _ _).block ≠ _; rw [add_block]; exact hn142_4) | exact hn142_4) (.slice A140_4 ((rd_T185 l0_1 a1).f4).length c140_4)).trans hx142_0; replace hx142_1 := (cell_far (p := ⟨gb141, 4, none⟩) (by first | (rw [add_block]; exact hn142_4) | (show (Addr.add _ _).block ≠ _; rw [add_block]; exact hn142_4) | exact hn142_4) (.slice A140_4 ((rd_T185 l0_1 a1).f4).length c140_4)).trans hx142_1; replace hx142_2 := (cell_far (p := ⟨gb141, 4, none⟩) (by first | (rw [add_block]; exact hn142_4) | (show (Addr.add _ _).block ≠ _; rw [add_block]; exact hn142_4) | exact hn142_4) (.slice A140_4 ((rd_T185 l0_1 a1).f4).length c140_4)).trans hx142_2; (try have hy142_0 := fun (n_ : Nat) => (show (((((((w10.drewN n_).setCell ⟨gb141, 0, none⟩ (.int .i64 ((rd_T185 l0_1 a1).f0))).setCell ⟨gb141, 1, none⟩ (.int .i64 ((rd_T185 l0_1 a1).f1))).setCell ⟨gb141, 2, none⟩ (.int .i64 ((rd_T185 l0_1 a1).f2))).setCell ⟨gb141, 3, none⟩ (.bool ((rd_T185 l0_1 a1).f3))).setCell ⟨gb141, 4, none⟩ (.slice A140_4 ((rd_T185 l0_1 a1).f4).length c140_4))).cell? _ = some _ from by simp only [set_drewN, cell_drewN]; exact hx142_0)); (try have hy142_1 := fun (n_ : Nat) => (show (((((((w10.drewN n_).setCell ⟨gb141, 0, none⟩ (.int .i64 ((rd_T185 l0_1 a1).f0))).setCell ⟨gb141, 1, none⟩ (.int .i64 ((rd_T185 l0_1 a1).f1))).setCell ⟨gb141, 2, none⟩ (.int .i64 ((rd_T185 l0_1 a1).f2))).setCell ⟨gb141, 3, none⟩ (.bool ((rd_T185 l0_1 a1).f3))).setCell ⟨gb141, 4, none⟩ (.slice A140_4 ((rd_T185 l0_1 a1).f4).length c140_4))).cell? _ = some _ from by simp only [set_drewN, cell_drewN]; exact hx142_1)); (try have hy142_2 := fun (n_ : Nat) => (show (((((((w10.drewN n_).setCell ⟨gb141, 0, none⟩ (.int .i64 ((rd_T185 l0_1 a1).f0))).setCell ⟨gb141, 1, none⟩ (.int .i64 ((rd_T185 l0_1 a1).f1))).setCell ⟨gb141, 2, none⟩ (.int .i64 ((rd_T185 l0_1 a1).f2))).setCell ⟨gb141, 3, none⟩ (.bool ((rd_T185 l0_1 a1).f3))).setCell ⟨gb141, 4, none⟩ (.slice A140_4 ((rd_T185 l0_1 a1).f4).length c140_4))).cell? _ = some _ from by simp only [set_drewN, cell_drewN]; exact hx142_2)); clear hn142_0; clear hn142_1; clear hn142_2; clear hn142_3; clear hn142_4; replace p142 := eq_true p142; replace q142 := eq_true q142)); try go_quiet (fail))
  go_ret
  exact ⟨by first | rfl | (simp [errW_none, errW_some] <;> rfl) | (simp [*, errW_none, errW_some] <;> rfl), by repeat (first | (with_reducible first | exact HB.out | apply below_alloc | apply pw_below_drewN | apply below_drew1 | refine below_set ?_ GE139.out | refine below_set ?_ GE141.out) | exact HB.out)⟩

/-! ### spec_Due: function 46 -/
def spec_Due.f (k : Nat) (l0_0 : List (S186)) (l0_1 : List (S185)) (a1 : Int) : Option (Int) := (spec_GoodBox.f k l0_0 l0_1).bind fun t144 => (if t144 = true then (if a1 < 0 then (some (-1)) else (if a1 ≥ (l0_1.length : Int) then (some (-1)) else ((spec_l17Due.f l0_0 l0_1 a1).bind fun t145 => (some t145)))) else (some (-1)))
theorem spec_Due.mono : ∀ a0 a1 a2 k, LeO (spec_Due.f k a0 a1 a2) (spec_Due.f (k + 1) a0 a1 a2) := by
  intro a0 a1 a2 k
  unfold spec_Due.f
  repeat' first
      | (with_reducible exact spec_GoodBox.mono _ _ _)
      | (with_reducible exact LeO.refl _)
      | (with_reducible exact LeO.none _)
      | (with_reducible refine LeO.ite ?_ ?_)
      | (with_reducible refine LeO.bind ?_ (fun _ => ?_))
      | exact spec_GoodBox.mono _ _ _
      | exact LeO.none _
      | refine LeO.ite ?_ ?_
      | refine LeO.bind ?_ (fun _ => ?_)
set_option maxHeartbeats 8000000 in
set_option maxRecDepth 100000 in
theorem spec_Due.calls (k : Nat) (A0_0 : Option Addr) (c0_0 : Nat) (l0_0 : List (S186)) (A0_1 : Option Addr) (c0_1 : Nat) (l0_1 : List (S185)) (a1 : Int) (r : Int) (w : World) (hr0_0 : Kd.C k186 w A0_0 l0_0.length l0_0) (hc0_0 : l0_0.length ≤ c0_0) (hr0_1 : Kd.C k185 w A0_1 l0_1.length l0_1) (hc0_1 : l0_1.length ≤ c0_1) (h : spec_Due.f k l0_0 l0_1 a1 = some r) :
    Calls Try.prog 46 #[.agg #[.slice A0_0 l0_0.length c0_0, .slice A0_1 l0_1.length c0_1], .int .i64 a1] w fun e w' => e = .returned (.int .i64 r) ∧ Below w.heap.size w w' := by
  have hu76 := Try.underlying76
  have HR0_0 := Aside0.mk hr0_0
  have HC0_0 := Aside0.mk hc0_0
  clear hr0_0 hc0_0
  have HR0_1 := Aside0.mk hr0_1
  have HC0_1 := Aside0.mk hc0_1
  clear hr0_1 hc0_1
  have HB := Aside0.mk (Below.refl w.heap.size w)
  have H : ((spec_GoodBox.f k l0_0 l0_1).bind fun t144 => (if t144 = true then (if a1 < 0 then (some (-1)) else (if a1 ≥ (l0_1.length : Int) then (some (-1)) else ((spec_l17Due.f l0_0 l0_1 a1).bind fun t145 => (some t145)))) else (some (-1)))) = some r := h
  clear h
  replace H := Option.bind_eq_some_iff.mp H
  obtain ⟨t144, A30, H⟩ := H
  replace H : (if t144 = true then (if a1 < 0 then (some (-1)) else (if a1 ≥ (l0_1.length : Int) then (some (-1)) else ((spec_l17Due.f l0_0 l0_1 a1).bind fun t145 => (some t145)))) else (some (-1))) = some r := H
  have A3 := Aside0.mk A30
  clear A30
  by_cases c4 : t144 = true
  rotate_left
  · replace c4 := Bool.eq_false_iff.mpr c4
    subst c4
    have H1 : (some (-1)) = some r := by rw [if_neg (show ¬ (false = true) by decide)] at H; exact H
    clear H
    have H := H1
    clear H1
    obtain rfl := Option.some.inj H
    go_enter Try.func46, Try.ntmps46
    go_wp2_with (first | ((with_reducible refine gate_dst (N := 2) rfl ?_); (try (refine gate_guard (by rfl) ?_; dsimp only)); refine box_event ?hg (N := 2) ?hd (cs := #[.slice A0_0 l0_0.length c0_0, .slice A0_1 l0_1.length c0_1]) (t := 76) ?hr ?_; (case hd => rfl); (case hg => rfl); (case hr => first | (go_simp; done) | (go_simp; rfl)); intro gb143 hg w20 hbox hb; have n0_ := Aside0.mk (below_step (by repeat (first | (with_reducible first | exact HB.out | apply below_alloc | apply pw_below_drewN | apply below_drew1) | exact HB.out)) hb); have n1_ := Aside0.mk (hbox); have n2_ := Aside0.mk ((by rw [hg]; exact (below_size (by repeat (first | (with_reducible first | exact HB.out | apply below_alloc | apply pw_below_drewN | apply below_drew1) | exact HB.out))) : w.heap.size ≤ gb143)); have n3_ := n2_; clear HB; have HB := n0_; have BK143 := n1_; have GW143 := n2_; have GE143 := n3_; clear n0_ n1_ n2_ n3_; clear hb hbox hg; have hcz21_0 : w20.cell? ⟨gb143, 0, none⟩ = some (.slice A0_0 l0_0.length c0_0) := (blk_cell BK143.out 0).trans rfl; have hcz21_1 : w20.cell? ⟨gb143, 1, none⟩ = some (.slice A0_1 l0_1.length c0_1) := (blk_cell BK143.out 1).trans rfl; have hfz21_0 := blk_frozen BK143.out 0; have hfz21_1 := blk_frozen BK143.out 1) | ((with_reducible refine gate_callee (f := 113) rfl ?_); refine goesL_ (some 6) rfl rfl Try.func113 (by kernel_rfl) rfl #[.agg #[.slice A0_0 l0_0.length c0_0, .slice A0_1 l0_1.length c0_1]] rfl (by (try simp only [List.map_toArray, List.map_cons, List.map_nil]); first | done | rfl | (simp only [List.length_drop, List.length_take]; rfl)) ?_; (with_reducible refine (spec_GoodBox.calls k _ _ l0_0 _ _ l0_1 false _ ?side1 ?side2 ?side3 ?side4 A3.out).mono ?_); (case side1 => repeat (first | exact (Kd.C_below HR0_0.out HB.out) | (with_reducible refine Kd.C_alloc ?_ _) | (with_reducible refine Kd.C_drewN ?_ _) | (with_reducible refine Kd.C_drew ?_))); (case side2 => exact HC0_0.out); (case side3 => repeat (first | exact (Kd.C_below HR0_1.out HB.out) | (with_reducible refine Kd.C_alloc ?_ _) | (with_reducible refine Kd.C_drewN ?_ _) | (with_reducible refine Kd.C_drew ?_))); (case side4 => exact HC0_1.out); rintro e w22 ⟨rfl, hb⟩; refine ⟨_, rfl, ?_⟩; have n0_ := Aside0.mk (blk_below (g := gb143) (o := .cells #[.slice A0_0 l0_0.length c0_0, .slice A0_1 l0_1.length c0_1] 76 (0, 0)) (by (with_reducible repeat (first | refine blk_drewN ?_ _ | refine blk_drew ?_ | refine blk_alloc ?_ _)); exact BK143.out) hb); have n1_ := Aside0.mk (below_step (by repeat (first | (with_reducible first | exact HB.out | apply below_alloc | apply pw_below_drewN | apply below_drew1 | refine below_set ?_ GE143.out) | exact HB.out)) hb); clear BK143; clear HB; have BK143 := n0_; have HB := n1_; clear n0_ n1_; (try clear hb); (try clear hb2); (try clear hk); (try clear hi)))
    go_ret
    exact ⟨by first | rfl | (simp [errW_none, errW_some] <;> rfl) | (simp [*, errW_none, errW_some] <;> rfl), by repeat (first | (with_reducible first | exact HB.out | apply below_alloc | apply pw_below_drewN | apply below_drew1 | refine below_set ?_ GE143.out) | exact HB.out)⟩
  subst c4
  have H1 : (if a1 < 0 then (some (-1)) else (if a1 ≥ (l0_1.length : Int) then (some (-1)) else ((spec_l17Due.f l0_0 l0_1 a1).bind fun t145 => (some t145)))) = some r := by rw [if_pos rfl] at H; exact H
  clear H
  have H := H1
  clear H1
  by_cases c5 : a1 < 0
  · rw [if_pos c5] at H
    have c5b0 : decide (a1 < 0) = true := decide_eq_true c5
    clear c5
    obtain rfl := Option.some.inj H
    go_enter Try.func46, Try.ntmps46
    go_wp2_with (first | ((with_reducible refine gate_dst (N := 2) rfl ?_); (try (refine gate_guard (by rfl) ?_; dsimp only)); refine box_event ?hg (N := 2) ?hd (cs := #[.slice A0_0 l0_0.length c0_0, .slice A0_1 l0_1.length c0_1]) (t := 76) ?hr ?_; (case hd => rfl); (case hg => rfl); (case hr => first | (go_simp; done) | (go_simp; rfl)); intro gb143 hg w6 hbox hb; have n0_ := Aside0.mk (below_step (by repeat (first | (with_reducible first | exact HB.out | apply below_alloc | apply pw_below_drewN | apply below_drew1) | exact HB.out)) hb); have n1_ := Aside0.mk (hbox); have n2_ := Aside0.mk ((by rw [hg]; exact (below_size (by repeat (first | (with_reducible first | exact HB.out | apply below_alloc | apply pw_below_drewN | apply below_drew1) | exact HB.out))) : w.heap.size ≤ gb143)); have n3_ := n2_; clear HB; have HB := n0_; have BK143 := n1_; have GW143 := n2_; have GE143 := n3_; clear n0_ n1_ n2_ n3_; clear hb hbox hg; have hcz7_0 : w6.cell? ⟨gb143, 0, none⟩ = some (.slice A0_0 l0_0.length c0_0) := (blk_cell BK143.out 0).trans rfl; have hcz7_1 : w6.cell? ⟨gb143, 1, none⟩ = some (.slice A0_1 l0_1.length c0_1) := (blk_cell BK143.out 1).trans rfl; have hfz7_0 := blk_frozen BK143.out 0; have hfz7_1 := blk_frozen BK143.out 1) | ((with_reducible refine gate_callee (f := 113) rfl ?_); refine goesL_ (some 6) rfl rfl Try.func113 (by kernel_rfl) rfl #[.agg #[.slice A0_0 l0_0.length c0_0, .slice A0_1 l0_1.length c0_1]] rfl (by (try simp only [List.map_toArray, List.map_cons, List.map_nil]); first | done | rfl | (simp only [List.length_drop, List.length_take]; rfl)) ?_; (with_reducible refine (spec_GoodBox.calls k _ _ l0_0 _ _ l0_1 true _ ?side1 ?side2 ?side3 ?side4 A3.out).mono ?_); (case side1 => repeat (first | exact (Kd.C_below HR0_0.out HB.out) | (with_reducible refine Kd.C_alloc ?_ _) | (with_reducible refine Kd.C_drewN ?_ _) | (with_reducible refine Kd.C_drew ?_))); (case side2 => exact HC0_0.out); (case side3 => repeat (first | exact (Kd.C_below HR0_1.out HB.out) | (with_reducible refine Kd.C_alloc ?_ _) | (with_reducible refine Kd.C_drewN ?_ _) | (with_reducible refine Kd.C_drew ?_))); (case side4 => exact HC0_1.out); rintro e w8 ⟨rfl, hb⟩; refine ⟨_, rfl, ?_⟩; have n0_ := Aside0.mk (blk_below (g := gb143) (o := .cells #[.slice A0_0 l0_0.length c0_0, .slice A0_1 l0_1.length c0_1] 76 (0, 0)) (by (with_reducible repeat (first | refine blk_drewN ?_ _ | refine blk_drew ?_ | refine blk_alloc ?_ _)); exact BK143.out) hb); have n1_ := Aside0.mk (below_step (by repeat (first | (with_reducible first | exact HB.out | apply below_alloc | apply pw_below_drewN | apply below_drew1 | refine below_set ?_ GE143.out) | exact HB.out)) hb); clear BK143; clear HB; have BK143 := n0_; have HB := n1_; clear n0_ n1_; (try clear hb); (try clear hb2); (try clear hk); (try clear hi)))
    go_ret
    exact ⟨by first | rfl | (simp [errW_none, errW_some] <;> rfl) | (simp [*, errW_none, errW_some] <;> rfl), by repeat (first | (with_reducible first | exact HB.out | apply below_alloc | apply pw_below_drewN | apply below_drew1 | refine below_set ?_ GE143.out) | exact HB.out)⟩
  rw [if_neg c5] at H
  have c5b0 : decide (a1 < 0) = false := decide_eq_false c5
  clear c5
  by_cases c9 : a1 ≥ (l0_1.length : Int)
  · rw [if_pos c9] at H
    have c9b0 : decide ((l0_1.length : Int) ≤ a1) = true := decide_eq_true c9
    clear c9
    obtain rfl := Option.some.inj H
    go_enter Try.func46, Try.ntmps46
    go_wp2_with (first | ((with_reducible refine gate_dst (N := 2) rfl ?_); (try (refine gate_guard (by rfl) ?_; dsimp only)); refine box_event ?hg (N := 2) ?hd (cs := #[.slice A0_0 l0_0.length c0_0, .slice A0_1 l0_1.length c0_1]) (t := 76) ?hr ?_; (case hd => rfl); (case hg => rfl); (case hr => first | (go_simp; done) | (go_simp; rfl)); intro gb143 hg w10 hbox hb; have n0_ := Aside0.mk (below_step (by repeat (first | (with_reducible first | exact HB.out | apply below_alloc | apply pw_below_drewN | apply below_drew1) | exact HB.out)) hb); have n1_ := Aside0.mk (hbox); have n2_ := Aside0.mk ((by rw [hg]; exact (below_size (by repeat (first | (with_reducible first | exact HB.out | apply below_alloc | apply pw_below_drewN | apply below_drew1) | exact HB.out))) : w.heap.size ≤ gb143)); have n3_ := n2_; clear HB; have HB := n0_; have BK143 := n1_; have GW143 := n2_; have GE143 := n3_; clear n0_ n1_ n2_ n3_; clear hb hbox hg; have hcz11_0 : w10.cell? ⟨gb143, 0, none⟩ = some (.slice A0_0 l0_0.length c0_0) := (blk_cell BK143.out 0).trans rfl; have hcz11_1 : w10.cell? ⟨gb143, 1, none⟩ = some (.slice A0_1 l0_1.length c0_1) := (blk_cell BK143.out 1).trans rfl; have hfz11_0 := blk_frozen BK143.out 0; have hfz11_1 := blk_frozen BK143.out 1) | ((with_reducible refine gate_callee (f := 113) rfl ?_); refine goesL_ (some 6) rfl rfl Try.func113 (by kernel_rfl) rfl #[.agg #[.slice A0_0 l0_0.length c0_0, .slice A0_1 l0_1.length c0_1]] rfl (by (try simp only [List.map_toArray, List.map_cons, List.map_nil]); first | done | rfl | (simp only [List.length_drop, List.length_take]; rfl)) ?_; (with_reducible refine (spec_GoodBox.calls k _ _ l0_0 _ _ l0_1 true _ ?side1 ?side2 ?side3 ?side4 A3.out).mono ?_); (case side1 => repeat (first | exact (Kd.C_below HR0_0.out HB.out) | (with_reducible refine Kd.C_alloc ?_ _) | (with_reducible refine Kd.C_drewN ?_ _) | (with_reducible refine Kd.C_drew ?_))); (case side2 => exact HC0_0.out); (case side3 => repeat (first | exact (Kd.C_below HR0_1.out HB.out) | (with_reducible refine Kd.C_alloc ?_ _) | (with_reducible refine Kd.C_drewN ?_ _) | (with_reducible refine Kd.C_drew ?_))); (case side4 => exact HC0_1.out); rintro e w12 ⟨rfl, hb⟩; refine ⟨_, rfl, ?_⟩; have n0_ := Aside0.mk (blk_below (g := gb143) (o := .cells #[.slice A0_0 l0_0.length c0_0, .slice A0_1 l0_1.length c0_1] 76 (0, 0)) (by (with_reducible repeat (first | refine blk_drewN ?_ _ | refine blk_drew ?_ | refine blk_alloc ?_ _)); exact BK143.out) hb); have n1_ := Aside0.mk (below_step (by repeat (first | (with_reducible first | exact HB.out | apply below_alloc | apply pw_below_drewN | apply below_drew1 | refine below_set ?_ GE143.out) | exact HB.out)) hb); clear BK143; clear HB; have BK143 := n0_; have HB := n1_; clear n0_ n1_; (try clear hb); (try clear hb2); (try clear hk); (try clear hi); have hcz13_0 : w12.cell? ⟨gb143, 0, none⟩ = some (.slice A0_0 l0_0.length c0_0) := (blk_cell BK143.out 0).trans rfl; have hcz13_1 : w12.cell? ⟨gb143, 1, none⟩ = some (.slice A0_1 l0_1.length c0_1) := (blk_cell BK143.out 1).trans rfl; have hfz13_0 := blk_frozen BK143.out 0; have hfz13_1 := blk_frozen BK143.out 1))
    go_ret
    exact ⟨by first | rfl | (simp [errW_none, errW_some] <;> rfl) | (simp [*, errW_none, errW_some] <;> rfl), by repeat (first | (with_reducible first | exact HB.out | apply below_alloc | apply pw_below_drewN | apply below_drew1 | refine below_set ?_ GE143.out) | exact HB.out)⟩
  rw [if_neg c9] at H
  have c9b0 : decide ((l0_1.length : Int) ≤ a1) = false := decide_eq_false c9
  clear c9
  replace H := Option.bind_eq_some_iff.mp H
  obtain ⟨t145, A140, H⟩ := H
  replace H : (some t145) = some r := H
  have A14 := Aside0.mk A140
  clear A140
  obtain rfl := Option.some.inj H
  go_enter Try.func46, Try.ntmps46
  go_wp2_with (first | ((with_reducible refine gate_dst (N := 2) rfl ?_); (try (refine gate_guard (by rfl) ?_; dsimp only)); refine box_event ?hg (N := 2) ?hd (cs := #[.slice A0_0 l0_0.length c0_0, .slice A0_1 l0_1.length c0_1]) (t := 76) ?hr ?_; (case hd => rfl); (case hg => rfl); (case hr => first | (go_simp; done) | (go_simp; rfl)); intro gb143 hg w15 hbox hb; have n0_ := Aside0.mk (below_step (by repeat (first | (with_reducible first | exact HB.out | apply below_alloc | apply pw_below_drewN | apply below_drew1) | exact HB.out)) hb); have n1_ := Aside0.mk (hbox); have n2_ := Aside0.mk ((by rw [hg]; exact (below_size (by repeat (first | (with_reducible first | exact HB.out | apply below_alloc | apply pw_below_drewN | apply below_drew1) | exact HB.out))) : w.heap.size ≤ gb143)); have n3_ := n2_; clear HB; have HB := n0_; have BK143 := n1_; have GW143 := n2_; have GE143 := n3_; clear n0_ n1_ n2_ n3_; clear hb hbox hg; have hcz16_0 : w15.cell? ⟨gb143, 0, none⟩ = some (.slice A0_0 l0_0.length c0_0) := (blk_cell BK143.out 0).trans rfl; have hcz16_1 : w15.cell? ⟨gb143, 1, none⟩ = some (.slice A0_1 l0_1.length c0_1) := (blk_cell BK143.out 1).trans rfl; have hfz16_0 := blk_frozen BK143.out 0; have hfz16_1 := blk_frozen BK143.out 1) | ((with_reducible refine gate_callee (f := 113) rfl ?_); refine goesL_ (some 6) rfl rfl Try.func113 (by kernel_rfl) rfl #[.agg #[.slice A0_0 l0_0.length c0_0, .slice A0_1 l0_1.length c0_1]] rfl (by (try simp only [List.map_toArray, List.map_cons, List.map_nil]); first | done | rfl | (simp only [List.length_drop, List.length_take]; rfl)) ?_; (with_reducible refine (spec_GoodBox.calls k _ _ l0_0 _ _ l0_1 true _ ?side1 ?side2 ?side3 ?side4 A3.out).mono ?_); (case side1 => repeat (first | exact (Kd.C_below HR0_0.out HB.out) | (with_reducible refine Kd.C_alloc ?_ _) | (with_reducible refine Kd.C_drewN ?_ _) | (with_reducible refine Kd.C_drew ?_))); (case side2 => exact HC0_0.out); (case side3 => repeat (first | exact (Kd.C_below HR0_1.out HB.out) | (with_reducible refine Kd.C_alloc ?_ _) | (with_reducible refine Kd.C_drewN ?_ _) | (with_reducible refine Kd.C_drew ?_))); (case side4 => exact HC0_1.out); rintro e w17 ⟨rfl, hb⟩; refine ⟨_, rfl, ?_⟩; have n0_ := Aside0.mk (blk_below (g := gb143) (o := .cells #[.slice A0_0 l0_0.length c0_0, .slice A0_1 l0_1.length c0_1] 76 (0, 0)) (by (with_reducible repeat (first | refine blk_drewN ?_ _ | refine blk_drew ?_ | refine blk_alloc ?_ _)); exact BK143.out) hb); have n1_ := Aside0.mk (below_step (by repeat (first | (with_reducible first | exact HB.out | apply below_alloc | apply pw_below_drewN | apply below_drew1 | refine below_set ?_ GE143.out) | exact HB.out)) hb); clear BK143; clear HB; have BK143 := n0_; have HB := n1_; clear n0_ n1_; (try clear hb); (try clear hb2); (try clear hk); (try clear hi); have hcz18_0 : w17.cell? ⟨gb143, 0, none⟩ = some (.slice A0_0 l0_0.length c0_0) := (blk_cell BK143.out 0).trans rfl; have hcz18_1 : w17.cell? ⟨gb143, 1, none⟩ = some (.slice A0_1 l0_1.length c0_1) := (blk_cell BK143.out 1).trans rfl; have hfz18_0 := blk_frozen BK143.out 0; have hfz18_1 := blk_frozen BK143.out 1) | ((with_reducible refine gate_callee (f := 114) rfl ?_); refine goesL_ (some 21) rfl rfl Try.func114 (by kernel_rfl) rfl #[.agg #[.slice A0_0 l0_0.length c0_0, .slice A0_1 l0_1.length c0_1], .int .i64 a1] rfl (by (try simp only [List.map_toArray, List.map_cons, List.map_nil]); first | done | rfl | (simp only [List.length_drop, List.length_take]; rfl)) ?_; (with_reducible refine (spec_l17Due.calls _ _ l0_0 _ _ l0_1 a1 t145 _ ?side1 ?side2 ?side3 ?side4 A14.out).mono ?_); (case side1 => repeat (first | exact (Kd.C_below HR0_0.out HB.out) | (with_reducible refine Kd.C_alloc ?_ _) | (with_reducible refine Kd.C_drewN ?_ _) | (with_reducible refine Kd.C_drew ?_))); (case side2 => exact HC0_0.out); (case side3 => repeat (first | exact (Kd.C_below HR0_1.out HB.out) | (with_reducible refine Kd.C_alloc ?_ _) | (with_reducible refine Kd.C_drewN ?_ _) | (with_reducible refine Kd.C_drew ?_))); (case side4 => exact HC0_1.out); rintro e w19 ⟨rfl, hb⟩; refine ⟨_, rfl, ?_⟩; have n0_ := Aside0.mk (blk_below (g := gb143) (o := .cells #[.slice A0_0 l0_0.length c0_0, .slice A0_1 l0_1.length c0_1] 76 (0, 0)) (by (with_reducible repeat (first | refine blk_drewN ?_ _ | refine blk_drew ?_ | refine blk_alloc ?_ _)); exact BK143.out) hb); have n1_ := Aside0.mk (below_step (by repeat (first | (with_reducible first | exact HB.out | apply below_alloc | apply pw_below_drewN | apply below_drew1 | refine below_set ?_ GE143.out) | exact HB.out)) hb); clear BK143; clear HB; have BK143 := n0_; have HB := n1_; clear n0_ n1_; (try clear hb); (try clear hb2); (try clear hk); (try clear hi)))
  go_ret
  exact ⟨by first | rfl | (simp [errW_none, errW_some] <;> rfl) | (simp [*, errW_none, errW_some] <;> rfl), by repeat (first | (with_reducible first | exact HB.out | apply below_alloc | apply pw_below_drewN | apply below_drew1 | refine below_set ?_ GE143.out) | exact HB.out)⟩

/-! ### laws_toTrack: function 169 -/
def laws_toTrack.f (a0_0 : Int) (a0_1 : Int) (a0_2 : ByteArray) : Option (Int × Int × ByteArray) := some (a0_0, a0_1, a0_2)
set_option maxHeartbeats 8000000 in
set_option maxRecDepth 100000 in
theorem laws_toTrack.calls (a0_0 : Int) (a0_1 : Int) (a0_2 : ByteArray) (r1 : Int) (r2 : Int) (r3 : ByteArray) (w : World) (h : laws_toTrack.f a0_0 a0_1 a0_2 = some (r1, r2, r3)) :
    Calls Try.prog 169 #[.agg #[.int .i64 a0_0, .int .i64 a0_1, .string a0_2]] w fun e w' => e = .returned (.agg #[.int .i64 r1, .int .i64 r2, .string r3]) ∧ Below w.heap.size w w' := by
  have hu180 := Try.underlying180
  have hu186 := Try.underlying186
  have HB := Aside0.mk (Below.refl w.heap.size w)
  have H : (some (a0_0, a0_1, a0_2)) = some (r1, r2, r3) := h
  clear h
  simp only [Option.some.injEq, Prod.mk.injEq] at H
  obtain ⟨rfl, rfl, rfl⟩ := H
  go_enter Try.func169, Try.ntmps169
  go_wp2_with (first | ((with_reducible refine gate_dst (N := 1) rfl ?_); refine box_event ?hg (N := 1) ?hd (cs := #[.int .i64 a0_0, .int .i64 a0_1, .string a0_2]) (t := 180) ?hr ?_; (case hd => rfl); (case hg => rfl); (case hr => first | (go_simp; done) | (go_simp; rfl)); intro gb146 hg w2 hbox hb; have n0_ := Aside0.mk (below_step (by repeat (first | (with_reducible first | exact HB.out | apply below_alloc | apply pw_below_drewN | apply below_drew1) | exact HB.out)) hb); have n1_ := Aside0.mk (hbox); have n2_ := Aside0.mk ((by rw [hg]; exact (below_size (by repeat (first | (with_reducible first | exact HB.out | apply below_alloc | apply pw_below_drewN | apply below_drew1) | exact HB.out))) : w.heap.size ≤ gb146)); have n3_ := n2_; clear HB; have HB := n0_; have BK146 := n1_; have GW146 := n2_; have GE146 := n3_; clear n0_ n1_ n2_ n3_; clear hb hbox hg) | ((with_reducible refine gate_dst (N := 2) rfl ?_); refine box_event ?hg (N := 2) ?hd (cs := #[.int .i64 0, .int .i64 0, .string (⟨#[]⟩ : ByteArray)]) (t := 186) ?hr ?_; (case hd => rfl); (case hg => rfl); (case hr => first | (go_simp; done) | (go_simp; rfl)); intro gb147 hg w3 hbox hb; have n0_ := Aside0.mk (blk_below (g := gb146) (o := .cells #[.int .i64 a0_0, .int .i64 a0_1, .string a0_2] 180 (0, 0)) (by (with_reducible repeat (first | refine blk_drewN ?_ _ | refine blk_drew ?_ | refine blk_alloc ?_ _)); exact BK146.out) hb); have n1_ := Aside0.mk (below_step (by repeat (first | (with_reducible first | exact HB.out | apply below_alloc | apply pw_below_drewN | apply below_drew1 | refine below_set ?_ GE146.out) | exact HB.out)) hb); have n2_ := Aside0.mk (hbox); have n3_ := Aside0.mk ((by rw [hg]; exact (below_size (by repeat (first | (with_reducible first | exact HB.out | apply below_alloc | apply pw_below_drewN | apply below_drew1 | refine below_set ?_ GE146.out) | exact HB.out))) : w.heap.size ≤ gb147)); have n4_ := n3_; have n5_ := Aside0.mk ((by rw [hg]; exact Nat.ne_of_lt (blk_lt (g := gb146) (o := .cells #[.int .i64 a0_0, .int .i64 a0_1, .string a0_2] 180 (0, 0)) (by (with_reducible repeat (first | refine blk_drewN ?_ _ | refine blk_drew ?_ | refine blk_alloc ?_ _)); exact BK146.out)) : gb146 ≠ gb147)); have n6_ := Aside0.mk ((by rw [hg]; exact Nat.ne_of_gt (blk_lt (g := gb146) (o := .cells #[.int .i64 a0_0, .int .i64 a0_1, .string a0_2] 180 (0, 0)) (by (with_reducible repeat (first | refine blk_drewN ?_ _ | refine blk_drew ?_ | refine blk_alloc ?_ _)); exact BK146.out)) : gb147 ≠ gb146)); clear BK146; clear HB; have BK146 := n0_; have HB := n1_; have BK147 := n2_; have GW147 := n3_; have GE147 := n4_; have NB146_147 := n5_; have NB147_146 := n6_; clear n0_ n1_ n2_ n3_ n4_ n5_ n6_; clear hb hbox hg) | ((with_reducible refine gate_dst (N := 3) rfl ?_); refine box_event ?hg (N := 3) ?hd (cs := #[.int .i64 0, .int .i64 0, .string (⟨#[]⟩ : ByteArray)]) (t := 186) ?hr ?_; (case hd => rfl); (case hg => rfl); (case hr => first | (go_simp; done) | (go_simp; rfl)); intro gb148 hg w4 hbox hb; have n0_ := Aside0.mk (blk_below (g := gb146) (o := .cells #[.int .i64 a0_0, .int .i64 a0_1, .string a0_2] 180 (0, 0)) (by (with_reducible repeat (first | refine blk_drewN ?_ _ | refine blk_drew ?_ | refine blk_alloc ?_ _)); exact BK146.out) hb); have n1_ := Aside0.mk (blk_below (g := gb147) (o := .cells #[.int .i64 0, .int .i64 0, .string (⟨#[]⟩ : ByteArray)] 186 (0, 0)) (by (with_reducible repeat (first | refine blk_drewN ?_ _ | refine blk_drew ?_ | refine blk_alloc ?_ _)); exact BK147.out) hb); have n2_ := Aside0.mk (below_step (by repeat (first | (with_reducible first | exact HB.out | apply below_alloc | apply pw_below_drewN | apply below_drew1 | refine below_set ?_ GE146.out | refine below_set ?_ GE147.out) | exact HB.out)) hb); have n3_ := Aside0.mk (hbox); have n4_ := Aside0.mk ((by rw [hg]; exact (below_size (by repeat (first | (with_reducible first | exact HB.out | apply below_alloc | apply pw_below_drewN | apply below_drew1 | refine below_set ?_ GE146.out | refine below_set ?_ GE147.out) | exact HB.out))) : w.heap.size ≤ gb148)); have n5_ := n4_; have n6_ := Aside0.mk ((by rw [hg]; exact Nat.ne_of_lt (blk_lt (g := gb146) (o := .cells #[.int .i64 a0_0, .int .i64 a0_1, .string a0_2] 180 (0, 0)) (by (with_reducible repeat (first | refine blk_drewN ?_ _ | refine blk_drew ?_ | refine blk_alloc ?_ _)); exact BK146.out)) : gb146 ≠ gb148)); have n7_ := Aside0.mk ((by rw [hg]; exact Nat.ne_of_gt (blk_lt (g := gb146) (o := .cells #[.int .i64 a0_0, .int .i64 a0_1, .string a0_2] 180 (0, 0)) (by (with_reducible repeat (first | refine blk_drewN ?_ _ | refine blk_drew ?_ | refine blk_alloc ?_ _)); exact BK146.out)) : gb148 ≠ gb146)); have n8_ := Aside0.mk ((by rw [hg]; exact Nat.ne_of_lt (blk_lt (g := gb147) (o := .cells #[.int .i64 0, .int .i64 0, .string (⟨#[]⟩ : ByteArray)] 186 (0, 0)) (by (with_reducible repeat (first | refine blk_drewN ?_ _ | refine blk_drew ?_ | refine blk_alloc ?_ _)); exact BK147.out)) : gb147 ≠ gb148)); have n9_ := Aside0.mk ((by rw [hg]; exact Nat.ne_of_gt (blk_lt (g := gb147) (o := .cells #[.int .i64 0, .int .i64 0, .string (⟨#[]⟩ : ByteArray)] 186 (0, 0)) (by (with_reducible repeat (first | refine blk_drewN ?_ _ | refine blk_drew ?_ | refine blk_alloc ?_ _)); exact BK147.out)) : gb148 ≠ gb147)); clear BK146; clear BK147; clear HB; have BK146 := n0_; have BK147 := n1_; have HB := n2_; have BK148 := n3_; have GW148 := n4_; have GE148 := n5_; have NB146_148 := n6_; have NB148_146 := n7_; have NB147_148 := n8_; have NB148_147 := n9_; clear n0_ n1_ n2_ n3_ n4_ n5_ n6_ n7_ n8_ n9_; clear hb hbox hg; have hnb5 := NB146_147.out; have hnc5 := NB147_146.out; have hnb6 := NB146_148.out; have hnc6 := NB148_146.out; have hcz7_0 : w4.cell? ⟨gb146, 0, none⟩ = some (.int .i64 a0_0) := (blk_cell BK146.out 0).trans rfl; have hcz7_1 : w4.cell? ⟨gb146, 1, none⟩ = some (.int .i64 a0_1) := (blk_cell BK146.out 1).trans rfl; have hcz7_2 : w4.cell? ⟨gb146, 2, none⟩ = some (.string a0_2) := (blk_cell BK146.out 2).trans rfl; have hfz7_0 := blk_frozen BK146.out 0; have hfz7_1 := blk_frozen BK146.out 1; have hfz7_2 := blk_frozen BK146.out 2; have hnb8 := NB148_147.out; have hnc8 := NB147_148.out; have hcz9_0 : w4.cell? ⟨gb148, 0, none⟩ = some (.int .i64 0) := (blk_cell BK148.out 0).trans rfl; have hcz9_1 : w4.cell? ⟨gb148, 1, none⟩ = some (.int .i64 0) := (blk_cell BK148.out 1).trans rfl; have hcz9_2 : w4.cell? ⟨gb148, 2, none⟩ = some (.string (⟨#[]⟩ : ByteArray)) := (blk_cell BK148.out 2).trans rfl; have hfz9_0 := blk_frozen BK148.out 0; have hfz9_1 := blk_frozen BK148.out 1; have hfz9_2 := blk_frozen BK148.out 2; have hcz10_0 : w4.cell? ⟨gb147, 0, none⟩ = some (.int .i64 0) := (blk_cell BK147.out 0).trans rfl; have hcz10_1 : w4.cell? ⟨gb147, 1, none⟩ = some (.int .i64 0) := (blk_cell BK147.out 1).trans rfl; have hcz10_2 : w4.cell? ⟨gb147, 2, none⟩ = some (.string (⟨#[]⟩ : ByteArray)) := (blk_cell BK147.out 2).trans rfl; have hfz10_0 := blk_frozen BK147.out 0; have hfz10_1 := blk_frozen BK147.out 1; have hfz10_2 := blk_frozen BK147.out 2))
  refine bodyPost_ret (results_cell_row rfl _ _ gb147 186 #[.int .i64 a0_0, .int .i64 a0_1, .string a0_2] (0, 0) _ rfl (by (with_reducible repeat (first | refine blk_drewN ?_ _ | refine blk_drew ?_ | refine blk_alloc ?_ _)); refine blk_put (cs := #[.int .i64 a0_0, .int .i64 a0_1, .string (⟨#[]⟩ : ByteArray)]) ?_ 2 _ rfl; (with_reducible repeat (first | refine blk_drewN ?_ _ | refine blk_drew ?_ | refine blk_alloc ?_ _)); refine blk_put (cs := #[.int .i64 a0_0, .int .i64 0, .string (⟨#[]⟩ : ByteArray)]) ?_ 1 _ rfl; (with_reducible repeat (first | refine blk_drewN ?_ _ | refine blk_drew ?_ | refine blk_alloc ?_ _)); refine blk_put (cs := #[.int .i64 0, .int .i64 0, .string (⟨#[]⟩ : ByteArray)]) ?_ 0 _ rfl; (with_reducible repeat (first | refine blk_drewN ?_ _ | refine blk_drew ?_ | refine blk_alloc ?_ _)); refine blk_far ?_ NB147_148.out _; (with_reducible repeat (first | refine blk_drewN ?_ _ | refine blk_drew ?_ | refine blk_alloc ?_ _)); refine blk_far ?_ NB147_148.out _; (with_reducible repeat (first | refine blk_drewN ?_ _ | refine blk_drew ?_ | refine blk_alloc ?_ _)); refine blk_far ?_ NB147_148.out _; (with_reducible repeat (first | refine blk_drewN ?_ _ | refine blk_drew ?_ | refine blk_alloc ?_ _)); exact BK147.out) Try.underlying186 rfl (by kernel_rfl)) rfl ?_
  exact ⟨by first | rfl | (simp [errW_none, errW_some] <;> rfl) | (simp [*, errW_none, errW_some] <;> rfl), by repeat (first | (with_reducible first | exact HB.out | apply below_alloc | apply pw_below_drewN | apply below_drew1 | refine below_set ?_ GE146.out | refine below_set ?_ GE147.out | refine below_set ?_ GE148.out) | exact HB.out)⟩

/-! ### laws_toTrackS: function 115 -/
def laws_toTrackS.l0 : Nat → List (S180) → List (S186) → Int → Option ((List (S186)))
  | 0, _, _, _ => none
  | k + 1, x0, x3, x4 => if x4 < (x0.length : Int) then (if 0 ≤ x4 then ((laws_toTrack.f ((rd_T180 x0 x4).f0) ((rd_T180 x0 x4).f1) ((rd_T180 x0 x4).f2)).bind fun bt153 => (if x4 < (x3.length : Int) then (laws_toTrackS.l0 k x0 (x3.set (x4 : Int).toNat (⟨bt153.1, bt153.2.1, bt153.2.2⟩ : S186)) (wrap64 (x4 + 1))) else (none))) else (none)) else (some x3)
def laws_toTrackS.f (k : Nat) (l0 : List (S180)) : Option ((List (S186))) := if 0 ≤ (l0.length : Int) then (if ((l0.length : Int) : Int).toNat ≤ 8796093022208 then (laws_toTrackS.l0 k l0 (List.replicate ((l0.length : Int) : Int).toNat z186) 0) else (none)) else (none)
theorem laws_toTrackS.mono_l : ∀ k, (∀ y0 y1 y2, LeO (laws_toTrackS.l0 k y0 y1 y2) (laws_toTrackS.l0 (k + 1) y0 y1 y2))
  | 0 => fun _ _ _ r h => by simp [laws_toTrackS.l0] at h
  | k + 1 => by
    have ih0 := laws_toTrackS.mono_l k
    · intro y0 y1 y2
      unfold laws_toTrackS.l0
      repeat' first
      | (with_reducible exact ih0 _ _ _)
      | (with_reducible exact LeO.refl _)
      | (with_reducible exact LeO.none _)
      | (with_reducible refine LeO.ite ?_ ?_)
      | (with_reducible refine LeO.bind ?_ (fun _ => ?_))
      | exact ih0 _ _ _
      | exact LeO.none _
      | refine LeO.ite ?_ ?_
      | refine LeO.bind ?_ (fun _ => ?_)
theorem laws_toTrackS.mono : ∀ a0 k, LeO (laws_toTrackS.f k a0) (laws_toTrackS.f (k + 1) a0) := by
  intro a0 k
  have ih0 := laws_toTrackS.mono_l k
  unfold laws_toTrackS.f
  repeat' first
      | (with_reducible exact ih0 _ _ _)
      | (with_reducible exact LeO.refl _)
      | (with_reducible exact LeO.none _)
      | (with_reducible refine LeO.ite ?_ ?_)
      | (with_reducible refine LeO.bind ?_ (fun _ => ?_))
      | exact ih0 _ _ _
      | exact LeO.none _
      | refine LeO.ite ?_ ?_
      | refine LeO.bind ?_ (fun _ => ?_)
set_option maxHeartbeats 8000000 in
set_option maxRecDepth 100000 in
theorem laws_toTrackS.calls (k : Nat) (A0 : Option Addr) (c0 : Nat) (l0 : List (S180)) (r : List (S186)) (w : World) (hr0 : Kd.C k180 w A0 l0.length l0) (hc0 : l0.length ≤ c0) (h : laws_toTrackS.f k l0 = some r) :
    Calls Try.prog 115 #[.slice A0 l0.length c0] w fun e w' => ∃ v0_ : Value, e = .returned (v0_) ∧ Kd.R k186 186 w' w.heap.size (fun _ => True) v0_ r ∧ Below w.heap.size w w' := by
  have hu180 := Try.underlying180
  have hu186 := Try.underlying186
  have HR0 := Aside0.mk hr0
  have HC0 := Aside0.mk hc0
  clear hr0 hc0
  have HB := Aside0.mk (Below.refl w.heap.size w)
  have H : (if 0 ≤ (l0.length : Int) then (if ((l0.length : Int) : Int).toNat ≤ 8796093022208 then (laws_toTrackS.l0 k l0 (List.replicate ((l0.length : Int) : Int).toNat z186) 0) else (none)) else (none)) = some r := h
  clear h
  by_cases c2 : 0 ≤ (l0.length : Int)
  rotate_left
  · rw [if_neg c2] at H
    exact absurd H (by simp)
  rw [if_pos c2] at H
  have c2b0 := eq_true c2
  have c2b1 : decide (0 ≤ (l0.length : Int)) = true := decide_eq_true c2
  clear c2
  by_cases c3 : ((l0.length : Int) : Int).toNat ≤ 8796093022208
  rotate_left
  · rw [if_neg c3] at H
    exact absurd H (by simp)
  rw [if_pos c3] at H
  have c3b0 := eq_true c3
  have c3b1 : decide (((l0.length : Int) : Int).toNat ≤ 8796093022208) = true := decide_eq_true c3
  clear c3
  obtain ⟨y149, hy149⟩ : ∃ y_ : List (S186), y_ = (List.replicate ((l0.length : Int) : Int).toNat z186) := ⟨_, rfl⟩
  replace H : (laws_toTrackS.l0 k l0 y149 0) = some r := by first | (rw [hy149]; with_reducible exact H) | (have H2_ := (Option.bind_some _ _).symm.trans H; rw [hy149]; with_reducible exact H2_) | (have H2_ := (Option.bind_some _ _).symm.trans H; with_reducible exact H2_) | with_reducible exact H | (rw [hy149]; exact H) | exact H
  have Ny149 := Aside0.mk hy149
  clear hy149
  have H' := Aside0.mk H
  clear H
  go_enter Try.func115, Try.ntmps115
  go_wp2_with (first | ((with_reducible refine gate_dst (N := 7) rfl ?_); refine Kd.R_make k186 _ 186 rfl (N := 7) rfl 73 _ _ rfl (l0.length : Int) rfl rfl Try.underlying73 (.agg #[(.int .i64 0), (.int .i64 0), (.string ⟨#[]⟩)]) 32 info186 rfl (by decide) (by omega) z186 (ok := fun _ => True) (okp := fun _ => True) (k186_mkM _ _ _ z186 ) (fun _ hk => hk) trivial (of_decide_eq_true (by first | (with_reducible assumption) | assumption)) (Nat.le_trans (Nat.mul_le_mul_right _ (of_decide_eq_true (by first | (with_reducible assumption) | assumption) : (l0.length : Int).toNat ≤ 8796093022208)) (by omega)) (Below.refl _ _) (Nat.le_refl _) ?_; intro v150 w4 ho5 hb hg_ hnew_; clear hg_ hnew_; (first | rw [← Ny149.out] at ho5 | (simp only [Int.reduceToNat] at ho5; rw [← Ny149.out] at ho5)); have n0_ := Aside0.mk (Kd.R_lower ho5 (below_size (by repeat (first | (with_reducible first | exact HB.out | apply below_alloc | apply pw_below_drewN | apply below_drew1) | exact HB.out)))); have n1_ := Aside0.mk (below_step (by repeat (first | (with_reducible first | exact HB.out | apply below_alloc | apply pw_below_drewN | apply below_drew1) | exact HB.out)) hb); clear HB; have HO151 := n0_; have HB := n1_; clear n0_ n1_; clear hb ho5))
  go_loopg [4] k (fun kq v4 w' => ∃ (x3_1 : List (S186)) (x4_1 : Int), v4 = .int .i64 x4_1 ∧ Aside0 (laws_toTrackS.l0 kq l0 x3_1 x4_1 = some r) ∧ Aside0 (kq ≤ k) ∧ Aside0 (Kd.R k186 186 w' w.heap.size (fun _ => True) v150 x3_1) ∧ Aside0 (Below w.heap.size w w'))
  case atStart => exact ⟨(y149), (0), (by first | rfl | (simp; done) | (simp [*]; done)), H', ⟨Nat.le_refl _⟩, ⟨by (with_reducible repeat (first | apply Kd.R_alloc | apply Kd.R_drewN | apply Kd.R_drew)); exact HO151.out⟩, ⟨by repeat (first | (with_reducible first | exact HB.out | apply below_alloc | apply pw_below_drewN | apply below_drew1) | exact HB.out)⟩⟩
  case round =>
    clear H'
    try clear c1
    try clear c2
    try clear c2b0
    try clear c2b1
    try clear p2
    try clear c3
    try clear c3b0
    try clear c3b1
    obtain ⟨x3_1, x4_1, rfl, HA, HK1, HO_3, HB⟩ := hrel
    cases gk with
    | zero => exact absurd HA.out (by simp [laws_toTrackS.l0])
    | succ k1 =>
      have H := HA.out
      clear HA
      simp only [laws_toTrackS.l0] at H
      by_cases c6 : x4_1 < (l0.length : Int)
      rotate_left
      · rw [if_neg c6] at H
        have c6b0 : decide (x4_1 < (l0.length : Int)) = false := decide_eq_false c6
        clear c6
        obtain rfl := Option.some.inj H
        go_wp2
        go_ret
        exact ⟨_, by first | rfl | (simp [errW_none, errW_some] <;> rfl) | (simp [*, errW_none, errW_some] <;> rfl), by (with_reducible repeat (first | apply Kd.R_alloc | apply Kd.R_drewN | apply Kd.R_drew)); exact HO_3.out, by repeat (first | (with_reducible first | exact HB.out | apply below_alloc | apply pw_below_drewN | apply below_drew1) | exact HB.out)⟩
      rw [if_pos c6] at H
      have c6b0 : decide (x4_1 < (l0.length : Int)) = true := decide_eq_true c6
      clear c6
      by_cases c7 : 0 ≤ x4_1
      rotate_left
      · rw [if_neg c7] at H
        exact absurd H (by simp)
      rw [if_pos c7] at H
      have c7b0 : decide (0 ≤ x4_1) = true := decide_eq_true c7
      clear c7
      replace H := Option.bind_eq_some_iff.mp H
      obtain ⟨⟨t153, t154, t155⟩, A80, H⟩ := H
      replace H : (if x4_1 < (x3_1.length : Int) then (laws_toTrackS.l0 k1 l0 (x3_1.set (x4_1 : Int).toNat (⟨t153, t154, t155⟩ : S186)) (wrap64 (x4_1 + 1))) else (none)) = some r := H
      have A8 := Aside0.mk A80
      clear A80
      by_cases c9 : x4_1 < (x3_1.length : Int)
      rotate_left
      · rw [if_neg c9] at H
        exact absurd H (by simp)
      rw [if_pos c9] at H
      have c9b0 : decide (x4_1 < (x3_1.length : Int)) = true := decide_eq_true c9
      clear c9
      obtain ⟨y156, hy156⟩ : ∃ y_ : List (S186), y_ = (x3_1.set (x4_1 : Int).toNat (⟨t153, t154, t155⟩ : S186)) := ⟨_, rfl⟩
      replace H : (laws_toTrackS.l0 k1 l0 y156 (wrap64 (x4_1 + 1))) = some r := by first | (rw [hy156]; with_reducible exact H) | (have H2_ := (Option.bind_some _ _).symm.trans H; rw [hy156]; with_reducible exact H2_) | (have H2_ := (Option.bind_some _ _).symm.trans H; with_reducible exact H2_) | with_reducible exact H | (rw [hy156]; exact H) | exact H
      have Ny156 := Aside0.mk hy156
      clear hy156
      have H' := Aside0.mk H
      clear H
      have p152 : 0 ≤ (x4_1 : Int) := of_decide_eq_true (by first | (with_reducible assumption) | assumption)
      have q152 : x4_1 < (l0.length : Int) := of_decide_eq_true (by first | (with_reducible assumption) | assumption)
      obtain ⟨ad152, e152, hx152_0, hx152_1, hx152_2⟩ := at_T180 HR0.out x4_1 p152 q152
      cases e152
      replace hx152_0 := (HB.out.cell (World.block_lt_of_cell? w _ hx152_0)).trans hx152_0
      replace hx152_1 := (HB.out.cell (World.block_lt_of_cell? w _ hx152_1)).trans hx152_1
      replace hx152_2 := (HB.out.cell (World.block_lt_of_cell? w _ hx152_2)).trans hx152_2
      replace p152 := eq_true p152
      replace q152 := eq_true q152
      go_wp2_with (first | ((with_reducible refine gate_callee (f := 169) rfl ?_); refine goesL_ (some 20) rfl rfl Try.func169 (by kernel_rfl) rfl #[.agg #[.int .i64 ((rd_T180 l0 x4_1).f0), .int .i64 ((rd_T180 l0 x4_1).f1), .string ((rd_T180 l0 x4_1).f2)]] rfl (by (try simp only [List.map_toArray, List.map_cons, List.map_nil]); first | done | rfl | (simp only [List.length_drop, List.length_take]; rfl)) ?_; (with_reducible refine (laws_toTrack.calls ((rd_T180 l0 x4_1).f0) ((rd_T180 l0 x4_1).f1) ((rd_T180 l0 x4_1).f2) t153 t154 t155 _ A8.out).mono ?_); rintro e w11 ⟨rfl, hb⟩; refine ⟨_, rfl, ?_⟩; have n0_ := Aside0.mk (Kd.R_below (by (with_reducible repeat (first | apply Kd.R_alloc | apply Kd.R_drewN | apply Kd.R_drew)); exact HO_3.out) hb); have n1_ := Aside0.mk (below_step (by repeat (first | (with_reducible first | exact HB.out | apply below_alloc | apply pw_below_drewN | apply below_drew1) | exact HB.out)) hb); clear HO_3; clear HB; have HO_3 := n0_; have HB := n1_; clear n0_ n1_; (try clear hb); (try clear hb2); (try clear hk); (try clear hi); have p10 : 0 ≤ (x4_1 : Int) := of_decide_eq_true (by first | (with_reducible assumption) | assumption); have q10 : (x4_1 : Int) < ((x3_1.length : Int) : Int) := of_decide_eq_true (by first | (with_reducible assumption) | assumption); obtain ⟨go10, co10, eo10, gb10, gl10, cl10, HG10⟩ := Kd.R_form HO_3.out (by omega); (first | cases eo10 | (injection eo10 with ea_ en_ ec_; (first | subst ea_ | (injection ea_ with ea_; subst ea_)); subst ec_; clear en_)); have GB10 := Aside0.mk gb10; have GG10 := Aside0.mk HG10; clear gb10 gl10 HG10; obtain ⟨ce10, hcl10, hM10, hcc10, hfr10⟩ := Kd.R_elem HO_3.out z186 (x4_1 : Int) p10 q10; obtain rfl := k186_openM hM10; have hx10_0 : w11.cell? ⟨go10, (x4_1 : Int).toNat * 3, none⟩ = some (.int .i64 ((rd_T186 x3_1 x4_1).f0)) := hcc10 0 _ rfl; have hx10_1 : w11.cell? ⟨go10, (x4_1 : Int).toNat * 3 + 1, none⟩ = some (.int .i64 ((rd_T186 x3_1 x4_1).f1)) := hcc10 1 _ rfl; have hx10_2 : w11.cell? ⟨go10, (x4_1 : Int).toNat * 3 + 2, none⟩ = some (.string ((rd_T186 x3_1 x4_1).f2)) := hcc10 2 _ rfl; have hf10_0 : w11.frozen? ⟨go10, (x4_1 : Int).toNat * 3, none⟩ = false := hfr10 0; have hf10_1 : w11.frozen? ⟨go10, (x4_1 : Int).toNat * 3 + 1, none⟩ = false := hfr10 1; have hf10_2 : w11.frozen? ⟨go10, (x4_1 : Int).toNat * 3 + 2, none⟩ = false := hfr10 2; clear hcl10 hcc10 hfr10; (try clear hM10); replace p10 := eq_true p10; replace q10 := eq_true q10; have HX12 := Aside0.mk (show Kd.R k186 186 w11 w.heap.size (fun _ => True) (.slice (some ⟨go10, 0, none⟩) x3_1.length co10) x3_1 from (by (with_reducible repeat (first | apply Kd.R_alloc | apply Kd.R_drewN | apply Kd.R_drew)); exact HO_3.out)); obtain ⟨ce12, hcl12, hM12, hcc12, hfr12⟩ := Kd.R_elem HX12.out z186 (x4_1 : Int) (of_decide_eq_true (by first | (with_reducible assumption) | assumption)) (by have h_ : (x4_1 : Int) < ((x3_1.length : Int) : Int) := of_decide_eq_true (by first | (with_reducible assumption) | assumption); first | exact h_ | (have e_ := (Kd.R_reads' HO_3.out).1; omega) | simpa using h_); obtain rfl := k186_openM hM12; have HP12 := Kd.R_seg HX12.out (x4_1 : Int) (of_decide_eq_true (by first | (with_reducible assumption) | assumption)) (by have h_ : (x4_1 : Int) < ((x3_1.length : Int) : Int) := of_decide_eq_true (by first | (with_reducible assumption) | assumption); first | exact h_ | (have e_ := (Kd.R_reads' HO_3.out).1; omega) | simpa using h_) (seg := [.int .i64 t153, .int .i64 t154, .string t155]) (j := 0) hcl12 hcc12 (show 3 ≤ 3 from by decide) (x' := (⟨t153, t154, t155⟩ : S186)) (k186_mkM _ _ _ (⟨t153, t154, t155⟩ : S186) ) (fun _ hk => hk); have hx12_0 := hcc12 0 _ rfl; (try simp only [show (k186).sz = 3 from rfl, Nat.mul_one, Nat.add_zero] at hx12_0); have hf12_0 := hfr12 0; (try simp only [show (k186).sz = 3 from rfl, Nat.mul_one, Nat.add_zero] at hf12_0); have hx12_1 := hcc12 1 _ rfl; (try simp only [show (k186).sz = 3 from rfl, Nat.mul_one, Nat.add_zero] at hx12_1); have hf12_1 := hfr12 1; (try simp only [show (k186).sz = 3 from rfl, Nat.mul_one, Nat.add_zero] at hf12_1); have hx12_2 := hcc12 2 _ rfl; (try simp only [show (k186).sz = 3 from rfl, Nat.mul_one, Nat.add_zero] at hx12_2); have hf12_2 := hfr12 2; (try simp only [show (k186).sz = 3 from rfl, Nat.mul_one, Nat.add_zero] at hf12_2); clear hcl12 hcc12 hfr12; (try clear hM12)) | ((with_reducible refine gate_store (t := 186) (p := 21) rfl ?_); refine store_event (t := 186) (p := 21) (v := ?vo_w13) (w1 := (((w11.setCell ⟨go10, (x4_1 : Int).toNat * 3, none⟩ (.int .i64 t153)).setCell ⟨go10, (x4_1 : Int).toNat * 3 + 1, none⟩ (.int .i64 t154)).setCell ⟨go10, (x4_1 : Int).toNat * 3 + 2, none⟩ (.string t155))) ?hg ?ho ?hn ?hr ?_; (case ho => rfl); (case hg => rfl); (case hn => rfl); (case hr => first | (go_simp; done) | (go_simp; rfl)); intro w13 hw; have hg : w11.grownBy w13 (some go10) := (by rw [hw]; exact HP12.2); have hp_ : Kd.R k186 186 w13 w.heap.size (fun _ => True) (.slice (some ⟨go10, 0, none⟩) x3_1.length co10) y156 := (by rw [hw, Ny156.out]; exact HP12.1); clear HP12; have n0_ := Aside0.mk (hp_); have n1_ := Aside0.mk ((by rw [hw]; exact below_set (below_set (below_set (HB.out) GB10.out) GB10.out) GB10.out : Below w.heap.size w w13)); clear HO_3; clear HB; have HO_3 := n0_; have HB := n1_; clear n0_ n1_; clear hg hw hp_))
      go_roundg k1
      case measure => have := HK1.out; omega
      case rel => exact ⟨(y156), (wrap64 (x4_1 + 1)), (by first | rfl | (simp; done) | (simp [*]; done)), H', ⟨by have := HK1.out; omega⟩, ⟨by (with_reducible repeat (first | apply Kd.R_alloc | apply Kd.R_drewN | apply Kd.R_drew)); exact HO_3.out⟩, ⟨by repeat (first | (with_reducible first | exact HB.out | apply below_alloc | apply pw_below_drewN | apply below_drew1) | exact HB.out)⟩⟩

end Go.Proofs.Ytglaedjadlappaa.PFnExactDue

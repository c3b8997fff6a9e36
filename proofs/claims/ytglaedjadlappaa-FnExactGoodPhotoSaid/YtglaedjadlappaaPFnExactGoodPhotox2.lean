-- written by myprint.py (a program of this session's over the kit's print)
import Derived.Test.YtglaedjadlappaaPFnExactGoodPhotox0
namespace Go.Proofs.Ytglaedjadlappaa.PFnExactGoodPhoto
open Go.RowKit Go.Proofs.YtglaedjadlappaaW.PrintWords Go.Proofs.YtglaedjadlappaaW.PrintLast Go.Proofs.YtglaedjadlappaaW.PrintMore
attribute [local go_sem] max2_int min2_int max_two min_two max_three min_three max_four min_four   -- for this text's walks alone
set_option linter.unusedVariables false
set_option linter.unusedSimpArgs false

/-! ### spec_l9Cut: function 183 -/
mutual
def spec_l9Cut.j0 : Nat → Int → Int → Int → Int → Int → Bool → Bool → Int → List (List Int) → List Int → List Int → Int → Int → Int → Option (List Int × List Int × Int × Int × Int)
  | 0, _, _, _, _, _, _, _, _, _, _, _, _, _, _ => none
  | k + 1, x1, x6, x110000, x110001, x110002, x110003, x110004, x110005, x110006, x118000, x118001, x118002, x118003, x118004 => spec_l9Cut.l0 k x1 x6 1 x110000 x110001 x110002 x110003 x110004 x110005 x110006 x118000 x118001 x118002 x118003 x118004
def spec_l9Cut.l0 : Nat → Int → Int → Int → Int → Int → Int → Bool → Bool → Int → List (List Int) → List Int → List Int → Int → Int → Int → Option (List Int × List Int × Int × Int × Int)
  | 0, _, _, _, _, _, _, _, _, _, _, _, _, _, _, _ => none
  | k + 1, x1, x6, x7, x110000, x110001, x110002, x110003, x110004, x110005, x110006, x118000, x118001, x118002, x118003, x118004 => if x7 < x1 then (if x110003 = true then (if x118000.length < 17592186044416 then (if x118001.length < 17592186044416 then (spec_l9Cut.l0 k x1 x6 (wrap64 (x7 + 1)) x110000 x110001 x110002 x110003 x110004 x110005 x110006 (x118000 ++ [wrap64 (Int.tdiv (wrap64 (x110000 + 1)) 2)]) (x118001 ++ [wrap64 (Int.tdiv (wrap64 (x110001 + 1)) 2)]) x118002 x118003 x118004) else (none)) else (none)) else (if x118000.length < 17592186044416 then (if x118001.length < 17592186044416 then (spec_l9Cut.l0 k x1 x6 (wrap64 (x7 + 1)) x110000 x110001 x110002 x110003 x110004 x110005 x110006 (x118000 ++ [x110000]) (x118001 ++ [x110001]) x118002 x118003 x118004) else (none)) else (none))) else (if x6 = 0 then (none) else (some (x118000, x118001, wrap64 (Int.tdiv (wrap64 ((wrap64 (x110000 + x6)) - 1)) x6), wrap64 (Int.tdiv (wrap64 ((wrap64 (x110001 + x6)) - 1)) x6), x118004)))
end
def spec_l9Cut.f (k : Nat) (a0_0 : Int) (a0_1 : Int) (a0_2 : Int) (a0_3 : Bool) (a0_4 : Bool) (a0_5 : Int) (l0_6 : List (List Int)) (a1 : Int) : Option (List Int × List Int × Int × Int × Int) := (some (([a0_0] : List Int) : List Int)).bind fun y111 => ((some (([a0_1] : List Int) : List Int)).bind fun y114 => (if a0_3 = true then (spec_l9Cut.j0 k a1 16 a0_0 a0_1 a0_2 a0_3 a0_4 a0_5 l0_6 y111 y114 0 0 6) else (spec_l9Cut.j0 k a1 8 a0_0 a0_1 a0_2 a0_3 a0_4 a0_5 l0_6 y111 y114 0 0 a1)))
theorem spec_l9Cut.mono_l : ∀ k, (∀ y0 y1 y2 y3 y4 y5 y6 y7 y8 y9 y10 y11 y12 y13, LeO (spec_l9Cut.j0 k y0 y1 y2 y3 y4 y5 y6 y7 y8 y9 y10 y11 y12 y13) (spec_l9Cut.j0 (k + 1) y0 y1 y2 y3 y4 y5 y6 y7 y8 y9 y10 y11 y12 y13)) ∧ (∀ y0 y1 y2 y3 y4 y5 y6 y7 y8 y9 y10 y11 y12 y13 y14, LeO (spec_l9Cut.l0 k y0 y1 y2 y3 y4 y5 y6 y7 y8 y9 y10 y11 y12 y13 y14) (spec_l9Cut.l0 (k + 1) y0 y1 y2 y3 y4 y5 y6 y7 y8 y9 y10 y11 y12 y13 y14))
  | 0 => ⟨fun _ _ _ _ _ _ _ _ _ _ _ _ _ _ r h => by simp [spec_l9Cut.j0] at h, fun _ _ _ _ _ _ _ _ _ _ _ _ _ _ _ r h => by simp [spec_l9Cut.l0] at h⟩
  | k + 1 => by
    obtain ⟨ih0, ih1⟩ := spec_l9Cut.mono_l k
    refine ⟨?_, ?_⟩
    · intro y0 y1 y2 y3 y4 y5 y6 y7 y8 y9 y10 y11 y12 y13
      unfold spec_l9Cut.j0
      repeat' first
      | (with_reducible exact ih0 _ _ _ _ _ _ _ _ _ _ _ _ _ _)
      | (with_reducible exact ih1 _ _ _ _ _ _ _ _ _ _ _ _ _ _ _)
      | (with_reducible exact LeO.refl _)
      | (with_reducible exact LeO.none _)
      | (with_reducible refine LeO.ite ?_ ?_)
      | (with_reducible refine LeO.bind ?_ (fun _ => ?_))
      | exact ih0 _ _ _ _ _ _ _ _ _ _ _ _ _ _
      | exact ih1 _ _ _ _ _ _ _ _ _ _ _ _ _ _ _
      | exact LeO.none _
      | refine LeO.ite ?_ ?_
      | refine LeO.bind ?_ (fun _ => ?_)
    · intro y0 y1 y2 y3 y4 y5 y6 y7 y8 y9 y10 y11 y12 y13 y14
      unfold spec_l9Cut.l0
      repeat' first
      | (with_reducible exact ih0 _ _ _ _ _ _ _ _ _ _ _ _ _ _)
      | (with_reducible exact ih1 _ _ _ _ _ _ _ _ _ _ _ _ _ _ _)
      | (with_reducible exact LeO.refl _)
      | (with_reducible exact LeO.none _)
      | (with_reducible refine LeO.ite ?_ ?_)
      | (with_reducible refine LeO.bind ?_ (fun _ => ?_))
      | exact ih0 _ _ _ _ _ _ _ _ _ _ _ _ _ _
      | exact ih1 _ _ _ _ _ _ _ _ _ _ _ _ _ _ _
      | exact LeO.none _
      | refine LeO.ite ?_ ?_
      | refine LeO.bind ?_ (fun _ => ?_)
theorem spec_l9Cut.mono : ∀ a0 a1 a2 a3 a4 a5 a6 a7 k, LeO (spec_l9Cut.f k a0 a1 a2 a3 a4 a5 a6 a7) (spec_l9Cut.f (k + 1) a0 a1 a2 a3 a4 a5 a6 a7) := by
  intro a0 a1 a2 a3 a4 a5 a6 a7 k
  obtain ⟨ih0, ih1⟩ := spec_l9Cut.mono_l k
  unfold spec_l9Cut.f
  repeat' first
      | (with_reducible exact ih0 _ _ _ _ _ _ _ _ _ _ _ _ _ _)
      | (with_reducible exact ih1 _ _ _ _ _ _ _ _ _ _ _ _ _ _ _)
      | (with_reducible exact LeO.refl _)
      | (with_reducible exact LeO.none _)
      | (with_reducible refine LeO.ite ?_ ?_)
      | (with_reducible refine LeO.bind ?_ (fun _ => ?_))
      | exact ih0 _ _ _ _ _ _ _ _ _ _ _ _ _ _
      | exact ih1 _ _ _ _ _ _ _ _ _ _ _ _ _ _ _
      | exact LeO.none _
      | refine LeO.ite ?_ ?_
      | refine LeO.bind ?_ (fun _ => ?_)
set_option maxHeartbeats 8000000 in
set_option maxRecDepth 100000 in
theorem spec_l9Cut.calls (k : Nat) (a0_0 : Int) (a0_1 : Int) (a0_2 : Int) (a0_3 : Bool) (a0_4 : Bool) (a0_5 : Int) (A0_6 : Option Addr) (c0_6 : Nat) (l0_6 : List (List Int)) (a1 : Int) (r1 : List Int) (r2 : List Int) (r3 : Int) (r4 : Int) (r5 : Int) (w : World) (hr0_6 : Kd.C (Kd.slice 3 (Kd.int .i64)) w A0_6 l0_6.length l0_6) (hc0_6 : l0_6.length ≤ c0_6) (h : spec_l9Cut.f k a0_0 a0_1 a0_2 a0_3 a0_4 a0_5 l0_6 a1 = some (r1, r2, r3, r4, r5)) :
    Calls Try.prog 183 #[.agg #[.int .i64 a0_0, .int .i64 a0_1, .int .i64 a0_2, .bool a0_3, .bool a0_4, .int .i64 a0_5, .slice A0_6 l0_6.length c0_6], .int .i64 a1] w fun e w' => ∃ v0_ v1_ : Value, e = .returned (.agg #[v0_, v1_, .int .i64 r3, .int .i64 r4, .int .i64 r5]) ∧ Kd.R (Kd.int .i64) 3 w' w.heap.size (fun k_ => some k_ ≠ (v1_ : Value).ownBlock) v0_ r1 ∧ Kd.R (Kd.int .i64) 3 w' w.heap.size (fun k_ => some k_ ≠ (v0_ : Value).ownBlock) v1_ r2 ∧ Below w.heap.size w w' := by
  have hu114 := Try.underlying114
  have hu205 := Try.underlying205
  have HR0_6 := Aside0.mk hr0_6
  have HC0_6 := Aside0.mk hc0_6
  clear hr0_6 hc0_6
  have HB := Aside0.mk (Below.refl w.heap.size w)
  have H : ((some (([a0_0] : List Int) : List Int)).bind fun y111 => ((some (([a0_1] : List Int) : List Int)).bind fun y114 => (if a0_3 = true then (spec_l9Cut.j0 k a1 16 a0_0 a0_1 a0_2 a0_3 a0_4 a0_5 l0_6 y111 y114 0 0 6) else (spec_l9Cut.j0 k a1 8 a0_0 a0_1 a0_2 a0_3 a0_4 a0_5 l0_6 y111 y114 0 0 a1)))) = some (r1, r2, r3, r4, r5) := h
  clear h
  obtain ⟨y111, hy111⟩ : ∃ y_ : List Int, y_ = (([a0_0] : List Int)) := ⟨_, rfl⟩
  replace H : ((some (([a0_1] : List Int) : List Int)).bind fun y114 => (if a0_3 = true then (spec_l9Cut.j0 k a1 16 a0_0 a0_1 a0_2 a0_3 a0_4 a0_5 l0_6 y111 y114 0 0 6) else (spec_l9Cut.j0 k a1 8 a0_0 a0_1 a0_2 a0_3 a0_4 a0_5 l0_6 y111 y114 0 0 a1))) = some (r1, r2, r3, r4, r5) := by first | (rw [hy111]; with_reducible exact H) | (have H2_ := (Option.bind_some _ _).symm.trans H; rw [hy111]; with_reducible exact H2_) | (have H2_ := (Option.bind_some _ _).symm.trans H; with_reducible exact H2_) | with_reducible exact H | (rw [hy111]; exact H) | exact H
  have Ny111 := Aside0.mk hy111
  clear hy111
  obtain ⟨y114, hy114⟩ : ∃ y_ : List Int, y_ = (([a0_1] : List Int)) := ⟨_, rfl⟩
  replace H : (if a0_3 = true then (spec_l9Cut.j0 k a1 16 a0_0 a0_1 a0_2 a0_3 a0_4 a0_5 l0_6 y111 y114 0 0 6) else (spec_l9Cut.j0 k a1 8 a0_0 a0_1 a0_2 a0_3 a0_4 a0_5 l0_6 y111 y114 0 0 a1)) = some (r1, r2, r3, r4, r5) := by first | (rw [hy114]; with_reducible exact H) | (have H2_ := (Option.bind_some _ _).symm.trans H; rw [hy114]; with_reducible exact H2_) | (have H2_ := (Option.bind_some _ _).symm.trans H; with_reducible exact H2_) | with_reducible exact H | (rw [hy114]; exact H) | exact H
  have Ny114 := Aside0.mk hy114
  clear hy114
  have HC3 := Aside0.mk H
  clear H
  go_enter Try.func183, Try.ntmps183
  go_upto_if 19 with (first | ((with_reducible refine gate_dst (N := 2) rfl ?_); refine box_event ?hg (N := 2) ?hd (cs := #[.int .i64 a0_0, .int .i64 a0_1, .int .i64 a0_2, .bool a0_3, .bool a0_4, .int .i64 a0_5, .slice A0_6 l0_6.length c0_6]) (t := 114) ?hr ?_; (case hd => rfl); (case hg => rfl); (case hr => first | (go_simp; done) | (go_simp; rfl)); intro gb109 hg w4 hbox hb; have n0_ := Aside0.mk (below_step (by repeat (first | (with_reducible first | exact HB.out | apply below_alloc | apply pw_below_drewN | apply below_drew1) | exact HB.out)) hb); have n1_ := Aside0.mk (hbox); have n2_ := Aside0.mk ((by rw [hg]; exact (below_size (by repeat (first | (with_reducible first | exact HB.out | apply below_alloc | apply pw_below_drewN | apply below_drew1) | exact HB.out))) : w.heap.size ≤ gb109)); have n3_ := Aside0.mk ((by rw [hg]; exact (below_size (by repeat (first | (with_reducible first | exact HB.out | apply below_alloc | apply pw_below_drewN | apply below_drew1) | exact HB.out))) : w.heap.size ≤ gb109)); clear HB; have HB := n0_; have BK109 := n1_; have GW109 := n2_; have GE109 := n3_; clear n0_ n1_ n2_ n3_; clear hb hbox hg) | ((with_reducible refine gate_dst (N := 4) rfl ?_); refine box_event ?hg (N := 4) ?hd (cs := #[.slice none 0 0, .slice none 0 0, .int .i64 0, .int .i64 0, .int .i64 0]) (t := 205) ?hr ?_; (case hd => rfl); (case hg => rfl); (case hr => first | (go_simp; done) | (go_simp; rfl)); intro gb110 hg w5 hbox hb; have n0_ := Aside0.mk (blk_below (g := gb109) (o := .cells #[.int .i64 a0_0, .int .i64 a0_1, .int .i64 a0_2, .bool a0_3, .bool a0_4, .int .i64 a0_5, .slice A0_6 l0_6.length c0_6] 114 (0, 0)) (by (with_reducible repeat (first | refine blk_drewN ?_ _ | refine blk_drew ?_ | refine blk_alloc ?_ _)); exact BK109.out) hb); have n1_ := Aside0.mk (below_step (by repeat (first | (with_reducible first | exact HB.out | apply below_alloc | apply pw_below_drewN | apply below_drew1 | refine below_set ?_ GE109.out) | exact HB.out)) hb); have n2_ := Aside0.mk (hbox); have n3_ := Aside0.mk ((by rw [hg]; exact (below_size (by repeat (first | (with_reducible first | exact HB.out | apply below_alloc | apply pw_below_drewN | apply below_drew1 | refine below_set ?_ GE109.out) | exact HB.out))) : w.heap.size ≤ gb110)); have n4_ := Aside0.mk ((by rw [hg]; exact (below_size (by repeat (first | (with_reducible first | exact HB.out | apply below_alloc | apply pw_below_drewN | apply below_drew1 | refine below_set ?_ GE109.out) | exact HB.out))) : w.heap.size ≤ gb110)); have n5_ := Aside0.mk ((by rw [hg]; exact Nat.ne_of_lt (blk_lt (g := gb109) (o := .cells #[.int .i64 a0_0, .int .i64 a0_1, .int .i64 a0_2, .bool a0_3, .bool a0_4, .int .i64 a0_5, .slice A0_6 l0_6.length c0_6] 114 (0, 0)) (by (with_reducible repeat (first | refine blk_drewN ?_ _ | refine blk_drew ?_ | refine blk_alloc ?_ _)); exact BK109.out)) : gb109 ≠ gb110)); have n6_ := Aside0.mk ((by rw [hg]; exact Nat.ne_of_gt (blk_lt (g := gb109) (o := .cells #[.int .i64 a0_0, .int .i64 a0_1, .int .i64 a0_2, .bool a0_3, .bool a0_4, .int .i64 a0_5, .slice A0_6 l0_6.length c0_6] 114 (0, 0)) (by (with_reducible repeat (first | refine blk_drewN ?_ _ | refine blk_drew ?_ | refine blk_alloc ?_ _)); exact BK109.out)) : gb110 ≠ gb109)); clear BK109; clear HB; have BK109 := n0_; have HB := n1_; have BK110 := n2_; have GW110 := n3_; have GE110 := n4_; have NB109_110 := n5_; have NB110_109 := n6_; clear n0_ n1_ n2_ n3_ n4_ n5_ n6_; clear hb hbox hg; have hnb6 := NB109_110.out; have hnc6 := NB110_109.out; have hcz7_0 : w5.cell? ⟨gb109, 0, none⟩ = some (.int .i64 a0_0) := (blk_cell BK109.out 0).trans rfl; have hcz7_1 : w5.cell? ⟨gb109, 1, none⟩ = some (.int .i64 a0_1) := (blk_cell BK109.out 1).trans rfl; have hcz7_2 : w5.cell? ⟨gb109, 2, none⟩ = some (.int .i64 a0_2) := (blk_cell BK109.out 2).trans rfl; have hcz7_3 : w5.cell? ⟨gb109, 3, none⟩ = some (.bool a0_3) := (blk_cell BK109.out 3).trans rfl; have hcz7_4 : w5.cell? ⟨gb109, 4, none⟩ = some (.bool a0_4) := (blk_cell BK109.out 4).trans rfl; have hcz7_5 : w5.cell? ⟨gb109, 5, none⟩ = some (.int .i64 a0_5) := (blk_cell BK109.out 5).trans rfl; have hcz7_6 : w5.cell? ⟨gb109, 6, none⟩ = some (.slice A0_6 l0_6.length c0_6) := (blk_cell BK109.out 6).trans rfl; have hfz7_0 := blk_frozen BK109.out 0; have hfz7_1 := blk_frozen BK109.out 1; have hfz7_2 := blk_frozen BK109.out 2; have hfz7_3 := blk_frozen BK109.out 3; have hfz7_4 := blk_frozen BK109.out 4; have hfz7_5 := blk_frozen BK109.out 5; have hfz7_6 := blk_frozen BK109.out 6) | ((with_reducible refine gate_dst (N := 12) rfl ?_); refine Kd.R_lit (Kd.int .i64) _ 3 ?hg (N := 12) ?hd (xs := ([a0_0] : List Int)) (inner := [.int .i64 a0_0]) (ok := fun _ => True) (okp := fun _ => True) ?hr ?hp (fun _ hk => hk) trivial (Below.refl _ _) (Nat.le_refl _) (by simp) ?_; (case hd => rfl); (case hg => rfl); (case hr => first | (go_simp; done) | (go_simp; rfl)); (case hp => exact (Reps.one (show Kd.M (Kd.int .i64) _ _ _ a0_0 [.int .i64 a0_0] from rfl) (Reps.none _ _))); intro v112 w8 ho9 hb hg_ hnew_; clear hg_ hnew_; (first | rw [← Ny111.out] at ho9 | (simp only [Int.reduceToNat] at ho9; rw [← Ny111.out] at ho9)); have n0_ := Aside0.mk (Kd.R_lower ho9 (below_size (by repeat (first | (with_reducible first | exact HB.out | apply below_alloc | apply pw_below_drewN | apply below_drew1 | refine below_set ?_ GE109.out | refine below_set ?_ GE110.out) | exact HB.out)))); have n1_ := Aside0.mk (blk_below (g := gb109) (o := .cells #[.int .i64 a0_0, .int .i64 a0_1, .int .i64 a0_2, .bool a0_3, .bool a0_4, .int .i64 a0_5, .slice A0_6 l0_6.length c0_6] 114 (0, 0)) (by (with_reducible repeat (first | refine blk_drewN ?_ _ | refine blk_drew ?_ | refine blk_alloc ?_ _)); exact BK109.out) hb); have n2_ := Aside0.mk (blk_below (g := gb110) (o := .cells #[.slice none 0 0, .slice none 0 0, .int .i64 0, .int .i64 0, .int .i64 0] 205 (0, 0)) (by (with_reducible repeat (first | refine blk_drewN ?_ _ | refine blk_drew ?_ | refine blk_alloc ?_ _)); exact BK110.out) hb); have n3_ := Aside0.mk (below_step (by repeat (first | (with_reducible first | exact HB.out | apply below_alloc | apply pw_below_drewN | apply below_drew1 | refine below_set ?_ GE109.out | refine below_set ?_ GE110.out) | exact HB.out)) hb); clear BK109; clear BK110; clear HB; have HO113 := n0_; have BK109 := n1_; have BK110 := n2_; have HB := n3_; clear n0_ n1_ n2_ n3_; clear hb ho9; have hcz10_0 : w8.cell? ⟨gb109, 0, none⟩ = some (.int .i64 a0_0) := (blk_cell BK109.out 0).trans rfl; have hcz10_1 : w8.cell? ⟨gb109, 1, none⟩ = some (.int .i64 a0_1) := (blk_cell BK109.out 1).trans rfl; have hcz10_2 : w8.cell? ⟨gb109, 2, none⟩ = some (.int .i64 a0_2) := (blk_cell BK109.out 2).trans rfl; have hcz10_3 : w8.cell? ⟨gb109, 3, none⟩ = some (.bool a0_3) := (blk_cell BK109.out 3).trans rfl; have hcz10_4 : w8.cell? ⟨gb109, 4, none⟩ = some (.bool a0_4) := (blk_cell BK109.out 4).trans rfl; have hcz10_5 : w8.cell? ⟨gb109, 5, none⟩ = some (.int .i64 a0_5) := (blk_cell BK109.out 5).trans rfl; have hcz10_6 : w8.cell? ⟨gb109, 6, none⟩ = some (.slice A0_6 l0_6.length c0_6) := (blk_cell BK109.out 6).trans rfl; have hfz10_0 := blk_frozen BK109.out 0; have hfz10_1 := blk_frozen BK109.out 1; have hfz10_2 := blk_frozen BK109.out 2; have hfz10_3 := blk_frozen BK109.out 3; have hfz10_4 := blk_frozen BK109.out 4; have hfz10_5 := blk_frozen BK109.out 5; have hfz10_6 := blk_frozen BK109.out 6) | ((with_reducible refine gate_dst (N := 15) rfl ?_); refine Kd.R_lit (Kd.int .i64) _ 3 ?hg (N := 15) ?hd (xs := ([a0_1] : List Int)) (inner := [.int .i64 a0_1]) (ok := fun _ => True) (okp := fun _ => True) ?hr ?hp (fun _ hk => hk) trivial (Below.refl _ _) (Nat.le_refl _) (by simp) ?_; (case hd => rfl); (case hg => rfl); (case hr => first | (go_simp; done) | (go_simp; rfl)); (case hp => exact (Reps.one (show Kd.M (Kd.int .i64) _ _ _ a0_1 [.int .i64 a0_1] from rfl) (Reps.none _ _))); intro v115 w11 ho12 hb hg_ hnew_; clear hg_ hnew_; (first | rw [← Ny114.out] at ho12 | (simp only [Int.reduceToNat] at ho12; rw [← Ny114.out] at ho12)); have n0_ := Aside0.mk (Kd.R_elder' (by (with_reducible repeat (first | apply Kd.R_alloc | apply Kd.R_drewN | apply Kd.R_drew)); exact HO113.out) (Kd.R_base ho12) hb); have n1_ := Aside0.mk (Kd.R_lower (Kd.R_new' ho12 (Kd.R_lt (by (with_reducible repeat (first | apply Kd.R_alloc | apply Kd.R_drewN | apply Kd.R_drew)); exact HO113.out))) (below_size (by repeat (first | (with_reducible first | exact HB.out | apply below_alloc | apply pw_below_drewN | apply below_drew1 | refine below_set ?_ GE109.out | refine below_set ?_ GE110.out) | exact HB.out)))); have n2_ := Aside0.mk (blk_below (g := gb109) (o := .cells #[.int .i64 a0_0, .int .i64 a0_1, .int .i64 a0_2, .bool a0_3, .bool a0_4, .int .i64 a0_5, .slice A0_6 l0_6.length c0_6] 114 (0, 0)) (by (with_reducible repeat (first | refine blk_drewN ?_ _ | refine blk_drew ?_ | refine blk_alloc ?_ _)); exact BK109.out) hb); have n3_ := Aside0.mk (blk_below (g := gb110) (o := .cells #[.slice none 0 0, .slice none 0 0, .int .i64 0, .int .i64 0, .int .i64 0] 205 (0, 0)) (by (with_reducible repeat (first | refine blk_drewN ?_ _ | refine blk_drew ?_ | refine blk_alloc ?_ _)); exact BK110.out) hb); have n4_ := Aside0.mk (below_step (by repeat (first | (with_reducible first | exact HB.out | apply below_alloc | apply pw_below_drewN | apply below_drew1 | refine below_set ?_ GE109.out | refine below_set ?_ GE110.out) | exact HB.out)) hb); clear HO113; clear BK109; clear BK110; clear HB; have HO113 := n0_; have HO116 := n1_; have BK109 := n2_; have BK110 := n3_; have HB := n4_; clear n0_ n1_ n2_ n3_ n4_; clear hb ho12; obtain ⟨Ao13, co13, eo13⟩ := Kd.R_slice HO116.out; subst eo13; obtain ⟨Ao14, co14, eo14⟩ := Kd.R_slice HO113.out; subst eo14) | ((with_reducible refine gate_dst (N := 5) rfl ?_); refine box_event ?hg (N := 5) ?hd (cs := #[.slice none 0 0, .slice none 0 0, .int .i64 0, .int .i64 0, .int .i64 0]) (t := 205) ?hr ?_; (case hd => rfl); (case hg => rfl); (case hr => first | (go_simp; done) | (go_simp; rfl)); intro gb117 hg w15 hbox hb; have n0_ := Aside0.mk (Kd.R_below (by (with_reducible repeat (first | apply Kd.R_alloc | apply Kd.R_drewN | apply Kd.R_drew)); exact HO113.out) hb); have n1_ := Aside0.mk (Kd.R_below (by (with_reducible repeat (first | apply Kd.R_alloc | apply Kd.R_drewN | apply Kd.R_drew)); exact HO116.out) hb); have n2_ := Aside0.mk (blk_below (g := gb109) (o := .cells #[.int .i64 a0_0, .int .i64 a0_1, .int .i64 a0_2, .bool a0_3, .bool a0_4, .int .i64 a0_5, .slice A0_6 l0_6.length c0_6] 114 (0, 0)) (by (with_reducible repeat (first | refine blk_drewN ?_ _ | refine blk_drew ?_ | refine blk_alloc ?_ _)); exact BK109.out) hb); have n3_ := Aside0.mk (blk_below (g := gb110) (o := .cells #[.slice none 0 0, .slice none 0 0, .int .i64 0, .int .i64 0, .int .i64 0] 205 (0, 0)) (by (with_reducible repeat (first | refine blk_drewN ?_ _ | refine blk_drew ?_ | refine blk_alloc ?_ _)); exact BK110.out) hb); have n4_ := Aside0.mk (below_step (by repeat (first | (with_reducible first | exact HB.out | apply below_alloc | apply pw_below_drewN | apply below_drew1 | refine below_set ?_ GE109.out | refine below_set ?_ GE110.out) | exact HB.out)) hb); have n5_ := Aside0.mk (hbox); have n6_ := Aside0.mk ((by rw [hg]; exact (below_size (by repeat (first | (with_reducible first | exact HB.out | apply below_alloc | apply pw_below_drewN | apply below_drew1 | refine below_set ?_ GE109.out | refine below_set ?_ GE110.out) | exact HB.out))) : w.heap.size ≤ gb117)); have n7_ := Aside0.mk ((by rw [hg]; exact (below_size (by repeat (first | (with_reducible first | exact HB.out | apply below_alloc | apply pw_below_drewN | apply below_drew1 | refine below_set ?_ GE109.out | refine below_set ?_ GE110.out) | exact HB.out))) : w.heap.size ≤ gb117)); have n8_ := Aside0.mk ((by rw [hg]; exact Nat.ne_of_lt (blk_lt (g := gb109) (o := .cells #[.int .i64 a0_0, .int .i64 a0_1, .int .i64 a0_2, .bool a0_3, .bool a0_4, .int .i64 a0_5, .slice A0_6 l0_6.length c0_6] 114 (0, 0)) (by (with_reducible repeat (first | refine blk_drewN ?_ _ | refine blk_drew ?_ | refine blk_alloc ?_ _)); exact BK109.out)) : gb109 ≠ gb117)); have n9_ := Aside0.mk ((by rw [hg]; exact Nat.ne_of_gt (blk_lt (g := gb109) (o := .cells #[.int .i64 a0_0, .int .i64 a0_1, .int .i64 a0_2, .bool a0_3, .bool a0_4, .int .i64 a0_5, .slice A0_6 l0_6.length c0_6] 114 (0, 0)) (by (with_reducible repeat (first | refine blk_drewN ?_ _ | refine blk_drew ?_ | refine blk_alloc ?_ _)); exact BK109.out)) : gb117 ≠ gb109)); have n10_ := Aside0.mk ((by rw [hg]; exact Nat.ne_of_lt (blk_lt (g := gb110) (o := .cells #[.slice none 0 0, .slice none 0 0, .int .i64 0, .int .i64 0, .int .i64 0] 205 (0, 0)) (by (with_reducible repeat (first | refine blk_drewN ?_ _ | refine blk_drew ?_ | refine blk_alloc ?_ _)); exact BK110.out)) : gb110 ≠ gb117)); have n11_ := Aside0.mk ((by rw [hg]; exact Nat.ne_of_gt (blk_lt (g := gb110) (o := .cells #[.slice none 0 0, .slice none 0 0, .int .i64 0, .int .i64 0, .int .i64 0] 205 (0, 0)) (by (with_reducible repeat (first | refine blk_drewN ?_ _ | refine blk_drew ?_ | refine blk_alloc ?_ _)); exact BK110.out)) : gb117 ≠ gb110)); clear HO113; clear HO116; clear BK109; clear BK110; clear HB; have HO113 := n0_; have HO116 := n1_; have BK109 := n2_; have BK110 := n3_; have HB := n4_; have BK117 := n5_; have GW117 := n6_; have GE117 := n7_; have NB109_117 := n8_; have NB117_109 := n9_; have NB110_117 := n10_; have NB117_110 := n11_; clear n0_ n1_ n2_ n3_ n4_ n5_ n6_ n7_ n8_ n9_ n10_ n11_; clear hb hbox hg; have hnb16 := NB117_109.out; have hnc16 := NB109_117.out; have hnb17 := NB117_110.out; have hnc17 := NB110_117.out; have hcz18_0 : w15.cell? ⟨gb117, 0, none⟩ = some (.slice none 0 0) := (blk_cell BK117.out 0).trans rfl; have hcz18_1 : w15.cell? ⟨gb117, 1, none⟩ = some (.slice none 0 0) := (blk_cell BK117.out 1).trans rfl; have hcz18_2 : w15.cell? ⟨gb117, 2, none⟩ = some (.int .i64 0) := (blk_cell BK117.out 2).trans rfl; have hcz18_3 : w15.cell? ⟨gb117, 3, none⟩ = some (.int .i64 0) := (blk_cell BK117.out 3).trans rfl; have hcz18_4 : w15.cell? ⟨gb117, 4, none⟩ = some (.int .i64 0) := (blk_cell BK117.out 4).trans rfl; have hfz18_0 := blk_frozen BK117.out 0; have hfz18_1 := blk_frozen BK117.out 1; have hfz18_2 := blk_frozen BK117.out 2; have hfz18_3 := blk_frozen BK117.out 3; have hfz18_4 := blk_frozen BK117.out 4; have hcz19_0 : w15.cell? ⟨gb109, 0, none⟩ = some (.int .i64 a0_0) := (blk_cell BK109.out 0).trans rfl; have hcz19_1 : w15.cell? ⟨gb109, 1, none⟩ = some (.int .i64 a0_1) := (blk_cell BK109.out 1).trans rfl; have hcz19_2 : w15.cell? ⟨gb109, 2, none⟩ = some (.int .i64 a0_2) := (blk_cell BK109.out 2).trans rfl; have hcz19_3 : w15.cell? ⟨gb109, 3, none⟩ = some (.bool a0_3) := (blk_cell BK109.out 3).trans rfl; have hcz19_4 : w15.cell? ⟨gb109, 4, none⟩ = some (.bool a0_4) := (blk_cell BK109.out 4).trans rfl; have hcz19_5 : w15.cell? ⟨gb109, 5, none⟩ = some (.int .i64 a0_5) := (blk_cell BK109.out 5).trans rfl; have hcz19_6 : w15.cell? ⟨gb109, 6, none⟩ = some (.slice A0_6 l0_6.length c0_6) := (blk_cell BK109.out 6).trans rfl; have hfz19_0 := blk_frozen BK109.out 0; have hfz19_1 := blk_frozen BK109.out 1; have hfz19_2 := blk_frozen BK109.out 2; have hfz19_3 := blk_frozen BK109.out 3; have hfz19_4 := blk_frozen BK109.out 4; have hfz19_5 := blk_frozen BK109.out 5; have hfz19_6 := blk_frozen BK109.out 6))
  (try simp only [Act.put, List.setIfInBounds_toArray, List.set_cons_zero, List.set_cons_succ])
  go_cut [6] (fun v6 wc => ∃ (kq : Nat) (x6_2 : Int) (x118004_2 : Int), v6 = .int .i64 x6_2 ∧ Aside0 (spec_l9Cut.j0 kq a1 x6_2 a0_0 a0_1 a0_2 a0_3 a0_4 a0_5 l0_6 y111 y114 0 0 x118004_2 = some (r1, r2, r3, r4, r5)) ∧ Aside0 (kq ≤ k) ∧ Aside0 (Kd.R (Kd.int .i64) 3 wc w.heap.size (fun k_ => some k_ ≠ ((.slice Ao13 y114.length co13) : Value).ownBlock) (.slice Ao14 y111.length co14) y111) ∧ Aside0 (Kd.R (Kd.int .i64) 3 wc w.heap.size (fun k_ => some k_ ≠ ((.slice Ao14 y111.length co14) : Value).ownBlock) (.slice Ao13 y114.length co13) y114) ∧ Aside0 (wc.heap[gb109]? = some (.cells #[.int .i64 a0_0, .int .i64 a0_1, .int .i64 a0_2, .bool a0_3, .bool a0_4, .int .i64 a0_5, (.slice A0_6 l0_6.length c0_6)] 114 (0, 0))) ∧ Aside0 (wc.heap[gb110]? = some (.cells #[(.slice none 0 0), (.slice none 0 0), .int .i64 0, .int .i64 0, .int .i64 0] 205 (0, 0))) ∧ Aside0 (wc.heap[gb117]? = some (.cells #[(.slice Ao14 y111.length co14), (.slice Ao13 y114.length co13), .int .i64 0, .int .i64 0, .int .i64 x118004_2] 205 (0, 0))) ∧ Aside0 (Below w.heap.size w wc))
  case first =>
    have H := HC3.out
    clear HC3
    by_cases c20 : a0_3 = true
    · subst c20
      have H1 : (spec_l9Cut.j0 k a1 16 a0_0 a0_1 a0_2 true a0_4 a0_5 l0_6 y111 y114 0 0 6) = some (r1, r2, r3, r4, r5) := by rw [if_pos rfl] at H; exact H
      clear H
      have H := H1
      clear H1
      have H' := Aside0.mk H
      clear H
      have hnb21 := NB117_109.out
      have hnc21 := NB109_117.out
      have hnb22 := NB117_110.out
      have hnc22 := NB110_117.out
      have hcz23_0 : w15.cell? ⟨gb117, 0, none⟩ = some (.slice none 0 0) := (blk_cell BK117.out 0).trans rfl
      have hcz23_1 : w15.cell? ⟨gb117, 1, none⟩ = some (.slice none 0 0) := (blk_cell BK117.out 1).trans rfl
      have hcz23_2 : w15.cell? ⟨gb117, 2, none⟩ = some (.int .i64 0) := (blk_cell BK117.out 2).trans rfl
      have hcz23_3 : w15.cell? ⟨gb117, 3, none⟩ = some (.int .i64 0) := (blk_cell BK117.out 3).trans rfl
      have hcz23_4 : w15.cell? ⟨gb117, 4, none⟩ = some (.int .i64 0) := (blk_cell BK117.out 4).trans rfl
      have hfz23_0 := blk_frozen BK117.out 0
      have hfz23_1 := blk_frozen BK117.out 1
      have hfz23_2 := blk_frozen BK117.out 2
      have hfz23_3 := blk_frozen BK117.out 3
      have hfz23_4 := blk_frozen BK117.out 4
      go_wp2
      go_meet
      case rel => exact ⟨_, (16), (6), (by first | rfl | (simp; done) | (simp [*]; done)), H', ⟨by first | omega | exact Nat.le_refl _⟩, ⟨by (with_reducible repeat (first | apply Kd.R_alloc | apply Kd.R_drewN | apply Kd.R_drew)); exact Kd.R_mono (Kd.R_far (p := ⟨gb117, 4, none⟩) (Kd.R_far (p := ⟨gb117, 4, none⟩) (Kd.R_far (p := ⟨gb117, 3, none⟩) (Kd.R_far (p := ⟨gb117, 2, none⟩) (Kd.R_far (p := ⟨gb117, 1, none⟩) (Kd.R_far (p := ⟨gb117, 0, none⟩) (Kd.R_types HO113.out BK117.out (by decide)) (fun _ hk => hk.2) (.slice Ao14 y111.length co14)) (fun _ hk => hk.2) (.slice Ao13 y114.length co13)) (fun _ hk => hk.2) (.int .i64 0)) (fun _ hk => hk.2) (.int .i64 0)) (fun _ hk => hk.2) (.int .i64 a1)) (fun _ hk => hk.2) (.int .i64 6)) (fun _ hk => hk.1.2)⟩, ⟨by (with_reducible repeat (first | apply Kd.R_alloc | apply Kd.R_drewN | apply Kd.R_drew)); exact Kd.R_mono (Kd.R_far (p := ⟨gb117, 4, none⟩) (Kd.R_far (p := ⟨gb117, 4, none⟩) (Kd.R_far (p := ⟨gb117, 3, none⟩) (Kd.R_far (p := ⟨gb117, 2, none⟩) (Kd.R_far (p := ⟨gb117, 1, none⟩) (Kd.R_far (p := ⟨gb117, 0, none⟩) (Kd.R_types HO116.out BK117.out (by decide)) (fun _ hk => hk.2) (.slice Ao14 y111.length co14)) (fun _ hk => hk.2) (.slice Ao13 y114.length co13)) (fun _ hk => hk.2) (.int .i64 0)) (fun _ hk => hk.2) (.int .i64 0)) (fun _ hk => hk.2) (.int .i64 a1)) (fun _ hk => hk.2) (.int .i64 6)) (fun _ hk => hk.1.2)⟩, ⟨by (with_reducible repeat (first | refine blk_drewN ?_ _ | refine blk_drew ?_ | refine blk_alloc ?_ _)); refine blk_far ?_ NB109_117.out _; (with_reducible repeat (first | refine blk_drewN ?_ _ | refine blk_drew ?_ | refine blk_alloc ?_ _)); refine blk_far ?_ NB109_117.out _; (with_reducible repeat (first | refine blk_drewN ?_ _ | refine blk_drew ?_ | refine blk_alloc ?_ _)); refine blk_far ?_ NB109_117.out _; (with_reducible repeat (first | refine blk_drewN ?_ _ | refine blk_drew ?_ | refine blk_alloc ?_ _)); refine blk_far ?_ NB109_117.out _; (with_reducible repeat (first | refine blk_drewN ?_ _ | refine blk_drew ?_ | refine blk_alloc ?_ _)); refine blk_far ?_ NB109_117.out _; (with_reducible repeat (first | refine blk_drewN ?_ _ | refine blk_drew ?_ | refine blk_alloc ?_ _)); refine blk_far ?_ NB109_117.out _; (with_reducible repeat (first | refine blk_drewN ?_ _ | refine blk_drew ?_ | refine blk_alloc ?_ _)); exact BK109.out⟩, ⟨by (with_reducible repeat (first | refine blk_drewN ?_ _ | refine blk_drew ?_ | refine blk_alloc ?_ _)); refine blk_far ?_ NB110_117.out _; (with_reducible repeat (first | refine blk_drewN ?_ _ | refine blk_drew ?_ | refine blk_alloc ?_ _)); refine blk_far ?_ NB110_117.out _; (with_reducible repeat (first | refine blk_drewN ?_ _ | refine blk_drew ?_ | refine blk_alloc ?_ _)); refine blk_far ?_ NB110_117.out _; (with_reducible repeat (first | refine blk_drewN ?_ _ | refine blk_drew ?_ | refine blk_alloc ?_ _)); refine blk_far ?_ NB110_117.out _; (with_reducible repeat (first | refine blk_drewN ?_ _ | refine blk_drew ?_ | refine blk_alloc ?_ _)); refine blk_far ?_ NB110_117.out _; (with_reducible repeat (first | refine blk_drewN ?_ _ | refine blk_drew ?_ | refine blk_alloc ?_ _)); refine blk_far ?_ NB110_117.out _; (with_reducible repeat (first | refine blk_drewN ?_ _ | refine blk_drew ?_ | refine blk_alloc ?_ _)); exact BK110.out⟩, ⟨by (with_reducible repeat (first | refine blk_drewN ?_ _ | refine blk_drew ?_ | refine blk_alloc ?_ _)); refine blk_put (cs := #[.slice Ao14 y111.length co14, .slice Ao13 y114.length co13, .int .i64 0, .int .i64 0, .int .i64 a1]) ?_ 4 _ rfl; (with_reducible repeat (first | refine blk_drewN ?_ _ | refine blk_drew ?_ | refine blk_alloc ?_ _)); refine blk_put (cs := #[.slice Ao14 y111.length co14, .slice Ao13 y114.length co13, .int .i64 0, .int .i64 0, .int .i64 0]) ?_ 4 _ rfl; (with_reducible repeat (first | refine blk_drewN ?_ _ | refine blk_drew ?_ | refine blk_alloc ?_ _)); refine blk_put (cs := #[.slice Ao14 y111.length co14, .slice Ao13 y114.length co13, .int .i64 0, .int .i64 0, .int .i64 0]) ?_ 3 _ rfl; (with_reducible repeat (first | refine blk_drewN ?_ _ | refine blk_drew ?_ | refine blk_alloc ?_ _)); refine blk_put (cs := #[.slice Ao14 y111.length co14, .slice Ao13 y114.length co13, .int .i64 0, .int .i64 0, .int .i64 0]) ?_ 2 _ rfl; (with_reducible repeat (first | refine blk_drewN ?_ _ | refine blk_drew ?_ | refine blk_alloc ?_ _)); refine blk_put (cs := #[.slice Ao14 y111.length co14, .slice none 0 0, .int .i64 0, .int .i64 0, .int .i64 0]) ?_ 1 _ rfl; (with_reducible repeat (first | refine blk_drewN ?_ _ | refine blk_drew ?_ | refine blk_alloc ?_ _)); refine blk_put (cs := #[.slice none 0 0, .slice none 0 0, .int .i64 0, .int .i64 0, .int .i64 0]) ?_ 0 _ rfl; (with_reducible repeat (first | refine blk_drewN ?_ _ | refine blk_drew ?_ | refine blk_alloc ?_ _)); exact BK117.out⟩, ⟨by repeat (first | (with_reducible first | exact HB.out | apply below_alloc | apply pw_below_drewN | apply below_drew1 | refine below_set ?_ GE109.out | refine below_set ?_ GE110.out | refine below_set ?_ GE117.out) | exact HB.out)⟩⟩
    · replace c20 := Bool.eq_false_iff.mpr c20
      subst c20
      have H1 : (spec_l9Cut.j0 k a1 8 a0_0 a0_1 a0_2 false a0_4 a0_5 l0_6 y111 y114 0 0 a1) = some (r1, r2, r3, r4, r5) := by rw [if_neg (show ¬ (false = true) by decide)] at H; exact H
      clear H
      have H := H1
      clear H1
      have H' := Aside0.mk H
      clear H
      go_wp2
      go_meet
      case rel => exact ⟨_, (8), (a1), (by first | rfl | (simp; done) | (simp [*]; done)), H', ⟨by first | omega | exact Nat.le_refl _⟩, ⟨by (with_reducible repeat (first | apply Kd.R_alloc | apply Kd.R_drewN | apply Kd.R_drew)); exact Kd.R_mono (Kd.R_far (p := ⟨gb117, 4, none⟩) (Kd.R_far (p := ⟨gb117, 3, none⟩) (Kd.R_far (p := ⟨gb117, 2, none⟩) (Kd.R_far (p := ⟨gb117, 1, none⟩) (Kd.R_far (p := ⟨gb117, 0, none⟩) (Kd.R_types HO113.out BK117.out (by decide)) (fun _ hk => hk.2) (.slice Ao14 y111.length co14)) (fun _ hk => hk.2) (.slice Ao13 y114.length co13)) (fun _ hk => hk.2) (.int .i64 0)) (fun _ hk => hk.2) (.int .i64 0)) (fun _ hk => hk.2) (.int .i64 a1)) (fun _ hk => hk.1.2)⟩, ⟨by (with_reducible repeat (first | apply Kd.R_alloc | apply Kd.R_drewN | apply Kd.R_drew)); exact Kd.R_mono (Kd.R_far (p := ⟨gb117, 4, none⟩) (Kd.R_far (p := ⟨gb117, 3, none⟩) (Kd.R_far (p := ⟨gb117, 2, none⟩) (Kd.R_far (p := ⟨gb117, 1, none⟩) (Kd.R_far (p := ⟨gb117, 0, none⟩) (Kd.R_types HO116.out BK117.out (by decide)) (fun _ hk => hk.2) (.slice Ao14 y111.length co14)) (fun _ hk => hk.2) (.slice Ao13 y114.length co13)) (fun _ hk => hk.2) (.int .i64 0)) (fun _ hk => hk.2) (.int .i64 0)) (fun _ hk => hk.2) (.int .i64 a1)) (fun _ hk => hk.1.2)⟩, ⟨by (with_reducible repeat (first | refine blk_drewN ?_ _ | refine blk_drew ?_ | refine blk_alloc ?_ _)); refine blk_far ?_ NB109_117.out _; (with_reducible repeat (first | refine blk_drewN ?_ _ | refine blk_drew ?_ | refine blk_alloc ?_ _)); refine blk_far ?_ NB109_117.out _; (with_reducible repeat (first | refine blk_drewN ?_ _ | refine blk_drew ?_ | refine blk_alloc ?_ _)); refine blk_far ?_ NB109_117.out _; (with_reducible repeat (first | refine blk_drewN ?_ _ | refine blk_drew ?_ | refine blk_alloc ?_ _)); refine blk_far ?_ NB109_117.out _; (with_reducible repeat (first | refine blk_drewN ?_ _ | refine blk_drew ?_ | refine blk_alloc ?_ _)); refine blk_far ?_ NB109_117.out _; (with_reducible repeat (first | refine blk_drewN ?_ _ | refine blk_drew ?_ | refine blk_alloc ?_ _)); exact BK109.out⟩, ⟨by (with_reducible repeat (first | refine blk_drewN ?_ _ | refine blk_drew ?_ | refine blk_alloc ?_ _)); refine blk_far ?_ NB110_117.out _; (with_reducible repeat (first | refine blk_drewN ?_ _ | refine blk_drew ?_ | refine blk_alloc ?_ _)); refine blk_far ?_ NB110_117.out _; (with_reducible repeat (first | refine blk_drewN ?_ _ | refine blk_drew ?_ | refine blk_alloc ?_ _)); refine blk_far ?_ NB110_117.out _; (with_reducible repeat (first | refine blk_drewN ?_ _ | refine blk_drew ?_ | refine blk_alloc ?_ _)); refine blk_far ?_ NB110_117.out _; (with_reducible repeat (first | refine blk_drewN ?_ _ | refine blk_drew ?_ | refine blk_alloc ?_ _)); refine blk_far ?_ NB110_117.out _; (with_reducible repeat (first | refine blk_drewN ?_ _ | refine blk_drew ?_ | refine blk_alloc ?_ _)); exact BK110.out⟩, ⟨by (with_reducible repeat (first | refine blk_drewN ?_ _ | refine blk_drew ?_ | refine blk_alloc ?_ _)); refine blk_put (cs := #[.slice Ao14 y111.length co14, .slice Ao13 y114.length co13, .int .i64 0, .int .i64 0, .int .i64 0]) ?_ 4 _ rfl; (with_reducible repeat (first | refine blk_drewN ?_ _ | refine blk_drew ?_ | refine blk_alloc ?_ _)); refine blk_put (cs := #[.slice Ao14 y111.length co14, .slice Ao13 y114.length co13, .int .i64 0, .int .i64 0, .int .i64 0]) ?_ 3 _ rfl; (with_reducible repeat (first | refine blk_drewN ?_ _ | refine blk_drew ?_ | refine blk_alloc ?_ _)); refine blk_put (cs := #[.slice Ao14 y111.length co14, .slice Ao13 y114.length co13, .int .i64 0, .int .i64 0, .int .i64 0]) ?_ 2 _ rfl; (with_reducible repeat (first | refine blk_drewN ?_ _ | refine blk_drew ?_ | refine blk_alloc ?_ _)); refine blk_put (cs := #[.slice Ao14 y111.length co14, .slice none 0 0, .int .i64 0, .int .i64 0, .int .i64 0]) ?_ 1 _ rfl; (with_reducible repeat (first | refine blk_drewN ?_ _ | refine blk_drew ?_ | refine blk_alloc ?_ _)); refine blk_put (cs := #[.slice none 0 0, .slice none 0 0, .int .i64 0, .int .i64 0, .int .i64 0]) ?_ 0 _ rfl; (with_reducible repeat (first | refine blk_drewN ?_ _ | refine blk_drew ?_ | refine blk_alloc ?_ _)); exact BK117.out⟩, ⟨by repeat (first | (with_reducible first | exact HB.out | apply below_alloc | apply pw_below_drewN | apply below_drew1 | refine below_set ?_ GE109.out | refine below_set ?_ GE110.out | refine below_set ?_ GE117.out) | exact HB.out)⟩⟩
  case rest =>
    clear HC3
    try clear c1
    try clear c2
    try clear p2
    try clear c6
    try clear c16
    try clear c17
    try clear c18
    try clear c20
    try clear c21
    try clear c22
    try clear hcz10_0
    try clear hcz10_1
    try clear hcz10_2
    try clear hcz10_3
    try clear hcz10_4
    try clear hcz10_5
    try clear hcz10_6
    try clear hcz18_0
    try clear hcz18_1
    try clear hcz18_2
    try clear hcz18_3
    try clear hcz18_4
    try clear hcz19_0
    try clear hcz19_1
    try clear hcz19_2
    try clear hcz19_3
    try clear hcz19_4
    try clear hcz19_5
    try clear hcz19_6
    try clear hcz23_0
    try clear hcz23_1
    try clear hcz23_2
    try clear hcz23_3
    try clear hcz23_4
    try clear hcz7_0
    try clear hcz7_1
    try clear hcz7_2
    try clear hcz7_3
    try clear hcz7_4
    try clear hcz7_5
    try clear hcz7_6
    try clear hfz10_0
    try clear hfz10_1
    try clear hfz10_2
    try clear hfz10_3
    try clear hfz10_4
    try clear hfz10_5
    try clear hfz10_6
    try clear hfz18_0
    try clear hfz18_1
    try clear hfz18_2
    try clear hfz18_3
    try clear hfz18_4
    try clear hfz19_0
    try clear hfz19_1
    try clear hfz19_2
    try clear hfz19_3
    try clear hfz19_4
    try clear hfz19_5
    try clear hfz19_6
    try clear hfz23_0
    try clear hfz23_1
    try clear hfz23_2
    try clear hfz23_3
    try clear hfz23_4
    try clear hfz7_0
    try clear hfz7_1
    try clear hfz7_2
    try clear hfz7_3
    try clear hfz7_4
    try clear hfz7_5
    try clear hfz7_6
    obtain ⟨kq, x6_2, x118004_2, rfl, HA, HJ2, HO_118000, HO_118001, BK109, BK110, BK117, HB⟩ := hcut
    cases kq with
    | zero => exact absurd HA.out (by simp [spec_l9Cut.j0])
    | succ kj2 =>
      have H := HA.out
      clear HA
      simp only [spec_l9Cut.j0] at H
      have H' := Aside0.mk H
      clear H
      go_wp2
      go_loopg [7] kj2 (fun kq v7 w' => ∃ (x7_2 : Int) (x118000_2 : List Int) (x118001_2 : List Int) (u118000 : Value) (u118001 : Value), v7 = .int .i64 x7_2 ∧ Aside0 (spec_l9Cut.l0 kq a1 x6_2 x7_2 a0_0 a0_1 a0_2 a0_3 a0_4 a0_5 l0_6 x118000_2 x118001_2 0 0 x118004_2 = some (r1, r2, r3, r4, r5)) ∧ Aside0 (kq ≤ kj2) ∧ Aside0 (Kd.R (Kd.int .i64) 3 w' w.heap.size (fun k_ => some k_ ≠ (u118001 : Value).ownBlock) u118000 x118000_2) ∧ Aside0 (Kd.R (Kd.int .i64) 3 w' w.heap.size (fun k_ => some k_ ≠ (u118000 : Value).ownBlock) u118001 x118001_2) ∧ Aside0 (w'.heap[gb109]? = some (.cells #[.int .i64 a0_0, .int .i64 a0_1, .int .i64 a0_2, .bool a0_3, .bool a0_4, .int .i64 a0_5, (.slice A0_6 l0_6.length c0_6)] 114 (0, 0))) ∧ Aside0 (w'.heap[gb110]? = some (.cells #[(.slice none 0 0), (.slice none 0 0), .int .i64 0, .int .i64 0, .int .i64 0] 205 (0, 0))) ∧ Aside0 (w'.heap[gb117]? = some (.cells #[u118000, u118001, .int .i64 0, .int .i64 0, .int .i64 x118004_2] 205 (0, 0))) ∧ Aside0 (Below w.heap.size w w'))
      case atStart => exact ⟨(1), (y111), (y114), (.slice Ao14 y111.length co14), (.slice Ao13 y114.length co13), (by first | rfl | (simp; done) | (simp [*]; done)), H', ⟨Nat.le_refl _⟩, ⟨by (with_reducible repeat (first | apply Kd.R_alloc | apply Kd.R_drewN | apply Kd.R_drew)); exact HO_118000.out⟩, ⟨by (with_reducible repeat (first | apply Kd.R_alloc | apply Kd.R_drewN | apply Kd.R_drew)); exact HO_118001.out⟩, ⟨by (with_reducible repeat (first | refine blk_drewN ?_ _ | refine blk_drew ?_ | refine blk_alloc ?_ _)); exact BK109.out⟩, ⟨by (with_reducible repeat (first | refine blk_drewN ?_ _ | refine blk_drew ?_ | refine blk_alloc ?_ _)); exact BK110.out⟩, ⟨by (with_reducible repeat (first | refine blk_drewN ?_ _ | refine blk_drew ?_ | refine blk_alloc ?_ _)); exact BK117.out⟩, ⟨by repeat (first | (with_reducible first | exact HB.out | apply below_alloc | apply pw_below_drewN | apply below_drew1 | refine below_set ?_ GE109.out | refine below_set ?_ GE110.out | refine below_set ?_ GE117.out) | exact HB.out)⟩⟩
      case round =>
        clear H'
        try clear c1
        try clear c2
        try clear p2
        try clear c6
        try clear c16
        try clear c17
        try clear c18
        try clear c20
        try clear c21
        try clear c22
        try clear hcz10_0
        try clear hcz10_1
        try clear hcz10_2
        try clear hcz10_3
        try clear hcz10_4
        try clear hcz10_5
        try clear hcz10_6
        try clear hcz18_0
        try clear hcz18_1
        try clear hcz18_2
        try clear hcz18_3
        try clear hcz18_4
        try clear hcz19_0
        try clear hcz19_1
        try clear hcz19_2
        try clear hcz19_3
        try clear hcz19_4
        try clear hcz19_5
        try clear hcz19_6
        try clear hcz23_0
        try clear hcz23_1
        try clear hcz23_2
        try clear hcz23_3
        try clear hcz23_4
        try clear hcz7_0
        try clear hcz7_1
        try clear hcz7_2
        try clear hcz7_3
        try clear hcz7_4
        try clear hcz7_5
        try clear hcz7_6
        try clear hfz10_0
        try clear hfz10_1
        try clear hfz10_2
        try clear hfz10_3
        try clear hfz10_4
        try clear hfz10_5
        try clear hfz10_6
        try clear hfz18_0
        try clear hfz18_1
        try clear hfz18_2
        try clear hfz18_3
        try clear hfz18_4
        try clear hfz19_0
        try clear hfz19_1
        try clear hfz19_2
        try clear hfz19_3
        try clear hfz19_4
        try clear hfz19_5
        try clear hfz19_6
        try clear hfz23_0
        try clear hfz23_1
        try clear hfz23_2
        try clear hfz23_3
        try clear hfz23_4
        try clear hfz7_0
        try clear hfz7_1
        try clear hfz7_2
        try clear hfz7_3
        try clear hfz7_4
        try clear hfz7_5
        try clear hfz7_6
        try clear p2
        obtain ⟨x7_2, x118000_2, x118001_2, u118000, u118001, rfl, HA, HK2, HO_118000, HO_118001, BK109, BK110, BK117, HB⟩ := hrel
        cases gk with
        | zero => exact absurd HA.out (by simp [spec_l9Cut.l0])
        | succ k2 =>
          have H := HA.out
          clear HA
          simp only [spec_l9Cut.l0] at H
          by_cases c24 : x7_2 < a1
          · rw [if_pos c24] at H
            have c24b0 : decide (x7_2 < a1) = true := decide_eq_true c24
            clear c24
            by_cases c25 : a0_3 = true
            · subst c25
              have H1 : (if x118000_2.length < 17592186044416 then (if x118001_2.length < 17592186044416 then (spec_l9Cut.l0 k2 a1 x6_2 (wrap64 (x7_2 + 1)) a0_0 a0_1 a0_2 true a0_4 a0_5 l0_6 (x118000_2 ++ [wrap64 (Int.tdiv (wrap64 (a0_0 + 1)) 2)]) (x118001_2 ++ [wrap64 (Int.tdiv (wrap64 (a0_1 + 1)) 2)]) 0 0 x118004_2) else (none)) else (none)) = some (r1, r2, r3, r4, r5) := by rw [if_pos rfl] at H; exact H
              clear H
              have H := H1
              clear H1
              by_cases c26 : x118000_2.length < 17592186044416
              · rw [if_pos c26] at H
                have LMc26 := Aside0.mk c26
                clear c26
                obtain ⟨y118, hy118⟩ : ∃ y_ : List Int, y_ = (x118000_2 ++ [wrap64 (Int.tdiv (wrap64 (a0_0 + 1)) 2)]) := ⟨_, rfl⟩
                replace H : (if x118001_2.length < 17592186044416 then (spec_l9Cut.l0 k2 a1 x6_2 (wrap64 (x7_2 + 1)) a0_0 a0_1 a0_2 true a0_4 a0_5 l0_6 y118 (x118001_2 ++ [wrap64 (Int.tdiv (wrap64 (a0_1 + 1)) 2)]) 0 0 x118004_2) else (none)) = some (r1, r2, r3, r4, r5) := by first | (rw [hy118]; with_reducible exact H) | (have H2_ := (Option.bind_some _ _).symm.trans H; rw [hy118]; with_reducible exact H2_) | (have H2_ := (Option.bind_some _ _).symm.trans H; with_reducible exact H2_) | with_reducible exact H | (rw [hy118]; exact H) | exact H
                have Ny118 := Aside0.mk hy118
                clear hy118
                by_cases c27 : x118001_2.length < 17592186044416
                · rw [if_pos c27] at H
                  have LMc27 := Aside0.mk c27
                  clear c27
                  obtain ⟨y121, hy121⟩ : ∃ y_ : List Int, y_ = (x118001_2 ++ [wrap64 (Int.tdiv (wrap64 (a0_1 + 1)) 2)]) := ⟨_, rfl⟩
                  replace H : (spec_l9Cut.l0 k2 a1 x6_2 (wrap64 (x7_2 + 1)) a0_0 a0_1 a0_2 true a0_4 a0_5 l0_6 y118 y121 0 0 x118004_2) = some (r1, r2, r3, r4, r5) := by first | (rw [hy121]; with_reducible exact H) | (have H2_ := (Option.bind_some _ _).symm.trans H; rw [hy121]; with_reducible exact H2_) | (have H2_ := (Option.bind_some _ _).symm.trans H; with_reducible exact H2_) | with_reducible exact H | (rw [hy121]; exact H) | exact H
                  have Ny121 := Aside0.mk hy121
                  clear hy121
                  have H' := Aside0.mk H
                  clear H
                  have hnb28 := NB109_110.out
                  have hnc28 := NB110_109.out
                  have hnb29 := NB109_117.out
                  have hnc29 := NB117_109.out
                  have hcz30_0 : wr.cell? ⟨gb109, 0, none⟩ = some (.int .i64 a0_0) := (blk_cell BK109.out 0).trans rfl
                  have hcz30_1 : wr.cell? ⟨gb109, 1, none⟩ = some (.int .i64 a0_1) := (blk_cell BK109.out 1).trans rfl
                  have hcz30_2 : wr.cell? ⟨gb109, 2, none⟩ = some (.int .i64 a0_2) := (blk_cell BK109.out 2).trans rfl
                  have hcz30_3 : wr.cell? ⟨gb109, 3, none⟩ = some (.bool true) := (blk_cell BK109.out 3).trans rfl
                  have hcz30_4 : wr.cell? ⟨gb109, 4, none⟩ = some (.bool a0_4) := (blk_cell BK109.out 4).trans rfl
                  have hcz30_5 : wr.cell? ⟨gb109, 5, none⟩ = some (.int .i64 a0_5) := (blk_cell BK109.out 5).trans rfl
                  have hcz30_6 : wr.cell? ⟨gb109, 6, none⟩ = some (.slice A0_6 l0_6.length c0_6) := (blk_cell BK109.out 6).trans rfl
                  have hfz30_0 := blk_frozen BK109.out 0
                  have hfz30_1 := blk_frozen BK109.out 1
                  have hfz30_2 := blk_frozen BK109.out 2
                  have hfz30_3 := blk_frozen BK109.out 3
                  have hfz30_4 := blk_frozen BK109.out 4
                  have hfz30_5 := blk_frozen BK109.out 5
                  have hfz30_6 := blk_frozen BK109.out 6
                  have hnb31 := NB117_110.out
                  have hnc31 := NB110_117.out
                  have hcz32_0 : wr.cell? ⟨gb117, 0, none⟩ = some (u118000) := (blk_cell BK117.out 0).trans rfl
                  have hcz32_1 : wr.cell? ⟨gb117, 1, none⟩ = some (u118001) := (blk_cell BK117.out 1).trans rfl
                  have hcz32_2 : wr.cell? ⟨gb117, 2, none⟩ = some (.int .i64 0) := (blk_cell BK117.out 2).trans rfl
                  have hcz32_3 : wr.cell? ⟨gb117, 3, none⟩ = some (.int .i64 0) := (blk_cell BK117.out 3).trans rfl
                  have hcz32_4 : wr.cell? ⟨gb117, 4, none⟩ = some (.int .i64 x118004_2) := (blk_cell BK117.out 4).trans rfl
                  have hfz32_0 := blk_frozen BK117.out 0
                  have hfz32_1 := blk_frozen BK117.out 1
                  have hfz32_2 := blk_frozen BK117.out 2
                  have hfz32_3 := blk_frozen BK117.out 3
                  have hfz32_4 := blk_frozen BK117.out 4
                  go_wp2_with (first | ((with_reducible refine gate_builtin (b := .append) (xs := #[.tmp 39, .tmp 41]) rfl ?_); at_builtin; refine Kd.R_append (Kd.int .i64) (w0 := w) w.heap.size rfl (.tmp 39) (.tmp 41) 22 3 (.int .i64 0) 8 rfl Try.underlying22 info3 rfl (by decide) (by omega) u118000 x118000_2 (wrap64 (Int.tdiv (wrap64 (a0_0 + 1)) 2)) [.int .i64 (wrap64 (Int.tdiv (wrap64 (a0_0 + 1)) 2))] (fun k_ => some k_ ≠ (u118001 : Value).ownBlock) (fun _ => False) rfl rfl ?aP (fun _ hk => hk.elim) ?aF ?aO ?aB ?aS ?aL ?_; (case aP => exact rfl); (case aB => exact (by repeat (first | (with_reducible first | exact HB.out | apply below_alloc | apply pw_below_drewN | apply below_drew1 | refine below_set ?_ GE109.out | refine below_set ?_ GE110.out | refine below_set ?_ GE117.out) | exact HB.out))); (case aF => exact (fun k_ hk => Kd.fresh' (Kd.R_lt (by (with_reducible repeat (first | apply Kd.R_alloc | apply Kd.R_drewN | apply Kd.R_drew)); exact HO_118001.out)) k_ hk)); (case aO => exact (by (with_reducible repeat (first | apply Kd.R_alloc | apply Kd.R_drewN | apply Kd.R_drew)); exact HO_118000.out)); (case aS => exact (below_size (by repeat (first | (with_reducible first | exact HB.out | apply below_alloc | apply pw_below_drewN | apply below_drew1 | refine below_set ?_ GE109.out | refine below_set ?_ GE110.out | refine below_set ?_ GE117.out) | exact HB.out)))); (case aL => have := LMc26.out; omega); intro v119 w33 ho hb hg hat; rw [← Ny118.out] at ho; have n0_ := Aside0.mk (Kd.R_after (ok := (fun _ => True)) (by (with_reducible repeat (first | apply Kd.R_alloc | apply Kd.R_drewN | apply Kd.R_drew)); exact Kd.R_mono HO_118001.out (fun _ hk => ⟨trivial, hk⟩)) hg hat); have n1_ := Aside0.mk (blk_grown (g := gb109) (o := .cells #[.int .i64 a0_0, .int .i64 a0_1, .int .i64 a0_2, .bool true, .bool a0_4, .int .i64 a0_5, .slice A0_6 l0_6.length c0_6] 114 (0, 0)) (by (with_reducible repeat (first | refine blk_drewN ?_ _ | refine blk_drew ?_ | refine blk_alloc ?_ _)); exact BK109.out) hg (Kd.R_ne HO_118000.out BK109.out (by decide))); have n2_ := Aside0.mk (blk_grown (g := gb110) (o := .cells #[.slice none 0 0, .slice none 0 0, .int .i64 0, .int .i64 0, .int .i64 0] 205 (0, 0)) (by (with_reducible repeat (first | refine blk_drewN ?_ _ | refine blk_drew ?_ | refine blk_alloc ?_ _)); exact BK110.out) hg (Kd.R_ne HO_118000.out BK110.out (by decide))); have n3_ := Aside0.mk (blk_grown (g := gb117) (o := .cells #[u118000, u118001, .int .i64 0, .int .i64 0, .int .i64 x118004_2] 205 (0, 0)) (by (with_reducible repeat (first | refine blk_drewN ?_ _ | refine blk_drew ?_ | refine blk_alloc ?_ _)); exact BK117.out) hg (Kd.R_ne HO_118000.out BK117.out (by decide))); have n4_ := Aside0.mk (hb); have n5_ := Aside0.mk (ho); clear HO_118001; clear BK109; clear BK110; clear BK117; clear HB; clear HO_118000; have HO_118001 := n0_; have BK109 := n1_; have BK110 := n2_; have BK117 := n3_; have HB := n4_; have HO120 := n5_; clear n0_ n1_ n2_ n3_ n4_ n5_; clear ho hb hg hat; obtain ⟨Ao34, co34, eo34⟩ := Kd.R_slice HO120.out; subst eo34; have hcz35_0 : w33.cell? ⟨gb117, 0, none⟩ = some (u118000) := (blk_cell BK117.out 0).trans rfl; have hcz35_1 : w33.cell? ⟨gb117, 1, none⟩ = some (u118001) := (blk_cell BK117.out 1).trans rfl; have hcz35_2 : w33.cell? ⟨gb117, 2, none⟩ = some (.int .i64 0) := (blk_cell BK117.out 2).trans rfl; have hcz35_3 : w33.cell? ⟨gb117, 3, none⟩ = some (.int .i64 0) := (blk_cell BK117.out 3).trans rfl; have hcz35_4 : w33.cell? ⟨gb117, 4, none⟩ = some (.int .i64 x118004_2) := (blk_cell BK117.out 4).trans rfl; have hfz35_0 := blk_frozen BK117.out 0; have hfz35_1 := blk_frozen BK117.out 1; have hfz35_2 := blk_frozen BK117.out 2; have hfz35_3 := blk_frozen BK117.out 3; have hfz35_4 := blk_frozen BK117.out 4) | ((with_reducible refine gate_builtin (b := .append) (xs := #[.tmp 45, .tmp 47]) rfl ?_); at_builtin; refine Kd.R_append (Kd.int .i64) (w0 := w) w.heap.size rfl (.tmp 45) (.tmp 47) 22 3 (.int .i64 0) 8 rfl Try.underlying22 info3 rfl (by decide) (by omega) u118001 x118001_2 (wrap64 (Int.tdiv (wrap64 (a0_1 + 1)) 2)) [.int .i64 (wrap64 (Int.tdiv (wrap64 (a0_1 + 1)) 2))] (fun k_ => some k_ ≠ (.slice Ao34 y118.length co34 : Value).ownBlock) (fun _ => False) rfl (by first | (go_simp; done) | (go_simp; rfl)) ?aP (fun _ hk => hk.elim) ?aF ?aO ?aB ?aS ?aL ?_; (case aP => exact rfl); (case aB => exact (by repeat (first | (with_reducible first | exact HB.out | apply below_alloc | apply pw_below_drewN | apply below_drew1 | refine below_set ?_ GE109.out | refine below_set ?_ GE110.out | refine below_set ?_ GE117.out) | exact HB.out))); (case aF => exact (fun k_ hk => Kd.fresh' (Kd.R_lt (by (with_reducible repeat (first | apply Kd.R_alloc | apply Kd.R_drewN | apply Kd.R_drew)); exact (Kd.R_mono (Kd.R_far (p := ⟨gb117, 0, none⟩) (Kd.R_types HO120.out BK117.out (by decide)) (fun _ hk => hk.2) (.slice Ao34 y118.length co34)) (fun _ h_ => h_.1)))) k_ hk)); (case aO => exact (by (with_reducible repeat (first | apply Kd.R_alloc | apply Kd.R_drewN | apply Kd.R_drew)); exact Kd.R_mono (Kd.R_far (p := ⟨gb117, 0, none⟩) (Kd.R_types HO_118001.out BK117.out (by decide)) (fun _ hk => hk.2) (.slice Ao34 y118.length co34)) (fun _ hk => hk.1.2))); (case aS => exact (below_size (by repeat (first | (with_reducible first | exact HB.out | apply below_alloc | apply pw_below_drewN | apply below_drew1 | refine below_set ?_ GE109.out | refine below_set ?_ GE110.out | refine below_set ?_ GE117.out) | exact HB.out)))); (case aL => have := LMc27.out; omega); intro v122 w36 ho hb hg hat; rw [← Ny121.out] at ho; have n0_ := Aside0.mk (blk_grown (g := gb109) (o := .cells #[.int .i64 a0_0, .int .i64 a0_1, .int .i64 a0_2, .bool true, .bool a0_4, .int .i64 a0_5, .slice A0_6 l0_6.length c0_6] 114 (0, 0)) (by (with_reducible repeat (first | refine blk_drewN ?_ _ | refine blk_drew ?_ | refine blk_alloc ?_ _)); refine blk_far ?_ NB109_117.out _; (with_reducible repeat (first | refine blk_drewN ?_ _ | refine blk_drew ?_ | refine blk_alloc ?_ _)); exact BK109.out) hg (Kd.R_ne HO_118001.out BK109.out (by decide))); have n1_ := Aside0.mk (blk_grown (g := gb110) (o := .cells #[.slice none 0 0, .slice none 0 0, .int .i64 0, .int .i64 0, .int .i64 0] 205 (0, 0)) (by (with_reducible repeat (first | refine blk_drewN ?_ _ | refine blk_drew ?_ | refine blk_alloc ?_ _)); refine blk_far ?_ NB110_117.out _; (with_reducible repeat (first | refine blk_drewN ?_ _ | refine blk_drew ?_ | refine blk_alloc ?_ _)); exact BK110.out) hg (Kd.R_ne HO_118001.out BK110.out (by decide))); have n2_ := Aside0.mk (blk_grown (g := gb117) (o := .cells #[.slice Ao34 y118.length co34, u118001, .int .i64 0, .int .i64 0, .int .i64 x118004_2] 205 (0, 0)) (by (with_reducible repeat (first | refine blk_drewN ?_ _ | refine blk_drew ?_ | refine blk_alloc ?_ _)); refine blk_put (cs := #[u118000, u118001, .int .i64 0, .int .i64 0, .int .i64 x118004_2]) ?_ 0 _ rfl; (with_reducible repeat (first | refine blk_drewN ?_ _ | refine blk_drew ?_ | refine blk_alloc ?_ _)); exact BK117.out) hg (Kd.R_ne HO_118001.out BK117.out (by decide))); have n3_ := Aside0.mk (Kd.R_after (ok := (fun _ => True)) (by (with_reducible repeat (first | apply Kd.R_alloc | apply Kd.R_drewN | apply Kd.R_drew)); exact Kd.R_mono (Kd.R_far (p := ⟨gb117, 0, none⟩) (Kd.R_types HO120.out BK117.out (by decide)) (fun _ hk => hk.2) (.slice Ao34 y118.length co34)) (fun _ hk => ⟨trivial, hk.1⟩)) hg hat); have n4_ := Aside0.mk (hb); have n5_ := Aside0.mk (ho); clear BK109; clear BK110; clear BK117; clear HO120; clear HB; clear HO_118001; have BK109 := n0_; have BK110 := n1_; have BK117 := n2_; have HO120 := n3_; have HB := n4_; have HO123 := n5_; clear n0_ n1_ n2_ n3_ n4_ n5_; clear ho hb hg hat; obtain ⟨Ao37, co37, eo37⟩ := Kd.R_slice HO123.out; subst eo37; have hcz38_0 : w36.cell? ⟨gb117, 0, none⟩ = some (.slice Ao34 y118.length co34) := (blk_cell BK117.out 0).trans rfl; have hcz38_1 : w36.cell? ⟨gb117, 1, none⟩ = some (u118001) := (blk_cell BK117.out 1).trans rfl; have hcz38_2 : w36.cell? ⟨gb117, 2, none⟩ = some (.int .i64 0) := (blk_cell BK117.out 2).trans rfl; have hcz38_3 : w36.cell? ⟨gb117, 3, none⟩ = some (.int .i64 0) := (blk_cell BK117.out 3).trans rfl; have hcz38_4 : w36.cell? ⟨gb117, 4, none⟩ = some (.int .i64 x118004_2) := (blk_cell BK117.out 4).trans rfl; have hfz38_0 := blk_frozen BK117.out 0; have hfz38_1 := blk_frozen BK117.out 1; have hfz38_2 := blk_frozen BK117.out 2; have hfz38_3 := blk_frozen BK117.out 3; have hfz38_4 := blk_frozen BK117.out 4))
                  go_roundg k2
                  case measure => have := HJ2.out; have := HK2.out; omega
                  case rel => exact ⟨(wrap64 (x7_2 + 1)), (y118), (y121), (.slice Ao34 y118.length co34), (.slice Ao37 y121.length co37), (by first | rfl | (simp; done) | (simp [*]; done)), H', ⟨by have := HJ2.out; have := HK2.out; omega⟩, ⟨by (with_reducible repeat (first | apply Kd.R_alloc | apply Kd.R_drewN | apply Kd.R_drew)); exact Kd.R_mono (Kd.R_far (p := ⟨gb117, 1, none⟩) (Kd.R_types HO120.out BK117.out (by decide)) (fun _ hk => hk.2) (.slice Ao37 y121.length co37)) (fun _ hk => hk.1.2)⟩, ⟨by (with_reducible repeat (first | apply Kd.R_alloc | apply Kd.R_drewN | apply Kd.R_drew)); exact Kd.R_mono (Kd.R_far (p := ⟨gb117, 1, none⟩) (Kd.R_types HO123.out BK117.out (by decide)) (fun _ hk => hk.2) (.slice Ao37 y121.length co37)) (fun _ hk => hk.1)⟩, ⟨by (with_reducible repeat (first | refine blk_drewN ?_ _ | refine blk_drew ?_ | refine blk_alloc ?_ _)); refine blk_far ?_ NB109_117.out _; (with_reducible repeat (first | refine blk_drewN ?_ _ | refine blk_drew ?_ | refine blk_alloc ?_ _)); exact BK109.out⟩, ⟨by (with_reducible repeat (first | refine blk_drewN ?_ _ | refine blk_drew ?_ | refine blk_alloc ?_ _)); refine blk_far ?_ NB110_117.out _; (with_reducible repeat (first | refine blk_drewN ?_ _ | refine blk_drew ?_ | refine blk_alloc ?_ _)); exact BK110.out⟩, ⟨by (with_reducible repeat (first | refine blk_drewN ?_ _ | refine blk_drew ?_ | refine blk_alloc ?_ _)); refine blk_put (cs := #[.slice Ao34 y118.length co34, u118001, .int .i64 0, .int .i64 0, .int .i64 x118004_2]) ?_ 1 _ rfl; (with_reducible repeat (first | refine blk_drewN ?_ _ | refine blk_drew ?_ | refine blk_alloc ?_ _)); exact BK117.out⟩, ⟨by repeat (first | (with_reducible first | exact HB.out | apply below_alloc | apply pw_below_drewN | apply below_drew1 | refine below_set ?_ GE109.out | refine below_set ?_ GE110.out | refine below_set ?_ GE117.out) | exact HB.out)⟩⟩
                · rw [if_neg c27] at H
                  exact absurd H (by simp)
              · rw [if_neg c26] at H
                exact absurd H (by simp)
            · replace c25 := Bool.eq_false_iff.mpr c25
              subst c25
              have H1 : (if x118000_2.length < 17592186044416 then (if x118001_2.length < 17592186044416 then (spec_l9Cut.l0 k2 a1 x6_2 (wrap64 (x7_2 + 1)) a0_0 a0_1 a0_2 false a0_4 a0_5 l0_6 (x118000_2 ++ [a0_0]) (x118001_2 ++ [a0_1]) 0 0 x118004_2) else (none)) else (none)) = some (r1, r2, r3, r4, r5) := by rw [if_neg (show ¬ (false = true) by decide)] at H; exact H
              clear H
              have H := H1
              clear H1
              by_cases c39 : x118000_2.length < 17592186044416
              · rw [if_pos c39] at H
                have LMc39 := Aside0.mk c39
                clear c39
                obtain ⟨y124, hy124⟩ : ∃ y_ : List Int, y_ = (x118000_2 ++ [a0_0]) := ⟨_, rfl⟩
                replace H : (if x118001_2.length < 17592186044416 then (spec_l9Cut.l0 k2 a1 x6_2 (wrap64 (x7_2 + 1)) a0_0 a0_1 a0_2 false a0_4 a0_5 l0_6 y124 (x118001_2 ++ [a0_1]) 0 0 x118004_2) else (none)) = some (r1, r2, r3, r4, r5) := by first | (rw [hy124]; with_reducible exact H) | (have H2_ := (Option.bind_some _ _).symm.trans H; rw [hy124]; with_reducible exact H2_) | (have H2_ := (Option.bind_some _ _).symm.trans H; with_reducible exact H2_) | with_reducible exact H | (rw [hy124]; exact H) | exact H
                have Ny124 := Aside0.mk hy124
                clear hy124
                by_cases c40 : x118001_2.length < 17592186044416
                · rw [if_pos c40] at H
                  have LMc40 := Aside0.mk c40
                  clear c40
                  obtain ⟨y127, hy127⟩ : ∃ y_ : List Int, y_ = (x118001_2 ++ [a0_1]) := ⟨_, rfl⟩
                  replace H : (spec_l9Cut.l0 k2 a1 x6_2 (wrap64 (x7_2 + 1)) a0_0 a0_1 a0_2 false a0_4 a0_5 l0_6 y124 y127 0 0 x118004_2) = some (r1, r2, r3, r4, r5) := by first | (rw [hy127]; with_reducible exact H) | (have H2_ := (Option.bind_some _ _).symm.trans H; rw [hy127]; with_reducible exact H2_) | (have H2_ := (Option.bind_some _ _).symm.trans H; with_reducible exact H2_) | with_reducible exact H | (rw [hy127]; exact H) | exact H
                  have Ny127 := Aside0.mk hy127
                  clear hy127
                  have H' := Aside0.mk H
                  clear H
                  have hnb41 := NB109_110.out
                  have hnc41 := NB110_109.out
                  have hnb42 := NB109_117.out
                  have hnc42 := NB117_109.out
                  have hcz43_0 : wr.cell? ⟨gb109, 0, none⟩ = some (.int .i64 a0_0) := (blk_cell BK109.out 0).trans rfl
                  have hcz43_1 : wr.cell? ⟨gb109, 1, none⟩ = some (.int .i64 a0_1) := (blk_cell BK109.out 1).trans rfl
                  have hcz43_2 : wr.cell? ⟨gb109, 2, none⟩ = some (.int .i64 a0_2) := (blk_cell BK109.out 2).trans rfl
                  have hcz43_3 : wr.cell? ⟨gb109, 3, none⟩ = some (.bool false) := (blk_cell BK109.out 3).trans rfl
                  have hcz43_4 : wr.cell? ⟨gb109, 4, none⟩ = some (.bool a0_4) := (blk_cell BK109.out 4).trans rfl
                  have hcz43_5 : wr.cell? ⟨gb109, 5, none⟩ = some (.int .i64 a0_5) := (blk_cell BK109.out 5).trans rfl
                  have hcz43_6 : wr.cell? ⟨gb109, 6, none⟩ = some (.slice A0_6 l0_6.length c0_6) := (blk_cell BK109.out 6).trans rfl
                  have hfz43_0 := blk_frozen BK109.out 0
                  have hfz43_1 := blk_frozen BK109.out 1
                  have hfz43_2 := blk_frozen BK109.out 2
                  have hfz43_3 := blk_frozen BK109.out 3
                  have hfz43_4 := blk_frozen BK109.out 4
                  have hfz43_5 := blk_frozen BK109.out 5
                  have hfz43_6 := blk_frozen BK109.out 6
                  have hnb44 := NB117_110.out
                  have hnc44 := NB110_117.out
                  have hcz45_0 : wr.cell? ⟨gb117, 0, none⟩ = some (u118000) := (blk_cell BK117.out 0).trans rfl
                  have hcz45_1 : wr.cell? ⟨gb117, 1, none⟩ = some (u118001) := (blk_cell BK117.out 1).trans rfl
                  have hcz45_2 : wr.cell? ⟨gb117, 2, none⟩ = some (.int .i64 0) := (blk_cell BK117.out 2).trans rfl
                  have hcz45_3 : wr.cell? ⟨gb117, 3, none⟩ = some (.int .i64 0) := (blk_cell BK117.out 3).trans rfl
                  have hcz45_4 : wr.cell? ⟨gb117, 4, none⟩ = some (.int .i64 x118004_2) := (blk_cell BK117.out 4).trans rfl
                  have hfz45_0 := blk_frozen BK117.out 0
                  have hfz45_1 := blk_frozen BK117.out 1
                  have hfz45_2 := blk_frozen BK117.out 2
                  have hfz45_3 := blk_frozen BK117.out 3
                  have hfz45_4 := blk_frozen BK117.out 4
                  go_wp2_with (first | ((with_reducible refine gate_builtin (b := .append) (xs := #[.tmp 39, .tmp 41]) rfl ?_); at_builtin; refine Kd.R_append (Kd.int .i64) (w0 := w) w.heap.size rfl (.tmp 39) (.tmp 41) 22 3 (.int .i64 0) 8 rfl Try.underlying22 info3 rfl (by decide) (by omega) u118000 x118000_2 a0_0 [.int .i64 a0_0] (fun k_ => some k_ ≠ (u118001 : Value).ownBlock) (fun _ => False) rfl rfl ?aP (fun _ hk => hk.elim) ?aF ?aO ?aB ?aS ?aL ?_; (case aP => exact rfl); (case aB => exact (by repeat (first | (with_reducible first | exact HB.out | apply below_alloc | apply pw_below_drewN | apply below_drew1 | refine below_set ?_ GE109.out | refine below_set ?_ GE110.out | refine below_set ?_ GE117.out) | exact HB.out))); (case aF => exact (fun k_ hk => Kd.fresh' (Kd.R_lt (by (with_reducible repeat (first | apply Kd.R_alloc | apply Kd.R_drewN | apply Kd.R_drew)); exact HO_118001.out)) k_ hk)); (case aO => exact (by (with_reducible repeat (first | apply Kd.R_alloc | apply Kd.R_drewN | apply Kd.R_drew)); exact HO_118000.out)); (case aS => exact (below_size (by repeat (first | (with_reducible first | exact HB.out | apply below_alloc | apply pw_below_drewN | apply below_drew1 | refine below_set ?_ GE109.out | refine below_set ?_ GE110.out | refine below_set ?_ GE117.out) | exact HB.out)))); (case aL => have := LMc39.out; omega); intro v125 w46 ho hb hg hat; rw [← Ny124.out] at ho; have n0_ := Aside0.mk (Kd.R_after (ok := (fun _ => True)) (by (with_reducible repeat (first | apply Kd.R_alloc | apply Kd.R_drewN | apply Kd.R_drew)); exact Kd.R_mono HO_118001.out (fun _ hk => ⟨trivial, hk⟩)) hg hat); have n1_ := Aside0.mk (blk_grown (g := gb109) (o := .cells #[.int .i64 a0_0, .int .i64 a0_1, .int .i64 a0_2, .bool false, .bool a0_4, .int .i64 a0_5, .slice A0_6 l0_6.length c0_6] 114 (0, 0)) (by (with_reducible repeat (first | refine blk_drewN ?_ _ | refine blk_drew ?_ | refine blk_alloc ?_ _)); exact BK109.out) hg (Kd.R_ne HO_118000.out BK109.out (by decide))); have n2_ := Aside0.mk (blk_grown (g := gb110) (o := .cells #[.slice none 0 0, .slice none 0 0, .int .i64 0, .int .i64 0, .int .i64 0] 205 (0, 0)) (by (with_reducible repeat (first | refine blk_drewN ?_ _ | refine blk_drew ?_ | refine blk_alloc ?_ _)); exact BK110.out) hg (Kd.R_ne HO_118000.out BK110.out (by decide))); have n3_ := Aside0.mk (blk_grown (g := gb117) (o := .cells #[u118000, u118001, .int .i64 0, .int .i64 0, .int .i64 x118004_2] 205 (0, 0)) (by (with_reducible repeat (first | refine blk_drewN ?_ _ | refine blk_drew ?_ | refine blk_alloc ?_ _)); exact BK117.out) hg (Kd.R_ne HO_118000.out BK117.out (by decide))); have n4_ := Aside0.mk (hb); have n5_ := Aside0.mk (ho); clear HO_118001; clear BK109; clear BK110; clear BK117; clear HB; clear HO_118000; have HO_118001 := n0_; have BK109 := n1_; have BK110 := n2_; have BK117 := n3_; have HB := n4_; have HO126 := n5_; clear n0_ n1_ n2_ n3_ n4_ n5_; clear ho hb hg hat; obtain ⟨Ao47, co47, eo47⟩ := Kd.R_slice HO126.out; subst eo47; have hcz48_0 : w46.cell? ⟨gb117, 0, none⟩ = some (u118000) := (blk_cell BK117.out 0).trans rfl; have hcz48_1 : w46.cell? ⟨gb117, 1, none⟩ = some (u118001) := (blk_cell BK117.out 1).trans rfl; have hcz48_2 : w46.cell? ⟨gb117, 2, none⟩ = some (.int .i64 0) := (blk_cell BK117.out 2).trans rfl; have hcz48_3 : w46.cell? ⟨gb117, 3, none⟩ = some (.int .i64 0) := (blk_cell BK117.out 3).trans rfl; have hcz48_4 : w46.cell? ⟨gb117, 4, none⟩ = some (.int .i64 x118004_2) := (blk_cell BK117.out 4).trans rfl; have hfz48_0 := blk_frozen BK117.out 0; have hfz48_1 := blk_frozen BK117.out 1; have hfz48_2 := blk_frozen BK117.out 2; have hfz48_3 := blk_frozen BK117.out 3; have hfz48_4 := blk_frozen BK117.out 4) | ((with_reducible refine gate_builtin (b := .append) (xs := #[.tmp 45, .tmp 47]) rfl ?_); at_builtin; refine Kd.R_append (Kd.int .i64) (w0 := w) w.heap.size rfl (.tmp 45) (.tmp 47) 22 3 (.int .i64 0) 8 rfl Try.underlying22 info3 rfl (by decide) (by omega) u118001 x118001_2 a0_1 [.int .i64 a0_1] (fun k_ => some k_ ≠ (.slice Ao47 y124.length co47 : Value).ownBlock) (fun _ => False) rfl (by first | (go_simp; done) | (go_simp; rfl)) ?aP (fun _ hk => hk.elim) ?aF ?aO ?aB ?aS ?aL ?_; (case aP => exact rfl); (case aB => exact (by repeat (first | (with_reducible first | exact HB.out | apply below_alloc | apply pw_below_drewN | apply below_drew1 | refine below_set ?_ GE109.out | refine below_set ?_ GE110.out | refine below_set ?_ GE117.out) | exact HB.out))); (case aF => exact (fun k_ hk => Kd.fresh' (Kd.R_lt (by (with_reducible repeat (first | apply Kd.R_alloc | apply Kd.R_drewN | apply Kd.R_drew)); exact (Kd.R_mono (Kd.R_far (p := ⟨gb117, 0, none⟩) (Kd.R_types HO126.out BK117.out (by decide)) (fun _ hk => hk.2) (.slice Ao47 y124.length co47)) (fun _ h_ => h_.1)))) k_ hk)); (case aO => exact (by (with_reducible repeat (first | apply Kd.R_alloc | apply Kd.R_drewN | apply Kd.R_drew)); exact Kd.R_mono (Kd.R_far (p := ⟨gb117, 0, none⟩) (Kd.R_types HO_118001.out BK117.out (by decide)) (fun _ hk => hk.2) (.slice Ao47 y124.length co47)) (fun _ hk => hk.1.2))); (case aS => exact (below_size (by repeat (first | (with_reducible first | exact HB.out | apply below_alloc | apply pw_below_drewN | apply below_drew1 | refine below_set ?_ GE109.out | refine below_set ?_ GE110.out | refine below_set ?_ GE117.out) | exact HB.out)))); (case aL => have := LMc40.out; omega); intro v128 w49 ho hb hg hat; rw [← Ny127.out] at ho; have n0_ := Aside0.mk (blk_grown (g := gb109) (o := .cells #[.int .i64 a0_0, .int .i64 a0_1, .int .i64 a0_2, .bool false, .bool a0_4, .int .i64 a0_5, .slice A0_6 l0_6.length c0_6] 114 (0, 0)) (by (with_reducible repeat (first | refine blk_drewN ?_ _ | refine blk_drew ?_ | refine blk_alloc ?_ _)); refine blk_far ?_ NB109_117.out _; (with_reducible repeat (first | refine blk_drewN ?_ _ | refine blk_drew ?_ | refine blk_alloc ?_ _)); exact BK109.out) hg (Kd.R_ne HO_118001.out BK109.out (by decide))); have n1_ := Aside0.mk (blk_grown (g := gb110) (o := .cells #[.slice none 0 0, .slice none 0 0, .int .i64 0, .int .i64 0, .int .i64 0] 205 (0, 0)) (by (with_reducible repeat (first | refine blk_drewN ?_ _ | refine blk_drew ?_ | refine blk_alloc ?_ _)); refine blk_far ?_ NB110_117.out _; (with_reducible repeat (first | refine blk_drewN ?_ _ | refine blk_drew ?_ | refine blk_alloc ?_ _)); exact BK110.out) hg (Kd.R_ne HO_118001.out BK110.out (by decide))); have n2_ := Aside0.mk (blk_grown (g := gb117) (o := .cells #[.slice Ao47 y124.length co47, u118001, .int .i64 0, .int .i64 0, .int .i64 x118004_2] 205 (0, 0)) (by (with_reducible repeat (first | refine blk_drewN ?_ _ | refine blk_drew ?_ | refine blk_alloc ?_ _)); refine blk_put (cs := #[u118000, u118001, .int .i64 0, .int .i64 0, .int .i64 x118004_2]) ?_ 0 _ rfl; (with_reducible repeat (first | refine blk_drewN ?_ _ | refine blk_drew ?_ | refine blk_alloc ?_ _)); exact BK117.out) hg (Kd.R_ne HO_118001.out BK117.out (by decide))); have n3_ := Aside0.mk (Kd.R_after (ok := (fun _ => True)) (by (with_reducible repeat (first | apply Kd.R_alloc | apply Kd.R_drewN | apply Kd.R_drew)); exact Kd.R_mono (Kd.R_far (p := ⟨gb117, 0, none⟩) (Kd.R_types HO126.out BK117.out (by decide)) (fun _ hk => hk.2) (.slice Ao47 y124.length co47)) (fun _ hk => ⟨trivial, hk.1⟩)) hg hat); have n4_ := Aside0.mk (hb); have n5_ := Aside0.mk (ho); clear BK109; clear BK110; clear BK117; clear HO126; clear HB; clear HO_118001; have BK109 := n0_; have BK110 := n1_; have BK117 := n2_; have HO126 := n3_; have HB := n4_; have HO129 := n5_; clear n0_ n1_ n2_ n3_ n4_ n5_; clear ho hb hg hat; obtain ⟨Ao50, co50, eo50⟩ := Kd.R_slice HO129.out; subst eo50; have hcz51_0 : w49.cell? ⟨gb117, 0, none⟩ = some (.slice Ao47 y124.length co47) := (blk_cell BK117.out 0).trans rfl; have hcz51_1 : w49.cell? ⟨gb117, 1, none⟩ = some (u118001) := (blk_cell BK117.out 1).trans rfl; have hcz51_2 : w49.cell? ⟨gb117, 2, none⟩ = some (.int .i64 0) := (blk_cell BK117.out 2).trans rfl; have hcz51_3 : w49.cell? ⟨gb117, 3, none⟩ = some (.int .i64 0) := (blk_cell BK117.out 3).trans rfl; have hcz51_4 : w49.cell? ⟨gb117, 4, none⟩ = some (.int .i64 x118004_2) := (blk_cell BK117.out 4).trans rfl; have hfz51_0 := blk_frozen BK117.out 0; have hfz51_1 := blk_frozen BK117.out 1; have hfz51_2 := blk_frozen BK117.out 2; have hfz51_3 := blk_frozen BK117.out 3; have hfz51_4 := blk_frozen BK117.out 4))
                  go_roundg k2
                  case measure => have := HJ2.out; have := HK2.out; omega
                  case rel => exact ⟨(wrap64 (x7_2 + 1)), (y124), (y127), (.slice Ao47 y124.length co47), (.slice Ao50 y127.length co50), (by first | rfl | (simp; done) | (simp [*]; done)), H', ⟨by have := HJ2.out; have := HK2.out; omega⟩, ⟨by (with_reducible repeat (first | apply Kd.R_alloc | apply Kd.R_drewN | apply Kd.R_drew)); exact Kd.R_mono (Kd.R_far (p := ⟨gb117, 1, none⟩) (Kd.R_types HO126.out BK117.out (by decide)) (fun _ hk => hk.2) (.slice Ao50 y127.length co50)) (fun _ hk => hk.1.2)⟩, ⟨by (with_reducible repeat (first | apply Kd.R_alloc | apply Kd.R_drewN | apply Kd.R_drew)); exact Kd.R_mono (Kd.R_far (p := ⟨gb117, 1, none⟩) (Kd.R_types HO129.out BK117.out (by decide)) (fun _ hk => hk.2) (.slice Ao50 y127.length co50)) (fun _ hk => hk.1)⟩, ⟨by (with_reducible repeat (first | refine blk_drewN ?_ _ | refine blk_drew ?_ | refine blk_alloc ?_ _)); refine blk_far ?_ NB109_117.out _; (with_reducible repeat (first | refine blk_drewN ?_ _ | refine blk_drew ?_ | refine blk_alloc ?_ _)); exact BK109.out⟩, ⟨by (with_reducible repeat (first | refine blk_drewN ?_ _ | refine blk_drew ?_ | refine blk_alloc ?_ _)); refine blk_far ?_ NB110_117.out _; (with_reducible repeat (first | refine blk_drewN ?_ _ | refine blk_drew ?_ | refine blk_alloc ?_ _)); exact BK110.out⟩, ⟨by (with_reducible repeat (first | refine blk_drewN ?_ _ | refine blk_drew ?_ | refine blk_alloc ?_ _)); refine blk_put (cs := #[.slice Ao47 y124.length co47, u118001, .int .i64 0, .int .i64 0, .int .i64 x118004_2]) ?_ 1 _ rfl; (with_reducible repeat (first | refine blk_drewN ?_ _ | refine blk_drew ?_ | refine blk_alloc ?_ _)); exact BK117.out⟩, ⟨by repeat (first | (with_reducible first | exact HB.out | apply below_alloc | apply pw_below_drewN | apply below_drew1 | refine below_set ?_ GE109.out | refine below_set ?_ GE110.out | refine below_set ?_ GE117.out) | exact HB.out)⟩⟩
                · rw [if_neg c40] at H
                  exact absurd H (by simp)
              · rw [if_neg c39] at H
                exact absurd H (by simp)
          · rw [if_neg c24] at H
            have c24b0 : decide (x7_2 < a1) = false := decide_eq_false c24
            clear c24
            by_cases c52 : x6_2 = 0
            · rw [if_pos c52] at H
              exact absurd H (by simp)
            · rw [if_neg c52] at H
              have c52b0 : (x6_2 == 0) = false := beq_eq_false_iff_ne.mpr c52
              have c52b1 : (x6_2 != 0) = true := bne_iff_ne.mpr c52
              simp only [Option.some.injEq, Prod.mk.injEq] at H
              obtain ⟨rfl, rfl, rfl, rfl, rfl⟩ := H
              have hnb53 := NB109_110.out
              have hnc53 := NB110_109.out
              have hnb54 := NB109_117.out
              have hnc54 := NB117_109.out
              have hcz55_0 : wr.cell? ⟨gb109, 0, none⟩ = some (.int .i64 a0_0) := (blk_cell BK109.out 0).trans rfl
              have hcz55_1 : wr.cell? ⟨gb109, 1, none⟩ = some (.int .i64 a0_1) := (blk_cell BK109.out 1).trans rfl
              have hcz55_2 : wr.cell? ⟨gb109, 2, none⟩ = some (.int .i64 a0_2) := (blk_cell BK109.out 2).trans rfl
              have hcz55_3 : wr.cell? ⟨gb109, 3, none⟩ = some (.bool a0_3) := (blk_cell BK109.out 3).trans rfl
              have hcz55_4 : wr.cell? ⟨gb109, 4, none⟩ = some (.bool a0_4) := (blk_cell BK109.out 4).trans rfl
              have hcz55_5 : wr.cell? ⟨gb109, 5, none⟩ = some (.int .i64 a0_5) := (blk_cell BK109.out 5).trans rfl
              have hcz55_6 : wr.cell? ⟨gb109, 6, none⟩ = some (.slice A0_6 l0_6.length c0_6) := (blk_cell BK109.out 6).trans rfl
              have hfz55_0 := blk_frozen BK109.out 0
              have hfz55_1 := blk_frozen BK109.out 1
              have hfz55_2 := blk_frozen BK109.out 2
              have hfz55_3 := blk_frozen BK109.out 3
              have hfz55_4 := blk_frozen BK109.out 4
              have hfz55_5 := blk_frozen BK109.out 5
              have hfz55_6 := blk_frozen BK109.out 6
              have hnb56 := NB117_110.out
              have hnc56 := NB110_117.out
              have hcz57_0 : wr.cell? ⟨gb117, 0, none⟩ = some (u118000) := (blk_cell BK117.out 0).trans rfl
              have hcz57_1 : wr.cell? ⟨gb117, 1, none⟩ = some (u118001) := (blk_cell BK117.out 1).trans rfl
              have hcz57_2 : wr.cell? ⟨gb117, 2, none⟩ = some (.int .i64 0) := (blk_cell BK117.out 2).trans rfl
              have hcz57_3 : wr.cell? ⟨gb117, 3, none⟩ = some (.int .i64 0) := (blk_cell BK117.out 3).trans rfl
              have hcz57_4 : wr.cell? ⟨gb117, 4, none⟩ = some (.int .i64 x118004_2) := (blk_cell BK117.out 4).trans rfl
              have hfz57_0 := blk_frozen BK117.out 0
              have hfz57_1 := blk_frozen BK117.out 1
              have hfz57_2 := blk_frozen BK117.out 2
              have hfz57_3 := blk_frozen BK117.out 3
              have hfz57_4 := blk_frozen BK117.out 4
              obtain ⟨Ao58, co58, eo58⟩ := Kd.R_slice HO_118000.out
              subst eo58
              have hcz59_0 : wr.cell? ⟨gb110, 0, none⟩ = some (.slice none 0 0) := (blk_cell BK110.out 0).trans rfl
              have hcz59_1 : wr.cell? ⟨gb110, 1, none⟩ = some (.slice none 0 0) := (blk_cell BK110.out 1).trans rfl
              have hcz59_2 : wr.cell? ⟨gb110, 2, none⟩ = some (.int .i64 0) := (blk_cell BK110.out 2).trans rfl
              have hcz59_3 : wr.cell? ⟨gb110, 3, none⟩ = some (.int .i64 0) := (blk_cell BK110.out 3).trans rfl
              have hcz59_4 : wr.cell? ⟨gb110, 4, none⟩ = some (.int .i64 0) := (blk_cell BK110.out 4).trans rfl
              have hfz59_0 := blk_frozen BK110.out 0
              have hfz59_1 := blk_frozen BK110.out 1
              have hfz59_2 := blk_frozen BK110.out 2
              have hfz59_3 := blk_frozen BK110.out 3
              have hfz59_4 := blk_frozen BK110.out 4
              obtain ⟨Ao60, co60, eo60⟩ := Kd.R_slice HO_118001.out
              subst eo60
              go_wp2
              refine bodyPost_ret (results_cell_row rfl _ _ gb110 205 #[.slice Ao58 x118000_2.length co58, .slice Ao60 x118001_2.length co60, .int .i64 (wrap64 (Int.tdiv (wrap64 ((wrap64 (a0_0 + x6_2)) - 1)) x6_2)), .int .i64 (wrap64 (Int.tdiv (wrap64 ((wrap64 (a0_1 + x6_2)) - 1)) x6_2)), .int .i64 x118004_2] (0, 0) _ rfl (by (with_reducible repeat (first | refine blk_drewN ?_ _ | refine blk_drew ?_ | refine blk_alloc ?_ _)); refine blk_put (cs := #[.slice Ao58 x118000_2.length co58, .slice Ao60 x118001_2.length co60, .int .i64 (wrap64 (Int.tdiv (wrap64 ((wrap64 (a0_0 + x6_2)) - 1)) x6_2)), .int .i64 (wrap64 (Int.tdiv (wrap64 ((wrap64 (a0_1 + x6_2)) - 1)) x6_2)), .int .i64 0]) ?_ 4 _ rfl; (with_reducible repeat (first | refine blk_drewN ?_ _ | refine blk_drew ?_ | refine blk_alloc ?_ _)); refine blk_put (cs := #[.slice Ao58 x118000_2.length co58, .slice Ao60 x118001_2.length co60, .int .i64 (wrap64 (Int.tdiv (wrap64 ((wrap64 (a0_0 + x6_2)) - 1)) x6_2)), .int .i64 0, .int .i64 0]) ?_ 3 _ rfl; (with_reducible repeat (first | refine blk_drewN ?_ _ | refine blk_drew ?_ | refine blk_alloc ?_ _)); refine blk_put (cs := #[.slice Ao58 x118000_2.length co58, .slice Ao60 x118001_2.length co60, .int .i64 0, .int .i64 0, .int .i64 0]) ?_ 2 _ rfl; (with_reducible repeat (first | refine blk_drewN ?_ _ | refine blk_drew ?_ | refine blk_alloc ?_ _)); refine blk_put (cs := #[.slice Ao58 x118000_2.length co58, .slice none 0 0, .int .i64 0, .int .i64 0, .int .i64 0]) ?_ 1 _ rfl; (with_reducible repeat (first | refine blk_drewN ?_ _ | refine blk_drew ?_ | refine blk_alloc ?_ _)); refine blk_put (cs := #[.slice none 0 0, .slice none 0 0, .int .i64 0, .int .i64 0, .int .i64 0]) ?_ 0 _ rfl; (with_reducible repeat (first | refine blk_drewN ?_ _ | refine blk_drew ?_ | refine blk_alloc ?_ _)); refine blk_far ?_ NB110_117.out _; (with_reducible repeat (first | refine blk_drewN ?_ _ | refine blk_drew ?_ | refine blk_alloc ?_ _)); refine blk_far ?_ NB110_117.out _; (with_reducible repeat (first | refine blk_drewN ?_ _ | refine blk_drew ?_ | refine blk_alloc ?_ _)); exact BK110.out) Try.underlying205 rfl (by kernel_rfl)) rfl ?_
              exact ⟨_, _, by first | rfl | (simp [errW_none, errW_some] <;> rfl) | (simp [*, errW_none, errW_some] <;> rfl), by (with_reducible repeat (first | apply Kd.R_alloc | apply Kd.R_drewN | apply Kd.R_drew)); exact Kd.R_mono (Kd.R_far (p := ⟨gb110, 4, none⟩) (Kd.R_far (p := ⟨gb110, 3, none⟩) (Kd.R_far (p := ⟨gb110, 2, none⟩) (Kd.R_far (p := ⟨gb110, 1, none⟩) (Kd.R_far (p := ⟨gb110, 0, none⟩) (Kd.R_far (p := ⟨gb117, 3, none⟩) (Kd.R_far (p := ⟨gb117, 2, none⟩) (Kd.R_types (Kd.R_types HO_118000.out BK117.out (by decide)) BK110.out (by decide)) (fun _ hk => hk.1.2) (.int .i64 (wrap64 (Int.tdiv (wrap64 ((wrap64 (a0_0 + x6_2)) - 1)) x6_2)))) (fun _ hk => hk.1.2) (.int .i64 (wrap64 (Int.tdiv (wrap64 ((wrap64 (a0_1 + x6_2)) - 1)) x6_2)))) (fun _ hk => hk.2) (.slice Ao58 x118000_2.length co58)) (fun _ hk => hk.2) (.slice Ao60 x118001_2.length co60)) (fun _ hk => hk.2) (.int .i64 (wrap64 (Int.tdiv (wrap64 ((wrap64 (a0_0 + x6_2)) - 1)) x6_2)))) (fun _ hk => hk.2) (.int .i64 (wrap64 (Int.tdiv (wrap64 ((wrap64 (a0_1 + x6_2)) - 1)) x6_2)))) (fun _ hk => hk.2) (.int .i64 x118004_2)) (fun _ hk => hk.1.1), by (with_reducible repeat (first | apply Kd.R_alloc | apply Kd.R_drewN | apply Kd.R_drew)); exact Kd.R_mono (Kd.R_far (p := ⟨gb110, 4, none⟩) (Kd.R_far (p := ⟨gb110, 3, none⟩) (Kd.R_far (p := ⟨gb110, 2, none⟩) (Kd.R_far (p := ⟨gb110, 1, none⟩) (Kd.R_far (p := ⟨gb110, 0, none⟩) (Kd.R_far (p := ⟨gb117, 3, none⟩) (Kd.R_far (p := ⟨gb117, 2, none⟩) (Kd.R_types (Kd.R_types HO_118001.out BK117.out (by decide)) BK110.out (by decide)) (fun _ hk => hk.1.2) (.int .i64 (wrap64 (Int.tdiv (wrap64 ((wrap64 (a0_0 + x6_2)) - 1)) x6_2)))) (fun _ hk => hk.1.2) (.int .i64 (wrap64 (Int.tdiv (wrap64 ((wrap64 (a0_1 + x6_2)) - 1)) x6_2)))) (fun _ hk => hk.2) (.slice Ao58 x118000_2.length co58)) (fun _ hk => hk.2) (.slice Ao60 x118001_2.length co60)) (fun _ hk => hk.2) (.int .i64 (wrap64 (Int.tdiv (wrap64 ((wrap64 (a0_0 + x6_2)) - 1)) x6_2)))) (fun _ hk => hk.2) (.int .i64 (wrap64 (Int.tdiv (wrap64 ((wrap64 (a0_1 + x6_2)) - 1)) x6_2)))) (fun _ hk => hk.2) (.int .i64 x118004_2)) (fun _ hk => hk.1.1), by repeat (first | (with_reducible first | exact HB.out | apply below_alloc | apply pw_below_drewN | apply below_drew1 | refine below_set ?_ GE109.out | refine below_set ?_ GE110.out | refine below_set ?_ GE117.out) | exact HB.out)⟩

/-! ### spec_l9Shape_blocks: function 184 -/
def spec_l9Shape_blocks.f (l0_0 : List Int) (l0_1 : List Int) (a0_2 : Int) (a0_3 : Int) (a0_4 : Int) : Option (Int) := some (wrap64 ((wrap64 (a0_2 * a0_3)) * a0_4))
set_option maxHeartbeats 8000000 in
set_option maxRecDepth 100000 in
theorem spec_l9Shape_blocks.calls (A0_0 : Option Addr) (c0_0 : Nat) (l0_0 : List Int) (A0_1 : Option Addr) (c0_1 : Nat) (l0_1 : List Int) (a0_2 : Int) (a0_3 : Int) (a0_4 : Int) (r : Int) (w : World) (hr0_0 : Kd.C (Kd.int .i64) w A0_0 l0_0.length l0_0) (hc0_0 : l0_0.length ≤ c0_0) (hr0_1 : Kd.C (Kd.int .i64) w A0_1 l0_1.length l0_1) (hc0_1 : l0_1.length ≤ c0_1) (h : spec_l9Shape_blocks.f l0_0 l0_1 a0_2 a0_3 a0_4 = some r) :
    Calls Try.prog 184 #[.agg #[.slice A0_0 l0_0.length c0_0, .slice A0_1 l0_1.length c0_1, .int .i64 a0_2, .int .i64 a0_3, .int .i64 a0_4]] w fun e w' => e = .returned (.int .i64 r) ∧ Below w.heap.size w w' := by
  have hu205 := Try.underlying205
  have HR0_0 := Aside0.mk hr0_0
  have HC0_0 := Aside0.mk hc0_0
  clear hr0_0 hc0_0
  have HR0_1 := Aside0.mk hr0_1
  have HC0_1 := Aside0.mk hc0_1
  clear hr0_1 hc0_1
  have HB := Aside0.mk (Below.refl w.heap.size w)
  have H : (some (wrap64 ((wrap64 (a0_2 * a0_3)) * a0_4))) = some r := h
  clear h
  obtain rfl := Option.some.inj H
  go_enter Try.func184, Try.ntmps184
  go_wp2_with (first | ((with_reducible refine gate_dst (N := 1) rfl ?_); refine box_event ?hg (N := 1) ?hd (cs := #[.slice A0_0 l0_0.length c0_0, .slice A0_1 l0_1.length c0_1, .int .i64 a0_2, .int .i64 a0_3, .int .i64 a0_4]) (t := 205) ?hr ?_; (case hd => rfl); (case hg => rfl); (case hr => first | (go_simp; done) | (go_simp; rfl)); intro gb130 hg w2 hbox hb; have n0_ := Aside0.mk (below_step (by repeat (first | (with_reducible first | exact HB.out | apply below_alloc | apply pw_below_drewN | apply below_drew1) | exact HB.out)) hb); have n1_ := Aside0.mk (hbox); have n2_ := Aside0.mk ((by rw [hg]; exact (below_size (by repeat (first | (with_reducible first | exact HB.out | apply below_alloc | apply pw_below_drewN | apply below_drew1) | exact HB.out))) : w.heap.size ≤ gb130)); have n3_ := Aside0.mk ((by rw [hg]; exact (below_size (by repeat (first | (with_reducible first | exact HB.out | apply below_alloc | apply pw_below_drewN | apply below_drew1) | exact HB.out))) : w.heap.size ≤ gb130)); clear HB; have HB := n0_; have BK130 := n1_; have GW130 := n2_; have GE130 := n3_; clear n0_ n1_ n2_ n3_; clear hb hbox hg; have hcz3_0 : w2.cell? ⟨gb130, 0, none⟩ = some (.slice A0_0 l0_0.length c0_0) := (blk_cell BK130.out 0).trans rfl; have hcz3_1 : w2.cell? ⟨gb130, 1, none⟩ = some (.slice A0_1 l0_1.length c0_1) := (blk_cell BK130.out 1).trans rfl; have hcz3_2 : w2.cell? ⟨gb130, 2, none⟩ = some (.int .i64 a0_2) := (blk_cell BK130.out 2).trans rfl; have hcz3_3 : w2.cell? ⟨gb130, 3, none⟩ = some (.int .i64 a0_3) := (blk_cell BK130.out 3).trans rfl; have hcz3_4 : w2.cell? ⟨gb130, 4, none⟩ = some (.int .i64 a0_4) := (blk_cell BK130.out 4).trans rfl; have hfz3_0 := blk_frozen BK130.out 0; have hfz3_1 := blk_frozen BK130.out 1; have hfz3_2 := blk_frozen BK130.out 2; have hfz3_3 := blk_frozen BK130.out 3; have hfz3_4 := blk_frozen BK130.out 4))
  go_ret
  exact ⟨by first | rfl | (simp [errW_none, errW_some] <;> rfl) | (simp [*, errW_none, errW_some] <;> rfl), by repeat (first | (with_reducible first | exact HB.out | apply below_alloc | apply pw_below_drewN | apply below_drew1 | refine below_set ?_ GE130.out) | exact HB.out)⟩

end Go.Proofs.Ytglaedjadlappaa.PFnExactGoodPhoto

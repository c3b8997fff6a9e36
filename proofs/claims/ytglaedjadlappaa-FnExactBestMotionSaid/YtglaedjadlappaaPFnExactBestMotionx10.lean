-- written by myprint.py (a program of this session's over the kit's print)
import Derived.Test.YtglaedjadlappaaPFnExactBestMotionx0
import Derived.Test.YtglaedjadlappaaPFnExactBestMotionx1
import Derived.Test.YtglaedjadlappaaPFnExactBestMotionx5
import Derived.Test.YtglaedjadlappaaPFnExactBestMotionx8
import Derived.Test.YtglaedjadlappaaPFnExactBestMotionx9
namespace Go.Proofs.Ytglaedjadlappaa.PFnExactBestMotion
open Go.RowKit Go.Proofs.YtglaedjadlappaaW.PrintWords Go.Proofs.YtglaedjadlappaaW.PrintLast Go.Proofs.YtglaedjadlappaaW.PrintMore
attribute [local go_sem] max2_int min2_int max_two min_two max_three min_three max_four min_four   -- for this text's walks alone
set_option linter.unusedVariables false
set_option linter.unusedSimpArgs false

/-! ### laws_FnExactBestMotion: function 3 -/
def laws_FnExactBestMotion.f (k : Nat) (a0_0 : Int) (a0_1 : Int) (l0_2 : List Int) (a1_0 : Int) (a1_1 : Int) (l1_2 : List Int) (a2 : Int) (a3 : Int) (a4 : Int) (a5 : Int) (a6 : Int) : Option (Bool) := (laws_szPlane.f a0_0 a0_1 l0_2 1048576).bind fun t249 => (if t249 < 0 then (some true) else ((laws_szPlane.f a1_0 a1_1 l1_2 t249).bind fun t250 => (if t250 < 0 then (some true) else ((laws_toPlane.f k a0_0 a0_1 l0_2).bind fun bt251 => ((laws_toPlane.f k a1_0 a1_1 l1_2).bind fun bt256 => ((spec_BestMotion.f k bt251.1 bt251.2.1 bt251.2.2 bt256.1 bt256.2.1 bt256.2.2 a2 a3 a4 a5 a6).bind fun bt261 => ((laws_toPlane.f k a0_0 a0_1 l0_2).bind fun bt265 => ((laws_toPlane.f k a1_0 a1_1 l1_2).bind fun bt271 => ((impl_BestMotion.f k bt265.1 bt265.2.1 bt265.2.2 bt271.1 bt271.2.1 bt271.2.2 a2 a3 a4 a5 a6).bind fun bt277 => ((laws_eqMotion.f bt277.1 bt277.2.1 bt277.2.2 bt261.1 bt261.2.1 bt261.2.2).bind fun t281 => (if t281 = true then ((laws_toPlane.f k a0_0 a0_1 l0_2).bind fun bt282 => ((laws_eqPlane.f k bt265.1 bt265.2.1 bt265.2.2 bt282.1 bt282.2.1 bt282.2.2).bind fun t287 => (if t287 = true then ((laws_toPlane.f k a1_0 a1_1 l1_2).bind fun bt288 => ((laws_eqPlane.f k bt271.1 bt271.2.1 bt271.2.2 bt288.1 bt288.2.1 bt288.2.2).bind fun t293 => (if t293 = true then (some true) else (some false)))) else (some false)))) else (some false))))))))))))
theorem laws_FnExactBestMotion.mono : ∀ a0 a1 a2 a3 a4 a5 a6 a7 a8 a9 a10 k, LeO (laws_FnExactBestMotion.f k a0 a1 a2 a3 a4 a5 a6 a7 a8 a9 a10) (laws_FnExactBestMotion.f (k + 1) a0 a1 a2 a3 a4 a5 a6 a7 a8 a9 a10) := by
  intro a0 a1 a2 a3 a4 a5 a6 a7 a8 a9 a10 k
  unfold laws_FnExactBestMotion.f
  repeat' first
      | (with_reducible exact impl_BestMotion.mono _ _ _ _ _ _ _ _ _ _ _ _)
      | (with_reducible exact laws_eqPlane.mono _ _ _ _ _ _ _)
      | (with_reducible exact laws_toPlane.mono _ _ _ _)
      | (with_reducible exact spec_BestMotion.mono _ _ _ _ _ _ _ _ _ _ _ _)
      | (with_reducible exact LeO.refl _)
      | (with_reducible exact LeO.none _)
      | (with_reducible refine LeO.ite ?_ ?_)
      | (with_reducible refine LeO.bind ?_ (fun _ => ?_))
      | exact impl_BestMotion.mono _ _ _ _ _ _ _ _ _ _ _ _
      | exact laws_eqPlane.mono _ _ _ _ _ _ _
      | exact laws_toPlane.mono _ _ _ _
      | exact spec_BestMotion.mono _ _ _ _ _ _ _ _ _ _ _ _
      | exact LeO.none _
      | refine LeO.ite ?_ ?_
      | refine LeO.bind ?_ (fun _ => ?_)
def laws_FnExactBestMotion.T8 : Bool × List (List Nat × List Nat) := (true, [([], []), ([0], [0]), ([], []), ([2, 1], [2]), ([], []), ([], []), ([], []), ([], []), ([], []), ([1, 3, 4, 5, 6, 7, 8, 3], [1, 3, 4, 5, 6, 7, 8]), ([], []), ([10, 9, 9, 0, 1, 2, 3, 4, 5, 6, 7, 8, 9, 10], [9, 10])])
def laws_FnExactBestMotion.B8 : List Nat := [0, 1, 0, 7, 0, 0, 0, 0, 0, 511, 0, 2047]
theorem laws_FnExactBestMotion.tab8 : rtab .any (opsOf Try.f3 8) = laws_FnExactBestMotion.T8 := by kernel_rfl
theorem laws_FnExactBestMotion.bits8 : waitsOk laws_FnExactBestMotion.T8.2 laws_FnExactBestMotion.B8 = true := by kernel_rfl
set_option maxHeartbeats 8000000 in
set_option maxRecDepth 100000 in
theorem laws_FnExactBestMotion.calls (k : Nat) (a0_0 : Int) (a0_1 : Int) (A0_2 : Option Addr) (c0_2 : Nat) (l0_2 : List Int) (a1_0 : Int) (a1_1 : Int) (A1_2 : Option Addr) (c1_2 : Nat) (l1_2 : List Int) (a2 : Int) (a3 : Int) (a4 : Int) (a5 : Int) (a6 : Int) (r : Bool) (w : World) (hr0_2 : Kd.C (Kd.int .i64) w A0_2 l0_2.length l0_2) (hc0_2 : l0_2.length ≤ c0_2) (hr1_2 : Kd.C (Kd.int .i64) w A1_2 l1_2.length l1_2) (hc1_2 : l1_2.length ≤ c1_2) (h : laws_FnExactBestMotion.f k a0_0 a0_1 l0_2 a1_0 a1_1 l1_2 a2 a3 a4 a5 a6 = some r) (hr_ : r = true) :
    Calls Try.prog 3 #[.agg #[.int .i64 a0_0, .int .i64 a0_1, .slice A0_2 l0_2.length c0_2], .agg #[.int .i64 a1_0, .int .i64 a1_1, .slice A1_2 l1_2.length c1_2], .int .i64 a2, .int .i64 a3, .int .i64 a4, .int .i64 a5, .int .i64 a6] w fun e w' => e = .returned (.bool r) ∧ Below w.heap.size w w' := by
  have hu24 := Try.underlying24
  have hu27 := Try.underlying27
  have hu29 := Try.underlying29
  have HR0_2 := Aside0.mk hr0_2
  have HC0_2 := Aside0.mk hc0_2
  clear hr0_2 hc0_2
  have HR1_2 := Aside0.mk hr1_2
  have HC1_2 := Aside0.mk hc1_2
  clear hr1_2 hc1_2
  have HB := Aside0.mk (Below.refl w.heap.size w)
  have H : ((laws_szPlane.f a0_0 a0_1 l0_2 1048576).bind fun t249 => (if t249 < 0 then (some true) else ((laws_szPlane.f a1_0 a1_1 l1_2 t249).bind fun t250 => (if t250 < 0 then (some true) else ((laws_toPlane.f k a0_0 a0_1 l0_2).bind fun bt251 => ((laws_toPlane.f k a1_0 a1_1 l1_2).bind fun bt256 => ((spec_BestMotion.f k bt251.1 bt251.2.1 bt251.2.2 bt256.1 bt256.2.1 bt256.2.2 a2 a3 a4 a5 a6).bind fun bt261 => ((laws_toPlane.f k a0_0 a0_1 l0_2).bind fun bt265 => ((laws_toPlane.f k a1_0 a1_1 l1_2).bind fun bt271 => ((impl_BestMotion.f k bt265.1 bt265.2.1 bt265.2.2 bt271.1 bt271.2.1 bt271.2.2 a2 a3 a4 a5 a6).bind fun bt277 => ((laws_eqMotion.f bt277.1 bt277.2.1 bt277.2.2 bt261.1 bt261.2.1 bt261.2.2).bind fun t281 => (if t281 = true then ((laws_toPlane.f k a0_0 a0_1 l0_2).bind fun bt282 => ((laws_eqPlane.f k bt265.1 bt265.2.1 bt265.2.2 bt282.1 bt282.2.1 bt282.2.2).bind fun t287 => (if t287 = true then ((laws_toPlane.f k a1_0 a1_1 l1_2).bind fun bt288 => ((laws_eqPlane.f k bt271.1 bt271.2.1 bt271.2.2 bt288.1 bt288.2.1 bt288.2.2).bind fun t293 => (if t293 = true then (some true) else (some false)))) else (some false)))) else (some false))))))))))))) = some r := h
  clear h
  replace H := Option.bind_eq_some_iff.mp H
  obtain ⟨t249, A80, H⟩ := H
  replace H : (if t249 < 0 then (some true) else ((laws_szPlane.f a1_0 a1_1 l1_2 t249).bind fun t250 => (if t250 < 0 then (some true) else ((laws_toPlane.f k a0_0 a0_1 l0_2).bind fun bt251 => ((laws_toPlane.f k a1_0 a1_1 l1_2).bind fun bt256 => ((spec_BestMotion.f k bt251.1 bt251.2.1 bt251.2.2 bt256.1 bt256.2.1 bt256.2.2 a2 a3 a4 a5 a6).bind fun bt261 => ((laws_toPlane.f k a0_0 a0_1 l0_2).bind fun bt265 => ((laws_toPlane.f k a1_0 a1_1 l1_2).bind fun bt271 => ((impl_BestMotion.f k bt265.1 bt265.2.1 bt265.2.2 bt271.1 bt271.2.1 bt271.2.2 a2 a3 a4 a5 a6).bind fun bt277 => ((laws_eqMotion.f bt277.1 bt277.2.1 bt277.2.2 bt261.1 bt261.2.1 bt261.2.2).bind fun t281 => (if t281 = true then ((laws_toPlane.f k a0_0 a0_1 l0_2).bind fun bt282 => ((laws_eqPlane.f k bt265.1 bt265.2.1 bt265.2.2 bt282.1 bt282.2.1 bt282.2.2).bind fun t287 => (if t287 = true then ((laws_toPlane.f k a1_0 a1_1 l1_2).bind fun bt288 => ((laws_eqPlane.f k bt271.1 bt271.2.1 bt271.2.2 bt288.1 bt288.2.1 bt288.2.2).bind fun t293 => (if t293 = true then (some true) else (some false)))) else (some false)))) else (some false)))))))))))) = some r := H
  have A8 := Aside0.mk A80
  clear A80
  by_cases c9 : t249 < 0
  · rw [if_pos c9] at H
    have c9b0 : decide (t249 < 0) = true := decide_eq_true c9
    clear c9
    obtain rfl := Option.some.inj H
    go_enter Try.func3, Try.ntmps3
    go_wp2_with (first | ((with_reducible refine gate_dst (N := 7) rfl ?_); refine box_event ?hg (N := 7) ?hd (cs := #[.int .i64 a0_0, .int .i64 a0_1, .slice A0_2 l0_2.length c0_2]) (t := 24) ?hr ?_; (case hd => rfl); (case hg => rfl); (case hr => first | (go_simp; done) | (go_simp; rfl)); intro gb247 hg w10 hbox hb; have n0_ := Aside0.mk (below_step (by repeat (first | (with_reducible first | exact HB.out | apply below_alloc | apply pw_below_drewN | apply below_drew1) | exact HB.out)) hb); have n1_ := Aside0.mk (hbox); have n2_ := Aside0.mk ((by rw [hg]; exact (below_size (by repeat (first | (with_reducible first | exact HB.out | apply below_alloc | apply pw_below_drewN | apply below_drew1) | exact HB.out))) : w.heap.size ≤ gb247)); have n3_ := n2_; clear HB; have HB := n0_; have BK247 := n1_; have GW247 := n2_; have GE247 := n3_; clear n0_ n1_ n2_ n3_; clear hb hbox hg) | ((with_reducible refine gate_dst (N := 8) rfl ?_); refine box_event ?hg (N := 8) ?hd (cs := #[.int .i64 a1_0, .int .i64 a1_1, .slice A1_2 l1_2.length c1_2]) (t := 24) ?hr ?_; (case hd => rfl); (case hg => rfl); (case hr => first | (go_simp; done) | (go_simp; rfl)); intro gb248 hg w11 hbox hb; have n0_ := Aside0.mk (blk_below (g := gb247) (o := .cells #[.int .i64 a0_0, .int .i64 a0_1, .slice A0_2 l0_2.length c0_2] 24 (0, 0)) (by (with_reducible repeat (first | refine blk_drewN ?_ _ | refine blk_drew ?_ | refine blk_alloc ?_ _)); exact BK247.out) hb); have n1_ := Aside0.mk (below_step (by repeat (first | (with_reducible first | exact HB.out | apply below_alloc | apply pw_below_drewN | apply below_drew1 | refine below_set ?_ GE247.out) | exact HB.out)) hb); have n2_ := Aside0.mk (hbox); have n3_ := Aside0.mk ((by rw [hg]; exact (below_size (by repeat (first | (with_reducible first | exact HB.out | apply below_alloc | apply pw_below_drewN | apply below_drew1 | refine below_set ?_ GE247.out) | exact HB.out))) : w.heap.size ≤ gb248)); have n4_ := n3_; have n5_ := Aside0.mk ((by rw [hg]; exact Nat.ne_of_lt (blk_lt (g := gb247) (o := .cells #[.int .i64 a0_0, .int .i64 a0_1, .slice A0_2 l0_2.length c0_2] 24 (0, 0)) (by (with_reducible repeat (first | refine blk_drewN ?_ _ | refine blk_drew ?_ | refine blk_alloc ?_ _)); exact BK247.out)) : gb247 ≠ gb248)); have n6_ := Aside0.mk ((by rw [hg]; exact Nat.ne_of_gt (blk_lt (g := gb247) (o := .cells #[.int .i64 a0_0, .int .i64 a0_1, .slice A0_2 l0_2.length c0_2] 24 (0, 0)) (by (with_reducible repeat (first | refine blk_drewN ?_ _ | refine blk_drew ?_ | refine blk_alloc ?_ _)); exact BK247.out)) : gb248 ≠ gb247)); clear BK247; clear HB; have BK247 := n0_; have HB := n1_; have BK248 := n2_; have GW248 := n3_; have GE248 := n4_; have NB247_248 := n5_; have NB248_247 := n6_; clear n0_ n1_ n2_ n3_ n4_ n5_ n6_; clear hb hbox hg; have hnb12 := NB247_248.out; have hnc12 := NB248_247.out; have hcz13_0 : w11.cell? ⟨gb247, 0, none⟩ = some (.int .i64 a0_0) := (blk_cell BK247.out 0).trans rfl; have hcz13_1 : w11.cell? ⟨gb247, 1, none⟩ = some (.int .i64 a0_1) := (blk_cell BK247.out 1).trans rfl; have hcz13_2 : w11.cell? ⟨gb247, 2, none⟩ = some (.slice A0_2 l0_2.length c0_2) := (blk_cell BK247.out 2).trans rfl; have hfz13_0 := blk_frozen BK247.out 0; have hfz13_1 := blk_frozen BK247.out 1; have hfz13_2 := blk_frozen BK247.out 2) | ((with_reducible refine gate_callee (f := 15) rfl ?_); refine goesL_ (some 22) rfl rfl Try.func15 (by kernel_rfl) rfl #[.agg #[.int .i64 a0_0, .int .i64 a0_1, .slice A0_2 l0_2.length c0_2], .int .i64 1048576] rfl (by (try simp only [List.map_toArray, List.map_cons, List.map_nil]); first | done | rfl | (simp only [List.length_drop, List.length_take]; rfl)) ?_; (with_reducible refine (laws_szPlane.calls a0_0 a0_1 _ _ l0_2 1048576 t249 _ ?side1 ?side2 A8.out).mono ?_); (case side1 => repeat (first | exact (Kd.C_below HR0_2.out HB.out) | (with_reducible refine Kd.C_alloc ?_ _) | (with_reducible refine Kd.C_drewN ?_ _) | (with_reducible refine Kd.C_drew ?_))); (case side2 => exact HC0_2.out); rintro e w14 ⟨rfl, hb⟩; refine ⟨_, rfl, ?_⟩; have n0_ := Aside0.mk (blk_below (g := gb247) (o := .cells #[.int .i64 a0_0, .int .i64 a0_1, .slice A0_2 l0_2.length c0_2] 24 (0, 0)) (by (with_reducible repeat (first | refine blk_drewN ?_ _ | refine blk_drew ?_ | refine blk_alloc ?_ _)); exact BK247.out) hb); have n1_ := Aside0.mk (blk_below (g := gb248) (o := .cells #[.int .i64 a1_0, .int .i64 a1_1, .slice A1_2 l1_2.length c1_2] 24 (0, 0)) (by (with_reducible repeat (first | refine blk_drewN ?_ _ | refine blk_drew ?_ | refine blk_alloc ?_ _)); exact BK248.out) hb); have n2_ := Aside0.mk (below_step (by repeat (first | (with_reducible first | exact HB.out | apply below_alloc | apply pw_below_drewN | apply below_drew1 | refine below_set ?_ GE247.out | refine below_set ?_ GE248.out) | exact HB.out)) hb); clear BK247; clear BK248; clear HB; have BK247 := n0_; have BK248 := n1_; have HB := n2_; clear n0_ n1_ n2_; (try clear hb); (try clear hb2); (try clear hk); (try clear hi)))
    go_ret
    exact ⟨by first | rfl | (simp [errW_none, errW_some] <;> rfl) | (simp [*, errW_none, errW_some] <;> rfl), by repeat (first | (with_reducible first | exact HB.out | apply below_alloc | apply pw_below_drewN | apply below_drew1 | refine below_set ?_ GE247.out | refine below_set ?_ GE248.out) | exact HB.out)⟩
  rw [if_neg c9] at H
  have c9b0 : decide (t249 < 0) = false := decide_eq_false c9
  clear c9
  replace H := Option.bind_eq_some_iff.mp H
  obtain ⟨t250, A150, H⟩ := H
  replace H : (if t250 < 0 then (some true) else ((laws_toPlane.f k a0_0 a0_1 l0_2).bind fun bt251 => ((laws_toPlane.f k a1_0 a1_1 l1_2).bind fun bt256 => ((spec_BestMotion.f k bt251.1 bt251.2.1 bt251.2.2 bt256.1 bt256.2.1 bt256.2.2 a2 a3 a4 a5 a6).bind fun bt261 => ((laws_toPlane.f k a0_0 a0_1 l0_2).bind fun bt265 => ((laws_toPlane.f k a1_0 a1_1 l1_2).bind fun bt271 => ((impl_BestMotion.f k bt265.1 bt265.2.1 bt265.2.2 bt271.1 bt271.2.1 bt271.2.2 a2 a3 a4 a5 a6).bind fun bt277 => ((laws_eqMotion.f bt277.1 bt277.2.1 bt277.2.2 bt261.1 bt261.2.1 bt261.2.2).bind fun t281 => (if t281 = true then ((laws_toPlane.f k a0_0 a0_1 l0_2).bind fun bt282 => ((laws_eqPlane.f k bt265.1 bt265.2.1 bt265.2.2 bt282.1 bt282.2.1 bt282.2.2).bind fun t287 => (if t287 = true then ((laws_toPlane.f k a1_0 a1_1 l1_2).bind fun bt288 => ((laws_eqPlane.f k bt271.1 bt271.2.1 bt271.2.2 bt288.1 bt288.2.1 bt288.2.2).bind fun t293 => (if t293 = true then (some true) else (some false)))) else (some false)))) else (some false)))))))))) = some r := H
  have A15 := Aside0.mk A150
  clear A150
  by_cases c16 : t250 < 0
  · rw [if_pos c16] at H
    have c16b0 : decide (t250 < 0) = true := decide_eq_true c16
    clear c16
    obtain rfl := Option.some.inj H
    go_enter Try.func3, Try.ntmps3
    go_wp2_with (first | ((with_reducible refine gate_dst (N := 7) rfl ?_); refine box_event ?hg (N := 7) ?hd (cs := #[.int .i64 a0_0, .int .i64 a0_1, .slice A0_2 l0_2.length c0_2]) (t := 24) ?hr ?_; (case hd => rfl); (case hg => rfl); (case hr => first | (go_simp; done) | (go_simp; rfl)); intro gb247 hg w17 hbox hb; have n0_ := Aside0.mk (below_step (by repeat (first | (with_reducible first | exact HB.out | apply below_alloc | apply pw_below_drewN | apply below_drew1) | exact HB.out)) hb); have n1_ := Aside0.mk (hbox); have n2_ := Aside0.mk ((by rw [hg]; exact (below_size (by repeat (first | (with_reducible first | exact HB.out | apply below_alloc | apply pw_below_drewN | apply below_drew1) | exact HB.out))) : w.heap.size ≤ gb247)); have n3_ := n2_; clear HB; have HB := n0_; have BK247 := n1_; have GW247 := n2_; have GE247 := n3_; clear n0_ n1_ n2_ n3_; clear hb hbox hg) | ((with_reducible refine gate_dst (N := 8) rfl ?_); refine box_event ?hg (N := 8) ?hd (cs := #[.int .i64 a1_0, .int .i64 a1_1, .slice A1_2 l1_2.length c1_2]) (t := 24) ?hr ?_; (case hd => rfl); (case hg => rfl); (case hr => first | (go_simp; done) | (go_simp; rfl)); intro gb248 hg w18 hbox hb; have n0_ := Aside0.mk (blk_below (g := gb247) (o := .cells #[.int .i64 a0_0, .int .i64 a0_1, .slice A0_2 l0_2.length c0_2] 24 (0, 0)) (by (with_reducible repeat (first | refine blk_drewN ?_ _ | refine blk_drew ?_ | refine blk_alloc ?_ _)); exact BK247.out) hb); have n1_ := Aside0.mk (below_step (by repeat (first | (with_reducible first | exact HB.out | apply below_alloc | apply pw_below_drewN | apply below_drew1 | refine below_set ?_ GE247.out) | exact HB.out)) hb); have n2_ := Aside0.mk (hbox); have n3_ := Aside0.mk ((by rw [hg]; exact (below_size (by repeat (first | (with_reducible first | exact HB.out | apply below_alloc | apply pw_below_drewN | apply below_drew1 | refine below_set ?_ GE247.out) | exact HB.out))) : w.heap.size ≤ gb248)); have n4_ := n3_; have n5_ := Aside0.mk ((by rw [hg]; exact Nat.ne_of_lt (blk_lt (g := gb247) (o := .cells #[.int .i64 a0_0, .int .i64 a0_1, .slice A0_2 l0_2.length c0_2] 24 (0, 0)) (by (with_reducible repeat (first | refine blk_drewN ?_ _ | refine blk_drew ?_ | refine blk_alloc ?_ _)); exact BK247.out)) : gb247 ≠ gb248)); have n6_ := Aside0.mk ((by rw [hg]; exact Nat.ne_of_gt (blk_lt (g := gb247) (o := .cells #[.int .i64 a0_0, .int .i64 a0_1, .slice A0_2 l0_2.length c0_2] 24 (0, 0)) (by (with_reducible repeat (first | refine blk_drewN ?_ _ | refine blk_drew ?_ | refine blk_alloc ?_ _)); exact BK247.out)) : gb248 ≠ gb247)); clear BK247; clear HB; have BK247 := n0_; have HB := n1_; have BK248 := n2_; have GW248 := n3_; have GE248 := n4_; have NB247_248 := n5_; have NB248_247 := n6_; clear n0_ n1_ n2_ n3_ n4_ n5_ n6_; clear hb hbox hg; have hnb19 := NB247_248.out; have hnc19 := NB248_247.out; have hcz20_0 : w18.cell? ⟨gb247, 0, none⟩ = some (.int .i64 a0_0) := (blk_cell BK247.out 0).trans rfl; have hcz20_1 : w18.cell? ⟨gb247, 1, none⟩ = some (.int .i64 a0_1) := (blk_cell BK247.out 1).trans rfl; have hcz20_2 : w18.cell? ⟨gb247, 2, none⟩ = some (.slice A0_2 l0_2.length c0_2) := (blk_cell BK247.out 2).trans rfl; have hfz20_0 := blk_frozen BK247.out 0; have hfz20_1 := blk_frozen BK247.out 1; have hfz20_2 := blk_frozen BK247.out 2) | ((with_reducible refine gate_callee (f := 15) rfl ?_); refine goesL_ (some 22) rfl rfl Try.func15 (by kernel_rfl) rfl #[.agg #[.int .i64 a0_0, .int .i64 a0_1, .slice A0_2 l0_2.length c0_2], .int .i64 1048576] rfl (by (try simp only [List.map_toArray, List.map_cons, List.map_nil]); first | done | rfl | (simp only [List.length_drop, List.length_take]; rfl)) ?_; (with_reducible refine (laws_szPlane.calls a0_0 a0_1 _ _ l0_2 1048576 t249 _ ?side1 ?side2 A8.out).mono ?_); (case side1 => repeat (first | exact (Kd.C_below HR0_2.out HB.out) | (with_reducible refine Kd.C_alloc ?_ _) | (with_reducible refine Kd.C_drewN ?_ _) | (with_reducible refine Kd.C_drew ?_))); (case side2 => exact HC0_2.out); rintro e w21 ⟨rfl, hb⟩; refine ⟨_, rfl, ?_⟩; have n0_ := Aside0.mk (blk_below (g := gb247) (o := .cells #[.int .i64 a0_0, .int .i64 a0_1, .slice A0_2 l0_2.length c0_2] 24 (0, 0)) (by (with_reducible repeat (first | refine blk_drewN ?_ _ | refine blk_drew ?_ | refine blk_alloc ?_ _)); exact BK247.out) hb); have n1_ := Aside0.mk (blk_below (g := gb248) (o := .cells #[.int .i64 a1_0, .int .i64 a1_1, .slice A1_2 l1_2.length c1_2] 24 (0, 0)) (by (with_reducible repeat (first | refine blk_drewN ?_ _ | refine blk_drew ?_ | refine blk_alloc ?_ _)); exact BK248.out) hb); have n2_ := Aside0.mk (below_step (by repeat (first | (with_reducible first | exact HB.out | apply below_alloc | apply pw_below_drewN | apply below_drew1 | refine below_set ?_ GE247.out | refine below_set ?_ GE248.out) | exact HB.out)) hb); clear BK247; clear BK248; clear HB; have BK247 := n0_; have BK248 := n1_; have HB := n2_; clear n0_ n1_ n2_; (try clear hb); (try clear hb2); (try clear hk); (try clear hi); have hcz22_0 : w21.cell? ⟨gb248, 0, none⟩ = some (.int .i64 a1_0) := (blk_cell BK248.out 0).trans rfl; have hcz22_1 : w21.cell? ⟨gb248, 1, none⟩ = some (.int .i64 a1_1) := (blk_cell BK248.out 1).trans rfl; have hcz22_2 : w21.cell? ⟨gb248, 2, none⟩ = some (.slice A1_2 l1_2.length c1_2) := (blk_cell BK248.out 2).trans rfl; have hfz22_0 := blk_frozen BK248.out 0; have hfz22_1 := blk_frozen BK248.out 1; have hfz22_2 := blk_frozen BK248.out 2) | ((with_reducible refine gate_callee (f := 15) rfl ?_); refine goesL_ (some 27) rfl rfl Try.func15 (by kernel_rfl) rfl #[.agg #[.int .i64 a1_0, .int .i64 a1_1, .slice A1_2 l1_2.length c1_2], .int .i64 t249] rfl (by (try simp only [List.map_toArray, List.map_cons, List.map_nil]); first | done | rfl | (simp only [List.length_drop, List.length_take]; rfl)) ?_; (with_reducible refine (laws_szPlane.calls a1_0 a1_1 _ _ l1_2 t249 t250 _ ?side1 ?side2 A15.out).mono ?_); (case side1 => repeat (first | exact (Kd.C_below HR1_2.out HB.out) | (with_reducible refine Kd.C_alloc ?_ _) | (with_reducible refine Kd.C_drewN ?_ _) | (with_reducible refine Kd.C_drew ?_))); (case side2 => exact HC1_2.out); rintro e w23 ⟨rfl, hb⟩; refine ⟨_, rfl, ?_⟩; have n0_ := Aside0.mk (blk_below (g := gb247) (o := .cells #[.int .i64 a0_0, .int .i64 a0_1, .slice A0_2 l0_2.length c0_2] 24 (0, 0)) (by (with_reducible repeat (first | refine blk_drewN ?_ _ | refine blk_drew ?_ | refine blk_alloc ?_ _)); exact BK247.out) hb); have n1_ := Aside0.mk (blk_below (g := gb248) (o := .cells #[.int .i64 a1_0, .int .i64 a1_1, .slice A1_2 l1_2.length c1_2] 24 (0, 0)) (by (with_reducible repeat (first | refine blk_drewN ?_ _ | refine blk_drew ?_ | refine blk_alloc ?_ _)); exact BK248.out) hb); have n2_ := Aside0.mk (below_step (by repeat (first | (with_reducible first | exact HB.out | apply below_alloc | apply pw_below_drewN | apply below_drew1 | refine below_set ?_ GE247.out | refine below_set ?_ GE248.out) | exact HB.out)) hb); clear BK247; clear BK248; clear HB; have BK247 := n0_; have BK248 := n1_; have HB := n2_; clear n0_ n1_ n2_; (try clear hb); (try clear hb2); (try clear hk); (try clear hi)))
    go_ret
    exact ⟨by first | rfl | (simp [errW_none, errW_some] <;> rfl) | (simp [*, errW_none, errW_some] <;> rfl), by repeat (first | (with_reducible first | exact HB.out | apply below_alloc | apply pw_below_drewN | apply below_drew1 | refine below_set ?_ GE247.out | refine below_set ?_ GE248.out) | exact HB.out)⟩
  rw [if_neg c16] at H
  have c16b0 : decide (t250 < 0) = false := decide_eq_false c16
  clear c16
  replace H := Option.bind_eq_some_iff.mp H
  obtain ⟨⟨t251, t252, t253⟩, A240, H⟩ := H
  replace H : ((laws_toPlane.f k a1_0 a1_1 l1_2).bind fun bt256 => ((spec_BestMotion.f k t251 t252 t253 bt256.1 bt256.2.1 bt256.2.2 a2 a3 a4 a5 a6).bind fun bt261 => ((laws_toPlane.f k a0_0 a0_1 l0_2).bind fun bt265 => ((laws_toPlane.f k a1_0 a1_1 l1_2).bind fun bt271 => ((impl_BestMotion.f k bt265.1 bt265.2.1 bt265.2.2 bt271.1 bt271.2.1 bt271.2.2 a2 a3 a4 a5 a6).bind fun bt277 => ((laws_eqMotion.f bt277.1 bt277.2.1 bt277.2.2 bt261.1 bt261.2.1 bt261.2.2).bind fun t281 => (if t281 = true then ((laws_toPlane.f k a0_0 a0_1 l0_2).bind fun bt282 => ((laws_eqPlane.f k bt265.1 bt265.2.1 bt265.2.2 bt282.1 bt282.2.1 bt282.2.2).bind fun t287 => (if t287 = true then ((laws_toPlane.f k a1_0 a1_1 l1_2).bind fun bt288 => ((laws_eqPlane.f k bt271.1 bt271.2.1 bt271.2.2 bt288.1 bt288.2.1 bt288.2.2).bind fun t293 => (if t293 = true then (some true) else (some false)))) else (some false)))) else (some false)))))))) = some r := H
  have A24 := Aside0.mk A240
  clear A240
  replace H := Option.bind_eq_some_iff.mp H
  obtain ⟨⟨t256, t257, t258⟩, A250, H⟩ := H
  replace H : ((spec_BestMotion.f k t251 t252 t253 t256 t257 t258 a2 a3 a4 a5 a6).bind fun bt261 => ((laws_toPlane.f k a0_0 a0_1 l0_2).bind fun bt265 => ((laws_toPlane.f k a1_0 a1_1 l1_2).bind fun bt271 => ((impl_BestMotion.f k bt265.1 bt265.2.1 bt265.2.2 bt271.1 bt271.2.1 bt271.2.2 a2 a3 a4 a5 a6).bind fun bt277 => ((laws_eqMotion.f bt277.1 bt277.2.1 bt277.2.2 bt261.1 bt261.2.1 bt261.2.2).bind fun t281 => (if t281 = true then ((laws_toPlane.f k a0_0 a0_1 l0_2).bind fun bt282 => ((laws_eqPlane.f k bt265.1 bt265.2.1 bt265.2.2 bt282.1 bt282.2.1 bt282.2.2).bind fun t287 => (if t287 = true then ((laws_toPlane.f k a1_0 a1_1 l1_2).bind fun bt288 => ((laws_eqPlane.f k bt271.1 bt271.2.1 bt271.2.2 bt288.1 bt288.2.1 bt288.2.2).bind fun t293 => (if t293 = true then (some true) else (some false)))) else (some false)))) else (some false))))))) = some r := H
  have A25 := Aside0.mk A250
  clear A250
  replace H := Option.bind_eq_some_iff.mp H
  obtain ⟨⟨t261, t262, t263⟩, A260, H⟩ := H
  replace H : ((laws_toPlane.f k a0_0 a0_1 l0_2).bind fun bt265 => ((laws_toPlane.f k a1_0 a1_1 l1_2).bind fun bt271 => ((impl_BestMotion.f k bt265.1 bt265.2.1 bt265.2.2 bt271.1 bt271.2.1 bt271.2.2 a2 a3 a4 a5 a6).bind fun bt277 => ((laws_eqMotion.f bt277.1 bt277.2.1 bt277.2.2 t261 t262 t263).bind fun t281 => (if t281 = true then ((laws_toPlane.f k a0_0 a0_1 l0_2).bind fun bt282 => ((laws_eqPlane.f k bt265.1 bt265.2.1 bt265.2.2 bt282.1 bt282.2.1 bt282.2.2).bind fun t287 => (if t287 = true then ((laws_toPlane.f k a1_0 a1_1 l1_2).bind fun bt288 => ((laws_eqPlane.f k bt271.1 bt271.2.1 bt271.2.2 bt288.1 bt288.2.1 bt288.2.2).bind fun t293 => (if t293 = true then (some true) else (some false)))) else (some false)))) else (some false)))))) = some r := H
  have A26 := Aside0.mk A260
  clear A260
  replace H := Option.bind_eq_some_iff.mp H
  obtain ⟨⟨t265, t266, t267⟩, A270, H⟩ := H
  replace H : ((laws_toPlane.f k a1_0 a1_1 l1_2).bind fun bt271 => ((impl_BestMotion.f k t265 t266 t267 bt271.1 bt271.2.1 bt271.2.2 a2 a3 a4 a5 a6).bind fun bt277 => ((laws_eqMotion.f bt277.1 bt277.2.1 bt277.2.2 t261 t262 t263).bind fun t281 => (if t281 = true then ((laws_toPlane.f k a0_0 a0_1 l0_2).bind fun bt282 => ((laws_eqPlane.f k t265 t266 t267 bt282.1 bt282.2.1 bt282.2.2).bind fun t287 => (if t287 = true then ((laws_toPlane.f k a1_0 a1_1 l1_2).bind fun bt288 => ((laws_eqPlane.f k bt271.1 bt271.2.1 bt271.2.2 bt288.1 bt288.2.1 bt288.2.2).bind fun t293 => (if t293 = true then (some true) else (some false)))) else (some false)))) else (some false))))) = some r := H
  have A27 := Aside0.mk A270
  clear A270
  replace H := Option.bind_eq_some_iff.mp H
  obtain ⟨⟨t271, t272, t273⟩, A280, H⟩ := H
  replace H : ((impl_BestMotion.f k t265 t266 t267 t271 t272 t273 a2 a3 a4 a5 a6).bind fun bt277 => ((laws_eqMotion.f bt277.1 bt277.2.1 bt277.2.2 t261 t262 t263).bind fun t281 => (if t281 = true then ((laws_toPlane.f k a0_0 a0_1 l0_2).bind fun bt282 => ((laws_eqPlane.f k t265 t266 t267 bt282.1 bt282.2.1 bt282.2.2).bind fun t287 => (if t287 = true then ((laws_toPlane.f k a1_0 a1_1 l1_2).bind fun bt288 => ((laws_eqPlane.f k t271 t272 t273 bt288.1 bt288.2.1 bt288.2.2).bind fun t293 => (if t293 = true then (some true) else (some false)))) else (some false)))) else (some false)))) = some r := H
  have A28 := Aside0.mk A280
  clear A280
  replace H := Option.bind_eq_some_iff.mp H
  obtain ⟨⟨t277, t278, t279⟩, A290, H⟩ := H
  replace H : ((laws_eqMotion.f t277 t278 t279 t261 t262 t263).bind fun t281 => (if t281 = true then ((laws_toPlane.f k a0_0 a0_1 l0_2).bind fun bt282 => ((laws_eqPlane.f k t265 t266 t267 bt282.1 bt282.2.1 bt282.2.2).bind fun t287 => (if t287 = true then ((laws_toPlane.f k a1_0 a1_1 l1_2).bind fun bt288 => ((laws_eqPlane.f k t271 t272 t273 bt288.1 bt288.2.1 bt288.2.2).bind fun t293 => (if t293 = true then (some true) else (some false)))) else (some false)))) else (some false))) = some r := H
  have A29 := Aside0.mk A290
  clear A290
  replace H := Option.bind_eq_some_iff.mp H
  obtain ⟨t281, A300, H⟩ := H
  replace H : (if t281 = true then ((laws_toPlane.f k a0_0 a0_1 l0_2).bind fun bt282 => ((laws_eqPlane.f k t265 t266 t267 bt282.1 bt282.2.1 bt282.2.2).bind fun t287 => (if t287 = true then ((laws_toPlane.f k a1_0 a1_1 l1_2).bind fun bt288 => ((laws_eqPlane.f k t271 t272 t273 bt288.1 bt288.2.1 bt288.2.2).bind fun t293 => (if t293 = true then (some true) else (some false)))) else (some false)))) else (some false)) = some r := H
  have A30 := Aside0.mk A300
  clear A300
  by_cases c31 : t281 = true
  rotate_left
  · replace c31 := Bool.eq_false_iff.mpr c31
    subst c31
    have H1 : (some false) = some r := by rw [if_neg (show ¬ (false = true) by decide)] at H; exact H
    exact absurd (H1.trans (congrArg some hr_)) (by decide)
  subst c31
  have H1 : ((laws_toPlane.f k a0_0 a0_1 l0_2).bind fun bt282 => ((laws_eqPlane.f k t265 t266 t267 bt282.1 bt282.2.1 bt282.2.2).bind fun t287 => (if t287 = true then ((laws_toPlane.f k a1_0 a1_1 l1_2).bind fun bt288 => ((laws_eqPlane.f k t271 t272 t273 bt288.1 bt288.2.1 bt288.2.2).bind fun t293 => (if t293 = true then (some true) else (some false)))) else (some false)))) = some r := by rw [if_pos rfl] at H; exact H
  clear H
  have H := H1
  clear H1
  replace H := Option.bind_eq_some_iff.mp H
  obtain ⟨⟨t282, t283, t284⟩, A320, H⟩ := H
  replace H : ((laws_eqPlane.f k t265 t266 t267 t282 t283 t284).bind fun t287 => (if t287 = true then ((laws_toPlane.f k a1_0 a1_1 l1_2).bind fun bt288 => ((laws_eqPlane.f k t271 t272 t273 bt288.1 bt288.2.1 bt288.2.2).bind fun t293 => (if t293 = true then (some true) else (some false)))) else (some false))) = some r := H
  have A32 := Aside0.mk A320
  clear A320
  replace H := Option.bind_eq_some_iff.mp H
  obtain ⟨t287, A330, H⟩ := H
  replace H : (if t287 = true then ((laws_toPlane.f k a1_0 a1_1 l1_2).bind fun bt288 => ((laws_eqPlane.f k t271 t272 t273 bt288.1 bt288.2.1 bt288.2.2).bind fun t293 => (if t293 = true then (some true) else (some false)))) else (some false)) = some r := H
  have A33 := Aside0.mk A330
  clear A330
  by_cases c34 : t287 = true
  subst c34
  have H1 : ((laws_toPlane.f k a1_0 a1_1 l1_2).bind fun bt288 => ((laws_eqPlane.f k t271 t272 t273 bt288.1 bt288.2.1 bt288.2.2).bind fun t293 => (if t293 = true then (some true) else (some false)))) = some r := by rw [if_pos rfl] at H; exact H
  clear H
  have H := H1
  clear H1
  replace H := Option.bind_eq_some_iff.mp H
  obtain ⟨⟨t288, t289, t290⟩, A350, H⟩ := H
  replace H : ((laws_eqPlane.f k t271 t272 t273 t288 t289 t290).bind fun t293 => (if t293 = true then (some true) else (some false))) = some r := H
  have A35 := Aside0.mk A350
  clear A350
  replace H := Option.bind_eq_some_iff.mp H
  obtain ⟨t293, A360, H⟩ := H
  replace H : (if t293 = true then (some true) else (some false)) = some r := H
  have A36 := Aside0.mk A360
  clear A360
  by_cases c37 : t293 = true
  subst c37
  have H1 : (some true) = some r := by rw [if_pos rfl] at H; exact H
  clear H
  have H := H1
  clear H1
  obtain rfl := Option.some.inj H
  rotate_left
  replace c37 := Bool.eq_false_iff.mpr c37
  subst c37
  have H1 : (some false) = some r := by rw [if_neg (show ¬ (false = true) by decide)] at H; exact H
  exact absurd (H1.trans (congrArg some hr_)) (by decide)
  replace c34 := Bool.eq_false_iff.mpr c34
  subst c34
  have H1 : (some false) = some r := by rw [if_neg (show ¬ (false = true) by decide)] at H; exact H
  exact absurd (H1.trans (congrArg some hr_)) (by decide)
  all_goals
    go_enter Try.func3, Try.ntmps3
    try go_wp2_with (first | ((with_reducible refine gate_dst (N := 7) rfl ?_); refine box_event ?hg (N := 7) ?hd (cs := #[.int .i64 a0_0, .int .i64 a0_1, .slice A0_2 l0_2.length c0_2]) (t := 24) ?hr ?_; (case hd => rfl); (case hg => rfl); (case hr => first | (go_simp; done) | (go_simp; rfl)); intro gb247 hg w38 hbox hb; have n0_ := Aside0.mk (below_step (by repeat (first | (with_reducible first | exact HB.out | apply below_alloc | apply pw_below_drewN | apply below_drew1) | exact HB.out)) hb); have n1_ := Aside0.mk (hbox); have n2_ := Aside0.mk ((by rw [hg]; exact (below_size (by repeat (first | (with_reducible first | exact HB.out | apply below_alloc | apply pw_below_drewN | apply below_drew1) | exact HB.out))) : w.heap.size ≤ gb247)); have n3_ := n2_; clear HB; have HB := n0_; have BK247 := n1_; have GW247 := n2_; have GE247 := n3_; clear n0_ n1_ n2_ n3_; clear hb hbox hg) | ((with_reducible refine gate_dst (N := 8) rfl ?_); refine box_event ?hg (N := 8) ?hd (cs := #[.int .i64 a1_0, .int .i64 a1_1, .slice A1_2 l1_2.length c1_2]) (t := 24) ?hr ?_; (case hd => rfl); (case hg => rfl); (case hr => first | (go_simp; done) | (go_simp; rfl)); intro gb248 hg w39 hbox hb; have n0_ := Aside0.mk (blk_below (g := gb247) (o := .cells #[.int .i64 a0_0, .int .i64 a0_1, .slice A0_2 l0_2.length c0_2] 24 (0, 0)) (by (with_reducible repeat (first | refine blk_drewN ?_ _ | refine blk_drew ?_ | refine blk_alloc ?_ _)); exact BK247.out) hb); have n1_ := Aside0.mk (below_step (by repeat (first | (with_reducible first | exact HB.out | apply below_alloc | apply pw_below_drewN | apply below_drew1 | refine below_set ?_ GE247.out) | exact HB.out)) hb); have n2_ := Aside0.mk (hbox); have n3_ := Aside0.mk ((by rw [hg]; exact (below_size (by repeat (first | (with_reducible first | exact HB.out | apply below_alloc | apply pw_below_drewN | apply below_drew1 | refine below_set ?_ GE247.out) | exact HB.out))) : w.heap.size ≤ gb248)); have n4_ := n3_; have n5_ := Aside0.mk ((by rw [hg]; exact Nat.ne_of_lt (blk_lt (g := gb247) (o := .cells #[.int .i64 a0_0, .int .i64 a0_1, .slice A0_2 l0_2.length c0_2] 24 (0, 0)) (by (with_reducible repeat (first | refine blk_drewN ?_ _ | refine blk_drew ?_ | refine blk_alloc ?_ _)); exact BK247.out)) : gb247 ≠ gb248)); have n6_ := Aside0.mk ((by rw [hg]; exact Nat.ne_of_gt (blk_lt (g := gb247) (o := .cells #[.int .i64 a0_0, .int .i64 a0_1, .slice A0_2 l0_2.length c0_2] 24 (0, 0)) (by (with_reducible repeat (first | refine blk_drewN ?_ _ | refine blk_drew ?_ | refine blk_alloc ?_ _)); exact BK247.out)) : gb248 ≠ gb247)); clear BK247; clear HB; have BK247 := n0_; have HB := n1_; have BK248 := n2_; have GW248 := n3_; have GE248 := n4_; have NB247_248 := n5_; have NB248_247 := n6_; clear n0_ n1_ n2_ n3_ n4_ n5_ n6_; clear hb hbox hg; have hnb40 := NB247_248.out; have hnc40 := NB248_247.out; have hcz41_0 : w39.cell? ⟨gb247, 0, none⟩ = some (.int .i64 a0_0) := (blk_cell BK247.out 0).trans rfl; have hcz41_1 : w39.cell? ⟨gb247, 1, none⟩ = some (.int .i64 a0_1) := (blk_cell BK247.out 1).trans rfl; have hcz41_2 : w39.cell? ⟨gb247, 2, none⟩ = some (.slice A0_2 l0_2.length c0_2) := (blk_cell BK247.out 2).trans rfl; have hfz41_0 := blk_frozen BK247.out 0; have hfz41_1 := blk_frozen BK247.out 1; have hfz41_2 := blk_frozen BK247.out 2) | ((with_reducible refine gate_callee (f := 15) rfl ?_); refine goesL_ (some 22) rfl rfl Try.func15 (by kernel_rfl) rfl #[.agg #[.int .i64 a0_0, .int .i64 a0_1, .slice A0_2 l0_2.length c0_2], .int .i64 1048576] rfl (by (try simp only [List.map_toArray, List.map_cons, List.map_nil]); first | done | rfl | (simp only [List.length_drop, List.length_take]; rfl)) ?_; (with_reducible refine (laws_szPlane.calls a0_0 a0_1 _ _ l0_2 1048576 t249 _ ?side1 ?side2 A8.out).mono ?_); (case side1 => repeat (first | exact (Kd.C_below HR0_2.out HB.out) | (with_reducible refine Kd.C_alloc ?_ _) | (with_reducible refine Kd.C_drewN ?_ _) | (with_reducible refine Kd.C_drew ?_))); (case side2 => exact HC0_2.out); rintro e w42 ⟨rfl, hb⟩; refine ⟨_, rfl, ?_⟩; have n0_ := Aside0.mk (blk_below (g := gb247) (o := .cells #[.int .i64 a0_0, .int .i64 a0_1, .slice A0_2 l0_2.length c0_2] 24 (0, 0)) (by (with_reducible repeat (first | refine blk_drewN ?_ _ | refine blk_drew ?_ | refine blk_alloc ?_ _)); exact BK247.out) hb); have n1_ := Aside0.mk (blk_below (g := gb248) (o := .cells #[.int .i64 a1_0, .int .i64 a1_1, .slice A1_2 l1_2.length c1_2] 24 (0, 0)) (by (with_reducible repeat (first | refine blk_drewN ?_ _ | refine blk_drew ?_ | refine blk_alloc ?_ _)); exact BK248.out) hb); have n2_ := Aside0.mk (below_step (by repeat (first | (with_reducible first | exact HB.out | apply below_alloc | apply pw_below_drewN | apply below_drew1 | refine below_set ?_ GE247.out | refine below_set ?_ GE248.out) | exact HB.out)) hb); clear BK247; clear BK248; clear HB; have BK247 := n0_; have BK248 := n1_; have HB := n2_; clear n0_ n1_ n2_; (try clear hb); (try clear hb2); (try clear hk); (try clear hi); have hcz43_0 : w42.cell? ⟨gb248, 0, none⟩ = some (.int .i64 a1_0) := (blk_cell BK248.out 0).trans rfl; have hcz43_1 : w42.cell? ⟨gb248, 1, none⟩ = some (.int .i64 a1_1) := (blk_cell BK248.out 1).trans rfl; have hcz43_2 : w42.cell? ⟨gb248, 2, none⟩ = some (.slice A1_2 l1_2.length c1_2) := (blk_cell BK248.out 2).trans rfl; have hfz43_0 := blk_frozen BK248.out 0; have hfz43_1 := blk_frozen BK248.out 1; have hfz43_2 := blk_frozen BK248.out 2) | ((with_reducible refine gate_callee (f := 15) rfl ?_); refine goesL_ (some 27) rfl rfl Try.func15 (by kernel_rfl) rfl #[.agg #[.int .i64 a1_0, .int .i64 a1_1, .slice A1_2 l1_2.length c1_2], .int .i64 t249] rfl (by (try simp only [List.map_toArray, List.map_cons, List.map_nil]); first | done | rfl | (simp only [List.length_drop, List.length_take]; rfl)) ?_; (with_reducible refine (laws_szPlane.calls a1_0 a1_1 _ _ l1_2 t249 t250 _ ?side1 ?side2 A15.out).mono ?_); (case side1 => repeat (first | exact (Kd.C_below HR1_2.out HB.out) | (with_reducible refine Kd.C_alloc ?_ _) | (with_reducible refine Kd.C_drewN ?_ _) | (with_reducible refine Kd.C_drew ?_))); (case side2 => exact HC1_2.out); rintro e w44 ⟨rfl, hb⟩; refine ⟨_, rfl, ?_⟩; have n0_ := Aside0.mk (blk_below (g := gb247) (o := .cells #[.int .i64 a0_0, .int .i64 a0_1, .slice A0_2 l0_2.length c0_2] 24 (0, 0)) (by (with_reducible repeat (first | refine blk_drewN ?_ _ | refine blk_drew ?_ | refine blk_alloc ?_ _)); exact BK247.out) hb); have n1_ := Aside0.mk (blk_below (g := gb248) (o := .cells #[.int .i64 a1_0, .int .i64 a1_1, .slice A1_2 l1_2.length c1_2] 24 (0, 0)) (by (with_reducible repeat (first | refine blk_drewN ?_ _ | refine blk_drew ?_ | refine blk_alloc ?_ _)); exact BK248.out) hb); have n2_ := Aside0.mk (below_step (by repeat (first | (with_reducible first | exact HB.out | apply below_alloc | apply pw_below_drewN | apply below_drew1 | refine below_set ?_ GE247.out | refine below_set ?_ GE248.out) | exact HB.out)) hb); clear BK247; clear BK248; clear HB; have BK247 := n0_; have BK248 := n1_; have HB := n2_; clear n0_ n1_ n2_; (try clear hb); (try clear hb2); (try clear hk); (try clear hi)))
    have n0_ := Aside0.mk (blk_drew BK247.out)
    have n1_ := Aside0.mk (blk_drew BK248.out)
    have n2_ := Aside0.mk (below_drew1 HB.out)
    clear BK247
    clear BK248
    clear HB
    have BK247 := n0_
    have BK248 := n1_
    have HB := n2_
    clear n0_ n1_ n2_
    refine start_ (n := 12) (S := fun w' => w'.cell? ⟨gb247, 0, none⟩ = some (.int .i64 a0_0) ∧ w'.cell? ⟨gb247, 1, none⟩ = some (.int .i64 a0_1) ∧ w'.cell? ⟨gb247, 2, none⟩ = some (.slice A0_2 l0_2.length c0_2) ∧ w'.cell? ⟨gb248, 0, none⟩ = some (.int .i64 a1_0) ∧ w'.cell? ⟨gb248, 1, none⟩ = some (.int .i64 a1_1) ∧ w'.cell? ⟨gb248, 2, none⟩ = some (.slice A1_2 l1_2.length c1_2)) (ds := []) #[false, false, false, false, false, false, false, false, false, false, false, false] (by kernel_rfl) rfl rfl ⟨(blk_cell BK247.out 0).trans rfl, (blk_cell BK247.out 1).trans rfl, (blk_cell BK247.out 2).trans rfl, (blk_cell BK248.out 0).trans rfl, (blk_cell BK248.out 1).trans rfl, (blk_cell BK248.out 2).trans rfl⟩ (fun hHeld => ?_); refine with_tabW laws_FnExactBestMotion.tab8 laws_FnExactBestMotion.bits8 (fun HT_ HW_ => ?_)
    generalize w44.drew = w45 at BK247 BK248 HB hHeld ⊢
    refine pure_ (i := 4) (N := some 34) (v := ?_) (a' := ?_) #[false, false, false, false, true, false, false, false, false, false, false, false] rfl rfl (any_of HT_.out (by kernel_rfl)) (fun _ _ _ h => h) (Or.inl ⟨by rfl, ?_⟩) ?_ ?_
    rotate_left
    · intro w'
      go_simp
      with_reducible rfl
    rotate_left
    · simp only [Act.put, List.setIfInBounds_toArray, List.set_cons_zero, List.set_cons_succ, i64_w, i32_w]
      rfl
    refine pure_ (i := 5) (N := some 35) (v := ?_) (a' := ?_) #[false, false, false, false, true, true, false, false, false, false, false, false] rfl rfl (any_of HT_.out (by kernel_rfl)) (fun _ _ _ h => h) (Or.inl ⟨by rfl, ?_⟩) ?_ ?_
    rotate_left
    · intro w'
      go_simp
      with_reducible rfl
    rotate_left
    · simp only [Act.put, List.setIfInBounds_toArray, List.set_cons_zero, List.set_cons_succ, i64_w, i32_w]
      rfl
    refine pure_ (i := 6) (N := some 36) (v := ?_) (a' := ?_) #[false, false, false, false, true, true, true, false, false, false, false, false] rfl rfl (any_of HT_.out (by kernel_rfl)) (fun _ _ _ h => h) (Or.inl ⟨by rfl, ?_⟩) ?_ ?_
    rotate_left
    · intro w'
      go_simp
      with_reducible rfl
    rotate_left
    · simp only [Act.put, List.setIfInBounds_toArray, List.set_cons_zero, List.set_cons_succ, i64_w, i32_w]
      rfl
    refine pure_ (i := 7) (N := some 37) (v := ?_) (a' := ?_) #[false, false, false, false, true, true, true, true, false, false, false, false] rfl rfl (any_of HT_.out (by kernel_rfl)) (fun _ _ _ h => h) (Or.inl ⟨by rfl, ?_⟩) ?_ ?_
    rotate_left
    · intro w'
      go_simp
      with_reducible rfl
    rotate_left
    · simp only [Act.put, List.setIfInBounds_toArray, List.set_cons_zero, List.set_cons_succ, i64_w, i32_w]
      rfl
    refine pure_ (i := 8) (N := some 38) (v := ?_) (a' := ?_) #[false, false, false, false, true, true, true, true, true, false, false, false] rfl rfl (any_of HT_.out (by kernel_rfl)) (fun _ _ _ h => h) (Or.inl ⟨by rfl, ?_⟩) ?_ ?_
    rotate_left
    · intro w'
      go_simp
      with_reducible rfl
    rotate_left
    · simp only [Act.put, List.setIfInBounds_toArray, List.set_cons_zero, List.set_cons_succ, i64_w, i32_w]
      rfl
    refine take_ (i := 0) (N := some 30) (v := ?_) (a' := ?_) #[true, false, false, false, true, true, true, true, true, false, false, false] rfl rfl (take_ofW HT_.out HW_.out (by kernel_rfl)) (fun _ _ _ h => h) (Or.inl ⟨by rfl, ?_⟩) hHeld ?_ ?_
    rotate_left
    · rintro w' ⟨s0, s1, s2, s3, s4, s5⟩
      go_simp
      with_reducible rfl
    rotate_left
    · simp only [Act.put, List.setIfInBounds_toArray, List.set_cons_zero, List.set_cons_succ, i64_w, i32_w]
      rfl
    refine take_ (i := 2) (N := some 32) (v := ?_) (a' := ?_) #[true, false, true, false, true, true, true, true, true, false, false, false] rfl rfl (take_ofW HT_.out HW_.out (by kernel_rfl)) (fun _ _ _ h => h) (Or.inl ⟨by rfl, ?_⟩) hHeld ?_ ?_
    rotate_left
    · rintro w' ⟨s0, s1, s2, s3, s4, s5⟩
      go_simp
      with_reducible rfl
    rotate_left
    · simp only [Act.put, List.setIfInBounds_toArray, List.set_cons_zero, List.set_cons_succ, i64_w, i32_w]
      rfl
    refine join_ (σ := Value × Value × Nat) 1 #[true, true, true, true, true, true, true, true, true, true, true, false] (fun s_ => [(31, .agg #[.int .i64 t251, .int .i64 t252, s_.1]), (33, .agg #[.int .i64 t256, .int .i64 t257, s_.2.1]), (39, .agg #[.int .i64 t261, .int .i64 t262, .int .i64 t263]), (16, .pointer (some ⟨s_.2.2, 0, none⟩))]) (fun s_ w' => (w'.cell? ⟨gb247, 0, none⟩ = some (.int .i64 a0_0) ∧ w'.cell? ⟨gb247, 1, none⟩ = some (.int .i64 a0_1) ∧ w'.cell? ⟨gb247, 2, none⟩ = some (.slice A0_2 l0_2.length c0_2) ∧ w'.cell? ⟨gb248, 0, none⟩ = some (.int .i64 a1_0) ∧ w'.cell? ⟨gb248, 1, none⟩ = some (.int .i64 a1_1) ∧ w'.cell? ⟨gb248, 2, none⟩ = some (.slice A1_2 l1_2.length c1_2)) ∧ (Kd.R (Kd.int .i64) 3 w' w.heap.size (fun k_ => some k_ ≠ (s_.2.1 : Value).ownBlock) s_.1 t253) ∧ (Kd.R (Kd.int .i64) 3 w' w.heap.size (fun k_ => some k_ ≠ (s_.1 : Value).ownBlock) s_.2.1 t258) ∧ (w'.heap[gb247]? = some (.cells #[.int .i64 a0_0, .int .i64 a0_1, .slice A0_2 l0_2.length c0_2] 24 (0, 0))) ∧ (w'.heap[gb248]? = some (.cells #[.int .i64 a1_0, .int .i64 a1_1, .slice A1_2 l1_2.length c1_2] 24 (0, 0))) ∧ (w'.heap[s_.2.2]? = some (.cells #[.int .i64 0, .int .i64 0, .int .i64 0] 27 (0, 0))) ∧ (w.heap.size ≤ s_.2.2) ∧ (w.heap.size ≤ s_.2.2) ∧ (gb247 ≠ s_.2.2) ∧ (s_.2.2 ≠ gb247) ∧ (gb248 ≠ s_.2.2) ∧ (s_.2.2 ≠ gb248) ∧ (Below w.heap.size w w')) ?_ ?_
    rotate_left
    · intro hCont
      refine two_ (i := 1) (j := 10) (Ni := some 31) (Nj := some 16) #[true, true, true, false, true, true, true, true, true, false, false, false] #[true, false, true, false, true, true, true, true, true, false, true, false] rfl rfl rfl rfl (two_of HT_.out (by kernel_rfl)) (by decide) (by decide) (fun K hK => ?_) (fun K hK => ?_)
      · skip
        refine goes_ Try.func17 (by kernel_rfl) rfl #[.agg #[.int .i64 a0_0, .int .i64 a0_1, .slice A0_2 l0_2.length c0_2]] (by rfl) rfl rfl (by (try simp only [List.map_toArray, List.map_cons, List.map_nil]); first | done | rfl | (simp only [List.length_drop, List.length_take]; rfl)) ?_
        with_reducible refine (laws_toPlane.calls k a0_0 a0_1 _ _ l0_2 t251 t252 t253 _ ?side1 ?side2 A24.out).mono ?_
        (case side1 => repeat (first | exact (Kd.C_below HR0_2.out HB.out) | (with_reducible refine Kd.C_alloc ?_ _) | (with_reducible refine Kd.C_drewN ?_ _) | (with_reducible refine Kd.C_drew ?_)))
        (case side2 => exact HC0_2.out)
        rintro e w46 ⟨v254, rfl, ho0, hb⟩
        refine ⟨_, rfl, ?_⟩
        have n0_ := Aside0.mk (Kd.R_lower ho0 (below_size (by repeat (first | (with_reducible first | exact HB.out | apply below_alloc | apply pw_below_drewN | apply below_drew1 | refine below_set ?_ GE247.out | refine below_set ?_ GE248.out) | exact HB.out))))
        have n1_ := Aside0.mk (blk_below (g := gb247) (o := .cells #[.int .i64 a0_0, .int .i64 a0_1, .slice A0_2 l0_2.length c0_2] 24 (0, 0)) (by (with_reducible repeat (first | refine blk_drewN ?_ _ | refine blk_drew ?_ | refine blk_alloc ?_ _)); exact BK247.out) hb)
        have n2_ := Aside0.mk (blk_below (g := gb248) (o := .cells #[.int .i64 a1_0, .int .i64 a1_1, .slice A1_2 l1_2.length c1_2] 24 (0, 0)) (by (with_reducible repeat (first | refine blk_drewN ?_ _ | refine blk_drew ?_ | refine blk_alloc ?_ _)); exact BK248.out) hb)
        have n3_ := Aside0.mk (below_step (by repeat (first | (with_reducible first | exact HB.out | apply below_alloc | apply pw_below_drewN | apply below_drew1 | refine below_set ?_ GE247.out | refine below_set ?_ GE248.out) | exact HB.out)) hb)
        clear BK247
        clear BK248
        clear HB
        have HO255 := n0_
        have BK247 := n1_
        have BK248 := n2_
        have HB := n3_
        clear n0_ n1_ n2_ n3_
        (try clear hb)
        (try clear hb2)
        (try clear hk)
        (try clear hi)
        (try clear ho0)
        refine hK.out _ _ ⟨(blk_cell BK247.out 0).trans rfl, (blk_cell BK247.out 1).trans rfl, (blk_cell BK247.out 2).trans rfl, (blk_cell BK248.out 0).trans rfl, (blk_cell BK248.out 1).trans rfl, (blk_cell BK248.out 2).trans rfl⟩ (fun hHeld => ?_)
        clear hK K
        refine norm_ (a' := ?_) ?_ ?_
        rotate_left
        · show Act.put _ (some 31) _ = _
          simp only [Act.put, List.setIfInBounds_toArray, List.set_cons_zero, List.set_cons_succ, i64_w, i32_w]
          rfl
        refine two_ (i := 3) (j := 10) (Ni := some 33) (Nj := some 16) #[true, true, true, true, true, true, true, true, true, false, false, false] #[true, true, true, false, true, true, true, true, true, false, true, false] rfl rfl rfl rfl (two_of HT_.out (by kernel_rfl)) (by decide) (by decide) (fun K hK => ?_) (fun K hK => ?_)
        · skip
          refine goes_ Try.func17 (by kernel_rfl) rfl #[.agg #[.int .i64 a1_0, .int .i64 a1_1, .slice A1_2 l1_2.length c1_2]] (by rfl) rfl rfl (by (try simp only [List.map_toArray, List.map_cons, List.map_nil]); first | done | rfl | (simp only [List.length_drop, List.length_take]; rfl)) ?_
          with_reducible refine (laws_toPlane.calls k a1_0 a1_1 _ _ l1_2 t256 t257 t258 _ ?side1 ?side2 A25.out).mono ?_
          (case side1 => repeat (first | exact (Kd.C_below HR1_2.out HB.out) | (with_reducible refine Kd.C_alloc ?_ _) | (with_reducible refine Kd.C_drewN ?_ _) | (with_reducible refine Kd.C_drew ?_)))
          (case side2 => exact HC1_2.out)
          rintro e w47 ⟨v259, rfl, ho0, hb⟩
          refine ⟨_, rfl, ?_⟩
          have n0_ := Aside0.mk (Kd.R_elder' (by (with_reducible repeat (first | apply Kd.R_alloc | apply Kd.R_drewN | apply Kd.R_drew)); exact HO255.out) (Kd.R_base ho0) hb)
          have n1_ := Aside0.mk (Kd.R_lower (Kd.R_new' ho0 (Kd.R_lt (by (with_reducible repeat (first | apply Kd.R_alloc | apply Kd.R_drewN | apply Kd.R_drew)); exact HO255.out))) (below_size (by repeat (first | (with_reducible first | exact HB.out | apply below_alloc | apply pw_below_drewN | apply below_drew1 | refine below_set ?_ GE247.out | refine below_set ?_ GE248.out) | exact HB.out))))
          have n2_ := Aside0.mk (blk_below (g := gb247) (o := .cells #[.int .i64 a0_0, .int .i64 a0_1, .slice A0_2 l0_2.length c0_2] 24 (0, 0)) (by (with_reducible repeat (first | refine blk_drewN ?_ _ | refine blk_drew ?_ | refine blk_alloc ?_ _)); exact BK247.out) hb)
          have n3_ := Aside0.mk (blk_below (g := gb248) (o := .cells #[.int .i64 a1_0, .int .i64 a1_1, .slice A1_2 l1_2.length c1_2] 24 (0, 0)) (by (with_reducible repeat (first | refine blk_drewN ?_ _ | refine blk_drew ?_ | refine blk_alloc ?_ _)); exact BK248.out) hb)
          have n4_ := Aside0.mk (below_step (by repeat (first | (with_reducible first | exact HB.out | apply below_alloc | apply pw_below_drewN | apply below_drew1 | refine below_set ?_ GE247.out | refine below_set ?_ GE248.out) | exact HB.out)) hb)
          clear HO255
          clear BK247
          clear BK248
          clear HB
          have HO255 := n0_
          have HO260 := n1_
          have BK247 := n2_
          have BK248 := n3_
          have HB := n4_
          clear n0_ n1_ n2_ n3_ n4_
          (try clear hb)
          (try clear hb2)
          (try clear hk)
          (try clear hi)
          (try clear ho0)
          obtain ⟨Ao48, co48, eo48⟩ := Kd.R_slice HO255.out
          (first | subst eo48 | (injection eo48 with f1_ f2_ f3_; have f4_ := f1_.symm; have f5_ := f3_.symm; clear f1_ f2_ f3_; subst f4_; subst f5_))
          obtain ⟨Ao49, co49, eo49⟩ := Kd.R_slice HO260.out
          (first | subst eo49 | (injection eo49 with f1_ f2_ f3_; have f4_ := f1_.symm; have f5_ := f3_.symm; clear f1_ f2_ f3_; subst f4_; subst f5_))
          refine hK.out _ _ ⟨(blk_cell BK247.out 0).trans rfl, (blk_cell BK247.out 1).trans rfl, (blk_cell BK247.out 2).trans rfl, (blk_cell BK248.out 0).trans rfl, (blk_cell BK248.out 1).trans rfl, (blk_cell BK248.out 2).trans rfl⟩ (fun hHeld => ?_)
          clear hK K
          refine norm_ (a' := ?_) ?_ ?_
          rotate_left
          · show Act.put _ (some 33) _ = _
            simp only [Act.put, List.setIfInBounds_toArray, List.set_cons_zero, List.set_cons_succ, i64_w, i32_w]
            rfl
          refine two_ (i := 9) (j := 10) (Ni := some 39) (Nj := some 16) #[true, true, true, true, true, true, true, true, true, true, false, false] #[true, true, true, true, true, true, true, true, true, false, true, false] rfl rfl rfl rfl (two_of HT_.out (by kernel_rfl)) (by decide) (by decide) (fun K hK => ?_) (fun K hK => ?_)
          · skip
            refine goes_ Try.func16 (by kernel_rfl) rfl #[.agg #[.int .i64 t251, .int .i64 t252, .slice Ao48 t253.length co48], .agg #[.int .i64 t256, .int .i64 t257, .slice Ao49 t258.length co49], .int .i64 a2, .int .i64 a3, .int .i64 a4, .int .i64 a5, .int .i64 a6] (by rfl) rfl rfl (by (try simp only [List.map_toArray, List.map_cons, List.map_nil]); first | done | rfl | (simp only [List.length_drop, List.length_take]; rfl)) ?_
            with_reducible refine (spec_BestMotion.calls k t251 t252 _ _ t253 t256 t257 _ _ t258 a2 a3 a4 a5 a6 t261 t262 t263 _ ?side1 ?side2 ?side3 ?side4 A26.out).mono ?_
            (case side1 => repeat (first | exact (Kd.R_reads' HO255.out).2.2 | (with_reducible refine Kd.C_alloc ?_ _) | (with_reducible refine Kd.C_drewN ?_ _) | (with_reducible refine Kd.C_drew ?_)))
            (case side2 => exact (Kd.R_reads' HO255.out).2.1)
            (case side3 => repeat (first | exact (Kd.R_reads' HO260.out).2.2 | (with_reducible refine Kd.C_alloc ?_ _) | (with_reducible refine Kd.C_drewN ?_ _) | (with_reducible refine Kd.C_drew ?_)))
            (case side4 => exact (Kd.R_reads' HO260.out).2.1)
            rintro e w50 ⟨rfl, hb⟩
            refine ⟨_, rfl, ?_⟩
            have n0_ := Aside0.mk (Kd.R_below (by (with_reducible repeat (first | apply Kd.R_alloc | apply Kd.R_drewN | apply Kd.R_drew)); exact HO255.out) hb)
            have n1_ := Aside0.mk (Kd.R_below (by (with_reducible repeat (first | apply Kd.R_alloc | apply Kd.R_drewN | apply Kd.R_drew)); exact HO260.out) hb)
            have n2_ := Aside0.mk (blk_below (g := gb247) (o := .cells #[.int .i64 a0_0, .int .i64 a0_1, .slice A0_2 l0_2.length c0_2] 24 (0, 0)) (by (with_reducible repeat (first | refine blk_drewN ?_ _ | refine blk_drew ?_ | refine blk_alloc ?_ _)); exact BK247.out) hb)
            have n3_ := Aside0.mk (blk_below (g := gb248) (o := .cells #[.int .i64 a1_0, .int .i64 a1_1, .slice A1_2 l1_2.length c1_2] 24 (0, 0)) (by (with_reducible repeat (first | refine blk_drewN ?_ _ | refine blk_drew ?_ | refine blk_alloc ?_ _)); exact BK248.out) hb)
            have n4_ := Aside0.mk (below_step (by repeat (first | (with_reducible first | exact HB.out | apply below_alloc | apply pw_below_drewN | apply below_drew1 | refine below_set ?_ GE247.out | refine below_set ?_ GE248.out) | exact HB.out)) hb)
            clear HO255
            clear HO260
            clear BK247
            clear BK248
            clear HB
            have HO255 := n0_
            have HO260 := n1_
            have BK247 := n2_
            have BK248 := n3_
            have HB := n4_
            clear n0_ n1_ n2_ n3_ n4_
            (try clear hb)
            (try clear hb2)
            (try clear hk)
            (try clear hi)
            refine hK.out _ _ ⟨(blk_cell BK247.out 0).trans rfl, (blk_cell BK247.out 1).trans rfl, (blk_cell BK247.out 2).trans rfl, (blk_cell BK248.out 0).trans rfl, (blk_cell BK248.out 1).trans rfl, (blk_cell BK248.out 2).trans rfl⟩ (fun hHeld => ?_)
            clear hK K
            refine norm_ (a' := ?_) ?_ ?_
            rotate_left
            · show Act.put _ (some 39) _ = _
              simp only [Act.put, List.setIfInBounds_toArray, List.set_cons_zero, List.set_cons_succ, i64_w, i32_w]
              rfl
            refine one_ (i := 10) (N := some 16) #[true, true, true, true, true, true, true, true, true, true, true, false] rfl rfl (one_of HT_.out (by kernel_rfl)) (by decide) (fun K hK => ?_)
            refine box_step ?hg (N := 16) ?hd (cs := #[.int .i64 0, .int .i64 0, .int .i64 0]) (t := 27) ?hr ?_; (case hd => rfl); (case hg => rfl); (case hr => first | (go_simp; done) | (go_simp; rfl))
            intro gb264 hg w51 hbox hb
            have n0_ := Aside0.mk (Kd.R_below (by (with_reducible repeat (first | apply Kd.R_alloc | apply Kd.R_drewN | apply Kd.R_drew)); exact HO255.out) hb)
            have n1_ := Aside0.mk (Kd.R_below (by (with_reducible repeat (first | apply Kd.R_alloc | apply Kd.R_drewN | apply Kd.R_drew)); exact HO260.out) hb)
            have n2_ := Aside0.mk (blk_below (g := gb247) (o := .cells #[.int .i64 a0_0, .int .i64 a0_1, .slice A0_2 l0_2.length c0_2] 24 (0, 0)) (by (with_reducible repeat (first | refine blk_drewN ?_ _ | refine blk_drew ?_ | refine blk_alloc ?_ _)); exact BK247.out) hb)
            have n3_ := Aside0.mk (blk_below (g := gb248) (o := .cells #[.int .i64 a1_0, .int .i64 a1_1, .slice A1_2 l1_2.length c1_2] 24 (0, 0)) (by (with_reducible repeat (first | refine blk_drewN ?_ _ | refine blk_drew ?_ | refine blk_alloc ?_ _)); exact BK248.out) hb)
            have n4_ := Aside0.mk (below_step (by repeat (first | (with_reducible first | exact HB.out | apply below_alloc | apply pw_below_drewN | apply below_drew1 | refine below_set ?_ GE247.out | refine below_set ?_ GE248.out) | exact HB.out)) hb)
            have n5_ := Aside0.mk (hbox)
            have n6_ := Aside0.mk ((by rw [hg]; exact (below_size (by repeat (first | (with_reducible first | exact HB.out | apply below_alloc | apply pw_below_drewN | apply below_drew1 | refine below_set ?_ GE247.out | refine below_set ?_ GE248.out) | exact HB.out))) : w.heap.size ≤ gb264))
            have n7_ := Aside0.mk ((by rw [hg]; exact (below_size (by repeat (first | (with_reducible first | exact HB.out | apply below_alloc | apply pw_below_drewN | apply below_drew1 | refine below_set ?_ GE247.out | refine below_set ?_ GE248.out) | exact HB.out))) : w.heap.size ≤ gb264))
            have n8_ := Aside0.mk ((by rw [hg]; exact Nat.ne_of_lt (blk_lt (g := gb247) (o := .cells #[.int .i64 a0_0, .int .i64 a0_1, .slice A0_2 l0_2.length c0_2] 24 (0, 0)) (by (with_reducible repeat (first | refine blk_drewN ?_ _ | refine blk_drew ?_ | refine blk_alloc ?_ _)); exact BK247.out)) : gb247 ≠ gb264))
            have n9_ := Aside0.mk ((by rw [hg]; exact Nat.ne_of_gt (blk_lt (g := gb247) (o := .cells #[.int .i64 a0_0, .int .i64 a0_1, .slice A0_2 l0_2.length c0_2] 24 (0, 0)) (by (with_reducible repeat (first | refine blk_drewN ?_ _ | refine blk_drew ?_ | refine blk_alloc ?_ _)); exact BK247.out)) : gb264 ≠ gb247))
            have n10_ := Aside0.mk ((by rw [hg]; exact Nat.ne_of_lt (blk_lt (g := gb248) (o := .cells #[.int .i64 a1_0, .int .i64 a1_1, .slice A1_2 l1_2.length c1_2] 24 (0, 0)) (by (with_reducible repeat (first | refine blk_drewN ?_ _ | refine blk_drew ?_ | refine blk_alloc ?_ _)); exact BK248.out)) : gb248 ≠ gb264))
            have n11_ := Aside0.mk ((by rw [hg]; exact Nat.ne_of_gt (blk_lt (g := gb248) (o := .cells #[.int .i64 a1_0, .int .i64 a1_1, .slice A1_2 l1_2.length c1_2] 24 (0, 0)) (by (with_reducible repeat (first | refine blk_drewN ?_ _ | refine blk_drew ?_ | refine blk_alloc ?_ _)); exact BK248.out)) : gb264 ≠ gb248))
            clear HO255
            clear HO260
            clear BK247
            clear BK248
            clear HB
            have HO255 := n0_
            have HO260 := n1_
            have BK247 := n2_
            have BK248 := n3_
            have HB := n4_
            have BK264 := n5_
            have GW264 := n6_
            have GE264 := n7_
            have NB247_264 := n8_
            have NB264_247 := n9_
            have NB248_264 := n10_
            have NB264_248 := n11_
            clear n0_ n1_ n2_ n3_ n4_ n5_ n6_ n7_ n8_ n9_ n10_ n11_
            clear hb hbox hg
            refine hK.out _ _ ⟨(blk_cell BK247.out 0).trans rfl, (blk_cell BK247.out 1).trans rfl, (blk_cell BK247.out 2).trans rfl, (blk_cell BK248.out 0).trans rfl, (blk_cell BK248.out 1).trans rfl, (blk_cell BK248.out 2).trans rfl⟩ (fun hHeld => ?_)
            clear hK K
            refine norm_ (a' := ?_) ?_ ?_
            rotate_left
            · show Act.put _ (some 16) _ = _
              simp only [Act.put, List.setIfInBounds_toArray, List.set_cons_zero, List.set_cons_succ, i64_w, i32_w]
              rfl
            exact norm_ (by simp only [putAll, Act.put, List.setIfInBounds_toArray, List.set_cons_zero, List.set_cons_succ]) (hCont (.slice Ao48 t253.length co48, .slice Ao49 t258.length co49, gb264) _ ⟨hHeld, (by (with_reducible repeat (first | apply Kd.R_alloc | apply Kd.R_drewN | apply Kd.R_drew)); exact Kd.R_mono HO255.out (fun _ hk => hk.2)), (by (with_reducible repeat (first | apply Kd.R_alloc | apply Kd.R_drewN | apply Kd.R_drew)); exact Kd.R_mono HO260.out (fun _ hk => hk.2)), (by (with_reducible repeat (first | refine blk_drewN ?_ _ | refine blk_drew ?_ | refine blk_alloc ?_ _)); exact BK247.out), (by (with_reducible repeat (first | refine blk_drewN ?_ _ | refine blk_drew ?_ | refine blk_alloc ?_ _)); exact BK248.out), (by (with_reducible repeat (first | refine blk_drewN ?_ _ | refine blk_drew ?_ | refine blk_alloc ?_ _)); exact BK264.out), GW264.out, GE264.out, NB247_264.out, NB264_247.out, NB248_264.out, NB264_248.out, (by repeat (first | (with_reducible first | exact HB.out | apply below_alloc | apply pw_below_drewN | apply below_drew1 | refine below_set ?_ GE247.out | refine below_set ?_ GE248.out | refine below_set ?_ GE264.out) | exact HB.out))⟩)
          · skip
            refine box_step ?hg (N := 16) ?hd (cs := #[.int .i64 0, .int .i64 0, .int .i64 0]) (t := 27) ?hr ?_; (case hd => rfl); (case hg => rfl); (case hr => first | (go_simp; done) | (go_simp; rfl))
            intro gb264 hg w48 hbox hb
            have n0_ := Aside0.mk (Kd.R_below (by (with_reducible repeat (first | apply Kd.R_alloc | apply Kd.R_drewN | apply Kd.R_drew)); exact HO255.out) hb)
            have n1_ := Aside0.mk (Kd.R_below (by (with_reducible repeat (first | apply Kd.R_alloc | apply Kd.R_drewN | apply Kd.R_drew)); exact HO260.out) hb)
            have n2_ := Aside0.mk (blk_below (g := gb247) (o := .cells #[.int .i64 a0_0, .int .i64 a0_1, .slice A0_2 l0_2.length c0_2] 24 (0, 0)) (by (with_reducible repeat (first | refine blk_drewN ?_ _ | refine blk_drew ?_ | refine blk_alloc ?_ _)); exact BK247.out) hb)
            have n3_ := Aside0.mk (blk_below (g := gb248) (o := .cells #[.int .i64 a1_0, .int .i64 a1_1, .slice A1_2 l1_2.length c1_2] 24 (0, 0)) (by (with_reducible repeat (first | refine blk_drewN ?_ _ | refine blk_drew ?_ | refine blk_alloc ?_ _)); exact BK248.out) hb)
            have n4_ := Aside0.mk (below_step (by repeat (first | (with_reducible first | exact HB.out | apply below_alloc | apply pw_below_drewN | apply below_drew1 | refine below_set ?_ GE247.out | refine below_set ?_ GE248.out) | exact HB.out)) hb)
            have n5_ := Aside0.mk (hbox)
            have n6_ := Aside0.mk ((by rw [hg]; exact (below_size (by repeat (first | (with_reducible first | exact HB.out | apply below_alloc | apply pw_below_drewN | apply below_drew1 | refine below_set ?_ GE247.out | refine below_set ?_ GE248.out) | exact HB.out))) : w.heap.size ≤ gb264))
            have n7_ := Aside0.mk ((by rw [hg]; exact (below_size (by repeat (first | (with_reducible first | exact HB.out | apply below_alloc | apply pw_below_drewN | apply below_drew1 | refine below_set ?_ GE247.out | refine below_set ?_ GE248.out) | exact HB.out))) : w.heap.size ≤ gb264))
            have n8_ := Aside0.mk ((by rw [hg]; exact Nat.ne_of_lt (blk_lt (g := gb247) (o := .cells #[.int .i64 a0_0, .int .i64 a0_1, .slice A0_2 l0_2.length c0_2] 24 (0, 0)) (by (with_reducible repeat (first | refine blk_drewN ?_ _ | refine blk_drew ?_ | refine blk_alloc ?_ _)); exact BK247.out)) : gb247 ≠ gb264))
            have n9_ := Aside0.mk ((by rw [hg]; exact Nat.ne_of_gt (blk_lt (g := gb247) (o := .cells #[.int .i64 a0_0, .int .i64 a0_1, .slice A0_2 l0_2.length c0_2] 24 (0, 0)) (by (with_reducible repeat (first | refine blk_drewN ?_ _ | refine blk_drew ?_ | refine blk_alloc ?_ _)); exact BK247.out)) : gb264 ≠ gb247))
            have n10_ := Aside0.mk ((by rw [hg]; exact Nat.ne_of_lt (blk_lt (g := gb248) (o := .cells #[.int .i64 a1_0, .int .i64 a1_1, .slice A1_2 l1_2.length c1_2] 24 (0, 0)) (by (with_reducible repeat (first | refine blk_drewN ?_ _ | refine blk_drew ?_ | refine blk_alloc ?_ _)); exact BK248.out)) : gb248 ≠ gb264))
            have n11_ := Aside0.mk ((by rw [hg]; exact Nat.ne_of_gt (blk_lt (g := gb248) (o := .cells #[.int .i64 a1_0, .int .i64 a1_1, .slice A1_2 l1_2.length c1_2] 24 (0, 0)) (by (with_reducible repeat (first | refine blk_drewN ?_ _ | refine blk_drew ?_ | refine blk_alloc ?_ _)); exact BK248.out)) : gb264 ≠ gb248))
            clear HO255
            clear HO260
            clear BK247
            clear BK248
            clear HB
            have HO255 := n0_
            have HO260 := n1_
            have BK247 := n2_
            have BK248 := n3_
            have HB := n4_
            have BK264 := n5_
            have GW264 := n6_
            have GE264 := n7_
            have NB247_264 := n8_
            have NB264_247 := n9_
            have NB248_264 := n10_
            have NB264_248 := n11_
            clear n0_ n1_ n2_ n3_ n4_ n5_ n6_ n7_ n8_ n9_ n10_ n11_
            clear hb hbox hg
            obtain ⟨Ao49, co49, eo49⟩ := Kd.R_slice HO255.out
            (first | subst eo49 | (injection eo49 with f1_ f2_ f3_; have f4_ := f1_.symm; have f5_ := f3_.symm; clear f1_ f2_ f3_; subst f4_; subst f5_))
            obtain ⟨Ao50, co50, eo50⟩ := Kd.R_slice HO260.out
            (first | subst eo50 | (injection eo50 with f1_ f2_ f3_; have f4_ := f1_.symm; have f5_ := f3_.symm; clear f1_ f2_ f3_; subst f4_; subst f5_))
            refine hK.out _ _ ⟨(blk_cell BK247.out 0).trans rfl, (blk_cell BK247.out 1).trans rfl, (blk_cell BK247.out 2).trans rfl, (blk_cell BK248.out 0).trans rfl, (blk_cell BK248.out 1).trans rfl, (blk_cell BK248.out 2).trans rfl⟩ (fun hHeld => ?_)
            clear hK K
            refine norm_ (a' := ?_) ?_ ?_
            rotate_left
            · show Act.put _ (some 16) _ = _
              simp only [Act.put, List.setIfInBounds_toArray, List.set_cons_zero, List.set_cons_succ, i64_w, i32_w]
              rfl
            refine one_ (i := 9) (N := some 39) #[true, true, true, true, true, true, true, true, true, true, true, false] rfl rfl (one_of HT_.out (by kernel_rfl)) (by decide) (fun K hK => ?_)
            refine goes_ Try.func16 (by kernel_rfl) rfl #[.agg #[.int .i64 t251, .int .i64 t252, .slice Ao49 t253.length co49], .agg #[.int .i64 t256, .int .i64 t257, .slice Ao50 t258.length co50], .int .i64 a2, .int .i64 a3, .int .i64 a4, .int .i64 a5, .int .i64 a6] (by rfl) rfl rfl (by (try simp only [List.map_toArray, List.map_cons, List.map_nil]); first | done | rfl | (simp only [List.length_drop, List.length_take]; rfl)) ?_
            with_reducible refine (spec_BestMotion.calls k t251 t252 _ _ t253 t256 t257 _ _ t258 a2 a3 a4 a5 a6 t261 t262 t263 _ ?side1 ?side2 ?side3 ?side4 A26.out).mono ?_
            (case side1 => repeat (first | exact (Kd.R_reads' HO255.out).2.2 | (with_reducible refine Kd.C_alloc ?_ _) | (with_reducible refine Kd.C_drewN ?_ _) | (with_reducible refine Kd.C_drew ?_)))
            (case side2 => exact (Kd.R_reads' HO255.out).2.1)
            (case side3 => repeat (first | exact (Kd.R_reads' HO260.out).2.2 | (with_reducible refine Kd.C_alloc ?_ _) | (with_reducible refine Kd.C_drewN ?_ _) | (with_reducible refine Kd.C_drew ?_)))
            (case side4 => exact (Kd.R_reads' HO260.out).2.1)
            rintro e w51 ⟨rfl, hb⟩
            refine ⟨_, rfl, ?_⟩
            have n0_ := Aside0.mk (Kd.R_below (by (with_reducible repeat (first | apply Kd.R_alloc | apply Kd.R_drewN | apply Kd.R_drew)); exact HO255.out) hb)
            have n1_ := Aside0.mk (Kd.R_below (by (with_reducible repeat (first | apply Kd.R_alloc | apply Kd.R_drewN | apply Kd.R_drew)); exact HO260.out) hb)
            have n2_ := Aside0.mk (blk_below (g := gb247) (o := .cells #[.int .i64 a0_0, .int .i64 a0_1, .slice A0_2 l0_2.length c0_2] 24 (0, 0)) (by (with_reducible repeat (first | refine blk_drewN ?_ _ | refine blk_drew ?_ | refine blk_alloc ?_ _)); exact BK247.out) hb)
            have n3_ := Aside0.mk (blk_below (g := gb248) (o := .cells #[.int .i64 a1_0, .int .i64 a1_1, .slice A1_2 l1_2.length c1_2] 24 (0, 0)) (by (with_reducible repeat (first | refine blk_drewN ?_ _ | refine blk_drew ?_ | refine blk_alloc ?_ _)); exact BK248.out) hb)
            have n4_ := Aside0.mk (blk_below (g := gb264) (o := .cells #[.int .i64 0, .int .i64 0, .int .i64 0] 27 (0, 0)) (by (with_reducible repeat (first | refine blk_drewN ?_ _ | refine blk_drew ?_ | refine blk_alloc ?_ _)); exact BK264.out) hb)
            have n5_ := Aside0.mk (below_step (by repeat (first | (with_reducible first | exact HB.out | apply below_alloc | apply pw_below_drewN | apply below_drew1 | refine below_set ?_ GE247.out | refine below_set ?_ GE248.out | refine below_set ?_ GE264.out) | exact HB.out)) hb)
            clear HO255
            clear HO260
            clear BK247
            clear BK248
            clear BK264
            clear HB
            have HO255 := n0_
            have HO260 := n1_
            have BK247 := n2_
            have BK248 := n3_
            have BK264 := n4_
            have HB := n5_
            clear n0_ n1_ n2_ n3_ n4_ n5_
            (try clear hb)
            (try clear hb2)
            (try clear hk)
            (try clear hi)
            refine hK.out _ _ ⟨(blk_cell BK247.out 0).trans rfl, (blk_cell BK247.out 1).trans rfl, (blk_cell BK247.out 2).trans rfl, (blk_cell BK248.out 0).trans rfl, (blk_cell BK248.out 1).trans rfl, (blk_cell BK248.out 2).trans rfl⟩ (fun hHeld => ?_)
            clear hK K
            refine norm_ (a' := ?_) ?_ ?_
            rotate_left
            · show Act.put _ (some 39) _ = _
              simp only [Act.put, List.setIfInBounds_toArray, List.set_cons_zero, List.set_cons_succ, i64_w, i32_w]
              rfl
            exact norm_ (by simp only [putAll, Act.put, List.setIfInBounds_toArray, List.set_cons_zero, List.set_cons_succ]) (hCont (.slice Ao49 t253.length co49, .slice Ao50 t258.length co50, gb264) _ ⟨hHeld, (by (with_reducible repeat (first | apply Kd.R_alloc | apply Kd.R_drewN | apply Kd.R_drew)); exact Kd.R_mono HO255.out (fun _ hk => hk.2)), (by (with_reducible repeat (first | apply Kd.R_alloc | apply Kd.R_drewN | apply Kd.R_drew)); exact Kd.R_mono HO260.out (fun _ hk => hk.2)), (by (with_reducible repeat (first | refine blk_drewN ?_ _ | refine blk_drew ?_ | refine blk_alloc ?_ _)); exact BK247.out), (by (with_reducible repeat (first | refine blk_drewN ?_ _ | refine blk_drew ?_ | refine blk_alloc ?_ _)); exact BK248.out), (by (with_reducible repeat (first | refine blk_drewN ?_ _ | refine blk_drew ?_ | refine blk_alloc ?_ _)); exact BK264.out), GW264.out, GE264.out, NB247_264.out, NB264_247.out, NB248_264.out, NB264_248.out, (by repeat (first | (with_reducible first | exact HB.out | apply below_alloc | apply pw_below_drewN | apply below_drew1 | refine below_set ?_ GE247.out | refine below_set ?_ GE248.out | refine below_set ?_ GE264.out) | exact HB.out))⟩)
        · skip
          refine box_step ?hg (N := 16) ?hd (cs := #[.int .i64 0, .int .i64 0, .int .i64 0]) (t := 27) ?hr ?_; (case hd => rfl); (case hg => rfl); (case hr => first | (go_simp; done) | (go_simp; rfl))
          intro gb264 hg w47 hbox hb
          have n0_ := Aside0.mk (Kd.R_below (by (with_reducible repeat (first | apply Kd.R_alloc | apply Kd.R_drewN | apply Kd.R_drew)); exact HO255.out) hb)
          have n1_ := Aside0.mk (blk_below (g := gb247) (o := .cells #[.int .i64 a0_0, .int .i64 a0_1, .slice A0_2 l0_2.length c0_2] 24 (0, 0)) (by (with_reducible repeat (first | refine blk_drewN ?_ _ | refine blk_drew ?_ | refine blk_alloc ?_ _)); exact BK247.out) hb)
          have n2_ := Aside0.mk (blk_below (g := gb248) (o := .cells #[.int .i64 a1_0, .int .i64 a1_1, .slice A1_2 l1_2.length c1_2] 24 (0, 0)) (by (with_reducible repeat (first | refine blk_drewN ?_ _ | refine blk_drew ?_ | refine blk_alloc ?_ _)); exact BK248.out) hb)
          have n3_ := Aside0.mk (below_step (by repeat (first | (with_reducible first | exact HB.out | apply below_alloc | apply pw_below_drewN | apply below_drew1 | refine below_set ?_ GE247.out | refine below_set ?_ GE248.out) | exact HB.out)) hb)
          have n4_ := Aside0.mk (hbox)
          have n5_ := Aside0.mk ((by rw [hg]; exact (below_size (by repeat (first | (with_reducible first | exact HB.out | apply below_alloc | apply pw_below_drewN | apply below_drew1 | refine below_set ?_ GE247.out | refine below_set ?_ GE248.out) | exact HB.out))) : w.heap.size ≤ gb264))
          have n6_ := Aside0.mk ((by rw [hg]; exact (below_size (by repeat (first | (with_reducible first | exact HB.out | apply below_alloc | apply pw_below_drewN | apply below_drew1 | refine below_set ?_ GE247.out | refine below_set ?_ GE248.out) | exact HB.out))) : w.heap.size ≤ gb264))
          have n7_ := Aside0.mk ((by rw [hg]; exact Nat.ne_of_lt (blk_lt (g := gb247) (o := .cells #[.int .i64 a0_0, .int .i64 a0_1, .slice A0_2 l0_2.length c0_2] 24 (0, 0)) (by (with_reducible repeat (first | refine blk_drewN ?_ _ | refine blk_drew ?_ | refine blk_alloc ?_ _)); exact BK247.out)) : gb247 ≠ gb264))
          have n8_ := Aside0.mk ((by rw [hg]; exact Nat.ne_of_gt (blk_lt (g := gb247) (o := .cells #[.int .i64 a0_0, .int .i64 a0_1, .slice A0_2 l0_2.length c0_2] 24 (0, 0)) (by (with_reducible repeat (first | refine blk_drewN ?_ _ | refine blk_drew ?_ | refine blk_alloc ?_ _)); exact BK247.out)) : gb264 ≠ gb247))
          have n9_ := Aside0.mk ((by rw [hg]; exact Nat.ne_of_lt (blk_lt (g := gb248) (o := .cells #[.int .i64 a1_0, .int .i64 a1_1, .slice A1_2 l1_2.length c1_2] 24 (0, 0)) (by (with_reducible repeat (first | refine blk_drewN ?_ _ | refine blk_drew ?_ | refine blk_alloc ?_ _)); exact BK248.out)) : gb248 ≠ gb264))
          have n10_ := Aside0.mk ((by rw [hg]; exact Nat.ne_of_gt (blk_lt (g := gb248) (o := .cells #[.int .i64 a1_0, .int .i64 a1_1, .slice A1_2 l1_2.length c1_2] 24 (0, 0)) (by (with_reducible repeat (first | refine blk_drewN ?_ _ | refine blk_drew ?_ | refine blk_alloc ?_ _)); exact BK248.out)) : gb264 ≠ gb248))
          clear HO255
          clear BK247
          clear BK248
          clear HB
          have HO255 := n0_
          have BK247 := n1_
          have BK248 := n2_
          have HB := n3_
          have BK264 := n4_
          have GW264 := n5_
          have GE264 := n6_
          have NB247_264 := n7_
          have NB264_247 := n8_
          have NB248_264 := n9_
          have NB264_248 := n10_
          clear n0_ n1_ n2_ n3_ n4_ n5_ n6_ n7_ n8_ n9_ n10_
          clear hb hbox hg
          refine hK.out _ _ ⟨(blk_cell BK247.out 0).trans rfl, (blk_cell BK247.out 1).trans rfl, (blk_cell BK247.out 2).trans rfl, (blk_cell BK248.out 0).trans rfl, (blk_cell BK248.out 1).trans rfl, (blk_cell BK248.out 2).trans rfl⟩ (fun hHeld => ?_)
          clear hK K
          refine norm_ (a' := ?_) ?_ ?_
          rotate_left
          · show Act.put _ (some 16) _ = _
            simp only [Act.put, List.setIfInBounds_toArray, List.set_cons_zero, List.set_cons_succ, i64_w, i32_w]
            rfl
          refine one_ (i := 3) (N := some 33) #[true, true, true, true, true, true, true, true, true, false, true, false] rfl rfl (one_of HT_.out (by kernel_rfl)) (by decide) (fun K hK => ?_)
          refine goes_ Try.func17 (by kernel_rfl) rfl #[.agg #[.int .i64 a1_0, .int .i64 a1_1, .slice A1_2 l1_2.length c1_2]] (by rfl) rfl rfl (by (try simp only [List.map_toArray, List.map_cons, List.map_nil]); first | done | rfl | (simp only [List.length_drop, List.length_take]; rfl)) ?_
          with_reducible refine (laws_toPlane.calls k a1_0 a1_1 _ _ l1_2 t256 t257 t258 _ ?side1 ?side2 A25.out).mono ?_
          (case side1 => repeat (first | exact (Kd.C_below HR1_2.out HB.out) | (with_reducible refine Kd.C_alloc ?_ _) | (with_reducible refine Kd.C_drewN ?_ _) | (with_reducible refine Kd.C_drew ?_)))
          (case side2 => exact HC1_2.out)
          rintro e w48 ⟨v259, rfl, ho0, hb⟩
          refine ⟨_, rfl, ?_⟩
          have n0_ := Aside0.mk (Kd.R_elder' (by (with_reducible repeat (first | apply Kd.R_alloc | apply Kd.R_drewN | apply Kd.R_drew)); exact HO255.out) (Kd.R_base ho0) hb)
          have n1_ := Aside0.mk (Kd.R_lower (Kd.R_new' ho0 (Kd.R_lt (by (with_reducible repeat (first | apply Kd.R_alloc | apply Kd.R_drewN | apply Kd.R_drew)); exact HO255.out))) (below_size (by repeat (first | (with_reducible first | exact HB.out | apply below_alloc | apply pw_below_drewN | apply below_drew1 | refine below_set ?_ GE247.out | refine below_set ?_ GE248.out | refine below_set ?_ GE264.out) | exact HB.out))))
          have n2_ := Aside0.mk (blk_below (g := gb247) (o := .cells #[.int .i64 a0_0, .int .i64 a0_1, .slice A0_2 l0_2.length c0_2] 24 (0, 0)) (by (with_reducible repeat (first | refine blk_drewN ?_ _ | refine blk_drew ?_ | refine blk_alloc ?_ _)); exact BK247.out) hb)
          have n3_ := Aside0.mk (blk_below (g := gb248) (o := .cells #[.int .i64 a1_0, .int .i64 a1_1, .slice A1_2 l1_2.length c1_2] 24 (0, 0)) (by (with_reducible repeat (first | refine blk_drewN ?_ _ | refine blk_drew ?_ | refine blk_alloc ?_ _)); exact BK248.out) hb)
          have n4_ := Aside0.mk (blk_below (g := gb264) (o := .cells #[.int .i64 0, .int .i64 0, .int .i64 0] 27 (0, 0)) (by (with_reducible repeat (first | refine blk_drewN ?_ _ | refine blk_drew ?_ | refine blk_alloc ?_ _)); exact BK264.out) hb)
          have n5_ := Aside0.mk (below_step (by repeat (first | (with_reducible first | exact HB.out | apply below_alloc | apply pw_below_drewN | apply below_drew1 | refine below_set ?_ GE247.out | refine below_set ?_ GE248.out | refine below_set ?_ GE264.out) | exact HB.out)) hb)
          clear HO255
          clear BK247
          clear BK248
          clear BK264
          clear HB
          have HO255 := n0_
          have HO260 := n1_
          have BK247 := n2_
          have BK248 := n3_
          have BK264 := n4_
          have HB := n5_
          clear n0_ n1_ n2_ n3_ n4_ n5_
          (try clear hb)
          (try clear hb2)
          (try clear hk)
          (try clear hi)
          (try clear ho0)
          obtain ⟨Ao49, co49, eo49⟩ := Kd.R_slice HO255.out
          (first | subst eo49 | (injection eo49 with f1_ f2_ f3_; have f4_ := f1_.symm; have f5_ := f3_.symm; clear f1_ f2_ f3_; subst f4_; subst f5_))
          obtain ⟨Ao50, co50, eo50⟩ := Kd.R_slice HO260.out
          (first | subst eo50 | (injection eo50 with f1_ f2_ f3_; have f4_ := f1_.symm; have f5_ := f3_.symm; clear f1_ f2_ f3_; subst f4_; subst f5_))
          refine hK.out _ _ ⟨(blk_cell BK247.out 0).trans rfl, (blk_cell BK247.out 1).trans rfl, (blk_cell BK247.out 2).trans rfl, (blk_cell BK248.out 0).trans rfl, (blk_cell BK248.out 1).trans rfl, (blk_cell BK248.out 2).trans rfl⟩ (fun hHeld => ?_)
          clear hK K
          refine norm_ (a' := ?_) ?_ ?_
          rotate_left
          · show Act.put _ (some 33) _ = _
            simp only [Act.put, List.setIfInBounds_toArray, List.set_cons_zero, List.set_cons_succ, i64_w, i32_w]
            rfl
          refine one_ (i := 9) (N := some 39) #[true, true, true, true, true, true, true, true, true, true, true, false] rfl rfl (one_of HT_.out (by kernel_rfl)) (by decide) (fun K hK => ?_)
          refine goes_ Try.func16 (by kernel_rfl) rfl #[.agg #[.int .i64 t251, .int .i64 t252, .slice Ao49 t253.length co49], .agg #[.int .i64 t256, .int .i64 t257, .slice Ao50 t258.length co50], .int .i64 a2, .int .i64 a3, .int .i64 a4, .int .i64 a5, .int .i64 a6] (by rfl) rfl rfl (by (try simp only [List.map_toArray, List.map_cons, List.map_nil]); first | done | rfl | (simp only [List.length_drop, List.length_take]; rfl)) ?_
          with_reducible refine (spec_BestMotion.calls k t251 t252 _ _ t253 t256 t257 _ _ t258 a2 a3 a4 a5 a6 t261 t262 t263 _ ?side1 ?side2 ?side3 ?side4 A26.out).mono ?_
          (case side1 => repeat (first | exact (Kd.R_reads' HO255.out).2.2 | (with_reducible refine Kd.C_alloc ?_ _) | (with_reducible refine Kd.C_drewN ?_ _) | (with_reducible refine Kd.C_drew ?_)))
          (case side2 => exact (Kd.R_reads' HO255.out).2.1)
          (case side3 => repeat (first | exact (Kd.R_reads' HO260.out).2.2 | (with_reducible refine Kd.C_alloc ?_ _) | (with_reducible refine Kd.C_drewN ?_ _) | (with_reducible refine Kd.C_drew ?_)))
          (case side4 => exact (Kd.R_reads' HO260.out).2.1)
          rintro e w51 ⟨rfl, hb⟩
          refine ⟨_, rfl, ?_⟩
          have n0_ := Aside0.mk (Kd.R_below (by (with_reducible repeat (first | apply Kd.R_alloc | apply Kd.R_drewN | apply Kd.R_drew)); exact HO255.out) hb)
          have n1_ := Aside0.mk (Kd.R_below (by (with_reducible repeat (first | apply Kd.R_alloc | apply Kd.R_drewN | apply Kd.R_drew)); exact HO260.out) hb)
          have n2_ := Aside0.mk (blk_below (g := gb247) (o := .cells #[.int .i64 a0_0, .int .i64 a0_1, .slice A0_2 l0_2.length c0_2] 24 (0, 0)) (by (with_reducible repeat (first | refine blk_drewN ?_ _ | refine blk_drew ?_ | refine blk_alloc ?_ _)); exact BK247.out) hb)
          have n3_ := Aside0.mk (blk_below (g := gb248) (o := .cells #[.int .i64 a1_0, .int .i64 a1_1, .slice A1_2 l1_2.length c1_2] 24 (0, 0)) (by (with_reducible repeat (first | refine blk_drewN ?_ _ | refine blk_drew ?_ | refine blk_alloc ?_ _)); exact BK248.out) hb)
          have n4_ := Aside0.mk (blk_below (g := gb264) (o := .cells #[.int .i64 0, .int .i64 0, .int .i64 0] 27 (0, 0)) (by (with_reducible repeat (first | refine blk_drewN ?_ _ | refine blk_drew ?_ | refine blk_alloc ?_ _)); exact BK264.out) hb)
          have n5_ := Aside0.mk (below_step (by repeat (first | (with_reducible first | exact HB.out | apply below_alloc | apply pw_below_drewN | apply below_drew1 | refine below_set ?_ GE247.out | refine below_set ?_ GE248.out | refine below_set ?_ GE264.out) | exact HB.out)) hb)
          clear HO255
          clear HO260
          clear BK247
          clear BK248
          clear BK264
          clear HB
          have HO255 := n0_
          have HO260 := n1_
          have BK247 := n2_
          have BK248 := n3_
          have BK264 := n4_
          have HB := n5_
          clear n0_ n1_ n2_ n3_ n4_ n5_
          (try clear hb)
          (try clear hb2)
          (try clear hk)
          (try clear hi)
          refine hK.out _ _ ⟨(blk_cell BK247.out 0).trans rfl, (blk_cell BK247.out 1).trans rfl, (blk_cell BK247.out 2).trans rfl, (blk_cell BK248.out 0).trans rfl, (blk_cell BK248.out 1).trans rfl, (blk_cell BK248.out 2).trans rfl⟩ (fun hHeld => ?_)
          clear hK K
          refine norm_ (a' := ?_) ?_ ?_
          rotate_left
          · show Act.put _ (some 39) _ = _
            simp only [Act.put, List.setIfInBounds_toArray, List.set_cons_zero, List.set_cons_succ, i64_w, i32_w]
            rfl
          exact norm_ (by simp only [putAll, Act.put, List.setIfInBounds_toArray, List.set_cons_zero, List.set_cons_succ]) (hCont (.slice Ao49 t253.length co49, .slice Ao50 t258.length co50, gb264) _ ⟨hHeld, (by (with_reducible repeat (first | apply Kd.R_alloc | apply Kd.R_drewN | apply Kd.R_drew)); exact Kd.R_mono HO255.out (fun _ hk => hk.2)), (by (with_reducible repeat (first | apply Kd.R_alloc | apply Kd.R_drewN | apply Kd.R_drew)); exact Kd.R_mono HO260.out (fun _ hk => hk.2)), (by (with_reducible repeat (first | refine blk_drewN ?_ _ | refine blk_drew ?_ | refine blk_alloc ?_ _)); exact BK247.out), (by (with_reducible repeat (first | refine blk_drewN ?_ _ | refine blk_drew ?_ | refine blk_alloc ?_ _)); exact BK248.out), (by (with_reducible repeat (first | refine blk_drewN ?_ _ | refine blk_drew ?_ | refine blk_alloc ?_ _)); exact BK264.out), GW264.out, GE264.out, NB247_264.out, NB264_247.out, NB248_264.out, NB264_248.out, (by repeat (first | (with_reducible first | exact HB.out | apply below_alloc | apply pw_below_drewN | apply below_drew1 | refine below_set ?_ GE247.out | refine below_set ?_ GE248.out | refine below_set ?_ GE264.out) | exact HB.out))⟩)
      · skip
        refine box_step ?hg (N := 16) ?hd (cs := #[.int .i64 0, .int .i64 0, .int .i64 0]) (t := 27) ?hr ?_; (case hd => rfl); (case hg => rfl); (case hr => first | (go_simp; done) | (go_simp; rfl))
        intro gb264 hg w46 hbox hb
        have n0_ := Aside0.mk (blk_below (g := gb247) (o := .cells #[.int .i64 a0_0, .int .i64 a0_1, .slice A0_2 l0_2.length c0_2] 24 (0, 0)) (by (with_reducible repeat (first | refine blk_drewN ?_ _ | refine blk_drew ?_ | refine blk_alloc ?_ _)); exact BK247.out) hb)
        have n1_ := Aside0.mk (blk_below (g := gb248) (o := .cells #[.int .i64 a1_0, .int .i64 a1_1, .slice A1_2 l1_2.length c1_2] 24 (0, 0)) (by (with_reducible repeat (first | refine blk_drewN ?_ _ | refine blk_drew ?_ | refine blk_alloc ?_ _)); exact BK248.out) hb)
        have n2_ := Aside0.mk (below_step (by repeat (first | (with_reducible first | exact HB.out | apply below_alloc | apply pw_below_drewN | apply below_drew1 | refine below_set ?_ GE247.out | refine below_set ?_ GE248.out) | exact HB.out)) hb)
        have n3_ := Aside0.mk (hbox)
        have n4_ := Aside0.mk ((by rw [hg]; exact (below_size (by repeat (first | (with_reducible first | exact HB.out | apply below_alloc | apply pw_below_drewN | apply below_drew1 | refine below_set ?_ GE247.out | refine below_set ?_ GE248.out) | exact HB.out))) : w.heap.size ≤ gb264))
        have n5_ := Aside0.mk ((by rw [hg]; exact (below_size (by repeat (first | (with_reducible first | exact HB.out | apply below_alloc | apply pw_below_drewN | apply below_drew1 | refine below_set ?_ GE247.out | refine below_set ?_ GE248.out) | exact HB.out))) : w.heap.size ≤ gb264))
        have n6_ := Aside0.mk ((by rw [hg]; exact Nat.ne_of_lt (blk_lt (g := gb247) (o := .cells #[.int .i64 a0_0, .int .i64 a0_1, .slice A0_2 l0_2.length c0_2] 24 (0, 0)) (by (with_reducible repeat (first | refine blk_drewN ?_ _ | refine blk_drew ?_ | refine blk_alloc ?_ _)); exact BK247.out)) : gb247 ≠ gb264))
        have n7_ := Aside0.mk ((by rw [hg]; exact Nat.ne_of_gt (blk_lt (g := gb247) (o := .cells #[.int .i64 a0_0, .int .i64 a0_1, .slice A0_2 l0_2.length c0_2] 24 (0, 0)) (by (with_reducible repeat (first | refine blk_drewN ?_ _ | refine blk_drew ?_ | refine blk_alloc ?_ _)); exact BK247.out)) : gb264 ≠ gb247))
        have n8_ := Aside0.mk ((by rw [hg]; exact Nat.ne_of_lt (blk_lt (g := gb248) (o := .cells #[.int .i64 a1_0, .int .i64 a1_1, .slice A1_2 l1_2.length c1_2] 24 (0, 0)) (by (with_reducible repeat (first | refine blk_drewN ?_ _ | refine blk_drew ?_ | refine blk_alloc ?_ _)); exact BK248.out)) : gb248 ≠ gb264))
        have n9_ := Aside0.mk ((by rw [hg]; exact Nat.ne_of_gt (blk_lt (g := gb248) (o := .cells #[.int .i64 a1_0, .int .i64 a1_1, .slice A1_2 l1_2.length c1_2] 24 (0, 0)) (by (with_reducible repeat (first | refine blk_drewN ?_ _ | refine blk_drew ?_ | refine blk_alloc ?_ _)); exact BK248.out)) : gb264 ≠ gb248))
        clear BK247
        clear BK248
        clear HB
        have BK247 := n0_
        have BK248 := n1_
        have HB := n2_
        have BK264 := n3_
        have GW264 := n4_
        have GE264 := n5_
        have NB247_264 := n6_
        have NB264_247 := n7_
        have NB248_264 := n8_
        have NB264_248 := n9_
        clear n0_ n1_ n2_ n3_ n4_ n5_ n6_ n7_ n8_ n9_
        clear hb hbox hg
        refine hK.out _ _ ⟨(blk_cell BK247.out 0).trans rfl, (blk_cell BK247.out 1).trans rfl, (blk_cell BK247.out 2).trans rfl, (blk_cell BK248.out 0).trans rfl, (blk_cell BK248.out 1).trans rfl, (blk_cell BK248.out 2).trans rfl⟩ (fun hHeld => ?_)
        clear hK K
        refine norm_ (a' := ?_) ?_ ?_
        rotate_left
        · show Act.put _ (some 16) _ = _
          simp only [Act.put, List.setIfInBounds_toArray, List.set_cons_zero, List.set_cons_succ, i64_w, i32_w]
          rfl
        refine one_ (i := 1) (N := some 31) #[true, true, true, false, true, true, true, true, true, false, true, false] rfl rfl (one_of HT_.out (by kernel_rfl)) (by decide) (fun K hK => ?_)
        refine goes_ Try.func17 (by kernel_rfl) rfl #[.agg #[.int .i64 a0_0, .int .i64 a0_1, .slice A0_2 l0_2.length c0_2]] (by rfl) rfl rfl (by (try simp only [List.map_toArray, List.map_cons, List.map_nil]); first | done | rfl | (simp only [List.length_drop, List.length_take]; rfl)) ?_
        with_reducible refine (laws_toPlane.calls k a0_0 a0_1 _ _ l0_2 t251 t252 t253 _ ?side1 ?side2 A24.out).mono ?_
        (case side1 => repeat (first | exact (Kd.C_below HR0_2.out HB.out) | (with_reducible refine Kd.C_alloc ?_ _) | (with_reducible refine Kd.C_drewN ?_ _) | (with_reducible refine Kd.C_drew ?_)))
        (case side2 => exact HC0_2.out)
        rintro e w47 ⟨v254, rfl, ho0, hb⟩
        refine ⟨_, rfl, ?_⟩
        have n0_ := Aside0.mk (Kd.R_lower ho0 (below_size (by repeat (first | (with_reducible first | exact HB.out | apply below_alloc | apply pw_below_drewN | apply below_drew1 | refine below_set ?_ GE247.out | refine below_set ?_ GE248.out | refine below_set ?_ GE264.out) | exact HB.out))))
        have n1_ := Aside0.mk (blk_below (g := gb247) (o := .cells #[.int .i64 a0_0, .int .i64 a0_1, .slice A0_2 l0_2.length c0_2] 24 (0, 0)) (by (with_reducible repeat (first | refine blk_drewN ?_ _ | refine blk_drew ?_ | refine blk_alloc ?_ _)); exact BK247.out) hb)
        have n2_ := Aside0.mk (blk_below (g := gb248) (o := .cells #[.int .i64 a1_0, .int .i64 a1_1, .slice A1_2 l1_2.length c1_2] 24 (0, 0)) (by (with_reducible repeat (first | refine blk_drewN ?_ _ | refine blk_drew ?_ | refine blk_alloc ?_ _)); exact BK248.out) hb)
        have n3_ := Aside0.mk (blk_below (g := gb264) (o := .cells #[.int .i64 0, .int .i64 0, .int .i64 0] 27 (0, 0)) (by (with_reducible repeat (first | refine blk_drewN ?_ _ | refine blk_drew ?_ | refine blk_alloc ?_ _)); exact BK264.out) hb)
        have n4_ := Aside0.mk (below_step (by repeat (first | (with_reducible first | exact HB.out | apply below_alloc | apply pw_below_drewN | apply below_drew1 | refine below_set ?_ GE247.out | refine below_set ?_ GE248.out | refine below_set ?_ GE264.out) | exact HB.out)) hb)
        clear BK247
        clear BK248
        clear BK264
        clear HB
        have HO255 := n0_
        have BK247 := n1_
        have BK248 := n2_
        have BK264 := n3_
        have HB := n4_
        clear n0_ n1_ n2_ n3_ n4_
        (try clear hb)
        (try clear hb2)
        (try clear hk)
        (try clear hi)
        (try clear ho0)
        refine hK.out _ _ ⟨(blk_cell BK247.out 0).trans rfl, (blk_cell BK247.out 1).trans rfl, (blk_cell BK247.out 2).trans rfl, (blk_cell BK248.out 0).trans rfl, (blk_cell BK248.out 1).trans rfl, (blk_cell BK248.out 2).trans rfl⟩ (fun hHeld => ?_)
        clear hK K
        refine norm_ (a' := ?_) ?_ ?_
        rotate_left
        · show Act.put _ (some 31) _ = _
          simp only [Act.put, List.setIfInBounds_toArray, List.set_cons_zero, List.set_cons_succ, i64_w, i32_w]
          rfl
        refine one_ (i := 3) (N := some 33) #[true, true, true, true, true, true, true, true, true, false, true, false] rfl rfl (one_of HT_.out (by kernel_rfl)) (by decide) (fun K hK => ?_)
        refine goes_ Try.func17 (by kernel_rfl) rfl #[.agg #[.int .i64 a1_0, .int .i64 a1_1, .slice A1_2 l1_2.length c1_2]] (by rfl) rfl rfl (by (try simp only [List.map_toArray, List.map_cons, List.map_nil]); first | done | rfl | (simp only [List.length_drop, List.length_take]; rfl)) ?_
        with_reducible refine (laws_toPlane.calls k a1_0 a1_1 _ _ l1_2 t256 t257 t258 _ ?side1 ?side2 A25.out).mono ?_
        (case side1 => repeat (first | exact (Kd.C_below HR1_2.out HB.out) | (with_reducible refine Kd.C_alloc ?_ _) | (with_reducible refine Kd.C_drewN ?_ _) | (with_reducible refine Kd.C_drew ?_)))
        (case side2 => exact HC1_2.out)
        rintro e w48 ⟨v259, rfl, ho0, hb⟩
        refine ⟨_, rfl, ?_⟩
        have n0_ := Aside0.mk (Kd.R_elder' (by (with_reducible repeat (first | apply Kd.R_alloc | apply Kd.R_drewN | apply Kd.R_drew)); exact HO255.out) (Kd.R_base ho0) hb)
        have n1_ := Aside0.mk (Kd.R_lower (Kd.R_new' ho0 (Kd.R_lt (by (with_reducible repeat (first | apply Kd.R_alloc | apply Kd.R_drewN | apply Kd.R_drew)); exact HO255.out))) (below_size (by repeat (first | (with_reducible first | exact HB.out | apply below_alloc | apply pw_below_drewN | apply below_drew1 | refine below_set ?_ GE247.out | refine below_set ?_ GE248.out | refine below_set ?_ GE264.out) | exact HB.out))))
        have n2_ := Aside0.mk (blk_below (g := gb247) (o := .cells #[.int .i64 a0_0, .int .i64 a0_1, .slice A0_2 l0_2.length c0_2] 24 (0, 0)) (by (with_reducible repeat (first | refine blk_drewN ?_ _ | refine blk_drew ?_ | refine blk_alloc ?_ _)); exact BK247.out) hb)
        have n3_ := Aside0.mk (blk_below (g := gb248) (o := .cells #[.int .i64 a1_0, .int .i64 a1_1, .slice A1_2 l1_2.length c1_2] 24 (0, 0)) (by (with_reducible repeat (first | refine blk_drewN ?_ _ | refine blk_drew ?_ | refine blk_alloc ?_ _)); exact BK248.out) hb)
        have n4_ := Aside0.mk (blk_below (g := gb264) (o := .cells #[.int .i64 0, .int .i64 0, .int .i64 0] 27 (0, 0)) (by (with_reducible repeat (first | refine blk_drewN ?_ _ | refine blk_drew ?_ | refine blk_alloc ?_ _)); exact BK264.out) hb)
        have n5_ := Aside0.mk (below_step (by repeat (first | (with_reducible first | exact HB.out | apply below_alloc | apply pw_below_drewN | apply below_drew1 | refine below_set ?_ GE247.out | refine below_set ?_ GE248.out | refine below_set ?_ GE264.out) | exact HB.out)) hb)
        clear HO255
        clear BK247
        clear BK248
        clear BK264
        clear HB
        have HO255 := n0_
        have HO260 := n1_
        have BK247 := n2_
        have BK248 := n3_
        have BK264 := n4_
        have HB := n5_
        clear n0_ n1_ n2_ n3_ n4_ n5_
        (try clear hb)
        (try clear hb2)
        (try clear hk)
        (try clear hi)
        (try clear ho0)
        obtain ⟨Ao49, co49, eo49⟩ := Kd.R_slice HO255.out
        (first | subst eo49 | (injection eo49 with f1_ f2_ f3_; have f4_ := f1_.symm; have f5_ := f3_.symm; clear f1_ f2_ f3_; subst f4_; subst f5_))
        obtain ⟨Ao50, co50, eo50⟩ := Kd.R_slice HO260.out
        (first | subst eo50 | (injection eo50 with f1_ f2_ f3_; have f4_ := f1_.symm; have f5_ := f3_.symm; clear f1_ f2_ f3_; subst f4_; subst f5_))
        refine hK.out _ _ ⟨(blk_cell BK247.out 0).trans rfl, (blk_cell BK247.out 1).trans rfl, (blk_cell BK247.out 2).trans rfl, (blk_cell BK248.out 0).trans rfl, (blk_cell BK248.out 1).trans rfl, (blk_cell BK248.out 2).trans rfl⟩ (fun hHeld => ?_)
        clear hK K
        refine norm_ (a' := ?_) ?_ ?_
        rotate_left
        · show Act.put _ (some 33) _ = _
          simp only [Act.put, List.setIfInBounds_toArray, List.set_cons_zero, List.set_cons_succ, i64_w, i32_w]
          rfl
        refine one_ (i := 9) (N := some 39) #[true, true, true, true, true, true, true, true, true, true, true, false] rfl rfl (one_of HT_.out (by kernel_rfl)) (by decide) (fun K hK => ?_)
        refine goes_ Try.func16 (by kernel_rfl) rfl #[.agg #[.int .i64 t251, .int .i64 t252, .slice Ao49 t253.length co49], .agg #[.int .i64 t256, .int .i64 t257, .slice Ao50 t258.length co50], .int .i64 a2, .int .i64 a3, .int .i64 a4, .int .i64 a5, .int .i64 a6] (by rfl) rfl rfl (by (try simp only [List.map_toArray, List.map_cons, List.map_nil]); first | done | rfl | (simp only [List.length_drop, List.length_take]; rfl)) ?_
        with_reducible refine (spec_BestMotion.calls k t251 t252 _ _ t253 t256 t257 _ _ t258 a2 a3 a4 a5 a6 t261 t262 t263 _ ?side1 ?side2 ?side3 ?side4 A26.out).mono ?_
        (case side1 => repeat (first | exact (Kd.R_reads' HO255.out).2.2 | (with_reducible refine Kd.C_alloc ?_ _) | (with_reducible refine Kd.C_drewN ?_ _) | (with_reducible refine Kd.C_drew ?_)))
        (case side2 => exact (Kd.R_reads' HO255.out).2.1)
        (case side3 => repeat (first | exact (Kd.R_reads' HO260.out).2.2 | (with_reducible refine Kd.C_alloc ?_ _) | (with_reducible refine Kd.C_drewN ?_ _) | (with_reducible refine Kd.C_drew ?_)))
        (case side4 => exact (Kd.R_reads' HO260.out).2.1)
        rintro e w51 ⟨rfl, hb⟩
        refine ⟨_, rfl, ?_⟩
        have n0_ := Aside0.mk (Kd.R_below (by (with_reducible repeat (first | apply Kd.R_alloc | apply Kd.R_drewN | apply Kd.R_drew)); exact HO255.out) hb)
        have n1_ := Aside0.mk (Kd.R_below (by (with_reducible repeat (first | apply Kd.R_alloc | apply Kd.R_drewN | apply Kd.R_drew)); exact HO260.out) hb)
        have n2_ := Aside0.mk (blk_below (g := gb247) (o := .cells #[.int .i64 a0_0, .int .i64 a0_1, .slice A0_2 l0_2.length c0_2] 24 (0, 0)) (by (with_reducible repeat (first | refine blk_drewN ?_ _ | refine blk_drew ?_ | refine blk_alloc ?_ _)); exact BK247.out) hb)
        have n3_ := Aside0.mk (blk_below (g := gb248) (o := .cells #[.int .i64 a1_0, .int .i64 a1_1, .slice A1_2 l1_2.length c1_2] 24 (0, 0)) (by (with_reducible repeat (first | refine blk_drewN ?_ _ | refine blk_drew ?_ | refine blk_alloc ?_ _)); exact BK248.out) hb)
        have n4_ := Aside0.mk (blk_below (g := gb264) (o := .cells #[.int .i64 0, .int .i64 0, .int .i64 0] 27 (0, 0)) (by (with_reducible repeat (first | refine blk_drewN ?_ _ | refine blk_drew ?_ | refine blk_alloc ?_ _)); exact BK264.out) hb)
        have n5_ := Aside0.mk (below_step (by repeat (first | (with_reducible first | exact HB.out | apply below_alloc | apply pw_below_drewN | apply below_drew1 | refine below_set ?_ GE247.out | refine below_set ?_ GE248.out | refine below_set ?_ GE264.out) | exact HB.out)) hb)
        clear HO255
        clear HO260
        clear BK247
        clear BK248
        clear BK264
        clear HB
        have HO255 := n0_
        have HO260 := n1_
        have BK247 := n2_
        have BK248 := n3_
        have BK264 := n4_
        have HB := n5_
        clear n0_ n1_ n2_ n3_ n4_ n5_
        (try clear hb)
        (try clear hb2)
        (try clear hk)
        (try clear hi)
        refine hK.out _ _ ⟨(blk_cell BK247.out 0).trans rfl, (blk_cell BK247.out 1).trans rfl, (blk_cell BK247.out 2).trans rfl, (blk_cell BK248.out 0).trans rfl, (blk_cell BK248.out 1).trans rfl, (blk_cell BK248.out 2).trans rfl⟩ (fun hHeld => ?_)
        clear hK K
        refine norm_ (a' := ?_) ?_ ?_
        rotate_left
        · show Act.put _ (some 39) _ = _
          simp only [Act.put, List.setIfInBounds_toArray, List.set_cons_zero, List.set_cons_succ, i64_w, i32_w]
          rfl
        exact norm_ (by simp only [putAll, Act.put, List.setIfInBounds_toArray, List.set_cons_zero, List.set_cons_succ]) (hCont (.slice Ao49 t253.length co49, .slice Ao50 t258.length co50, gb264) _ ⟨hHeld, (by (with_reducible repeat (first | apply Kd.R_alloc | apply Kd.R_drewN | apply Kd.R_drew)); exact Kd.R_mono HO255.out (fun _ hk => hk.2)), (by (with_reducible repeat (first | apply Kd.R_alloc | apply Kd.R_drewN | apply Kd.R_drew)); exact Kd.R_mono HO260.out (fun _ hk => hk.2)), (by (with_reducible repeat (first | refine blk_drewN ?_ _ | refine blk_drew ?_ | refine blk_alloc ?_ _)); exact BK247.out), (by (with_reducible repeat (first | refine blk_drewN ?_ _ | refine blk_drew ?_ | refine blk_alloc ?_ _)); exact BK248.out), (by (with_reducible repeat (first | refine blk_drewN ?_ _ | refine blk_drew ?_ | refine blk_alloc ?_ _)); exact BK264.out), GW264.out, GE264.out, NB247_264.out, NB264_247.out, NB248_264.out, NB264_248.out, (by repeat (first | (with_reducible first | exact HB.out | apply below_alloc | apply pw_below_drewN | apply below_drew1 | refine below_set ?_ GE247.out | refine below_set ?_ GE248.out | refine below_set ?_ GE264.out) | exact HB.out))⟩)
    rintro ⟨v254, v259, gb264⟩ w52 ⟨hS_, h0_, h1_, h2_, h3_, h4_, h5_, h6_, h7_, h8_, h9_, h10_, h11_⟩
    have n0_ : Aside0 (Kd.R (Kd.int .i64) 3 w52 w.heap.size (fun k_ => some k_ ≠ (v259 : Value).ownBlock) v254 t253) := ⟨h0_⟩
    have n1_ : Aside0 (Kd.R (Kd.int .i64) 3 w52 w.heap.size (fun k_ => some k_ ≠ (v254 : Value).ownBlock) v259 t258) := ⟨h1_⟩
    have n2_ : Aside0 (w52.heap[gb247]? = some (.cells #[.int .i64 a0_0, .int .i64 a0_1, .slice A0_2 l0_2.length c0_2] 24 (0, 0))) := ⟨h2_⟩
    have n3_ : Aside0 (w52.heap[gb248]? = some (.cells #[.int .i64 a1_0, .int .i64 a1_1, .slice A1_2 l1_2.length c1_2] 24 (0, 0))) := ⟨h3_⟩
    have n4_ : Aside0 (w52.heap[gb264]? = some (.cells #[.int .i64 0, .int .i64 0, .int .i64 0] 27 (0, 0))) := ⟨h4_⟩
    have n5_ : Aside0 (w.heap.size ≤ gb264) := ⟨h5_⟩
    have n6_ : Aside0 (w.heap.size ≤ gb264) := ⟨h6_⟩
    have n7_ : Aside0 (gb247 ≠ gb264) := ⟨h7_⟩
    have n8_ : Aside0 (gb264 ≠ gb247) := ⟨h8_⟩
    have n9_ : Aside0 (gb248 ≠ gb264) := ⟨h9_⟩
    have n10_ : Aside0 (gb264 ≠ gb248) := ⟨h10_⟩
    have n11_ : Aside0 (Below w.heap.size w w52) := ⟨h11_⟩
    clear BK247
    clear BK248
    clear HB
    clear h0_ h1_ h2_ h3_ h4_ h5_ h6_ h7_ h8_ h9_ h10_ h11_
    have HO255 := n0_
    have HO260 := n1_
    have BK247 := n2_
    have BK248 := n3_
    have BK264 := n4_
    have GW264 := n5_
    have GE264 := n6_
    have NB247_264 := n7_
    have NB264_247 := n8_
    have NB248_264 := n9_
    have NB264_248 := n10_
    have HB := n11_
    clear n0_ n1_ n2_ n3_ n4_ n5_ n6_ n7_ n8_ n9_ n10_ n11_
    have hHeld : w52.cell? ⟨gb247, 0, none⟩ = some (.int .i64 a0_0) ∧ w52.cell? ⟨gb247, 1, none⟩ = some (.int .i64 a0_1) ∧ w52.cell? ⟨gb247, 2, none⟩ = some (.slice A0_2 l0_2.length c0_2) ∧ w52.cell? ⟨gb248, 0, none⟩ = some (.int .i64 a1_0) ∧ w52.cell? ⟨gb248, 1, none⟩ = some (.int .i64 a1_1) ∧ w52.cell? ⟨gb248, 2, none⟩ = some (.slice A1_2 l1_2.length c1_2) := hS_
    refine norm_ (a' := ?_) ?_ ?_
    rotate_left
    · simp only [putAll, Act.put, List.setIfInBounds_toArray, List.set_cons_zero, List.set_cons_succ]
      rfl
    refine one_ (i := 11) (N := none) #[true, true, true, true, true, true, true, true, true, true, true, true] rfl rfl (one_of HT_.out (by kernel_rfl)) (by decide) (fun K hK => ?_)
    have hs53 : w52.cell? ⟨gb264, 0, none⟩ = some (.int .i64 0) := (blk_cell BK264.out 0).trans rfl
    have hfs53 := blk_frozen BK264.out 0
    have hns53_0 := NB247_264.out
    have hns53_1 := NB248_264.out
    have hms53_0 := NB264_247.out
    have hms53_1 := NB264_248.out
    have hs54 : w52.cell? ⟨gb264, 1, none⟩ = some (.int .i64 0) := (blk_cell BK264.out 1).trans rfl
    have hfs54 := blk_frozen BK264.out 1
    have hns54_0 := NB247_264.out
    have hns54_1 := NB248_264.out
    have hms54_0 := NB264_247.out
    have hms54_1 := NB264_248.out
    have hs55 : w52.cell? ⟨gb264, 2, none⟩ = some (.int .i64 0) := (blk_cell BK264.out 2).trans rfl
    have hfs55 := blk_frozen BK264.out 2
    have hns55_0 := NB247_264.out
    have hns55_1 := NB248_264.out
    have hms55_0 := NB264_247.out
    have hms55_1 := NB264_248.out
    refine skip_ (w1 := ?_) (by rfl) rfl ?_ ?_
    rotate_left
    · go_simp
      rfl
    refine hK.out _ _ ⟨((cell_far (p := ⟨gb264, _, none⟩) NB247_264.out _).trans (((cell_far (p := ⟨gb264, _, none⟩) NB247_264.out _).trans (((cell_far (p := ⟨gb264, _, none⟩) NB247_264.out _).trans (hHeld.1)))))), ((cell_far (p := ⟨gb264, _, none⟩) NB247_264.out _).trans (((cell_far (p := ⟨gb264, _, none⟩) NB247_264.out _).trans (((cell_far (p := ⟨gb264, _, none⟩) NB247_264.out _).trans (hHeld.2.1)))))), ((cell_far (p := ⟨gb264, _, none⟩) NB247_264.out _).trans (((cell_far (p := ⟨gb264, _, none⟩) NB247_264.out _).trans (((cell_far (p := ⟨gb264, _, none⟩) NB247_264.out _).trans (hHeld.2.2.1)))))), ((cell_far (p := ⟨gb264, _, none⟩) NB248_264.out _).trans (((cell_far (p := ⟨gb264, _, none⟩) NB248_264.out _).trans (((cell_far (p := ⟨gb264, _, none⟩) NB248_264.out _).trans (hHeld.2.2.2.1)))))), ((cell_far (p := ⟨gb264, _, none⟩) NB248_264.out _).trans (((cell_far (p := ⟨gb264, _, none⟩) NB248_264.out _).trans (((cell_far (p := ⟨gb264, _, none⟩) NB248_264.out _).trans (hHeld.2.2.2.2.1)))))), ((cell_far (p := ⟨gb264, _, none⟩) NB248_264.out _).trans (((cell_far (p := ⟨gb264, _, none⟩) NB248_264.out _).trans (((cell_far (p := ⟨gb264, _, none⟩) NB248_264.out _).trans (hHeld.2.2.2.2.2))))))⟩ (fun hHeld => ?_)
    clear hK K
    refine done_ (done_of HT_.out (by kernel_rfl)) ?_
    have hnb56 := NB247_264.out
    have hnc56 := NB264_247.out
    have hcz57_0 : w52.cell? ⟨gb247, 0, none⟩ = some (.int .i64 a0_0) := (blk_cell BK247.out 0).trans rfl
    have hcz57_1 : w52.cell? ⟨gb247, 1, none⟩ = some (.int .i64 a0_1) := (blk_cell BK247.out 1).trans rfl
    have hcz57_2 : w52.cell? ⟨gb247, 2, none⟩ = some (.slice A0_2 l0_2.length c0_2) := (blk_cell BK247.out 2).trans rfl
    have hfz57_0 := blk_frozen BK247.out 0
    have hfz57_1 := blk_frozen BK247.out 1
    have hfz57_2 := blk_frozen BK247.out 2
    try go_wp2_with (first | ((with_reducible refine gate_callee (f := 17) rfl ?_); refine goesL_ (some 41) rfl rfl Try.func17 (by kernel_rfl) rfl #[.agg #[.int .i64 a0_0, .int .i64 a0_1, .slice A0_2 l0_2.length c0_2]] rfl (by (try simp only [List.map_toArray, List.map_cons, List.map_nil]); first | done | rfl | (simp only [List.length_drop, List.length_take]; rfl)) ?_; (with_reducible refine (laws_toPlane.calls k a0_0 a0_1 _ _ l0_2 t265 t266 t267 _ ?side1 ?side2 A27.out).mono ?_); (case side1 => exact Kd.C_below HR0_2.out (by repeat (first | (with_reducible first | exact HB.out | apply below_alloc | apply pw_below_drewN | apply below_drew1 | refine below_set ?_ GE247.out | refine below_set ?_ GE248.out | refine below_set ?_ GE264.out) | exact HB.out))); (case side2 => exact HC0_2.out); rintro e w58 ⟨v268, rfl, ho0, hb⟩; refine ⟨_, rfl, ?_⟩; have n0_ := Aside0.mk (Kd.R_elder' (by (with_reducible repeat (first | apply Kd.R_alloc | apply Kd.R_drewN | apply Kd.R_drew)); exact (Kd.R_mono (Kd.R_far (p := ⟨gb264, 2, none⟩) (Kd.R_far (p := ⟨gb264, 1, none⟩) (Kd.R_far (p := ⟨gb264, 0, none⟩) (Kd.R_types HO255.out BK264.out (by decide)) (fun _ hk => hk.2) (.int .i64 t261)) (fun _ hk => hk.2) (.int .i64 t262)) (fun _ hk => hk.2) (.int .i64 t263)) (fun _ h_ => h_.1))) (Kd.R_base ho0) hb); have n1_ := Aside0.mk (Kd.R_elder' (by (with_reducible repeat (first | apply Kd.R_alloc | apply Kd.R_drewN | apply Kd.R_drew)); exact (Kd.R_mono (Kd.R_far (p := ⟨gb264, 2, none⟩) (Kd.R_far (p := ⟨gb264, 1, none⟩) (Kd.R_far (p := ⟨gb264, 0, none⟩) (Kd.R_types HO260.out BK264.out (by decide)) (fun _ hk => hk.2) (.int .i64 t261)) (fun _ hk => hk.2) (.int .i64 t262)) (fun _ hk => hk.2) (.int .i64 t263)) (fun _ h_ => h_.1))) (Kd.R_base ho0) hb); have n2_ := Aside0.mk (Kd.R_lower (Kd.R_new' (Kd.R_new' ho0 (Kd.R_lt (by (with_reducible repeat (first | apply Kd.R_alloc | apply Kd.R_drewN | apply Kd.R_drew)); exact (Kd.R_mono (Kd.R_far (p := ⟨gb264, 2, none⟩) (Kd.R_far (p := ⟨gb264, 1, none⟩) (Kd.R_far (p := ⟨gb264, 0, none⟩) (Kd.R_types HO255.out BK264.out (by decide)) (fun _ hk => hk.2) (.int .i64 t261)) (fun _ hk => hk.2) (.int .i64 t262)) (fun _ hk => hk.2) (.int .i64 t263)) (fun _ h_ => h_.1))))) (Kd.R_lt (by (with_reducible repeat (first | apply Kd.R_alloc | apply Kd.R_drewN | apply Kd.R_drew)); exact (Kd.R_mono (Kd.R_far (p := ⟨gb264, 2, none⟩) (Kd.R_far (p := ⟨gb264, 1, none⟩) (Kd.R_far (p := ⟨gb264, 0, none⟩) (Kd.R_types HO260.out BK264.out (by decide)) (fun _ hk => hk.2) (.int .i64 t261)) (fun _ hk => hk.2) (.int .i64 t262)) (fun _ hk => hk.2) (.int .i64 t263)) (fun _ h_ => h_.1))))) (below_size (by repeat (first | (with_reducible first | exact HB.out | apply below_alloc | apply pw_below_drewN | apply below_drew1 | refine below_set ?_ GE247.out | refine below_set ?_ GE248.out | refine below_set ?_ GE264.out) | exact HB.out)))); have n3_ := Aside0.mk (blk_below (g := gb247) (o := .cells #[.int .i64 a0_0, .int .i64 a0_1, .slice A0_2 l0_2.length c0_2] 24 (0, 0)) (by (with_reducible repeat (first | refine blk_drewN ?_ _ | refine blk_drew ?_ | refine blk_alloc ?_ _)); refine blk_far ?_ NB247_264.out _; (with_reducible repeat (first | refine blk_drewN ?_ _ | refine blk_drew ?_ | refine blk_alloc ?_ _)); refine blk_far ?_ NB247_264.out _; (with_reducible repeat (first | refine blk_drewN ?_ _ | refine blk_drew ?_ | refine blk_alloc ?_ _)); refine blk_far ?_ NB247_264.out _; (with_reducible repeat (first | refine blk_drewN ?_ _ | refine blk_drew ?_ | refine blk_alloc ?_ _)); exact BK247.out) hb); have n4_ := Aside0.mk (blk_below (g := gb248) (o := .cells #[.int .i64 a1_0, .int .i64 a1_1, .slice A1_2 l1_2.length c1_2] 24 (0, 0)) (by (with_reducible repeat (first | refine blk_drewN ?_ _ | refine blk_drew ?_ | refine blk_alloc ?_ _)); refine blk_far ?_ NB248_264.out _; (with_reducible repeat (first | refine blk_drewN ?_ _ | refine blk_drew ?_ | refine blk_alloc ?_ _)); refine blk_far ?_ NB248_264.out _; (with_reducible repeat (first | refine blk_drewN ?_ _ | refine blk_drew ?_ | refine blk_alloc ?_ _)); refine blk_far ?_ NB248_264.out _; (with_reducible repeat (first | refine blk_drewN ?_ _ | refine blk_drew ?_ | refine blk_alloc ?_ _)); exact BK248.out) hb); have n5_ := Aside0.mk (blk_below (g := gb264) (o := .cells #[.int .i64 t261, .int .i64 t262, .int .i64 t263] 27 (0, 0)) (by (with_reducible repeat (first | refine blk_drewN ?_ _ | refine blk_drew ?_ | refine blk_alloc ?_ _)); refine blk_put (cs := #[.int .i64 t261, .int .i64 t262, .int .i64 0]) ?_ 2 _ rfl; (with_reducible repeat (first | refine blk_drewN ?_ _ | refine blk_drew ?_ | refine blk_alloc ?_ _)); refine blk_put (cs := #[.int .i64 t261, .int .i64 0, .int .i64 0]) ?_ 1 _ rfl; (with_reducible repeat (first | refine blk_drewN ?_ _ | refine blk_drew ?_ | refine blk_alloc ?_ _)); refine blk_put (cs := #[.int .i64 0, .int .i64 0, .int .i64 0]) ?_ 0 _ rfl; (with_reducible repeat (first | refine blk_drewN ?_ _ | refine blk_drew ?_ | refine blk_alloc ?_ _)); exact BK264.out) hb); have n6_ := Aside0.mk (below_step (by repeat (first | (with_reducible first | exact HB.out | apply below_alloc | apply pw_below_drewN | apply below_drew1 | refine below_set ?_ GE247.out | refine below_set ?_ GE248.out | refine below_set ?_ GE264.out) | exact HB.out)) hb); clear HO255; clear HO260; clear BK247; clear BK248; clear BK264; clear HB; have HO255 := n0_; have HO260 := n1_; have HO269 := n2_; have BK247 := n3_; have BK248 := n4_; have BK264 := n5_; have HB := n6_; clear n0_ n1_ n2_ n3_ n4_ n5_ n6_; (try clear hb); (try clear hb2); (try clear hk); (try clear hi); (try clear ho0)) | ((with_reducible refine gate_dst (N := 17) rfl ?_); refine box_event ?hg (N := 17) ?hd (cs := #[.int .i64 0, .int .i64 0, .slice none 0 0]) (t := 29) ?hr ?_; (case hd => rfl); (case hg => rfl); (case hr => first | (go_simp; done) | (go_simp; rfl)); intro gb270 hg w59 hbox hb; have n0_ := Aside0.mk (Kd.R_below (by (with_reducible repeat (first | apply Kd.R_alloc | apply Kd.R_drewN | apply Kd.R_drew)); exact HO255.out) hb); have n1_ := Aside0.mk (Kd.R_below (by (with_reducible repeat (first | apply Kd.R_alloc | apply Kd.R_drewN | apply Kd.R_drew)); exact HO260.out) hb); have n2_ := Aside0.mk (Kd.R_below (by (with_reducible repeat (first | apply Kd.R_alloc | apply Kd.R_drewN | apply Kd.R_drew)); exact HO269.out) hb); have n3_ := Aside0.mk (blk_below (g := gb247) (o := .cells #[.int .i64 a0_0, .int .i64 a0_1, .slice A0_2 l0_2.length c0_2] 24 (0, 0)) (by (with_reducible repeat (first | refine blk_drewN ?_ _ | refine blk_drew ?_ | refine blk_alloc ?_ _)); exact BK247.out) hb); have n4_ := Aside0.mk (blk_below (g := gb248) (o := .cells #[.int .i64 a1_0, .int .i64 a1_1, .slice A1_2 l1_2.length c1_2] 24 (0, 0)) (by (with_reducible repeat (first | refine blk_drewN ?_ _ | refine blk_drew ?_ | refine blk_alloc ?_ _)); exact BK248.out) hb); have n5_ := Aside0.mk (blk_below (g := gb264) (o := .cells #[.int .i64 t261, .int .i64 t262, .int .i64 t263] 27 (0, 0)) (by (with_reducible repeat (first | refine blk_drewN ?_ _ | refine blk_drew ?_ | refine blk_alloc ?_ _)); exact BK264.out) hb); have n6_ := Aside0.mk (below_step (by repeat (first | (with_reducible first | exact HB.out | apply below_alloc | apply pw_below_drewN | apply below_drew1 | refine below_set ?_ GE247.out | refine below_set ?_ GE248.out | refine below_set ?_ GE264.out) | exact HB.out)) hb); have n7_ := Aside0.mk (hbox); have n8_ := Aside0.mk ((by rw [hg]; exact (below_size (by repeat (first | (with_reducible first | exact HB.out | apply below_alloc | apply pw_below_drewN | apply below_drew1 | refine below_set ?_ GE247.out | refine below_set ?_ GE248.out | refine below_set ?_ GE264.out) | exact HB.out))) : w.heap.size ≤ gb270)); have n9_ := n8_; have n10_ := Aside0.mk ((by rw [hg]; exact Nat.ne_of_lt (blk_lt (g := gb247) (o := .cells #[.int .i64 a0_0, .int .i64 a0_1, .slice A0_2 l0_2.length c0_2] 24 (0, 0)) (by (with_reducible repeat (first | refine blk_drewN ?_ _ | refine blk_drew ?_ | refine blk_alloc ?_ _)); exact BK247.out)) : gb247 ≠ gb270)); have n11_ := Aside0.mk ((by rw [hg]; exact Nat.ne_of_gt (blk_lt (g := gb247) (o := .cells #[.int .i64 a0_0, .int .i64 a0_1, .slice A0_2 l0_2.length c0_2] 24 (0, 0)) (by (with_reducible repeat (first | refine blk_drewN ?_ _ | refine blk_drew ?_ | refine blk_alloc ?_ _)); exact BK247.out)) : gb270 ≠ gb247)); have n12_ := Aside0.mk ((by rw [hg]; exact Nat.ne_of_lt (blk_lt (g := gb248) (o := .cells #[.int .i64 a1_0, .int .i64 a1_1, .slice A1_2 l1_2.length c1_2] 24 (0, 0)) (by (with_reducible repeat (first | refine blk_drewN ?_ _ | refine blk_drew ?_ | refine blk_alloc ?_ _)); exact BK248.out)) : gb248 ≠ gb270)); have n13_ := Aside0.mk ((by rw [hg]; exact Nat.ne_of_gt (blk_lt (g := gb248) (o := .cells #[.int .i64 a1_0, .int .i64 a1_1, .slice A1_2 l1_2.length c1_2] 24 (0, 0)) (by (with_reducible repeat (first | refine blk_drewN ?_ _ | refine blk_drew ?_ | refine blk_alloc ?_ _)); exact BK248.out)) : gb270 ≠ gb248)); have n14_ := Aside0.mk ((by rw [hg]; exact Nat.ne_of_lt (blk_lt (g := gb264) (o := .cells #[.int .i64 t261, .int .i64 t262, .int .i64 t263] 27 (0, 0)) (by (with_reducible repeat (first | refine blk_drewN ?_ _ | refine blk_drew ?_ | refine blk_alloc ?_ _)); exact BK264.out)) : gb264 ≠ gb270)); have n15_ := Aside0.mk ((by rw [hg]; exact Nat.ne_of_gt (blk_lt (g := gb264) (o := .cells #[.int .i64 t261, .int .i64 t262, .int .i64 t263] 27 (0, 0)) (by (with_reducible repeat (first | refine blk_drewN ?_ _ | refine blk_drew ?_ | refine blk_alloc ?_ _)); exact BK264.out)) : gb270 ≠ gb264)); clear HO255; clear HO260; clear HO269; clear BK247; clear BK248; clear BK264; clear HB; have HO255 := n0_; have HO260 := n1_; have HO269 := n2_; have BK247 := n3_; have BK248 := n4_; have BK264 := n5_; have HB := n6_; have BK270 := n7_; have GW270 := n8_; have GE270 := n9_; have NB247_270 := n10_; have NB270_247 := n11_; have NB248_270 := n12_; have NB270_248 := n13_; have NB264_270 := n14_; have NB270_264 := n15_; clear n0_ n1_ n2_ n3_ n4_ n5_ n6_ n7_ n8_ n9_ n10_ n11_ n12_ n13_ n14_ n15_; clear hb hbox hg; have hnb60 := NB270_247.out; have hnc60 := NB247_270.out; have hnb61 := NB270_248.out; have hnc61 := NB248_270.out; have hnb62 := NB270_264.out; have hnc62 := NB264_270.out; have hcz63_0 : w59.cell? ⟨gb270, 0, none⟩ = some (.int .i64 0) := (blk_cell BK270.out 0).trans rfl; have hcz63_1 : w59.cell? ⟨gb270, 1, none⟩ = some (.int .i64 0) := (blk_cell BK270.out 1).trans rfl; have hcz63_2 : w59.cell? ⟨gb270, 2, none⟩ = some (.slice none 0 0) := (blk_cell BK270.out 2).trans rfl; have hfz63_0 := blk_frozen BK270.out 0; have hfz63_1 := blk_frozen BK270.out 1; have hfz63_2 := blk_frozen BK270.out 2; obtain ⟨Ao64, co64, eo64⟩ := Kd.R_slice HO269.out; subst eo64; have hnb65 := NB248_264.out; have hnc65 := NB264_248.out; have hcz66_0 : w59.cell? ⟨gb248, 0, none⟩ = some (.int .i64 a1_0) := (blk_cell BK248.out 0).trans rfl; have hcz66_1 : w59.cell? ⟨gb248, 1, none⟩ = some (.int .i64 a1_1) := (blk_cell BK248.out 1).trans rfl; have hcz66_2 : w59.cell? ⟨gb248, 2, none⟩ = some (.slice A1_2 l1_2.length c1_2) := (blk_cell BK248.out 2).trans rfl; have hfz66_0 := blk_frozen BK248.out 0; have hfz66_1 := blk_frozen BK248.out 1; have hfz66_2 := blk_frozen BK248.out 2) | ((with_reducible refine gate_callee (f := 17) rfl ?_); refine goesL_ (some 43) rfl rfl Try.func17 (by kernel_rfl) rfl #[.agg #[.int .i64 a1_0, .int .i64 a1_1, .slice A1_2 l1_2.length c1_2]] rfl (by (try simp only [List.map_toArray, List.map_cons, List.map_nil]); first | done | rfl | (simp only [List.length_drop, List.length_take]; rfl)) ?_; (with_reducible refine (laws_toPlane.calls k a1_0 a1_1 _ _ l1_2 t271 t272 t273 _ ?side1 ?side2 A28.out).mono ?_); (case side1 => exact Kd.C_below HR1_2.out (by repeat (first | (with_reducible first | exact HB.out | apply below_alloc | apply pw_below_drewN | apply below_drew1 | refine below_set ?_ GE247.out | refine below_set ?_ GE248.out | refine below_set ?_ GE264.out | refine below_set ?_ GE270.out) | exact HB.out))); (case side2 => exact HC1_2.out); rintro e w67 ⟨v274, rfl, ho0, hb⟩; refine ⟨_, rfl, ?_⟩; have n0_ := Aside0.mk (Kd.R_elder' (by (with_reducible repeat (first | apply Kd.R_alloc | apply Kd.R_drewN | apply Kd.R_drew)); exact (Kd.R_mono (Kd.R_far (p := ⟨gb270, 2, none⟩) (Kd.R_far (p := ⟨gb270, 1, none⟩) (Kd.R_far (p := ⟨gb270, 0, none⟩) (Kd.R_types HO255.out BK270.out (by decide)) (fun _ hk => hk.2) (.int .i64 t265)) (fun _ hk => hk.2) (.int .i64 t266)) (fun _ hk => hk.2) (.slice Ao64 t267.length co64)) (fun _ h_ => h_.1))) (Kd.R_base ho0) hb); have n1_ := Aside0.mk (Kd.R_elder' (by (with_reducible repeat (first | apply Kd.R_alloc | apply Kd.R_drewN | apply Kd.R_drew)); exact (Kd.R_mono (Kd.R_far (p := ⟨gb270, 2, none⟩) (Kd.R_far (p := ⟨gb270, 1, none⟩) (Kd.R_far (p := ⟨gb270, 0, none⟩) (Kd.R_types HO260.out BK270.out (by decide)) (fun _ hk => hk.2) (.int .i64 t265)) (fun _ hk => hk.2) (.int .i64 t266)) (fun _ hk => hk.2) (.slice Ao64 t267.length co64)) (fun _ h_ => h_.1))) (Kd.R_base ho0) hb); have n2_ := Aside0.mk (Kd.R_elder' (by (with_reducible repeat (first | apply Kd.R_alloc | apply Kd.R_drewN | apply Kd.R_drew)); exact (Kd.R_mono (Kd.R_far (p := ⟨gb270, 2, none⟩) (Kd.R_far (p := ⟨gb270, 1, none⟩) (Kd.R_far (p := ⟨gb270, 0, none⟩) (Kd.R_types HO269.out BK270.out (by decide)) (fun _ hk => hk.2) (.int .i64 t265)) (fun _ hk => hk.2) (.int .i64 t266)) (fun _ hk => hk.2) (.slice Ao64 t267.length co64)) (fun _ h_ => h_.1))) (Kd.R_base ho0) hb); have n3_ := Aside0.mk (Kd.R_lower (Kd.R_new' (Kd.R_new' (Kd.R_new' ho0 (Kd.R_lt (by (with_reducible repeat (first | apply Kd.R_alloc | apply Kd.R_drewN | apply Kd.R_drew)); exact (Kd.R_mono (Kd.R_far (p := ⟨gb270, 2, none⟩) (Kd.R_far (p := ⟨gb270, 1, none⟩) (Kd.R_far (p := ⟨gb270, 0, none⟩) (Kd.R_types HO255.out BK270.out (by decide)) (fun _ hk => hk.2) (.int .i64 t265)) (fun _ hk => hk.2) (.int .i64 t266)) (fun _ hk => hk.2) (.slice Ao64 t267.length co64)) (fun _ h_ => h_.1))))) (Kd.R_lt (by (with_reducible repeat (first | apply Kd.R_alloc | apply Kd.R_drewN | apply Kd.R_drew)); exact (Kd.R_mono (Kd.R_far (p := ⟨gb270, 2, none⟩) (Kd.R_far (p := ⟨gb270, 1, none⟩) (Kd.R_far (p := ⟨gb270, 0, none⟩) (Kd.R_types HO260.out BK270.out (by decide)) (fun _ hk => hk.2) (.int .i64 t265)) (fun _ hk => hk.2) (.int .i64 t266)) (fun _ hk => hk.2) (.slice Ao64 t267.length co64)) (fun _ h_ => h_.1))))) (Kd.R_lt (by (with_reducible repeat (first | apply Kd.R_alloc | apply Kd.R_drewN | apply Kd.R_drew)); exact (Kd.R_mono (Kd.R_far (p := ⟨gb270, 2, none⟩) (Kd.R_far (p := ⟨gb270, 1, none⟩) (Kd.R_far (p := ⟨gb270, 0, none⟩) (Kd.R_types HO269.out BK270.out (by decide)) (fun _ hk => hk.2) (.int .i64 t265)) (fun _ hk => hk.2) (.int .i64 t266)) (fun _ hk => hk.2) (.slice Ao64 t267.length co64)) (fun _ h_ => h_.1))))) (below_size (by repeat (first | (with_reducible first | exact HB.out | apply below_alloc | apply pw_below_drewN | apply below_drew1 | refine below_set ?_ GE247.out | refine below_set ?_ GE248.out | refine below_set ?_ GE264.out | refine below_set ?_ GE270.out) | exact HB.out)))); have n4_ := Aside0.mk (blk_below (g := gb247) (o := .cells #[.int .i64 a0_0, .int .i64 a0_1, .slice A0_2 l0_2.length c0_2] 24 (0, 0)) (by (with_reducible repeat (first | refine blk_drewN ?_ _ | refine blk_drew ?_ | refine blk_alloc ?_ _)); refine blk_far ?_ NB247_270.out _; (with_reducible repeat (first | refine blk_drewN ?_ _ | refine blk_drew ?_ | refine blk_alloc ?_ _)); refine blk_far ?_ NB247_270.out _; (with_reducible repeat (first | refine blk_drewN ?_ _ | refine blk_drew ?_ | refine blk_alloc ?_ _)); refine blk_far ?_ NB247_270.out _; (with_reducible repeat (first | refine blk_drewN ?_ _ | refine blk_drew ?_ | refine blk_alloc ?_ _)); exact BK247.out) hb); have n5_ := Aside0.mk (blk_below (g := gb248) (o := .cells #[.int .i64 a1_0, .int .i64 a1_1, .slice A1_2 l1_2.length c1_2] 24 (0, 0)) (by (with_reducible repeat (first | refine blk_drewN ?_ _ | refine blk_drew ?_ | refine blk_alloc ?_ _)); refine blk_far ?_ NB248_270.out _; (with_reducible repeat (first | refine blk_drewN ?_ _ | refine blk_drew ?_ | refine blk_alloc ?_ _)); refine blk_far ?_ NB248_270.out _; (with_reducible repeat (first | refine blk_drewN ?_ _ | refine blk_drew ?_ | refine blk_alloc ?_ _)); refine blk_far ?_ NB248_270.out _; (with_reducible repeat (first | refine blk_drewN ?_ _ | refine blk_drew ?_ | refine blk_alloc ?_ _)); exact BK248.out) hb); have n6_ := Aside0.mk (blk_below (g := gb264) (o := .cells #[.int .i64 t261, .int .i64 t262, .int .i64 t263] 27 (0, 0)) (by (with_reducible repeat (first | refine blk_drewN ?_ _ | refine blk_drew ?_ | refine blk_alloc ?_ _)); refine blk_far ?_ NB264_270.out _; (with_reducible repeat (first | refine blk_drewN ?_ _ | refine blk_drew ?_ | refine blk_alloc ?_ _)); refine blk_far ?_ NB264_270.out _; (with_reducible repeat (first | refine blk_drewN ?_ _ | refine blk_drew ?_ | refine blk_alloc ?_ _)); refine blk_far ?_ NB264_270.out _; (with_reducible repeat (first | refine blk_drewN ?_ _ | refine blk_drew ?_ | refine blk_alloc ?_ _)); exact BK264.out) hb); have n7_ := Aside0.mk (blk_below (g := gb270) (o := .cells #[.int .i64 t265, .int .i64 t266, .slice Ao64 t267.length co64] 29 (0, 0)) (by (with_reducible repeat (first | refine blk_drewN ?_ _ | refine blk_drew ?_ | refine blk_alloc ?_ _)); refine blk_put (cs := #[.int .i64 t265, .int .i64 t266, .slice none 0 0]) ?_ 2 _ rfl; (with_reducible repeat (first | refine blk_drewN ?_ _ | refine blk_drew ?_ | refine blk_alloc ?_ _)); refine blk_put (cs := #[.int .i64 t265, .int .i64 0, .slice none 0 0]) ?_ 1 _ rfl; (with_reducible repeat (first | refine blk_drewN ?_ _ | refine blk_drew ?_ | refine blk_alloc ?_ _)); refine blk_put (cs := #[.int .i64 0, .int .i64 0, .slice none 0 0]) ?_ 0 _ rfl; (with_reducible repeat (first | refine blk_drewN ?_ _ | refine blk_drew ?_ | refine blk_alloc ?_ _)); exact BK270.out) hb); have n8_ := Aside0.mk (below_step (by repeat (first | (with_reducible first | exact HB.out | apply below_alloc | apply pw_below_drewN | apply below_drew1 | refine below_set ?_ GE247.out | refine below_set ?_ GE248.out | refine below_set ?_ GE264.out | refine below_set ?_ GE270.out) | exact HB.out)) hb); clear HO255; clear HO260; clear HO269; clear BK247; clear BK248; clear BK264; clear BK270; clear HB; have HO255 := n0_; have HO260 := n1_; have HO269 := n2_; have HO275 := n3_; have BK247 := n4_; have BK248 := n5_; have BK264 := n6_; have BK270 := n7_; have HB := n8_; clear n0_ n1_ n2_ n3_ n4_ n5_ n6_ n7_ n8_; (try clear hb); (try clear hb2); (try clear hk); (try clear hi); (try clear ho0)) | ((with_reducible refine gate_dst (N := 18) rfl ?_); refine box_event ?hg (N := 18) ?hd (cs := #[.int .i64 0, .int .i64 0, .slice none 0 0]) (t := 29) ?hr ?_; (case hd => rfl); (case hg => rfl); (case hr => first | (go_simp; done) | (go_simp; rfl)); intro gb276 hg w68 hbox hb; have n0_ := Aside0.mk (Kd.R_below (by (with_reducible repeat (first | apply Kd.R_alloc | apply Kd.R_drewN | apply Kd.R_drew)); exact HO255.out) hb); have n1_ := Aside0.mk (Kd.R_below (by (with_reducible repeat (first | apply Kd.R_alloc | apply Kd.R_drewN | apply Kd.R_drew)); exact HO260.out) hb); have n2_ := Aside0.mk (Kd.R_below (by (with_reducible repeat (first | apply Kd.R_alloc | apply Kd.R_drewN | apply Kd.R_drew)); exact HO269.out) hb); have n3_ := Aside0.mk (Kd.R_below (by (with_reducible repeat (first | apply Kd.R_alloc | apply Kd.R_drewN | apply Kd.R_drew)); exact HO275.out) hb); have n4_ := Aside0.mk (blk_below (g := gb247) (o := .cells #[.int .i64 a0_0, .int .i64 a0_1, .slice A0_2 l0_2.length c0_2] 24 (0, 0)) (by (with_reducible repeat (first | refine blk_drewN ?_ _ | refine blk_drew ?_ | refine blk_alloc ?_ _)); exact BK247.out) hb); have n5_ := Aside0.mk (blk_below (g := gb248) (o := .cells #[.int .i64 a1_0, .int .i64 a1_1, .slice A1_2 l1_2.length c1_2] 24 (0, 0)) (by (with_reducible repeat (first | refine blk_drewN ?_ _ | refine blk_drew ?_ | refine blk_alloc ?_ _)); exact BK248.out) hb); have n6_ := Aside0.mk (blk_below (g := gb264) (o := .cells #[.int .i64 t261, .int .i64 t262, .int .i64 t263] 27 (0, 0)) (by (with_reducible repeat (first | refine blk_drewN ?_ _ | refine blk_drew ?_ | refine blk_alloc ?_ _)); exact BK264.out) hb); have n7_ := Aside0.mk (blk_below (g := gb270) (o := .cells #[.int .i64 t265, .int .i64 t266, .slice Ao64 t267.length co64] 29 (0, 0)) (by (with_reducible repeat (first | refine blk_drewN ?_ _ | refine blk_drew ?_ | refine blk_alloc ?_ _)); exact BK270.out) hb); have n8_ := Aside0.mk (below_step (by repeat (first | (with_reducible first | exact HB.out | apply below_alloc | apply pw_below_drewN | apply below_drew1 | refine below_set ?_ GE247.out | refine below_set ?_ GE248.out | refine below_set ?_ GE264.out | refine below_set ?_ GE270.out) | exact HB.out)) hb); have n9_ := Aside0.mk (hbox); have n10_ := Aside0.mk ((by rw [hg]; exact (below_size (by repeat (first | (with_reducible first | exact HB.out | apply below_alloc | apply pw_below_drewN | apply below_drew1 | refine below_set ?_ GE247.out | refine below_set ?_ GE248.out | refine below_set ?_ GE264.out | refine below_set ?_ GE270.out) | exact HB.out))) : w.heap.size ≤ gb276)); have n11_ := n10_; have n12_ := Aside0.mk ((by rw [hg]; exact Nat.ne_of_lt (blk_lt (g := gb247) (o := .cells #[.int .i64 a0_0, .int .i64 a0_1, .slice A0_2 l0_2.length c0_2] 24 (0, 0)) (by (with_reducible repeat (first | refine blk_drewN ?_ _ | refine blk_drew ?_ | refine blk_alloc ?_ _)); exact BK247.out)) : gb247 ≠ gb276)); have n13_ := Aside0.mk ((by rw [hg]; exact Nat.ne_of_gt (blk_lt (g := gb247) (o := .cells #[.int .i64 a0_0, .int .i64 a0_1, .slice A0_2 l0_2.length c0_2] 24 (0, 0)) (by (with_reducible repeat (first | refine blk_drewN ?_ _ | refine blk_drew ?_ | refine blk_alloc ?_ _)); exact BK247.out)) : gb276 ≠ gb247)); have n14_ := Aside0.mk ((by rw [hg]; exact Nat.ne_of_lt (blk_lt (g := gb248) (o := .cells #[.int .i64 a1_0, .int .i64 a1_1, .slice A1_2 l1_2.length c1_2] 24 (0, 0)) (by (with_reducible repeat (first | refine blk_drewN ?_ _ | refine blk_drew ?_ | refine blk_alloc ?_ _)); exact BK248.out)) : gb248 ≠ gb276)); have n15_ := Aside0.mk ((by rw [hg]; exact Nat.ne_of_gt (blk_lt (g := gb248) (o := .cells #[.int .i64 a1_0, .int .i64 a1_1, .slice A1_2 l1_2.length c1_2] 24 (0, 0)) (by (with_reducible repeat (first | refine blk_drewN ?_ _ | refine blk_drew ?_ | refine blk_alloc ?_ _)); exact BK248.out)) : gb276 ≠ gb248)); have n16_ := Aside0.mk ((by rw [hg]; exact Nat.ne_of_lt (blk_lt (g := gb264) (o := .cells #[.int .i64 t261, .int .i64 t262, .int .i64 t263] 27 (0, 0)) (by (with_reducible repeat (first | refine blk_drewN ?_ _ | refine blk_drew ?_ | refine blk_alloc ?_ _)); exact BK264.out)) : gb264 ≠ gb276)); have n17_ := Aside0.mk ((by rw [hg]; exact Nat.ne_of_gt (blk_lt (g := gb264) (o := .cells #[.int .i64 t261, .int .i64 t262, .int .i64 t263] 27 (0, 0)) (by (with_reducible repeat (first | refine blk_drewN ?_ _ | refine blk_drew ?_ | refine blk_alloc ?_ _)); exact BK264.out)) : gb276 ≠ gb264)); have n18_ := Aside0.mk ((by rw [hg]; exact Nat.ne_of_lt (blk_lt (g := gb270) (o := .cells #[.int .i64 t265, .int .i64 t266, .slice Ao64 t267.length co64] 29 (0, 0)) (by (with_reducible repeat (first | refine blk_drewN ?_ _ | refine blk_drew ?_ | refine blk_alloc ?_ _)); exact BK270.out)) : gb270 ≠ gb276)); have n19_ := Aside0.mk ((by rw [hg]; exact Nat.ne_of_gt (blk_lt (g := gb270) (o := .cells #[.int .i64 t265, .int .i64 t266, .slice Ao64 t267.length co64] 29 (0, 0)) (by (with_reducible repeat (first | refine blk_drewN ?_ _ | refine blk_drew ?_ | refine blk_alloc ?_ _)); exact BK270.out)) : gb276 ≠ gb270)); clear HO255; clear HO260; clear HO269; clear HO275; clear BK247; clear BK248; clear BK264; clear BK270; clear HB; have HO255 := n0_; have HO260 := n1_; have HO269 := n2_; have HO275 := n3_; have BK247 := n4_; have BK248 := n5_; have BK264 := n6_; have BK270 := n7_; have HB := n8_; have BK276 := n9_; have GW276 := n10_; have GE276 := n11_; have NB247_276 := n12_; have NB276_247 := n13_; have NB248_276 := n14_; have NB276_248 := n15_; have NB264_276 := n16_; have NB276_264 := n17_; have NB270_276 := n18_; have NB276_270 := n19_; clear n0_ n1_ n2_ n3_ n4_ n5_ n6_ n7_ n8_ n9_ n10_ n11_ n12_ n13_ n14_ n15_ n16_ n17_ n18_ n19_; clear hb hbox hg; have hnb69 := NB276_247.out; have hnc69 := NB247_276.out; have hnb70 := NB276_248.out; have hnc70 := NB248_276.out; have hnb71 := NB276_264.out; have hnc71 := NB264_276.out; have hnb72 := NB276_270.out; have hnc72 := NB270_276.out; have hcz73_0 : w68.cell? ⟨gb276, 0, none⟩ = some (.int .i64 0) := (blk_cell BK276.out 0).trans rfl; have hcz73_1 : w68.cell? ⟨gb276, 1, none⟩ = some (.int .i64 0) := (blk_cell BK276.out 1).trans rfl; have hcz73_2 : w68.cell? ⟨gb276, 2, none⟩ = some (.slice none 0 0) := (blk_cell BK276.out 2).trans rfl; have hfz73_0 := blk_frozen BK276.out 0; have hfz73_1 := blk_frozen BK276.out 1; have hfz73_2 := blk_frozen BK276.out 2; obtain ⟨Ao74, co74, eo74⟩ := Kd.R_slice HO275.out; subst eo74; have hcz75_0 : w68.cell? ⟨gb270, 0, none⟩ = some (.int .i64 t265) := (blk_cell BK270.out 0).trans rfl; have hcz75_1 : w68.cell? ⟨gb270, 1, none⟩ = some (.int .i64 t266) := (blk_cell BK270.out 1).trans rfl; have hcz75_2 : w68.cell? ⟨gb270, 2, none⟩ = some (.slice Ao64 t267.length co64) := (blk_cell BK270.out 2).trans rfl; have hfz75_0 := blk_frozen BK270.out 0; have hfz75_1 := blk_frozen BK270.out 1; have hfz75_2 := blk_frozen BK270.out 2) | ((with_reducible refine gate_callee (f := 18) rfl ?_); refine goesL_ (some 51) rfl rfl Try.func18 (by kernel_rfl) rfl #[.agg #[.int .i64 t265, .int .i64 t266, .slice Ao64 t267.length co64], .agg #[.int .i64 t271, .int .i64 t272, .slice Ao74 t273.length co74], .int .i64 a2, .int .i64 a3, .int .i64 a4, .int .i64 a5, .int .i64 a6] rfl (by (try simp only [List.map_toArray, List.map_cons, List.map_nil]); first | done | rfl | (simp only [List.length_drop, List.length_take]; rfl)) ?_; (with_reducible refine (impl_BestMotion.calls k t265 t266 _ _ t267 t271 t272 _ _ t273 a2 a3 a4 a5 a6 t277 t278 t279 _ ?side1 ?side2 ?side3 ?side4 A29.out).mono ?_); (case side1 => refine (Kd.R_reads' (e := 3) (base := w.heap.size) (ok := fun k_ => (((True ∧ some k_ ≠ (v254 : Value).ownBlock) ∧ some k_ ≠ (v259 : Value).ownBlock) ∧ some k_ ≠ (.slice Ao74 t273.length co74 : Value).ownBlock)) (n := t267.length) (c := co64) ?_).2.2; exact (by (with_reducible repeat (first | apply Kd.R_alloc | apply Kd.R_drewN | apply Kd.R_drew)); exact (Kd.R_mono (Kd.R_far (p := ⟨gb276, 2, none⟩) (Kd.R_far (p := ⟨gb276, 1, none⟩) (Kd.R_far (p := ⟨gb276, 0, none⟩) (Kd.R_types HO269.out BK276.out (by decide)) (fun _ hk => hk.2) (.int .i64 t271)) (fun _ hk => hk.2) (.int .i64 t272)) (fun _ hk => hk.2) (.slice Ao74 t273.length co74)) (fun _ h_ => h_.1)))); (case side2 => exact (Kd.R_reads' HO269.out).2.1); (case side3 => refine (Kd.R_reads' (e := 3) (base := w.heap.size) (ok := fun k_ => (((True ∧ some k_ ≠ (v254 : Value).ownBlock) ∧ some k_ ≠ (v259 : Value).ownBlock) ∧ some k_ ≠ (.slice Ao64 t267.length co64 : Value).ownBlock)) (n := t273.length) (c := co74) ?_).2.2; exact (by (with_reducible repeat (first | apply Kd.R_alloc | apply Kd.R_drewN | apply Kd.R_drew)); exact (Kd.R_mono (Kd.R_far (p := ⟨gb276, 2, none⟩) (Kd.R_far (p := ⟨gb276, 1, none⟩) (Kd.R_far (p := ⟨gb276, 0, none⟩) (Kd.R_types HO275.out BK276.out (by decide)) (fun _ hk => hk.2) (.int .i64 t271)) (fun _ hk => hk.2) (.int .i64 t272)) (fun _ hk => hk.2) (.slice Ao74 t273.length co74)) (fun _ h_ => h_.1)))); (case side4 => exact (Kd.R_reads' HO275.out).2.1); rintro e w76 ⟨rfl, hb⟩; refine ⟨_, rfl, ?_⟩; have n0_ := Aside0.mk (Kd.R_below (by (with_reducible repeat (first | apply Kd.R_alloc | apply Kd.R_drewN | apply Kd.R_drew)); exact (Kd.R_mono (Kd.R_far (p := ⟨gb276, 2, none⟩) (Kd.R_far (p := ⟨gb276, 1, none⟩) (Kd.R_far (p := ⟨gb276, 0, none⟩) (Kd.R_types HO255.out BK276.out (by decide)) (fun _ hk => hk.2) (.int .i64 t271)) (fun _ hk => hk.2) (.int .i64 t272)) (fun _ hk => hk.2) (.slice Ao74 t273.length co74)) (fun _ h_ => h_.1))) hb); have n1_ := Aside0.mk (Kd.R_below (by (with_reducible repeat (first | apply Kd.R_alloc | apply Kd.R_drewN | apply Kd.R_drew)); exact (Kd.R_mono (Kd.R_far (p := ⟨gb276, 2, none⟩) (Kd.R_far (p := ⟨gb276, 1, none⟩) (Kd.R_far (p := ⟨gb276, 0, none⟩) (Kd.R_types HO260.out BK276.out (by decide)) (fun _ hk => hk.2) (.int .i64 t271)) (fun _ hk => hk.2) (.int .i64 t272)) (fun _ hk => hk.2) (.slice Ao74 t273.length co74)) (fun _ h_ => h_.1))) hb); have n2_ := Aside0.mk (Kd.R_below (by (with_reducible repeat (first | apply Kd.R_alloc | apply Kd.R_drewN | apply Kd.R_drew)); exact (Kd.R_mono (Kd.R_far (p := ⟨gb276, 2, none⟩) (Kd.R_far (p := ⟨gb276, 1, none⟩) (Kd.R_far (p := ⟨gb276, 0, none⟩) (Kd.R_types HO269.out BK276.out (by decide)) (fun _ hk => hk.2) (.int .i64 t271)) (fun _ hk => hk.2) (.int .i64 t272)) (fun _ hk => hk.2) (.slice Ao74 t273.length co74)) (fun _ h_ => h_.1))) hb); have n3_ := Aside0.mk (Kd.R_below (by (with_reducible repeat (first | apply Kd.R_alloc | apply Kd.R_drewN | apply Kd.R_drew)); exact (Kd.R_mono (Kd.R_far (p := ⟨gb276, 2, none⟩) (Kd.R_far (p := ⟨gb276, 1, none⟩) (Kd.R_far (p := ⟨gb276, 0, none⟩) (Kd.R_types HO275.out BK276.out (by decide)) (fun _ hk => hk.2) (.int .i64 t271)) (fun _ hk => hk.2) (.int .i64 t272)) (fun _ hk => hk.2) (.slice Ao74 t273.length co74)) (fun _ h_ => h_.1))) hb); have n4_ := Aside0.mk (blk_below (g := gb247) (o := .cells #[.int .i64 a0_0, .int .i64 a0_1, .slice A0_2 l0_2.length c0_2] 24 (0, 0)) (by (with_reducible repeat (first | refine blk_drewN ?_ _ | refine blk_drew ?_ | refine blk_alloc ?_ _)); refine blk_far ?_ NB247_276.out _; (with_reducible repeat (first | refine blk_drewN ?_ _ | refine blk_drew ?_ | refine blk_alloc ?_ _)); refine blk_far ?_ NB247_276.out _; (with_reducible repeat (first | refine blk_drewN ?_ _ | refine blk_drew ?_ | refine blk_alloc ?_ _)); refine blk_far ?_ NB247_276.out _; (with_reducible repeat (first | refine blk_drewN ?_ _ | refine blk_drew ?_ | refine blk_alloc ?_ _)); exact BK247.out) hb); have n5_ := Aside0.mk (blk_below (g := gb248) (o := .cells #[.int .i64 a1_0, .int .i64 a1_1, .slice A1_2 l1_2.length c1_2] 24 (0, 0)) (by (with_reducible repeat (first | refine blk_drewN ?_ _ | refine blk_drew ?_ | refine blk_alloc ?_ _)); refine blk_far ?_ NB248_276.out _; (with_reducible repeat (first | refine blk_drewN ?_ _ | refine blk_drew ?_ | refine blk_alloc ?_ _)); refine blk_far ?_ NB248_276.out _; (with_reducible repeat (first | refine blk_drewN ?_ _ | refine blk_drew ?_ | refine blk_alloc ?_ _)); refine blk_far ?_ NB248_276.out _; (with_reducible repeat (first | refine blk_drewN ?_ _ | refine blk_drew ?_ | refine blk_alloc ?_ _)); exact BK248.out) hb); have n6_ := Aside0.mk (blk_below (g := gb264) (o := .cells #[.int .i64 t261, .int .i64 t262, .int .i64 t263] 27 (0, 0)) (by (with_reducible repeat (first | refine blk_drewN ?_ _ | refine blk_drew ?_ | refine blk_alloc ?_ _)); refine blk_far ?_ NB264_276.out _; (with_reducible repeat (first | refine blk_drewN ?_ _ | refine blk_drew ?_ | refine blk_alloc ?_ _)); refine blk_far ?_ NB264_276.out _; (with_reducible repeat (first | refine blk_drewN ?_ _ | refine blk_drew ?_ | refine blk_alloc ?_ _)); refine blk_far ?_ NB264_276.out _; (with_reducible repeat (first | refine blk_drewN ?_ _ | refine blk_drew ?_ | refine blk_alloc ?_ _)); exact BK264.out) hb); have n7_ := Aside0.mk (blk_below (g := gb270) (o := .cells #[.int .i64 t265, .int .i64 t266, .slice Ao64 t267.length co64] 29 (0, 0)) (by (with_reducible repeat (first | refine blk_drewN ?_ _ | refine blk_drew ?_ | refine blk_alloc ?_ _)); refine blk_far ?_ NB270_276.out _; (with_reducible repeat (first | refine blk_drewN ?_ _ | refine blk_drew ?_ | refine blk_alloc ?_ _)); refine blk_far ?_ NB270_276.out _; (with_reducible repeat (first | refine blk_drewN ?_ _ | refine blk_drew ?_ | refine blk_alloc ?_ _)); refine blk_far ?_ NB270_276.out _; (with_reducible repeat (first | refine blk_drewN ?_ _ | refine blk_drew ?_ | refine blk_alloc ?_ _)); exact BK270.out) hb); have n8_ := Aside0.mk (blk_below (g := gb276) (o := .cells #[.int .i64 t271, .int .i64 t272, .slice Ao74 t273.length co74] 29 (0, 0)) (by (with_reducible repeat (first | refine blk_drewN ?_ _ | refine blk_drew ?_ | refine blk_alloc ?_ _)); refine blk_put (cs := #[.int .i64 t271, .int .i64 t272, .slice none 0 0]) ?_ 2 _ rfl; (with_reducible repeat (first | refine blk_drewN ?_ _ | refine blk_drew ?_ | refine blk_alloc ?_ _)); refine blk_put (cs := #[.int .i64 t271, .int .i64 0, .slice none 0 0]) ?_ 1 _ rfl; (with_reducible repeat (first | refine blk_drewN ?_ _ | refine blk_drew ?_ | refine blk_alloc ?_ _)); refine blk_put (cs := #[.int .i64 0, .int .i64 0, .slice none 0 0]) ?_ 0 _ rfl; (with_reducible repeat (first | refine blk_drewN ?_ _ | refine blk_drew ?_ | refine blk_alloc ?_ _)); exact BK276.out) hb); have n9_ := Aside0.mk (below_step (by repeat (first | (with_reducible first | exact HB.out | apply below_alloc | apply pw_below_drewN | apply below_drew1 | refine below_set ?_ GE247.out | refine below_set ?_ GE248.out | refine below_set ?_ GE264.out | refine below_set ?_ GE270.out | refine below_set ?_ GE276.out) | exact HB.out)) hb); clear HO255; clear HO260; clear HO269; clear HO275; clear BK247; clear BK248; clear BK264; clear BK270; clear BK276; clear HB; have HO255 := n0_; have HO260 := n1_; have HO269 := n2_; have HO275 := n3_; have BK247 := n4_; have BK248 := n5_; have BK264 := n6_; have BK270 := n7_; have BK276 := n8_; have HB := n9_; clear n0_ n1_ n2_ n3_ n4_ n5_ n6_ n7_ n8_ n9_; (try clear hb); (try clear hb2); (try clear hk); (try clear hi)) | ((with_reducible refine gate_dst (N := 19) rfl ?_); refine box_event ?hg (N := 19) ?hd (cs := #[.int .i64 0, .int .i64 0, .int .i64 0]) (t := 27) ?hr ?_; (case hd => rfl); (case hg => rfl); (case hr => first | (go_simp; done) | (go_simp; rfl)); intro gb280 hg w77 hbox hb; have n0_ := Aside0.mk (Kd.R_below (by (with_reducible repeat (first | apply Kd.R_alloc | apply Kd.R_drewN | apply Kd.R_drew)); exact HO255.out) hb); have n1_ := Aside0.mk (Kd.R_below (by (with_reducible repeat (first | apply Kd.R_alloc | apply Kd.R_drewN | apply Kd.R_drew)); exact HO260.out) hb); have n2_ := Aside0.mk (Kd.R_below (by (with_reducible repeat (first | apply Kd.R_alloc | apply Kd.R_drewN | apply Kd.R_drew)); exact HO269.out) hb); have n3_ := Aside0.mk (Kd.R_below (by (with_reducible repeat (first | apply Kd.R_alloc | apply Kd.R_drewN | apply Kd.R_drew)); exact HO275.out) hb); have n4_ := Aside0.mk (blk_below (g := gb247) (o := .cells #[.int .i64 a0_0, .int .i64 a0_1, .slice A0_2 l0_2.length c0_2] 24 (0, 0)) (by (with_reducible repeat (first | refine blk_drewN ?_ _ | refine blk_drew ?_ | refine blk_alloc ?_ _)); exact BK247.out) hb); have n5_ := Aside0.mk (blk_below (g := gb248) (o := .cells #[.int .i64 a1_0, .int .i64 a1_1, .slice A1_2 l1_2.length c1_2] 24 (0, 0)) (by (with_reducible repeat (first | refine blk_drewN ?_ _ | refine blk_drew ?_ | refine blk_alloc ?_ _)); exact BK248.out) hb); have n6_ := Aside0.mk (blk_below (g := gb264) (o := .cells #[.int .i64 t261, .int .i64 t262, .int .i64 t263] 27 (0, 0)) (by (with_reducible repeat (first | refine blk_drewN ?_ _ | refine blk_drew ?_ | refine blk_alloc ?_ _)); exact BK264.out) hb); have n7_ := Aside0.mk (blk_below (g := gb270) (o := .cells #[.int .i64 t265, .int .i64 t266, .slice Ao64 t267.length co64] 29 (0, 0)) (by (with_reducible repeat (first | refine blk_drewN ?_ _ | refine blk_drew ?_ | refine blk_alloc ?_ _)); exact BK270.out) hb); have n8_ := Aside0.mk (blk_below (g := gb276) (o := .cells #[.int .i64 t271, .int .i64 t272, .slice Ao74 t273.length co74] 29 (0, 0)) (by (with_reducible repeat (first | refine blk_drewN ?_ _ | refine blk_drew ?_ | refine blk_alloc ?_ _)); exact BK276.out) hb); have n9_ := Aside0.mk (below_step (by repeat (first | (with_reducible first | exact HB.out | apply below_alloc | apply pw_below_drewN | apply below_drew1 | refine below_set ?_ GE247.out | refine below_set ?_ GE248.out | refine below_set ?_ GE264.out | refine below_set ?_ GE270.out | refine below_set ?_ GE276.out) | exact HB.out)) hb); have n10_ := Aside0.mk (hbox); have n11_ := Aside0.mk ((by rw [hg]; exact (below_size (by repeat (first | (with_reducible first | exact HB.out | apply below_alloc | apply pw_below_drewN | apply below_drew1 | refine below_set ?_ GE247.out | refine below_set ?_ GE248.out | refine below_set ?_ GE264.out | refine below_set ?_ GE270.out | refine below_set ?_ GE276.out) | exact HB.out))) : w.heap.size ≤ gb280)); have n12_ := n11_; have n13_ := Aside0.mk ((by rw [hg]; exact Nat.ne_of_lt (blk_lt (g := gb247) (o := .cells #[.int .i64 a0_0, .int .i64 a0_1, .slice A0_2 l0_2.length c0_2] 24 (0, 0)) (by (with_reducible repeat (first | refine blk_drewN ?_ _ | refine blk_drew ?_ | refine blk_alloc ?_ _)); exact BK247.out)) : gb247 ≠ gb280)); have n14_ := Aside0.mk ((by rw [hg]; exact Nat.ne_of_gt (blk_lt (g := gb247) (o := .cells #[.int .i64 a0_0, .int .i64 a0_1, .slice A0_2 l0_2.length c0_2] 24 (0, 0)) (by (with_reducible repeat (first | refine blk_drewN ?_ _ | refine blk_drew ?_ | refine blk_alloc ?_ _)); exact BK247.out)) : gb280 ≠ gb247)); have n15_ := Aside0.mk ((by rw [hg]; exact Nat.ne_of_lt (blk_lt (g := gb248) (o := .cells #[.int .i64 a1_0, .int .i64 a1_1, .slice A1_2 l1_2.length c1_2] 24 (0, 0)) (by (with_reducible repeat (first | refine blk_drewN ?_ _ | refine blk_drew ?_ | refine blk_alloc ?_ _)); exact BK248.out)) : gb248 ≠ gb280)); have n16_ := Aside0.mk ((by rw [hg]; exact Nat.ne_of_gt (blk_lt (g := gb248) (o := .cells #[.int .i64 a1_0, .int .i64 a1_1, .slice A1_2 l1_2.length c1_2] 24 (0, 0)) (by (with_reducible repeat (first | refine blk_drewN ?_ _ | refine blk_drew ?_ | refine blk_alloc ?_ _)); exact BK248.out)) : gb280 ≠ gb248)); have n17_ := Aside0.mk ((by rw [hg]; exact Nat.ne_of_lt (blk_lt (g := gb264) (o := .cells #[.int .i64 t261, .int .i64 t262, .int .i64 t263] 27 (0, 0)) (by (with_reducible repeat (first | refine blk_drewN ?_ _ | refine blk_drew ?_ | refine blk_alloc ?_ _)); exact BK264.out)) : gb264 ≠ gb280)); have n18_ := Aside0.mk ((by rw [hg]; exact Nat.ne_of_gt (blk_lt (g := gb264) (o := .cells #[.int .i64 t261, .int .i64 t262, .int .i64 t263] 27 (0, 0)) (by (with_reducible repeat (first | refine blk_drewN ?_ _ | refine blk_drew ?_ | refine blk_alloc ?_ _)); exact BK264.out)) : gb280 ≠ gb264)); have n19_ := Aside0.mk ((by rw [hg]; exact Nat.ne_of_lt (blk_lt (g := gb270) (o := .cells #[.int .i64 t265, .int .i64 t266, .slice Ao64 t267.length co64] 29 (0, 0)) (by (with_reducible repeat (first | refine blk_drewN ?_ _ | refine blk_drew ?_ | refine blk_alloc ?_ _)); exact BK270.out)) : gb270 ≠ gb280)); have n20_ := Aside0.mk ((by rw [hg]; exact Nat.ne_of_gt (blk_lt (g := gb270) (o := .cells #[.int .i64 t265, .int .i64 t266, .slice Ao64 t267.length co64] 29 (0, 0)) (by (with_reducible repeat (first | refine blk_drewN ?_ _ | refine blk_drew ?_ | refine blk_alloc ?_ _)); exact BK270.out)) : gb280 ≠ gb270)); have n21_ := Aside0.mk ((by rw [hg]; exact Nat.ne_of_lt (blk_lt (g := gb276) (o := .cells #[.int .i64 t271, .int .i64 t272, .slice Ao74 t273.length co74] 29 (0, 0)) (by (with_reducible repeat (first | refine blk_drewN ?_ _ | refine blk_drew ?_ | refine blk_alloc ?_ _)); exact BK276.out)) : gb276 ≠ gb280)); have n22_ := Aside0.mk ((by rw [hg]; exact Nat.ne_of_gt (blk_lt (g := gb276) (o := .cells #[.int .i64 t271, .int .i64 t272, .slice Ao74 t273.length co74] 29 (0, 0)) (by (with_reducible repeat (first | refine blk_drewN ?_ _ | refine blk_drew ?_ | refine blk_alloc ?_ _)); exact BK276.out)) : gb280 ≠ gb276)); clear HO255; clear HO260; clear HO269; clear HO275; clear BK247; clear BK248; clear BK264; clear BK270; clear BK276; clear HB; have HO255 := n0_; have HO260 := n1_; have HO269 := n2_; have HO275 := n3_; have BK247 := n4_; have BK248 := n5_; have BK264 := n6_; have BK270 := n7_; have BK276 := n8_; have HB := n9_; have BK280 := n10_; have GW280 := n11_; have GE280 := n12_; have NB247_280 := n13_; have NB280_247 := n14_; have NB248_280 := n15_; have NB280_248 := n16_; have NB264_280 := n17_; have NB280_264 := n18_; have NB270_280 := n19_; have NB280_270 := n20_; have NB276_280 := n21_; have NB280_276 := n22_; clear n0_ n1_ n2_ n3_ n4_ n5_ n6_ n7_ n8_ n9_ n10_ n11_ n12_ n13_ n14_ n15_ n16_ n17_ n18_ n19_ n20_ n21_ n22_; clear hb hbox hg; have hnb78 := NB280_247.out; have hnc78 := NB247_280.out; have hnb79 := NB280_248.out; have hnc79 := NB248_280.out; have hnb80 := NB280_264.out; have hnc80 := NB264_280.out; have hnb81 := NB280_270.out; have hnc81 := NB270_280.out; have hnb82 := NB280_276.out; have hnc82 := NB276_280.out; have hcz83_0 : w77.cell? ⟨gb280, 0, none⟩ = some (.int .i64 0) := (blk_cell BK280.out 0).trans rfl; have hcz83_1 : w77.cell? ⟨gb280, 1, none⟩ = some (.int .i64 0) := (blk_cell BK280.out 1).trans rfl; have hcz83_2 : w77.cell? ⟨gb280, 2, none⟩ = some (.int .i64 0) := (blk_cell BK280.out 2).trans rfl; have hfz83_0 := blk_frozen BK280.out 0; have hfz83_1 := blk_frozen BK280.out 1; have hfz83_2 := blk_frozen BK280.out 2; have hcz84_0 : w77.cell? ⟨gb264, 0, none⟩ = some (.int .i64 t261) := (blk_cell BK264.out 0).trans rfl; have hcz84_1 : w77.cell? ⟨gb264, 1, none⟩ = some (.int .i64 t262) := (blk_cell BK264.out 1).trans rfl; have hcz84_2 : w77.cell? ⟨gb264, 2, none⟩ = some (.int .i64 t263) := (blk_cell BK264.out 2).trans rfl; have hfz84_0 := blk_frozen BK264.out 0; have hfz84_1 := blk_frozen BK264.out 1; have hfz84_2 := blk_frozen BK264.out 2) | ((with_reducible refine gate_callee (f := 19) rfl ?_); refine goesL_ (some 54) rfl rfl Try.func19 (by kernel_rfl) rfl #[.agg #[.int .i64 t277, .int .i64 t278, .int .i64 t279], .agg #[.int .i64 t261, .int .i64 t262, .int .i64 t263]] rfl (by (try simp only [List.map_toArray, List.map_cons, List.map_nil]); first | done | rfl | (simp only [List.length_drop, List.length_take]; rfl)) ?_; (with_reducible refine (laws_eqMotion.calls t277 t278 t279 t261 t262 t263 true _ A30.out).mono ?_); rintro e w85 ⟨rfl, hb⟩; refine ⟨_, rfl, ?_⟩; have n0_ := Aside0.mk (Kd.R_below (by (with_reducible repeat (first | apply Kd.R_alloc | apply Kd.R_drewN | apply Kd.R_drew)); exact (Kd.R_mono (Kd.R_far (p := ⟨gb280, 2, none⟩) (Kd.R_far (p := ⟨gb280, 1, none⟩) (Kd.R_far (p := ⟨gb280, 0, none⟩) (Kd.R_types HO255.out BK280.out (by decide)) (fun _ hk => hk.2) (.int .i64 t277)) (fun _ hk => hk.2) (.int .i64 t278)) (fun _ hk => hk.2) (.int .i64 t279)) (fun _ h_ => h_.1))) hb); have n1_ := Aside0.mk (Kd.R_below (by (with_reducible repeat (first | apply Kd.R_alloc | apply Kd.R_drewN | apply Kd.R_drew)); exact (Kd.R_mono (Kd.R_far (p := ⟨gb280, 2, none⟩) (Kd.R_far (p := ⟨gb280, 1, none⟩) (Kd.R_far (p := ⟨gb280, 0, none⟩) (Kd.R_types HO260.out BK280.out (by decide)) (fun _ hk => hk.2) (.int .i64 t277)) (fun _ hk => hk.2) (.int .i64 t278)) (fun _ hk => hk.2) (.int .i64 t279)) (fun _ h_ => h_.1))) hb); have n2_ := Aside0.mk (Kd.R_below (by (with_reducible repeat (first | apply Kd.R_alloc | apply Kd.R_drewN | apply Kd.R_drew)); exact (Kd.R_mono (Kd.R_far (p := ⟨gb280, 2, none⟩) (Kd.R_far (p := ⟨gb280, 1, none⟩) (Kd.R_far (p := ⟨gb280, 0, none⟩) (Kd.R_types HO269.out BK280.out (by decide)) (fun _ hk => hk.2) (.int .i64 t277)) (fun _ hk => hk.2) (.int .i64 t278)) (fun _ hk => hk.2) (.int .i64 t279)) (fun _ h_ => h_.1))) hb); have n3_ := Aside0.mk (Kd.R_below (by (with_reducible repeat (first | apply Kd.R_alloc | apply Kd.R_drewN | apply Kd.R_drew)); exact (Kd.R_mono (Kd.R_far (p := ⟨gb280, 2, none⟩) (Kd.R_far (p := ⟨gb280, 1, none⟩) (Kd.R_far (p := ⟨gb280, 0, none⟩) (Kd.R_types HO275.out BK280.out (by decide)) (fun _ hk => hk.2) (.int .i64 t277)) (fun _ hk => hk.2) (.int .i64 t278)) (fun _ hk => hk.2) (.int .i64 t279)) (fun _ h_ => h_.1))) hb); have n4_ := Aside0.mk (blk_below (g := gb247) (o := .cells #[.int .i64 a0_0, .int .i64 a0_1, .slice A0_2 l0_2.length c0_2] 24 (0, 0)) (by (with_reducible repeat (first | refine blk_drewN ?_ _ | refine blk_drew ?_ | refine blk_alloc ?_ _)); refine blk_far ?_ NB247_280.out _; (with_reducible repeat (first | refine blk_drewN ?_ _ | refine blk_drew ?_ | refine blk_alloc ?_ _)); refine blk_far ?_ NB247_280.out _; (with_reducible repeat (first | refine blk_drewN ?_ _ | refine blk_drew ?_ | refine blk_alloc ?_ _)); refine blk_far ?_ NB247_280.out _; (with_reducible repeat (first | refine blk_drewN ?_ _ | refine blk_drew ?_ | refine blk_alloc ?_ _)); exact BK247.out) hb); have n5_ := Aside0.mk (blk_below (g := gb248) (o := .cells #[.int .i64 a1_0, .int .i64 a1_1, .slice A1_2 l1_2.length c1_2] 24 (0, 0)) (by (with_reducible repeat (first | refine blk_drewN ?_ _ | refine blk_drew ?_ | refine blk_alloc ?_ _)); refine blk_far ?_ NB248_280.out _; (with_reducible repeat (first | refine blk_drewN ?_ _ | refine blk_drew ?_ | refine blk_alloc ?_ _)); refine blk_far ?_ NB248_280.out _; (with_reducible repeat (first | refine blk_drewN ?_ _ | refine blk_drew ?_ | refine blk_alloc ?_ _)); refine blk_far ?_ NB248_280.out _; (with_reducible repeat (first | refine blk_drewN ?_ _ | refine blk_drew ?_ | refine blk_alloc ?_ _)); exact BK248.out) hb); have n6_ := Aside0.mk (blk_below (g := gb264) (o := .cells #[.int .i64 t261, .int .i64 t262, .int .i64 t263] 27 (0, 0)) (by (with_reducible repeat (first | refine blk_drewN ?_ _ | refine blk_drew ?_ | refine blk_alloc ?_ _)); refine blk_far ?_ NB264_280.out _; (with_reducible repeat (first | refine blk_drewN ?_ _ | refine blk_drew ?_ | refine blk_alloc ?_ _)); refine blk_far ?_ NB264_280.out _; (with_reducible repeat (first | refine blk_drewN ?_ _ | refine blk_drew ?_ | refine blk_alloc ?_ _)); refine blk_far ?_ NB264_280.out _; (with_reducible repeat (first | refine blk_drewN ?_ _ | refine blk_drew ?_ | refine blk_alloc ?_ _)); exact BK264.out) hb); have n7_ := Aside0.mk (blk_below (g := gb270) (o := .cells #[.int .i64 t265, .int .i64 t266, .slice Ao64 t267.length co64] 29 (0, 0)) (by (with_reducible repeat (first | refine blk_drewN ?_ _ | refine blk_drew ?_ | refine blk_alloc ?_ _)); refine blk_far ?_ NB270_280.out _; (with_reducible repeat (first | refine blk_drewN ?_ _ | refine blk_drew ?_ | refine blk_alloc ?_ _)); refine blk_far ?_ NB270_280.out _; (with_reducible repeat (first | refine blk_drewN ?_ _ | refine blk_drew ?_ | refine blk_alloc ?_ _)); refine blk_far ?_ NB270_280.out _; (with_reducible repeat (first | refine blk_drewN ?_ _ | refine blk_drew ?_ | refine blk_alloc ?_ _)); exact BK270.out) hb); have n8_ := Aside0.mk (blk_below (g := gb276) (o := .cells #[.int .i64 t271, .int .i64 t272, .slice Ao74 t273.length co74] 29 (0, 0)) (by (with_reducible repeat (first | refine blk_drewN ?_ _ | refine blk_drew ?_ | refine blk_alloc ?_ _)); refine blk_far ?_ NB276_280.out _; (with_reducible repeat (first | refine blk_drewN ?_ _ | refine blk_drew ?_ | refine blk_alloc ?_ _)); refine blk_far ?_ NB276_280.out _; (with_reducible repeat (first | refine blk_drewN ?_ _ | refine blk_drew ?_ | refine blk_alloc ?_ _)); refine blk_far ?_ NB276_280.out _; (with_reducible repeat (first | refine blk_drewN ?_ _ | refine blk_drew ?_ | refine blk_alloc ?_ _)); exact BK276.out) hb); have n9_ := Aside0.mk (blk_below (g := gb280) (o := .cells #[.int .i64 t277, .int .i64 t278, .int .i64 t279] 27 (0, 0)) (by (with_reducible repeat (first | refine blk_drewN ?_ _ | refine blk_drew ?_ | refine blk_alloc ?_ _)); refine blk_put (cs := #[.int .i64 t277, .int .i64 t278, .int .i64 0]) ?_ 2 _ rfl; (with_reducible repeat (first | refine blk_drewN ?_ _ | refine blk_drew ?_ | refine blk_alloc ?_ _)); refine blk_put (cs := #[.int .i64 t277, .int .i64 0, .int .i64 0]) ?_ 1 _ rfl; (with_reducible repeat (first | refine blk_drewN ?_ _ | refine blk_drew ?_ | refine blk_alloc ?_ _)); refine blk_put (cs := #[.int .i64 0, .int .i64 0, .int .i64 0]) ?_ 0 _ rfl; (with_reducible repeat (first | refine blk_drewN ?_ _ | refine blk_drew ?_ | refine blk_alloc ?_ _)); exact BK280.out) hb); have n10_ := Aside0.mk (below_step (by repeat (first | (with_reducible first | exact HB.out | apply below_alloc | apply pw_below_drewN | apply below_drew1 | refine below_set ?_ GE247.out | refine below_set ?_ GE248.out | refine below_set ?_ GE264.out | refine below_set ?_ GE270.out | refine below_set ?_ GE276.out | refine below_set ?_ GE280.out) | exact HB.out)) hb); clear HO255; clear HO260; clear HO269; clear HO275; clear BK247; clear BK248; clear BK264; clear BK270; clear BK276; clear BK280; clear HB; have HO255 := n0_; have HO260 := n1_; have HO269 := n2_; have HO275 := n3_; have BK247 := n4_; have BK248 := n5_; have BK264 := n6_; have BK270 := n7_; have BK276 := n8_; have BK280 := n9_; have HB := n10_; clear n0_ n1_ n2_ n3_ n4_ n5_ n6_ n7_ n8_ n9_ n10_; (try clear hb); (try clear hb2); (try clear hk); (try clear hi)))
    have n0_ := Aside0.mk (Kd.R_drew HO255.out)
    have n1_ := Aside0.mk (Kd.R_drew HO260.out)
    have n2_ := Aside0.mk (Kd.R_drew HO269.out)
    have n3_ := Aside0.mk (Kd.R_drew HO275.out)
    have n4_ := Aside0.mk (blk_drew BK247.out)
    have n5_ := Aside0.mk (blk_drew BK248.out)
    have n6_ := Aside0.mk (blk_drew BK264.out)
    have n7_ := Aside0.mk (blk_drew BK270.out)
    have n8_ := Aside0.mk (blk_drew BK276.out)
    have n9_ := Aside0.mk (blk_drew BK280.out)
    have n10_ := Aside0.mk (below_drew1 HB.out)
    clear HO255
    clear HO260
    clear HO269
    clear HO275
    clear BK247
    clear BK248
    clear BK264
    clear BK270
    clear BK276
    clear BK280
    clear HB
    have HO255 := n0_
    have HO260 := n1_
    have HO269 := n2_
    have HO275 := n3_
    have BK247 := n4_
    have BK248 := n5_
    have BK264 := n6_
    have BK270 := n7_
    have BK276 := n8_
    have BK280 := n9_
    have HB := n10_
    clear n0_ n1_ n2_ n3_ n4_ n5_ n6_ n7_ n8_ n9_ n10_
    refine start_ (n := 5) (S := fun w' => w'.cell? ⟨gb270, 0, none⟩ = some (.int .i64 t265) ∧ w'.cell? ⟨gb270, 1, none⟩ = some (.int .i64 t266) ∧ w'.cell? ⟨gb270, 2, none⟩ = some (.slice Ao64 t267.length co64) ∧ w'.cell? ⟨gb247, 0, none⟩ = some (.int .i64 a0_0) ∧ w'.cell? ⟨gb247, 1, none⟩ = some (.int .i64 a0_1) ∧ w'.cell? ⟨gb247, 2, none⟩ = some (.slice A0_2 l0_2.length c0_2)) (ds := []) #[false, false, false, false, false] (by kernel_rfl) rfl rfl ⟨(blk_cell BK270.out 0).trans rfl, (blk_cell BK270.out 1).trans rfl, (blk_cell BK270.out 2).trans rfl, (blk_cell BK247.out 0).trans rfl, (blk_cell BK247.out 1).trans rfl, (blk_cell BK247.out 2).trans rfl⟩ (fun hHeld => ?_)
    generalize w85.drew = w86 at HO255 HO260 HO269 HO275 BK247 BK248 BK264 BK270 BK276 BK280 HB hHeld ⊢
    refine take_ (i := 0) (N := some 56) (v := ?_) (a' := ?_) #[true, false, false, false, false] rfl rfl (by kernel_rfl) (fun _ _ _ h => h) (Or.inl ⟨by rfl, ?_⟩) hHeld ?_ ?_
    rotate_left
    · rintro w' ⟨s0, s1, s2, s3, s4, s5⟩
      go_simp
      with_reducible rfl
    rotate_left
    · simp only [Act.put, List.setIfInBounds_toArray, List.set_cons_zero, List.set_cons_succ, i64_w, i32_w]
      rfl
    refine take_ (i := 1) (N := some 57) (v := ?_) (a' := ?_) #[true, true, false, false, false] rfl rfl (by kernel_rfl) (fun _ _ _ h => h) (Or.inl ⟨by rfl, ?_⟩) hHeld ?_ ?_
    rotate_left
    · rintro w' ⟨s0, s1, s2, s3, s4, s5⟩
      go_simp
      with_reducible rfl
    rotate_left
    · simp only [Act.put, List.setIfInBounds_toArray, List.set_cons_zero, List.set_cons_succ, i64_w, i32_w]
      rfl
    refine one_ (i := 2) (N := some 58) #[true, true, true, false, false] rfl rfl (by kernel_rfl) (by decide) (fun K hK => ?_)
    refine goes_ Try.func17 (by kernel_rfl) rfl #[.agg #[.int .i64 a0_0, .int .i64 a0_1, .slice A0_2 l0_2.length c0_2]] (by rfl) rfl rfl (by (try simp only [List.map_toArray, List.map_cons, List.map_nil]); first | done | rfl | (simp only [List.length_drop, List.length_take]; rfl)) ?_
    with_reducible refine (laws_toPlane.calls k a0_0 a0_1 _ _ l0_2 t282 t283 t284 _ ?side1 ?side2 A32.out).mono ?_
    (case side1 => repeat (first | exact (Kd.C_below HR0_2.out HB.out) | (with_reducible refine Kd.C_alloc ?_ _) | (with_reducible refine Kd.C_drewN ?_ _) | (with_reducible refine Kd.C_drew ?_)))
    (case side2 => exact HC0_2.out)
    rintro e w87 ⟨v285, rfl, ho0, hb⟩
    refine ⟨_, rfl, ?_⟩
    have n0_ := Aside0.mk (Kd.R_elder' (by (with_reducible repeat (first | apply Kd.R_alloc | apply Kd.R_drewN | apply Kd.R_drew)); exact HO255.out) (Kd.R_base ho0) hb)
    have n1_ := Aside0.mk (Kd.R_elder' (by (with_reducible repeat (first | apply Kd.R_alloc | apply Kd.R_drewN | apply Kd.R_drew)); exact HO260.out) (Kd.R_base ho0) hb)
    have n2_ := Aside0.mk (Kd.R_elder' (by (with_reducible repeat (first | apply Kd.R_alloc | apply Kd.R_drewN | apply Kd.R_drew)); exact HO269.out) (Kd.R_base ho0) hb)
    have n3_ := Aside0.mk (Kd.R_elder' (by (with_reducible repeat (first | apply Kd.R_alloc | apply Kd.R_drewN | apply Kd.R_drew)); exact HO275.out) (Kd.R_base ho0) hb)
    have n4_ := Aside0.mk (Kd.R_lower (Kd.R_new' (Kd.R_new' (Kd.R_new' (Kd.R_new' ho0 (Kd.R_lt (by (with_reducible repeat (first | apply Kd.R_alloc | apply Kd.R_drewN | apply Kd.R_drew)); exact HO255.out))) (Kd.R_lt (by (with_reducible repeat (first | apply Kd.R_alloc | apply Kd.R_drewN | apply Kd.R_drew)); exact HO260.out))) (Kd.R_lt (by (with_reducible repeat (first | apply Kd.R_alloc | apply Kd.R_drewN | apply Kd.R_drew)); exact HO269.out))) (Kd.R_lt (by (with_reducible repeat (first | apply Kd.R_alloc | apply Kd.R_drewN | apply Kd.R_drew)); exact HO275.out))) (below_size (by repeat (first | (with_reducible first | exact HB.out | apply below_alloc | apply pw_below_drewN | apply below_drew1 | refine below_set ?_ GE247.out | refine below_set ?_ GE248.out | refine below_set ?_ GE264.out | refine below_set ?_ GE270.out | refine below_set ?_ GE276.out | refine below_set ?_ GE280.out) | exact HB.out))))
    have n5_ := Aside0.mk (blk_below (g := gb247) (o := .cells #[.int .i64 a0_0, .int .i64 a0_1, .slice A0_2 l0_2.length c0_2] 24 (0, 0)) (by (with_reducible repeat (first | refine blk_drewN ?_ _ | refine blk_drew ?_ | refine blk_alloc ?_ _)); exact BK247.out) hb)
    have n6_ := Aside0.mk (blk_below (g := gb248) (o := .cells #[.int .i64 a1_0, .int .i64 a1_1, .slice A1_2 l1_2.length c1_2] 24 (0, 0)) (by (with_reducible repeat (first | refine blk_drewN ?_ _ | refine blk_drew ?_ | refine blk_alloc ?_ _)); exact BK248.out) hb)
    have n7_ := Aside0.mk (blk_below (g := gb264) (o := .cells #[.int .i64 t261, .int .i64 t262, .int .i64 t263] 27 (0, 0)) (by (with_reducible repeat (first | refine blk_drewN ?_ _ | refine blk_drew ?_ | refine blk_alloc ?_ _)); exact BK264.out) hb)
    have n8_ := Aside0.mk (blk_below (g := gb270) (o := .cells #[.int .i64 t265, .int .i64 t266, .slice Ao64 t267.length co64] 29 (0, 0)) (by (with_reducible repeat (first | refine blk_drewN ?_ _ | refine blk_drew ?_ | refine blk_alloc ?_ _)); exact BK270.out) hb)
    have n9_ := Aside0.mk (blk_below (g := gb276) (o := .cells #[.int .i64 t271, .int .i64 t272, .slice Ao74 t273.length co74] 29 (0, 0)) (by (with_reducible repeat (first | refine blk_drewN ?_ _ | refine blk_drew ?_ | refine blk_alloc ?_ _)); exact BK276.out) hb)
    have n10_ := Aside0.mk (blk_below (g := gb280) (o := .cells #[.int .i64 t277, .int .i64 t278, .int .i64 t279] 27 (0, 0)) (by (with_reducible repeat (first | refine blk_drewN ?_ _ | refine blk_drew ?_ | refine blk_alloc ?_ _)); exact BK280.out) hb)
    have n11_ := Aside0.mk (below_step (by repeat (first | (with_reducible first | exact HB.out | apply below_alloc | apply pw_below_drewN | apply below_drew1 | refine below_set ?_ GE247.out | refine below_set ?_ GE248.out | refine below_set ?_ GE264.out | refine below_set ?_ GE270.out | refine below_set ?_ GE276.out | refine below_set ?_ GE280.out) | exact HB.out)) hb)
    clear HO255
    clear HO260
    clear HO269
    clear HO275
    clear BK247
    clear BK248
    clear BK264
    clear BK270
    clear BK276
    clear BK280
    clear HB
    have HO255 := n0_
    have HO260 := n1_
    have HO269 := n2_
    have HO275 := n3_
    have HO286 := n4_
    have BK247 := n5_
    have BK248 := n6_
    have BK264 := n7_
    have BK270 := n8_
    have BK276 := n9_
    have BK280 := n10_
  · have HB := n11_
    clear n0_ n1_ n2_ n3_ n4_ n5_ n6_ n7_ n8_ n9_ n10_ n11_
    (try clear hb)
    (try clear hb2)
    (try clear hk)
    (try clear hi)
    (try clear ho0)
    obtain ⟨Ao88, co88, eo88⟩ := Kd.R_slice HO286.out
    (first | subst eo88 | (injection eo88 with f1_ f2_ f3_; have f4_ := f1_.symm; have f5_ := f3_.symm; clear f1_ f2_ f3_; subst f4_; subst f5_))
    refine hK.out _ _ ⟨(blk_cell BK270.out 0).trans rfl, (blk_cell BK270.out 1).trans rfl, (blk_cell BK270.out 2).trans rfl, (blk_cell BK247.out 0).trans rfl, (blk_cell BK247.out 1).trans rfl, (blk_cell BK247.out 2).trans rfl⟩ (fun hHeld => ?_)
    clear hK K
    refine norm_ (a' := ?_) ?_ ?_
    rotate_left
    · show Act.put _ (some 58) _ = _
      simp only [Act.put, List.setIfInBounds_toArray, List.set_cons_zero, List.set_cons_succ, i64_w, i32_w]
      rfl
    refine one_ (i := 3) (N := some 59) #[true, true, true, true, false] rfl rfl (by kernel_rfl) (by decide) (fun K hK => ?_)
    refine goes_ Try.func20 (by kernel_rfl) rfl #[.agg #[.int .i64 t265, .int .i64 t266, .slice Ao64 t267.length co64], .agg #[.int .i64 t282, .int .i64 t283, .slice Ao88 t284.length co88]] (by rfl) rfl rfl (by (try simp only [List.map_toArray, List.map_cons, List.map_nil]); first | done | rfl | (simp only [List.length_drop, List.length_take]; rfl)) ?_
    with_reducible refine (laws_eqPlane.calls k t265 t266 _ _ t267 t282 t283 _ _ t284 true _ ?side1 ?side2 ?side3 ?side4 A33.out).mono ?_
    (case side1 => repeat (first | exact (Kd.R_reads' HO269.out).2.2 | (with_reducible refine Kd.C_alloc ?_ _) | (with_reducible refine Kd.C_drewN ?_ _) | (with_reducible refine Kd.C_drew ?_)))
    (case side2 => exact (Kd.R_reads' HO269.out).2.1)
    (case side3 => repeat (first | exact (Kd.R_reads' HO286.out).2.2 | (with_reducible refine Kd.C_alloc ?_ _) | (with_reducible refine Kd.C_drewN ?_ _) | (with_reducible refine Kd.C_drew ?_)))
    (case side4 => exact (Kd.R_reads' HO286.out).2.1)
    rintro e w89 ⟨rfl, hb⟩
    refine ⟨_, rfl, ?_⟩
    have n0_ := Aside0.mk (Kd.R_below (by (with_reducible repeat (first | apply Kd.R_alloc | apply Kd.R_drewN | apply Kd.R_drew)); exact HO255.out) hb)
    have n1_ := Aside0.mk (Kd.R_below (by (with_reducible repeat (first | apply Kd.R_alloc | apply Kd.R_drewN | apply Kd.R_drew)); exact HO260.out) hb)
    have n2_ := Aside0.mk (Kd.R_below (by (with_reducible repeat (first | apply Kd.R_alloc | apply Kd.R_drewN | apply Kd.R_drew)); exact HO269.out) hb)
    have n3_ := Aside0.mk (Kd.R_below (by (with_reducible repeat (first | apply Kd.R_alloc | apply Kd.R_drewN | apply Kd.R_drew)); exact HO275.out) hb)
    have n4_ := Aside0.mk (Kd.R_below (by (with_reducible repeat (first | apply Kd.R_alloc | apply Kd.R_drewN | apply Kd.R_drew)); exact HO286.out) hb)
    have n5_ := Aside0.mk (blk_below (g := gb247) (o := .cells #[.int .i64 a0_0, .int .i64 a0_1, .slice A0_2 l0_2.length c0_2] 24 (0, 0)) (by (with_reducible repeat (first | refine blk_drewN ?_ _ | refine blk_drew ?_ | refine blk_alloc ?_ _)); exact BK247.out) hb)
    have n6_ := Aside0.mk (blk_below (g := gb248) (o := .cells #[.int .i64 a1_0, .int .i64 a1_1, .slice A1_2 l1_2.length c1_2] 24 (0, 0)) (by (with_reducible repeat (first | refine blk_drewN ?_ _ | refine blk_drew ?_ | refine blk_alloc ?_ _)); exact BK248.out) hb)
    have n7_ := Aside0.mk (blk_below (g := gb264) (o := .cells #[.int .i64 t261, .int .i64 t262, .int .i64 t263] 27 (0, 0)) (by (with_reducible repeat (first | refine blk_drewN ?_ _ | refine blk_drew ?_ | refine blk_alloc ?_ _)); exact BK264.out) hb)
    have n8_ := Aside0.mk (blk_below (g := gb270) (o := .cells #[.int .i64 t265, .int .i64 t266, .slice Ao64 t267.length co64] 29 (0, 0)) (by (with_reducible repeat (first | refine blk_drewN ?_ _ | refine blk_drew ?_ | refine blk_alloc ?_ _)); exact BK270.out) hb)
    have n9_ := Aside0.mk (blk_below (g := gb276) (o := .cells #[.int .i64 t271, .int .i64 t272, .slice Ao74 t273.length co74] 29 (0, 0)) (by (with_reducible repeat (first | refine blk_drewN ?_ _ | refine blk_drew ?_ | refine blk_alloc ?_ _)); exact BK276.out) hb)
    have n10_ := Aside0.mk (blk_below (g := gb280) (o := .cells #[.int .i64 t277, .int .i64 t278, .int .i64 t279] 27 (0, 0)) (by (with_reducible repeat (first | refine blk_drewN ?_ _ | refine blk_drew ?_ | refine blk_alloc ?_ _)); exact BK280.out) hb)
    have n11_ := Aside0.mk (below_step (by repeat (first | (with_reducible first | exact HB.out | apply below_alloc | apply pw_below_drewN | apply below_drew1 | refine below_set ?_ GE247.out | refine below_set ?_ GE248.out | refine below_set ?_ GE264.out | refine below_set ?_ GE270.out | refine below_set ?_ GE276.out | refine below_set ?_ GE280.out) | exact HB.out)) hb)
    clear HO255
    clear HO260
    clear HO269
    clear HO275
    clear HO286
    clear BK247
    clear BK248
    clear BK264
    clear BK270
    clear BK276
    clear BK280
    clear HB
    have HO255 := n0_
    have HO260 := n1_
    have HO269 := n2_
    have HO275 := n3_
    have HO286 := n4_
    have BK247 := n5_
    have BK248 := n6_
    have BK264 := n7_
    have BK270 := n8_
    have BK276 := n9_
    have BK280 := n10_
    have HB := n11_
    clear n0_ n1_ n2_ n3_ n4_ n5_ n6_ n7_ n8_ n9_ n10_ n11_
    (try clear hb)
    (try clear hb2)
    (try clear hk)
    (try clear hi)
    refine hK.out _ _ ⟨(blk_cell BK270.out 0).trans rfl, (blk_cell BK270.out 1).trans rfl, (blk_cell BK270.out 2).trans rfl, (blk_cell BK247.out 0).trans rfl, (blk_cell BK247.out 1).trans rfl, (blk_cell BK247.out 2).trans rfl⟩ (fun hHeld => ?_)
    clear hK K
    refine norm_ (a' := ?_) ?_ ?_
    rotate_left
    · show Act.put _ (some 59) _ = _
      simp only [Act.put, List.setIfInBounds_toArray, List.set_cons_zero, List.set_cons_succ, i64_w, i32_w]
      rfl
    refine pure_ (i := 4) (N := some 60) (v := ?_) (a' := ?_) #[true, true, true, true, true] rfl rfl (by kernel_rfl) (fun _ _ _ h => h) (Or.inl ⟨by rfl, ?_⟩) ?_ ?_
    rotate_left
    · intro w'
      go_simp
      with_reducible rfl
    rotate_left
    · simp only [Act.put, List.setIfInBounds_toArray, List.set_cons_zero, List.set_cons_succ, i64_w, i32_w]
      rfl
    refine done_ (by kernel_rfl) ?_
    try go_wp2
    have n0_ := Aside0.mk (Kd.R_drew HO255.out)
    have n1_ := Aside0.mk (Kd.R_drew HO260.out)
    have n2_ := Aside0.mk (Kd.R_drew HO269.out)
    have n3_ := Aside0.mk (Kd.R_drew HO275.out)
    have n4_ := Aside0.mk (Kd.R_drew HO286.out)
    have n5_ := Aside0.mk (blk_drew BK247.out)
    have n6_ := Aside0.mk (blk_drew BK248.out)
    have n7_ := Aside0.mk (blk_drew BK264.out)
    have n8_ := Aside0.mk (blk_drew BK270.out)
    have n9_ := Aside0.mk (blk_drew BK276.out)
    have n10_ := Aside0.mk (blk_drew BK280.out)
    have n11_ := Aside0.mk (below_drew1 HB.out)
    clear HO255
    clear HO260
    clear HO269
    clear HO275
    clear HO286
    clear BK247
    clear BK248
    clear BK264
    clear BK270
    clear BK276
    clear BK280
    clear HB
    have HO255 := n0_
    have HO260 := n1_
    have HO269 := n2_
    have HO275 := n3_
    have HO286 := n4_
    have BK247 := n5_
    have BK248 := n6_
    have BK264 := n7_
    have BK270 := n8_
    have BK276 := n9_
    have BK280 := n10_
    have HB := n11_
    clear n0_ n1_ n2_ n3_ n4_ n5_ n6_ n7_ n8_ n9_ n10_ n11_
    refine start_ (n := 5) (S := fun w' => w'.cell? ⟨gb276, 0, none⟩ = some (.int .i64 t271) ∧ w'.cell? ⟨gb276, 1, none⟩ = some (.int .i64 t272) ∧ w'.cell? ⟨gb276, 2, none⟩ = some (.slice Ao74 t273.length co74) ∧ w'.cell? ⟨gb248, 0, none⟩ = some (.int .i64 a1_0) ∧ w'.cell? ⟨gb248, 1, none⟩ = some (.int .i64 a1_1) ∧ w'.cell? ⟨gb248, 2, none⟩ = some (.slice A1_2 l1_2.length c1_2)) (ds := []) #[false, false, false, false, false] (by kernel_rfl) rfl rfl ⟨(blk_cell BK276.out 0).trans rfl, (blk_cell BK276.out 1).trans rfl, (blk_cell BK276.out 2).trans rfl, (blk_cell BK248.out 0).trans rfl, (blk_cell BK248.out 1).trans rfl, (blk_cell BK248.out 2).trans rfl⟩ (fun hHeld => ?_)
    generalize w89.drew = w90 at HO255 HO260 HO269 HO275 HO286 BK247 BK248 BK264 BK270 BK276 BK280 HB hHeld ⊢
    refine take_ (i := 0) (N := some 61) (v := ?_) (a' := ?_) #[true, false, false, false, false] rfl rfl (by kernel_rfl) (fun _ _ _ h => h) (Or.inl ⟨by rfl, ?_⟩) hHeld ?_ ?_
    rotate_left
    · rintro w' ⟨s0, s1, s2, s3, s4, s5⟩
      go_simp
      with_reducible rfl
    rotate_left
    · simp only [Act.put, List.setIfInBounds_toArray, List.set_cons_zero, List.set_cons_succ, i64_w, i32_w]
      rfl
    refine take_ (i := 1) (N := some 62) (v := ?_) (a' := ?_) #[true, true, false, false, false] rfl rfl (by kernel_rfl) (fun _ _ _ h => h) (Or.inl ⟨by rfl, ?_⟩) hHeld ?_ ?_
    rotate_left
    · rintro w' ⟨s0, s1, s2, s3, s4, s5⟩
      go_simp
      with_reducible rfl
    rotate_left
    · simp only [Act.put, List.setIfInBounds_toArray, List.set_cons_zero, List.set_cons_succ, i64_w, i32_w]
      rfl
    refine one_ (i := 2) (N := some 63) #[true, true, true, false, false] rfl rfl (by kernel_rfl) (by decide) (fun K hK => ?_)
    refine goes_ Try.func17 (by kernel_rfl) rfl #[.agg #[.int .i64 a1_0, .int .i64 a1_1, .slice A1_2 l1_2.length c1_2]] (by rfl) rfl rfl (by (try simp only [List.map_toArray, List.map_cons, List.map_nil]); first | done | rfl | (simp only [List.length_drop, List.length_take]; rfl)) ?_
    with_reducible refine (laws_toPlane.calls k a1_0 a1_1 _ _ l1_2 t288 t289 t290 _ ?side1 ?side2 A35.out).mono ?_
    (case side1 => repeat (first | exact (Kd.C_below HR1_2.out HB.out) | (with_reducible refine Kd.C_alloc ?_ _) | (with_reducible refine Kd.C_drewN ?_ _) | (with_reducible refine Kd.C_drew ?_)))
    (case side2 => exact HC1_2.out)
    rintro e w91 ⟨v291, rfl, ho0, hb⟩
    refine ⟨_, rfl, ?_⟩
    have n0_ := Aside0.mk (Kd.R_elder' (by (with_reducible repeat (first | apply Kd.R_alloc | apply Kd.R_drewN | apply Kd.R_drew)); exact HO255.out) (Kd.R_base ho0) hb)
    have n1_ := Aside0.mk (Kd.R_elder' (by (with_reducible repeat (first | apply Kd.R_alloc | apply Kd.R_drewN | apply Kd.R_drew)); exact HO260.out) (Kd.R_base ho0) hb)
    have n2_ := Aside0.mk (Kd.R_elder' (by (with_reducible repeat (first | apply Kd.R_alloc | apply Kd.R_drewN | apply Kd.R_drew)); exact HO269.out) (Kd.R_base ho0) hb)
    have n3_ := Aside0.mk (Kd.R_elder' (by (with_reducible repeat (first | apply Kd.R_alloc | apply Kd.R_drewN | apply Kd.R_drew)); exact HO275.out) (Kd.R_base ho0) hb)
    have n4_ := Aside0.mk (Kd.R_elder' (by (with_reducible repeat (first | apply Kd.R_alloc | apply Kd.R_drewN | apply Kd.R_drew)); exact HO286.out) (Kd.R_base ho0) hb)
    have n5_ := Aside0.mk (Kd.R_lower (Kd.R_new' (Kd.R_new' (Kd.R_new' (Kd.R_new' (Kd.R_new' ho0 (Kd.R_lt (by (with_reducible repeat (first | apply Kd.R_alloc | apply Kd.R_drewN | apply Kd.R_drew)); exact HO255.out))) (Kd.R_lt (by (with_reducible repeat (first | apply Kd.R_alloc | apply Kd.R_drewN | apply Kd.R_drew)); exact HO260.out))) (Kd.R_lt (by (with_reducible repeat (first | apply Kd.R_alloc | apply Kd.R_drewN | apply Kd.R_drew)); exact HO269.out))) (Kd.R_lt (by (with_reducible repeat (first | apply Kd.R_alloc | apply Kd.R_drewN | apply Kd.R_drew)); exact HO275.out))) (Kd.R_lt (by (with_reducible repeat (first | apply Kd.R_alloc | apply Kd.R_drewN | apply Kd.R_drew)); exact HO286.out))) (below_size (by repeat (first | (with_reducible first | exact HB.out | apply below_alloc | apply pw_below_drewN | apply below_drew1 | refine below_set ?_ GE247.out | refine below_set ?_ GE248.out | refine below_set ?_ GE264.out | refine below_set ?_ GE270.out | refine below_set ?_ GE276.out | refine below_set ?_ GE280.out) | exact HB.out))))
    have n6_ := Aside0.mk (blk_below (g := gb247) (o := .cells #[.int .i64 a0_0, .int .i64 a0_1, .slice A0_2 l0_2.length c0_2] 24 (0, 0)) (by (with_reducible repeat (first | refine blk_drewN ?_ _ | refine blk_drew ?_ | refine blk_alloc ?_ _)); exact BK247.out) hb)
    have n7_ := Aside0.mk (blk_below (g := gb248) (o := .cells #[.int .i64 a1_0, .int .i64 a1_1, .slice A1_2 l1_2.length c1_2] 24 (0, 0)) (by (with_reducible repeat (first | refine blk_drewN ?_ _ | refine blk_drew ?_ | refine blk_alloc ?_ _)); exact BK248.out) hb)
    have n8_ := Aside0.mk (blk_below (g := gb264) (o := .cells #[.int .i64 t261, .int .i64 t262, .int .i64 t263] 27 (0, 0)) (by (with_reducible repeat (first | refine blk_drewN ?_ _ | refine blk_drew ?_ | refine blk_alloc ?_ _)); exact BK264.out) hb)
    have n9_ := Aside0.mk (blk_below (g := gb270) (o := .cells #[.int .i64 t265, .int .i64 t266, .slice Ao64 t267.length co64] 29 (0, 0)) (by (with_reducible repeat (first | refine blk_drewN ?_ _ | refine blk_drew ?_ | refine blk_alloc ?_ _)); exact BK270.out) hb)
    have n10_ := Aside0.mk (blk_below (g := gb276) (o := .cells #[.int .i64 t271, .int .i64 t272, .slice Ao74 t273.length co74] 29 (0, 0)) (by (with_reducible repeat (first | refine blk_drewN ?_ _ | refine blk_drew ?_ | refine blk_alloc ?_ _)); exact BK276.out) hb)
    have n11_ := Aside0.mk (blk_below (g := gb280) (o := .cells #[.int .i64 t277, .int .i64 t278, .int .i64 t279] 27 (0, 0)) (by (with_reducible repeat (first | refine blk_drewN ?_ _ | refine blk_drew ?_ | refine blk_alloc ?_ _)); exact BK280.out) hb)
    have n12_ := Aside0.mk (below_step (by repeat (first | (with_reducible first | exact HB.out | apply below_alloc | apply pw_below_drewN | apply below_drew1 | refine below_set ?_ GE247.out | refine below_set ?_ GE248.out | refine below_set ?_ GE264.out | refine below_set ?_ GE270.out | refine below_set ?_ GE276.out | refine below_set ?_ GE280.out) | exact HB.out)) hb)
    clear HO255
    clear HO260
    clear HO269
    clear HO275
    clear HO286
    clear BK247
    clear BK248
    clear BK264
    clear BK270
    clear BK276
    clear BK280
    clear HB
    have HO255 := n0_
    have HO260 := n1_
    have HO269 := n2_
    have HO275 := n3_
    have HO286 := n4_
    have HO292 := n5_
    have BK247 := n6_
    have BK248 := n7_
    have BK264 := n8_
    have BK270 := n9_
    have BK276 := n10_
    have BK280 := n11_
    have HB := n12_
    clear n0_ n1_ n2_ n3_ n4_ n5_ n6_ n7_ n8_ n9_ n10_ n11_ n12_
    (try clear hb)
    (try clear hb2)
    (try clear hk)
    (try clear hi)
    (try clear ho0)
    obtain ⟨Ao92, co92, eo92⟩ := Kd.R_slice HO292.out
    (first | subst eo92 | (injection eo92 with f1_ f2_ f3_; have f4_ := f1_.symm; have f5_ := f3_.symm; clear f1_ f2_ f3_; subst f4_; subst f5_))
    refine hK.out _ _ ⟨(blk_cell BK276.out 0).trans rfl, (blk_cell BK276.out 1).trans rfl, (blk_cell BK276.out 2).trans rfl, (blk_cell BK248.out 0).trans rfl, (blk_cell BK248.out 1).trans rfl, (blk_cell BK248.out 2).trans rfl⟩ (fun hHeld => ?_)
    clear hK K
    refine norm_ (a' := ?_) ?_ ?_
    rotate_left
    · show Act.put _ (some 63) _ = _
      simp only [Act.put, List.setIfInBounds_toArray, List.set_cons_zero, List.set_cons_succ, i64_w, i32_w]
      rfl
    refine one_ (i := 3) (N := some 64) #[true, true, true, true, false] rfl rfl (by kernel_rfl) (by decide) (fun K hK => ?_)
    refine goes_ Try.func20 (by kernel_rfl) rfl #[.agg #[.int .i64 t271, .int .i64 t272, .slice Ao74 t273.length co74], .agg #[.int .i64 t288, .int .i64 t289, .slice Ao92 t290.length co92]] (by rfl) rfl rfl (by (try simp only [List.map_toArray, List.map_cons, List.map_nil]); first | done | rfl | (simp only [List.length_drop, List.length_take]; rfl)) ?_
    with_reducible refine (laws_eqPlane.calls k t271 t272 _ _ t273 t288 t289 _ _ t290 true _ ?side1 ?side2 ?side3 ?side4 A36.out).mono ?_
    (case side1 => repeat (first | exact (Kd.R_reads' HO275.out).2.2 | (with_reducible refine Kd.C_alloc ?_ _) | (with_reducible refine Kd.C_drewN ?_ _) | (with_reducible refine Kd.C_drew ?_)))
    (case side2 => exact (Kd.R_reads' HO275.out).2.1)
    (case side3 => repeat (first | exact (Kd.R_reads' HO292.out).2.2 | (with_reducible refine Kd.C_alloc ?_ _) | (with_reducible refine Kd.C_drewN ?_ _) | (with_reducible refine Kd.C_drew ?_)))
    (case side4 => exact (Kd.R_reads' HO292.out).2.1)
    rintro e w93 ⟨rfl, hb⟩
    refine ⟨_, rfl, ?_⟩
    have n0_ := Aside0.mk (Kd.R_below (by (with_reducible repeat (first | apply Kd.R_alloc | apply Kd.R_drewN | apply Kd.R_drew)); exact HO255.out) hb)
    have n1_ := Aside0.mk (Kd.R_below (by (with_reducible repeat (first | apply Kd.R_alloc | apply Kd.R_drewN | apply Kd.R_drew)); exact HO260.out) hb)
    have n2_ := Aside0.mk (Kd.R_below (by (with_reducible repeat (first | apply Kd.R_alloc | apply Kd.R_drewN | apply Kd.R_drew)); exact HO269.out) hb)
    have n3_ := Aside0.mk (Kd.R_below (by (with_reducible repeat (first | apply Kd.R_alloc | apply Kd.R_drewN | apply Kd.R_drew)); exact HO275.out) hb)
    have n4_ := Aside0.mk (Kd.R_below (by (with_reducible repeat (first | apply Kd.R_alloc | apply Kd.R_drewN | apply Kd.R_drew)); exact HO286.out) hb)
    have n5_ := Aside0.mk (Kd.R_below (by (with_reducible repeat (first | apply Kd.R_alloc | apply Kd.R_drewN | apply Kd.R_drew)); exact HO292.out) hb)
    have n6_ := Aside0.mk (blk_below (g := gb247) (o := .cells #[.int .i64 a0_0, .int .i64 a0_1, .slice A0_2 l0_2.length c0_2] 24 (0, 0)) (by (with_reducible repeat (first | refine blk_drewN ?_ _ | refine blk_drew ?_ | refine blk_alloc ?_ _)); exact BK247.out) hb)
    have n7_ := Aside0.mk (blk_below (g := gb248) (o := .cells #[.int .i64 a1_0, .int .i64 a1_1, .slice A1_2 l1_2.length c1_2] 24 (0, 0)) (by (with_reducible repeat (first | refine blk_drewN ?_ _ | refine blk_drew ?_ | refine blk_alloc ?_ _)); exact BK248.out) hb)
    have n8_ := Aside0.mk (blk_below (g := gb264) (o := .cells #[.int .i64 t261, .int .i64 t262, .int .i64 t263] 27 (0, 0)) (by (with_reducible repeat (first | refine blk_drewN ?_ _ | refine blk_drew ?_ | refine blk_alloc ?_ _)); exact BK264.out) hb)
    have n9_ := Aside0.mk (blk_below (g := gb270) (o := .cells #[.int .i64 t265, .int .i64 t266, .slice Ao64 t267.length co64] 29 (0, 0)) (by (with_reducible repeat (first | refine blk_drewN ?_ _ | refine blk_drew ?_ | refine blk_alloc ?_ _)); exact BK270.out) hb)
    have n10_ := Aside0.mk (blk_below (g := gb276) (o := .cells #[.int .i64 t271, .int .i64 t272, .slice Ao74 t273.length co74] 29 (0, 0)) (by (with_reducible repeat (first | refine blk_drewN ?_ _ | refine blk_drew ?_ | refine blk_alloc ?_ _)); exact BK276.out) hb)
    have n11_ := Aside0.mk (blk_below (g := gb280) (o := .cells #[.int .i64 t277, .int .i64 t278, .int .i64 t279] 27 (0, 0)) (by (with_reducible repeat (first | refine blk_drewN ?_ _ | refine blk_drew ?_ | refine blk_alloc ?_ _)); exact BK280.out) hb)
    have n12_ := Aside0.mk (below_step (by repeat (first | (with_reducible first | exact HB.out | apply below_alloc | apply pw_below_drewN | apply below_drew1 | refine below_set ?_ GE247.out | refine below_set ?_ GE248.out | refine below_set ?_ GE264.out | refine below_set ?_ GE270.out | refine below_set ?_ GE276.out | refine below_set ?_ GE280.out) | exact HB.out)) hb)
    clear HO255
    clear HO260
    clear HO269
    clear HO275
    clear HO286
    clear HO292
    clear BK247
    clear BK248
    clear BK264
    clear BK270
    clear BK276
    clear BK280
    clear HB
    have HO255 := n0_
    have HO260 := n1_
    have HO269 := n2_
    have HO275 := n3_
    have HO286 := n4_
    have HO292 := n5_
    have BK247 := n6_
    have BK248 := n7_
    have BK264 := n8_
    have BK270 := n9_
    have BK276 := n10_
    have BK280 := n11_
    have HB := n12_
    clear n0_ n1_ n2_ n3_ n4_ n5_ n6_ n7_ n8_ n9_ n10_ n11_ n12_
    (try clear hb)
    (try clear hb2)
    (try clear hk)
    (try clear hi)
    refine hK.out _ _ ⟨(blk_cell BK276.out 0).trans rfl, (blk_cell BK276.out 1).trans rfl, (blk_cell BK276.out 2).trans rfl, (blk_cell BK248.out 0).trans rfl, (blk_cell BK248.out 1).trans rfl, (blk_cell BK248.out 2).trans rfl⟩ (fun hHeld => ?_)
    clear hK K
    refine norm_ (a' := ?_) ?_ ?_
    rotate_left
    · show Act.put _ (some 64) _ = _
      simp only [Act.put, List.setIfInBounds_toArray, List.set_cons_zero, List.set_cons_succ, i64_w, i32_w]
      rfl
    refine pure_ (i := 4) (N := some 65) (v := ?_) (a' := ?_) #[true, true, true, true, true] rfl rfl (by kernel_rfl) (fun _ _ _ h => h) (Or.inl ⟨by rfl, ?_⟩) ?_ ?_
    rotate_left
    · intro w'
      go_simp
      with_reducible rfl
    rotate_left
    · simp only [Act.put, List.setIfInBounds_toArray, List.set_cons_zero, List.set_cons_succ, i64_w, i32_w]
      rfl
    refine done_ (by kernel_rfl) ?_
    try go_wp2
    go_ret
    exact ⟨by first | rfl | (simp [errW_none, errW_some] <;> rfl) | (simp [*, errW_none, errW_some] <;> rfl), by repeat (first | (with_reducible first | exact HB.out | apply below_alloc | apply pw_below_drewN | apply below_drew1 | refine below_set ?_ GE247.out | refine below_set ?_ GE248.out | refine below_set ?_ GE264.out | refine below_set ?_ GE270.out | refine below_set ?_ GE276.out | refine below_set ?_ GE280.out) | exact HB.out)⟩

/-- THE ONE PURE STATEMENT of laws_FnExactBestMotion: yours. -/
def laws_FnExactBestMotion.Pure : Prop := ∀ (a0_0 : Int) (a0_1 : Int) (l0_2 : List Int) (a1_0 : Int) (a1_1 : Int) (l1_2 : List Int) (a2 : Int) (a3 : Int) (a4 : Int) (a5 : Int) (a6 : Int), ((Lit.int .i64 a0_0).wf = true ∧ (Lit.int .i64 a0_1).wf = true ∧ (l0_2.length ≤ maxLen ∧ ∀ y0 ∈ l0_2, (Lit.int .i64 y0).wf = true)) → ((Lit.int .i64 a1_0).wf = true ∧ (Lit.int .i64 a1_1).wf = true ∧ (l1_2.length ≤ maxLen ∧ ∀ y0 ∈ l1_2, (Lit.int .i64 y0).wf = true)) → (Lit.int .i64 a2).wf = true → (Lit.int .i64 a3).wf = true → (Lit.int .i64 a4).wf = true → (Lit.int .i64 a5).wf = true → (Lit.int .i64 a6).wf = true → ∃ k, laws_FnExactBestMotion.f k a0_0 a0_1 l0_2 a1_0 a1_1 l1_2 a2 a3 a4 a5 a6 = some true
theorem laws_FnExactBestMotion.walk (P : laws_FnExactBestMotion.Pure) (a0_0 : Int) (a0_1 : Int) (A0_2 : Option Addr) (c0_2 : Nat) (l0_2 : List Int) (a1_0 : Int) (a1_1 : Int) (A1_2 : Option Addr) (c1_2 : Nat) (l1_2 : List Int) (a2 : Int) (a3 : Int) (a4 : Int) (a5 : Int) (a6 : Int) (w : World) (hr0_2 : Kd.C (Kd.int .i64) w A0_2 l0_2.length l0_2) (hc0_2 : l0_2.length ≤ c0_2) (hr1_2 : Kd.C (Kd.int .i64) w A1_2 l1_2.length l1_2) (hc1_2 : l1_2.length ≤ c1_2) (w0 : ((Lit.int .i64 a0_0).wf = true ∧ (Lit.int .i64 a0_1).wf = true ∧ (l0_2.length ≤ maxLen ∧ ∀ y0 ∈ l0_2, (Lit.int .i64 y0).wf = true))) (w1 : ((Lit.int .i64 a1_0).wf = true ∧ (Lit.int .i64 a1_1).wf = true ∧ (l1_2.length ≤ maxLen ∧ ∀ y0 ∈ l1_2, (Lit.int .i64 y0).wf = true))) (w2 : (Lit.int .i64 a2).wf = true) (w3 : (Lit.int .i64 a3).wf = true) (w4 : (Lit.int .i64 a4).wf = true) (w5 : (Lit.int .i64 a5).wf = true) (w6 : (Lit.int .i64 a6).wf = true) :
    Calls Try.prog 3 #[.agg #[.int .i64 a0_0, .int .i64 a0_1, .slice A0_2 l0_2.length c0_2], .agg #[.int .i64 a1_0, .int .i64 a1_1, .slice A1_2 l1_2.length c1_2], .int .i64 a2, .int .i64 a3, .int .i64 a4, .int .i64 a5, .int .i64 a6] w fun e w' => e = .returned (.bool true) ∧ Below w.heap.size w w' := by
  obtain ⟨k, h⟩ := P a0_0 a0_1 l0_2 a1_0 a1_1 l1_2 a2 a3 a4 a5 a6 w0 w1 w2 w3 w4 w5 w6
  refine (laws_FnExactBestMotion.calls k a0_0 a0_1 A0_2 c0_2 l0_2 a1_0 a1_1 A1_2 c1_2 l1_2 a2 a3 a4 a5 a6 true w hr0_2 hc0_2 hr1_2 hc1_2 h rfl).mono ?_
  rintro e w' ⟨rfl, hd⟩
  exact ⟨rfl, hd⟩

end Go.Proofs.Ytglaedjadlappaa.PFnExactBestMotion

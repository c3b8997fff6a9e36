-- written by myprint.py (a program of this session's over the kit's print)
import Derived.Test.YtggokppfhkebkaaPFnExactSplitx0
import Derived.Test.YtggokppfhkebkaaPFnExactSplitx3
import Derived.Test.YtggokppfhkebkaaPFnExactSplitx4
namespace Go.Proofs.Ytggokppfhkebkaa.PFnExactSplit
open Go.RowKit Go.Proofs.YtggokppfhkebkaaW.PrintWords Go.Proofs.YtggokppfhkebkaaW.PrintLast Go.Proofs.YtggokppfhkebkaaW.PrintMore
attribute [local go_sem] max2_int min2_int max_two min_two max_three min_three max_four min_four   -- for this text's walks alone
set_option linter.unusedVariables false
set_option linter.unusedSimpArgs false

/-! ### spec_l4Split: function 120 -/
mutual
def spec_l4Split.l0 : Nat → List (S31) → List (S39) → Int → Int → Int → Int → Int → Int → List Int → Option ((List (S31)))
  | 0, _, _, _, _, _, _, _, _, _ => none
  | k + 1, x3, x14, x15, x16, x131000, x131001, x131002, x131003, x131004 => if x16 < x15 then (if 0 ≤ x16 then (if x16 < (x14.length : Int) then (spec_l4Split.l1 k x3 0 x14 x15 x16 x131000 x131001 x131002 x131003 x131004 ((rd_T39 x14 x16).f0) ((rd_T39 x14 x16).f1) ((rd_T39 x14 x16).f2) ((rd_T39 x14 x16).f3) ((rd_T39 x14 x16).f4) ((rd_T39 x14 x16).f5) ((rd_T39 x14 x16).f4) ((rd_T39 x14 x16).f5) x131002 x131003 ([] : List Int)) else (none)) else (none)) else (some x3)
def spec_l4Split.l1 : Nat → List (S31) → Int → List (S39) → Int → Int → Int → Int → Int → Int → List Int → Int → Int → Int → Int → Int → Int → Int → Int → Int → Int → List Int → Option ((List (S31)))
  | 0, _, _, _, _, _, _, _, _, _, _, _, _, _, _, _, _, _, _, _, _, _ => none
  | k + 1, x3, x7, x14, x15, x16, x131000, x131001, x131002, x131003, x131004, x136000, x136001, x136002, x136003, x136004, x136005, x137000, x137001, x137002, x137003, x137004 => if x7 < x136005 then (spec_l4Split.l2 k x3 x7 0 x14 x15 x16 x131000 x131001 x131002 x131003 x131004 x136000 x136001 x136002 x136003 x136004 x136005 x137000 x137001 x137002 x137003 x137004) else (if x3.length < 2513169434916 then (spec_l4Split.l0 k (x3 ++ [(⟨x137000, x137001, x137002, x137003, x137004⟩ : S31)]) x14 x15 (wrap64 (x16 + 1)) x131000 x131001 x131002 x131003 x131004) else (none))
def spec_l4Split.l2 : Nat → List (S31) → Int → Int → List (S39) → Int → Int → Int → Int → Int → Int → List Int → Int → Int → Int → Int → Int → Int → Int → Int → Int → Int → List Int → Option ((List (S31)))
  | 0, _, _, _, _, _, _, _, _, _, _, _, _, _, _, _, _, _, _, _, _, _, _ => none
  | k + 1, x3, x7, x8, x14, x15, x16, x131000, x131001, x131002, x131003, x131004, x136000, x136001, x136002, x136003, x136004, x136005, x137000, x137001, x137002, x137003, x137004 => if x8 < x136004 then (if 0 ≤ (wrap64 ((wrap64 ((wrap64 ((wrap64 ((wrap64 (x136001 + (wrap64 (x7 * x136003)))) * x131000)) + x136000)) + (wrap64 (x8 * x136002)))) * x131002)) then (if (wrap64 ((wrap64 ((wrap64 ((wrap64 ((wrap64 (x136001 + (wrap64 (x7 * x136003)))) * x131000)) + x136000)) + (wrap64 (x8 * x136002)))) * x131002)) ≤ (wrap64 ((wrap64 ((wrap64 ((wrap64 ((wrap64 ((wrap64 (x136001 + (wrap64 (x7 * x136003)))) * x131000)) + x136000)) + (wrap64 (x8 * x136002)))) * x131002)) + x131002)) then (if (wrap64 ((wrap64 ((wrap64 ((wrap64 ((wrap64 ((wrap64 (x136001 + (wrap64 (x7 * x136003)))) * x131000)) + x136000)) + (wrap64 (x8 * x136002)))) * x131002)) + x131002)) ≤ (x131004.length : Int) then (if x137004.length + ((x131004.take ((wrap64 ((wrap64 ((wrap64 ((wrap64 ((wrap64 ((wrap64 (x136001 + (wrap64 (x7 * x136003)))) * x131000)) + x136000)) + (wrap64 (x8 * x136002)))) * x131002)) + x131002)) : Int).toNat).drop ((wrap64 ((wrap64 ((wrap64 ((wrap64 ((wrap64 (x136001 + (wrap64 (x7 * x136003)))) * x131000)) + x136000)) + (wrap64 (x8 * x136002)))) * x131002)) : Int).toNat).length < 17592186044416 then (spec_l4Split.l2 k x3 x7 (wrap64 (x8 + 1)) x14 x15 x16 x131000 x131001 x131002 x131003 x131004 x136000 x136001 x136002 x136003 x136004 x136005 x137000 x137001 x137002 x137003 (x137004 ++ ((x131004.take ((wrap64 ((wrap64 ((wrap64 ((wrap64 ((wrap64 ((wrap64 (x136001 + (wrap64 (x7 * x136003)))) * x131000)) + x136000)) + (wrap64 (x8 * x136002)))) * x131002)) + x131002)) : Int).toNat).drop ((wrap64 ((wrap64 ((wrap64 ((wrap64 ((wrap64 (x136001 + (wrap64 (x7 * x136003)))) * x131000)) + x136000)) + (wrap64 (x8 * x136002)))) * x131002)) : Int).toNat))) else (none)) else (none)) else (none)) else (none)) else (spec_l4Split.l1 k x3 (wrap64 (x7 + 1)) x14 x15 x16 x131000 x131001 x131002 x131003 x131004 x136000 x136001 x136002 x136003 x136004 x136005 x137000 x137001 x137002 x137003 x137004)
end
def spec_l4Split.f (k : Nat) (a0_0 : Int) (a0_1 : Int) (a0_2 : Int) (a0_3 : Int) (l0_4 : List Int) : Option ((List (S31))) := (spec_l4Passes.f k a0_0 a0_1).bind fun t131 => (spec_l4Split.l0 k ([] : List (S31)) t131 (t131.length : Int) 0 a0_0 a0_1 a0_2 a0_3 l0_4)
theorem spec_l4Split.mono_l : ∀ k, (∀ y0 y1 y2 y3 y4 y5 y6 y7 y8, LeO (spec_l4Split.l0 k y0 y1 y2 y3 y4 y5 y6 y7 y8) (spec_l4Split.l0 (k + 1) y0 y1 y2 y3 y4 y5 y6 y7 y8)) ∧ (∀ y0 y1 y2 y3 y4 y5 y6 y7 y8 y9 y10 y11 y12 y13 y14 y15 y16 y17 y18 y19 y20, LeO (spec_l4Split.l1 k y0 y1 y2 y3 y4 y5 y6 y7 y8 y9 y10 y11 y12 y13 y14 y15 y16 y17 y18 y19 y20) (spec_l4Split.l1 (k + 1) y0 y1 y2 y3 y4 y5 y6 y7 y8 y9 y10 y11 y12 y13 y14 y15 y16 y17 y18 y19 y20)) ∧ (∀ y0 y1 y2 y3 y4 y5 y6 y7 y8 y9 y10 y11 y12 y13 y14 y15 y16 y17 y18 y19 y20 y21, LeO (spec_l4Split.l2 k y0 y1 y2 y3 y4 y5 y6 y7 y8 y9 y10 y11 y12 y13 y14 y15 y16 y17 y18 y19 y20 y21) (spec_l4Split.l2 (k + 1) y0 y1 y2 y3 y4 y5 y6 y7 y8 y9 y10 y11 y12 y13 y14 y15 y16 y17 y18 y19 y20 y21))
  | 0 => ⟨fun _ _ _ _ _ _ _ _ _ r h => by simp [spec_l4Split.l0] at h, fun _ _ _ _ _ _ _ _ _ _ _ _ _ _ _ _ _ _ _ _ _ r h => by simp [spec_l4Split.l1] at h, fun _ _ _ _ _ _ _ _ _ _ _ _ _ _ _ _ _ _ _ _ _ _ r h => by simp [spec_l4Split.l2] at h⟩
  | k + 1 => by
    obtain ⟨ih0, ih1, ih2⟩ := spec_l4Split.mono_l k
    refine ⟨?_, ?_, ?_⟩
    · intro y0 y1 y2 y3 y4 y5 y6 y7 y8
      unfold spec_l4Split.l0
      repeat' first
      | (with_reducible exact ih0 _ _ _ _ _ _ _ _ _)
      | (with_reducible exact ih1 _ _ _ _ _ _ _ _ _ _ _ _ _ _ _ _ _ _ _ _ _)
      | (with_reducible exact ih2 _ _ _ _ _ _ _ _ _ _ _ _ _ _ _ _ _ _ _ _ _ _)
      | (with_reducible exact spec_l4Passes.mono _ _ _)
      | (with_reducible exact LeO.refl _)
      | (with_reducible exact LeO.none _)
      | (with_reducible refine LeO.ite ?_ ?_)
      | (with_reducible refine LeO.bind ?_ (fun _ => ?_))
      | exact ih0 _ _ _ _ _ _ _ _ _
      | exact ih1 _ _ _ _ _ _ _ _ _ _ _ _ _ _ _ _ _ _ _ _ _
      | exact ih2 _ _ _ _ _ _ _ _ _ _ _ _ _ _ _ _ _ _ _ _ _ _
      | exact spec_l4Passes.mono _ _ _
      | exact LeO.none _
      | refine LeO.ite ?_ ?_
      | refine LeO.bind ?_ (fun _ => ?_)
    · intro y0 y1 y2 y3 y4 y5 y6 y7 y8 y9 y10 y11 y12 y13 y14 y15 y16 y17 y18 y19 y20
      unfold spec_l4Split.l1
      repeat' first
      | (with_reducible exact ih0 _ _ _ _ _ _ _ _ _)
      | (with_reducible exact ih1 _ _ _ _ _ _ _ _ _ _ _ _ _ _ _ _ _ _ _ _ _)
      | (with_reducible exact ih2 _ _ _ _ _ _ _ _ _ _ _ _ _ _ _ _ _ _ _ _ _ _)
      | (with_reducible exact spec_l4Passes.mono _ _ _)
      | (with_reducible exact LeO.refl _)
      | (with_reducible exact LeO.none _)
      | (with_reducible refine LeO.ite ?_ ?_)
      | (with_reducible refine LeO.bind ?_ (fun _ => ?_))
      | exact ih0 _ _ _ _ _ _ _ _ _
      | exact ih1 _ _ _ _ _ _ _ _ _ _ _ _ _ _ _ _ _ _ _ _ _
      | exact ih2 _ _ _ _ _ _ _ _ _ _ _ _ _ _ _ _ _ _ _ _ _ _
      | exact spec_l4Passes.mono _ _ _
      | exact LeO.none _
      | refine LeO.ite ?_ ?_
      | refine LeO.bind ?_ (fun _ => ?_)
    · intro y0 y1 y2 y3 y4 y5 y6 y7 y8 y9 y10 y11 y12 y13 y14 y15 y16 y17 y18 y19 y20 y21
      unfold spec_l4Split.l2
      repeat' first
      | (with_reducible exact ih0 _ _ _ _ _ _ _ _ _)
      | (with_reducible exact ih1 _ _ _ _ _ _ _ _ _ _ _ _ _ _ _ _ _ _ _ _ _)
      | (with_reducible exact ih2 _ _ _ _ _ _ _ _ _ _ _ _ _ _ _ _ _ _ _ _ _ _)
      | (with_reducible exact spec_l4Passes.mono _ _ _)
      | (with_reducible exact LeO.refl _)
      | (with_reducible exact LeO.none _)
      | (with_reducible refine LeO.ite ?_ ?_)
      | (with_reducible refine LeO.bind ?_ (fun _ => ?_))
      | exact ih0 _ _ _ _ _ _ _ _ _
      | exact ih1 _ _ _ _ _ _ _ _ _ _ _ _ _ _ _ _ _ _ _ _ _
      | exact ih2 _ _ _ _ _ _ _ _ _ _ _ _ _ _ _ _ _ _ _ _ _ _
      | exact spec_l4Passes.mono _ _ _
      | exact LeO.none _
      | refine LeO.ite ?_ ?_
      | refine LeO.bind ?_ (fun _ => ?_)
theorem spec_l4Split.mono : ∀ a0 a1 a2 a3 a4 k, LeO (spec_l4Split.f k a0 a1 a2 a3 a4) (spec_l4Split.f (k + 1) a0 a1 a2 a3 a4) := by
  intro a0 a1 a2 a3 a4 k
  obtain ⟨ih0, ih1, ih2⟩ := spec_l4Split.mono_l k
  unfold spec_l4Split.f
  repeat' first
      | (with_reducible exact ih0 _ _ _ _ _ _ _ _ _)
      | (with_reducible exact ih1 _ _ _ _ _ _ _ _ _ _ _ _ _ _ _ _ _ _ _ _ _)
      | (with_reducible exact ih2 _ _ _ _ _ _ _ _ _ _ _ _ _ _ _ _ _ _ _ _ _ _)
      | (with_reducible exact spec_l4Passes.mono _ _ _)
      | (with_reducible exact LeO.refl _)
      | (with_reducible exact LeO.none _)
      | (with_reducible refine LeO.ite ?_ ?_)
      | (with_reducible refine LeO.bind ?_ (fun _ => ?_))
      | exact ih0 _ _ _ _ _ _ _ _ _
      | exact ih1 _ _ _ _ _ _ _ _ _ _ _ _ _ _ _ _ _ _ _ _ _
      | exact ih2 _ _ _ _ _ _ _ _ _ _ _ _ _ _ _ _ _ _ _ _ _ _
      | exact spec_l4Passes.mono _ _ _
      | exact LeO.none _
      | refine LeO.ite ?_ ?_
      | refine LeO.bind ?_ (fun _ => ?_)
def spec_l4Split.T13 : Bool × List (List Nat × List Nat) := (true, [([], []), ([0], [0]), ([], []), ([2], [2]), ([], []), ([], []), ([], []), ([6], [6]), ([5, 7], [5, 7]), ([3, 4, 8], [3, 4, 8]), ([1, 9], [1, 9]), ([0, 1, 2, 3, 4, 5, 6, 7, 8, 9, 10], []), ([11, 10, 10, 0, 1, 2, 3, 4, 5, 6, 7, 8, 9, 10], [10, 11])])
def spec_l4Split.B13 : List Nat := [0, 1, 0, 4, 0, 0, 0, 64, 224, 508, 1023, 2047, 4095]
theorem spec_l4Split.tab13 : rtab .any (opsOf Try.f120 13) = spec_l4Split.T13 := by kernel_rfl
theorem spec_l4Split.bits13 : waitsOk spec_l4Split.T13.2 spec_l4Split.B13 = true := by kernel_rfl
set_option maxHeartbeats 8000000 in
set_option maxRecDepth 100000 in
theorem spec_l4Split.calls (k : Nat) (a0_0 : Int) (a0_1 : Int) (a0_2 : Int) (a0_3 : Int) (A0_4 : Option Addr) (c0_4 : Nat) (l0_4 : List Int) (r : List (S31)) (w : World) (hr0_4 : Kd.C (Kd.int .i64) w A0_4 l0_4.length l0_4) (hc0_4 : l0_4.length ≤ c0_4) (h : spec_l4Split.f k a0_0 a0_1 a0_2 a0_3 l0_4 = some r) :
    Calls Try.prog 120 #[.agg #[.int .i64 a0_0, .int .i64 a0_1, .int .i64 a0_2, .int .i64 a0_3, .slice A0_4 l0_4.length c0_4]] w fun e w' => ∃ v0_ : Value, e = .returned (v0_) ∧ Kd.S k31 31 w' w.heap.size (fun _ => True) v0_ r ∧ Below w.heap.size w w' := by
  have hu31 := Try.underlying31
  have hu39 := Try.underlying39
  have HR0_4 := Aside0.mk hr0_4
  have HC0_4 := Aside0.mk hc0_4
  clear hr0_4 hc0_4
  have HB := Aside0.mk (Below.refl w.heap.size w)
  have H : ((spec_l4Passes.f k a0_0 a0_1).bind fun t131 => (spec_l4Split.l0 k ([] : List (S31)) t131 (t131.length : Int) 0 a0_0 a0_1 a0_2 a0_3 l0_4)) = some r := h
  clear h
  replace H := Option.bind_eq_some_iff.mp H
  obtain ⟨t131, A20, H⟩ := H
  replace H : (spec_l4Split.l0 k ([] : List (S31)) t131 (t131.length : Int) 0 a0_0 a0_1 a0_2 a0_3 l0_4) = some r := H
  have A2 := Aside0.mk A20
  clear A20
  have H' := Aside0.mk H
  clear H
  go_enter Try.func120, Try.ntmps120
  go_wp2_with (first | ((with_reducible refine gate_dst (N := 1) rfl ?_); refine box_event ?hg (N := 1) ?hd (cs := #[.int .i64 a0_0, .int .i64 a0_1, .int .i64 a0_2, .int .i64 a0_3, .slice A0_4 l0_4.length c0_4]) (t := 31) ?hr ?_; (case hd => rfl); (case hg => rfl); (case hr => first | (go_simp; done) | (go_simp; rfl)); intro gb130 hg w3 hbox hb; have n0_ := Aside0.mk (below_step (by repeat (first | (with_reducible first | exact HB.out | apply below_alloc | apply pw_below_drewN | apply below_drew1) | exact HB.out)) hb); have n1_ := Aside0.mk (hbox); have n2_ := Aside0.mk ((by rw [hg]; exact (below_size (by repeat (first | (with_reducible first | exact HB.out | apply below_alloc | apply pw_below_drewN | apply below_drew1) | exact HB.out))) : w.heap.size ≤ gb130)); have n3_ := n2_; clear HB; have HB := n0_; have BK130 := n1_; have GW130 := n2_; have GE130 := n3_; clear n0_ n1_ n2_ n3_; clear hb hbox hg; have hcz4_0 : w3.cell? ⟨gb130, 0, none⟩ = some (.int .i64 a0_0) := (blk_cell BK130.out 0).trans rfl; have hcz4_1 : w3.cell? ⟨gb130, 1, none⟩ = some (.int .i64 a0_1) := (blk_cell BK130.out 1).trans rfl; have hcz4_2 : w3.cell? ⟨gb130, 2, none⟩ = some (.int .i64 a0_2) := (blk_cell BK130.out 2).trans rfl; have hcz4_3 : w3.cell? ⟨gb130, 3, none⟩ = some (.int .i64 a0_3) := (blk_cell BK130.out 3).trans rfl; have hcz4_4 : w3.cell? ⟨gb130, 4, none⟩ = some (.slice A0_4 l0_4.length c0_4) := (blk_cell BK130.out 4).trans rfl; have hfz4_0 := blk_frozen BK130.out 0; have hfz4_1 := blk_frozen BK130.out 1; have hfz4_2 := blk_frozen BK130.out 2; have hfz4_3 := blk_frozen BK130.out 3; have hfz4_4 := blk_frozen BK130.out 4) | ((with_reducible refine gate_callee (f := 156) rfl ?_); refine goesL_ (some 14) rfl rfl Try.func156 (by kernel_rfl) rfl #[.int .i64 a0_0, .int .i64 a0_1] rfl (by (try simp only [List.map_toArray, List.map_cons, List.map_nil]); first | done | rfl | (simp only [List.length_drop, List.length_take]; rfl)) ?_; (with_reducible refine (spec_l4Passes.calls k a0_0 a0_1 t131 _ A2.out).mono ?_); rintro e w5 ⟨v132, rfl, ho0, hb⟩; refine ⟨_, rfl, ?_⟩; have n0_ := Aside0.mk (Kd.R_lower ho0 (below_size (by repeat (first | (with_reducible first | exact HB.out | apply below_alloc | apply pw_below_drewN | apply below_drew1 | refine below_set ?_ GE130.out) | exact HB.out)))); have n1_ := Aside0.mk (blk_below (g := gb130) (o := .cells #[.int .i64 a0_0, .int .i64 a0_1, .int .i64 a0_2, .int .i64 a0_3, .slice A0_4 l0_4.length c0_4] 31 (0, 0)) (by (with_reducible repeat (first | refine blk_drewN ?_ _ | refine blk_drew ?_ | refine blk_alloc ?_ _)); exact BK130.out) hb); have n2_ := Aside0.mk (below_step (by repeat (first | (with_reducible first | exact HB.out | apply below_alloc | apply pw_below_drewN | apply below_drew1 | refine below_set ?_ GE130.out) | exact HB.out)) hb); clear BK130; clear HB; have HO133 := n0_; have BK130 := n1_; have HB := n2_; clear n0_ n1_ n2_; (try clear hb); (try clear hb2); (try clear hk); (try clear hi); (try clear ho0); obtain ⟨Ao6, co6, eo6⟩ := Kd.R_slice HO133.out; subst eo6))
  go_loopg [3, 16] k (fun kq v3 v16 w' => ∃ (x3_1 : List (S31)) (x16_1 : Int), v16 = .int .i64 x16_1 ∧ Aside0 (spec_l4Split.l0 kq x3_1 t131 (t131.length : Int) x16_1 a0_0 a0_1 a0_2 a0_3 l0_4 = some r) ∧ Aside0 (kq ≤ k) ∧ Aside0 (Kd.S k31 31 w' w.heap.size (fun k_ => k_ ≠ gb130) v3 x3_1) ∧ Aside0 (Kd.R k39 39 w' w.heap.size (fun _ => True) (.slice Ao6 t131.length co6) t131) ∧ Aside0 (w'.heap[gb130]? = some (.cells #[.int .i64 a0_0, .int .i64 a0_1, .int .i64 a0_2, .int .i64 a0_3, (.slice A0_4 l0_4.length c0_4)] 31 (0, 0))) ∧ Aside0 (Below w.heap.size w w'))
  case atStart => exact ⟨(([] : List (S31))), (0), (by first | rfl | (simp; done) | (simp [*]; done)), H', ⟨Nat.le_refl _⟩, ⟨by first | exact Kd.S_nil _ _ _ _ _ | exact Kd.N_nil _ _ _ _ _ | exact Kd.V_nil _ _ _ _ _ | exact Kd.Q_nil _ _ _ _ _ | exact Kd.R_nil _ _ _ _ _⟩, ⟨by (with_reducible repeat (first | apply Kd.R_alloc | apply Kd.R_drewN | apply Kd.R_drew)); exact HO133.out⟩, ⟨by (with_reducible repeat (first | refine blk_drewN ?_ _ | refine blk_drew ?_ | refine blk_alloc ?_ _)); exact BK130.out⟩, ⟨by repeat (first | (with_reducible first | exact HB.out | apply below_alloc | apply pw_below_drewN | apply below_drew1 | refine below_set ?_ GE130.out) | exact HB.out)⟩⟩
  case round =>
    clear H'
    try clear c1
    try clear p2
    try clear hcz4_0
    try clear hcz4_1
    try clear hcz4_2
    try clear hcz4_3
    try clear hcz4_4
    try clear hfz4_0
    try clear hfz4_1
    try clear hfz4_2
    try clear hfz4_3
    try clear hfz4_4
    obtain ⟨x3_1, x16_1, rfl, HA, HK1, HO_3, HO_14, BK130, HB⟩ := hrel
    cases gk with
    | zero => exact absurd HA.out (by simp [spec_l4Split.l0])
    | succ k1 =>
      have H := HA.out
      clear HA
      simp only [spec_l4Split.l0] at H
      by_cases c7 : x16_1 < (t131.length : Int)
      rotate_left
      · rw [if_neg c7] at H
        have c7b0 : decide (x16_1 < (t131.length : Int)) = false := decide_eq_false c7
        clear c7
        obtain rfl := Option.some.inj H
        go_wp2
        go_ret
        exact ⟨_, by first | rfl | (simp [errW_none, errW_some] <;> rfl) | (simp [*, errW_none, errW_some] <;> rfl), by (with_reducible repeat (first | apply Kd.S_alloc | apply Kd.S_drewN | apply Kd.S_drew)); exact Kd.S_mono HO_3.out (fun _ hk => trivial), by repeat (first | (with_reducible first | exact HB.out | apply below_alloc | apply pw_below_drewN | apply below_drew1 | refine below_set ?_ GE130.out) | exact HB.out)⟩
      rw [if_pos c7] at H
      have c7b0 : decide (x16_1 < (t131.length : Int)) = true := decide_eq_true c7
      clear c7
      by_cases c8 : 0 ≤ x16_1
      rotate_left
      · rw [if_neg c8] at H
        exact absurd H (by simp)
      rw [if_pos c8] at H
      have c8b0 : decide (0 ≤ x16_1) = true := decide_eq_true c8
      clear c8
      by_cases c9 : x16_1 < (t131.length : Int)
      rotate_left
      · rw [if_neg c9] at H
        exact absurd H (by simp)
      rw [if_pos c9] at H
      have c9b0 : decide (x16_1 < (t131.length : Int)) = true := decide_eq_true c9
      clear c9
      have H' := Aside0.mk H
      clear H
      have p134 : 0 ≤ (x16_1 : Int) := of_decide_eq_true (by first | (with_reducible assumption) | assumption)
      have q134 : x16_1 < (t131.length : Int) := of_decide_eq_true (by first | (with_reducible assumption) | assumption)
      obtain ⟨ad134, e134, hx134_0, hx134_1, hx134_2, hx134_3, hx134_4, hx134_5⟩ := at_T39 (Kd.R_reads' HO_14.out).2.2 x16_1 p134 q134
      cases e134
      replace p134 := eq_true p134
      replace q134 := eq_true q134
      go_wp2_with (first | ((with_reducible refine gate_dst (N := 5) rfl ?_); refine box_event ?hg (N := 5) ?hd (cs := #[.int .i64 0, .int .i64 0, .int .i64 0, .int .i64 0, .int .i64 0, .int .i64 0]) (t := 39) ?hr ?_; (case hd => rfl); (case hg => rfl); (case hr => first | (go_simp; done) | (go_simp; rfl)); intro gb135 hg w10 hbox hb; have n0_ := Aside0.mk (Kd.S_below (by (with_reducible repeat (first | apply Kd.S_alloc | apply Kd.S_drewN | apply Kd.S_drew)); exact HO_3.out) hb); have n1_ := Aside0.mk (Kd.R_below (Kd.R_elderB (by (with_reducible repeat (first | apply Kd.R_alloc | apply Kd.R_drewN | apply Kd.R_drew)); exact HO_14.out) gb135 (Nat.le_of_eq hg.symm)) hb); have n2_ := Aside0.mk (blk_below (g := gb130) (o := .cells #[.int .i64 a0_0, .int .i64 a0_1, .int .i64 a0_2, .int .i64 a0_3, .slice A0_4 l0_4.length c0_4] 31 (0, 0)) (by (with_reducible repeat (first | refine blk_drewN ?_ _ | refine blk_drew ?_ | refine blk_alloc ?_ _)); exact BK130.out) hb); have n3_ := Aside0.mk (below_step (by repeat (first | (with_reducible first | exact HB.out | apply below_alloc | apply pw_below_drewN | apply below_drew1 | refine below_set ?_ GE130.out) | exact HB.out)) hb); have n4_ := Aside0.mk (hbox); have n5_ := Aside0.mk ((by rw [hg]; exact (below_size (by repeat (first | (with_reducible first | exact HB.out | apply below_alloc | apply pw_below_drewN | apply below_drew1 | refine below_set ?_ GE130.out) | exact HB.out))) : w.heap.size ≤ gb135)); have n6_ := n5_; have n7_ := Aside0.mk ((by rw [hg]; exact Nat.ne_of_lt (blk_lt (g := gb130) (o := .cells #[.int .i64 a0_0, .int .i64 a0_1, .int .i64 a0_2, .int .i64 a0_3, .slice A0_4 l0_4.length c0_4] 31 (0, 0)) (by (with_reducible repeat (first | refine blk_drewN ?_ _ | refine blk_drew ?_ | refine blk_alloc ?_ _)); exact BK130.out)) : gb130 ≠ gb135)); have n8_ := Aside0.mk ((by rw [hg]; exact Nat.ne_of_gt (blk_lt (g := gb130) (o := .cells #[.int .i64 a0_0, .int .i64 a0_1, .int .i64 a0_2, .int .i64 a0_3, .slice A0_4 l0_4.length c0_4] 31 (0, 0)) (by (with_reducible repeat (first | refine blk_drewN ?_ _ | refine blk_drew ?_ | refine blk_alloc ?_ _)); exact BK130.out)) : gb135 ≠ gb130)); clear HO_3; clear HO_14; clear BK130; clear HB; have HO_3 := n0_; have HO_14 := n1_; have BK130 := n2_; have HB := n3_; have BK135 := n4_; have GW135 := n5_; have GE135 := n6_; have NB130_135 := n7_; have NB135_130 := n8_; clear n0_ n1_ n2_ n3_ n4_ n5_ n6_ n7_ n8_; clear hb hbox hg; have hnb11 := NB135_130.out; have hnc11 := NB130_135.out; have hcz12_0 : w10.cell? ⟨gb135, 0, none⟩ = some (.int .i64 0) := (blk_cell BK135.out 0).trans rfl; have hcz12_1 : w10.cell? ⟨gb135, 1, none⟩ = some (.int .i64 0) := (blk_cell BK135.out 1).trans rfl; have hcz12_2 : w10.cell? ⟨gb135, 2, none⟩ = some (.int .i64 0) := (blk_cell BK135.out 2).trans rfl; have hcz12_3 : w10.cell? ⟨gb135, 3, none⟩ = some (.int .i64 0) := (blk_cell BK135.out 3).trans rfl; have hcz12_4 : w10.cell? ⟨gb135, 4, none⟩ = some (.int .i64 0) := (blk_cell BK135.out 4).trans rfl; have hcz12_5 : w10.cell? ⟨gb135, 5, none⟩ = some (.int .i64 0) := (blk_cell BK135.out 5).trans rfl; have hfz12_0 := blk_frozen BK135.out 0; have hfz12_1 := blk_frozen BK135.out 1; have hfz12_2 := blk_frozen BK135.out 2; have hfz12_3 := blk_frozen BK135.out 3; have hfz12_4 := blk_frozen BK135.out 4; have hfz12_5 := blk_frozen BK135.out 5; have hcz13_0 : w10.cell? ⟨gb130, 0, none⟩ = some (.int .i64 a0_0) := (blk_cell BK130.out 0).trans rfl; have hcz13_1 : w10.cell? ⟨gb130, 1, none⟩ = some (.int .i64 a0_1) := (blk_cell BK130.out 1).trans rfl; have hcz13_2 : w10.cell? ⟨gb130, 2, none⟩ = some (.int .i64 a0_2) := (blk_cell BK130.out 2).trans rfl; have hcz13_3 : w10.cell? ⟨gb130, 3, none⟩ = some (.int .i64 a0_3) := (blk_cell BK130.out 3).trans rfl; have hcz13_4 : w10.cell? ⟨gb130, 4, none⟩ = some (.slice A0_4 l0_4.length c0_4) := (blk_cell BK130.out 4).trans rfl; have hfz13_0 := blk_frozen BK130.out 0; have hfz13_1 := blk_frozen BK130.out 1; have hfz13_2 := blk_frozen BK130.out 2; have hfz13_3 := blk_frozen BK130.out 3; have hfz13_4 := blk_frozen BK130.out 4) | ((with_reducible refine gate_dst (N := 6) rfl ?_); refine box_event ?hg (N := 6) ?hd (cs := #[.int .i64 0, .int .i64 0, .int .i64 0, .int .i64 0, .slice none 0 0]) (t := 31) ?hr ?_; (case hd => rfl); (case hg => rfl); (case hr => first | (go_simp; done) | (go_simp; rfl)); intro gb136 hg w14 hbox hb; have n0_ := Aside0.mk (Kd.S_below (Kd.S_elderB (by (with_reducible repeat (first | apply Kd.S_alloc | apply Kd.S_drewN | apply Kd.S_drew)); exact (Kd.S_mono (Kd.S_far (p := ⟨gb135, 5, none⟩) (Kd.S_far (p := ⟨gb135, 4, none⟩) (Kd.S_far (p := ⟨gb135, 3, none⟩) (Kd.S_far (p := ⟨gb135, 2, none⟩) (Kd.S_far (p := ⟨gb135, 1, none⟩) (Kd.S_far (p := ⟨gb135, 0, none⟩) (Kd.S_types HO_3.out BK135.out (by decide)) (fun _ hk => hk.2) (.int .i64 ((rd_T39 t131 x16_1).f0))) (fun _ hk => hk.2) (.int .i64 ((rd_T39 t131 x16_1).f1))) (fun _ hk => hk.2) (.int .i64 ((rd_T39 t131 x16_1).f2))) (fun _ hk => hk.2) (.int .i64 ((rd_T39 t131 x16_1).f3))) (fun _ hk => hk.2) (.int .i64 ((rd_T39 t131 x16_1).f4))) (fun _ hk => hk.2) (.int .i64 ((rd_T39 t131 x16_1).f5))) (fun _ h_ => h_.1))) gb136 (Nat.le_of_eq hg.symm)) hb); have n1_ := Aside0.mk (Kd.R_below (by (with_reducible repeat (first | apply Kd.R_alloc | apply Kd.R_drewN | apply Kd.R_drew)); exact (Kd.R_mono (Kd.R_far (p := ⟨gb135, 5, none⟩) (Kd.R_far (p := ⟨gb135, 4, none⟩) (Kd.R_far (p := ⟨gb135, 3, none⟩) (Kd.R_far (p := ⟨gb135, 2, none⟩) (Kd.R_far (p := ⟨gb135, 1, none⟩) (Kd.R_far (p := ⟨gb135, 0, none⟩) (Kd.R_mono HO_14.out (fun k_ hk => (⟨hk, hk.2⟩ : _ ∧ k_ ≠ gb135))) (fun _ hk => hk.2) (.int .i64 ((rd_T39 t131 x16_1).f0))) (fun _ hk => hk.2) (.int .i64 ((rd_T39 t131 x16_1).f1))) (fun _ hk => hk.2) (.int .i64 ((rd_T39 t131 x16_1).f2))) (fun _ hk => hk.2) (.int .i64 ((rd_T39 t131 x16_1).f3))) (fun _ hk => hk.2) (.int .i64 ((rd_T39 t131 x16_1).f4))) (fun _ hk => hk.2) (.int .i64 ((rd_T39 t131 x16_1).f5))) (fun _ h_ => h_.1))) hb); have n2_ := Aside0.mk (blk_below (g := gb130) (o := .cells #[.int .i64 a0_0, .int .i64 a0_1, .int .i64 a0_2, .int .i64 a0_3, .slice A0_4 l0_4.length c0_4] 31 (0, 0)) (by (with_reducible repeat (first | refine blk_drewN ?_ _ | refine blk_drew ?_ | refine blk_alloc ?_ _)); refine blk_far ?_ NB130_135.out _; (with_reducible repeat (first | refine blk_drewN ?_ _ | refine blk_drew ?_ | refine blk_alloc ?_ _)); refine blk_far ?_ NB130_135.out _; (with_reducible repeat (first | refine blk_drewN ?_ _ | refine blk_drew ?_ | refine blk_alloc ?_ _)); refine blk_far ?_ NB130_135.out _; (with_reducible repeat (first | refine blk_drewN ?_ _ | refine blk_drew ?_ | refine blk_alloc ?_ _)); refine blk_far ?_ NB130_135.out _; (with_reducible repeat (first | refine blk_drewN ?_ _ | refine blk_drew ?_ | refine blk_alloc ?_ _)); refine blk_far ?_ NB130_135.out _; (with_reducible repeat (first | refine blk_drewN ?_ _ | refine blk_drew ?_ | refine blk_alloc ?_ _)); refine blk_far ?_ NB130_135.out _; (with_reducible repeat (first | refine blk_drewN ?_ _ | refine blk_drew ?_ | refine blk_alloc ?_ _)); exact BK130.out) hb); have n3_ := Aside0.mk (blk_below (g := gb135) (o := .cells #[.int .i64 ((rd_T39 t131 x16_1).f0), .int .i64 ((rd_T39 t131 x16_1).f1), .int .i64 ((rd_T39 t131 x16_1).f2), .int .i64 ((rd_T39 t131 x16_1).f3), .int .i64 ((rd_T39 t131 x16_1).f4), .int .i64 ((rd_T39 t131 x16_1).f5)] 39 (0, 0)) (by (with_reducible repeat (first | refine blk_drewN ?_ _ | refine blk_drew ?_ | refine blk_alloc ?_ _)); refine blk_put (cs := #[.int .i64 ((rd_T39 t131 x16_1).f0), .int .i64 ((rd_T39 t131 x16_1).f1), .int .i64 ((rd_T39 t131 x16_1).f2), .int .i64 ((rd_T39 t131 x16_1).f3), .int .i64 ((rd_T39 t131 x16_1).f4), .int .i64 0]) ?_ 5 _ rfl; (with_reducible repeat (first | refine blk_drewN ?_ _ | refine blk_drew ?_ | refine blk_alloc ?_ _)); refine blk_put (cs := #[.int .i64 ((rd_T39 t131 x16_1).f0), .int .i64 ((rd_T39 t131 x16_1).f1), .int .i64 ((rd_T39 t131 x16_1).f2), .int .i64 ((rd_T39 t131 x16_1).f3), .int .i64 0, .int .i64 0]) ?_ 4 _ rfl; (with_reducible repeat (first | refine blk_drewN ?_ _ | refine blk_drew ?_ | refine blk_alloc ?_ _)); refine blk_put (cs := #[.int .i64 ((rd_T39 t131 x16_1).f0), .int .i64 ((rd_T39 t131 x16_1).f1), .int .i64 ((rd_T39 t131 x16_1).f2), .int .i64 0, .int .i64 0, .int .i64 0]) ?_ 3 _ rfl; (with_reducible repeat (first | refine blk_drewN ?_ _ | refine blk_drew ?_ | refine blk_alloc ?_ _)); refine blk_put (cs := #[.int .i64 ((rd_T39 t131 x16_1).f0), .int .i64 ((rd_T39 t131 x16_1).f1), .int .i64 0, .int .i64 0, .int .i64 0, .int .i64 0]) ?_ 2 _ rfl; (with_reducible repeat (first | refine blk_drewN ?_ _ | refine blk_drew ?_ | refine blk_alloc ?_ _)); refine blk_put (cs := #[.int .i64 ((rd_T39 t131 x16_1).f0), .int .i64 0, .int .i64 0, .int .i64 0, .int .i64 0, .int .i64 0]) ?_ 1 _ rfl; (with_reducible repeat (first | refine blk_drewN ?_ _ | refine blk_drew ?_ | refine blk_alloc ?_ _)); refine blk_put (cs := #[.int .i64 0, .int .i64 0, .int .i64 0, .int .i64 0, .int .i64 0, .int .i64 0]) ?_ 0 _ rfl; (with_reducible repeat (first | refine blk_drewN ?_ _ | refine blk_drew ?_ | refine blk_alloc ?_ _)); exact BK135.out) hb); have n4_ := Aside0.mk (below_step (by repeat (first | (with_reducible first | exact HB.out | apply below_alloc | apply pw_below_drewN | apply below_drew1 | refine below_set ?_ GE130.out | refine below_set ?_ GE135.out) | exact HB.out)) hb); have n5_ := Aside0.mk (hbox); have n6_ := Aside0.mk ((by rw [hg]; exact (below_size (by repeat (first | (with_reducible first | exact HB.out | apply below_alloc | apply pw_below_drewN | apply below_drew1 | refine below_set ?_ GE130.out | refine below_set ?_ GE135.out) | exact HB.out))) : w.heap.size ≤ gb136)); have n7_ := n6_; have n8_ := Aside0.mk ((by rw [hg]; exact Nat.ne_of_lt (blk_lt (g := gb130) (o := .cells #[.int .i64 a0_0, .int .i64 a0_1, .int .i64 a0_2, .int .i64 a0_3, .slice A0_4 l0_4.length c0_4] 31 (0, 0)) (by (with_reducible repeat (first | refine blk_drewN ?_ _ | refine blk_drew ?_ | refine blk_alloc ?_ _)); refine blk_far ?_ NB130_135.out _; (with_reducible repeat (first | refine blk_drewN ?_ _ | refine blk_drew ?_ | refine blk_alloc ?_ _)); refine blk_far ?_ NB130_135.out _; (with_reducible repeat (first | refine blk_drewN ?_ _ | refine blk_drew ?_ | refine blk_alloc ?_ _)); refine blk_far ?_ NB130_135.out _; (with_reducible repeat (first | refine blk_drewN ?_ _ | refine blk_drew ?_ | refine blk_alloc ?_ _)); refine blk_far ?_ NB130_135.out _; (with_reducible repeat (first | refine blk_drewN ?_ _ | refine blk_drew ?_ | refine blk_alloc ?_ _)); refine blk_far ?_ NB130_135.out _; (with_reducible repeat (first | refine blk_drewN ?_ _ | refine blk_drew ?_ | refine blk_alloc ?_ _)); refine blk_far ?_ NB130_135.out _; (with_reducible repeat (first | refine blk_drewN ?_ _ | refine blk_drew ?_ | refine blk_alloc ?_ _)); exact BK130.out)) : gb130 ≠ gb136)); have n9_ := Aside0.mk ((by rw [hg]; exact Nat.ne_of_gt (blk_lt (g := gb130) (o := .cells #[.int .i64 a0_0, .int .i64 a0_1, .int .i64 a0_2, .int .i64 a0_3, .slice A0_4 l0_4.length c0_4] 31 (0, 0)) (by (with_reducible repeat (first | refine blk_drewN ?_ _ | refine blk_drew ?_ | refine blk_alloc ?_ _)); refine blk_far ?_ NB130_135.out _; (with_reducible repeat (first | refine blk_drewN ?_ _ | refine blk_drew ?_ | refine blk_alloc ?_ _)); refine blk_far ?_ NB130_135.out _; (with_reducible repeat (first | refine blk_drewN ?_ _ | refine blk_drew ?_ | refine blk_alloc ?_ _)); refine blk_far ?_ NB130_135.out _; (with_reducible repeat (first | refine blk_drewN ?_ _ | refine blk_drew ?_ | refine blk_alloc ?_ _)); refine blk_far ?_ NB130_135.out _; (with_reducible repeat (first | refine blk_drewN ?_ _ | refine blk_drew ?_ | refine blk_alloc ?_ _)); refine blk_far ?_ NB130_135.out _; (with_reducible repeat (first | refine blk_drewN ?_ _ | refine blk_drew ?_ | refine blk_alloc ?_ _)); refine blk_far ?_ NB130_135.out _; (with_reducible repeat (first | refine blk_drewN ?_ _ | refine blk_drew ?_ | refine blk_alloc ?_ _)); exact BK130.out)) : gb136 ≠ gb130)); have n10_ := Aside0.mk ((by rw [hg]; exact Nat.ne_of_lt (blk_lt (g := gb135) (o := .cells #[.int .i64 ((rd_T39 t131 x16_1).f0), .int .i64 ((rd_T39 t131 x16_1).f1), .int .i64 ((rd_T39 t131 x16_1).f2), .int .i64 ((rd_T39 t131 x16_1).f3), .int .i64 ((rd_T39 t131 x16_1).f4), .int .i64 ((rd_T39 t131 x16_1).f5)] 39 (0, 0)) (by (with_reducible repeat (first | refine blk_drewN ?_ _ | refine blk_drew ?_ | refine blk_alloc ?_ _)); refine blk_put (cs := #[.int .i64 ((rd_T39 t131 x16_1).f0), .int .i64 ((rd_T39 t131 x16_1).f1), .int .i64 ((rd_T39 t131 x16_1).f2), .int .i64 ((rd_T39 t131 x16_1).f3), .int .i64 ((rd_T39 t131 x16_1).f4), .int .i64 0]) ?_ 5 _ rfl; (with_reducible repeat (first | refine blk_drewN ?_ _ | refine blk_drew ?_ | refine blk_alloc ?_ _)); refine blk_put (cs := #[.int .i64 ((rd_T39 t131 x16_1).f0), .int .i64 ((rd_T39 t131 x16_1).f1), .int .i64 ((rd_T39 t131 x16_1).f2), .int .i64 ((rd_T39 t131 x16_1).f3), .int .i64 0, .int .i64 0]) ?_ 4 _ rfl; (with_reducible repeat (first | refine blk_drewN ?_ _ | refine blk_drew ?_ | refine blk_alloc ?_ _)); refine blk_put (cs := #[.int .i64 ((rd_T39 t131 x16_1).f0), .int .i64 ((rd_T39 t131 x16_1).f1), .int .i64 ((rd_T39 t131 x16_1).f2), .int .i64 0, .int .i64 0, .int .i64 0]) ?_ 3 _ rfl; (with_reducible repeat (first | refine blk_drewN ?_ _ | refine blk_drew ?_ | refine blk_alloc ?_ _)); refine blk_put (cs := #[.int .i64 ((rd_T39 t131 x16_1).f0), .int .i64 ((rd_T39 t131 x16_1).f1), .int .i64 0, .int .i64 0, .int .i64 0, .int .i64 0]) ?_ 2 _ rfl; (with_reducible repeat (first | refine blk_drewN ?_ _ | refine blk_drew ?_ | refine blk_alloc ?_ _)); refine blk_put (cs := #[.int .i64 ((rd_T39 t131 x16_1).f0), .int .i64 0, .int .i64 0, .int .i64 0, .int .i64 0, .int .i64 0]) ?_ 1 _ rfl; (with_reducible repeat (first | refine blk_drewN ?_ _ | refine blk_drew ?_ | refine blk_alloc ?_ _)); refine blk_put (cs := #[.int .i64 0, .int .i64 0, .int .i64 0, .int .i64 0, .int .i64 0, .int .i64 0]) ?_ 0 _ rfl; (with_reducible repeat (first | refine blk_drewN ?_ _ | refine blk_drew ?_ | refine blk_alloc ?_ _)); exact BK135.out)) : gb135 ≠ gb136)); have n11_ := Aside0.mk ((by rw [hg]; exact Nat.ne_of_gt (blk_lt (g := gb135) (o := .cells #[.int .i64 ((rd_T39 t131 x16_1).f0), .int .i64 ((rd_T39 t131 x16_1).f1), .int .i64 ((rd_T39 t131 x16_1).f2), .int .i64 ((rd_T39 t131 x16_1).f3), .int .i64 ((rd_T39 t131 x16_1).f4), .int .i64 ((rd_T39 t131 x16_1).f5)] 39 (0, 0)) (by (with_reducible repeat (first | refine blk_drewN ?_ _ | refine blk_drew ?_ | refine blk_alloc ?_ _)); refine blk_put (cs := #[.int .i64 ((rd_T39 t131 x16_1).f0), .int .i64 ((rd_T39 t131 x16_1).f1), .int .i64 ((rd_T39 t131 x16_1).f2), .int .i64 ((rd_T39 t131 x16_1).f3), .int .i64 ((rd_T39 t131 x16_1).f4), .int .i64 0]) ?_ 5 _ rfl; (with_reducible repeat (first | refine blk_drewN ?_ _ | refine blk_drew ?_ | refine blk_alloc ?_ _)); refine blk_put (cs := #[.int .i64 ((rd_T39 t131 x16_1).f0), .int .i64 ((rd_T39 t131 x16_1).f1), .int .i64 ((rd_T39 t131 x16_1).f2), .int .i64 ((rd_T39 t131 x16_1).f3), .int .i64 0, .int .i64 0]) ?_ 4 _ rfl; (with_reducible repeat (first | refine blk_drewN ?_ _ | refine blk_drew ?_ | refine blk_alloc ?_ _)); refine blk_put (cs := #[.int .i64 ((rd_T39 t131 x16_1).f0), .int .i64 ((rd_T39 t131 x16_1).f1), .int .i64 ((rd_T39 t131 x16_1).f2), .int .i64 0, .int .i64 0, .int .i64 0]) ?_ 3 _ rfl; (with_reducible repeat (first | refine blk_drewN ?_ _ | refine blk_drew ?_ | refine blk_alloc ?_ _)); refine blk_put (cs := #[.int .i64 ((rd_T39 t131 x16_1).f0), .int .i64 ((rd_T39 t131 x16_1).f1), .int .i64 0, .int .i64 0, .int .i64 0, .int .i64 0]) ?_ 2 _ rfl; (with_reducible repeat (first | refine blk_drewN ?_ _ | refine blk_drew ?_ | refine blk_alloc ?_ _)); refine blk_put (cs := #[.int .i64 ((rd_T39 t131 x16_1).f0), .int .i64 0, .int .i64 0, .int .i64 0, .int .i64 0, .int .i64 0]) ?_ 1 _ rfl; (with_reducible repeat (first | refine blk_drewN ?_ _ | refine blk_drew ?_ | refine blk_alloc ?_ _)); refine blk_put (cs := #[.int .i64 0, .int .i64 0, .int .i64 0, .int .i64 0, .int .i64 0, .int .i64 0]) ?_ 0 _ rfl; (with_reducible repeat (first | refine blk_drewN ?_ _ | refine blk_drew ?_ | refine blk_alloc ?_ _)); exact BK135.out)) : gb136 ≠ gb135)); clear HO_3; clear HO_14; clear BK130; clear BK135; clear HB; have HO_3 := n0_; have HO_14 := n1_; have BK130 := n2_; have BK135 := n3_; have HB := n4_; have BK136 := n5_; have GW136 := n6_; have GE136 := n7_; have NB130_136 := n8_; have NB136_130 := n9_; have NB135_136 := n10_; have NB136_135 := n11_; clear n0_ n1_ n2_ n3_ n4_ n5_ n6_ n7_ n8_ n9_ n10_ n11_; clear hb hbox hg; have hnb15 := NB136_130.out; have hnc15 := NB130_136.out; have hnb16 := NB136_135.out; have hnc16 := NB135_136.out; have hcz17_0 : w14.cell? ⟨gb136, 0, none⟩ = some (.int .i64 0) := (blk_cell BK136.out 0).trans rfl; have hcz17_1 : w14.cell? ⟨gb136, 1, none⟩ = some (.int .i64 0) := (blk_cell BK136.out 1).trans rfl; have hcz17_2 : w14.cell? ⟨gb136, 2, none⟩ = some (.int .i64 0) := (blk_cell BK136.out 2).trans rfl; have hcz17_3 : w14.cell? ⟨gb136, 3, none⟩ = some (.int .i64 0) := (blk_cell BK136.out 3).trans rfl; have hcz17_4 : w14.cell? ⟨gb136, 4, none⟩ = some (.slice none 0 0) := (blk_cell BK136.out 4).trans rfl; have hfz17_0 := blk_frozen BK136.out 0; have hfz17_1 := blk_frozen BK136.out 1; have hfz17_2 := blk_frozen BK136.out 2; have hfz17_3 := blk_frozen BK136.out 3; have hfz17_4 := blk_frozen BK136.out 4))
      go_loopg [7] k1 (fun kq v7 w' => ∃ (x7_2 : Int) (x137004_2 : List Int) (u137004 : Value), v7 = .int .i64 x7_2 ∧ Aside0 (spec_l4Split.l1 kq x3_1 x7_2 t131 (t131.length : Int) x16_1 a0_0 a0_1 a0_2 a0_3 l0_4 ((rd_T39 t131 x16_1).f0) ((rd_T39 t131 x16_1).f1) ((rd_T39 t131 x16_1).f2) ((rd_T39 t131 x16_1).f3) ((rd_T39 t131 x16_1).f4) ((rd_T39 t131 x16_1).f5) ((rd_T39 t131 x16_1).f4) ((rd_T39 t131 x16_1).f5) a0_2 a0_3 x137004_2 = some r) ∧ Aside0 (kq ≤ k1) ∧ Aside0 (Kd.S k31 31 w' w.heap.size (fun k_ => some k_ ≠ (u137004 : Value).ownBlock ∧ k_ ≠ gb130 ∧ k_ ≠ gb136) u3 x3_1) ∧ Aside0 (Kd.R k39 39 w' w.heap.size (fun k_ => k_ ≠ gb135) (.slice (some ad134) t131.length co6) t131) ∧ Aside0 (Kd.R (Kd.int .i64) 3 w' w.heap.size (fun _ => True) u137004 x137004_2) ∧ Aside0 (w'.heap[gb130]? = some (.cells #[.int .i64 a0_0, .int .i64 a0_1, .int .i64 a0_2, .int .i64 a0_3, (.slice A0_4 l0_4.length c0_4)] 31 (0, 0))) ∧ Aside0 (w'.heap[gb135]? = some (.cells #[.int .i64 ((rd_T39 t131 x16_1).f0), .int .i64 ((rd_T39 t131 x16_1).f1), .int .i64 ((rd_T39 t131 x16_1).f2), .int .i64 ((rd_T39 t131 x16_1).f3), .int .i64 ((rd_T39 t131 x16_1).f4), .int .i64 ((rd_T39 t131 x16_1).f5)] 39 (0, 0))) ∧ Aside0 (w'.heap[gb136]? = some (.cells #[.int .i64 ((rd_T39 t131 x16_1).f4), .int .i64 ((rd_T39 t131 x16_1).f5), .int .i64 a0_2, .int .i64 a0_3, u137004] 31 (0, 0))) ∧ Aside0 (Below w.heap.size w w'))
      case atStart => exact ⟨(0), (([] : List Int)), (.slice none 0 0), (by first | rfl | (simp; done) | (simp [*]; done)), H', ⟨Nat.le_refl _⟩, ⟨by (with_reducible repeat (first | apply Kd.S_alloc | apply Kd.S_drewN | apply Kd.S_drew)); exact Kd.S_mono (Kd.S_far (p := ⟨gb136, 4, none⟩) (Kd.S_far (p := ⟨gb136, 3, none⟩) (Kd.S_far (p := ⟨gb136, 2, none⟩) (Kd.S_far (p := ⟨gb136, 1, none⟩) (Kd.S_far (p := ⟨gb136, 0, none⟩) (Kd.S_mono HO_3.out (fun k_ hk => (⟨hk, hk.2⟩ : _ ∧ k_ ≠ gb136))) (fun _ hk => hk.2) (.int .i64 ((rd_T39 t131 x16_1).f4))) (fun _ hk => hk.2) (.int .i64 ((rd_T39 t131 x16_1).f5))) (fun _ hk => hk.2) (.int .i64 a0_2)) (fun _ hk => hk.2) (.int .i64 a0_3)) (fun _ hk => hk.2) (.slice none 0 0)) (fun _ hk => ⟨(by simp [Value.ownBlock]), ⟨hk.1.1, hk.1.2⟩⟩)⟩, ⟨by (with_reducible repeat (first | apply Kd.R_alloc | apply Kd.R_drewN | apply Kd.R_drew)); exact Kd.R_mono (Kd.R_far (p := ⟨gb136, 4, none⟩) (Kd.R_far (p := ⟨gb136, 3, none⟩) (Kd.R_far (p := ⟨gb136, 2, none⟩) (Kd.R_far (p := ⟨gb136, 1, none⟩) (Kd.R_far (p := ⟨gb136, 0, none⟩) (Kd.R_types HO_14.out BK136.out (by decide)) (fun _ hk => hk.2) (.int .i64 ((rd_T39 t131 x16_1).f4))) (fun _ hk => hk.2) (.int .i64 ((rd_T39 t131 x16_1).f5))) (fun _ hk => hk.2) (.int .i64 a0_2)) (fun _ hk => hk.2) (.int .i64 a0_3)) (fun _ hk => hk.2) (.slice none 0 0)) (fun _ hk => hk.1.2)⟩, ⟨by first | exact Kd.R_nil _ _ _ _ _ | exact Kd.N_nil _ _ _ _ _ | exact Kd.V_nil _ _ _ _ _ | exact Kd.Q_nil _ _ _ _ _ | exact Kd.S_nil _ _ _ _ _⟩, ⟨by (with_reducible repeat (first | refine blk_drewN ?_ _ | refine blk_drew ?_ | refine blk_alloc ?_ _)); refine blk_far ?_ NB130_136.out _; (with_reducible repeat (first | refine blk_drewN ?_ _ | refine blk_drew ?_ | refine blk_alloc ?_ _)); refine blk_far ?_ NB130_136.out _; (with_reducible repeat (first | refine blk_drewN ?_ _ | refine blk_drew ?_ | refine blk_alloc ?_ _)); refine blk_far ?_ NB130_136.out _; (with_reducible repeat (first | refine blk_drewN ?_ _ | refine blk_drew ?_ | refine blk_alloc ?_ _)); refine blk_far ?_ NB130_136.out _; (with_reducible repeat (first | refine blk_drewN ?_ _ | refine blk_drew ?_ | refine blk_alloc ?_ _)); refine blk_far ?_ NB130_136.out _; (with_reducible repeat (first | refine blk_drewN ?_ _ | refine blk_drew ?_ | refine blk_alloc ?_ _)); exact BK130.out⟩, ⟨by (with_reducible repeat (first | refine blk_drewN ?_ _ | refine blk_drew ?_ | refine blk_alloc ?_ _)); refine blk_far ?_ NB135_136.out _; (with_reducible repeat (first | refine blk_drewN ?_ _ | refine blk_drew ?_ | refine blk_alloc ?_ _)); refine blk_far ?_ NB135_136.out _; (with_reducible repeat (first | refine blk_drewN ?_ _ | refine blk_drew ?_ | refine blk_alloc ?_ _)); refine blk_far ?_ NB135_136.out _; (with_reducible repeat (first | refine blk_drewN ?_ _ | refine blk_drew ?_ | refine blk_alloc ?_ _)); refine blk_far ?_ NB135_136.out _; (with_reducible repeat (first | refine blk_drewN ?_ _ | refine blk_drew ?_ | refine blk_alloc ?_ _)); refine blk_far ?_ NB135_136.out _; (with_reducible repeat (first | refine blk_drewN ?_ _ | refine blk_drew ?_ | refine blk_alloc ?_ _)); exact BK135.out⟩, ⟨by (with_reducible repeat (first | refine blk_drewN ?_ _ | refine blk_drew ?_ | refine blk_alloc ?_ _)); refine blk_put (cs := #[.int .i64 ((rd_T39 t131 x16_1).f4), .int .i64 ((rd_T39 t131 x16_1).f5), .int .i64 a0_2, .int .i64 a0_3, .slice none 0 0]) ?_ 4 _ rfl; (with_reducible repeat (first | refine blk_drewN ?_ _ | refine blk_drew ?_ | refine blk_alloc ?_ _)); refine blk_put (cs := #[.int .i64 ((rd_T39 t131 x16_1).f4), .int .i64 ((rd_T39 t131 x16_1).f5), .int .i64 a0_2, .int .i64 0, .slice none 0 0]) ?_ 3 _ rfl; (with_reducible repeat (first | refine blk_drewN ?_ _ | refine blk_drew ?_ | refine blk_alloc ?_ _)); refine blk_put (cs := #[.int .i64 ((rd_T39 t131 x16_1).f4), .int .i64 ((rd_T39 t131 x16_1).f5), .int .i64 0, .int .i64 0, .slice none 0 0]) ?_ 2 _ rfl; (with_reducible repeat (first | refine blk_drewN ?_ _ | refine blk_drew ?_ | refine blk_alloc ?_ _)); refine blk_put (cs := #[.int .i64 ((rd_T39 t131 x16_1).f4), .int .i64 0, .int .i64 0, .int .i64 0, .slice none 0 0]) ?_ 1 _ rfl; (with_reducible repeat (first | refine blk_drewN ?_ _ | refine blk_drew ?_ | refine blk_alloc ?_ _)); refine blk_put (cs := #[.int .i64 0, .int .i64 0, .int .i64 0, .int .i64 0, .slice none 0 0]) ?_ 0 _ rfl; (with_reducible repeat (first | refine blk_drewN ?_ _ | refine blk_drew ?_ | refine blk_alloc ?_ _)); exact BK136.out⟩, ⟨by repeat (first | (with_reducible first | exact HB.out | apply below_alloc | apply pw_below_drewN | apply below_drew1 | refine below_set ?_ GE130.out | refine below_set ?_ GE135.out | refine below_set ?_ GE136.out) | exact HB.out)⟩⟩
      case round =>
        clear H'
        try clear c1
        try clear p1
        try clear q1
        try clear hx1
        try clear p2
        try clear c7
        try clear c7b0
        try clear c8
        try clear c8b0
        try clear c9
        try clear c9b0
        try clear c11
        try clear c12
        try clear p13
        try clear q13
        try clear hx13
        try clear c15
        try clear c16
        try clear hcz12_0
        try clear hcz12_1
        try clear hcz12_2
        try clear hcz12_3
        try clear hcz12_4
        try clear hcz12_5
        try clear hcz13_0
        try clear hcz13_1
        try clear hcz13_2
        try clear hcz13_3
        try clear hcz13_4
        try clear hcz17_0
        try clear hcz17_1
        try clear hcz17_2
        try clear hcz17_3
        try clear hcz17_4
        try clear hcz4_0
        try clear hcz4_1
        try clear hcz4_2
        try clear hcz4_3
        try clear hcz4_4
        try clear hfz12_0
        try clear hfz12_1
        try clear hfz12_2
        try clear hfz12_3
        try clear hfz12_4
        try clear hfz12_5
        try clear hfz13_0
        try clear hfz13_1
        try clear hfz13_2
        try clear hfz13_3
        try clear hfz13_4
        try clear hfz17_0
        try clear hfz17_1
        try clear hfz17_2
        try clear hfz17_3
        try clear hfz17_4
        try clear hfz4_0
        try clear hfz4_1
        try clear hfz4_2
        try clear hfz4_3
        try clear hfz4_4
        try clear hx134_0
        try clear hx134_1
        try clear hx134_2
        try clear hx134_3
        try clear hx134_4
        try clear hx134_5
        try clear p134
        try clear p2
        try clear q134
        obtain ⟨x7_2, x137004_2, u137004, rfl, HA, HK2, HO_3, HO_14, HO_137004, BK130, BK135, BK136, HB⟩ := hrel
        cases gk with
        | zero => exact absurd HA.out (by simp [spec_l4Split.l1])
        | succ k2 =>
          have H := HA.out
          clear HA
          simp only [spec_l4Split.l1] at H
          by_cases c18 : x7_2 < ((rd_T39 t131 x16_1).f5)
          rotate_left
          · rw [if_neg c18] at H
            have c18b0 : decide (x7_2 < ((rd_T39 t131 x16_1).f5)) = false := decide_eq_false c18
            clear c18
            by_cases c41 : x3_1.length < 2513169434916
            rotate_left
            · rw [if_neg c41] at H
              exact absurd H (by simp)
            rw [if_pos c41] at H
            have LMc41 := Aside0.mk c41
            clear c41
            obtain ⟨y137, hy137⟩ : ∃ y_ : List (S31), y_ = (x3_1 ++ [(⟨((rd_T39 t131 x16_1).f4), ((rd_T39 t131 x16_1).f5), a0_2, a0_3, x137004_2⟩ : S31)]) := ⟨_, rfl⟩
            replace H : (spec_l4Split.l0 k2 y137 t131 (t131.length : Int) (wrap64 (x16_1 + 1)) a0_0 a0_1 a0_2 a0_3 l0_4) = some r := by first | (rw [hy137]; with_reducible exact H) | (have H2_ := (Option.bind_some _ _).symm.trans H; rw [hy137]; with_reducible exact H2_) | (have H2_ := (Option.bind_some _ _).symm.trans H; with_reducible exact H2_) | with_reducible exact H | (rw [hy137]; exact H) | exact H
            have Ny137 := Aside0.mk hy137
            clear hy137
            have H' := Aside0.mk H
            clear H
            have hnb42 := NB135_130.out
            have hnc42 := NB130_135.out
            have hnb43 := NB135_136.out
            have hnc43 := NB136_135.out
            have hcz44_0 : wr.cell? ⟨gb135, 0, none⟩ = some (.int .i64 ((rd_T39 t131 x16_1).f0)) := (blk_cell BK135.out 0).trans rfl
            have hcz44_1 : wr.cell? ⟨gb135, 1, none⟩ = some (.int .i64 ((rd_T39 t131 x16_1).f1)) := (blk_cell BK135.out 1).trans rfl
            have hcz44_2 : wr.cell? ⟨gb135, 2, none⟩ = some (.int .i64 ((rd_T39 t131 x16_1).f2)) := (blk_cell BK135.out 2).trans rfl
            have hcz44_3 : wr.cell? ⟨gb135, 3, none⟩ = some (.int .i64 ((rd_T39 t131 x16_1).f3)) := (blk_cell BK135.out 3).trans rfl
            have hcz44_4 : wr.cell? ⟨gb135, 4, none⟩ = some (.int .i64 ((rd_T39 t131 x16_1).f4)) := (blk_cell BK135.out 4).trans rfl
            have hcz44_5 : wr.cell? ⟨gb135, 5, none⟩ = some (.int .i64 ((rd_T39 t131 x16_1).f5)) := (blk_cell BK135.out 5).trans rfl
            have hfz44_0 := blk_frozen BK135.out 0
            have hfz44_1 := blk_frozen BK135.out 1
            have hfz44_2 := blk_frozen BK135.out 2
            have hfz44_3 := blk_frozen BK135.out 3
            have hfz44_4 := blk_frozen BK135.out 4
            have hfz44_5 := blk_frozen BK135.out 5
            have hnb45 := NB136_130.out
            have hnc45 := NB130_136.out
            have hcz46_0 : wr.cell? ⟨gb136, 0, none⟩ = some (.int .i64 ((rd_T39 t131 x16_1).f4)) := (blk_cell BK136.out 0).trans rfl
            have hcz46_1 : wr.cell? ⟨gb136, 1, none⟩ = some (.int .i64 ((rd_T39 t131 x16_1).f5)) := (blk_cell BK136.out 1).trans rfl
            have hcz46_2 : wr.cell? ⟨gb136, 2, none⟩ = some (.int .i64 a0_2) := (blk_cell BK136.out 2).trans rfl
            have hcz46_3 : wr.cell? ⟨gb136, 3, none⟩ = some (.int .i64 a0_3) := (blk_cell BK136.out 3).trans rfl
            have hcz46_4 : wr.cell? ⟨gb136, 4, none⟩ = some (u137004) := (blk_cell BK136.out 4).trans rfl
            have hfz46_0 := blk_frozen BK136.out 0
            have hfz46_1 := blk_frozen BK136.out 1
            have hfz46_2 := blk_frozen BK136.out 2
            have hfz46_3 := blk_frozen BK136.out 3
            have hfz46_4 := blk_frozen BK136.out 4
            obtain ⟨Ao48, co48, eo48⟩ := Kd.R_slice HO_137004.out
            subst eo48
            go_wp2_with (first | ((with_reducible refine gate_builtin (b := .append) (xs := #[.tmp 74, .tmp 76]) rfl ?_); at_builtin; refine Kd.S_append k31 (w0 := w) w.heap.size rfl (.tmp 74) (.tmp 76) 33 31 (.agg #[(.int .i64 0), (.int .i64 0), (.int .i64 0), (.int .i64 0), (.slice none 0 0)]) 56 rfl Try.underlying33 info31 rfl (by decide) (by omega) u3 x3_1 (⟨((rd_T39 t131 x16_1).f4), ((rd_T39 t131 x16_1).f5), a0_2, a0_3, x137004_2⟩ : S31) [.int .i64 ((rd_T39 t131 x16_1).f4), .int .i64 ((rd_T39 t131 x16_1).f5), .int .i64 a0_2, .int .i64 a0_3, .slice Ao48 x137004_2.length co48] (fun k_ => k_ ≠ gb130 ∧ k_ ≠ gb136) (fun k_ => some k_ = (.slice Ao48 x137004_2.length co48 : Value).ownBlock) rfl rfl ?aP (fun k_ hk_ => ((Kd.R_mono (ok' := fun k_ => ((fun k_ => k_ ≠ gb130 ∧ k_ ≠ gb136)) k_ ∧ some k_ ≠ (u3 : Value).ownBlock) (Kd.R_types (Kd.R_types (Kd.R_apart' (HO_137004.out) (Kd.S_typed HO_3.out) (by decide)) BK130.out (by decide)) BK136.out (by decide)) (fun k_ hk => ⟨⟨hk.1.2, hk.2⟩, hk.1.1.2⟩))).1 k_ hk_.symm) ?aF ?aO ?aB ?aS ?aL ?_; (case aP => exact k31_mkM _ _ _ (⟨((rd_T39 t131 x16_1).f4), ((rd_T39 t131 x16_1).f5), a0_2, a0_3, x137004_2⟩ : S31) (Kd.R_mono (Kd.R_tight rfl (Kd.R_mono (ok' := fun k_ => ((fun k_ => k_ ≠ gb130 ∧ k_ ≠ gb136)) k_ ∧ some k_ ≠ (u3 : Value).ownBlock) (Kd.R_types (Kd.R_types (Kd.R_apart' (HO_137004.out) (Kd.S_typed HO_3.out) (by decide)) BK130.out (by decide)) BK136.out (by decide)) (fun k_ hk => ⟨⟨hk.1.2, hk.2⟩, hk.1.1.2⟩))) (fun _ h_ => h_))); (case aB => exact (by repeat (first | (with_reducible first | exact HB.out | apply below_alloc | apply pw_below_drewN | apply below_drew1 | refine below_set ?_ GE130.out | refine below_set ?_ GE135.out | refine below_set ?_ GE136.out) | exact HB.out))); (case aF => exact (fun k_ hk => ⟨Kd.freshB (g := gb130) (o := .cells #[.int .i64 a0_0, .int .i64 a0_1, .int .i64 a0_2, .int .i64 a0_3, .slice A0_4 l0_4.length c0_4] 31 (0, 0)) (by (with_reducible repeat (first | refine blk_drewN ?_ _ | refine blk_drew ?_ | refine blk_alloc ?_ _)); exact BK130.out) k_ hk, Kd.freshB (g := gb136) (o := .cells #[.int .i64 ((rd_T39 t131 x16_1).f4), .int .i64 ((rd_T39 t131 x16_1).f5), .int .i64 a0_2, .int .i64 a0_3, .slice Ao48 x137004_2.length co48] 31 (0, 0)) (by (with_reducible repeat (first | refine blk_drewN ?_ _ | refine blk_drew ?_ | refine blk_alloc ?_ _)); exact BK136.out) k_ hk⟩)); (case aO => exact (by (with_reducible repeat (first | apply Kd.S_alloc | apply Kd.S_drewN | apply Kd.S_drew)); exact Kd.S_mono HO_3.out (fun k_ hk => ⟨⟨hk.2.1, hk.2.2⟩, fun e_ => hk.1 e_⟩))); (case aS => exact (below_size (by repeat (first | (with_reducible first | exact HB.out | apply below_alloc | apply pw_below_drewN | apply below_drew1 | refine below_set ?_ GE130.out | refine below_set ?_ GE135.out | refine below_set ?_ GE136.out) | exact HB.out)))); (case aL => have := LMc41.out; omega); intro v138 w47 ho hb hg hat; rw [← Ny137.out] at ho; have n0_ := Aside0.mk (Kd.R_over' (by (with_reducible repeat (first | apply Kd.R_alloc | apply Kd.R_drewN | apply Kd.R_drew)); exact HO_14.out) (Kd.S_typed (by (with_reducible repeat (first | apply Kd.S_alloc | apply Kd.S_drewN | apply Kd.S_drew)); exact HO_3.out)) (by decide) hg); have n1_ := Aside0.mk (blk_grown (g := gb130) (o := .cells #[.int .i64 a0_0, .int .i64 a0_1, .int .i64 a0_2, .int .i64 a0_3, .slice A0_4 l0_4.length c0_4] 31 (0, 0)) (by (with_reducible repeat (first | refine blk_drewN ?_ _ | refine blk_drew ?_ | refine blk_alloc ?_ _)); exact BK130.out) hg (Kd.S_away HO_3.out (fun _ hk => hk.2.1))); have n2_ := Aside0.mk (blk_grown (g := gb135) (o := .cells #[.int .i64 ((rd_T39 t131 x16_1).f0), .int .i64 ((rd_T39 t131 x16_1).f1), .int .i64 ((rd_T39 t131 x16_1).f2), .int .i64 ((rd_T39 t131 x16_1).f3), .int .i64 ((rd_T39 t131 x16_1).f4), .int .i64 ((rd_T39 t131 x16_1).f5)] 39 (0, 0)) (by (with_reducible repeat (first | refine blk_drewN ?_ _ | refine blk_drew ?_ | refine blk_alloc ?_ _)); exact BK135.out) hg (Kd.S_ne HO_3.out BK135.out (by decide))); have n3_ := Aside0.mk (blk_grown (g := gb136) (o := .cells #[.int .i64 ((rd_T39 t131 x16_1).f4), .int .i64 ((rd_T39 t131 x16_1).f5), .int .i64 a0_2, .int .i64 a0_3, .slice Ao48 x137004_2.length co48] 31 (0, 0)) (by (with_reducible repeat (first | refine blk_drewN ?_ _ | refine blk_drew ?_ | refine blk_alloc ?_ _)); exact BK136.out) hg (Kd.S_away HO_3.out (fun _ hk => hk.2.2))); have n4_ := Aside0.mk (hb); have n5_ := Aside0.mk (ho); clear HO_14; clear BK130; clear BK135; clear BK136; clear HB; clear HO_3; clear HO_137004; have HO_14 := n0_; have BK130 := n1_; have BK135 := n2_; have BK136 := n3_; have HB := n4_; have HO139 := n5_; clear n0_ n1_ n2_ n3_ n4_ n5_; clear ho hb hg hat))
            go_roundg k2
            case measure => have := HK1.out; have := HK2.out; omega
            case rel => exact ⟨(y137), (wrap64 (x16_1 + 1)), (by first | rfl | (simp; done) | (simp [*]; done)), H', ⟨by have := HK1.out; have := HK2.out; omega⟩, ⟨by (with_reducible repeat (first | apply Kd.S_alloc | apply Kd.S_drewN | apply Kd.S_drew)); exact Kd.S_mono HO139.out (fun _ hk => hk.1)⟩, ⟨by (with_reducible repeat (first | apply Kd.R_alloc | apply Kd.R_drewN | apply Kd.R_drew)); exact Kd.R_mono HO_14.out (fun _ hk => trivial)⟩, ⟨by (with_reducible repeat (first | refine blk_drewN ?_ _ | refine blk_drew ?_ | refine blk_alloc ?_ _)); exact BK130.out⟩, ⟨by repeat (first | (with_reducible first | exact HB.out | apply below_alloc | apply pw_below_drewN | apply below_drew1 | refine below_set ?_ GE130.out | refine below_set ?_ GE135.out | refine below_set ?_ GE136.out) | exact HB.out)⟩⟩
          rw [if_pos c18] at H
          have c18b0 : decide (x7_2 < ((rd_T39 t131 x16_1).f5)) = true := decide_eq_true c18
          clear c18
          have H' := Aside0.mk H
          clear H
          have hnb19 := NB135_130.out
          have hnc19 := NB130_135.out
          have hnb20 := NB135_136.out
          have hnc20 := NB136_135.out
          have hcz21_0 : wr.cell? ⟨gb135, 0, none⟩ = some (.int .i64 ((rd_T39 t131 x16_1).f0)) := (blk_cell BK135.out 0).trans rfl
          have hcz21_1 : wr.cell? ⟨gb135, 1, none⟩ = some (.int .i64 ((rd_T39 t131 x16_1).f1)) := (blk_cell BK135.out 1).trans rfl
          have hcz21_2 : wr.cell? ⟨gb135, 2, none⟩ = some (.int .i64 ((rd_T39 t131 x16_1).f2)) := (blk_cell BK135.out 2).trans rfl
          have hcz21_3 : wr.cell? ⟨gb135, 3, none⟩ = some (.int .i64 ((rd_T39 t131 x16_1).f3)) := (blk_cell BK135.out 3).trans rfl
          have hcz21_4 : wr.cell? ⟨gb135, 4, none⟩ = some (.int .i64 ((rd_T39 t131 x16_1).f4)) := (blk_cell BK135.out 4).trans rfl
          have hcz21_5 : wr.cell? ⟨gb135, 5, none⟩ = some (.int .i64 ((rd_T39 t131 x16_1).f5)) := (blk_cell BK135.out 5).trans rfl
          have hfz21_0 := blk_frozen BK135.out 0
          have hfz21_1 := blk_frozen BK135.out 1
          have hfz21_2 := blk_frozen BK135.out 2
          have hfz21_3 := blk_frozen BK135.out 3
          have hfz21_4 := blk_frozen BK135.out 4
          have hfz21_5 := blk_frozen BK135.out 5
          go_wp2
          go_loopg [8] k2 (fun kq v8 w' => ∃ (x8_3 : Int) (x137004_3 : List Int) (u137004 : Value), v8 = .int .i64 x8_3 ∧ Aside0 (spec_l4Split.l2 kq x3_1 x7_2 x8_3 t131 (t131.length : Int) x16_1 a0_0 a0_1 a0_2 a0_3 l0_4 ((rd_T39 t131 x16_1).f0) ((rd_T39 t131 x16_1).f1) ((rd_T39 t131 x16_1).f2) ((rd_T39 t131 x16_1).f3) ((rd_T39 t131 x16_1).f4) ((rd_T39 t131 x16_1).f5) ((rd_T39 t131 x16_1).f4) ((rd_T39 t131 x16_1).f5) a0_2 a0_3 x137004_3 = some r) ∧ Aside0 (kq ≤ k2) ∧ Aside0 (Kd.S k31 31 w' w.heap.size (fun k_ => some k_ ≠ (u137004 : Value).ownBlock ∧ k_ ≠ gb130 ∧ k_ ≠ gb136) u3 x3_1) ∧ Aside0 (Kd.R k39 39 w' w.heap.size (fun k_ => k_ ≠ gb135) (.slice (some ad134) t131.length co6) t131) ∧ Aside0 (Kd.R (Kd.int .i64) 3 w' w.heap.size (fun _ => True) u137004 x137004_3) ∧ Aside0 (w'.heap[gb130]? = some (.cells #[.int .i64 a0_0, .int .i64 a0_1, .int .i64 a0_2, .int .i64 a0_3, (.slice A0_4 l0_4.length c0_4)] 31 (0, 0))) ∧ Aside0 (w'.heap[gb135]? = some (.cells #[.int .i64 ((rd_T39 t131 x16_1).f0), .int .i64 ((rd_T39 t131 x16_1).f1), .int .i64 ((rd_T39 t131 x16_1).f2), .int .i64 ((rd_T39 t131 x16_1).f3), .int .i64 ((rd_T39 t131 x16_1).f4), .int .i64 ((rd_T39 t131 x16_1).f5)] 39 (0, 0))) ∧ Aside0 (w'.heap[gb136]? = some (.cells #[.int .i64 ((rd_T39 t131 x16_1).f4), .int .i64 ((rd_T39 t131 x16_1).f5), .int .i64 a0_2, .int .i64 a0_3, u137004] 31 (0, 0))) ∧ Aside0 (Below w.heap.size w w'))
          case atStart => exact ⟨(0), (x137004_2), (u137004), (by first | rfl | (simp; done) | (simp [*]; done)), H', ⟨Nat.le_refl _⟩, ⟨by (with_reducible repeat (first | apply Kd.S_alloc | apply Kd.S_drewN | apply Kd.S_drew)); exact HO_3.out⟩, ⟨by (with_reducible repeat (first | apply Kd.R_alloc | apply Kd.R_drewN | apply Kd.R_drew)); exact HO_14.out⟩, ⟨by (with_reducible repeat (first | apply Kd.R_alloc | apply Kd.R_drewN | apply Kd.R_drew)); exact HO_137004.out⟩, ⟨by (with_reducible repeat (first | refine blk_drewN ?_ _ | refine blk_drew ?_ | refine blk_alloc ?_ _)); exact BK130.out⟩, ⟨by (with_reducible repeat (first | refine blk_drewN ?_ _ | refine blk_drew ?_ | refine blk_alloc ?_ _)); exact BK135.out⟩, ⟨by (with_reducible repeat (first | refine blk_drewN ?_ _ | refine blk_drew ?_ | refine blk_alloc ?_ _)); exact BK136.out⟩, ⟨by repeat (first | (with_reducible first | exact HB.out | apply below_alloc | apply pw_below_drewN | apply below_drew1 | refine below_set ?_ GE130.out | refine below_set ?_ GE135.out | refine below_set ?_ GE136.out) | exact HB.out)⟩⟩
          case round =>
            clear H'
            try clear c1
            try clear p1
            try clear q1
            try clear hx1
            try clear c2
            try clear p2
            try clear c7
            try clear c7b0
            try clear c8
            try clear c8b0
            try clear c9
            try clear c9b0
            try clear c11
            try clear c12
            try clear p13
            try clear q13
            try clear hx13
            try clear c15
            try clear c16
            try clear c18
            try clear c18b0
            try clear c19
            try clear c20
            try clear hcz12_0
            try clear hcz12_1
            try clear hcz12_2
            try clear hcz12_3
            try clear hcz12_4
            try clear hcz12_5
            try clear hcz13_0
            try clear hcz13_1
            try clear hcz13_2
            try clear hcz13_3
            try clear hcz13_4
            try clear hcz17_0
            try clear hcz17_1
            try clear hcz17_2
            try clear hcz17_3
            try clear hcz17_4
            try clear hcz21_0
            try clear hcz21_1
            try clear hcz21_2
            try clear hcz21_3
            try clear hcz21_4
            try clear hcz21_5
            try clear hcz4_0
            try clear hcz4_1
            try clear hcz4_2
            try clear hcz4_3
            try clear hcz4_4
            try clear hfz12_0
            try clear hfz12_1
            try clear hfz12_2
            try clear hfz12_3
            try clear hfz12_4
            try clear hfz12_5
            try clear hfz13_0
            try clear hfz13_1
            try clear hfz13_2
            try clear hfz13_3
            try clear hfz13_4
            try clear hfz17_0
            try clear hfz17_1
            try clear hfz17_2
            try clear hfz17_3
            try clear hfz17_4
            try clear hfz21_0
            try clear hfz21_1
            try clear hfz21_2
            try clear hfz21_3
            try clear hfz21_4
            try clear hfz21_5
            try clear hfz4_0
            try clear hfz4_1
            try clear hfz4_2
            try clear hfz4_3
            try clear hfz4_4
            try clear hx134_0
            try clear hx134_1
            try clear hx134_2
            try clear hx134_3
            try clear hx134_4
            try clear hx134_5
            try clear p1
            try clear p13
            try clear p134
            try clear p2
            try clear q1
            try clear q13
            try clear q134
            obtain ⟨x8_3, x137004_3, u137004, rfl, HA, HK3, HO_3, HO_14, HO_137004, BK130, BK135, BK136, HB⟩ := hrel
            cases gk with
            | zero => exact absurd HA.out (by simp [spec_l4Split.l2])
            | succ k3 =>
              have H := HA.out
              clear HA
              simp only [spec_l4Split.l2] at H
              by_cases c22 : x8_3 < ((rd_T39 t131 x16_1).f4)
              rotate_left
              · rw [if_neg c22] at H
                have c22b0 : decide (x8_3 < ((rd_T39 t131 x16_1).f4)) = false := decide_eq_false c22
                clear c22
                have H' := Aside0.mk H
                clear H
                have hnb38 := NB135_130.out
                have hnc38 := NB130_135.out
                have hnb39 := NB135_136.out
                have hnc39 := NB136_135.out
                have hcz40_0 : wr.cell? ⟨gb135, 0, none⟩ = some (.int .i64 ((rd_T39 t131 x16_1).f0)) := (blk_cell BK135.out 0).trans rfl
                have hcz40_1 : wr.cell? ⟨gb135, 1, none⟩ = some (.int .i64 ((rd_T39 t131 x16_1).f1)) := (blk_cell BK135.out 1).trans rfl
                have hcz40_2 : wr.cell? ⟨gb135, 2, none⟩ = some (.int .i64 ((rd_T39 t131 x16_1).f2)) := (blk_cell BK135.out 2).trans rfl
                have hcz40_3 : wr.cell? ⟨gb135, 3, none⟩ = some (.int .i64 ((rd_T39 t131 x16_1).f3)) := (blk_cell BK135.out 3).trans rfl
                have hcz40_4 : wr.cell? ⟨gb135, 4, none⟩ = some (.int .i64 ((rd_T39 t131 x16_1).f4)) := (blk_cell BK135.out 4).trans rfl
                have hcz40_5 : wr.cell? ⟨gb135, 5, none⟩ = some (.int .i64 ((rd_T39 t131 x16_1).f5)) := (blk_cell BK135.out 5).trans rfl
                have hfz40_0 := blk_frozen BK135.out 0
                have hfz40_1 := blk_frozen BK135.out 1
                have hfz40_2 := blk_frozen BK135.out 2
                have hfz40_3 := blk_frozen BK135.out 3
                have hfz40_4 := blk_frozen BK135.out 4
                have hfz40_5 := blk_frozen BK135.out 5
                go_wp2
                go_roundg k3
                case measure => have := HK1.out; have := HK2.out; have := HK3.out; omega
                case rel => exact ⟨(wrap64 (x7_2 + 1)), (x137004_3), (u137004), (by first | rfl | (simp; done) | (simp [*]; done)), H', ⟨by have := HK1.out; have := HK2.out; have := HK3.out; omega⟩, ⟨by (with_reducible repeat (first | apply Kd.S_alloc | apply Kd.S_drewN | apply Kd.S_drew)); exact HO_3.out⟩, ⟨by (with_reducible repeat (first | apply Kd.R_alloc | apply Kd.R_drewN | apply Kd.R_drew)); exact HO_14.out⟩, ⟨by (with_reducible repeat (first | apply Kd.R_alloc | apply Kd.R_drewN | apply Kd.R_drew)); exact HO_137004.out⟩, ⟨by (with_reducible repeat (first | refine blk_drewN ?_ _ | refine blk_drew ?_ | refine blk_alloc ?_ _)); exact BK130.out⟩, ⟨by (with_reducible repeat (first | refine blk_drewN ?_ _ | refine blk_drew ?_ | refine blk_alloc ?_ _)); exact BK135.out⟩, ⟨by (with_reducible repeat (first | refine blk_drewN ?_ _ | refine blk_drew ?_ | refine blk_alloc ?_ _)); exact BK136.out⟩, ⟨by repeat (first | (with_reducible first | exact HB.out | apply below_alloc | apply pw_below_drewN | apply below_drew1 | refine below_set ?_ GE130.out | refine below_set ?_ GE135.out | refine below_set ?_ GE136.out) | exact HB.out)⟩⟩
              rw [if_pos c22] at H
              have c22b0 : decide (x8_3 < ((rd_T39 t131 x16_1).f4)) = true := decide_eq_true c22
              clear c22
              obtain ⟨ji23, hji23⟩ : ∃ j_ : Int, (wrap64 ((wrap64 ((wrap64 ((wrap64 ((wrap64 (((rd_T39 t131 x16_1).f1) + (wrap64 (x7_2 * ((rd_T39 t131 x16_1).f3))))) * a0_0)) + ((rd_T39 t131 x16_1).f0))) + (wrap64 (x8_3 * ((rd_T39 t131 x16_1).f2))))) * a0_2)) = j_ := ⟨_, rfl⟩
              replace H : (if 0 ≤ (ji23) then (if (ji23) ≤ (wrap64 ((ji23) + a0_2)) then (if (wrap64 ((ji23) + a0_2)) ≤ (l0_4.length : Int) then (if x137004_3.length + ((l0_4.take ((wrap64 ((ji23) + a0_2)) : Int).toNat).drop ((ji23) : Int).toNat).length < 17592186044416 then (spec_l4Split.l2 k3 x3_1 x7_2 (wrap64 (x8_3 + 1)) t131 (t131.length : Int) x16_1 a0_0 a0_1 a0_2 a0_3 l0_4 ((rd_T39 t131 x16_1).f0) ((rd_T39 t131 x16_1).f1) ((rd_T39 t131 x16_1).f2) ((rd_T39 t131 x16_1).f3) ((rd_T39 t131 x16_1).f4) ((rd_T39 t131 x16_1).f5) ((rd_T39 t131 x16_1).f4) ((rd_T39 t131 x16_1).f5) a0_2 a0_3 (x137004_3 ++ ((l0_4.take ((wrap64 ((ji23) + a0_2)) : Int).toNat).drop ((ji23) : Int).toNat))) else (none)) else (none)) else (none)) else (none)) = some r := by first | (rw [hji23] at H; exact H) | (simp only [hji23] at H ⊢; exact H)
              have hji23w : (IntKind.i64.wrap ((wrap64 ((wrap64 ((wrap64 ((wrap64 (((rd_T39 t131 x16_1).f1) + (wrap64 (x7_2 * ((rd_T39 t131 x16_1).f3))))) * a0_0)) + ((rd_T39 t131 x16_1).f0))) + (wrap64 (x8_3 * ((rd_T39 t131 x16_1).f2))))) * a0_2)) = ji23 := (i64_w _).trans hji23
              by_cases c24 : 0 ≤ (ji23)
              rotate_left
              · rw [if_neg c24] at H
                exact absurd H (by simp)
              rw [if_pos c24] at H
              have c24b0 := eq_true c24
              have c24b1 : decide (0 ≤ (ji23)) = true := decide_eq_true c24
              clear c24
              by_cases c25 : (ji23) ≤ (wrap64 ((ji23) + a0_2))
              rotate_left
              · rw [if_neg c25] at H
                exact absurd H (by simp)
              rw [if_pos c25] at H
              have c25b0 := eq_true c25
              have c25b1 : decide ((ji23) ≤ (wrap64 ((ji23) + a0_2))) = true := decide_eq_true c25
              by_cases c26 : (wrap64 ((ji23) + a0_2)) ≤ (l0_4.length : Int)
              rotate_left
              · rw [if_neg c26] at H
                exact absurd H (by simp)
              rw [if_pos c26] at H
              have c26b0 := eq_true c26
              have c26b1 : decide ((wrap64 ((ji23) + a0_2)) ≤ (l0_4.length : Int)) = true := decide_eq_true c26
              by_cases c27 : x137004_3.length + ((l0_4.take ((wrap64 ((ji23) + a0_2)) : Int).toNat).drop ((ji23) : Int).toNat).length < 17592186044416
              rotate_left
              · rw [if_neg c27] at H
                exact absurd H (by simp)
              rw [if_pos c27] at H
              have LMc27 := Aside0.mk c27
              clear c27
              obtain ⟨y141, hy141⟩ : ∃ y_ : List Int, y_ = (x137004_3 ++ ((l0_4.take ((wrap64 ((ji23) + a0_2)) : Int).toNat).drop ((ji23) : Int).toNat)) := ⟨_, rfl⟩
              replace H : (spec_l4Split.l2 k3 x3_1 x7_2 (wrap64 (x8_3 + 1)) t131 (t131.length : Int) x16_1 a0_0 a0_1 a0_2 a0_3 l0_4 ((rd_T39 t131 x16_1).f0) ((rd_T39 t131 x16_1).f1) ((rd_T39 t131 x16_1).f2) ((rd_T39 t131 x16_1).f3) ((rd_T39 t131 x16_1).f4) ((rd_T39 t131 x16_1).f5) ((rd_T39 t131 x16_1).f4) ((rd_T39 t131 x16_1).f5) a0_2 a0_3 y141) = some r := by first | (rw [hy141]; with_reducible exact H) | (have H2_ := (Option.bind_some _ _).symm.trans H; rw [hy141]; with_reducible exact H2_) | (have H2_ := (Option.bind_some _ _).symm.trans H; with_reducible exact H2_) | with_reducible exact H | (rw [hy141]; exact H) | exact H
              have Ny141 := Aside0.mk hy141
              clear hy141
              have H' := Aside0.mk H
              clear H
              have hnb28 := NB135_130.out
              have hnc28 := NB130_135.out
              have hnb29 := NB135_136.out
              have hnc29 := NB136_135.out
              have hcz30_0 : wr.cell? ⟨gb135, 0, none⟩ = some (.int .i64 ((rd_T39 t131 x16_1).f0)) := (blk_cell BK135.out 0).trans rfl
              have hcz30_1 : wr.cell? ⟨gb135, 1, none⟩ = some (.int .i64 ((rd_T39 t131 x16_1).f1)) := (blk_cell BK135.out 1).trans rfl
              have hcz30_2 : wr.cell? ⟨gb135, 2, none⟩ = some (.int .i64 ((rd_T39 t131 x16_1).f2)) := (blk_cell BK135.out 2).trans rfl
              have hcz30_3 : wr.cell? ⟨gb135, 3, none⟩ = some (.int .i64 ((rd_T39 t131 x16_1).f3)) := (blk_cell BK135.out 3).trans rfl
              have hcz30_4 : wr.cell? ⟨gb135, 4, none⟩ = some (.int .i64 ((rd_T39 t131 x16_1).f4)) := (blk_cell BK135.out 4).trans rfl
              have hcz30_5 : wr.cell? ⟨gb135, 5, none⟩ = some (.int .i64 ((rd_T39 t131 x16_1).f5)) := (blk_cell BK135.out 5).trans rfl
              have hfz30_0 := blk_frozen BK135.out 0
              have hfz30_1 := blk_frozen BK135.out 1
              have hfz30_2 := blk_frozen BK135.out 2
              have hfz30_3 := blk_frozen BK135.out 3
              have hfz30_4 := blk_frozen BK135.out 4
              have hfz30_5 := blk_frozen BK135.out 5
              have hnb31 := NB130_136.out
              have hnc31 := NB136_130.out
              have hcz32_0 : wr.cell? ⟨gb130, 0, none⟩ = some (.int .i64 a0_0) := (blk_cell BK130.out 0).trans rfl
              have hcz32_1 : wr.cell? ⟨gb130, 1, none⟩ = some (.int .i64 a0_1) := (blk_cell BK130.out 1).trans rfl
              have hcz32_2 : wr.cell? ⟨gb130, 2, none⟩ = some (.int .i64 a0_2) := (blk_cell BK130.out 2).trans rfl
              have hcz32_3 : wr.cell? ⟨gb130, 3, none⟩ = some (.int .i64 a0_3) := (blk_cell BK130.out 3).trans rfl
              have hcz32_4 : wr.cell? ⟨gb130, 4, none⟩ = some (.slice A0_4 l0_4.length c0_4) := (blk_cell BK130.out 4).trans rfl
              have hfz32_0 := blk_frozen BK130.out 0
              have hfz32_1 := blk_frozen BK130.out 1
              have hfz32_2 := blk_frozen BK130.out 2
              have hfz32_3 := blk_frozen BK130.out 3
              have hfz32_4 := blk_frozen BK130.out 4
              try go_wp2
              have n0_ := Aside0.mk (Kd.S_drew HO_3.out)
              have n1_ := Aside0.mk (Kd.R_drew HO_14.out)
              have n2_ := Aside0.mk (Kd.R_drew HO_137004.out)
              have n3_ := Aside0.mk (blk_drew BK130.out)
              have n4_ := Aside0.mk (blk_drew BK135.out)
              have n5_ := Aside0.mk (blk_drew BK136.out)
              have n6_ := Aside0.mk (below_drew1 HB.out)
              clear HO_3
              clear HO_14
              clear HO_137004
              clear BK130
              clear BK135
              clear BK136
              clear HB
              have HO_3 := n0_
              have HO_14 := n1_
              have HO_137004 := n2_
              have BK130 := n3_
              have BK135 := n4_
              have BK136 := n5_
              have HB := n6_
              clear n0_ n1_ n2_ n3_ n4_ n5_ n6_
              obtain ⟨i034, hi034, _, hsz34, _⟩ := info_parts info3
              obtain ⟨A34, hcut34, hA34, hC34⟩ := print_mid_of (P := Try.prog) (Value.int .i64) 0 22 3 .i64 .i64 Try.underlying22 hi034 hsz34 A0_4 c0_4 l0_4 (ji23) (wrap64 ((ji23) + a0_2)) (of_decide_eq_true (by first | (with_reducible assumption) | assumption)) (by first | omega | exact of_decide_eq_true (by first | (with_reducible assumption) | assumption)) (of_decide_eq_true (by first | (with_reducible assumption) | assumption)) HC0_4.out
              have HR140 := Aside0.mk (Kd.C_of_reads (h1 := fun _ => rfl) (hA34 _ (Kd.reads_of_C HR0_4.out)))
              have HC140 := Aside0.mk hC34
              clear hA34 hC34 hi034 hsz34
              refine start_ (n := 13) (S := fun w' => w'.cell? ⟨gb136, 0, none⟩ = some (.int .i64 ((rd_T39 t131 x16_1).f4)) ∧ w'.cell? ⟨gb136, 1, none⟩ = some (.int .i64 ((rd_T39 t131 x16_1).f5)) ∧ w'.cell? ⟨gb136, 2, none⟩ = some (.int .i64 a0_2) ∧ w'.cell? ⟨gb136, 3, none⟩ = some (.int .i64 a0_3) ∧ w'.cell? ⟨gb136, 4, none⟩ = some (u137004) ∧ w'.cell? ⟨gb130, 0, none⟩ = some (.int .i64 a0_0) ∧ w'.cell? ⟨gb130, 1, none⟩ = some (.int .i64 a0_1) ∧ w'.cell? ⟨gb130, 2, none⟩ = some (.int .i64 a0_2) ∧ w'.cell? ⟨gb130, 3, none⟩ = some (.int .i64 a0_3) ∧ w'.cell? ⟨gb130, 4, none⟩ = some (.slice A0_4 l0_4.length c0_4)) (ds := [12]) #[false, false, false, false, false, false, false, false, false, false, false, false, false] (by kernel_rfl) rfl rfl ⟨(blk_cell BK136.out 0).trans rfl, (blk_cell BK136.out 1).trans rfl, (blk_cell BK136.out 2).trans rfl, (blk_cell BK136.out 3).trans rfl, (blk_cell BK136.out 4).trans rfl, (blk_cell BK130.out 0).trans rfl, (blk_cell BK130.out 1).trans rfl, (blk_cell BK130.out 2).trans rfl, (blk_cell BK130.out 3).trans rfl, (blk_cell BK130.out 4).trans rfl⟩ (fun hHeld => ?_); refine with_tabW spec_l4Split.tab13 spec_l4Split.bits13 (fun HT_ HW_ => ?_)
              generalize wr.drew = w33 at HO_3 HO_14 HO_137004 BK130 BK135 BK136 HB HR140 hHeld ⊢
              refine pure_ (i := 0) (N := some 62) (v := ?_) (a' := ?_) #[true, false, false, false, false, false, false, false, false, false, false, false, false] rfl rfl (any_of HT_.out (by kernel_rfl)) (fun _ _ _ h => h) (Or.inl ⟨by rfl, ?_⟩) ?_ ?_
              rotate_left
              · intro w'
                go_simp
                with_reducible rfl
              rotate_left
              · simp only [Act.put, List.setIfInBounds_toArray, List.set_cons_zero, List.set_cons_succ, i64_w, i32_w]
                rfl
              refine pure_ (i := 2) (N := some 64) (v := ?_) (a' := ?_) #[true, false, true, false, false, false, false, false, false, false, false, false, false] rfl rfl (any_of HT_.out (by kernel_rfl)) (fun _ _ _ h => h) (Or.inl ⟨by rfl, ?_⟩) ?_ ?_
              rotate_left
              · intro w'
                go_simp
                with_reducible rfl
              rotate_left
              · simp only [Act.put, List.setIfInBounds_toArray, List.set_cons_zero, List.set_cons_succ, i64_w, i32_w]
                rfl
              refine pure_ (i := 4) (N := some 66) (v := ?_) (a' := ?_) #[true, false, true, false, true, false, false, false, false, false, false, false, false] rfl rfl (any_of HT_.out (by kernel_rfl)) (fun _ _ _ h => h) (Or.inl ⟨by rfl, ?_⟩) ?_ ?_
              rotate_left
              · intro w'
                go_simp
                with_reducible rfl
              rotate_left
              · simp only [Act.put, List.setIfInBounds_toArray, List.set_cons_zero, List.set_cons_succ, i64_w, i32_w]
                rfl
              refine pure_ (i := 5) (N := some 67) (v := ?_) (a' := ?_) #[true, false, true, false, true, true, false, false, false, false, false, false, false] rfl rfl (any_of HT_.out (by kernel_rfl)) (fun _ _ _ h => h) (Or.inl ⟨by rfl, ?_⟩) ?_ ?_
              rotate_left
              · intro w'
                go_simp
                with_reducible rfl
              rotate_left
              · simp only [Act.put, List.setIfInBounds_toArray, List.set_cons_zero, List.set_cons_succ, i64_w, i32_w]
                rfl
              refine pure_ (i := 6) (N := some 68) (v := ?_) (a' := ?_) #[true, false, true, false, true, true, true, false, false, false, false, false, false] rfl rfl (any_of HT_.out (by kernel_rfl)) (fun _ _ _ h => h) (Or.inl ⟨by rfl, ?_⟩) ?_ ?_
              rotate_left
              · intro w'
                go_simp
                with_reducible rfl
              rotate_left
              · simp only [Act.put, List.setIfInBounds_toArray, List.set_cons_zero, List.set_cons_succ, i64_w, i32_w]
                rfl
              refine take_ (i := 1) (N := some 63) (v := ?_) (a' := ?_) #[true, true, true, false, true, true, true, false, false, false, false, false, false] rfl rfl (take_ofW HT_.out HW_.out (by kernel_rfl)) (fun _ _ _ h => h) (Or.inl ⟨by rfl, ?_⟩) hHeld ?_ ?_
              rotate_left
              · rintro w' ⟨s0, s1, s2, s3, s4, s5, s6, s7, s8, s9⟩
                go_simp
                with_reducible rfl
              rotate_left
              · simp only [Act.put, List.setIfInBounds_toArray, List.set_cons_zero, List.set_cons_succ, i64_w, i32_w]
                rfl
              refine take_ (i := 3) (N := some 65) (v := ?_) (a' := ?_) #[true, true, true, true, true, true, true, false, false, false, false, false, false] rfl rfl (take_ofW HT_.out HW_.out (by kernel_rfl)) (fun _ _ _ h => h) (Or.inl ⟨by rfl, ?_⟩) hHeld ?_ ?_
              rotate_left
              · rintro w' ⟨s0, s1, s2, s3, s4, s5, s6, s7, s8, s9⟩
                go_simp
                with_reducible rfl
              rotate_left
              · simp only [Act.put, List.setIfInBounds_toArray, List.set_cons_zero, List.set_cons_succ, i64_w, i32_w]
                rfl
              refine take_ (i := 7) (N := some 69) (v := ?_) (a' := ?_) #[true, true, true, true, true, true, true, true, false, false, false, false, false] rfl rfl (take_ofW HT_.out HW_.out (by kernel_rfl)) (fun _ _ _ h => h) (Or.inl ⟨by rfl, ?_⟩) hHeld ?_ ?_
              rotate_left
              · rintro w' ⟨s0, s1, s2, s3, s4, s5, s6, s7, s8, s9⟩
                go_simp
                with_reducible rfl
              rotate_left
              · simp only [Act.put, List.setIfInBounds_toArray, List.set_cons_zero, List.set_cons_succ, i64_w, i32_w]
                rfl
              refine pure_ (i := 8) (N := some 70) (v := ?_) (a' := ?_) #[true, true, true, true, true, true, true, true, true, false, false, false, false] rfl rfl (any_of HT_.out (by kernel_rfl)) (fun _ _ _ h => h) (Or.inl ⟨by rfl, ?_⟩) ?_ ?_
              rotate_left
              · intro w'
                go_simp
                with_reducible rfl
              rotate_left
              · simp only [Act.put, List.setIfInBounds_toArray, List.set_cons_zero, List.set_cons_succ, i64_w, i32_w]
                rfl
              refine pure_ (i := 9) (N := some 71) (v := ?_) (a' := ?_) #[true, true, true, true, true, true, true, true, true, true, false, false, false] rfl rfl (any_of HT_.out (by kernel_rfl)) (fun _ _ _ h => h) (Or.inl ⟨by rfl, ?_⟩) ?_ ?_
              rotate_left
              · intro w'
                go_simp
                with_reducible rfl
              rotate_left
              · simp only [Act.put, List.setIfInBounds_toArray, List.set_cons_zero, List.set_cons_succ, i64_w, i32_w]
                rfl
              refine one_ (i := 10) (N := some 72) #[true, true, true, true, true, true, true, true, true, true, true, false, false] rfl rfl (one_of HT_.out (by kernel_rfl)) (by decide) (fun K hK => ?_)
              refine Kd.R_append_rows_step (Kd.int .i64) (w0 := w) w.heap.size (by rfl) (.tmp 63) (.tmp 71) 22 3 (.int .i64 0) 8 rfl Try.underlying22 info3 rfl (by decide) (by omega) u137004 x137004_3 ((l0_4.take ((wrap64 ((ji23) + a0_2)) : Int).toNat).drop ((ji23) : Int).toNat) _ _ _ (fun _ => True) (fun _ => False) rfl rfl ?aO ?aR (fun _ _ h => h) (fun _ h => h.elim) ?aF ?aB ?aS ?aL ?_
              (case aR => first | (rw [← show ((l0_4.take ((wrap64 ((ji23) + a0_2)) : Int).toNat).drop ((ji23) : Int).toNat).length = ((wrap64 ((ji23) + a0_2)).toNat - (ji23).toNat) from (by rw [List.length_drop, List.length_take]; have h_ : ((wrap64 ((ji23) + a0_2)) : Int) ≤ (l0_4.length : Int) := of_decide_eq_true (by first | (with_reducible assumption) | assumption); omega)]; repeat (first | exact (Kd.C_below HR140.out HB.out) | (with_reducible refine Kd.C_alloc ?_ _) | (with_reducible refine Kd.C_drewN ?_ _) | (with_reducible refine Kd.C_drew ?_))) | (repeat (first | exact (Kd.C_below HR140.out HB.out) | (with_reducible refine Kd.C_alloc ?_ _) | (with_reducible refine Kd.C_drewN ?_ _) | (with_reducible refine Kd.C_drew ?_))))
              (case aB => exact (by repeat (first | (with_reducible first | exact HB.out | apply below_alloc | apply pw_below_drewN | apply below_drew1 | refine below_set ?_ GE130.out | refine below_set ?_ GE135.out | refine below_set ?_ GE136.out) | exact HB.out)))
              (case aF => exact (fun _ _ => trivial))
              (case aO => exact (by (with_reducible repeat (first | apply Kd.R_alloc | apply Kd.R_drewN | apply Kd.R_drew)); exact HO_137004.out))
              (case aS => exact (below_size (by repeat (first | (with_reducible first | exact HB.out | apply below_alloc | apply pw_below_drewN | apply below_drew1 | refine below_set ?_ GE130.out | refine below_set ?_ GE135.out | refine below_set ?_ GE136.out) | exact HB.out))))
              (case aL => have := LMc27.out; have hlx_ := (show ((l0_4.take ((wrap64 ((ji23) + a0_2)) : Int).toNat).drop ((ji23) : Int).toNat).length = ((wrap64 ((ji23) + a0_2)).toNat - (ji23).toNat) from (by rw [List.length_drop, List.length_take]; have h_ : ((wrap64 ((ji23) + a0_2)) : Int) ≤ (l0_4.length : Int) := of_decide_eq_true (by first | (with_reducible assumption) | assumption); omega)); omega)
              intro v142 w35 ho hb hg hat
              rw [← Ny141.out] at ho
              have n0_ := Aside0.mk (Kd.S_after (ok := (fun k_ => k_ ≠ gb130 ∧ k_ ≠ gb136)) (by (with_reducible repeat (first | apply Kd.S_alloc | apply Kd.S_drewN | apply Kd.S_drew)); exact Kd.S_mono HO_3.out (fun _ hk => ⟨⟨hk.2.1, hk.2.2⟩, hk.1⟩)) hg hat)
              have n1_ := Aside0.mk (Kd.R_over' (by (with_reducible repeat (first | apply Kd.R_alloc | apply Kd.R_drewN | apply Kd.R_drew)); exact HO_14.out) (Kd.R_typed (by (with_reducible repeat (first | apply Kd.R_alloc | apply Kd.R_drewN | apply Kd.R_drew)); exact HO_137004.out)) (by decide) hg)
              have n2_ := Aside0.mk (blk_grown (g := gb130) (o := .cells #[.int .i64 a0_0, .int .i64 a0_1, .int .i64 a0_2, .int .i64 a0_3, .slice A0_4 l0_4.length c0_4] 31 (0, 0)) (by (with_reducible repeat (first | refine blk_drewN ?_ _ | refine blk_drew ?_ | refine blk_alloc ?_ _)); exact BK130.out) hg (Kd.R_ne HO_137004.out BK130.out (by decide)))
              have n3_ := Aside0.mk (blk_grown (g := gb135) (o := .cells #[.int .i64 ((rd_T39 t131 x16_1).f0), .int .i64 ((rd_T39 t131 x16_1).f1), .int .i64 ((rd_T39 t131 x16_1).f2), .int .i64 ((rd_T39 t131 x16_1).f3), .int .i64 ((rd_T39 t131 x16_1).f4), .int .i64 ((rd_T39 t131 x16_1).f5)] 39 (0, 0)) (by (with_reducible repeat (first | refine blk_drewN ?_ _ | refine blk_drew ?_ | refine blk_alloc ?_ _)); exact BK135.out) hg (Kd.R_ne HO_137004.out BK135.out (by decide)))
              have n4_ := Aside0.mk (blk_grown (g := gb136) (o := .cells #[.int .i64 ((rd_T39 t131 x16_1).f4), .int .i64 ((rd_T39 t131 x16_1).f5), .int .i64 a0_2, .int .i64 a0_3, u137004] 31 (0, 0)) (by (with_reducible repeat (first | refine blk_drewN ?_ _ | refine blk_drew ?_ | refine blk_alloc ?_ _)); exact BK136.out) hg (Kd.R_ne HO_137004.out BK136.out (by decide)))
              have n5_ := Aside0.mk (hb)
              have n6_ := Aside0.mk (ho)
              clear HO_3
              clear HO_14
              clear BK130
              clear BK135
              clear BK136
              clear HB
              clear HO_137004
              have HO_3 := n0_
              have HO_14 := n1_
              have BK130 := n2_
              have BK135 := n3_
              have BK136 := n4_
              have HB := n5_
              have HO143 := n6_
              clear n0_ n1_ n2_ n3_ n4_ n5_ n6_
              clear ho hb hg hat
              obtain ⟨Ao36, co36, eo36⟩ := Kd.R_slice HO143.out
              (first | subst eo36 | (injection eo36 with f1_ f2_ f3_; have f4_ := f1_.symm; have f5_ := f3_.symm; clear f1_ f2_ f3_; subst f4_; subst f5_))
              refine hK.out _ _ ⟨(blk_cell BK136.out 0).trans rfl, (blk_cell BK136.out 1).trans rfl, (blk_cell BK136.out 2).trans rfl, (blk_cell BK136.out 3).trans rfl, (blk_cell BK136.out 4).trans rfl, (blk_cell BK130.out 0).trans rfl, (blk_cell BK130.out 1).trans rfl, (blk_cell BK130.out 2).trans rfl, (blk_cell BK130.out 3).trans rfl, (blk_cell BK130.out 4).trans rfl⟩ (fun hHeld => ?_)
              clear hK K
              refine norm_ (a' := ?_) ?_ ?_
              rotate_left
              · show Act.put _ (some 72) _ = _
                simp only [Act.put, List.setIfInBounds_toArray, List.set_cons_zero, List.set_cons_succ, i64_w, i32_w]
                rfl
              refine pure_ (i := 11) (N := some 73) (v := ?_) (a' := ?_) #[true, true, true, true, true, true, true, true, true, true, true, true, false] rfl rfl (any_of HT_.out (by kernel_rfl)) (fun _ _ _ h => h) (Or.inl ⟨by rfl, ?_⟩) ?_ ?_
              rotate_left
              · intro w'
                go_simp
                with_reducible rfl
              rotate_left
              · simp only [Act.put, List.setIfInBounds_toArray, List.set_cons_zero, List.set_cons_succ, i64_w, i32_w]
                rfl
              refine last_ (i := 12) (N := none) #[true, true, true, true, true, true, true, true, true, true, true, true, true] rfl rfl (one_of HT_.out (by kernel_rfl)) (by decide) (fun K hK => ?_)
              have hs37 : w35.cell? ⟨gb136, 4, none⟩ = some (u137004) := (blk_cell BK136.out 4).trans rfl
              have hfs37 := blk_frozen BK136.out 4
              have hns37_0 := NB130_136.out
              have hns37_1 := NB135_136.out
              have hms37_0 := NB136_130.out
              have hms37_1 := NB136_135.out
              refine skip_ (w1 := ?_) (by rfl) rfl ?_ ?_
              rotate_left
              · go_simp
                rfl
              refine hK.out _ _ ?_
              clear hK K
              refine done_ (done_of HT_.out (by kernel_rfl)) ?_
              try go_wp2
              go_roundg k3
              case measure => have := HK1.out; have := HK2.out; have := HK3.out; omega
              case rel => exact ⟨(wrap64 (x8_3 + 1)), (y141), (.slice Ao36 y141.length co36), (by first | rfl | (simp; done) | (simp [*]; done)), H', ⟨by have := HK1.out; have := HK2.out; have := HK3.out; omega⟩, ⟨by (with_reducible repeat (first | apply Kd.S_alloc | apply Kd.S_drewN | apply Kd.S_drew)); exact Kd.S_mono (Kd.S_far (p := ⟨gb136, 4, none⟩) (Kd.S_mono HO_3.out (fun k_ hk => (⟨hk, hk.1.2⟩ : _ ∧ k_ ≠ gb136))) (fun _ hk => hk.2) (.slice Ao36 y141.length co36)) (fun _ hk => ⟨hk.1.2, ⟨hk.1.1.1, hk.1.1.2⟩⟩)⟩, ⟨by (with_reducible repeat (first | apply Kd.R_alloc | apply Kd.R_drewN | apply Kd.R_drew)); exact Kd.R_mono (Kd.R_far (p := ⟨gb136, 4, none⟩) (Kd.R_types HO_14.out BK136.out (by decide)) (fun _ hk => hk.2) (.slice Ao36 y141.length co36)) (fun _ hk => hk.1)⟩, ⟨by (with_reducible repeat (first | apply Kd.R_alloc | apply Kd.R_drewN | apply Kd.R_drew)); exact Kd.R_mono (Kd.R_far (p := ⟨gb136, 4, none⟩) (Kd.R_types HO143.out BK136.out (by decide)) (fun _ hk => hk.2) (.slice Ao36 y141.length co36)) (fun _ hk => trivial)⟩, ⟨by (with_reducible repeat (first | refine blk_drewN ?_ _ | refine blk_drew ?_ | refine blk_alloc ?_ _)); refine blk_far ?_ NB130_136.out _; (with_reducible repeat (first | refine blk_drewN ?_ _ | refine blk_drew ?_ | refine blk_alloc ?_ _)); exact BK130.out⟩, ⟨by (with_reducible repeat (first | refine blk_drewN ?_ _ | refine blk_drew ?_ | refine blk_alloc ?_ _)); refine blk_far ?_ NB135_136.out _; (with_reducible repeat (first | refine blk_drewN ?_ _ | refine blk_drew ?_ | refine blk_alloc ?_ _)); exact BK135.out⟩, ⟨by (with_reducible repeat (first | refine blk_drewN ?_ _ | refine blk_drew ?_ | refine blk_alloc ?_ _)); refine blk_put (cs := #[.int .i64 ((rd_T39 t131 x16_1).f4), .int .i64 ((rd_T39 t131 x16_1).f5), .int .i64 a0_2, .int .i64 a0_3, u137004]) ?_ 4 _ rfl; (with_reducible repeat (first | refine blk_drewN ?_ _ | refine blk_drew ?_ | refine blk_alloc ?_ _)); exact BK136.out⟩, ⟨by repeat (first | (with_reducible first | exact HB.out | apply below_alloc | apply pw_below_drewN | apply below_drew1 | refine below_set ?_ GE130.out | refine below_set ?_ GE135.out | refine below_set ?_ GE136.out) | exact HB.out)⟩⟩

/-! ### spec_Split: function 55 -/
def spec_Split.f (k : Nat) (a0_0 : Int) (a0_1 : Int) (a0_2 : Int) (a0_3 : Int) (l0_4 : List Int) : Option ((List (S31))) := (spec_GoodImage.f k a0_0 a0_1 a0_2 a0_3 l0_4).bind fun t145 => (if t145 = true then ((spec_l4Split.f k a0_0 a0_1 a0_2 a0_3 l0_4).bind fun t146 => (some t146)) else (some ([] : List (S31))))
theorem spec_Split.mono : ∀ a0 a1 a2 a3 a4 k, LeO (spec_Split.f k a0 a1 a2 a3 a4) (spec_Split.f (k + 1) a0 a1 a2 a3 a4) := by
  intro a0 a1 a2 a3 a4 k
  unfold spec_Split.f
  repeat' first
      | (with_reducible exact spec_GoodImage.mono _ _ _ _ _ _)
      | (with_reducible exact spec_l4Split.mono _ _ _ _ _ _)
      | (with_reducible exact LeO.refl _)
      | (with_reducible exact LeO.none _)
      | (with_reducible refine LeO.ite ?_ ?_)
      | (with_reducible refine LeO.bind ?_ (fun _ => ?_))
      | exact spec_GoodImage.mono _ _ _ _ _ _
      | exact spec_l4Split.mono _ _ _ _ _ _
      | exact LeO.none _
      | refine LeO.ite ?_ ?_
      | refine LeO.bind ?_ (fun _ => ?_)
set_option maxHeartbeats 8000000 in
set_option maxRecDepth 100000 in
theorem spec_Split.calls (k : Nat) (a0_0 : Int) (a0_1 : Int) (a0_2 : Int) (a0_3 : Int) (A0_4 : Option Addr) (c0_4 : Nat) (l0_4 : List Int) (r : List (S31)) (w : World) (hr0_4 : Kd.C (Kd.int .i64) w A0_4 l0_4.length l0_4) (hc0_4 : l0_4.length ≤ c0_4) (h : spec_Split.f k a0_0 a0_1 a0_2 a0_3 l0_4 = some r) :
    Calls Try.prog 55 #[.agg #[.int .i64 a0_0, .int .i64 a0_1, .int .i64 a0_2, .int .i64 a0_3, .slice A0_4 l0_4.length c0_4]] w fun e w' => ∃ v0_ : Value, e = .returned (v0_) ∧ Kd.S k31 31 w' w.heap.size (fun _ => True) v0_ r ∧ Below w.heap.size w w' := by
  have hu31 := Try.underlying31
  have HR0_4 := Aside0.mk hr0_4
  have HC0_4 := Aside0.mk hc0_4
  clear hr0_4 hc0_4
  have HB := Aside0.mk (Below.refl w.heap.size w)
  have H : ((spec_GoodImage.f k a0_0 a0_1 a0_2 a0_3 l0_4).bind fun t145 => (if t145 = true then ((spec_l4Split.f k a0_0 a0_1 a0_2 a0_3 l0_4).bind fun t146 => (some t146)) else (some ([] : List (S31))))) = some r := h
  clear h
  replace H := Option.bind_eq_some_iff.mp H
  obtain ⟨t145, A20, H⟩ := H
  replace H : (if t145 = true then ((spec_l4Split.f k a0_0 a0_1 a0_2 a0_3 l0_4).bind fun t146 => (some t146)) else (some ([] : List (S31)))) = some r := H
  have A2 := Aside0.mk A20
  clear A20
  by_cases c3 : t145 = true
  rotate_left
  · replace c3 := Bool.eq_false_iff.mpr c3
    subst c3
    have H1 : (some ([] : List (S31))) = some r := by rw [if_neg (show ¬ (false = true) by decide)] at H; exact H
    clear H
    have H := H1
    clear H1
    obtain rfl := Option.some.inj H
    go_enter Try.func55, Try.ntmps55
    go_wp2_with (first | ((with_reducible refine gate_dst (N := 1) rfl ?_); refine box_event ?hg (N := 1) ?hd (cs := #[.int .i64 a0_0, .int .i64 a0_1, .int .i64 a0_2, .int .i64 a0_3, .slice A0_4 l0_4.length c0_4]) (t := 31) ?hr ?_; (case hd => rfl); (case hg => rfl); (case hr => first | (go_simp; done) | (go_simp; rfl)); intro gb144 hg w10 hbox hb; have n0_ := Aside0.mk (below_step (by repeat (first | (with_reducible first | exact HB.out | apply below_alloc | apply pw_below_drewN | apply below_drew1) | exact HB.out)) hb); have n1_ := Aside0.mk (hbox); have n2_ := Aside0.mk ((by rw [hg]; exact (below_size (by repeat (first | (with_reducible first | exact HB.out | apply below_alloc | apply pw_below_drewN | apply below_drew1) | exact HB.out))) : w.heap.size ≤ gb144)); have n3_ := n2_; clear HB; have HB := n0_; have BK144 := n1_; have GW144 := n2_; have GE144 := n3_; clear n0_ n1_ n2_ n3_; clear hb hbox hg; have hcz11_0 : w10.cell? ⟨gb144, 0, none⟩ = some (.int .i64 a0_0) := (blk_cell BK144.out 0).trans rfl; have hcz11_1 : w10.cell? ⟨gb144, 1, none⟩ = some (.int .i64 a0_1) := (blk_cell BK144.out 1).trans rfl; have hcz11_2 : w10.cell? ⟨gb144, 2, none⟩ = some (.int .i64 a0_2) := (blk_cell BK144.out 2).trans rfl; have hcz11_3 : w10.cell? ⟨gb144, 3, none⟩ = some (.int .i64 a0_3) := (blk_cell BK144.out 3).trans rfl; have hcz11_4 : w10.cell? ⟨gb144, 4, none⟩ = some (.slice A0_4 l0_4.length c0_4) := (blk_cell BK144.out 4).trans rfl; have hfz11_0 := blk_frozen BK144.out 0; have hfz11_1 := blk_frozen BK144.out 1; have hfz11_2 := blk_frozen BK144.out 2; have hfz11_3 := blk_frozen BK144.out 3; have hfz11_4 := blk_frozen BK144.out 4) | ((with_reducible refine gate_callee (f := 23) rfl ?_); refine goesL_ (some 4) rfl rfl Try.func23 (by kernel_rfl) rfl #[.agg #[.int .i64 a0_0, .int .i64 a0_1, .int .i64 a0_2, .int .i64 a0_3, .slice A0_4 l0_4.length c0_4]] rfl (by (try simp only [List.map_toArray, List.map_cons, List.map_nil]); first | done | rfl | (simp only [List.length_drop, List.length_take]; rfl)) ?_; (with_reducible refine (spec_GoodImage.calls k a0_0 a0_1 a0_2 a0_3 _ _ l0_4 false _ ?side1 ?side2 A2.out).mono ?_); (case side1 => repeat (first | exact (Kd.C_below HR0_4.out HB.out) | (with_reducible refine Kd.C_alloc ?_ _) | (with_reducible refine Kd.C_drewN ?_ _) | (with_reducible refine Kd.C_drew ?_))); (case side2 => exact HC0_4.out); rintro e w12 ⟨rfl, hb⟩; refine ⟨_, rfl, ?_⟩; have n0_ := Aside0.mk (blk_below (g := gb144) (o := .cells #[.int .i64 a0_0, .int .i64 a0_1, .int .i64 a0_2, .int .i64 a0_3, .slice A0_4 l0_4.length c0_4] 31 (0, 0)) (by (with_reducible repeat (first | refine blk_drewN ?_ _ | refine blk_drew ?_ | refine blk_alloc ?_ _)); exact BK144.out) hb); have n1_ := Aside0.mk (below_step (by repeat (first | (with_reducible first | exact HB.out | apply below_alloc | apply pw_below_drewN | apply below_drew1 | refine below_set ?_ GE144.out) | exact HB.out)) hb); clear BK144; clear HB; have BK144 := n0_; have HB := n1_; clear n0_ n1_; (try clear hb); (try clear hb2); (try clear hk); (try clear hi)))
    go_ret
    exact ⟨_, by first | rfl | (simp [errW_none, errW_some] <;> rfl) | (simp [*, errW_none, errW_some] <;> rfl), by first | exact Kd.S_nil _ _ _ _ _ | exact Kd.N_nil _ _ _ _ _ | exact Kd.V_nil _ _ _ _ _ | exact Kd.Q_nil _ _ _ _ _ | exact Kd.R_nil _ _ _ _ _, by repeat (first | (with_reducible first | exact HB.out | apply below_alloc | apply pw_below_drewN | apply below_drew1 | refine below_set ?_ GE144.out) | exact HB.out)⟩
  subst c3
  have H1 : ((spec_l4Split.f k a0_0 a0_1 a0_2 a0_3 l0_4).bind fun t146 => (some t146)) = some r := by rw [if_pos rfl] at H; exact H
  clear H
  have H := H1
  clear H1
  replace H := Option.bind_eq_some_iff.mp H
  obtain ⟨t146, A40, H⟩ := H
  replace H : (some t146) = some r := H
  have A4 := Aside0.mk A40
  clear A40
  obtain rfl := Option.some.inj H
  go_enter Try.func55, Try.ntmps55
  go_wp2_with (first | ((with_reducible refine gate_dst (N := 1) rfl ?_); refine box_event ?hg (N := 1) ?hd (cs := #[.int .i64 a0_0, .int .i64 a0_1, .int .i64 a0_2, .int .i64 a0_3, .slice A0_4 l0_4.length c0_4]) (t := 31) ?hr ?_; (case hd => rfl); (case hg => rfl); (case hr => first | (go_simp; done) | (go_simp; rfl)); intro gb144 hg w5 hbox hb; have n0_ := Aside0.mk (below_step (by repeat (first | (with_reducible first | exact HB.out | apply below_alloc | apply pw_below_drewN | apply below_drew1) | exact HB.out)) hb); have n1_ := Aside0.mk (hbox); have n2_ := Aside0.mk ((by rw [hg]; exact (below_size (by repeat (first | (with_reducible first | exact HB.out | apply below_alloc | apply pw_below_drewN | apply below_drew1) | exact HB.out))) : w.heap.size ≤ gb144)); have n3_ := n2_; clear HB; have HB := n0_; have BK144 := n1_; have GW144 := n2_; have GE144 := n3_; clear n0_ n1_ n2_ n3_; clear hb hbox hg; have hcz6_0 : w5.cell? ⟨gb144, 0, none⟩ = some (.int .i64 a0_0) := (blk_cell BK144.out 0).trans rfl; have hcz6_1 : w5.cell? ⟨gb144, 1, none⟩ = some (.int .i64 a0_1) := (blk_cell BK144.out 1).trans rfl; have hcz6_2 : w5.cell? ⟨gb144, 2, none⟩ = some (.int .i64 a0_2) := (blk_cell BK144.out 2).trans rfl; have hcz6_3 : w5.cell? ⟨gb144, 3, none⟩ = some (.int .i64 a0_3) := (blk_cell BK144.out 3).trans rfl; have hcz6_4 : w5.cell? ⟨gb144, 4, none⟩ = some (.slice A0_4 l0_4.length c0_4) := (blk_cell BK144.out 4).trans rfl; have hfz6_0 := blk_frozen BK144.out 0; have hfz6_1 := blk_frozen BK144.out 1; have hfz6_2 := blk_frozen BK144.out 2; have hfz6_3 := blk_frozen BK144.out 3; have hfz6_4 := blk_frozen BK144.out 4) | ((with_reducible refine gate_callee (f := 23) rfl ?_); refine goesL_ (some 4) rfl rfl Try.func23 (by kernel_rfl) rfl #[.agg #[.int .i64 a0_0, .int .i64 a0_1, .int .i64 a0_2, .int .i64 a0_3, .slice A0_4 l0_4.length c0_4]] rfl (by (try simp only [List.map_toArray, List.map_cons, List.map_nil]); first | done | rfl | (simp only [List.length_drop, List.length_take]; rfl)) ?_; (with_reducible refine (spec_GoodImage.calls k a0_0 a0_1 a0_2 a0_3 _ _ l0_4 true _ ?side1 ?side2 A2.out).mono ?_); (case side1 => repeat (first | exact (Kd.C_below HR0_4.out HB.out) | (with_reducible refine Kd.C_alloc ?_ _) | (with_reducible refine Kd.C_drewN ?_ _) | (with_reducible refine Kd.C_drew ?_))); (case side2 => exact HC0_4.out); rintro e w7 ⟨rfl, hb⟩; refine ⟨_, rfl, ?_⟩; have n0_ := Aside0.mk (blk_below (g := gb144) (o := .cells #[.int .i64 a0_0, .int .i64 a0_1, .int .i64 a0_2, .int .i64 a0_3, .slice A0_4 l0_4.length c0_4] 31 (0, 0)) (by (with_reducible repeat (first | refine blk_drewN ?_ _ | refine blk_drew ?_ | refine blk_alloc ?_ _)); exact BK144.out) hb); have n1_ := Aside0.mk (below_step (by repeat (first | (with_reducible first | exact HB.out | apply below_alloc | apply pw_below_drewN | apply below_drew1 | refine below_set ?_ GE144.out) | exact HB.out)) hb); clear BK144; clear HB; have BK144 := n0_; have HB := n1_; clear n0_ n1_; (try clear hb); (try clear hb2); (try clear hk); (try clear hi); have hcz8_0 : w7.cell? ⟨gb144, 0, none⟩ = some (.int .i64 a0_0) := (blk_cell BK144.out 0).trans rfl; have hcz8_1 : w7.cell? ⟨gb144, 1, none⟩ = some (.int .i64 a0_1) := (blk_cell BK144.out 1).trans rfl; have hcz8_2 : w7.cell? ⟨gb144, 2, none⟩ = some (.int .i64 a0_2) := (blk_cell BK144.out 2).trans rfl; have hcz8_3 : w7.cell? ⟨gb144, 3, none⟩ = some (.int .i64 a0_3) := (blk_cell BK144.out 3).trans rfl; have hcz8_4 : w7.cell? ⟨gb144, 4, none⟩ = some (.slice A0_4 l0_4.length c0_4) := (blk_cell BK144.out 4).trans rfl; have hfz8_0 := blk_frozen BK144.out 0; have hfz8_1 := blk_frozen BK144.out 1; have hfz8_2 := blk_frozen BK144.out 2; have hfz8_3 := blk_frozen BK144.out 3; have hfz8_4 := blk_frozen BK144.out 4) | ((with_reducible refine gate_callee (f := 120) rfl ?_); refine goesL_ (some 7) rfl rfl Try.func120 (by kernel_rfl) rfl #[.agg #[.int .i64 a0_0, .int .i64 a0_1, .int .i64 a0_2, .int .i64 a0_3, .slice A0_4 l0_4.length c0_4]] rfl (by (try simp only [List.map_toArray, List.map_cons, List.map_nil]); first | done | rfl | (simp only [List.length_drop, List.length_take]; rfl)) ?_; (with_reducible refine (spec_l4Split.calls k a0_0 a0_1 a0_2 a0_3 _ _ l0_4 t146 _ ?side1 ?side2 A4.out).mono ?_); (case side1 => repeat (first | exact (Kd.C_below HR0_4.out HB.out) | (with_reducible refine Kd.C_alloc ?_ _) | (with_reducible refine Kd.C_drewN ?_ _) | (with_reducible refine Kd.C_drew ?_))); (case side2 => exact HC0_4.out); rintro e w9 ⟨v147, rfl, ho0, hb⟩; refine ⟨_, rfl, ?_⟩; have n0_ := Aside0.mk (Kd.S_lower (Kd.S_newB ho0 (g := gb144) (o := .cells #[.int .i64 a0_0, .int .i64 a0_1, .int .i64 a0_2, .int .i64 a0_3, .slice A0_4 l0_4.length c0_4] 31 (0, 0)) (by (with_reducible repeat (first | refine blk_drewN ?_ _ | refine blk_drew ?_ | refine blk_alloc ?_ _)); exact BK144.out)) (below_size (by repeat (first | (with_reducible first | exact HB.out | apply below_alloc | apply pw_below_drewN | apply below_drew1 | refine below_set ?_ GE144.out) | exact HB.out)))); have n1_ := Aside0.mk (blk_below (g := gb144) (o := .cells #[.int .i64 a0_0, .int .i64 a0_1, .int .i64 a0_2, .int .i64 a0_3, .slice A0_4 l0_4.length c0_4] 31 (0, 0)) (by (with_reducible repeat (first | refine blk_drewN ?_ _ | refine blk_drew ?_ | refine blk_alloc ?_ _)); exact BK144.out) hb); have n2_ := Aside0.mk (below_step (by repeat (first | (with_reducible first | exact HB.out | apply below_alloc | apply pw_below_drewN | apply below_drew1 | refine below_set ?_ GE144.out) | exact HB.out)) hb); clear BK144; clear HB; have HO148 := n0_; have BK144 := n1_; have HB := n2_; clear n0_ n1_ n2_; (try clear hb); (try clear hb2); (try clear hk); (try clear hi); (try clear ho0)))
  go_ret
  exact ⟨_, by first | rfl | (simp [errW_none, errW_some] <;> rfl) | (simp [*, errW_none, errW_some] <;> rfl), by (with_reducible repeat (first | apply Kd.S_alloc | apply Kd.S_drewN | apply Kd.S_drew)); exact Kd.S_mono HO148.out (fun _ hk => trivial), by repeat (first | (with_reducible first | exact HB.out | apply below_alloc | apply pw_below_drewN | apply below_drew1 | refine below_set ?_ GE144.out) | exact HB.out)⟩

end Go.Proofs.Ytggokppfhkebkaa.PFnExactSplit

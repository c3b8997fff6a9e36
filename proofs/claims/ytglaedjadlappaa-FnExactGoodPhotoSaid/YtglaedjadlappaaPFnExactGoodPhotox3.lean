-- written by myprint.py (a program of this session's over the kit's print)
import Derived.Test.YtglaedjadlappaaPFnExactGoodPhotox0
import Derived.Test.YtglaedjadlappaaPFnExactGoodPhotox1
import Derived.Test.YtglaedjadlappaaPFnExactGoodPhotox2
namespace Go.Proofs.Ytglaedjadlappaa.PFnExactGoodPhoto
open Go.RowKit Go.Proofs.YtglaedjadlappaaW.PrintWords Go.Proofs.YtglaedjadlappaaW.PrintLast Go.Proofs.YtglaedjadlappaaW.PrintMore
attribute [local go_sem] max2_int min2_int max_two min_two max_three min_three max_four min_four   -- for this text's walks alone
set_option linter.unusedVariables false
set_option linter.unusedSimpArgs false

/-! ### spec_l9Head: function 146 -/
mutual
def spec_l9Head.j0 : Nat → Int → Bool → Int → Int → Int → Bool → Bool → Int → List (List Int) → Option (Bool)
  | 0, _, _, _, _, _, _, _, _, _ => none
  | k + 1, x1, x30, x132000, x132001, x132002, x132003, x132004, x132005, x132006 => if x30 = true then (some false) else (if x1 = 1 then (if x132003 = true then (if x1 = 3 then (if x132004 = true then (spec_l9Head.j1 k x1 (x132005 != 0) x132000 x132001 x132002 x132003 x132004 x132005 x132006) else (spec_l9Head.j1 k x1 false x132000 x132001 x132002 x132003 x132004 x132005 x132006)) else (spec_l9Head.j1 k x1 true x132000 x132001 x132002 x132003 x132004 x132005 x132006)) else (if x132004 = true then (spec_l9Head.j1 k x1 (x132005 != 0) x132000 x132001 x132002 x132003 x132004 x132005 x132006) else (spec_l9Head.j1 k x1 false x132000 x132001 x132002 x132003 x132004 x132005 x132006))) else (if x1 = 3 then (if x132003 = true then (if x132004 = true then (spec_l9Head.j1 k x1 (x132005 != 0) x132000 x132001 x132002 x132003 x132004 x132005 x132006) else (spec_l9Head.j1 k x1 false x132000 x132001 x132002 x132003 x132004 x132005 x132006)) else (if x132004 = true then (spec_l9Head.j1 k x1 (x132005 != 0) x132000 x132001 x132002 x132003 x132004 x132005 x132006) else (spec_l9Head.j1 k x1 false x132000 x132001 x132002 x132003 x132004 x132005 x132006))) else (spec_l9Head.j1 k x1 true x132000 x132001 x132002 x132003 x132004 x132005 x132006)))
def spec_l9Head.j1 : Nat → Int → Bool → Int → Int → Int → Bool → Bool → Int → List (List Int) → Option (Bool)
  | 0, _, _, _, _, _, _, _, _, _ => none
  | k + 1, x1, x53, x132000, x132001, x132002, x132003, x132004, x132005, x132006 => if x53 = true then (some false) else ((spec_l9Cut.f k x132000 x132001 x132002 x132003 x132004 x132005 x132006 x1).bind fun bt133 => ((spec_l9Shape_blocks.f bt133.1 bt133.2.1 bt133.2.2.1 bt133.2.2.2.1 bt133.2.2.2.2).bind fun t142 => (some (decide (t142 ≤ 400)))))
end
def spec_l9Head.f (k : Nat) (a0_0 : Int) (a0_1 : Int) (a0_2 : Int) (a0_3 : Bool) (a0_4 : Bool) (a0_5 : Int) (l0_6 : List (List Int)) (a1 : Int) : Option (Bool) := (spec_l7Sides.f a0_0 a0_1).bind fun t132 => (if t132 = true then (if a0_2 < 1 then (spec_l9Head.j0 k a1 true a0_0 a0_1 a0_2 a0_3 a0_4 a0_5 l0_6) else (if a0_2 > 100 then (spec_l9Head.j0 k a1 true a0_0 a0_1 a0_2 a0_3 a0_4 a0_5 l0_6) else (if a0_5 < 0 then (spec_l9Head.j0 k a1 true a0_0 a0_1 a0_2 a0_3 a0_4 a0_5 l0_6) else (spec_l9Head.j0 k a1 (decide (a0_5 > 1000)) a0_0 a0_1 a0_2 a0_3 a0_4 a0_5 l0_6)))) else (spec_l9Head.j0 k a1 true a0_0 a0_1 a0_2 a0_3 a0_4 a0_5 l0_6))
theorem spec_l9Head.mono_l : ∀ k, (∀ y0 y1 y2 y3 y4 y5 y6 y7 y8, LeO (spec_l9Head.j0 k y0 y1 y2 y3 y4 y5 y6 y7 y8) (spec_l9Head.j0 (k + 1) y0 y1 y2 y3 y4 y5 y6 y7 y8)) ∧ (∀ y0 y1 y2 y3 y4 y5 y6 y7 y8, LeO (spec_l9Head.j1 k y0 y1 y2 y3 y4 y5 y6 y7 y8) (spec_l9Head.j1 (k + 1) y0 y1 y2 y3 y4 y5 y6 y7 y8))
  | 0 => ⟨fun _ _ _ _ _ _ _ _ _ r h => by simp [spec_l9Head.j0] at h, fun _ _ _ _ _ _ _ _ _ r h => by simp [spec_l9Head.j1] at h⟩
  | k + 1 => by
    obtain ⟨ih0, ih1⟩ := spec_l9Head.mono_l k
    refine ⟨?_, ?_⟩
    · intro y0 y1 y2 y3 y4 y5 y6 y7 y8
      unfold spec_l9Head.j0
      repeat' first
      | (with_reducible exact ih0 _ _ _ _ _ _ _ _ _)
      | (with_reducible exact ih1 _ _ _ _ _ _ _ _ _)
      | (with_reducible exact spec_l9Cut.mono _ _ _ _ _ _ _ _ _)
      | (with_reducible exact LeO.refl _)
      | (with_reducible exact LeO.none _)
      | (with_reducible refine LeO.ite ?_ ?_)
      | (with_reducible refine LeO.bind ?_ (fun _ => ?_))
      | exact ih0 _ _ _ _ _ _ _ _ _
      | exact ih1 _ _ _ _ _ _ _ _ _
      | exact spec_l9Cut.mono _ _ _ _ _ _ _ _ _
      | exact LeO.none _
      | refine LeO.ite ?_ ?_
      | refine LeO.bind ?_ (fun _ => ?_)
    · intro y0 y1 y2 y3 y4 y5 y6 y7 y8
      unfold spec_l9Head.j1
      repeat' first
      | (with_reducible exact ih0 _ _ _ _ _ _ _ _ _)
      | (with_reducible exact ih1 _ _ _ _ _ _ _ _ _)
      | (with_reducible exact spec_l9Cut.mono _ _ _ _ _ _ _ _ _)
      | (with_reducible exact LeO.refl _)
      | (with_reducible exact LeO.none _)
      | (with_reducible refine LeO.ite ?_ ?_)
      | (with_reducible refine LeO.bind ?_ (fun _ => ?_))
      | exact ih0 _ _ _ _ _ _ _ _ _
      | exact ih1 _ _ _ _ _ _ _ _ _
      | exact spec_l9Cut.mono _ _ _ _ _ _ _ _ _
      | exact LeO.none _
      | refine LeO.ite ?_ ?_
      | refine LeO.bind ?_ (fun _ => ?_)
theorem spec_l9Head.mono : ∀ a0 a1 a2 a3 a4 a5 a6 a7 k, LeO (spec_l9Head.f k a0 a1 a2 a3 a4 a5 a6 a7) (spec_l9Head.f (k + 1) a0 a1 a2 a3 a4 a5 a6 a7) := by
  intro a0 a1 a2 a3 a4 a5 a6 a7 k
  obtain ⟨ih0, ih1⟩ := spec_l9Head.mono_l k
  unfold spec_l9Head.f
  repeat' first
      | (with_reducible exact ih0 _ _ _ _ _ _ _ _ _)
      | (with_reducible exact ih1 _ _ _ _ _ _ _ _ _)
      | (with_reducible exact spec_l9Cut.mono _ _ _ _ _ _ _ _ _)
      | (with_reducible exact LeO.refl _)
      | (with_reducible exact LeO.none _)
      | (with_reducible refine LeO.ite ?_ ?_)
      | (with_reducible refine LeO.bind ?_ (fun _ => ?_))
      | exact ih0 _ _ _ _ _ _ _ _ _
      | exact ih1 _ _ _ _ _ _ _ _ _
      | exact spec_l9Cut.mono _ _ _ _ _ _ _ _ _
      | exact LeO.none _
      | refine LeO.ite ?_ ?_
      | refine LeO.bind ?_ (fun _ => ?_)
set_option maxHeartbeats 8000000 in
set_option maxRecDepth 100000 in
theorem spec_l9Head.calls (k : Nat) (a0_0 : Int) (a0_1 : Int) (a0_2 : Int) (a0_3 : Bool) (a0_4 : Bool) (a0_5 : Int) (A0_6 : Option Addr) (c0_6 : Nat) (l0_6 : List (List Int)) (a1 : Int) (r : Bool) (w : World) (hr0_6 : Kd.C (Kd.slice 3 (Kd.int .i64)) w A0_6 l0_6.length l0_6) (hc0_6 : l0_6.length ≤ c0_6) (h : spec_l9Head.f k a0_0 a0_1 a0_2 a0_3 a0_4 a0_5 l0_6 a1 = some r) :
    Calls Try.prog 146 #[.agg #[.int .i64 a0_0, .int .i64 a0_1, .int .i64 a0_2, .bool a0_3, .bool a0_4, .int .i64 a0_5, .slice A0_6 l0_6.length c0_6], .int .i64 a1] w fun e w' => e = .returned (.bool r) ∧ Below w.heap.size w w' := by
  have hu114 := Try.underlying114
  have HR0_6 := Aside0.mk hr0_6
  have HC0_6 := Aside0.mk hc0_6
  clear hr0_6 hc0_6
  have HB := Aside0.mk (Below.refl w.heap.size w)
  have H : ((spec_l7Sides.f a0_0 a0_1).bind fun t132 => (if t132 = true then (if a0_2 < 1 then (spec_l9Head.j0 k a1 true a0_0 a0_1 a0_2 a0_3 a0_4 a0_5 l0_6) else (if a0_2 > 100 then (spec_l9Head.j0 k a1 true a0_0 a0_1 a0_2 a0_3 a0_4 a0_5 l0_6) else (if a0_5 < 0 then (spec_l9Head.j0 k a1 true a0_0 a0_1 a0_2 a0_3 a0_4 a0_5 l0_6) else (spec_l9Head.j0 k a1 (decide (a0_5 > 1000)) a0_0 a0_1 a0_2 a0_3 a0_4 a0_5 l0_6)))) else (spec_l9Head.j0 k a1 true a0_0 a0_1 a0_2 a0_3 a0_4 a0_5 l0_6))) = some r := h
  clear h
  have HC3 := Aside0.mk H
  clear H
  go_enter Try.func146, Try.ntmps146
  go_upto_region 1 with (first | ((with_reducible refine gate_dst (N := 2) rfl ?_); refine box_event ?hg (N := 2) ?hd (cs := #[.int .i64 a0_0, .int .i64 a0_1, .int .i64 a0_2, .bool a0_3, .bool a0_4, .int .i64 a0_5, .slice A0_6 l0_6.length c0_6]) (t := 114) ?hr ?_; (case hd => rfl); (case hg => rfl); (case hr => first | (go_simp; done) | (go_simp; rfl)); intro gb131 hg w4 hbox hb; have n0_ := Aside0.mk (below_step (by repeat (first | (with_reducible first | exact HB.out | apply below_alloc | apply pw_below_drewN | apply below_drew1) | exact HB.out)) hb); have n1_ := Aside0.mk (hbox); have n2_ := Aside0.mk ((by rw [hg]; exact (below_size (by repeat (first | (with_reducible first | exact HB.out | apply below_alloc | apply pw_below_drewN | apply below_drew1) | exact HB.out))) : w.heap.size ≤ gb131)); have n3_ := Aside0.mk ((by rw [hg]; exact (below_size (by repeat (first | (with_reducible first | exact HB.out | apply below_alloc | apply pw_below_drewN | apply below_drew1) | exact HB.out))) : w.heap.size ≤ gb131)); clear HB; have HB := n0_; have BK131 := n1_; have GW131 := n2_; have GE131 := n3_; clear n0_ n1_ n2_ n3_; clear hb hbox hg))
  (try simp only [Act.put, List.setIfInBounds_toArray, List.set_cons_zero, List.set_cons_succ])
  go_cut [30] (fun v30 wc => ∃ (kq : Nat) (x30_2 : Bool), v30 = .bool x30_2 ∧ Aside0 (spec_l9Head.j0 kq a1 x30_2 a0_0 a0_1 a0_2 a0_3 a0_4 a0_5 l0_6 = some r) ∧ Aside0 (kq ≤ k) ∧ Aside0 (wc.heap[gb131]? = some (.cells #[.int .i64 a0_0, .int .i64 a0_1, .int .i64 a0_2, .bool a0_3, .bool a0_4, .int .i64 a0_5, (.slice A0_6 l0_6.length c0_6)] 114 (0, 0))) ∧ Aside0 (Below w.heap.size w wc))
  case first =>
    have H := HC3.out
    clear HC3
    replace H := Option.bind_eq_some_iff.mp H
    obtain ⟨t132, A50, H⟩ := H
    replace H : (if t132 = true then (if a0_2 < 1 then (spec_l9Head.j0 k a1 true a0_0 a0_1 a0_2 a0_3 a0_4 a0_5 l0_6) else (if a0_2 > 100 then (spec_l9Head.j0 k a1 true a0_0 a0_1 a0_2 a0_3 a0_4 a0_5 l0_6) else (if a0_5 < 0 then (spec_l9Head.j0 k a1 true a0_0 a0_1 a0_2 a0_3 a0_4 a0_5 l0_6) else (spec_l9Head.j0 k a1 (decide (a0_5 > 1000)) a0_0 a0_1 a0_2 a0_3 a0_4 a0_5 l0_6)))) else (spec_l9Head.j0 k a1 true a0_0 a0_1 a0_2 a0_3 a0_4 a0_5 l0_6)) = some r := H
    have A5 := Aside0.mk A50
    clear A50
    by_cases c6 : t132 = true
    · subst c6
      have H1 : (if a0_2 < 1 then (spec_l9Head.j0 k a1 true a0_0 a0_1 a0_2 a0_3 a0_4 a0_5 l0_6) else (if a0_2 > 100 then (spec_l9Head.j0 k a1 true a0_0 a0_1 a0_2 a0_3 a0_4 a0_5 l0_6) else (if a0_5 < 0 then (spec_l9Head.j0 k a1 true a0_0 a0_1 a0_2 a0_3 a0_4 a0_5 l0_6) else (spec_l9Head.j0 k a1 (decide (a0_5 > 1000)) a0_0 a0_1 a0_2 a0_3 a0_4 a0_5 l0_6)))) = some r := by rw [if_pos rfl] at H; exact H
      clear H
      have H := H1
      clear H1
      by_cases c7 : a0_2 < 1
      · rw [if_pos c7] at H
        have c7b0 : decide (a0_2 < 1) = true := decide_eq_true c7
        clear c7
        (first | rw [c7b0] | (simp only [i64_w, i32_w]; rw [c7b0]) | skip)
        have H' := Aside0.mk H
        clear H
        have hcz8_0 : w4.cell? ⟨gb131, 0, none⟩ = some (.int .i64 a0_0) := (blk_cell BK131.out 0).trans rfl
        have hcz8_1 : w4.cell? ⟨gb131, 1, none⟩ = some (.int .i64 a0_1) := (blk_cell BK131.out 1).trans rfl
        have hcz8_2 : w4.cell? ⟨gb131, 2, none⟩ = some (.int .i64 a0_2) := (blk_cell BK131.out 2).trans rfl
        have hcz8_3 : w4.cell? ⟨gb131, 3, none⟩ = some (.bool a0_3) := (blk_cell BK131.out 3).trans rfl
        have hcz8_4 : w4.cell? ⟨gb131, 4, none⟩ = some (.bool a0_4) := (blk_cell BK131.out 4).trans rfl
        have hcz8_5 : w4.cell? ⟨gb131, 5, none⟩ = some (.int .i64 a0_5) := (blk_cell BK131.out 5).trans rfl
        have hcz8_6 : w4.cell? ⟨gb131, 6, none⟩ = some (.slice A0_6 l0_6.length c0_6) := (blk_cell BK131.out 6).trans rfl
        have hfz8_0 := blk_frozen BK131.out 0
        have hfz8_1 := blk_frozen BK131.out 1
        have hfz8_2 := blk_frozen BK131.out 2
        have hfz8_3 := blk_frozen BK131.out 3
        have hfz8_4 := blk_frozen BK131.out 4
        have hfz8_5 := blk_frozen BK131.out 5
        have hfz8_6 := blk_frozen BK131.out 6
        go_wp2_with (first | ((with_reducible refine gate_callee (f := 155) rfl ?_); refine goesL_ (some 9) rfl rfl Try.func155 (by kernel_rfl) rfl #[.int .i64 a0_0, .int .i64 a0_1] rfl (by (try simp only [List.map_toArray, List.map_cons, List.map_nil]); first | done | rfl | (simp only [List.length_drop, List.length_take]; rfl)) ?_; (with_reducible refine (spec_l7Sides.calls a0_0 a0_1 true _ A5.out).mono ?_); rintro e w' ⟨rfl, ⟨nd, rfl⟩⟩; refine ⟨_, rfl, ?_⟩))
        go_meet
        case rel => exact ⟨_, (true), (by first | rfl | (simp; done) | (simp [*]; done)), H', ⟨by first | omega | exact Nat.le_refl _⟩, ⟨by (with_reducible repeat (first | refine blk_drewN ?_ _ | refine blk_drew ?_ | refine blk_alloc ?_ _)); exact BK131.out⟩, ⟨by repeat (first | (with_reducible first | exact HB.out | apply below_alloc | apply pw_below_drewN | apply below_drew1 | refine below_set ?_ GE131.out) | exact HB.out)⟩⟩
      · rw [if_neg c7] at H
        have c7b0 : decide (a0_2 < 1) = false := decide_eq_false c7
        clear c7
        (first | rw [c7b0] | (simp only [i64_w, i32_w]; rw [c7b0]) | skip)
        by_cases c9 : a0_2 > 100
        · rw [if_pos c9] at H
          have c9b0 : decide (100 < a0_2) = true := decide_eq_true c9
          clear c9
          have H' := Aside0.mk H
          clear H
          have hcz10_0 : w4.cell? ⟨gb131, 0, none⟩ = some (.int .i64 a0_0) := (blk_cell BK131.out 0).trans rfl
          have hcz10_1 : w4.cell? ⟨gb131, 1, none⟩ = some (.int .i64 a0_1) := (blk_cell BK131.out 1).trans rfl
          have hcz10_2 : w4.cell? ⟨gb131, 2, none⟩ = some (.int .i64 a0_2) := (blk_cell BK131.out 2).trans rfl
          have hcz10_3 : w4.cell? ⟨gb131, 3, none⟩ = some (.bool a0_3) := (blk_cell BK131.out 3).trans rfl
          have hcz10_4 : w4.cell? ⟨gb131, 4, none⟩ = some (.bool a0_4) := (blk_cell BK131.out 4).trans rfl
          have hcz10_5 : w4.cell? ⟨gb131, 5, none⟩ = some (.int .i64 a0_5) := (blk_cell BK131.out 5).trans rfl
          have hcz10_6 : w4.cell? ⟨gb131, 6, none⟩ = some (.slice A0_6 l0_6.length c0_6) := (blk_cell BK131.out 6).trans rfl
          have hfz10_0 := blk_frozen BK131.out 0
          have hfz10_1 := blk_frozen BK131.out 1
          have hfz10_2 := blk_frozen BK131.out 2
          have hfz10_3 := blk_frozen BK131.out 3
          have hfz10_4 := blk_frozen BK131.out 4
          have hfz10_5 := blk_frozen BK131.out 5
          have hfz10_6 := blk_frozen BK131.out 6
          go_wp2_with (first | ((with_reducible refine gate_callee (f := 155) rfl ?_); refine goesL_ (some 9) rfl rfl Try.func155 (by kernel_rfl) rfl #[.int .i64 a0_0, .int .i64 a0_1] rfl (by (try simp only [List.map_toArray, List.map_cons, List.map_nil]); first | done | rfl | (simp only [List.length_drop, List.length_take]; rfl)) ?_; (with_reducible refine (spec_l7Sides.calls a0_0 a0_1 true _ A5.out).mono ?_); rintro e w' ⟨rfl, ⟨nd, rfl⟩⟩; refine ⟨_, rfl, ?_⟩))
          go_meet
          case rel => exact ⟨_, (true), (by first | rfl | (simp; done) | (simp [*]; done)), H', ⟨by first | omega | exact Nat.le_refl _⟩, ⟨by (with_reducible repeat (first | refine blk_drewN ?_ _ | refine blk_drew ?_ | refine blk_alloc ?_ _)); exact BK131.out⟩, ⟨by repeat (first | (with_reducible first | exact HB.out | apply below_alloc | apply pw_below_drewN | apply below_drew1 | refine below_set ?_ GE131.out) | exact HB.out)⟩⟩
        · rw [if_neg c9] at H
          have c9b0 : decide (100 < a0_2) = false := decide_eq_false c9
          clear c9
          by_cases c11 : a0_5 < 0
          · rw [if_pos c11] at H
            have c11b0 : decide (a0_5 < 0) = true := decide_eq_true c11
            clear c11
            have H' := Aside0.mk H
            clear H
            have hcz12_0 : w4.cell? ⟨gb131, 0, none⟩ = some (.int .i64 a0_0) := (blk_cell BK131.out 0).trans rfl
            have hcz12_1 : w4.cell? ⟨gb131, 1, none⟩ = some (.int .i64 a0_1) := (blk_cell BK131.out 1).trans rfl
            have hcz12_2 : w4.cell? ⟨gb131, 2, none⟩ = some (.int .i64 a0_2) := (blk_cell BK131.out 2).trans rfl
            have hcz12_3 : w4.cell? ⟨gb131, 3, none⟩ = some (.bool a0_3) := (blk_cell BK131.out 3).trans rfl
            have hcz12_4 : w4.cell? ⟨gb131, 4, none⟩ = some (.bool a0_4) := (blk_cell BK131.out 4).trans rfl
            have hcz12_5 : w4.cell? ⟨gb131, 5, none⟩ = some (.int .i64 a0_5) := (blk_cell BK131.out 5).trans rfl
            have hcz12_6 : w4.cell? ⟨gb131, 6, none⟩ = some (.slice A0_6 l0_6.length c0_6) := (blk_cell BK131.out 6).trans rfl
            have hfz12_0 := blk_frozen BK131.out 0
            have hfz12_1 := blk_frozen BK131.out 1
            have hfz12_2 := blk_frozen BK131.out 2
            have hfz12_3 := blk_frozen BK131.out 3
            have hfz12_4 := blk_frozen BK131.out 4
            have hfz12_5 := blk_frozen BK131.out 5
            have hfz12_6 := blk_frozen BK131.out 6
            go_wp2_with (first | ((with_reducible refine gate_callee (f := 155) rfl ?_); refine goesL_ (some 9) rfl rfl Try.func155 (by kernel_rfl) rfl #[.int .i64 a0_0, .int .i64 a0_1] rfl (by (try simp only [List.map_toArray, List.map_cons, List.map_nil]); first | done | rfl | (simp only [List.length_drop, List.length_take]; rfl)) ?_; (with_reducible refine (spec_l7Sides.calls a0_0 a0_1 true _ A5.out).mono ?_); rintro e w' ⟨rfl, ⟨nd, rfl⟩⟩; refine ⟨_, rfl, ?_⟩))
            go_meet
            case rel => exact ⟨_, (true), (by first | rfl | (simp; done) | (simp [*]; done)), H', ⟨by first | omega | exact Nat.le_refl _⟩, ⟨by (with_reducible repeat (first | refine blk_drewN ?_ _ | refine blk_drew ?_ | refine blk_alloc ?_ _)); exact BK131.out⟩, ⟨by repeat (first | (with_reducible first | exact HB.out | apply below_alloc | apply pw_below_drewN | apply below_drew1 | refine below_set ?_ GE131.out) | exact HB.out)⟩⟩
          · rw [if_neg c11] at H
            have c11b0 : decide (a0_5 < 0) = false := decide_eq_false c11
            clear c11
            have H' := Aside0.mk H
            clear H
            have hcz13_0 : w4.cell? ⟨gb131, 0, none⟩ = some (.int .i64 a0_0) := (blk_cell BK131.out 0).trans rfl
            have hcz13_1 : w4.cell? ⟨gb131, 1, none⟩ = some (.int .i64 a0_1) := (blk_cell BK131.out 1).trans rfl
            have hcz13_2 : w4.cell? ⟨gb131, 2, none⟩ = some (.int .i64 a0_2) := (blk_cell BK131.out 2).trans rfl
            have hcz13_3 : w4.cell? ⟨gb131, 3, none⟩ = some (.bool a0_3) := (blk_cell BK131.out 3).trans rfl
            have hcz13_4 : w4.cell? ⟨gb131, 4, none⟩ = some (.bool a0_4) := (blk_cell BK131.out 4).trans rfl
            have hcz13_5 : w4.cell? ⟨gb131, 5, none⟩ = some (.int .i64 a0_5) := (blk_cell BK131.out 5).trans rfl
            have hcz13_6 : w4.cell? ⟨gb131, 6, none⟩ = some (.slice A0_6 l0_6.length c0_6) := (blk_cell BK131.out 6).trans rfl
            have hfz13_0 := blk_frozen BK131.out 0
            have hfz13_1 := blk_frozen BK131.out 1
            have hfz13_2 := blk_frozen BK131.out 2
            have hfz13_3 := blk_frozen BK131.out 3
            have hfz13_4 := blk_frozen BK131.out 4
            have hfz13_5 := blk_frozen BK131.out 5
            have hfz13_6 := blk_frozen BK131.out 6
            go_wp2_with (first | ((with_reducible refine gate_callee (f := 155) rfl ?_); refine goesL_ (some 9) rfl rfl Try.func155 (by kernel_rfl) rfl #[.int .i64 a0_0, .int .i64 a0_1] rfl (by (try simp only [List.map_toArray, List.map_cons, List.map_nil]); first | done | rfl | (simp only [List.length_drop, List.length_take]; rfl)) ?_; (with_reducible refine (spec_l7Sides.calls a0_0 a0_1 true _ A5.out).mono ?_); rintro e w' ⟨rfl, ⟨nd, rfl⟩⟩; refine ⟨_, rfl, ?_⟩))
            go_meet
            case rel => exact ⟨_, (decide (a0_5 > 1000)), (by first | rfl | (simp; done) | (simp [*]; done)), H', ⟨by first | omega | exact Nat.le_refl _⟩, ⟨by (with_reducible repeat (first | refine blk_drewN ?_ _ | refine blk_drew ?_ | refine blk_alloc ?_ _)); exact BK131.out⟩, ⟨by repeat (first | (with_reducible first | exact HB.out | apply below_alloc | apply pw_below_drewN | apply below_drew1 | refine below_set ?_ GE131.out) | exact HB.out)⟩⟩
    · replace c6 := Bool.eq_false_iff.mpr c6
      subst c6
      have H1 : (spec_l9Head.j0 k a1 true a0_0 a0_1 a0_2 a0_3 a0_4 a0_5 l0_6) = some r := by rw [if_neg (show ¬ (false = true) by decide)] at H; exact H
      clear H
      have H := H1
      clear H1
      have H' := Aside0.mk H
      clear H
      have hcz14_0 : w4.cell? ⟨gb131, 0, none⟩ = some (.int .i64 a0_0) := (blk_cell BK131.out 0).trans rfl
      have hcz14_1 : w4.cell? ⟨gb131, 1, none⟩ = some (.int .i64 a0_1) := (blk_cell BK131.out 1).trans rfl
      have hcz14_2 : w4.cell? ⟨gb131, 2, none⟩ = some (.int .i64 a0_2) := (blk_cell BK131.out 2).trans rfl
      have hcz14_3 : w4.cell? ⟨gb131, 3, none⟩ = some (.bool a0_3) := (blk_cell BK131.out 3).trans rfl
      have hcz14_4 : w4.cell? ⟨gb131, 4, none⟩ = some (.bool a0_4) := (blk_cell BK131.out 4).trans rfl
      have hcz14_5 : w4.cell? ⟨gb131, 5, none⟩ = some (.int .i64 a0_5) := (blk_cell BK131.out 5).trans rfl
      have hcz14_6 : w4.cell? ⟨gb131, 6, none⟩ = some (.slice A0_6 l0_6.length c0_6) := (blk_cell BK131.out 6).trans rfl
      have hfz14_0 := blk_frozen BK131.out 0
      have hfz14_1 := blk_frozen BK131.out 1
      have hfz14_2 := blk_frozen BK131.out 2
      have hfz14_3 := blk_frozen BK131.out 3
      have hfz14_4 := blk_frozen BK131.out 4
      have hfz14_5 := blk_frozen BK131.out 5
      have hfz14_6 := blk_frozen BK131.out 6
      go_wp2_with (first | ((with_reducible refine gate_callee (f := 155) rfl ?_); refine goesL_ (some 9) rfl rfl Try.func155 (by kernel_rfl) rfl #[.int .i64 a0_0, .int .i64 a0_1] rfl (by (try simp only [List.map_toArray, List.map_cons, List.map_nil]); first | done | rfl | (simp only [List.length_drop, List.length_take]; rfl)) ?_; (with_reducible refine (spec_l7Sides.calls a0_0 a0_1 false _ A5.out).mono ?_); rintro e w' ⟨rfl, ⟨nd, rfl⟩⟩; refine ⟨_, rfl, ?_⟩))
      go_meet
      case rel => exact ⟨_, (true), (by first | rfl | (simp; done) | (simp [*]; done)), H', ⟨by first | omega | exact Nat.le_refl _⟩, ⟨by (with_reducible repeat (first | refine blk_drewN ?_ _ | refine blk_drew ?_ | refine blk_alloc ?_ _)); exact BK131.out⟩, ⟨by repeat (first | (with_reducible first | exact HB.out | apply below_alloc | apply pw_below_drewN | apply below_drew1 | refine below_set ?_ GE131.out) | exact HB.out)⟩⟩
  case rest =>
    clear HC3
    try clear c1
    try clear p2
    try clear c6
    try clear c7
    try clear c7b0
    try clear c9
    try clear c9b0
    try clear c11
    try clear c11b0
    try clear c14
    try clear hcz10_0
    try clear hcz10_1
    try clear hcz10_2
    try clear hcz10_3
    try clear hcz10_4
    try clear hcz10_5
    try clear hcz10_6
    try clear hcz12_0
    try clear hcz12_1
    try clear hcz12_2
    try clear hcz12_3
    try clear hcz12_4
    try clear hcz12_5
    try clear hcz12_6
    try clear hcz13_0
    try clear hcz13_1
    try clear hcz13_2
    try clear hcz13_3
    try clear hcz13_4
    try clear hcz13_5
    try clear hcz13_6
    try clear hcz14_0
    try clear hcz14_1
    try clear hcz14_2
    try clear hcz14_3
    try clear hcz14_4
    try clear hcz14_5
    try clear hcz14_6
    try clear hcz8_0
    try clear hcz8_1
    try clear hcz8_2
    try clear hcz8_3
    try clear hcz8_4
    try clear hcz8_5
    try clear hcz8_6
    try clear hfz10_0
    try clear hfz10_1
    try clear hfz10_2
    try clear hfz10_3
    try clear hfz10_4
    try clear hfz10_5
    try clear hfz10_6
    try clear hfz12_0
    try clear hfz12_1
    try clear hfz12_2
    try clear hfz12_3
    try clear hfz12_4
    try clear hfz12_5
    try clear hfz12_6
    try clear hfz13_0
    try clear hfz13_1
    try clear hfz13_2
    try clear hfz13_3
    try clear hfz13_4
    try clear hfz13_5
    try clear hfz13_6
    try clear hfz14_0
    try clear hfz14_1
    try clear hfz14_2
    try clear hfz14_3
    try clear hfz14_4
    try clear hfz14_5
    try clear hfz14_6
    try clear hfz8_0
    try clear hfz8_1
    try clear hfz8_2
    try clear hfz8_3
    try clear hfz8_4
    try clear hfz8_5
    try clear hfz8_6
    obtain ⟨kq, x30_2, rfl, HA, HJ2, BK131, HB⟩ := hcut
    cases kq with
    | zero => exact absurd HA.out (by simp [spec_l9Head.j0])
    | succ kj2 =>
      have H := HA.out
      clear HA
      simp only [spec_l9Head.j0] at H
      by_cases c15 : x30_2 = true
      · subst c15
        have H1 : (some false) = some r := by rw [if_pos rfl] at H; exact H
        clear H
        have H := H1
        clear H1
        obtain rfl := Option.some.inj H
        go_wp2
        go_ret
        exact ⟨by first | rfl | (simp [errW_none, errW_some] <;> rfl) | (simp [*, errW_none, errW_some] <;> rfl), by repeat (first | (with_reducible first | exact HB.out | apply below_alloc | apply pw_below_drewN | apply below_drew1 | refine below_set ?_ GE131.out) | exact HB.out)⟩
      · replace c15 := Bool.eq_false_iff.mpr c15
        subst c15
        have H1 : (if a1 = 1 then (if a0_3 = true then (if a1 = 3 then (if a0_4 = true then (spec_l9Head.j1 kj2 a1 (a0_5 != 0) a0_0 a0_1 a0_2 a0_3 a0_4 a0_5 l0_6) else (spec_l9Head.j1 kj2 a1 false a0_0 a0_1 a0_2 a0_3 a0_4 a0_5 l0_6)) else (spec_l9Head.j1 kj2 a1 true a0_0 a0_1 a0_2 a0_3 a0_4 a0_5 l0_6)) else (if a0_4 = true then (spec_l9Head.j1 kj2 a1 (a0_5 != 0) a0_0 a0_1 a0_2 a0_3 a0_4 a0_5 l0_6) else (spec_l9Head.j1 kj2 a1 false a0_0 a0_1 a0_2 a0_3 a0_4 a0_5 l0_6))) else (if a1 = 3 then (if a0_3 = true then (if a0_4 = true then (spec_l9Head.j1 kj2 a1 (a0_5 != 0) a0_0 a0_1 a0_2 a0_3 a0_4 a0_5 l0_6) else (spec_l9Head.j1 kj2 a1 false a0_0 a0_1 a0_2 a0_3 a0_4 a0_5 l0_6)) else (if a0_4 = true then (spec_l9Head.j1 kj2 a1 (a0_5 != 0) a0_0 a0_1 a0_2 a0_3 a0_4 a0_5 l0_6) else (spec_l9Head.j1 kj2 a1 false a0_0 a0_1 a0_2 a0_3 a0_4 a0_5 l0_6))) else (spec_l9Head.j1 kj2 a1 true a0_0 a0_1 a0_2 a0_3 a0_4 a0_5 l0_6))) = some r := by rw [if_neg (show ¬ (false = true) by decide)] at H; exact H
        clear H
        have H := H1
        clear H1
        have HC16 := Aside0.mk H
        clear H
        go_upto_region 3 with (fail)
        go_cut [53] (fun v53 wc => ∃ (kq : Nat) (x53_15 : Bool), v53 = .bool x53_15 ∧ Aside0 (spec_l9Head.j1 kq a1 x53_15 a0_0 a0_1 a0_2 a0_3 a0_4 a0_5 l0_6 = some r) ∧ Aside0 (kq ≤ kj2) ∧ Aside0 (wc.heap[gb131]? = some (.cells #[.int .i64 a0_0, .int .i64 a0_1, .int .i64 a0_2, .bool a0_3, .bool a0_4, .int .i64 a0_5, (.slice A0_6 l0_6.length c0_6)] 114 (0, 0))) ∧ Aside0 (Below w.heap.size w wc))
        case first =>
          have H := HC16.out
          clear HC16
          by_cases c17 : a1 = 1
          · rw [if_pos c17] at H
            have c17b0 : (a1 == 1) = true := beq_iff_eq.mpr c17
            have c17b1 : (a1 != 1) = false := bne_eq_false_iff_eq.mpr c17
            clear c17
            (first | rw [c17b0] | (simp only [i64_w, i32_w]; rw [c17b0]) | skip)
            by_cases c18 : a0_3 = true
            · subst c18
              have H1 : (if a1 = 3 then (if a0_4 = true then (spec_l9Head.j1 kj2 a1 (a0_5 != 0) a0_0 a0_1 a0_2 true a0_4 a0_5 l0_6) else (spec_l9Head.j1 kj2 a1 false a0_0 a0_1 a0_2 true a0_4 a0_5 l0_6)) else (spec_l9Head.j1 kj2 a1 true a0_0 a0_1 a0_2 true a0_4 a0_5 l0_6)) = some r := by rw [if_pos rfl] at H; exact H
              clear H
              have H := H1
              clear H1
              by_cases c19 : a1 = 3
              · rw [if_pos c19] at H
                have c19b0 : (a1 == 3) = true := beq_iff_eq.mpr c19
                have c19b1 : (a1 != 3) = false := bne_eq_false_iff_eq.mpr c19
                clear c19
                by_cases c20 : a0_4 = true
                · subst c20
                  have H1 : (spec_l9Head.j1 kj2 a1 (a0_5 != 0) a0_0 a0_1 a0_2 true true a0_5 l0_6) = some r := by rw [if_pos rfl] at H; exact H
                  clear H
                  have H := H1
                  clear H1
                  have H' := Aside0.mk H
                  clear H
                  have hcz21_0 : wc.cell? ⟨gb131, 0, none⟩ = some (.int .i64 a0_0) := (blk_cell BK131.out 0).trans rfl
                  have hcz21_1 : wc.cell? ⟨gb131, 1, none⟩ = some (.int .i64 a0_1) := (blk_cell BK131.out 1).trans rfl
                  have hcz21_2 : wc.cell? ⟨gb131, 2, none⟩ = some (.int .i64 a0_2) := (blk_cell BK131.out 2).trans rfl
                  have hcz21_3 : wc.cell? ⟨gb131, 3, none⟩ = some (.bool true) := (blk_cell BK131.out 3).trans rfl
                  have hcz21_4 : wc.cell? ⟨gb131, 4, none⟩ = some (.bool true) := (blk_cell BK131.out 4).trans rfl
                  have hcz21_5 : wc.cell? ⟨gb131, 5, none⟩ = some (.int .i64 a0_5) := (blk_cell BK131.out 5).trans rfl
                  have hcz21_6 : wc.cell? ⟨gb131, 6, none⟩ = some (.slice A0_6 l0_6.length c0_6) := (blk_cell BK131.out 6).trans rfl
                  have hfz21_0 := blk_frozen BK131.out 0
                  have hfz21_1 := blk_frozen BK131.out 1
                  have hfz21_2 := blk_frozen BK131.out 2
                  have hfz21_3 := blk_frozen BK131.out 3
                  have hfz21_4 := blk_frozen BK131.out 4
                  have hfz21_5 := blk_frozen BK131.out 5
                  have hfz21_6 := blk_frozen BK131.out 6
                  go_wp2
                  go_meet
                  case rel => exact ⟨_, ((a0_5 != 0)), (by first | rfl | (simp; done) | (simp [*]; done)), H', ⟨by have := HJ2.out; first | omega | exact Nat.le_refl _⟩, ⟨by (with_reducible repeat (first | refine blk_drewN ?_ _ | refine blk_drew ?_ | refine blk_alloc ?_ _)); exact BK131.out⟩, ⟨by repeat (first | (with_reducible first | exact HB.out | apply below_alloc | apply pw_below_drewN | apply below_drew1 | refine below_set ?_ GE131.out) | exact HB.out)⟩⟩
                · replace c20 := Bool.eq_false_iff.mpr c20
                  subst c20
                  have H1 : (spec_l9Head.j1 kj2 a1 false a0_0 a0_1 a0_2 true false a0_5 l0_6) = some r := by rw [if_neg (show ¬ (false = true) by decide)] at H; exact H
                  clear H
                  have H := H1
                  clear H1
                  have H' := Aside0.mk H
                  clear H
                  have hcz22_0 : wc.cell? ⟨gb131, 0, none⟩ = some (.int .i64 a0_0) := (blk_cell BK131.out 0).trans rfl
                  have hcz22_1 : wc.cell? ⟨gb131, 1, none⟩ = some (.int .i64 a0_1) := (blk_cell BK131.out 1).trans rfl
                  have hcz22_2 : wc.cell? ⟨gb131, 2, none⟩ = some (.int .i64 a0_2) := (blk_cell BK131.out 2).trans rfl
                  have hcz22_3 : wc.cell? ⟨gb131, 3, none⟩ = some (.bool true) := (blk_cell BK131.out 3).trans rfl
                  have hcz22_4 : wc.cell? ⟨gb131, 4, none⟩ = some (.bool false) := (blk_cell BK131.out 4).trans rfl
                  have hcz22_5 : wc.cell? ⟨gb131, 5, none⟩ = some (.int .i64 a0_5) := (blk_cell BK131.out 5).trans rfl
                  have hcz22_6 : wc.cell? ⟨gb131, 6, none⟩ = some (.slice A0_6 l0_6.length c0_6) := (blk_cell BK131.out 6).trans rfl
                  have hfz22_0 := blk_frozen BK131.out 0
                  have hfz22_1 := blk_frozen BK131.out 1
                  have hfz22_2 := blk_frozen BK131.out 2
                  have hfz22_3 := blk_frozen BK131.out 3
                  have hfz22_4 := blk_frozen BK131.out 4
                  have hfz22_5 := blk_frozen BK131.out 5
                  have hfz22_6 := blk_frozen BK131.out 6
                  go_wp2
                  go_meet
                  case rel => exact ⟨_, (false), (by first | rfl | (simp; done) | (simp [*]; done)), H', ⟨by have := HJ2.out; first | omega | exact Nat.le_refl _⟩, ⟨by (with_reducible repeat (first | refine blk_drewN ?_ _ | refine blk_drew ?_ | refine blk_alloc ?_ _)); exact BK131.out⟩, ⟨by repeat (first | (with_reducible first | exact HB.out | apply below_alloc | apply pw_below_drewN | apply below_drew1 | refine below_set ?_ GE131.out) | exact HB.out)⟩⟩
              · rw [if_neg c19] at H
                have c19b0 : (a1 == 3) = false := beq_eq_false_iff_ne.mpr c19
                have c19b1 : (a1 != 3) = true := bne_iff_ne.mpr c19
                have H' := Aside0.mk H
                clear H
                have hcz23_0 : wc.cell? ⟨gb131, 0, none⟩ = some (.int .i64 a0_0) := (blk_cell BK131.out 0).trans rfl
                have hcz23_1 : wc.cell? ⟨gb131, 1, none⟩ = some (.int .i64 a0_1) := (blk_cell BK131.out 1).trans rfl
                have hcz23_2 : wc.cell? ⟨gb131, 2, none⟩ = some (.int .i64 a0_2) := (blk_cell BK131.out 2).trans rfl
                have hcz23_3 : wc.cell? ⟨gb131, 3, none⟩ = some (.bool true) := (blk_cell BK131.out 3).trans rfl
                have hcz23_4 : wc.cell? ⟨gb131, 4, none⟩ = some (.bool a0_4) := (blk_cell BK131.out 4).trans rfl
                have hcz23_5 : wc.cell? ⟨gb131, 5, none⟩ = some (.int .i64 a0_5) := (blk_cell BK131.out 5).trans rfl
                have hcz23_6 : wc.cell? ⟨gb131, 6, none⟩ = some (.slice A0_6 l0_6.length c0_6) := (blk_cell BK131.out 6).trans rfl
                have hfz23_0 := blk_frozen BK131.out 0
                have hfz23_1 := blk_frozen BK131.out 1
                have hfz23_2 := blk_frozen BK131.out 2
                have hfz23_3 := blk_frozen BK131.out 3
                have hfz23_4 := blk_frozen BK131.out 4
                have hfz23_5 := blk_frozen BK131.out 5
                have hfz23_6 := blk_frozen BK131.out 6
                go_wp2
                go_meet
                case rel => exact ⟨_, (true), (by first | rfl | (simp; done) | (simp [*]; done)), H', ⟨by have := HJ2.out; first | omega | exact Nat.le_refl _⟩, ⟨by (with_reducible repeat (first | refine blk_drewN ?_ _ | refine blk_drew ?_ | refine blk_alloc ?_ _)); exact BK131.out⟩, ⟨by repeat (first | (with_reducible first | exact HB.out | apply below_alloc | apply pw_below_drewN | apply below_drew1 | refine below_set ?_ GE131.out) | exact HB.out)⟩⟩
            · replace c18 := Bool.eq_false_iff.mpr c18
              subst c18
              have H1 : (if a0_4 = true then (spec_l9Head.j1 kj2 a1 (a0_5 != 0) a0_0 a0_1 a0_2 false a0_4 a0_5 l0_6) else (spec_l9Head.j1 kj2 a1 false a0_0 a0_1 a0_2 false a0_4 a0_5 l0_6)) = some r := by rw [if_neg (show ¬ (false = true) by decide)] at H; exact H
              clear H
              have H := H1
              clear H1
              by_cases c24 : a0_4 = true
              · subst c24
                have H1 : (spec_l9Head.j1 kj2 a1 (a0_5 != 0) a0_0 a0_1 a0_2 false true a0_5 l0_6) = some r := by rw [if_pos rfl] at H; exact H
                clear H
                have H := H1
                clear H1
                have H' := Aside0.mk H
                clear H
                have hcz25_0 : wc.cell? ⟨gb131, 0, none⟩ = some (.int .i64 a0_0) := (blk_cell BK131.out 0).trans rfl
                have hcz25_1 : wc.cell? ⟨gb131, 1, none⟩ = some (.int .i64 a0_1) := (blk_cell BK131.out 1).trans rfl
                have hcz25_2 : wc.cell? ⟨gb131, 2, none⟩ = some (.int .i64 a0_2) := (blk_cell BK131.out 2).trans rfl
                have hcz25_3 : wc.cell? ⟨gb131, 3, none⟩ = some (.bool false) := (blk_cell BK131.out 3).trans rfl
                have hcz25_4 : wc.cell? ⟨gb131, 4, none⟩ = some (.bool true) := (blk_cell BK131.out 4).trans rfl
                have hcz25_5 : wc.cell? ⟨gb131, 5, none⟩ = some (.int .i64 a0_5) := (blk_cell BK131.out 5).trans rfl
                have hcz25_6 : wc.cell? ⟨gb131, 6, none⟩ = some (.slice A0_6 l0_6.length c0_6) := (blk_cell BK131.out 6).trans rfl
                have hfz25_0 := blk_frozen BK131.out 0
                have hfz25_1 := blk_frozen BK131.out 1
                have hfz25_2 := blk_frozen BK131.out 2
                have hfz25_3 := blk_frozen BK131.out 3
                have hfz25_4 := blk_frozen BK131.out 4
                have hfz25_5 := blk_frozen BK131.out 5
                have hfz25_6 := blk_frozen BK131.out 6
                go_wp2
                go_meet
                case rel => exact ⟨_, ((a0_5 != 0)), (by first | rfl | (simp; done) | (simp [*]; done)), H', ⟨by have := HJ2.out; first | omega | exact Nat.le_refl _⟩, ⟨by (with_reducible repeat (first | refine blk_drewN ?_ _ | refine blk_drew ?_ | refine blk_alloc ?_ _)); exact BK131.out⟩, ⟨by repeat (first | (with_reducible first | exact HB.out | apply below_alloc | apply pw_below_drewN | apply below_drew1 | refine below_set ?_ GE131.out) | exact HB.out)⟩⟩
              · replace c24 := Bool.eq_false_iff.mpr c24
                subst c24
                have H1 : (spec_l9Head.j1 kj2 a1 false a0_0 a0_1 a0_2 false false a0_5 l0_6) = some r := by rw [if_neg (show ¬ (false = true) by decide)] at H; exact H
                clear H
                have H := H1
                clear H1
                have H' := Aside0.mk H
                clear H
                have hcz26_0 : wc.cell? ⟨gb131, 0, none⟩ = some (.int .i64 a0_0) := (blk_cell BK131.out 0).trans rfl
                have hcz26_1 : wc.cell? ⟨gb131, 1, none⟩ = some (.int .i64 a0_1) := (blk_cell BK131.out 1).trans rfl
                have hcz26_2 : wc.cell? ⟨gb131, 2, none⟩ = some (.int .i64 a0_2) := (blk_cell BK131.out 2).trans rfl
                have hcz26_3 : wc.cell? ⟨gb131, 3, none⟩ = some (.bool false) := (blk_cell BK131.out 3).trans rfl
                have hcz26_4 : wc.cell? ⟨gb131, 4, none⟩ = some (.bool false) := (blk_cell BK131.out 4).trans rfl
                have hcz26_5 : wc.cell? ⟨gb131, 5, none⟩ = some (.int .i64 a0_5) := (blk_cell BK131.out 5).trans rfl
                have hcz26_6 : wc.cell? ⟨gb131, 6, none⟩ = some (.slice A0_6 l0_6.length c0_6) := (blk_cell BK131.out 6).trans rfl
                have hfz26_0 := blk_frozen BK131.out 0
                have hfz26_1 := blk_frozen BK131.out 1
                have hfz26_2 := blk_frozen BK131.out 2
                have hfz26_3 := blk_frozen BK131.out 3
                have hfz26_4 := blk_frozen BK131.out 4
                have hfz26_5 := blk_frozen BK131.out 5
                have hfz26_6 := blk_frozen BK131.out 6
                go_wp2
                go_meet
                case rel => exact ⟨_, (false), (by first | rfl | (simp; done) | (simp [*]; done)), H', ⟨by have := HJ2.out; first | omega | exact Nat.le_refl _⟩, ⟨by (with_reducible repeat (first | refine blk_drewN ?_ _ | refine blk_drew ?_ | refine blk_alloc ?_ _)); exact BK131.out⟩, ⟨by repeat (first | (with_reducible first | exact HB.out | apply below_alloc | apply pw_below_drewN | apply below_drew1 | refine below_set ?_ GE131.out) | exact HB.out)⟩⟩
          · rw [if_neg c17] at H
            have c17b0 : (a1 == 1) = false := beq_eq_false_iff_ne.mpr c17
            have c17b1 : (a1 != 1) = true := bne_iff_ne.mpr c17
            (first | rw [c17b0] | (simp only [i64_w, i32_w]; rw [c17b0]) | skip)
            by_cases c27 : a1 = 3
            · rw [if_pos c27] at H
              have c27b0 : (a1 == 3) = true := beq_iff_eq.mpr c27
              have c27b1 : (a1 != 3) = false := bne_eq_false_iff_eq.mpr c27
              clear c27
              by_cases c28 : a0_3 = true
              · subst c28
                have H1 : (if a0_4 = true then (spec_l9Head.j1 kj2 a1 (a0_5 != 0) a0_0 a0_1 a0_2 true a0_4 a0_5 l0_6) else (spec_l9Head.j1 kj2 a1 false a0_0 a0_1 a0_2 true a0_4 a0_5 l0_6)) = some r := by rw [if_pos rfl] at H; exact H
                clear H
                have H := H1
                clear H1
                by_cases c29 : a0_4 = true
                · subst c29
                  have H1 : (spec_l9Head.j1 kj2 a1 (a0_5 != 0) a0_0 a0_1 a0_2 true true a0_5 l0_6) = some r := by rw [if_pos rfl] at H; exact H
                  clear H
                  have H := H1
                  clear H1
                  have H' := Aside0.mk H
                  clear H
                  have hcz30_0 : wc.cell? ⟨gb131, 0, none⟩ = some (.int .i64 a0_0) := (blk_cell BK131.out 0).trans rfl
                  have hcz30_1 : wc.cell? ⟨gb131, 1, none⟩ = some (.int .i64 a0_1) := (blk_cell BK131.out 1).trans rfl
                  have hcz30_2 : wc.cell? ⟨gb131, 2, none⟩ = some (.int .i64 a0_2) := (blk_cell BK131.out 2).trans rfl
                  have hcz30_3 : wc.cell? ⟨gb131, 3, none⟩ = some (.bool true) := (blk_cell BK131.out 3).trans rfl
                  have hcz30_4 : wc.cell? ⟨gb131, 4, none⟩ = some (.bool true) := (blk_cell BK131.out 4).trans rfl
                  have hcz30_5 : wc.cell? ⟨gb131, 5, none⟩ = some (.int .i64 a0_5) := (blk_cell BK131.out 5).trans rfl
                  have hcz30_6 : wc.cell? ⟨gb131, 6, none⟩ = some (.slice A0_6 l0_6.length c0_6) := (blk_cell BK131.out 6).trans rfl
                  have hfz30_0 := blk_frozen BK131.out 0
                  have hfz30_1 := blk_frozen BK131.out 1
                  have hfz30_2 := blk_frozen BK131.out 2
                  have hfz30_3 := blk_frozen BK131.out 3
                  have hfz30_4 := blk_frozen BK131.out 4
                  have hfz30_5 := blk_frozen BK131.out 5
                  have hfz30_6 := blk_frozen BK131.out 6
                  go_wp2
                  go_meet
                  case rel => exact ⟨_, ((a0_5 != 0)), (by first | rfl | (simp; done) | (simp [*]; done)), H', ⟨by have := HJ2.out; first | omega | exact Nat.le_refl _⟩, ⟨by (with_reducible repeat (first | refine blk_drewN ?_ _ | refine blk_drew ?_ | refine blk_alloc ?_ _)); exact BK131.out⟩, ⟨by repeat (first | (with_reducible first | exact HB.out | apply below_alloc | apply pw_below_drewN | apply below_drew1 | refine below_set ?_ GE131.out) | exact HB.out)⟩⟩
                · replace c29 := Bool.eq_false_iff.mpr c29
                  subst c29
                  have H1 : (spec_l9Head.j1 kj2 a1 false a0_0 a0_1 a0_2 true false a0_5 l0_6) = some r := by rw [if_neg (show ¬ (false = true) by decide)] at H; exact H
                  clear H
                  have H := H1
                  clear H1
                  have H' := Aside0.mk H
                  clear H
                  have hcz31_0 : wc.cell? ⟨gb131, 0, none⟩ = some (.int .i64 a0_0) := (blk_cell BK131.out 0).trans rfl
                  have hcz31_1 : wc.cell? ⟨gb131, 1, none⟩ = some (.int .i64 a0_1) := (blk_cell BK131.out 1).trans rfl
                  have hcz31_2 : wc.cell? ⟨gb131, 2, none⟩ = some (.int .i64 a0_2) := (blk_cell BK131.out 2).trans rfl
                  have hcz31_3 : wc.cell? ⟨gb131, 3, none⟩ = some (.bool true) := (blk_cell BK131.out 3).trans rfl
                  have hcz31_4 : wc.cell? ⟨gb131, 4, none⟩ = some (.bool false) := (blk_cell BK131.out 4).trans rfl
                  have hcz31_5 : wc.cell? ⟨gb131, 5, none⟩ = some (.int .i64 a0_5) := (blk_cell BK131.out 5).trans rfl
                  have hcz31_6 : wc.cell? ⟨gb131, 6, none⟩ = some (.slice A0_6 l0_6.length c0_6) := (blk_cell BK131.out 6).trans rfl
                  have hfz31_0 := blk_frozen BK131.out 0
                  have hfz31_1 := blk_frozen BK131.out 1
                  have hfz31_2 := blk_frozen BK131.out 2
                  have hfz31_3 := blk_frozen BK131.out 3
                  have hfz31_4 := blk_frozen BK131.out 4
                  have hfz31_5 := blk_frozen BK131.out 5
                  have hfz31_6 := blk_frozen BK131.out 6
                  go_wp2
                  go_meet
                  case rel => exact ⟨_, (false), (by first | rfl | (simp; done) | (simp [*]; done)), H', ⟨by have := HJ2.out; first | omega | exact Nat.le_refl _⟩, ⟨by (with_reducible repeat (first | refine blk_drewN ?_ _ | refine blk_drew ?_ | refine blk_alloc ?_ _)); exact BK131.out⟩, ⟨by repeat (first | (with_reducible first | exact HB.out | apply below_alloc | apply pw_below_drewN | apply below_drew1 | refine below_set ?_ GE131.out) | exact HB.out)⟩⟩
              · replace c28 := Bool.eq_false_iff.mpr c28
                subst c28
                have H1 : (if a0_4 = true then (spec_l9Head.j1 kj2 a1 (a0_5 != 0) a0_0 a0_1 a0_2 false a0_4 a0_5 l0_6) else (spec_l9Head.j1 kj2 a1 false a0_0 a0_1 a0_2 false a0_4 a0_5 l0_6)) = some r := by rw [if_neg (show ¬ (false = true) by decide)] at H; exact H
                clear H
                have H := H1
                clear H1
                by_cases c32 : a0_4 = true
                · subst c32
                  have H1 : (spec_l9Head.j1 kj2 a1 (a0_5 != 0) a0_0 a0_1 a0_2 false true a0_5 l0_6) = some r := by rw [if_pos rfl] at H; exact H
                  clear H
                  have H := H1
                  clear H1
                  have H' := Aside0.mk H
                  clear H
                  have hcz33_0 : wc.cell? ⟨gb131, 0, none⟩ = some (.int .i64 a0_0) := (blk_cell BK131.out 0).trans rfl
                  have hcz33_1 : wc.cell? ⟨gb131, 1, none⟩ = some (.int .i64 a0_1) := (blk_cell BK131.out 1).trans rfl
                  have hcz33_2 : wc.cell? ⟨gb131, 2, none⟩ = some (.int .i64 a0_2) := (blk_cell BK131.out 2).trans rfl
                  have hcz33_3 : wc.cell? ⟨gb131, 3, none⟩ = some (.bool false) := (blk_cell BK131.out 3).trans rfl
                  have hcz33_4 : wc.cell? ⟨gb131, 4, none⟩ = some (.bool true) := (blk_cell BK131.out 4).trans rfl
                  have hcz33_5 : wc.cell? ⟨gb131, 5, none⟩ = some (.int .i64 a0_5) := (blk_cell BK131.out 5).trans rfl
                  have hcz33_6 : wc.cell? ⟨gb131, 6, none⟩ = some (.slice A0_6 l0_6.length c0_6) := (blk_cell BK131.out 6).trans rfl
                  have hfz33_0 := blk_frozen BK131.out 0
                  have hfz33_1 := blk_frozen BK131.out 1
                  have hfz33_2 := blk_frozen BK131.out 2
                  have hfz33_3 := blk_frozen BK131.out 3
                  have hfz33_4 := blk_frozen BK131.out 4
                  have hfz33_5 := blk_frozen BK131.out 5
                  have hfz33_6 := blk_frozen BK131.out 6
                  go_wp2
                  go_meet
                  case rel => exact ⟨_, ((a0_5 != 0)), (by first | rfl | (simp; done) | (simp [*]; done)), H', ⟨by have := HJ2.out; first | omega | exact Nat.le_refl _⟩, ⟨by (with_reducible repeat (first | refine blk_drewN ?_ _ | refine blk_drew ?_ | refine blk_alloc ?_ _)); exact BK131.out⟩, ⟨by repeat (first | (with_reducible first | exact HB.out | apply below_alloc | apply pw_below_drewN | apply below_drew1 | refine below_set ?_ GE131.out) | exact HB.out)⟩⟩
                · replace c32 := Bool.eq_false_iff.mpr c32
                  subst c32
                  have H1 : (spec_l9Head.j1 kj2 a1 false a0_0 a0_1 a0_2 false false a0_5 l0_6) = some r := by rw [if_neg (show ¬ (false = true) by decide)] at H; exact H
                  clear H
                  have H := H1
                  clear H1
                  have H' := Aside0.mk H
                  clear H
                  have hcz34_0 : wc.cell? ⟨gb131, 0, none⟩ = some (.int .i64 a0_0) := (blk_cell BK131.out 0).trans rfl
                  have hcz34_1 : wc.cell? ⟨gb131, 1, none⟩ = some (.int .i64 a0_1) := (blk_cell BK131.out 1).trans rfl
                  have hcz34_2 : wc.cell? ⟨gb131, 2, none⟩ = some (.int .i64 a0_2) := (blk_cell BK131.out 2).trans rfl
                  have hcz34_3 : wc.cell? ⟨gb131, 3, none⟩ = some (.bool false) := (blk_cell BK131.out 3).trans rfl
                  have hcz34_4 : wc.cell? ⟨gb131, 4, none⟩ = some (.bool false) := (blk_cell BK131.out 4).trans rfl
                  have hcz34_5 : wc.cell? ⟨gb131, 5, none⟩ = some (.int .i64 a0_5) := (blk_cell BK131.out 5).trans rfl
                  have hcz34_6 : wc.cell? ⟨gb131, 6, none⟩ = some (.slice A0_6 l0_6.length c0_6) := (blk_cell BK131.out 6).trans rfl
                  have hfz34_0 := blk_frozen BK131.out 0
                  have hfz34_1 := blk_frozen BK131.out 1
                  have hfz34_2 := blk_frozen BK131.out 2
                  have hfz34_3 := blk_frozen BK131.out 3
                  have hfz34_4 := blk_frozen BK131.out 4
                  have hfz34_5 := blk_frozen BK131.out 5
                  have hfz34_6 := blk_frozen BK131.out 6
                  go_wp2
                  go_meet
                  case rel => exact ⟨_, (false), (by first | rfl | (simp; done) | (simp [*]; done)), H', ⟨by have := HJ2.out; first | omega | exact Nat.le_refl _⟩, ⟨by (with_reducible repeat (first | refine blk_drewN ?_ _ | refine blk_drew ?_ | refine blk_alloc ?_ _)); exact BK131.out⟩, ⟨by repeat (first | (with_reducible first | exact HB.out | apply below_alloc | apply pw_below_drewN | apply below_drew1 | refine below_set ?_ GE131.out) | exact HB.out)⟩⟩
            · rw [if_neg c27] at H
              have c27b0 : (a1 == 3) = false := beq_eq_false_iff_ne.mpr c27
              have c27b1 : (a1 != 3) = true := bne_iff_ne.mpr c27
              have H' := Aside0.mk H
              clear H
              go_wp2
              go_meet
              case rel => exact ⟨_, (true), (by first | rfl | (simp; done) | (simp [*]; done)), H', ⟨by have := HJ2.out; first | omega | exact Nat.le_refl _⟩, ⟨by (with_reducible repeat (first | refine blk_drewN ?_ _ | refine blk_drew ?_ | refine blk_alloc ?_ _)); exact BK131.out⟩, ⟨by repeat (first | (with_reducible first | exact HB.out | apply below_alloc | apply pw_below_drewN | apply below_drew1 | refine below_set ?_ GE131.out) | exact HB.out)⟩⟩
        case rest =>
          clear HC16
          try clear c1
          try clear c2
          try clear p2
          try clear c3
          try clear c6
          try clear c7
          try clear c7b0
          try clear c9
          try clear c9b0
          try clear c11
          try clear c11b0
          try clear c14
          try clear c15
          try clear c17
          try clear c17b0
          try clear c17b1
          try clear c18
          try clear c19
          try clear c19b0
          try clear c19b1
          try clear c20
          try clear c24
          try clear c27
          try clear c27b0
          try clear c27b1
          try clear c28
          try clear c29
          try clear c32
          try clear hcz10_0
          try clear hcz10_1
          try clear hcz10_2
          try clear hcz10_3
          try clear hcz10_4
          try clear hcz10_5
          try clear hcz10_6
          try clear hcz12_0
          try clear hcz12_1
          try clear hcz12_2
          try clear hcz12_3
          try clear hcz12_4
          try clear hcz12_5
          try clear hcz12_6
          try clear hcz13_0
          try clear hcz13_1
          try clear hcz13_2
          try clear hcz13_3
          try clear hcz13_4
          try clear hcz13_5
          try clear hcz13_6
          try clear hcz14_0
          try clear hcz14_1
          try clear hcz14_2
          try clear hcz14_3
          try clear hcz14_4
          try clear hcz14_5
          try clear hcz14_6
          try clear hcz21_0
          try clear hcz21_1
          try clear hcz21_2
          try clear hcz21_3
          try clear hcz21_4
          try clear hcz21_5
          try clear hcz21_6
          try clear hcz22_0
          try clear hcz22_1
          try clear hcz22_2
          try clear hcz22_3
          try clear hcz22_4
          try clear hcz22_5
          try clear hcz22_6
          try clear hcz23_0
          try clear hcz23_1
          try clear hcz23_2
          try clear hcz23_3
          try clear hcz23_4
          try clear hcz23_5
          try clear hcz23_6
          try clear hcz25_0
          try clear hcz25_1
          try clear hcz25_2
          try clear hcz25_3
          try clear hcz25_4
          try clear hcz25_5
          try clear hcz25_6
          try clear hcz26_0
          try clear hcz26_1
          try clear hcz26_2
          try clear hcz26_3
          try clear hcz26_4
          try clear hcz26_5
          try clear hcz26_6
          try clear hcz30_0
          try clear hcz30_1
          try clear hcz30_2
          try clear hcz30_3
          try clear hcz30_4
          try clear hcz30_5
          try clear hcz30_6
          try clear hcz31_0
          try clear hcz31_1
          try clear hcz31_2
          try clear hcz31_3
          try clear hcz31_4
          try clear hcz31_5
          try clear hcz31_6
          try clear hcz33_0
          try clear hcz33_1
          try clear hcz33_2
          try clear hcz33_3
          try clear hcz33_4
          try clear hcz33_5
          try clear hcz33_6
          try clear hcz34_0
          try clear hcz34_1
          try clear hcz34_2
          try clear hcz34_3
          try clear hcz34_4
          try clear hcz34_5
          try clear hcz34_6
          try clear hcz8_0
          try clear hcz8_1
          try clear hcz8_2
          try clear hcz8_3
          try clear hcz8_4
          try clear hcz8_5
          try clear hcz8_6
          try clear hfz10_0
          try clear hfz10_1
          try clear hfz10_2
          try clear hfz10_3
          try clear hfz10_4
          try clear hfz10_5
          try clear hfz10_6
          try clear hfz12_0
          try clear hfz12_1
          try clear hfz12_2
          try clear hfz12_3
          try clear hfz12_4
          try clear hfz12_5
          try clear hfz12_6
          try clear hfz13_0
          try clear hfz13_1
          try clear hfz13_2
          try clear hfz13_3
          try clear hfz13_4
          try clear hfz13_5
          try clear hfz13_6
          try clear hfz14_0
          try clear hfz14_1
          try clear hfz14_2
          try clear hfz14_3
          try clear hfz14_4
          try clear hfz14_5
          try clear hfz14_6
          try clear hfz21_0
          try clear hfz21_1
          try clear hfz21_2
          try clear hfz21_3
          try clear hfz21_4
          try clear hfz21_5
          try clear hfz21_6
          try clear hfz22_0
          try clear hfz22_1
          try clear hfz22_2
          try clear hfz22_3
          try clear hfz22_4
          try clear hfz22_5
          try clear hfz22_6
          try clear hfz23_0
          try clear hfz23_1
          try clear hfz23_2
          try clear hfz23_3
          try clear hfz23_4
          try clear hfz23_5
          try clear hfz23_6
          try clear hfz25_0
          try clear hfz25_1
          try clear hfz25_2
          try clear hfz25_3
          try clear hfz25_4
          try clear hfz25_5
          try clear hfz25_6
          try clear hfz26_0
          try clear hfz26_1
          try clear hfz26_2
          try clear hfz26_3
          try clear hfz26_4
          try clear hfz26_5
          try clear hfz26_6
          try clear hfz30_0
          try clear hfz30_1
          try clear hfz30_2
          try clear hfz30_3
          try clear hfz30_4
          try clear hfz30_5
          try clear hfz30_6
          try clear hfz31_0
          try clear hfz31_1
          try clear hfz31_2
          try clear hfz31_3
          try clear hfz31_4
          try clear hfz31_5
          try clear hfz31_6
          try clear hfz33_0
          try clear hfz33_1
          try clear hfz33_2
          try clear hfz33_3
          try clear hfz33_4
          try clear hfz33_5
          try clear hfz33_6
          try clear hfz34_0
          try clear hfz34_1
          try clear hfz34_2
          try clear hfz34_3
          try clear hfz34_4
          try clear hfz34_5
          try clear hfz34_6
          try clear hfz8_0
          try clear hfz8_1
          try clear hfz8_2
          try clear hfz8_3
          try clear hfz8_4
          try clear hfz8_5
          try clear hfz8_6
          try clear p2
          obtain ⟨kq, x53_15, rfl, HA, HJ15, BK131, HB⟩ := hcut
          cases kq with
          | zero => exact absurd HA.out (by simp [spec_l9Head.j1])
          | succ kj15 =>
            have H := HA.out
            clear HA
            simp only [spec_l9Head.j1] at H
            by_cases c35 : x53_15 = true
            · subst c35
              have H1 : (some false) = some r := by rw [if_pos rfl] at H; exact H
              clear H
              have H := H1
              clear H1
              obtain rfl := Option.some.inj H
              go_wp2
              go_ret
              exact ⟨by first | rfl | (simp [errW_none, errW_some] <;> rfl) | (simp [*, errW_none, errW_some] <;> rfl), by repeat (first | (with_reducible first | exact HB.out | apply below_alloc | apply pw_below_drewN | apply below_drew1 | refine below_set ?_ GE131.out) | exact HB.out)⟩
            · replace c35 := Bool.eq_false_iff.mpr c35
              subst c35
              have H1 : ((spec_l9Cut.f kj15 a0_0 a0_1 a0_2 a0_3 a0_4 a0_5 l0_6 a1).bind fun bt133 => ((spec_l9Shape_blocks.f bt133.1 bt133.2.1 bt133.2.2.1 bt133.2.2.2.1 bt133.2.2.2.2).bind fun t142 => (some (decide (t142 ≤ 400))))) = some r := by rw [if_neg (show ¬ (false = true) by decide)] at H; exact H
              clear H
              have H := H1
              clear H1
              replace H := Option.bind_eq_some_iff.mp H
              obtain ⟨⟨t133, t136, t139, t140, t141⟩, A360, H⟩ := H
              replace H : ((spec_l9Shape_blocks.f t133 t136 t139 t140 t141).bind fun t142 => (some (decide (t142 ≤ 400)))) = some r := H
              have A36 := Aside0.mk A360
              clear A360
              replace H := Option.bind_eq_some_iff.mp H
              obtain ⟨t142, A370, H⟩ := H
              replace H : (some (decide (t142 ≤ 400))) = some r := H
              have A37 := Aside0.mk A370
              clear A370
              obtain rfl := Option.some.inj H
              have hcz38_0 : wc.cell? ⟨gb131, 0, none⟩ = some (.int .i64 a0_0) := (blk_cell BK131.out 0).trans rfl
              have hcz38_1 : wc.cell? ⟨gb131, 1, none⟩ = some (.int .i64 a0_1) := (blk_cell BK131.out 1).trans rfl
              have hcz38_2 : wc.cell? ⟨gb131, 2, none⟩ = some (.int .i64 a0_2) := (blk_cell BK131.out 2).trans rfl
              have hcz38_3 : wc.cell? ⟨gb131, 3, none⟩ = some (.bool a0_3) := (blk_cell BK131.out 3).trans rfl
              have hcz38_4 : wc.cell? ⟨gb131, 4, none⟩ = some (.bool a0_4) := (blk_cell BK131.out 4).trans rfl
              have hcz38_5 : wc.cell? ⟨gb131, 5, none⟩ = some (.int .i64 a0_5) := (blk_cell BK131.out 5).trans rfl
              have hcz38_6 : wc.cell? ⟨gb131, 6, none⟩ = some (.slice A0_6 l0_6.length c0_6) := (blk_cell BK131.out 6).trans rfl
              have hfz38_0 := blk_frozen BK131.out 0
              have hfz38_1 := blk_frozen BK131.out 1
              have hfz38_2 := blk_frozen BK131.out 2
              have hfz38_3 := blk_frozen BK131.out 3
              have hfz38_4 := blk_frozen BK131.out 4
              have hfz38_5 := blk_frozen BK131.out 5
              have hfz38_6 := blk_frozen BK131.out 6
              go_wp2_with (first | ((with_reducible refine gate_callee (f := 183) rfl ?_); refine goesL_ (some 56) rfl rfl Try.func183 (by kernel_rfl) rfl #[.agg #[.int .i64 a0_0, .int .i64 a0_1, .int .i64 a0_2, .bool a0_3, .bool a0_4, .int .i64 a0_5, .slice A0_6 l0_6.length c0_6], .int .i64 a1] rfl (by (try simp only [List.map_toArray, List.map_cons, List.map_nil]); first | done | rfl | (simp only [List.length_drop, List.length_take]; rfl)) ?_; (with_reducible refine (spec_l9Cut.calls kj15 a0_0 a0_1 a0_2 a0_3 a0_4 a0_5 _ _ l0_6 a1 t133 t136 t139 t140 t141 _ ?side1 ?side2 A36.out).mono ?_); (case side1 => repeat (first | exact (Kd.C_below HR0_6.out HB.out) | (with_reducible refine Kd.C_alloc ?_ _) | (with_reducible refine Kd.C_drewN ?_ _) | (with_reducible refine Kd.C_drew ?_))); (case side2 => exact HC0_6.out); rintro e w39 ⟨v134, v137, rfl, ho0, ho1, hb⟩; refine ⟨_, rfl, ?_⟩; have n0_ := Aside0.mk (Kd.R_lower ho0 (below_size (by repeat (first | (with_reducible first | exact HB.out | apply below_alloc | apply pw_below_drewN | apply below_drew1 | refine below_set ?_ GE131.out) | exact HB.out)))); have n1_ := Aside0.mk (Kd.R_lower ho1 (below_size (by repeat (first | (with_reducible first | exact HB.out | apply below_alloc | apply pw_below_drewN | apply below_drew1 | refine below_set ?_ GE131.out) | exact HB.out)))); have n2_ := Aside0.mk (blk_below (g := gb131) (o := .cells #[.int .i64 a0_0, .int .i64 a0_1, .int .i64 a0_2, .bool a0_3, .bool a0_4, .int .i64 a0_5, .slice A0_6 l0_6.length c0_6] 114 (0, 0)) (by (with_reducible repeat (first | refine blk_drewN ?_ _ | refine blk_drew ?_ | refine blk_alloc ?_ _)); exact BK131.out) hb); have n3_ := Aside0.mk (below_step (by repeat (first | (with_reducible first | exact HB.out | apply below_alloc | apply pw_below_drewN | apply below_drew1 | refine below_set ?_ GE131.out) | exact HB.out)) hb); clear BK131; clear HB; have HO135 := n0_; have HO138 := n1_; have BK131 := n2_; have HB := n3_; clear n0_ n1_ n2_ n3_; (try clear hb); (try clear hb2); (try clear hk); (try clear hi); (try clear ho0); (try clear ho1); obtain ⟨Ao40, co40, eo40⟩ := Kd.R_slice HO135.out; subst eo40; obtain ⟨Ao41, co41, eo41⟩ := Kd.R_slice HO138.out; subst eo41) | ((with_reducible refine gate_callee (f := 184) rfl ?_); refine goesL_ (some 57) rfl rfl Try.func184 (by kernel_rfl) rfl #[.agg #[.slice Ao40 t133.length co40, .slice Ao41 t136.length co41, .int .i64 t139, .int .i64 t140, .int .i64 t141]] rfl (by (try simp only [List.map_toArray, List.map_cons, List.map_nil]); first | done | rfl | (simp only [List.length_drop, List.length_take]; rfl)) ?_; (with_reducible refine (spec_l9Shape_blocks.calls _ _ t133 _ _ t136 t139 t140 t141 t142 _ ?side1 ?side2 ?side3 ?side4 A37.out).mono ?_); (case side1 => repeat (first | exact (Kd.R_reads' HO135.out).2.2 | (with_reducible refine Kd.C_alloc ?_ _) | (with_reducible refine Kd.C_drewN ?_ _) | (with_reducible refine Kd.C_drew ?_))); (case side2 => exact (Kd.R_reads' HO135.out).2.1); (case side3 => repeat (first | exact (Kd.R_reads' HO138.out).2.2 | (with_reducible refine Kd.C_alloc ?_ _) | (with_reducible refine Kd.C_drewN ?_ _) | (with_reducible refine Kd.C_drew ?_))); (case side4 => exact (Kd.R_reads' HO138.out).2.1); rintro e w42 ⟨rfl, hb⟩; refine ⟨_, rfl, ?_⟩; have n0_ := Aside0.mk (Kd.R_below (by (with_reducible repeat (first | apply Kd.R_alloc | apply Kd.R_drewN | apply Kd.R_drew)); exact HO135.out) hb); have n1_ := Aside0.mk (Kd.R_below (by (with_reducible repeat (first | apply Kd.R_alloc | apply Kd.R_drewN | apply Kd.R_drew)); exact HO138.out) hb); have n2_ := Aside0.mk (blk_below (g := gb131) (o := .cells #[.int .i64 a0_0, .int .i64 a0_1, .int .i64 a0_2, .bool a0_3, .bool a0_4, .int .i64 a0_5, .slice A0_6 l0_6.length c0_6] 114 (0, 0)) (by (with_reducible repeat (first | refine blk_drewN ?_ _ | refine blk_drew ?_ | refine blk_alloc ?_ _)); exact BK131.out) hb); have n3_ := Aside0.mk (below_step (by repeat (first | (with_reducible first | exact HB.out | apply below_alloc | apply pw_below_drewN | apply below_drew1 | refine below_set ?_ GE131.out) | exact HB.out)) hb); clear HO135; clear HO138; clear BK131; clear HB; have HO135 := n0_; have HO138 := n1_; have BK131 := n2_; have HB := n3_; clear n0_ n1_ n2_ n3_; (try clear hb); (try clear hb2); (try clear hk); (try clear hi)))
              go_ret
              exact ⟨by first | rfl | (simp [errW_none, errW_some] <;> rfl) | (simp [*, errW_none, errW_some] <;> rfl), by repeat (first | (with_reducible first | exact HB.out | apply below_alloc | apply pw_below_drewN | apply below_drew1 | refine below_set ?_ GE131.out) | exact HB.out)⟩

end Go.Proofs.Ytglaedjadlappaa.PFnExactGoodPhoto

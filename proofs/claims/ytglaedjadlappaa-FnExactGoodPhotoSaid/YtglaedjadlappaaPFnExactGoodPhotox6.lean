-- written by myprint.py (a program of this session's over the kit's print)
import Derived.Test.YtglaedjadlappaaPFnExactGoodPhotox0
import Derived.Test.YtglaedjadlappaaPFnExactGoodPhotox4
import Derived.Test.YtglaedjadlappaaPFnExactGoodPhotox5
namespace Go.Proofs.Ytglaedjadlappaa.PFnExactGoodPhoto
open Go.RowKit Go.Proofs.YtglaedjadlappaaW.PrintWords Go.Proofs.YtglaedjadlappaaW.PrintLast Go.Proofs.YtglaedjadlappaaW.PrintMore
attribute [local go_sem] max2_int min2_int max_two min_two max_three min_three max_four min_four   -- for this text's walks alone
set_option linter.unusedVariables false
set_option linter.unusedSimpArgs false

/-! ### impl_Photo_mayBe: function 148 -/
def impl_Photo_mayBe.j0 : Nat → Int → Bool → Int → Int → Int → Bool → Bool → Int → List (List Int) → Option (Bool)
  | 0, _, _, _, _, _, _, _, _, _ => none
  | k + 1, x1, x57, x180000, x180001, x180002, x180003, x180004, x180005, x180006 => if x57 = true then (some false) else ((impl_Photo_units.f x180000 x180001 x180002 x180003 x180004 x180005 x180006).bind fun bt181 => ((impl_Photo_spots.f k x180000 x180001 x180002 x180003 x180004 x180005 x180006 x1).bind fun t183 => (some (decide ((wrap64 ((wrap64 (bt181.1 * bt181.2)) * (t183.length : Int))) ≤ 400)))))
def impl_Photo_mayBe.f (k : Nat) (a0_0 : Int) (a0_1 : Int) (a0_2 : Int) (a0_3 : Bool) (a0_4 : Bool) (a0_5 : Int) (l0_6 : List (List Int)) (a1 : Int) : Option (Bool) := (impl_goodSides.f a0_0 a0_1).bind fun t180 => (if t180 = true then (if a0_2 < 1 then (impl_Photo_mayBe.j0 k a1 true a0_0 a0_1 a0_2 a0_3 a0_4 a0_5 l0_6) else (if a0_2 > 100 then (impl_Photo_mayBe.j0 k a1 true a0_0 a0_1 a0_2 a0_3 a0_4 a0_5 l0_6) else (if a0_5 < 0 then (impl_Photo_mayBe.j0 k a1 true a0_0 a0_1 a0_2 a0_3 a0_4 a0_5 l0_6) else (if a0_5 > 1000 then (impl_Photo_mayBe.j0 k a1 true a0_0 a0_1 a0_2 a0_3 a0_4 a0_5 l0_6) else (if a1 = 1 then (if a0_3 = true then (if a1 = 3 then (if a0_4 = true then (impl_Photo_mayBe.j0 k a1 (a0_5 != 0) a0_0 a0_1 a0_2 a0_3 a0_4 a0_5 l0_6) else (impl_Photo_mayBe.j0 k a1 false a0_0 a0_1 a0_2 a0_3 a0_4 a0_5 l0_6)) else (impl_Photo_mayBe.j0 k a1 true a0_0 a0_1 a0_2 a0_3 a0_4 a0_5 l0_6)) else (if a0_4 = true then (impl_Photo_mayBe.j0 k a1 (a0_5 != 0) a0_0 a0_1 a0_2 a0_3 a0_4 a0_5 l0_6) else (impl_Photo_mayBe.j0 k a1 false a0_0 a0_1 a0_2 a0_3 a0_4 a0_5 l0_6))) else (if a1 = 3 then (if a0_3 = true then (if a0_4 = true then (impl_Photo_mayBe.j0 k a1 (a0_5 != 0) a0_0 a0_1 a0_2 a0_3 a0_4 a0_5 l0_6) else (impl_Photo_mayBe.j0 k a1 false a0_0 a0_1 a0_2 a0_3 a0_4 a0_5 l0_6)) else (if a0_4 = true then (impl_Photo_mayBe.j0 k a1 (a0_5 != 0) a0_0 a0_1 a0_2 a0_3 a0_4 a0_5 l0_6) else (impl_Photo_mayBe.j0 k a1 false a0_0 a0_1 a0_2 a0_3 a0_4 a0_5 l0_6))) else (impl_Photo_mayBe.j0 k a1 true a0_0 a0_1 a0_2 a0_3 a0_4 a0_5 l0_6))))))) else (impl_Photo_mayBe.j0 k a1 true a0_0 a0_1 a0_2 a0_3 a0_4 a0_5 l0_6))
theorem impl_Photo_mayBe.mono_l : ∀ k, (∀ y0 y1 y2 y3 y4 y5 y6 y7 y8, LeO (impl_Photo_mayBe.j0 k y0 y1 y2 y3 y4 y5 y6 y7 y8) (impl_Photo_mayBe.j0 (k + 1) y0 y1 y2 y3 y4 y5 y6 y7 y8))
  | 0 => fun _ _ _ _ _ _ _ _ _ r h => by simp [impl_Photo_mayBe.j0] at h
  | k + 1 => by
    have ih0 := impl_Photo_mayBe.mono_l k
    · intro y0 y1 y2 y3 y4 y5 y6 y7 y8
      unfold impl_Photo_mayBe.j0
      repeat' first
      | (with_reducible exact ih0 _ _ _ _ _ _ _ _ _)
      | (with_reducible exact impl_Photo_spots.mono _ _ _ _ _ _ _ _ _)
      | (with_reducible exact LeO.refl _)
      | (with_reducible exact LeO.none _)
      | (with_reducible refine LeO.ite ?_ ?_)
      | (with_reducible refine LeO.bind ?_ (fun _ => ?_))
      | exact ih0 _ _ _ _ _ _ _ _ _
      | exact impl_Photo_spots.mono _ _ _ _ _ _ _ _ _
      | exact LeO.none _
      | refine LeO.ite ?_ ?_
      | refine LeO.bind ?_ (fun _ => ?_)
theorem impl_Photo_mayBe.mono : ∀ a0 a1 a2 a3 a4 a5 a6 a7 k, LeO (impl_Photo_mayBe.f k a0 a1 a2 a3 a4 a5 a6 a7) (impl_Photo_mayBe.f (k + 1) a0 a1 a2 a3 a4 a5 a6 a7) := by
  intro a0 a1 a2 a3 a4 a5 a6 a7 k
  have ih0 := impl_Photo_mayBe.mono_l k
  unfold impl_Photo_mayBe.f
  repeat' first
      | (with_reducible exact ih0 _ _ _ _ _ _ _ _ _)
      | (with_reducible exact impl_Photo_spots.mono _ _ _ _ _ _ _ _ _)
      | (with_reducible exact LeO.refl _)
      | (with_reducible exact LeO.none _)
      | (with_reducible refine LeO.ite ?_ ?_)
      | (with_reducible refine LeO.bind ?_ (fun _ => ?_))
      | exact ih0 _ _ _ _ _ _ _ _ _
      | exact impl_Photo_spots.mono _ _ _ _ _ _ _ _ _
      | exact LeO.none _
      | refine LeO.ite ?_ ?_
      | refine LeO.bind ?_ (fun _ => ?_)
set_option maxHeartbeats 8000000 in
set_option maxRecDepth 100000 in
theorem impl_Photo_mayBe.calls (k : Nat) (a0_0 : Int) (a0_1 : Int) (a0_2 : Int) (a0_3 : Bool) (a0_4 : Bool) (a0_5 : Int) (A0_6 : Option Addr) (c0_6 : Nat) (l0_6 : List (List Int)) (a1 : Int) (r : Bool) (w : World) (hr0_6 : Kd.C (Kd.slice 3 (Kd.int .i64)) w A0_6 l0_6.length l0_6) (hc0_6 : l0_6.length ≤ c0_6) (h : impl_Photo_mayBe.f k a0_0 a0_1 a0_2 a0_3 a0_4 a0_5 l0_6 a1 = some r) :
    Calls Try.prog 148 #[.agg #[.int .i64 a0_0, .int .i64 a0_1, .int .i64 a0_2, .bool a0_3, .bool a0_4, .int .i64 a0_5, .slice A0_6 l0_6.length c0_6], .int .i64 a1] w fun e w' => e = .returned (.bool r) ∧ Below w.heap.size w w' := by
  have hu114 := Try.underlying114
  have HR0_6 := Aside0.mk hr0_6
  have HC0_6 := Aside0.mk hc0_6
  clear hr0_6 hc0_6
  have HB := Aside0.mk (Below.refl w.heap.size w)
  have H : ((impl_goodSides.f a0_0 a0_1).bind fun t180 => (if t180 = true then (if a0_2 < 1 then (impl_Photo_mayBe.j0 k a1 true a0_0 a0_1 a0_2 a0_3 a0_4 a0_5 l0_6) else (if a0_2 > 100 then (impl_Photo_mayBe.j0 k a1 true a0_0 a0_1 a0_2 a0_3 a0_4 a0_5 l0_6) else (if a0_5 < 0 then (impl_Photo_mayBe.j0 k a1 true a0_0 a0_1 a0_2 a0_3 a0_4 a0_5 l0_6) else (if a0_5 > 1000 then (impl_Photo_mayBe.j0 k a1 true a0_0 a0_1 a0_2 a0_3 a0_4 a0_5 l0_6) else (if a1 = 1 then (if a0_3 = true then (if a1 = 3 then (if a0_4 = true then (impl_Photo_mayBe.j0 k a1 (a0_5 != 0) a0_0 a0_1 a0_2 a0_3 a0_4 a0_5 l0_6) else (impl_Photo_mayBe.j0 k a1 false a0_0 a0_1 a0_2 a0_3 a0_4 a0_5 l0_6)) else (impl_Photo_mayBe.j0 k a1 true a0_0 a0_1 a0_2 a0_3 a0_4 a0_5 l0_6)) else (if a0_4 = true then (impl_Photo_mayBe.j0 k a1 (a0_5 != 0) a0_0 a0_1 a0_2 a0_3 a0_4 a0_5 l0_6) else (impl_Photo_mayBe.j0 k a1 false a0_0 a0_1 a0_2 a0_3 a0_4 a0_5 l0_6))) else (if a1 = 3 then (if a0_3 = true then (if a0_4 = true then (impl_Photo_mayBe.j0 k a1 (a0_5 != 0) a0_0 a0_1 a0_2 a0_3 a0_4 a0_5 l0_6) else (impl_Photo_mayBe.j0 k a1 false a0_0 a0_1 a0_2 a0_3 a0_4 a0_5 l0_6)) else (if a0_4 = true then (impl_Photo_mayBe.j0 k a1 (a0_5 != 0) a0_0 a0_1 a0_2 a0_3 a0_4 a0_5 l0_6) else (impl_Photo_mayBe.j0 k a1 false a0_0 a0_1 a0_2 a0_3 a0_4 a0_5 l0_6))) else (impl_Photo_mayBe.j0 k a1 true a0_0 a0_1 a0_2 a0_3 a0_4 a0_5 l0_6))))))) else (impl_Photo_mayBe.j0 k a1 true a0_0 a0_1 a0_2 a0_3 a0_4 a0_5 l0_6))) = some r := h
  clear h
  have HC3 := Aside0.mk H
  clear H
  go_enter Try.func148, Try.ntmps148
  go_upto_region 1 with (first | ((with_reducible refine gate_dst (N := 2) rfl ?_); refine box_event ?hg (N := 2) ?hd (cs := #[.int .i64 a0_0, .int .i64 a0_1, .int .i64 a0_2, .bool a0_3, .bool a0_4, .int .i64 a0_5, .slice A0_6 l0_6.length c0_6]) (t := 114) ?hr ?_; (case hd => rfl); (case hg => rfl); (case hr => first | (go_simp; done) | (go_simp; rfl)); intro gb179 hg w4 hbox hb; have n0_ := Aside0.mk (below_step (by repeat (first | (with_reducible first | exact HB.out | apply below_alloc | apply pw_below_drewN | apply below_drew1) | exact HB.out)) hb); have n1_ := Aside0.mk (hbox); have n2_ := Aside0.mk ((by rw [hg]; exact (below_size (by repeat (first | (with_reducible first | exact HB.out | apply below_alloc | apply pw_below_drewN | apply below_drew1) | exact HB.out))) : w.heap.size ≤ gb179)); have n3_ := Aside0.mk ((by rw [hg]; exact (below_size (by repeat (first | (with_reducible first | exact HB.out | apply below_alloc | apply pw_below_drewN | apply below_drew1) | exact HB.out))) : w.heap.size ≤ gb179)); clear HB; have HB := n0_; have BK179 := n1_; have GW179 := n2_; have GE179 := n3_; clear n0_ n1_ n2_ n3_; clear hb hbox hg))
  (try simp only [Act.put, List.setIfInBounds_toArray, List.set_cons_zero, List.set_cons_succ])
  go_cut [57] (fun v57 wc => ∃ (kq : Nat) (x57_2 : Bool), v57 = .bool x57_2 ∧ Aside0 (impl_Photo_mayBe.j0 kq a1 x57_2 a0_0 a0_1 a0_2 a0_3 a0_4 a0_5 l0_6 = some r) ∧ Aside0 (kq ≤ k) ∧ Aside0 (wc.heap[gb179]? = some (.cells #[.int .i64 a0_0, .int .i64 a0_1, .int .i64 a0_2, .bool a0_3, .bool a0_4, .int .i64 a0_5, (.slice A0_6 l0_6.length c0_6)] 114 (0, 0))) ∧ Aside0 (Below w.heap.size w wc))
  case first =>
    have H := HC3.out
    clear HC3
    replace H := Option.bind_eq_some_iff.mp H
    obtain ⟨t180, A50, H⟩ := H
    replace H : (if t180 = true then (if a0_2 < 1 then (impl_Photo_mayBe.j0 k a1 true a0_0 a0_1 a0_2 a0_3 a0_4 a0_5 l0_6) else (if a0_2 > 100 then (impl_Photo_mayBe.j0 k a1 true a0_0 a0_1 a0_2 a0_3 a0_4 a0_5 l0_6) else (if a0_5 < 0 then (impl_Photo_mayBe.j0 k a1 true a0_0 a0_1 a0_2 a0_3 a0_4 a0_5 l0_6) else (if a0_5 > 1000 then (impl_Photo_mayBe.j0 k a1 true a0_0 a0_1 a0_2 a0_3 a0_4 a0_5 l0_6) else (if a1 = 1 then (if a0_3 = true then (if a1 = 3 then (if a0_4 = true then (impl_Photo_mayBe.j0 k a1 (a0_5 != 0) a0_0 a0_1 a0_2 a0_3 a0_4 a0_5 l0_6) else (impl_Photo_mayBe.j0 k a1 false a0_0 a0_1 a0_2 a0_3 a0_4 a0_5 l0_6)) else (impl_Photo_mayBe.j0 k a1 true a0_0 a0_1 a0_2 a0_3 a0_4 a0_5 l0_6)) else (if a0_4 = true then (impl_Photo_mayBe.j0 k a1 (a0_5 != 0) a0_0 a0_1 a0_2 a0_3 a0_4 a0_5 l0_6) else (impl_Photo_mayBe.j0 k a1 false a0_0 a0_1 a0_2 a0_3 a0_4 a0_5 l0_6))) else (if a1 = 3 then (if a0_3 = true then (if a0_4 = true then (impl_Photo_mayBe.j0 k a1 (a0_5 != 0) a0_0 a0_1 a0_2 a0_3 a0_4 a0_5 l0_6) else (impl_Photo_mayBe.j0 k a1 false a0_0 a0_1 a0_2 a0_3 a0_4 a0_5 l0_6)) else (if a0_4 = true then (impl_Photo_mayBe.j0 k a1 (a0_5 != 0) a0_0 a0_1 a0_2 a0_3 a0_4 a0_5 l0_6) else (impl_Photo_mayBe.j0 k a1 false a0_0 a0_1 a0_2 a0_3 a0_4 a0_5 l0_6))) else (impl_Photo_mayBe.j0 k a1 true a0_0 a0_1 a0_2 a0_3 a0_4 a0_5 l0_6))))))) else (impl_Photo_mayBe.j0 k a1 true a0_0 a0_1 a0_2 a0_3 a0_4 a0_5 l0_6)) = some r := H
    have A5 := Aside0.mk A50
    clear A50
    by_cases c6 : t180 = true
    · subst c6
      have H1 : (if a0_2 < 1 then (impl_Photo_mayBe.j0 k a1 true a0_0 a0_1 a0_2 a0_3 a0_4 a0_5 l0_6) else (if a0_2 > 100 then (impl_Photo_mayBe.j0 k a1 true a0_0 a0_1 a0_2 a0_3 a0_4 a0_5 l0_6) else (if a0_5 < 0 then (impl_Photo_mayBe.j0 k a1 true a0_0 a0_1 a0_2 a0_3 a0_4 a0_5 l0_6) else (if a0_5 > 1000 then (impl_Photo_mayBe.j0 k a1 true a0_0 a0_1 a0_2 a0_3 a0_4 a0_5 l0_6) else (if a1 = 1 then (if a0_3 = true then (if a1 = 3 then (if a0_4 = true then (impl_Photo_mayBe.j0 k a1 (a0_5 != 0) a0_0 a0_1 a0_2 a0_3 a0_4 a0_5 l0_6) else (impl_Photo_mayBe.j0 k a1 false a0_0 a0_1 a0_2 a0_3 a0_4 a0_5 l0_6)) else (impl_Photo_mayBe.j0 k a1 true a0_0 a0_1 a0_2 a0_3 a0_4 a0_5 l0_6)) else (if a0_4 = true then (impl_Photo_mayBe.j0 k a1 (a0_5 != 0) a0_0 a0_1 a0_2 a0_3 a0_4 a0_5 l0_6) else (impl_Photo_mayBe.j0 k a1 false a0_0 a0_1 a0_2 a0_3 a0_4 a0_5 l0_6))) else (if a1 = 3 then (if a0_3 = true then (if a0_4 = true then (impl_Photo_mayBe.j0 k a1 (a0_5 != 0) a0_0 a0_1 a0_2 a0_3 a0_4 a0_5 l0_6) else (impl_Photo_mayBe.j0 k a1 false a0_0 a0_1 a0_2 a0_3 a0_4 a0_5 l0_6)) else (if a0_4 = true then (impl_Photo_mayBe.j0 k a1 (a0_5 != 0) a0_0 a0_1 a0_2 a0_3 a0_4 a0_5 l0_6) else (impl_Photo_mayBe.j0 k a1 false a0_0 a0_1 a0_2 a0_3 a0_4 a0_5 l0_6))) else (impl_Photo_mayBe.j0 k a1 true a0_0 a0_1 a0_2 a0_3 a0_4 a0_5 l0_6))))))) = some r := by rw [if_pos rfl] at H; exact H
      clear H
      have H := H1
      clear H1
      by_cases c7 : a0_2 < 1
      · rw [if_pos c7] at H
        have c7b0 : decide (a0_2 < 1) = true := decide_eq_true c7
        clear c7
        (first | rw [c7b0] | (simp only [i64_w, i32_w]; rw [c7b0]) | skip)
        have H' := Aside0.mk H
        clear H
        have hcz8_0 : w4.cell? ⟨gb179, 0, none⟩ = some (.int .i64 a0_0) := (blk_cell BK179.out 0).trans rfl
        have hcz8_1 : w4.cell? ⟨gb179, 1, none⟩ = some (.int .i64 a0_1) := (blk_cell BK179.out 1).trans rfl
        have hcz8_2 : w4.cell? ⟨gb179, 2, none⟩ = some (.int .i64 a0_2) := (blk_cell BK179.out 2).trans rfl
        have hcz8_3 : w4.cell? ⟨gb179, 3, none⟩ = some (.bool a0_3) := (blk_cell BK179.out 3).trans rfl
        have hcz8_4 : w4.cell? ⟨gb179, 4, none⟩ = some (.bool a0_4) := (blk_cell BK179.out 4).trans rfl
        have hcz8_5 : w4.cell? ⟨gb179, 5, none⟩ = some (.int .i64 a0_5) := (blk_cell BK179.out 5).trans rfl
        have hcz8_6 : w4.cell? ⟨gb179, 6, none⟩ = some (.slice A0_6 l0_6.length c0_6) := (blk_cell BK179.out 6).trans rfl
        have hfz8_0 := blk_frozen BK179.out 0
        have hfz8_1 := blk_frozen BK179.out 1
        have hfz8_2 := blk_frozen BK179.out 2
        have hfz8_3 := blk_frozen BK179.out 3
        have hfz8_4 := blk_frozen BK179.out 4
        have hfz8_5 := blk_frozen BK179.out 5
        have hfz8_6 := blk_frozen BK179.out 6
        go_wp2_with (first | ((with_reducible refine gate_callee (f := 96) rfl ?_); refine goesL_ (some 11) rfl rfl Try.func96 (by kernel_rfl) rfl #[.int .i64 a0_0, .int .i64 a0_1] rfl (by (try simp only [List.map_toArray, List.map_cons, List.map_nil]); first | done | rfl | (simp only [List.length_drop, List.length_take]; rfl)) ?_; (with_reducible refine (impl_goodSides.calls a0_0 a0_1 true _ A5.out).mono ?_); rintro e w' ⟨rfl, ⟨nd, rfl⟩⟩; refine ⟨_, rfl, ?_⟩))
        go_meet
        case rel => exact ⟨_, (true), (by first | rfl | (simp; done) | (simp [*]; done)), H', ⟨by first | omega | exact Nat.le_refl _⟩, ⟨by (with_reducible repeat (first | refine blk_drewN ?_ _ | refine blk_drew ?_ | refine blk_alloc ?_ _)); exact BK179.out⟩, ⟨by repeat (first | (with_reducible first | exact HB.out | apply below_alloc | apply pw_below_drewN | apply below_drew1 | refine below_set ?_ GE179.out) | exact HB.out)⟩⟩
      · rw [if_neg c7] at H
        have c7b0 : decide (a0_2 < 1) = false := decide_eq_false c7
        clear c7
        (first | rw [c7b0] | (simp only [i64_w, i32_w]; rw [c7b0]) | skip)
        by_cases c9 : a0_2 > 100
        · rw [if_pos c9] at H
          have c9b0 : decide (100 < a0_2) = true := decide_eq_true c9
          clear c9
          have H' := Aside0.mk H
          clear H
          have hcz10_0 : w4.cell? ⟨gb179, 0, none⟩ = some (.int .i64 a0_0) := (blk_cell BK179.out 0).trans rfl
          have hcz10_1 : w4.cell? ⟨gb179, 1, none⟩ = some (.int .i64 a0_1) := (blk_cell BK179.out 1).trans rfl
          have hcz10_2 : w4.cell? ⟨gb179, 2, none⟩ = some (.int .i64 a0_2) := (blk_cell BK179.out 2).trans rfl
          have hcz10_3 : w4.cell? ⟨gb179, 3, none⟩ = some (.bool a0_3) := (blk_cell BK179.out 3).trans rfl
          have hcz10_4 : w4.cell? ⟨gb179, 4, none⟩ = some (.bool a0_4) := (blk_cell BK179.out 4).trans rfl
          have hcz10_5 : w4.cell? ⟨gb179, 5, none⟩ = some (.int .i64 a0_5) := (blk_cell BK179.out 5).trans rfl
          have hcz10_6 : w4.cell? ⟨gb179, 6, none⟩ = some (.slice A0_6 l0_6.length c0_6) := (blk_cell BK179.out 6).trans rfl
          have hfz10_0 := blk_frozen BK179.out 0
          have hfz10_1 := blk_frozen BK179.out 1
          have hfz10_2 := blk_frozen BK179.out 2
          have hfz10_3 := blk_frozen BK179.out 3
          have hfz10_4 := blk_frozen BK179.out 4
          have hfz10_5 := blk_frozen BK179.out 5
          have hfz10_6 := blk_frozen BK179.out 6
          go_wp2_with (first | ((with_reducible refine gate_callee (f := 96) rfl ?_); refine goesL_ (some 11) rfl rfl Try.func96 (by kernel_rfl) rfl #[.int .i64 a0_0, .int .i64 a0_1] rfl (by (try simp only [List.map_toArray, List.map_cons, List.map_nil]); first | done | rfl | (simp only [List.length_drop, List.length_take]; rfl)) ?_; (with_reducible refine (impl_goodSides.calls a0_0 a0_1 true _ A5.out).mono ?_); rintro e w' ⟨rfl, ⟨nd, rfl⟩⟩; refine ⟨_, rfl, ?_⟩))
          go_meet
          case rel => exact ⟨_, (true), (by first | rfl | (simp; done) | (simp [*]; done)), H', ⟨by first | omega | exact Nat.le_refl _⟩, ⟨by (with_reducible repeat (first | refine blk_drewN ?_ _ | refine blk_drew ?_ | refine blk_alloc ?_ _)); exact BK179.out⟩, ⟨by repeat (first | (with_reducible first | exact HB.out | apply below_alloc | apply pw_below_drewN | apply below_drew1 | refine below_set ?_ GE179.out) | exact HB.out)⟩⟩
        · rw [if_neg c9] at H
          have c9b0 : decide (100 < a0_2) = false := decide_eq_false c9
          clear c9
          by_cases c11 : a0_5 < 0
          · rw [if_pos c11] at H
            have c11b0 : decide (a0_5 < 0) = true := decide_eq_true c11
            clear c11
            have H' := Aside0.mk H
            clear H
            have hcz12_0 : w4.cell? ⟨gb179, 0, none⟩ = some (.int .i64 a0_0) := (blk_cell BK179.out 0).trans rfl
            have hcz12_1 : w4.cell? ⟨gb179, 1, none⟩ = some (.int .i64 a0_1) := (blk_cell BK179.out 1).trans rfl
            have hcz12_2 : w4.cell? ⟨gb179, 2, none⟩ = some (.int .i64 a0_2) := (blk_cell BK179.out 2).trans rfl
            have hcz12_3 : w4.cell? ⟨gb179, 3, none⟩ = some (.bool a0_3) := (blk_cell BK179.out 3).trans rfl
            have hcz12_4 : w4.cell? ⟨gb179, 4, none⟩ = some (.bool a0_4) := (blk_cell BK179.out 4).trans rfl
            have hcz12_5 : w4.cell? ⟨gb179, 5, none⟩ = some (.int .i64 a0_5) := (blk_cell BK179.out 5).trans rfl
            have hcz12_6 : w4.cell? ⟨gb179, 6, none⟩ = some (.slice A0_6 l0_6.length c0_6) := (blk_cell BK179.out 6).trans rfl
            have hfz12_0 := blk_frozen BK179.out 0
            have hfz12_1 := blk_frozen BK179.out 1
            have hfz12_2 := blk_frozen BK179.out 2
            have hfz12_3 := blk_frozen BK179.out 3
            have hfz12_4 := blk_frozen BK179.out 4
            have hfz12_5 := blk_frozen BK179.out 5
            have hfz12_6 := blk_frozen BK179.out 6
            go_wp2_with (first | ((with_reducible refine gate_callee (f := 96) rfl ?_); refine goesL_ (some 11) rfl rfl Try.func96 (by kernel_rfl) rfl #[.int .i64 a0_0, .int .i64 a0_1] rfl (by (try simp only [List.map_toArray, List.map_cons, List.map_nil]); first | done | rfl | (simp only [List.length_drop, List.length_take]; rfl)) ?_; (with_reducible refine (impl_goodSides.calls a0_0 a0_1 true _ A5.out).mono ?_); rintro e w' ⟨rfl, ⟨nd, rfl⟩⟩; refine ⟨_, rfl, ?_⟩))
            go_meet
            case rel => exact ⟨_, (true), (by first | rfl | (simp; done) | (simp [*]; done)), H', ⟨by first | omega | exact Nat.le_refl _⟩, ⟨by (with_reducible repeat (first | refine blk_drewN ?_ _ | refine blk_drew ?_ | refine blk_alloc ?_ _)); exact BK179.out⟩, ⟨by repeat (first | (with_reducible first | exact HB.out | apply below_alloc | apply pw_below_drewN | apply below_drew1 | refine below_set ?_ GE179.out) | exact HB.out)⟩⟩
          · rw [if_neg c11] at H
            have c11b0 : decide (a0_5 < 0) = false := decide_eq_false c11
            clear c11
            by_cases c13 : a0_5 > 1000
            · rw [if_pos c13] at H
              have c13b0 : decide (1000 < a0_5) = true := decide_eq_true c13
              clear c13
              have H' := Aside0.mk H
              clear H
              have hcz14_0 : w4.cell? ⟨gb179, 0, none⟩ = some (.int .i64 a0_0) := (blk_cell BK179.out 0).trans rfl
              have hcz14_1 : w4.cell? ⟨gb179, 1, none⟩ = some (.int .i64 a0_1) := (blk_cell BK179.out 1).trans rfl
              have hcz14_2 : w4.cell? ⟨gb179, 2, none⟩ = some (.int .i64 a0_2) := (blk_cell BK179.out 2).trans rfl
              have hcz14_3 : w4.cell? ⟨gb179, 3, none⟩ = some (.bool a0_3) := (blk_cell BK179.out 3).trans rfl
              have hcz14_4 : w4.cell? ⟨gb179, 4, none⟩ = some (.bool a0_4) := (blk_cell BK179.out 4).trans rfl
              have hcz14_5 : w4.cell? ⟨gb179, 5, none⟩ = some (.int .i64 a0_5) := (blk_cell BK179.out 5).trans rfl
              have hcz14_6 : w4.cell? ⟨gb179, 6, none⟩ = some (.slice A0_6 l0_6.length c0_6) := (blk_cell BK179.out 6).trans rfl
              have hfz14_0 := blk_frozen BK179.out 0
              have hfz14_1 := blk_frozen BK179.out 1
              have hfz14_2 := blk_frozen BK179.out 2
              have hfz14_3 := blk_frozen BK179.out 3
              have hfz14_4 := blk_frozen BK179.out 4
              have hfz14_5 := blk_frozen BK179.out 5
              have hfz14_6 := blk_frozen BK179.out 6
              go_wp2_with (first | ((with_reducible refine gate_callee (f := 96) rfl ?_); refine goesL_ (some 11) rfl rfl Try.func96 (by kernel_rfl) rfl #[.int .i64 a0_0, .int .i64 a0_1] rfl (by (try simp only [List.map_toArray, List.map_cons, List.map_nil]); first | done | rfl | (simp only [List.length_drop, List.length_take]; rfl)) ?_; (with_reducible refine (impl_goodSides.calls a0_0 a0_1 true _ A5.out).mono ?_); rintro e w' ⟨rfl, ⟨nd, rfl⟩⟩; refine ⟨_, rfl, ?_⟩))
              go_meet
              case rel => exact ⟨_, (true), (by first | rfl | (simp; done) | (simp [*]; done)), H', ⟨by first | omega | exact Nat.le_refl _⟩, ⟨by (with_reducible repeat (first | refine blk_drewN ?_ _ | refine blk_drew ?_ | refine blk_alloc ?_ _)); exact BK179.out⟩, ⟨by repeat (first | (with_reducible first | exact HB.out | apply below_alloc | apply pw_below_drewN | apply below_drew1 | refine below_set ?_ GE179.out) | exact HB.out)⟩⟩
            · rw [if_neg c13] at H
              have c13b0 : decide (1000 < a0_5) = false := decide_eq_false c13
              clear c13
              by_cases c15 : a1 = 1
              · rw [if_pos c15] at H
                have c15b0 : (a1 == 1) = true := beq_iff_eq.mpr c15
                have c15b1 : (a1 != 1) = false := bne_eq_false_iff_eq.mpr c15
                clear c15
                by_cases c16 : a0_3 = true
                · subst c16
                  have H1 : (if a1 = 3 then (if a0_4 = true then (impl_Photo_mayBe.j0 k a1 (a0_5 != 0) a0_0 a0_1 a0_2 true a0_4 a0_5 l0_6) else (impl_Photo_mayBe.j0 k a1 false a0_0 a0_1 a0_2 true a0_4 a0_5 l0_6)) else (impl_Photo_mayBe.j0 k a1 true a0_0 a0_1 a0_2 true a0_4 a0_5 l0_6)) = some r := by rw [if_pos rfl] at H; exact H
                  clear H
                  have H := H1
                  clear H1
                  by_cases c17 : a1 = 3
                  · rw [if_pos c17] at H
                    have c17b0 : (a1 == 3) = true := beq_iff_eq.mpr c17
                    have c17b1 : (a1 != 3) = false := bne_eq_false_iff_eq.mpr c17
                    clear c17
                    by_cases c18 : a0_4 = true
                    · subst c18
                      have H1 : (impl_Photo_mayBe.j0 k a1 (a0_5 != 0) a0_0 a0_1 a0_2 true true a0_5 l0_6) = some r := by rw [if_pos rfl] at H; exact H
                      clear H
                      have H := H1
                      clear H1
                      have H' := Aside0.mk H
                      clear H
                      have hcz19_0 : w4.cell? ⟨gb179, 0, none⟩ = some (.int .i64 a0_0) := (blk_cell BK179.out 0).trans rfl
                      have hcz19_1 : w4.cell? ⟨gb179, 1, none⟩ = some (.int .i64 a0_1) := (blk_cell BK179.out 1).trans rfl
                      have hcz19_2 : w4.cell? ⟨gb179, 2, none⟩ = some (.int .i64 a0_2) := (blk_cell BK179.out 2).trans rfl
                      have hcz19_3 : w4.cell? ⟨gb179, 3, none⟩ = some (.bool true) := (blk_cell BK179.out 3).trans rfl
                      have hcz19_4 : w4.cell? ⟨gb179, 4, none⟩ = some (.bool true) := (blk_cell BK179.out 4).trans rfl
                      have hcz19_5 : w4.cell? ⟨gb179, 5, none⟩ = some (.int .i64 a0_5) := (blk_cell BK179.out 5).trans rfl
                      have hcz19_6 : w4.cell? ⟨gb179, 6, none⟩ = some (.slice A0_6 l0_6.length c0_6) := (blk_cell BK179.out 6).trans rfl
                      have hfz19_0 := blk_frozen BK179.out 0
                      have hfz19_1 := blk_frozen BK179.out 1
                      have hfz19_2 := blk_frozen BK179.out 2
                      have hfz19_3 := blk_frozen BK179.out 3
                      have hfz19_4 := blk_frozen BK179.out 4
                      have hfz19_5 := blk_frozen BK179.out 5
                      have hfz19_6 := blk_frozen BK179.out 6
                      go_wp2_with (first | ((with_reducible refine gate_callee (f := 96) rfl ?_); refine goesL_ (some 11) rfl rfl Try.func96 (by kernel_rfl) rfl #[.int .i64 a0_0, .int .i64 a0_1] rfl (by (try simp only [List.map_toArray, List.map_cons, List.map_nil]); first | done | rfl | (simp only [List.length_drop, List.length_take]; rfl)) ?_; (with_reducible refine (impl_goodSides.calls a0_0 a0_1 true _ A5.out).mono ?_); rintro e w' ⟨rfl, ⟨nd, rfl⟩⟩; refine ⟨_, rfl, ?_⟩))
                      go_meet
                      case rel => exact ⟨_, ((a0_5 != 0)), (by first | rfl | (simp; done) | (simp [*]; done)), H', ⟨by first | omega | exact Nat.le_refl _⟩, ⟨by (with_reducible repeat (first | refine blk_drewN ?_ _ | refine blk_drew ?_ | refine blk_alloc ?_ _)); exact BK179.out⟩, ⟨by repeat (first | (with_reducible first | exact HB.out | apply below_alloc | apply pw_below_drewN | apply below_drew1 | refine below_set ?_ GE179.out) | exact HB.out)⟩⟩
                    · replace c18 := Bool.eq_false_iff.mpr c18
                      subst c18
                      have H1 : (impl_Photo_mayBe.j0 k a1 false a0_0 a0_1 a0_2 true false a0_5 l0_6) = some r := by rw [if_neg (show ¬ (false = true) by decide)] at H; exact H
                      clear H
                      have H := H1
                      clear H1
                      have H' := Aside0.mk H
                      clear H
                      have hcz20_0 : w4.cell? ⟨gb179, 0, none⟩ = some (.int .i64 a0_0) := (blk_cell BK179.out 0).trans rfl
                      have hcz20_1 : w4.cell? ⟨gb179, 1, none⟩ = some (.int .i64 a0_1) := (blk_cell BK179.out 1).trans rfl
                      have hcz20_2 : w4.cell? ⟨gb179, 2, none⟩ = some (.int .i64 a0_2) := (blk_cell BK179.out 2).trans rfl
                      have hcz20_3 : w4.cell? ⟨gb179, 3, none⟩ = some (.bool true) := (blk_cell BK179.out 3).trans rfl
                      have hcz20_4 : w4.cell? ⟨gb179, 4, none⟩ = some (.bool false) := (blk_cell BK179.out 4).trans rfl
                      have hcz20_5 : w4.cell? ⟨gb179, 5, none⟩ = some (.int .i64 a0_5) := (blk_cell BK179.out 5).trans rfl
                      have hcz20_6 : w4.cell? ⟨gb179, 6, none⟩ = some (.slice A0_6 l0_6.length c0_6) := (blk_cell BK179.out 6).trans rfl
                      have hfz20_0 := blk_frozen BK179.out 0
                      have hfz20_1 := blk_frozen BK179.out 1
                      have hfz20_2 := blk_frozen BK179.out 2
                      have hfz20_3 := blk_frozen BK179.out 3
                      have hfz20_4 := blk_frozen BK179.out 4
                      have hfz20_5 := blk_frozen BK179.out 5
                      have hfz20_6 := blk_frozen BK179.out 6
                      go_wp2_with (first | ((with_reducible refine gate_callee (f := 96) rfl ?_); refine goesL_ (some 11) rfl rfl Try.func96 (by kernel_rfl) rfl #[.int .i64 a0_0, .int .i64 a0_1] rfl (by (try simp only [List.map_toArray, List.map_cons, List.map_nil]); first | done | rfl | (simp only [List.length_drop, List.length_take]; rfl)) ?_; (with_reducible refine (impl_goodSides.calls a0_0 a0_1 true _ A5.out).mono ?_); rintro e w' ⟨rfl, ⟨nd, rfl⟩⟩; refine ⟨_, rfl, ?_⟩))
                      go_meet
                      case rel => exact ⟨_, (false), (by first | rfl | (simp; done) | (simp [*]; done)), H', ⟨by first | omega | exact Nat.le_refl _⟩, ⟨by (with_reducible repeat (first | refine blk_drewN ?_ _ | refine blk_drew ?_ | refine blk_alloc ?_ _)); exact BK179.out⟩, ⟨by repeat (first | (with_reducible first | exact HB.out | apply below_alloc | apply pw_below_drewN | apply below_drew1 | refine below_set ?_ GE179.out) | exact HB.out)⟩⟩
                  · rw [if_neg c17] at H
                    have c17b0 : (a1 == 3) = false := beq_eq_false_iff_ne.mpr c17
                    have c17b1 : (a1 != 3) = true := bne_iff_ne.mpr c17
                    have H' := Aside0.mk H
                    clear H
                    have hcz21_0 : w4.cell? ⟨gb179, 0, none⟩ = some (.int .i64 a0_0) := (blk_cell BK179.out 0).trans rfl
                    have hcz21_1 : w4.cell? ⟨gb179, 1, none⟩ = some (.int .i64 a0_1) := (blk_cell BK179.out 1).trans rfl
                    have hcz21_2 : w4.cell? ⟨gb179, 2, none⟩ = some (.int .i64 a0_2) := (blk_cell BK179.out 2).trans rfl
                    have hcz21_3 : w4.cell? ⟨gb179, 3, none⟩ = some (.bool true) := (blk_cell BK179.out 3).trans rfl
                    have hcz21_4 : w4.cell? ⟨gb179, 4, none⟩ = some (.bool a0_4) := (blk_cell BK179.out 4).trans rfl
                    have hcz21_5 : w4.cell? ⟨gb179, 5, none⟩ = some (.int .i64 a0_5) := (blk_cell BK179.out 5).trans rfl
                    have hcz21_6 : w4.cell? ⟨gb179, 6, none⟩ = some (.slice A0_6 l0_6.length c0_6) := (blk_cell BK179.out 6).trans rfl
                    have hfz21_0 := blk_frozen BK179.out 0
                    have hfz21_1 := blk_frozen BK179.out 1
                    have hfz21_2 := blk_frozen BK179.out 2
                    have hfz21_3 := blk_frozen BK179.out 3
                    have hfz21_4 := blk_frozen BK179.out 4
                    have hfz21_5 := blk_frozen BK179.out 5
                    have hfz21_6 := blk_frozen BK179.out 6
                    go_wp2_with (first | ((with_reducible refine gate_callee (f := 96) rfl ?_); refine goesL_ (some 11) rfl rfl Try.func96 (by kernel_rfl) rfl #[.int .i64 a0_0, .int .i64 a0_1] rfl (by (try simp only [List.map_toArray, List.map_cons, List.map_nil]); first | done | rfl | (simp only [List.length_drop, List.length_take]; rfl)) ?_; (with_reducible refine (impl_goodSides.calls a0_0 a0_1 true _ A5.out).mono ?_); rintro e w' ⟨rfl, ⟨nd, rfl⟩⟩; refine ⟨_, rfl, ?_⟩))
                    go_meet
                    case rel => exact ⟨_, (true), (by first | rfl | (simp; done) | (simp [*]; done)), H', ⟨by first | omega | exact Nat.le_refl _⟩, ⟨by (with_reducible repeat (first | refine blk_drewN ?_ _ | refine blk_drew ?_ | refine blk_alloc ?_ _)); exact BK179.out⟩, ⟨by repeat (first | (with_reducible first | exact HB.out | apply below_alloc | apply pw_below_drewN | apply below_drew1 | refine below_set ?_ GE179.out) | exact HB.out)⟩⟩
                · replace c16 := Bool.eq_false_iff.mpr c16
                  subst c16
                  have H1 : (if a0_4 = true then (impl_Photo_mayBe.j0 k a1 (a0_5 != 0) a0_0 a0_1 a0_2 false a0_4 a0_5 l0_6) else (impl_Photo_mayBe.j0 k a1 false a0_0 a0_1 a0_2 false a0_4 a0_5 l0_6)) = some r := by rw [if_neg (show ¬ (false = true) by decide)] at H; exact H
                  clear H
                  have H := H1
                  clear H1
                  by_cases c22 : a0_4 = true
                  · subst c22
                    have H1 : (impl_Photo_mayBe.j0 k a1 (a0_5 != 0) a0_0 a0_1 a0_2 false true a0_5 l0_6) = some r := by rw [if_pos rfl] at H; exact H
                    clear H
                    have H := H1
                    clear H1
                    have H' := Aside0.mk H
                    clear H
                    have hcz23_0 : w4.cell? ⟨gb179, 0, none⟩ = some (.int .i64 a0_0) := (blk_cell BK179.out 0).trans rfl
                    have hcz23_1 : w4.cell? ⟨gb179, 1, none⟩ = some (.int .i64 a0_1) := (blk_cell BK179.out 1).trans rfl
                    have hcz23_2 : w4.cell? ⟨gb179, 2, none⟩ = some (.int .i64 a0_2) := (blk_cell BK179.out 2).trans rfl
                    have hcz23_3 : w4.cell? ⟨gb179, 3, none⟩ = some (.bool false) := (blk_cell BK179.out 3).trans rfl
                    have hcz23_4 : w4.cell? ⟨gb179, 4, none⟩ = some (.bool true) := (blk_cell BK179.out 4).trans rfl
                    have hcz23_5 : w4.cell? ⟨gb179, 5, none⟩ = some (.int .i64 a0_5) := (blk_cell BK179.out 5).trans rfl
                    have hcz23_6 : w4.cell? ⟨gb179, 6, none⟩ = some (.slice A0_6 l0_6.length c0_6) := (blk_cell BK179.out 6).trans rfl
                    have hfz23_0 := blk_frozen BK179.out 0
                    have hfz23_1 := blk_frozen BK179.out 1
                    have hfz23_2 := blk_frozen BK179.out 2
                    have hfz23_3 := blk_frozen BK179.out 3
                    have hfz23_4 := blk_frozen BK179.out 4
                    have hfz23_5 := blk_frozen BK179.out 5
                    have hfz23_6 := blk_frozen BK179.out 6
                    go_wp2_with (first | ((with_reducible refine gate_callee (f := 96) rfl ?_); refine goesL_ (some 11) rfl rfl Try.func96 (by kernel_rfl) rfl #[.int .i64 a0_0, .int .i64 a0_1] rfl (by (try simp only [List.map_toArray, List.map_cons, List.map_nil]); first | done | rfl | (simp only [List.length_drop, List.length_take]; rfl)) ?_; (with_reducible refine (impl_goodSides.calls a0_0 a0_1 true _ A5.out).mono ?_); rintro e w' ⟨rfl, ⟨nd, rfl⟩⟩; refine ⟨_, rfl, ?_⟩))
                    go_meet
                    case rel => exact ⟨_, ((a0_5 != 0)), (by first | rfl | (simp; done) | (simp [*]; done)), H', ⟨by first | omega | exact Nat.le_refl _⟩, ⟨by (with_reducible repeat (first | refine blk_drewN ?_ _ | refine blk_drew ?_ | refine blk_alloc ?_ _)); exact BK179.out⟩, ⟨by repeat (first | (with_reducible first | exact HB.out | apply below_alloc | apply pw_below_drewN | apply below_drew1 | refine below_set ?_ GE179.out) | exact HB.out)⟩⟩
                  · replace c22 := Bool.eq_false_iff.mpr c22
                    subst c22
                    have H1 : (impl_Photo_mayBe.j0 k a1 false a0_0 a0_1 a0_2 false false a0_5 l0_6) = some r := by rw [if_neg (show ¬ (false = true) by decide)] at H; exact H
                    clear H
                    have H := H1
                    clear H1
                    have H' := Aside0.mk H
                    clear H
                    have hcz24_0 : w4.cell? ⟨gb179, 0, none⟩ = some (.int .i64 a0_0) := (blk_cell BK179.out 0).trans rfl
                    have hcz24_1 : w4.cell? ⟨gb179, 1, none⟩ = some (.int .i64 a0_1) := (blk_cell BK179.out 1).trans rfl
                    have hcz24_2 : w4.cell? ⟨gb179, 2, none⟩ = some (.int .i64 a0_2) := (blk_cell BK179.out 2).trans rfl
                    have hcz24_3 : w4.cell? ⟨gb179, 3, none⟩ = some (.bool false) := (blk_cell BK179.out 3).trans rfl
                    have hcz24_4 : w4.cell? ⟨gb179, 4, none⟩ = some (.bool false) := (blk_cell BK179.out 4).trans rfl
                    have hcz24_5 : w4.cell? ⟨gb179, 5, none⟩ = some (.int .i64 a0_5) := (blk_cell BK179.out 5).trans rfl
                    have hcz24_6 : w4.cell? ⟨gb179, 6, none⟩ = some (.slice A0_6 l0_6.length c0_6) := (blk_cell BK179.out 6).trans rfl
                    have hfz24_0 := blk_frozen BK179.out 0
                    have hfz24_1 := blk_frozen BK179.out 1
                    have hfz24_2 := blk_frozen BK179.out 2
                    have hfz24_3 := blk_frozen BK179.out 3
                    have hfz24_4 := blk_frozen BK179.out 4
                    have hfz24_5 := blk_frozen BK179.out 5
                    have hfz24_6 := blk_frozen BK179.out 6
                    go_wp2_with (first | ((with_reducible refine gate_callee (f := 96) rfl ?_); refine goesL_ (some 11) rfl rfl Try.func96 (by kernel_rfl) rfl #[.int .i64 a0_0, .int .i64 a0_1] rfl (by (try simp only [List.map_toArray, List.map_cons, List.map_nil]); first | done | rfl | (simp only [List.length_drop, List.length_take]; rfl)) ?_; (with_reducible refine (impl_goodSides.calls a0_0 a0_1 true _ A5.out).mono ?_); rintro e w' ⟨rfl, ⟨nd, rfl⟩⟩; refine ⟨_, rfl, ?_⟩))
                    go_meet
                    case rel => exact ⟨_, (false), (by first | rfl | (simp; done) | (simp [*]; done)), H', ⟨by first | omega | exact Nat.le_refl _⟩, ⟨by (with_reducible repeat (first | refine blk_drewN ?_ _ | refine blk_drew ?_ | refine blk_alloc ?_ _)); exact BK179.out⟩, ⟨by repeat (first | (with_reducible first | exact HB.out | apply below_alloc | apply pw_below_drewN | apply below_drew1 | refine below_set ?_ GE179.out) | exact HB.out)⟩⟩
              · rw [if_neg c15] at H
                have c15b0 : (a1 == 1) = false := beq_eq_false_iff_ne.mpr c15
                have c15b1 : (a1 != 1) = true := bne_iff_ne.mpr c15
                by_cases c25 : a1 = 3
                · rw [if_pos c25] at H
                  have c25b0 : (a1 == 3) = true := beq_iff_eq.mpr c25
                  have c25b1 : (a1 != 3) = false := bne_eq_false_iff_eq.mpr c25
                  clear c25
                  by_cases c26 : a0_3 = true
                  · subst c26
                    have H1 : (if a0_4 = true then (impl_Photo_mayBe.j0 k a1 (a0_5 != 0) a0_0 a0_1 a0_2 true a0_4 a0_5 l0_6) else (impl_Photo_mayBe.j0 k a1 false a0_0 a0_1 a0_2 true a0_4 a0_5 l0_6)) = some r := by rw [if_pos rfl] at H; exact H
                    clear H
                    have H := H1
                    clear H1
                    by_cases c27 : a0_4 = true
                    · subst c27
                      have H1 : (impl_Photo_mayBe.j0 k a1 (a0_5 != 0) a0_0 a0_1 a0_2 true true a0_5 l0_6) = some r := by rw [if_pos rfl] at H; exact H
                      clear H
                      have H := H1
                      clear H1
                      have H' := Aside0.mk H
                      clear H
                      have hcz28_0 : w4.cell? ⟨gb179, 0, none⟩ = some (.int .i64 a0_0) := (blk_cell BK179.out 0).trans rfl
                      have hcz28_1 : w4.cell? ⟨gb179, 1, none⟩ = some (.int .i64 a0_1) := (blk_cell BK179.out 1).trans rfl
                      have hcz28_2 : w4.cell? ⟨gb179, 2, none⟩ = some (.int .i64 a0_2) := (blk_cell BK179.out 2).trans rfl
                      have hcz28_3 : w4.cell? ⟨gb179, 3, none⟩ = some (.bool true) := (blk_cell BK179.out 3).trans rfl
                      have hcz28_4 : w4.cell? ⟨gb179, 4, none⟩ = some (.bool true) := (blk_cell BK179.out 4).trans rfl
                      have hcz28_5 : w4.cell? ⟨gb179, 5, none⟩ = some (.int .i64 a0_5) := (blk_cell BK179.out 5).trans rfl
                      have hcz28_6 : w4.cell? ⟨gb179, 6, none⟩ = some (.slice A0_6 l0_6.length c0_6) := (blk_cell BK179.out 6).trans rfl
                      have hfz28_0 := blk_frozen BK179.out 0
                      have hfz28_1 := blk_frozen BK179.out 1
                      have hfz28_2 := blk_frozen BK179.out 2
                      have hfz28_3 := blk_frozen BK179.out 3
                      have hfz28_4 := blk_frozen BK179.out 4
                      have hfz28_5 := blk_frozen BK179.out 5
                      have hfz28_6 := blk_frozen BK179.out 6
                      go_wp2_with (first | ((with_reducible refine gate_callee (f := 96) rfl ?_); refine goesL_ (some 11) rfl rfl Try.func96 (by kernel_rfl) rfl #[.int .i64 a0_0, .int .i64 a0_1] rfl (by (try simp only [List.map_toArray, List.map_cons, List.map_nil]); first | done | rfl | (simp only [List.length_drop, List.length_take]; rfl)) ?_; (with_reducible refine (impl_goodSides.calls a0_0 a0_1 true _ A5.out).mono ?_); rintro e w' ⟨rfl, ⟨nd, rfl⟩⟩; refine ⟨_, rfl, ?_⟩))
                      go_meet
                      case rel => exact ⟨_, ((a0_5 != 0)), (by first | rfl | (simp; done) | (simp [*]; done)), H', ⟨by first | omega | exact Nat.le_refl _⟩, ⟨by (with_reducible repeat (first | refine blk_drewN ?_ _ | refine blk_drew ?_ | refine blk_alloc ?_ _)); exact BK179.out⟩, ⟨by repeat (first | (with_reducible first | exact HB.out | apply below_alloc | apply pw_below_drewN | apply below_drew1 | refine below_set ?_ GE179.out) | exact HB.out)⟩⟩
                    · replace c27 := Bool.eq_false_iff.mpr c27
                      subst c27
                      have H1 : (impl_Photo_mayBe.j0 k a1 false a0_0 a0_1 a0_2 true false a0_5 l0_6) = some r := by rw [if_neg (show ¬ (false = true) by decide)] at H; exact H
                      clear H
                      have H := H1
                      clear H1
                      have H' := Aside0.mk H
                      clear H
                      have hcz29_0 : w4.cell? ⟨gb179, 0, none⟩ = some (.int .i64 a0_0) := (blk_cell BK179.out 0).trans rfl
                      have hcz29_1 : w4.cell? ⟨gb179, 1, none⟩ = some (.int .i64 a0_1) := (blk_cell BK179.out 1).trans rfl
                      have hcz29_2 : w4.cell? ⟨gb179, 2, none⟩ = some (.int .i64 a0_2) := (blk_cell BK179.out 2).trans rfl
                      have hcz29_3 : w4.cell? ⟨gb179, 3, none⟩ = some (.bool true) := (blk_cell BK179.out 3).trans rfl
                      have hcz29_4 : w4.cell? ⟨gb179, 4, none⟩ = some (.bool false) := (blk_cell BK179.out 4).trans rfl
                      have hcz29_5 : w4.cell? ⟨gb179, 5, none⟩ = some (.int .i64 a0_5) := (blk_cell BK179.out 5).trans rfl
                      have hcz29_6 : w4.cell? ⟨gb179, 6, none⟩ = some (.slice A0_6 l0_6.length c0_6) := (blk_cell BK179.out 6).trans rfl
                      have hfz29_0 := blk_frozen BK179.out 0
                      have hfz29_1 := blk_frozen BK179.out 1
                      have hfz29_2 := blk_frozen BK179.out 2
                      have hfz29_3 := blk_frozen BK179.out 3
                      have hfz29_4 := blk_frozen BK179.out 4
                      have hfz29_5 := blk_frozen BK179.out 5
                      have hfz29_6 := blk_frozen BK179.out 6
                      go_wp2_with (first | ((with_reducible refine gate_callee (f := 96) rfl ?_); refine goesL_ (some 11) rfl rfl Try.func96 (by kernel_rfl) rfl #[.int .i64 a0_0, .int .i64 a0_1] rfl (by (try simp only [List.map_toArray, List.map_cons, List.map_nil]); first | done | rfl | (simp only [List.length_drop, List.length_take]; rfl)) ?_; (with_reducible refine (impl_goodSides.calls a0_0 a0_1 true _ A5.out).mono ?_); rintro e w' ⟨rfl, ⟨nd, rfl⟩⟩; refine ⟨_, rfl, ?_⟩))
                      go_meet
                      case rel => exact ⟨_, (false), (by first | rfl | (simp; done) | (simp [*]; done)), H', ⟨by first | omega | exact Nat.le_refl _⟩, ⟨by (with_reducible repeat (first | refine blk_drewN ?_ _ | refine blk_drew ?_ | refine blk_alloc ?_ _)); exact BK179.out⟩, ⟨by repeat (first | (with_reducible first | exact HB.out | apply below_alloc | apply pw_below_drewN | apply below_drew1 | refine below_set ?_ GE179.out) | exact HB.out)⟩⟩
                  · replace c26 := Bool.eq_false_iff.mpr c26
                    subst c26
                    have H1 : (if a0_4 = true then (impl_Photo_mayBe.j0 k a1 (a0_5 != 0) a0_0 a0_1 a0_2 false a0_4 a0_5 l0_6) else (impl_Photo_mayBe.j0 k a1 false a0_0 a0_1 a0_2 false a0_4 a0_5 l0_6)) = some r := by rw [if_neg (show ¬ (false = true) by decide)] at H; exact H
                    clear H
                    have H := H1
                    clear H1
                    by_cases c30 : a0_4 = true
                    · subst c30
                      have H1 : (impl_Photo_mayBe.j0 k a1 (a0_5 != 0) a0_0 a0_1 a0_2 false true a0_5 l0_6) = some r := by rw [if_pos rfl] at H; exact H
                      clear H
                      have H := H1
                      clear H1
                      have H' := Aside0.mk H
                      clear H
                      have hcz31_0 : w4.cell? ⟨gb179, 0, none⟩ = some (.int .i64 a0_0) := (blk_cell BK179.out 0).trans rfl
                      have hcz31_1 : w4.cell? ⟨gb179, 1, none⟩ = some (.int .i64 a0_1) := (blk_cell BK179.out 1).trans rfl
                      have hcz31_2 : w4.cell? ⟨gb179, 2, none⟩ = some (.int .i64 a0_2) := (blk_cell BK179.out 2).trans rfl
                      have hcz31_3 : w4.cell? ⟨gb179, 3, none⟩ = some (.bool false) := (blk_cell BK179.out 3).trans rfl
                      have hcz31_4 : w4.cell? ⟨gb179, 4, none⟩ = some (.bool true) := (blk_cell BK179.out 4).trans rfl
                      have hcz31_5 : w4.cell? ⟨gb179, 5, none⟩ = some (.int .i64 a0_5) := (blk_cell BK179.out 5).trans rfl
                      have hcz31_6 : w4.cell? ⟨gb179, 6, none⟩ = some (.slice A0_6 l0_6.length c0_6) := (blk_cell BK179.out 6).trans rfl
                      have hfz31_0 := blk_frozen BK179.out 0
                      have hfz31_1 := blk_frozen BK179.out 1
                      have hfz31_2 := blk_frozen BK179.out 2
                      have hfz31_3 := blk_frozen BK179.out 3
                      have hfz31_4 := blk_frozen BK179.out 4
                      have hfz31_5 := blk_frozen BK179.out 5
                      have hfz31_6 := blk_frozen BK179.out 6
                      go_wp2_with (first | ((with_reducible refine gate_callee (f := 96) rfl ?_); refine goesL_ (some 11) rfl rfl Try.func96 (by kernel_rfl) rfl #[.int .i64 a0_0, .int .i64 a0_1] rfl (by (try simp only [List.map_toArray, List.map_cons, List.map_nil]); first | done | rfl | (simp only [List.length_drop, List.length_take]; rfl)) ?_; (with_reducible refine (impl_goodSides.calls a0_0 a0_1 true _ A5.out).mono ?_); rintro e w' ⟨rfl, ⟨nd, rfl⟩⟩; refine ⟨_, rfl, ?_⟩))
                      go_meet
                      case rel => exact ⟨_, ((a0_5 != 0)), (by first | rfl | (simp; done) | (simp [*]; done)), H', ⟨by first | omega | exact Nat.le_refl _⟩, ⟨by (with_reducible repeat (first | refine blk_drewN ?_ _ | refine blk_drew ?_ | refine blk_alloc ?_ _)); exact BK179.out⟩, ⟨by repeat (first | (with_reducible first | exact HB.out | apply below_alloc | apply pw_below_drewN | apply below_drew1 | refine below_set ?_ GE179.out) | exact HB.out)⟩⟩
                    · replace c30 := Bool.eq_false_iff.mpr c30
                      subst c30
                      have H1 : (impl_Photo_mayBe.j0 k a1 false a0_0 a0_1 a0_2 false false a0_5 l0_6) = some r := by rw [if_neg (show ¬ (false = true) by decide)] at H; exact H
                      clear H
                      have H := H1
                      clear H1
                      have H' := Aside0.mk H
                      clear H
                      have hcz32_0 : w4.cell? ⟨gb179, 0, none⟩ = some (.int .i64 a0_0) := (blk_cell BK179.out 0).trans rfl
                      have hcz32_1 : w4.cell? ⟨gb179, 1, none⟩ = some (.int .i64 a0_1) := (blk_cell BK179.out 1).trans rfl
                      have hcz32_2 : w4.cell? ⟨gb179, 2, none⟩ = some (.int .i64 a0_2) := (blk_cell BK179.out 2).trans rfl
                      have hcz32_3 : w4.cell? ⟨gb179, 3, none⟩ = some (.bool false) := (blk_cell BK179.out 3).trans rfl
                      have hcz32_4 : w4.cell? ⟨gb179, 4, none⟩ = some (.bool false) := (blk_cell BK179.out 4).trans rfl
                      have hcz32_5 : w4.cell? ⟨gb179, 5, none⟩ = some (.int .i64 a0_5) := (blk_cell BK179.out 5).trans rfl
                      have hcz32_6 : w4.cell? ⟨gb179, 6, none⟩ = some (.slice A0_6 l0_6.length c0_6) := (blk_cell BK179.out 6).trans rfl
                      have hfz32_0 := blk_frozen BK179.out 0
                      have hfz32_1 := blk_frozen BK179.out 1
                      have hfz32_2 := blk_frozen BK179.out 2
                      have hfz32_3 := blk_frozen BK179.out 3
                      have hfz32_4 := blk_frozen BK179.out 4
                      have hfz32_5 := blk_frozen BK179.out 5
                      have hfz32_6 := blk_frozen BK179.out 6
                      go_wp2_with (first | ((with_reducible refine gate_callee (f := 96) rfl ?_); refine goesL_ (some 11) rfl rfl Try.func96 (by kernel_rfl) rfl #[.int .i64 a0_0, .int .i64 a0_1] rfl (by (try simp only [List.map_toArray, List.map_cons, List.map_nil]); first | done | rfl | (simp only [List.length_drop, List.length_take]; rfl)) ?_; (with_reducible refine (impl_goodSides.calls a0_0 a0_1 true _ A5.out).mono ?_); rintro e w' ⟨rfl, ⟨nd, rfl⟩⟩; refine ⟨_, rfl, ?_⟩))
                      go_meet
                      case rel => exact ⟨_, (false), (by first | rfl | (simp; done) | (simp [*]; done)), H', ⟨by first | omega | exact Nat.le_refl _⟩, ⟨by (with_reducible repeat (first | refine blk_drewN ?_ _ | refine blk_drew ?_ | refine blk_alloc ?_ _)); exact BK179.out⟩, ⟨by repeat (first | (with_reducible first | exact HB.out | apply below_alloc | apply pw_below_drewN | apply below_drew1 | refine below_set ?_ GE179.out) | exact HB.out)⟩⟩
                · rw [if_neg c25] at H
                  have c25b0 : (a1 == 3) = false := beq_eq_false_iff_ne.mpr c25
                  have c25b1 : (a1 != 3) = true := bne_iff_ne.mpr c25
                  have H' := Aside0.mk H
                  clear H
                  have hcz33_0 : w4.cell? ⟨gb179, 0, none⟩ = some (.int .i64 a0_0) := (blk_cell BK179.out 0).trans rfl
                  have hcz33_1 : w4.cell? ⟨gb179, 1, none⟩ = some (.int .i64 a0_1) := (blk_cell BK179.out 1).trans rfl
                  have hcz33_2 : w4.cell? ⟨gb179, 2, none⟩ = some (.int .i64 a0_2) := (blk_cell BK179.out 2).trans rfl
                  have hcz33_3 : w4.cell? ⟨gb179, 3, none⟩ = some (.bool a0_3) := (blk_cell BK179.out 3).trans rfl
                  have hcz33_4 : w4.cell? ⟨gb179, 4, none⟩ = some (.bool a0_4) := (blk_cell BK179.out 4).trans rfl
                  have hcz33_5 : w4.cell? ⟨gb179, 5, none⟩ = some (.int .i64 a0_5) := (blk_cell BK179.out 5).trans rfl
                  have hcz33_6 : w4.cell? ⟨gb179, 6, none⟩ = some (.slice A0_6 l0_6.length c0_6) := (blk_cell BK179.out 6).trans rfl
                  have hfz33_0 := blk_frozen BK179.out 0
                  have hfz33_1 := blk_frozen BK179.out 1
                  have hfz33_2 := blk_frozen BK179.out 2
                  have hfz33_3 := blk_frozen BK179.out 3
                  have hfz33_4 := blk_frozen BK179.out 4
                  have hfz33_5 := blk_frozen BK179.out 5
                  have hfz33_6 := blk_frozen BK179.out 6
                  go_wp2_with (first | ((with_reducible refine gate_callee (f := 96) rfl ?_); refine goesL_ (some 11) rfl rfl Try.func96 (by kernel_rfl) rfl #[.int .i64 a0_0, .int .i64 a0_1] rfl (by (try simp only [List.map_toArray, List.map_cons, List.map_nil]); first | done | rfl | (simp only [List.length_drop, List.length_take]; rfl)) ?_; (with_reducible refine (impl_goodSides.calls a0_0 a0_1 true _ A5.out).mono ?_); rintro e w' ⟨rfl, ⟨nd, rfl⟩⟩; refine ⟨_, rfl, ?_⟩))
                  go_meet
                  case rel => exact ⟨_, (true), (by first | rfl | (simp; done) | (simp [*]; done)), H', ⟨by first | omega | exact Nat.le_refl _⟩, ⟨by (with_reducible repeat (first | refine blk_drewN ?_ _ | refine blk_drew ?_ | refine blk_alloc ?_ _)); exact BK179.out⟩, ⟨by repeat (first | (with_reducible first | exact HB.out | apply below_alloc | apply pw_below_drewN | apply below_drew1 | refine below_set ?_ GE179.out) | exact HB.out)⟩⟩
    · replace c6 := Bool.eq_false_iff.mpr c6
      subst c6
      have H1 : (impl_Photo_mayBe.j0 k a1 true a0_0 a0_1 a0_2 a0_3 a0_4 a0_5 l0_6) = some r := by rw [if_neg (show ¬ (false = true) by decide)] at H; exact H
      clear H
      have H := H1
      clear H1
      have H' := Aside0.mk H
      clear H
      have hcz34_0 : w4.cell? ⟨gb179, 0, none⟩ = some (.int .i64 a0_0) := (blk_cell BK179.out 0).trans rfl
      have hcz34_1 : w4.cell? ⟨gb179, 1, none⟩ = some (.int .i64 a0_1) := (blk_cell BK179.out 1).trans rfl
      have hcz34_2 : w4.cell? ⟨gb179, 2, none⟩ = some (.int .i64 a0_2) := (blk_cell BK179.out 2).trans rfl
      have hcz34_3 : w4.cell? ⟨gb179, 3, none⟩ = some (.bool a0_3) := (blk_cell BK179.out 3).trans rfl
      have hcz34_4 : w4.cell? ⟨gb179, 4, none⟩ = some (.bool a0_4) := (blk_cell BK179.out 4).trans rfl
      have hcz34_5 : w4.cell? ⟨gb179, 5, none⟩ = some (.int .i64 a0_5) := (blk_cell BK179.out 5).trans rfl
      have hcz34_6 : w4.cell? ⟨gb179, 6, none⟩ = some (.slice A0_6 l0_6.length c0_6) := (blk_cell BK179.out 6).trans rfl
      have hfz34_0 := blk_frozen BK179.out 0
      have hfz34_1 := blk_frozen BK179.out 1
      have hfz34_2 := blk_frozen BK179.out 2
      have hfz34_3 := blk_frozen BK179.out 3
      have hfz34_4 := blk_frozen BK179.out 4
      have hfz34_5 := blk_frozen BK179.out 5
      have hfz34_6 := blk_frozen BK179.out 6
      go_wp2_with (first | ((with_reducible refine gate_callee (f := 96) rfl ?_); refine goesL_ (some 11) rfl rfl Try.func96 (by kernel_rfl) rfl #[.int .i64 a0_0, .int .i64 a0_1] rfl (by (try simp only [List.map_toArray, List.map_cons, List.map_nil]); first | done | rfl | (simp only [List.length_drop, List.length_take]; rfl)) ?_; (with_reducible refine (impl_goodSides.calls a0_0 a0_1 false _ A5.out).mono ?_); rintro e w' ⟨rfl, ⟨nd, rfl⟩⟩; refine ⟨_, rfl, ?_⟩))
      go_meet
      case rel => exact ⟨_, (true), (by first | rfl | (simp; done) | (simp [*]; done)), H', ⟨by first | omega | exact Nat.le_refl _⟩, ⟨by (with_reducible repeat (first | refine blk_drewN ?_ _ | refine blk_drew ?_ | refine blk_alloc ?_ _)); exact BK179.out⟩, ⟨by repeat (first | (with_reducible first | exact HB.out | apply below_alloc | apply pw_below_drewN | apply below_drew1 | refine below_set ?_ GE179.out) | exact HB.out)⟩⟩
  case rest =>
    clear HC3
    try clear c1
    try clear c2
    try clear p2
    try clear c3
    try clear c6
    try clear c7
    try clear c7b0
    try clear c9
    try clear c9b0
    try clear c11
    try clear c11b0
    try clear c13
    try clear c13b0
    try clear c14
    try clear c15
    try clear c15b0
    try clear c15b1
    try clear c16
    try clear c17
    try clear c17b0
    try clear c17b1
    try clear c18
    try clear c22
    try clear c25
    try clear c25b0
    try clear c25b1
    try clear c26
    try clear c27
    try clear c30
    try clear hcz10_0
    try clear hcz10_1
    try clear hcz10_2
    try clear hcz10_3
    try clear hcz10_4
    try clear hcz10_5
    try clear hcz10_6
    try clear hcz12_0
    try clear hcz12_1
    try clear hcz12_2
    try clear hcz12_3
    try clear hcz12_4
    try clear hcz12_5
    try clear hcz12_6
    try clear hcz14_0
    try clear hcz14_1
    try clear hcz14_2
    try clear hcz14_3
    try clear hcz14_4
    try clear hcz14_5
    try clear hcz14_6
    try clear hcz19_0
    try clear hcz19_1
    try clear hcz19_2
    try clear hcz19_3
    try clear hcz19_4
    try clear hcz19_5
    try clear hcz19_6
    try clear hcz20_0
    try clear hcz20_1
    try clear hcz20_2
    try clear hcz20_3
    try clear hcz20_4
    try clear hcz20_5
    try clear hcz20_6
    try clear hcz21_0
    try clear hcz21_1
    try clear hcz21_2
    try clear hcz21_3
    try clear hcz21_4
    try clear hcz21_5
    try clear hcz21_6
    try clear hcz23_0
    try clear hcz23_1
    try clear hcz23_2
    try clear hcz23_3
    try clear hcz23_4
    try clear hcz23_5
    try clear hcz23_6
    try clear hcz24_0
    try clear hcz24_1
    try clear hcz24_2
    try clear hcz24_3
    try clear hcz24_4
    try clear hcz24_5
    try clear hcz24_6
    try clear hcz28_0
    try clear hcz28_1
    try clear hcz28_2
    try clear hcz28_3
    try clear hcz28_4
    try clear hcz28_5
    try clear hcz28_6
    try clear hcz29_0
    try clear hcz29_1
    try clear hcz29_2
    try clear hcz29_3
    try clear hcz29_4
    try clear hcz29_5
    try clear hcz29_6
    try clear hcz31_0
    try clear hcz31_1
    try clear hcz31_2
    try clear hcz31_3
    try clear hcz31_4
    try clear hcz31_5
    try clear hcz31_6
    try clear hcz32_0
    try clear hcz32_1
    try clear hcz32_2
    try clear hcz32_3
    try clear hcz32_4
    try clear hcz32_5
    try clear hcz32_6
    try clear hcz33_0
    try clear hcz33_1
    try clear hcz33_2
    try clear hcz33_3
    try clear hcz33_4
    try clear hcz33_5
    try clear hcz33_6
    try clear hcz34_0
    try clear hcz34_1
    try clear hcz34_2
    try clear hcz34_3
    try clear hcz34_4
    try clear hcz34_5
    try clear hcz34_6
    try clear hcz8_0
    try clear hcz8_1
    try clear hcz8_2
    try clear hcz8_3
    try clear hcz8_4
    try clear hcz8_5
    try clear hcz8_6
    try clear hfz10_0
    try clear hfz10_1
    try clear hfz10_2
    try clear hfz10_3
    try clear hfz10_4
    try clear hfz10_5
    try clear hfz10_6
    try clear hfz12_0
    try clear hfz12_1
    try clear hfz12_2
    try clear hfz12_3
    try clear hfz12_4
    try clear hfz12_5
    try clear hfz12_6
    try clear hfz14_0
    try clear hfz14_1
    try clear hfz14_2
    try clear hfz14_3
    try clear hfz14_4
    try clear hfz14_5
    try clear hfz14_6
    try clear hfz19_0
    try clear hfz19_1
    try clear hfz19_2
    try clear hfz19_3
    try clear hfz19_4
    try clear hfz19_5
    try clear hfz19_6
    try clear hfz20_0
    try clear hfz20_1
    try clear hfz20_2
    try clear hfz20_3
    try clear hfz20_4
    try clear hfz20_5
    try clear hfz20_6
    try clear hfz21_0
    try clear hfz21_1
    try clear hfz21_2
    try clear hfz21_3
    try clear hfz21_4
    try clear hfz21_5
    try clear hfz21_6
    try clear hfz23_0
    try clear hfz23_1
    try clear hfz23_2
    try clear hfz23_3
    try clear hfz23_4
    try clear hfz23_5
    try clear hfz23_6
    try clear hfz24_0
    try clear hfz24_1
    try clear hfz24_2
    try clear hfz24_3
    try clear hfz24_4
    try clear hfz24_5
    try clear hfz24_6
    try clear hfz28_0
    try clear hfz28_1
    try clear hfz28_2
    try clear hfz28_3
    try clear hfz28_4
    try clear hfz28_5
    try clear hfz28_6
    try clear hfz29_0
    try clear hfz29_1
    try clear hfz29_2
    try clear hfz29_3
    try clear hfz29_4
    try clear hfz29_5
    try clear hfz29_6
    try clear hfz31_0
    try clear hfz31_1
    try clear hfz31_2
    try clear hfz31_3
    try clear hfz31_4
    try clear hfz31_5
    try clear hfz31_6
    try clear hfz32_0
    try clear hfz32_1
    try clear hfz32_2
    try clear hfz32_3
    try clear hfz32_4
    try clear hfz32_5
    try clear hfz32_6
    try clear hfz33_0
    try clear hfz33_1
    try clear hfz33_2
    try clear hfz33_3
    try clear hfz33_4
    try clear hfz33_5
    try clear hfz33_6
    try clear hfz34_0
    try clear hfz34_1
    try clear hfz34_2
    try clear hfz34_3
    try clear hfz34_4
    try clear hfz34_5
    try clear hfz34_6
    try clear hfz8_0
    try clear hfz8_1
    try clear hfz8_2
    try clear hfz8_3
    try clear hfz8_4
    try clear hfz8_5
    try clear hfz8_6
    obtain ⟨kq, x57_2, rfl, HA, HJ2, BK179, HB⟩ := hcut
    cases kq with
    | zero => exact absurd HA.out (by simp [impl_Photo_mayBe.j0])
    | succ kj2 =>
      have H := HA.out
      clear HA
      simp only [impl_Photo_mayBe.j0] at H
      by_cases c35 : x57_2 = true
      · subst c35
        have H1 : (some false) = some r := by rw [if_pos rfl] at H; exact H
        clear H
        have H := H1
        clear H1
        obtain rfl := Option.some.inj H
        go_wp2
        go_ret
        exact ⟨by first | rfl | (simp [errW_none, errW_some] <;> rfl) | (simp [*, errW_none, errW_some] <;> rfl), by repeat (first | (with_reducible first | exact HB.out | apply below_alloc | apply pw_below_drewN | apply below_drew1 | refine below_set ?_ GE179.out) | exact HB.out)⟩
      · replace c35 := Bool.eq_false_iff.mpr c35
        subst c35
        have H1 : ((impl_Photo_units.f a0_0 a0_1 a0_2 a0_3 a0_4 a0_5 l0_6).bind fun bt181 => ((impl_Photo_spots.f kj2 a0_0 a0_1 a0_2 a0_3 a0_4 a0_5 l0_6 a1).bind fun t183 => (some (decide ((wrap64 ((wrap64 (bt181.1 * bt181.2)) * (t183.length : Int))) ≤ 400))))) = some r := by rw [if_neg (show ¬ (false = true) by decide)] at H; exact H
        clear H
        have H := H1
        clear H1
        replace H := Option.bind_eq_some_iff.mp H
        obtain ⟨⟨t181, t182⟩, A360, H⟩ := H
        replace H : ((impl_Photo_spots.f kj2 a0_0 a0_1 a0_2 a0_3 a0_4 a0_5 l0_6 a1).bind fun t183 => (some (decide ((wrap64 ((wrap64 (t181 * t182)) * (t183.length : Int))) ≤ 400)))) = some r := H
        have A36 := Aside0.mk A360
        clear A360
        replace H := Option.bind_eq_some_iff.mp H
        obtain ⟨t183, A370, H⟩ := H
        replace H : (some (decide ((wrap64 ((wrap64 (t181 * t182)) * (t183.length : Int))) ≤ 400))) = some r := H
        have A37 := Aside0.mk A370
        clear A370
        obtain rfl := Option.some.inj H
        have hcz38_0 : wc.cell? ⟨gb179, 0, none⟩ = some (.int .i64 a0_0) := (blk_cell BK179.out 0).trans rfl
        have hcz38_1 : wc.cell? ⟨gb179, 1, none⟩ = some (.int .i64 a0_1) := (blk_cell BK179.out 1).trans rfl
        have hcz38_2 : wc.cell? ⟨gb179, 2, none⟩ = some (.int .i64 a0_2) := (blk_cell BK179.out 2).trans rfl
        have hcz38_3 : wc.cell? ⟨gb179, 3, none⟩ = some (.bool a0_3) := (blk_cell BK179.out 3).trans rfl
        have hcz38_4 : wc.cell? ⟨gb179, 4, none⟩ = some (.bool a0_4) := (blk_cell BK179.out 4).trans rfl
        have hcz38_5 : wc.cell? ⟨gb179, 5, none⟩ = some (.int .i64 a0_5) := (blk_cell BK179.out 5).trans rfl
        have hcz38_6 : wc.cell? ⟨gb179, 6, none⟩ = some (.slice A0_6 l0_6.length c0_6) := (blk_cell BK179.out 6).trans rfl
        have hfz38_0 := blk_frozen BK179.out 0
        have hfz38_1 := blk_frozen BK179.out 1
        have hfz38_2 := blk_frozen BK179.out 2
        have hfz38_3 := blk_frozen BK179.out 3
        have hfz38_4 := blk_frozen BK179.out 4
        have hfz38_5 := blk_frozen BK179.out 5
        have hfz38_6 := blk_frozen BK179.out 6
        go_wp2_with (first | ((with_reducible refine gate_callee (f := 185) rfl ?_); refine goesL_ (some 60) rfl rfl Try.func185 (by kernel_rfl) rfl #[.agg #[.int .i64 a0_0, .int .i64 a0_1, .int .i64 a0_2, .bool a0_3, .bool a0_4, .int .i64 a0_5, .slice A0_6 l0_6.length c0_6]] rfl (by (try simp only [List.map_toArray, List.map_cons, List.map_nil]); first | done | rfl | (simp only [List.length_drop, List.length_take]; rfl)) ?_; (with_reducible refine (impl_Photo_units.calls a0_0 a0_1 a0_2 a0_3 a0_4 a0_5 _ _ l0_6 t181 t182 _ ?side1 ?side2 A36.out).mono ?_); (case side1 => repeat (first | exact (Kd.C_below HR0_6.out HB.out) | (with_reducible refine Kd.C_alloc ?_ _) | (with_reducible refine Kd.C_drewN ?_ _) | (with_reducible refine Kd.C_drew ?_))); (case side2 => exact HC0_6.out); rintro e w39 ⟨rfl, hb⟩; refine ⟨_, rfl, ?_⟩; have n0_ := Aside0.mk (blk_below (g := gb179) (o := .cells #[.int .i64 a0_0, .int .i64 a0_1, .int .i64 a0_2, .bool a0_3, .bool a0_4, .int .i64 a0_5, .slice A0_6 l0_6.length c0_6] 114 (0, 0)) (by (with_reducible repeat (first | refine blk_drewN ?_ _ | refine blk_drew ?_ | refine blk_alloc ?_ _)); exact BK179.out) hb); have n1_ := Aside0.mk (below_step (by repeat (first | (with_reducible first | exact HB.out | apply below_alloc | apply pw_below_drewN | apply below_drew1 | refine below_set ?_ GE179.out) | exact HB.out)) hb); clear BK179; clear HB; have BK179 := n0_; have HB := n1_; clear n0_ n1_; (try clear hb); (try clear hb2); (try clear hk); (try clear hi); have hcz40_0 : w39.cell? ⟨gb179, 0, none⟩ = some (.int .i64 a0_0) := (blk_cell BK179.out 0).trans rfl; have hcz40_1 : w39.cell? ⟨gb179, 1, none⟩ = some (.int .i64 a0_1) := (blk_cell BK179.out 1).trans rfl; have hcz40_2 : w39.cell? ⟨gb179, 2, none⟩ = some (.int .i64 a0_2) := (blk_cell BK179.out 2).trans rfl; have hcz40_3 : w39.cell? ⟨gb179, 3, none⟩ = some (.bool a0_3) := (blk_cell BK179.out 3).trans rfl; have hcz40_4 : w39.cell? ⟨gb179, 4, none⟩ = some (.bool a0_4) := (blk_cell BK179.out 4).trans rfl; have hcz40_5 : w39.cell? ⟨gb179, 5, none⟩ = some (.int .i64 a0_5) := (blk_cell BK179.out 5).trans rfl; have hcz40_6 : w39.cell? ⟨gb179, 6, none⟩ = some (.slice A0_6 l0_6.length c0_6) := (blk_cell BK179.out 6).trans rfl; have hfz40_0 := blk_frozen BK179.out 0; have hfz40_1 := blk_frozen BK179.out 1; have hfz40_2 := blk_frozen BK179.out 2; have hfz40_3 := blk_frozen BK179.out 3; have hfz40_4 := blk_frozen BK179.out 4; have hfz40_5 := blk_frozen BK179.out 5; have hfz40_6 := blk_frozen BK179.out 6) | ((with_reducible refine gate_callee (f := 186) rfl ?_); refine goesL_ (some 68) rfl rfl Try.func186 (by kernel_rfl) rfl #[.agg #[.int .i64 a0_0, .int .i64 a0_1, .int .i64 a0_2, .bool a0_3, .bool a0_4, .int .i64 a0_5, .slice A0_6 l0_6.length c0_6], .int .i64 a1] rfl (by (try simp only [List.map_toArray, List.map_cons, List.map_nil]); first | done | rfl | (simp only [List.length_drop, List.length_take]; rfl)) ?_; (with_reducible refine (impl_Photo_spots.calls kj2 a0_0 a0_1 a0_2 a0_3 a0_4 a0_5 _ _ l0_6 a1 t183 _ ?side1 ?side2 A37.out).mono ?_); (case side1 => repeat (first | exact (Kd.C_below HR0_6.out HB.out) | (with_reducible refine Kd.C_alloc ?_ _) | (with_reducible refine Kd.C_drewN ?_ _) | (with_reducible refine Kd.C_drew ?_))); (case side2 => exact HC0_6.out); rintro e w41 ⟨v184, rfl, ho0, hb⟩; refine ⟨_, rfl, ?_⟩; have n0_ := Aside0.mk (Kd.R_lower ho0 (below_size (by repeat (first | (with_reducible first | exact HB.out | apply below_alloc | apply pw_below_drewN | apply below_drew1 | refine below_set ?_ GE179.out) | exact HB.out)))); have n1_ := Aside0.mk (blk_below (g := gb179) (o := .cells #[.int .i64 a0_0, .int .i64 a0_1, .int .i64 a0_2, .bool a0_3, .bool a0_4, .int .i64 a0_5, .slice A0_6 l0_6.length c0_6] 114 (0, 0)) (by (with_reducible repeat (first | refine blk_drewN ?_ _ | refine blk_drew ?_ | refine blk_alloc ?_ _)); exact BK179.out) hb); have n2_ := Aside0.mk (below_step (by repeat (first | (with_reducible first | exact HB.out | apply below_alloc | apply pw_below_drewN | apply below_drew1 | refine below_set ?_ GE179.out) | exact HB.out)) hb); clear BK179; clear HB; have HO185 := n0_; have BK179 := n1_; have HB := n2_; clear n0_ n1_ n2_; (try clear hb); (try clear hb2); (try clear hk); (try clear hi); (try clear ho0); obtain ⟨Ao42, co42, eo42⟩ := Kd.R_slice HO185.out; subst eo42))
        go_ret
        exact ⟨by first | rfl | (simp [errW_none, errW_some] <;> rfl) | (simp [*, errW_none, errW_some] <;> rfl), by repeat (first | (with_reducible first | exact HB.out | apply below_alloc | apply pw_below_drewN | apply below_drew1 | refine below_set ?_ GE179.out) | exact HB.out)⟩

end Go.Proofs.Ytglaedjadlappaa.PFnExactGoodPhoto

-- written by myprint.py (a program of this session's over the kit's print)
import Derived.Test.YtidblealnaicpaaDoorPFnExactSoundOfx0
import Derived.Test.YtidblealnaicpaaDoorPFnExactSoundOfx1
namespace Go.Proofs.YtidblealnaicpaaDoor.PFnExactSoundOf
open Go.RowKit Go.Proofs.YtidblealnaicpaaDoorW.PrintWords Go.Proofs.YtidblealnaicpaaDoorW.PrintLast Go.Proofs.YtidblealnaicpaaDoorW.PrintMore
attribute [local go_sem] max2_int min2_int max_two min_two max_three min_three max_four min_four   -- for this text's walks alone
set_option linter.unusedVariables false
set_option linter.unusedSimpArgs false

/-! ### spec_GoodTones: function 25 -/
mutual
def spec_GoodTones.j0 : Nat → Bool → Int → Int → Int → List (List Int) → List (List Int) → Option (Bool)
  | 0, _, _, _, _, _, _ => none
  | k + 1, x29, x111000, x111001, x111002, x111003, x111004 => if x29 = true then (some false) else (spec_GoodTones.l0 k (x111003.length : Int) 0 x111000 x111001 x111002 x111003 x111004)
def spec_GoodTones.l0 : Nat → Int → Int → Int → Int → Int → List (List Int) → List (List Int) → Option (Bool)
  | 0, _, _, _, _, _, _, _ => none
  | k + 1, x32, x33, x111000, x111001, x111002, x111003, x111004 => if x33 < x32 then (if 0 ≤ x33 then (if x33 < (x111003.length : Int) then ((spec_l11All.f k (rd_L1 x111003 x33) 16 (-1048576) 1048575).bind fun t114 => (if t114 = true then (if x33 < (x111004.length : Int) then ((spec_l11All.f k (rd_L1 x111004 x33) 8 0 12).bind fun t116 => (if t116 = true then (spec_GoodTones.l0 k x32 (wrap64 (x33 + 1)) x111000 x111001 x111002 x111003 x111004) else (some false))) else (none)) else (some false))) else (none)) else (none)) else (some true)
end
def spec_GoodTones.f (k : Nat) (a0_0 : Int) (a0_1 : Int) (a0_2 : Int) (l0_3 : List (List Int)) (l0_4 : List (List Int)) : Option (Bool) := (spec_l11Head.f a0_0 a0_1 a0_2).bind fun t111 => (if t111 = true then ((spec_l11Slots.f a0_2).bind fun t112 => (if (l0_3.length : Int) = t112 then (spec_GoodTones.j0 k ((l0_4.length : Int) != (l0_3.length : Int)) a0_0 a0_1 a0_2 l0_3 l0_4) else (spec_GoodTones.j0 k true a0_0 a0_1 a0_2 l0_3 l0_4))) else (spec_GoodTones.j0 k true a0_0 a0_1 a0_2 l0_3 l0_4))
theorem spec_GoodTones.mono_l : ∀ k, (∀ y0 y1 y2 y3 y4 y5, LeO (spec_GoodTones.j0 k y0 y1 y2 y3 y4 y5) (spec_GoodTones.j0 (k + 1) y0 y1 y2 y3 y4 y5)) ∧ (∀ y0 y1 y2 y3 y4 y5 y6, LeO (spec_GoodTones.l0 k y0 y1 y2 y3 y4 y5 y6) (spec_GoodTones.l0 (k + 1) y0 y1 y2 y3 y4 y5 y6))
  | 0 => ⟨fun _ _ _ _ _ _ r h => by simp [spec_GoodTones.j0] at h, fun _ _ _ _ _ _ _ r h => by simp [spec_GoodTones.l0] at h⟩
  | k + 1 => by
    obtain ⟨ih0, ih1⟩ := spec_GoodTones.mono_l k
    refine ⟨?_, ?_⟩
    · intro y0 y1 y2 y3 y4 y5
      unfold spec_GoodTones.j0
      repeat' first
      | (with_reducible exact ih0 _ _ _ _ _ _)
      | (with_reducible exact ih1 _ _ _ _ _ _ _)
      | (with_reducible exact spec_l11All.mono _ _ _ _ _)
      | (with_reducible exact LeO.refl _)
      | (with_reducible exact LeO.none _)
      | (with_reducible refine LeO.ite ?_ ?_)
      | (with_reducible refine LeO.bind ?_ (fun _ => ?_))
      | exact ih0 _ _ _ _ _ _
      | exact ih1 _ _ _ _ _ _ _
      | exact spec_l11All.mono _ _ _ _ _
      | exact LeO.none _
      | refine LeO.ite ?_ ?_
      | refine LeO.bind ?_ (fun _ => ?_)
    · intro y0 y1 y2 y3 y4 y5 y6
      unfold spec_GoodTones.l0
      repeat' first
      | (with_reducible exact ih0 _ _ _ _ _ _)
      | (with_reducible exact ih1 _ _ _ _ _ _ _)
      | (with_reducible exact spec_l11All.mono _ _ _ _ _)
      | (with_reducible exact LeO.refl _)
      | (with_reducible exact LeO.none _)
      | (with_reducible refine LeO.ite ?_ ?_)
      | (with_reducible refine LeO.bind ?_ (fun _ => ?_))
      | exact ih0 _ _ _ _ _ _
      | exact ih1 _ _ _ _ _ _ _
      | exact spec_l11All.mono _ _ _ _ _
      | exact LeO.none _
      | refine LeO.ite ?_ ?_
      | refine LeO.bind ?_ (fun _ => ?_)
theorem spec_GoodTones.mono : ∀ a0 a1 a2 a3 a4 k, LeO (spec_GoodTones.f k a0 a1 a2 a3 a4) (spec_GoodTones.f (k + 1) a0 a1 a2 a3 a4) := by
  intro a0 a1 a2 a3 a4 k
  obtain ⟨ih0, ih1⟩ := spec_GoodTones.mono_l k
  unfold spec_GoodTones.f
  repeat' first
      | (with_reducible exact ih0 _ _ _ _ _ _)
      | (with_reducible exact ih1 _ _ _ _ _ _ _)
      | (with_reducible exact spec_l11All.mono _ _ _ _ _)
      | (with_reducible exact LeO.refl _)
      | (with_reducible exact LeO.none _)
      | (with_reducible refine LeO.ite ?_ ?_)
      | (with_reducible refine LeO.bind ?_ (fun _ => ?_))
      | exact ih0 _ _ _ _ _ _
      | exact ih1 _ _ _ _ _ _ _
      | exact spec_l11All.mono _ _ _ _ _
      | exact LeO.none _
      | refine LeO.ite ?_ ?_
      | refine LeO.bind ?_ (fun _ => ?_)
set_option maxHeartbeats 8000000 in
set_option maxRecDepth 100000 in
theorem spec_GoodTones.calls (k : Nat) (a0_0 : Int) (a0_1 : Int) (a0_2 : Int) (A0_3 : Option Addr) (c0_3 : Nat) (l0_3 : List (List Int)) (A0_4 : Option Addr) (c0_4 : Nat) (l0_4 : List (List Int)) (r : Bool) (w : World) (hr0_3 : Kd.C (Kd.slice 3 (Kd.int .i64)) w A0_3 l0_3.length l0_3) (hc0_3 : l0_3.length ≤ c0_3) (hr0_4 : Kd.C (Kd.slice 3 (Kd.int .i64)) w A0_4 l0_4.length l0_4) (hc0_4 : l0_4.length ≤ c0_4) (h : spec_GoodTones.f k a0_0 a0_1 a0_2 l0_3 l0_4 = some r) :
    Calls Tryd.prog 25 #[.agg #[.int .i64 a0_0, .int .i64 a0_1, .int .i64 a0_2, .slice A0_3 l0_3.length c0_3, .slice A0_4 l0_4.length c0_4]] w fun e w' => e = .returned (.bool r) ∧ Below w.heap.size w w' := by
  have hu36 := Tryd.underlying36
  have HR0_3 := Aside0.mk hr0_3
  have HC0_3 := Aside0.mk hc0_3
  clear hr0_3 hc0_3
  have HR0_4 := Aside0.mk hr0_4
  have HC0_4 := Aside0.mk hc0_4
  clear hr0_4 hc0_4
  have HB := Aside0.mk (Below.refl w.heap.size w)
  have H : ((spec_l11Head.f a0_0 a0_1 a0_2).bind fun t111 => (if t111 = true then ((spec_l11Slots.f a0_2).bind fun t112 => (if (l0_3.length : Int) = t112 then (spec_GoodTones.j0 k ((l0_4.length : Int) != (l0_3.length : Int)) a0_0 a0_1 a0_2 l0_3 l0_4) else (spec_GoodTones.j0 k true a0_0 a0_1 a0_2 l0_3 l0_4))) else (spec_GoodTones.j0 k true a0_0 a0_1 a0_2 l0_3 l0_4))) = some r := h
  clear h
  have HC2 := Aside0.mk H
  clear H
  go_enter Tryd.func25, Tryd.ntmps25
  go_upto_region 1 with (first | ((with_reducible refine gate_dst (N := 1) rfl ?_); (try (refine gate_guard (by rfl) ?_; dsimp only)); refine box_event ?hg (N := 1) ?hd (cs := #[.int .i64 a0_0, .int .i64 a0_1, .int .i64 a0_2, .slice A0_3 l0_3.length c0_3, .slice A0_4 l0_4.length c0_4]) (t := 36) ?hr ?_; (case hd => rfl); (case hg => rfl); (case hr => first | (go_simp; done) | (go_simp; rfl)); intro gb110 hg w3 hbox hb; have n0_ := Aside0.mk (below_step (by repeat (first | (with_reducible first | exact HB.out | apply below_alloc | apply pw_below_drewN | apply below_drew1) | exact HB.out)) hb); have n1_ := Aside0.mk (hbox); have n2_ := Aside0.mk ((by rw [hg]; exact (below_size (by repeat (first | (with_reducible first | exact HB.out | apply below_alloc | apply pw_below_drewN | apply below_drew1) | exact HB.out))) : w.heap.size ≤ gb110)); have n3_ := n2_; clear HB; have HB := n0_; have BK110 := n1_; have GW110 := n2_; have GE110 := n3_; clear n0_ n1_ n2_ n3_; clear hb hbox hg))
  repeat (go_quiet (first | ((with_reducible refine gate_dst (N := 1) rfl ?_); (try (refine gate_guard (by rfl) ?_; dsimp only)); refine box_event ?hg (N := 1) ?hd (cs := #[.int .i64 a0_0, .int .i64 a0_1, .int .i64 a0_2, .slice A0_3 l0_3.length c0_3, .slice A0_4 l0_4.length c0_4]) (t := 36) ?hr ?_; (case hd => rfl); (case hg => rfl); (case hr => first | (go_simp; done) | (go_simp; rfl)); intro gb110 hg w3 hbox hb; have n0_ := Aside0.mk (below_step (by repeat (first | (with_reducible first | exact HB.out | apply below_alloc | apply pw_below_drewN | apply below_drew1) | exact HB.out)) hb); have n1_ := Aside0.mk (hbox); have n2_ := Aside0.mk ((by rw [hg]; exact (below_size (by repeat (first | (with_reducible first | exact HB.out | apply below_alloc | apply pw_below_drewN | apply below_drew1) | exact HB.out))) : w.heap.size ≤ gb110)); have n3_ := n2_; clear HB; have HB := n0_; have BK110 := n1_; have GW110 := n2_; have GE110 := n3_; clear n0_ n1_ n2_ n3_; clear hb hbox hg)); go_upto_region 1 with (first | ((with_reducible refine gate_dst (N := 1) rfl ?_); (try (refine gate_guard (by rfl) ?_; dsimp only)); refine box_event ?hg (N := 1) ?hd (cs := #[.int .i64 a0_0, .int .i64 a0_1, .int .i64 a0_2, .slice A0_3 l0_3.length c0_3, .slice A0_4 l0_4.length c0_4]) (t := 36) ?hr ?_; (case hd => rfl); (case hg => rfl); (case hr => first | (go_simp; done) | (go_simp; rfl)); intro gb110 hg w3 hbox hb; have n0_ := Aside0.mk (below_step (by repeat (first | (with_reducible first | exact HB.out | apply below_alloc | apply pw_below_drewN | apply below_drew1) | exact HB.out)) hb); have n1_ := Aside0.mk (hbox); have n2_ := Aside0.mk ((by rw [hg]; exact (below_size (by repeat (first | (with_reducible first | exact HB.out | apply below_alloc | apply pw_below_drewN | apply below_drew1) | exact HB.out))) : w.heap.size ≤ gb110)); have n3_ := n2_; clear HB; have HB := n0_; have BK110 := n1_; have GW110 := n2_; have GE110 := n3_; clear n0_ n1_ n2_ n3_; clear hb hbox hg)))
  (try simp only [Act.put, List.setIfInBounds_toArray, List.set_cons_zero, List.set_cons_succ])
  go_cut [29] (fun v29 wc => ∃ (kq : Nat) (x29_1 : Bool), v29 = .bool x29_1 ∧ Aside0 (spec_GoodTones.j0 kq x29_1 a0_0 a0_1 a0_2 l0_3 l0_4 = some r) ∧ Aside0 (kq ≤ k) ∧ Aside0 (wc.heap[gb110]? = some (.cells #[.int .i64 a0_0, .int .i64 a0_1, .int .i64 a0_2, (.slice A0_3 l0_3.length c0_3), (.slice A0_4 l0_4.length c0_4)] 36 (0, 0))) ∧ Aside0 (Below w.heap.size w wc))
  case first =>
    have H := HC2.out
    clear HC2
    replace H := Option.bind_eq_some_iff.mp H
    obtain ⟨t111, A40, H⟩ := H
    replace H : (if t111 = true then ((spec_l11Slots.f a0_2).bind fun t112 => (if (l0_3.length : Int) = t112 then (spec_GoodTones.j0 k ((l0_4.length : Int) != (l0_3.length : Int)) a0_0 a0_1 a0_2 l0_3 l0_4) else (spec_GoodTones.j0 k true a0_0 a0_1 a0_2 l0_3 l0_4))) else (spec_GoodTones.j0 k true a0_0 a0_1 a0_2 l0_3 l0_4)) = some r := H
    have A4 := Aside0.mk A40
    clear A40
    by_cases c5 : t111 = true
    rotate_left
    · replace c5 := Bool.eq_false_iff.mpr c5
      subst c5
      have H1 : (spec_GoodTones.j0 k true a0_0 a0_1 a0_2 l0_3 l0_4) = some r := by rw [if_neg (show ¬ (false = true) by decide)] at H; exact H
      clear H
      have H := H1
      clear H1
      have H' := Aside0.mk H
      clear H
      have hcz10_0 : w3.cell? ⟨gb110, 0, none⟩ = some (.int .i64 a0_0) := (blk_cell BK110.out 0).trans rfl
      have hcz10_1 : w3.cell? ⟨gb110, 1, none⟩ = some (.int .i64 a0_1) := (blk_cell BK110.out 1).trans rfl
      have hcz10_2 : w3.cell? ⟨gb110, 2, none⟩ = some (.int .i64 a0_2) := (blk_cell BK110.out 2).trans rfl
      have hcz10_3 : w3.cell? ⟨gb110, 3, none⟩ = some (.slice A0_3 l0_3.length c0_3) := (blk_cell BK110.out 3).trans rfl
      have hcz10_4 : w3.cell? ⟨gb110, 4, none⟩ = some (.slice A0_4 l0_4.length c0_4) := (blk_cell BK110.out 4).trans rfl
      have hfz10_0 := blk_frozen BK110.out 0
      have hfz10_1 := blk_frozen BK110.out 1
      have hfz10_2 := blk_frozen BK110.out 2
      have hfz10_3 := blk_frozen BK110.out 3
      have hfz10_4 := blk_frozen BK110.out 4
      iterate 3 (try go_wp2_with (first | (go_at_call 37; (with_reducible refine (spec_l11Head.calls a0_0 a0_1 a0_2 false _ A4.out).mono ?_); rintro e w' ⟨rfl, ⟨nd, rfl⟩⟩; (try first | exact ⟨rfl, _, World.drewN_drewN _ _ _⟩ | exact ⟨rfl, _, Eq.trans (World.drewN_drewN _ _ _) (congrArg (World.drewN _) (Nat.add_assoc _ _ _))⟩))); try go_quiet (first | (go_at_call 37; (with_reducible refine (spec_l11Head.calls a0_0 a0_1 a0_2 false _ A4.out).mono ?_); rintro e w' ⟨rfl, ⟨nd, rfl⟩⟩; (try first | exact ⟨rfl, _, World.drewN_drewN _ _ _⟩ | exact ⟨rfl, _, Eq.trans (World.drewN_drewN _ _ _) (congrArg (World.drewN _) (Nat.add_assoc _ _ _))⟩))))
      go_meet
      case rel => exact ⟨_, (true), (by first | rfl | (simp; done) | (simp [*]; done)), H', ⟨by first | omega | exact Nat.le_refl _⟩, ⟨by (with_reducible repeat (first | refine blk_drewN ?_ _ | refine blk_drew ?_ | refine blk_alloc ?_ _)); exact BK110.out⟩, ⟨by repeat (first | (with_reducible first | exact HB.out | apply below_alloc | apply pw_below_drewN | apply below_drew1 | refine below_set ?_ GE110.out) | exact HB.out)⟩⟩
    subst c5
    have H1 : ((spec_l11Slots.f a0_2).bind fun t112 => (if (l0_3.length : Int) = t112 then (spec_GoodTones.j0 k ((l0_4.length : Int) != (l0_3.length : Int)) a0_0 a0_1 a0_2 l0_3 l0_4) else (spec_GoodTones.j0 k true a0_0 a0_1 a0_2 l0_3 l0_4))) = some r := by rw [if_pos rfl] at H; exact H
    clear H
    have H := H1
    clear H1
    replace H := Option.bind_eq_some_iff.mp H
    obtain ⟨t112, A60, H⟩ := H
    replace H : (if (l0_3.length : Int) = t112 then (spec_GoodTones.j0 k ((l0_4.length : Int) != (l0_3.length : Int)) a0_0 a0_1 a0_2 l0_3 l0_4) else (spec_GoodTones.j0 k true a0_0 a0_1 a0_2 l0_3 l0_4)) = some r := H
    have A6 := Aside0.mk A60
    clear A60
    by_cases c7 : (l0_3.length : Int) = t112
    rotate_left
    · rw [if_neg c7] at H
      have c7b0 : ((l0_3.length : Int) == t112) = false := beq_eq_false_iff_ne.mpr c7
      have c7b1 : ((l0_3.length : Int) != t112) = true := bne_iff_ne.mpr c7
      (first | rw [c7b0] | (simp only [i64_w, i32_w]; rw [c7b0]) | skip)
      have H' := Aside0.mk H
      clear H
      have hcz9_0 : w3.cell? ⟨gb110, 0, none⟩ = some (.int .i64 a0_0) := (blk_cell BK110.out 0).trans rfl
      have hcz9_1 : w3.cell? ⟨gb110, 1, none⟩ = some (.int .i64 a0_1) := (blk_cell BK110.out 1).trans rfl
      have hcz9_2 : w3.cell? ⟨gb110, 2, none⟩ = some (.int .i64 a0_2) := (blk_cell BK110.out 2).trans rfl
      have hcz9_3 : w3.cell? ⟨gb110, 3, none⟩ = some (.slice A0_3 l0_3.length c0_3) := (blk_cell BK110.out 3).trans rfl
      have hcz9_4 : w3.cell? ⟨gb110, 4, none⟩ = some (.slice A0_4 l0_4.length c0_4) := (blk_cell BK110.out 4).trans rfl
      have hfz9_0 := blk_frozen BK110.out 0
      have hfz9_1 := blk_frozen BK110.out 1
      have hfz9_2 := blk_frozen BK110.out 2
      have hfz9_3 := blk_frozen BK110.out 3
      have hfz9_4 := blk_frozen BK110.out 4
      iterate 3 (try go_wp2_with (first | (go_at_call 37; (with_reducible refine (spec_l11Head.calls a0_0 a0_1 a0_2 true _ A4.out).mono ?_); rintro e w' ⟨rfl, ⟨nd, rfl⟩⟩; (try first | exact ⟨rfl, _, World.drewN_drewN _ _ _⟩ | exact ⟨rfl, _, Eq.trans (World.drewN_drewN _ _ _) (congrArg (World.drewN _) (Nat.add_assoc _ _ _))⟩)) | (go_at_call 38; (with_reducible refine (spec_l11Slots.calls a0_2 t112 _ A6.out).mono ?_); rintro e w' ⟨rfl, ⟨nd, rfl⟩⟩; (try first | exact ⟨rfl, _, World.drewN_drewN _ _ _⟩ | exact ⟨rfl, _, Eq.trans (World.drewN_drewN _ _ _) (congrArg (World.drewN _) (Nat.add_assoc _ _ _))⟩))); try go_quiet (first | (go_at_call 37; (with_reducible refine (spec_l11Head.calls a0_0 a0_1 a0_2 true _ A4.out).mono ?_); rintro e w' ⟨rfl, ⟨nd, rfl⟩⟩; (try first | exact ⟨rfl, _, World.drewN_drewN _ _ _⟩ | exact ⟨rfl, _, Eq.trans (World.drewN_drewN _ _ _) (congrArg (World.drewN _) (Nat.add_assoc _ _ _))⟩)) | (go_at_call 38; (with_reducible refine (spec_l11Slots.calls a0_2 t112 _ A6.out).mono ?_); rintro e w' ⟨rfl, ⟨nd, rfl⟩⟩; (try first | exact ⟨rfl, _, World.drewN_drewN _ _ _⟩ | exact ⟨rfl, _, Eq.trans (World.drewN_drewN _ _ _) (congrArg (World.drewN _) (Nat.add_assoc _ _ _))⟩))))
      go_meet
      case rel => exact ⟨_, (true), (by first | rfl | (simp; done) | (simp [*]; done)), H', ⟨by first | omega | exact Nat.le_refl _⟩, ⟨by (with_reducible repeat (first | refine blk_drewN ?_ _ | refine blk_drew ?_ | refine blk_alloc ?_ _)); exact BK110.out⟩, ⟨by repeat (first | (with_reducible first | exact HB.out | apply below_alloc | apply pw_below_drewN | apply below_drew1 | refine below_set ?_ GE110.out) | exact HB.out)⟩⟩
    rw [if_pos c7] at H
    have c7b0 : ((l0_3.length : Int) == t112) = true := beq_iff_eq.mpr c7
    have c7b1 : ((l0_3.length : Int) != t112) = false := bne_eq_false_iff_eq.mpr c7
    clear c7
    (first | rw [c7b0] | (simp only [i64_w, i32_w]; rw [c7b0]) | skip)
    have H' := Aside0.mk H
    clear H
    have hcz8_0 : w3.cell? ⟨gb110, 0, none⟩ = some (.int .i64 a0_0) := (blk_cell BK110.out 0).trans rfl
    have hcz8_1 : w3.cell? ⟨gb110, 1, none⟩ = some (.int .i64 a0_1) := (blk_cell BK110.out 1).trans rfl
    have hcz8_2 : w3.cell? ⟨gb110, 2, none⟩ = some (.int .i64 a0_2) := (blk_cell BK110.out 2).trans rfl
    have hcz8_3 : w3.cell? ⟨gb110, 3, none⟩ = some (.slice A0_3 l0_3.length c0_3) := (blk_cell BK110.out 3).trans rfl
    have hcz8_4 : w3.cell? ⟨gb110, 4, none⟩ = some (.slice A0_4 l0_4.length c0_4) := (blk_cell BK110.out 4).trans rfl
    have hfz8_0 := blk_frozen BK110.out 0
    have hfz8_1 := blk_frozen BK110.out 1
    have hfz8_2 := blk_frozen BK110.out 2
    have hfz8_3 := blk_frozen BK110.out 3
    have hfz8_4 := blk_frozen BK110.out 4
    iterate 3 (try go_wp2_with (first | (go_at_call 37; (with_reducible refine (spec_l11Head.calls a0_0 a0_1 a0_2 true _ A4.out).mono ?_); rintro e w' ⟨rfl, ⟨nd, rfl⟩⟩; (try first | exact ⟨rfl, _, World.drewN_drewN _ _ _⟩ | exact ⟨rfl, _, Eq.trans (World.drewN_drewN _ _ _) (congrArg (World.drewN _) (Nat.add_assoc _ _ _))⟩)) | (go_at_call 38; (with_reducible refine (spec_l11Slots.calls a0_2 t112 _ A6.out).mono ?_); rintro e w' ⟨rfl, ⟨nd, rfl⟩⟩; (try first | exact ⟨rfl, _, World.drewN_drewN _ _ _⟩ | exact ⟨rfl, _, Eq.trans (World.drewN_drewN _ _ _) (congrArg (World.drewN _) (Nat.add_assoc _ _ _))⟩))); try go_quiet (first | (go_at_call 37; (with_reducible refine (spec_l11Head.calls a0_0 a0_1 a0_2 true _ A4.out).mono ?_); rintro e w' ⟨rfl, ⟨nd, rfl⟩⟩; (try first | exact ⟨rfl, _, World.drewN_drewN _ _ _⟩ | exact ⟨rfl, _, Eq.trans (World.drewN_drewN _ _ _) (congrArg (World.drewN _) (Nat.add_assoc _ _ _))⟩)) | (go_at_call 38; (with_reducible refine (spec_l11Slots.calls a0_2 t112 _ A6.out).mono ?_); rintro e w' ⟨rfl, ⟨nd, rfl⟩⟩; (try first | exact ⟨rfl, _, World.drewN_drewN _ _ _⟩ | exact ⟨rfl, _, Eq.trans (World.drewN_drewN _ _ _) (congrArg (World.drewN _) (Nat.add_assoc _ _ _))⟩))))
    go_meet
    case rel => exact ⟨_, (((l0_4.length : Int) != (l0_3.length : Int))), (by first | rfl | (simp; done) | (simp [*]; done)), H', ⟨by first | omega | exact Nat.le_refl _⟩, ⟨by (with_reducible repeat (first | refine blk_drewN ?_ _ | refine blk_drew ?_ | refine blk_alloc ?_ _)); exact BK110.out⟩, ⟨by repeat (first | (with_reducible first | exact HB.out | apply below_alloc | apply pw_below_drewN | apply below_drew1 | refine below_set ?_ GE110.out) | exact HB.out)⟩⟩
  case rest =>
    clear HC2
    try clear c2
    try clear p2
    try clear c5
    try clear c7
    try clear c7b0
    try clear c7b1
    try clear hcz10_0
    try clear hcz10_1
    try clear hcz10_2
    try clear hcz10_3
    try clear hcz10_4
    try clear hcz8_0
    try clear hcz8_1
    try clear hcz8_2
    try clear hcz8_3
    try clear hcz8_4
    try clear hcz9_0
    try clear hcz9_1
    try clear hcz9_2
    try clear hcz9_3
    try clear hcz9_4
    try clear hfz10_0
    try clear hfz10_1
    try clear hfz10_2
    try clear hfz10_3
    try clear hfz10_4
    try clear hfz8_0
    try clear hfz8_1
    try clear hfz8_2
    try clear hfz8_3
    try clear hfz8_4
    try clear hfz9_0
    try clear hfz9_1
    try clear hfz9_2
    try clear hfz9_3
    try clear hfz9_4
    obtain ⟨kq, x29_1, rfl, HA, HJ1, BK110, HB⟩ := hcut
    cases kq with
    | zero => exact absurd HA.out (by simp [spec_GoodTones.j0])
    | succ kj1 =>
      have H := HA.out
      clear HA
      simp only [spec_GoodTones.j0] at H
      by_cases c11 : x29_1 = true
      · subst c11
        have H1 : (some false) = some r := by rw [if_pos rfl] at H; exact H
        clear H
        have H := H1
        clear H1
        obtain rfl := Option.some.inj H
        go_wp2
        repeat (go_quiet (fail); try go_wp2)
        go_ret
        exact ⟨by first | rfl | (simp [errW_none, errW_some] <;> rfl) | (simp [*, errW_none, errW_some] <;> rfl), by repeat (first | (with_reducible first | exact HB.out | apply below_alloc | apply pw_below_drewN | apply below_drew1 | refine below_set ?_ GE110.out) | exact HB.out)⟩
      replace c11 := Bool.eq_false_iff.mpr c11
      subst c11
      have H1 : (spec_GoodTones.l0 kj1 (l0_3.length : Int) 0 a0_0 a0_1 a0_2 l0_3 l0_4) = some r := by rw [if_neg (show ¬ (false = true) by decide)] at H; exact H
      clear H
      have H := H1
      clear H1
      have H' := Aside0.mk H
      clear H
      have hcz12_0 : wc.cell? ⟨gb110, 0, none⟩ = some (.int .i64 a0_0) := (blk_cell BK110.out 0).trans rfl
      have hcz12_1 : wc.cell? ⟨gb110, 1, none⟩ = some (.int .i64 a0_1) := (blk_cell BK110.out 1).trans rfl
      have hcz12_2 : wc.cell? ⟨gb110, 2, none⟩ = some (.int .i64 a0_2) := (blk_cell BK110.out 2).trans rfl
      have hcz12_3 : wc.cell? ⟨gb110, 3, none⟩ = some (.slice A0_3 l0_3.length c0_3) := (blk_cell BK110.out 3).trans rfl
      have hcz12_4 : wc.cell? ⟨gb110, 4, none⟩ = some (.slice A0_4 l0_4.length c0_4) := (blk_cell BK110.out 4).trans rfl
      have hfz12_0 := blk_frozen BK110.out 0
      have hfz12_1 := blk_frozen BK110.out 1
      have hfz12_2 := blk_frozen BK110.out 2
      have hfz12_3 := blk_frozen BK110.out 3
      have hfz12_4 := blk_frozen BK110.out 4
      go_wp2
      repeat (go_quiet (fail); try go_wp2)
      go_loopg [33] kj1 (fun kq v33 w' => ∃ (x33_2 : Int), v33 = .int .i64 x33_2 ∧ Aside0 (spec_GoodTones.l0 kq (l0_3.length : Int) x33_2 a0_0 a0_1 a0_2 l0_3 l0_4 = some r) ∧ Aside0 (kq ≤ kj1) ∧ Aside0 (w'.heap[gb110]? = some (.cells #[.int .i64 a0_0, .int .i64 a0_1, .int .i64 a0_2, (.slice A0_3 l0_3.length c0_3), (.slice A0_4 l0_4.length c0_4)] 36 (0, 0))) ∧ Aside0 (Below w.heap.size w w'))
      case atStart => exact ⟨(0), (by first | rfl | (simp; done) | (simp [*]; done)), H', ⟨Nat.le_refl _⟩, ⟨by (with_reducible repeat (first | refine blk_drewN ?_ _ | refine blk_drew ?_ | refine blk_alloc ?_ _)); exact BK110.out⟩, ⟨by repeat (first | (with_reducible first | exact HB.out | apply below_alloc | apply pw_below_drewN | apply below_drew1 | refine below_set ?_ GE110.out) | exact HB.out)⟩⟩
      case round =>
        clear H'
        try clear c1
        try clear c2
        try clear p2
        try clear c5
        try clear c7
        try clear c7b0
        try clear c7b1
        try clear c11
        try clear hcz10_0
        try clear hcz10_1
        try clear hcz10_2
        try clear hcz10_3
        try clear hcz10_4
        try clear hcz12_0
        try clear hcz12_1
        try clear hcz12_2
        try clear hcz12_3
        try clear hcz12_4
        try clear hcz8_0
        try clear hcz8_1
        try clear hcz8_2
        try clear hcz8_3
        try clear hcz8_4
        try clear hcz9_0
        try clear hcz9_1
        try clear hcz9_2
        try clear hcz9_3
        try clear hcz9_4
        try clear hfz10_0
        try clear hfz10_1
        try clear hfz10_2
        try clear hfz10_3
        try clear hfz10_4
        try clear hfz12_0
        try clear hfz12_1
        try clear hfz12_2
        try clear hfz12_3
        try clear hfz12_4
        try clear hfz8_0
        try clear hfz8_1
        try clear hfz8_2
        try clear hfz8_3
        try clear hfz8_4
        try clear hfz9_0
        try clear hfz9_1
        try clear hfz9_2
        try clear hfz9_3
        try clear hfz9_4
        try clear p2
        obtain ⟨x33_2, rfl, HA, HK2, BK110, HB⟩ := hrel
        cases gk with
        | zero => exact absurd HA.out (by simp [spec_GoodTones.l0])
        | succ k2 =>
          have H := HA.out
          clear HA
          simp only [spec_GoodTones.l0] at H
          by_cases c13 : x33_2 < (l0_3.length : Int)
          rotate_left
          · rw [if_neg c13] at H
            have c13b0 : decide (x33_2 < (l0_3.length : Int)) = false := decide_eq_false c13
            clear c13
            obtain rfl := Option.some.inj H
            go_wp2
            repeat (go_quiet (fail); try go_wp2)
            go_ret
            exact ⟨by first | rfl | (simp [errW_none, errW_some] <;> rfl) | (simp [*, errW_none, errW_some] <;> rfl), by repeat (first | (with_reducible first | exact HB.out | apply below_alloc | apply pw_below_drewN | apply below_drew1 | refine below_set ?_ GE110.out) | exact HB.out)⟩
          rw [if_pos c13] at H
          have c13b0 : decide (x33_2 < (l0_3.length : Int)) = true := decide_eq_true c13
          clear c13
          by_cases c14 : 0 ≤ x33_2
          rotate_left
          · rw [if_neg c14] at H
            exact absurd H (by simp)
          rw [if_pos c14] at H
          have c14b0 : decide (0 ≤ x33_2) = true := decide_eq_true c14
          clear c14
          by_cases c15 : x33_2 < (l0_3.length : Int)
          rotate_left
          · rw [if_neg c15] at H
            exact absurd H (by simp)
          rw [if_pos c15] at H
          have c15b0 : decide (x33_2 < (l0_3.length : Int)) = true := decide_eq_true c15
          clear c15
          replace H := Option.bind_eq_some_iff.mp H
          obtain ⟨t114, A160, H⟩ := H
          replace H : (if t114 = true then (if x33_2 < (l0_4.length : Int) then ((spec_l11All.f k2 (rd_L1 l0_4 x33_2) 8 0 12).bind fun t116 => (if t116 = true then (spec_GoodTones.l0 k2 (l0_3.length : Int) (wrap64 (x33_2 + 1)) a0_0 a0_1 a0_2 l0_3 l0_4) else (some false))) else (none)) else (some false)) = some r := H
          have A16 := Aside0.mk A160
          clear A160
          by_cases c17 : t114 = true
          rotate_left
          · replace c17 := Bool.eq_false_iff.mpr c17
            subst c17
            have H1 : (some false) = some r := by rw [if_neg (show ¬ (false = true) by decide)] at H; exact H
            clear H
            have H := H1
            clear H1
            obtain rfl := Option.some.inj H
            have hcz23_0 : wr.cell? ⟨gb110, 0, none⟩ = some (.int .i64 a0_0) := (blk_cell BK110.out 0).trans rfl
            have hcz23_1 : wr.cell? ⟨gb110, 1, none⟩ = some (.int .i64 a0_1) := (blk_cell BK110.out 1).trans rfl
            have hcz23_2 : wr.cell? ⟨gb110, 2, none⟩ = some (.int .i64 a0_2) := (blk_cell BK110.out 2).trans rfl
            have hcz23_3 : wr.cell? ⟨gb110, 3, none⟩ = some (.slice A0_3 l0_3.length c0_3) := (blk_cell BK110.out 3).trans rfl
            have hcz23_4 : wr.cell? ⟨gb110, 4, none⟩ = some (.slice A0_4 l0_4.length c0_4) := (blk_cell BK110.out 4).trans rfl
            have hfz23_0 := blk_frozen BK110.out 0
            have hfz23_1 := blk_frozen BK110.out 1
            have hfz23_2 := blk_frozen BK110.out 2
            have hfz23_3 := blk_frozen BK110.out 3
            have hfz23_4 := blk_frozen BK110.out 4
            have p113 : 0 ≤ (x33_2 : Int) := of_decide_eq_true (by first | (with_reducible assumption) | assumption)
            have q113 : x33_2 < (l0_3.length : Int) := of_decide_eq_true (by first | (with_reducible assumption) | assumption)
            obtain ⟨ad113, A113_0, c113_0, e113, hx113_0, hl113_0, hi113_0⟩ := at_L1 HR0_3.out x33_2 p113 q113
            cases e113
            replace hx113_0 := (HB.out.cell (World.block_lt_of_cell? w _ hx113_0)).trans hx113_0
            have HR113_0 := Aside0.mk hi113_0
            have HC113_0 := Aside0.mk hl113_0
            clear hi113_0 hl113_0
            replace p113 := eq_true p113
            replace q113 := eq_true q113
            iterate 3 (try go_wp2_with (first | (go_at_call 39; (with_reducible refine (spec_l11All.calls k2 _ _ (rd_L1 l0_3 x33_2) 16 (-1048576) 1048575 false _ ?side1 ?side2 A16.out).mono ?_); (case side1 => repeat (first | exact (Kd.C_below HR113_0.out HB.out) | (with_reducible refine Kd.C_alloc ?_ _) | (with_reducible refine Kd.C_drewN ?_ _) | (with_reducible refine Kd.C_drew ?_))); (case side2 => exact HC113_0.out); rintro e w' ⟨rfl, ⟨nd, rfl⟩⟩; (try first | exact ⟨rfl, _, World.drewN_drewN _ _ _⟩ | exact ⟨rfl, _, Eq.trans (World.drewN_drewN _ _ _) (congrArg (World.drewN _) (Nat.add_assoc _ _ _))⟩))); try go_quiet (first | (go_at_call 39; (with_reducible refine (spec_l11All.calls k2 _ _ (rd_L1 l0_3 x33_2) 16 (-1048576) 1048575 false _ ?side1 ?side2 A16.out).mono ?_); (case side1 => repeat (first | exact (Kd.C_below HR113_0.out HB.out) | (with_reducible refine Kd.C_alloc ?_ _) | (with_reducible refine Kd.C_drewN ?_ _) | (with_reducible refine Kd.C_drew ?_))); (case side2 => exact HC113_0.out); rintro e w' ⟨rfl, ⟨nd, rfl⟩⟩; (try first | exact ⟨rfl, _, World.drewN_drewN _ _ _⟩ | exact ⟨rfl, _, Eq.trans (World.drewN_drewN _ _ _) (congrArg (World.drewN _) (Nat.add_assoc _ _ _))⟩))))
            go_ret
            exact ⟨by first | rfl | (simp [errW_none, errW_some] <;> rfl) | (simp [*, errW_none, errW_some] <;> rfl), by repeat (first | (with_reducible first | exact HB.out | apply below_alloc | apply pw_below_drewN | apply below_drew1 | refine below_set ?_ GE110.out) | exact HB.out)⟩
          subst c17
          have H1 : (if x33_2 < (l0_4.length : Int) then ((spec_l11All.f k2 (rd_L1 l0_4 x33_2) 8 0 12).bind fun t116 => (if t116 = true then (spec_GoodTones.l0 k2 (l0_3.length : Int) (wrap64 (x33_2 + 1)) a0_0 a0_1 a0_2 l0_3 l0_4) else (some false))) else (none)) = some r := by rw [if_pos rfl] at H; exact H
          clear H
          have H := H1
          clear H1
          by_cases c18 : x33_2 < (l0_4.length : Int)
          rotate_left
          · rw [if_neg c18] at H
            exact absurd H (by simp)
          rw [if_pos c18] at H
          have c18b0 : decide (x33_2 < (l0_4.length : Int)) = true := decide_eq_true c18
          clear c18
          replace H := Option.bind_eq_some_iff.mp H
          obtain ⟨t116, A190, H⟩ := H
          replace H : (if t116 = true then (spec_GoodTones.l0 k2 (l0_3.length : Int) (wrap64 (x33_2 + 1)) a0_0 a0_1 a0_2 l0_3 l0_4) else (some false)) = some r := H
          have A19 := Aside0.mk A190
          clear A190
          by_cases c20 : t116 = true
          rotate_left
          · replace c20 := Bool.eq_false_iff.mpr c20
            subst c20
            have H1 : (some false) = some r := by rw [if_neg (show ¬ (false = true) by decide)] at H; exact H
            clear H
            have H := H1
            clear H1
            obtain rfl := Option.some.inj H
            have hcz22_0 : wr.cell? ⟨gb110, 0, none⟩ = some (.int .i64 a0_0) := (blk_cell BK110.out 0).trans rfl
            have hcz22_1 : wr.cell? ⟨gb110, 1, none⟩ = some (.int .i64 a0_1) := (blk_cell BK110.out 1).trans rfl
            have hcz22_2 : wr.cell? ⟨gb110, 2, none⟩ = some (.int .i64 a0_2) := (blk_cell BK110.out 2).trans rfl
            have hcz22_3 : wr.cell? ⟨gb110, 3, none⟩ = some (.slice A0_3 l0_3.length c0_3) := (blk_cell BK110.out 3).trans rfl
            have hcz22_4 : wr.cell? ⟨gb110, 4, none⟩ = some (.slice A0_4 l0_4.length c0_4) := (blk_cell BK110.out 4).trans rfl
            have hfz22_0 := blk_frozen BK110.out 0
            have hfz22_1 := blk_frozen BK110.out 1
            have hfz22_2 := blk_frozen BK110.out 2
            have hfz22_3 := blk_frozen BK110.out 3
            have hfz22_4 := blk_frozen BK110.out 4
            have p113 : 0 ≤ (x33_2 : Int) := of_decide_eq_true (by first | (with_reducible assumption) | assumption)
            have q113 : x33_2 < (l0_3.length : Int) := of_decide_eq_true (by first | (with_reducible assumption) | assumption)
            obtain ⟨ad113, A113_0, c113_0, e113, hx113_0, hl113_0, hi113_0⟩ := at_L1 HR0_3.out x33_2 p113 q113
            cases e113
            replace hx113_0 := (HB.out.cell (World.block_lt_of_cell? w _ hx113_0)).trans hx113_0
            have HR113_0 := Aside0.mk hi113_0
            have HC113_0 := Aside0.mk hl113_0
            clear hi113_0 hl113_0
            replace p113 := eq_true p113
            replace q113 := eq_true q113
            have p115 : 0 ≤ (x33_2 : Int) := of_decide_eq_true (by first | (with_reducible assumption) | assumption); have q115 : x33_2 < (l0_4.length : Int) := of_decide_eq_true (by first | (with_reducible assumption) | assumption); obtain ⟨ad115, A115_0, c115_0, e115, hx115_0, hl115_0, hi115_0⟩ := at_L1 HR0_4.out x33_2 p115 q115; cases e115; replace hx115_0 := (HB.out.cell (World.block_lt_of_cell? w _ hx115_0)).trans hx115_0; have HR115_0 := Aside0.mk hi115_0; have HC115_0 := Aside0.mk hl115_0; clear hi115_0 hl115_0; replace p115 := eq_true p115; replace q115 := eq_true q115
            iterate 3 (try go_wp2_with (first | (go_at_call 39; (with_reducible refine (spec_l11All.calls k2 _ _ (rd_L1 l0_3 x33_2) 16 (-1048576) 1048575 true _ ?side1 ?side2 A16.out).mono ?_); (case side1 => repeat (first | exact (Kd.C_below HR113_0.out HB.out) | (with_reducible refine Kd.C_alloc ?_ _) | (with_reducible refine Kd.C_drewN ?_ _) | (with_reducible refine Kd.C_drew ?_))); (case side2 => exact HC113_0.out); rintro e w' ⟨rfl, ⟨nd, rfl⟩⟩; (try first | exact ⟨rfl, _, World.drewN_drewN _ _ _⟩ | exact ⟨rfl, _, Eq.trans (World.drewN_drewN _ _ _) (congrArg (World.drewN _) (Nat.add_assoc _ _ _))⟩)) | (go_at_call 39; (with_reducible refine (spec_l11All.calls k2 _ _ (rd_L1 l0_4 x33_2) 8 0 12 false _ ?side1 ?side2 A19.out).mono ?_); (case side1 => repeat (first | exact (Kd.C_below HR115_0.out (by repeat (first | (with_reducible first | exact HB.out | apply below_alloc | apply pw_below_drewN | apply below_drew1 | refine below_set ?_ GE110.out) | exact HB.out))) | (with_reducible refine Kd.C_alloc ?_ _) | (with_reducible refine Kd.C_drewN ?_ _) | (with_reducible refine Kd.C_drew ?_))); (case side2 => exact HC115_0.out); rintro e w' ⟨rfl, ⟨nd, rfl⟩⟩; (try first | exact ⟨rfl, _, World.drewN_drewN _ _ _⟩ | exact ⟨rfl, _, Eq.trans (World.drewN_drewN _ _ _) (congrArg (World.drewN _) (Nat.add_assoc _ _ _))⟩))); try go_quiet (first | (go_at_call 39; (with_reducible refine (spec_l11All.calls k2 _ _ (rd_L1 l0_3 x33_2) 16 (-1048576) 1048575 true _ ?side1 ?side2 A16.out).mono ?_); (case side1 => repeat (first | exact (Kd.C_below HR113_0.out HB.out) | (with_reducible refine Kd.C_alloc ?_ _) | (with_reducible refine Kd.C_drewN ?_ _) | (with_reducible refine Kd.C_drew ?_))); (case side2 => exact HC113_0.out); rintro e w' ⟨rfl, ⟨nd, rfl⟩⟩; (try first | exact ⟨rfl, _, World.drewN_drewN _ _ _⟩ | exact ⟨rfl, _, Eq.trans (World.drewN_drewN _ _ _) (congrArg (World.drewN _) (Nat.add_assoc _ _ _))⟩)) | (go_at_call 39; (with_reducible refine (spec_l11All.calls k2 _ _ (rd_L1 l0_4 x33_2) 8 0 12 false _ ?side1 ?side2 A19.out).mono ?_); (case side1 => repeat (first | exact (Kd.C_below HR115_0.out (by repeat (first | (with_reducible first | exact HB.out | apply below_alloc | apply pw_below_drewN | apply below_drew1 | refine below_set ?_ GE110.out) | exact HB.out))) | (with_reducible refine Kd.C_alloc ?_ _) | (with_reducible refine Kd.C_drewN ?_ _) | (with_reducible refine Kd.C_drew ?_))); (case side2 => exact HC115_0.out); rintro e w' ⟨rfl, ⟨nd, rfl⟩⟩; (try first | exact ⟨rfl, _, World.drewN_drewN _ _ _⟩ | exact ⟨rfl, _, Eq.trans (World.drewN_drewN _ _ _) (congrArg (World.drewN _) (Nat.add_assoc _ _ _))⟩))))
            go_ret
            exact ⟨by first | rfl | (simp [errW_none, errW_some] <;> rfl) | (simp [*, errW_none, errW_some] <;> rfl), by repeat (first | (with_reducible first | exact HB.out | apply below_alloc | apply pw_below_drewN | apply below_drew1 | refine below_set ?_ GE110.out) | exact HB.out)⟩
          subst c20
          have H1 : (spec_GoodTones.l0 k2 (l0_3.length : Int) (wrap64 (x33_2 + 1)) a0_0 a0_1 a0_2 l0_3 l0_4) = some r := by rw [if_pos rfl] at H; exact H
          clear H
          have H := H1
          clear H1
          have H' := Aside0.mk H
          clear H
          have hcz21_0 : wr.cell? ⟨gb110, 0, none⟩ = some (.int .i64 a0_0) := (blk_cell BK110.out 0).trans rfl
          have hcz21_1 : wr.cell? ⟨gb110, 1, none⟩ = some (.int .i64 a0_1) := (blk_cell BK110.out 1).trans rfl
          have hcz21_2 : wr.cell? ⟨gb110, 2, none⟩ = some (.int .i64 a0_2) := (blk_cell BK110.out 2).trans rfl
          have hcz21_3 : wr.cell? ⟨gb110, 3, none⟩ = some (.slice A0_3 l0_3.length c0_3) := (blk_cell BK110.out 3).trans rfl
          have hcz21_4 : wr.cell? ⟨gb110, 4, none⟩ = some (.slice A0_4 l0_4.length c0_4) := (blk_cell BK110.out 4).trans rfl
          have hfz21_0 := blk_frozen BK110.out 0
          have hfz21_1 := blk_frozen BK110.out 1
          have hfz21_2 := blk_frozen BK110.out 2
          have hfz21_3 := blk_frozen BK110.out 3
          have hfz21_4 := blk_frozen BK110.out 4
          have p113 : 0 ≤ (x33_2 : Int) := of_decide_eq_true (by first | (with_reducible assumption) | assumption)
          have q113 : x33_2 < (l0_3.length : Int) := of_decide_eq_true (by first | (with_reducible assumption) | assumption)
          obtain ⟨ad113, A113_0, c113_0, e113, hx113_0, hl113_0, hi113_0⟩ := at_L1 HR0_3.out x33_2 p113 q113
          cases e113
          replace hx113_0 := (HB.out.cell (World.block_lt_of_cell? w _ hx113_0)).trans hx113_0
          have HR113_0 := Aside0.mk hi113_0
          have HC113_0 := Aside0.mk hl113_0
          clear hi113_0 hl113_0
          replace p113 := eq_true p113
          replace q113 := eq_true q113
          have p115 : 0 ≤ (x33_2 : Int) := of_decide_eq_true (by first | (with_reducible assumption) | assumption); have q115 : x33_2 < (l0_4.length : Int) := of_decide_eq_true (by first | (with_reducible assumption) | assumption); obtain ⟨ad115, A115_0, c115_0, e115, hx115_0, hl115_0, hi115_0⟩ := at_L1 HR0_4.out x33_2 p115 q115; cases e115; replace hx115_0 := (HB.out.cell (World.block_lt_of_cell? w _ hx115_0)).trans hx115_0; have HR115_0 := Aside0.mk hi115_0; have HC115_0 := Aside0.mk hl115_0; clear hi115_0 hl115_0; replace p115 := eq_true p115; replace q115 := eq_true q115
          iterate 3 (try go_wp2_with (first | (go_at_call 39; (with_reducible refine (spec_l11All.calls k2 _ _ (rd_L1 l0_3 x33_2) 16 (-1048576) 1048575 true _ ?side1 ?side2 A16.out).mono ?_); (case side1 => repeat (first | exact (Kd.C_below HR113_0.out HB.out) | (with_reducible refine Kd.C_alloc ?_ _) | (with_reducible refine Kd.C_drewN ?_ _) | (with_reducible refine Kd.C_drew ?_))); (case side2 => exact HC113_0.out); rintro e w' ⟨rfl, ⟨nd, rfl⟩⟩; (try first | exact ⟨rfl, _, World.drewN_drewN _ _ _⟩ | exact ⟨rfl, _, Eq.trans (World.drewN_drewN _ _ _) (congrArg (World.drewN _) (Nat.add_assoc _ _ _))⟩)) | (go_at_call 39; (with_reducible refine (spec_l11All.calls k2 _ _ (rd_L1 l0_4 x33_2) 8 0 12 true _ ?side1 ?side2 A19.out).mono ?_); (case side1 => repeat (first | exact (Kd.C_below HR115_0.out (by repeat (first | (with_reducible first | exact HB.out | apply below_alloc | apply pw_below_drewN | apply below_drew1 | refine below_set ?_ GE110.out) | exact HB.out))) | (with_reducible refine Kd.C_alloc ?_ _) | (with_reducible refine Kd.C_drewN ?_ _) | (with_reducible refine Kd.C_drew ?_))); (case side2 => exact HC115_0.out); rintro e w' ⟨rfl, ⟨nd, rfl⟩⟩; (try first | exact ⟨rfl, _, World.drewN_drewN _ _ _⟩ | exact ⟨rfl, _, Eq.trans (World.drewN_drewN _ _ _) (congrArg (World.drewN _) (Nat.add_assoc _ _ _))⟩))); try go_quiet (first | (go_at_call 39; (with_reducible refine (spec_l11All.calls k2 _ _ (rd_L1 l0_3 x33_2) 16 (-1048576) 1048575 true _ ?side1 ?side2 A16.out).mono ?_); (case side1 => repeat (first | exact (Kd.C_below HR113_0.out HB.out) | (with_reducible refine Kd.C_alloc ?_ _) | (with_reducible refine Kd.C_drewN ?_ _) | (with_reducible refine Kd.C_drew ?_))); (case side2 => exact HC113_0.out); rintro e w' ⟨rfl, ⟨nd, rfl⟩⟩; (try first | exact ⟨rfl, _, World.drewN_drewN _ _ _⟩ | exact ⟨rfl, _, Eq.trans (World.drewN_drewN _ _ _) (congrArg (World.drewN _) (Nat.add_assoc _ _ _))⟩)) | (go_at_call 39; (with_reducible refine (spec_l11All.calls k2 _ _ (rd_L1 l0_4 x33_2) 8 0 12 true _ ?side1 ?side2 A19.out).mono ?_); (case side1 => repeat (first | exact (Kd.C_below HR115_0.out (by repeat (first | (with_reducible first | exact HB.out | apply below_alloc | apply pw_below_drewN | apply below_drew1 | refine below_set ?_ GE110.out) | exact HB.out))) | (with_reducible refine Kd.C_alloc ?_ _) | (with_reducible refine Kd.C_drewN ?_ _) | (with_reducible refine Kd.C_drew ?_))); (case side2 => exact HC115_0.out); rintro e w' ⟨rfl, ⟨nd, rfl⟩⟩; (try first | exact ⟨rfl, _, World.drewN_drewN _ _ _⟩ | exact ⟨rfl, _, Eq.trans (World.drewN_drewN _ _ _) (congrArg (World.drewN _) (Nat.add_assoc _ _ _))⟩))))
          go_roundg k2
          case measure => have := HJ1.out; have := HK2.out; omega
          case rel => exact ⟨(wrap64 (x33_2 + 1)), (by first | rfl | (simp; done) | (simp [*]; done)), H', ⟨by have := HJ1.out; have := HK2.out; omega⟩, ⟨by (with_reducible repeat (first | refine blk_drewN ?_ _ | refine blk_drew ?_ | refine blk_alloc ?_ _)); exact BK110.out⟩, ⟨by repeat (first | (with_reducible first | exact HB.out | apply below_alloc | apply pw_below_drewN | apply below_drew1 | refine below_set ?_ GE110.out) | exact HB.out)⟩⟩

/-! ### spec_l11Table: function 40 -/
def spec_l11Table.f  : Option (List Int) := some (([16384, 16364, 16305, 16207, 16069, 15893, 15679, 15426, 15137, 14811, 14449, 14053, 13623, 13160, 12665, 12140, 11585, 11003, 10394, 9760, 9102, 8423, 7723, 7005, 6270, 5520, 4756, 3981, 3196, 2404, 1606, 804, 0] : List Int))
set_option maxHeartbeats 8000000 in
set_option maxRecDepth 100000 in
theorem spec_l11Table.calls  (r : List Int) (w : World) (h : spec_l11Table.f  = some r) :
    Calls Tryd.prog 40 #[] w fun e w' => ∃ v0_ : Value, e = .returned (v0_) ∧ Kd.R (Kd.int .i64) 3 w' w.heap.size (fun _ => True) v0_ r ∧ Below w.heap.size w w' := by
  have HB := Aside0.mk (Below.refl w.heap.size w)
  have H : (some (([16384, 16364, 16305, 16207, 16069, 15893, 15679, 15426, 15137, 14811, 14449, 14053, 13623, 13160, 12665, 12140, 11585, 11003, 10394, 9760, 9102, 8423, 7723, 7005, 6270, 5520, 4756, 3981, 3196, 2404, 1606, 804, 0] : List Int))) = some r := h
  clear h
  obtain ⟨y117, hy117⟩ : ∃ y_ : List Int, y_ = (([16384, 16364, 16305, 16207, 16069, 15893, 15679, 15426, 15137, 14811, 14449, 14053, 13623, 13160, 12665, 12140, 11585, 11003, 10394, 9760, 9102, 8423, 7723, 7005, 6270, 5520, 4756, 3981, 3196, 2404, 1606, 804, 0] : List Int)) := ⟨_, rfl⟩
  replace H : (some y117) = some r := by first | (rw [hy117]; with_reducible exact H) | (have H2_ := (Option.bind_some _ _).symm.trans H; rw [hy117]; with_reducible exact H2_) | (have H2_ := (Option.bind_some _ _).symm.trans H; with_reducible exact H2_) | with_reducible exact H | (rw [hy117]; exact H) | exact H
  have Ny117 := Aside0.mk hy117
  clear hy117
  obtain rfl := Option.some.inj H
  go_enter Tryd.func40, Tryd.ntmps40
  go_wp2_with (first | ((with_reducible refine gate_dst (N := 1) rfl ?_); refine Kd.R_lit (Kd.int .i64) _ 3 ?hg (N := 1) ?hd (xs := ([16384, 16364, 16305, 16207, 16069, 15893, 15679, 15426, 15137, 14811, 14449, 14053, 13623, 13160, 12665, 12140, 11585, 11003, 10394, 9760, 9102, 8423, 7723, 7005, 6270, 5520, 4756, 3981, 3196, 2404, 1606, 804, 0] : List Int)) (inner := [.int .i64 16384, .int .i64 16364, .int .i64 16305, .int .i64 16207, .int .i64 16069, .int .i64 15893, .int .i64 15679, .int .i64 15426, .int .i64 15137, .int .i64 14811, .int .i64 14449, .int .i64 14053, .int .i64 13623, .int .i64 13160, .int .i64 12665, .int .i64 12140, .int .i64 11585, .int .i64 11003, .int .i64 10394, .int .i64 9760, .int .i64 9102, .int .i64 8423, .int .i64 7723, .int .i64 7005, .int .i64 6270, .int .i64 5520, .int .i64 4756, .int .i64 3981, .int .i64 3196, .int .i64 2404, .int .i64 1606, .int .i64 804, .int .i64 0]) (ok := fun _ => True) (okp := fun _ => True) ?hr ?hp (fun _ hk => hk) trivial (Below.refl _ _) (Nat.le_refl _) (by simp) ?_; (case hd => rfl); (case hg => rfl); (case hr => first | (go_simp; done) | (go_simp; rfl)); (case hp => exact (Reps.one (show Kd.M (Kd.int .i64) _ _ _ 16384 [.int .i64 16384] from rfl) (Reps.one (show Kd.M (Kd.int .i64) _ _ _ 16364 [.int .i64 16364] from rfl) (Reps.one (show Kd.M (Kd.int .i64) _ _ _ 16305 [.int .i64 16305] from rfl) (Reps.one (show Kd.M (Kd.int .i64) _ _ _ 16207 [.int .i64 16207] from rfl) (Reps.one (show Kd.M (Kd.int .i64) _ _ _ 16069 [.int .i64 16069] from rfl) (Reps.one (show Kd.M (Kd.int .i64) _ _ _ 15893 [.int .i64 15893] from rfl) (Reps.one (show Kd.M (Kd.int .i64) _ _ _ 15679 [.int .i64 15679] from rfl) (Reps.one (show Kd.M (Kd.int .i64) _ _ _ 15426 [.int .i64 15426] from rfl) (Reps.one (show Kd.M (Kd.int .i64) _ _ _ 15137 [.int .i64 15137] from rfl) (Reps.one (show Kd.M (Kd.int .i64) _ _ _ 14811 [.int .i64 14811] from rfl) (Reps.one (show Kd.M (Kd.int .i64) _ _ _ 14449 [.int .i64 14449] from rfl) (Reps.one (show Kd.M (Kd.int .i64) _ _ _ 14053 [.int .i64 14053] from rfl) (Reps.one (show Kd.M (Kd.int .i64) _ _ _ 13623 [.int .i64 13623] from rfl) (Reps.one (show Kd.M (Kd.int .i64) _ _ _ 13160 [.int .i64 13160] from rfl) (Reps.one (show Kd.M (Kd.int .i64) _ _ _ 12665 [.int .i64 12665] from rfl) (Reps.one (show Kd.M (Kd.int .i64) _ _ _ 12140 [.int .i64 12140] from rfl) (Reps.one (show Kd.M (Kd.int .i64) _ _ _ 11585 [.int .i64 11585] from rfl) (Reps.one (show Kd.M (Kd.int .i64) _ _ _ 11003 [.int .i64 11003] from rfl) (Reps.one (show Kd.M (Kd.int .i64) _ _ _ 10394 [.int .i64 10394] from rfl) (Reps.one (show Kd.M (Kd.int .i64) _ _ _ 9760 [.int .i64 9760] from rfl) (Reps.one (show Kd.M (Kd.int .i64) _ _ _ 9102 [.int .i64 9102] from rfl) (Reps.one (show Kd.M (Kd.int .i64) _ _ _ 8423 [.int .i64 8423] from rfl) (Reps.one (show Kd.M (Kd.int .i64) _ _ _ 7723 [.int .i64 7723] from rfl) (Reps.one (show Kd.M (Kd.int .i64) _ _ _ 7005 [.int .i64 7005] from rfl) (Reps.one (show Kd.M (Kd.int .i64) _ _ _ 6270 [.int .i64 6270] from rfl) (Reps.one (show Kd.M (Kd.int .i64) _ _ _ 5520 [.int .i64 5520] from rfl) (Reps.one (show Kd.M (Kd.int .i64) _ _ _ 4756 [.int .i64 4756] from rfl) (Reps.one (show Kd.M (Kd.int .i64) _ _ _ 3981 [.int .i64 3981] from rfl) (Reps.one (show Kd.M (Kd.int .i64) _ _ _ 3196 [.int .i64 3196] from rfl) (Reps.one (show Kd.M (Kd.int .i64) _ _ _ 2404 [.int .i64 2404] from rfl) (Reps.one (show Kd.M (Kd.int .i64) _ _ _ 1606 [.int .i64 1606] from rfl) (Reps.one (show Kd.M (Kd.int .i64) _ _ _ 804 [.int .i64 804] from rfl) (Reps.one (show Kd.M (Kd.int .i64) _ _ _ 0 [.int .i64 0] from rfl) (Reps.none _ _))))))))))))))))))))))))))))))))))); intro v118 w1 ho2 hb hg_ hnew_; clear hg_ hnew_; (first | rw [← Ny117.out] at ho2 | (simp only [Int.reduceToNat] at ho2; rw [← Ny117.out] at ho2)); have n0_ := Aside0.mk (Kd.R_lower ho2 (below_size (by repeat (first | (with_reducible first | exact HB.out | apply below_alloc | apply pw_below_drewN | apply below_drew1) | exact HB.out)))); have n1_ := Aside0.mk (below_step (by repeat (first | (with_reducible first | exact HB.out | apply below_alloc | apply pw_below_drewN | apply below_drew1) | exact HB.out)) hb); clear HB; have HO119 := n0_; have HB := n1_; clear n0_ n1_; clear hb ho2))
  go_ret
  exact ⟨_, by first | rfl | (simp [errW_none, errW_some] <;> rfl) | (simp [*, errW_none, errW_some] <;> rfl), by (with_reducible repeat (first | apply Kd.R_alloc | apply Kd.R_drewN | apply Kd.R_drew)); exact HO119.out, by repeat (first | (with_reducible first | exact HB.out | apply below_alloc | apply pw_below_drewN | apply below_drew1) | exact HB.out)⟩

/-! ### spec_l11C: function 42 -/
def spec_l11C.f (l0 : List Int) (a1 : Int) : Option (Int) := if (Go.bits .and .i64 a1 127) ≤ 32 then (if 0 ≤ (Go.bits .and .i64 a1 127) then (if (Go.bits .and .i64 a1 127) < (l0.length : Int) then (some (rd l0 (Go.bits .and .i64 a1 127))) else (none)) else (none)) else (if (Go.bits .and .i64 a1 127) ≤ 64 then (if 0 ≤ (wrap64 (64 - (Go.bits .and .i64 a1 127))) then (if (wrap64 (64 - (Go.bits .and .i64 a1 127))) < (l0.length : Int) then (some (wrap64 (-(rd l0 (wrap64 (64 - (Go.bits .and .i64 a1 127))))))) else (none)) else (none)) else (if (Go.bits .and .i64 a1 127) ≤ 96 then (if 0 ≤ (wrap64 ((Go.bits .and .i64 a1 127) - 64)) then (if (wrap64 ((Go.bits .and .i64 a1 127) - 64)) < (l0.length : Int) then (some (wrap64 (-(rd l0 (wrap64 ((Go.bits .and .i64 a1 127) - 64)))))) else (none)) else (none)) else (if 0 ≤ (wrap64 (128 - (Go.bits .and .i64 a1 127))) then (if (wrap64 (128 - (Go.bits .and .i64 a1 127))) < (l0.length : Int) then (some (rd l0 (wrap64 (128 - (Go.bits .and .i64 a1 127))))) else (none)) else (none))))
set_option maxHeartbeats 8000000 in
set_option maxRecDepth 100000 in
theorem spec_l11C.calls (A0 : Option Addr) (c0 : Nat) (l0 : List Int) (a1 : Int) (r : Int) (w : World) (hr0 : Kd.C (Kd.int .i64) w A0 l0.length l0) (hc0 : l0.length ≤ c0) (h : spec_l11C.f l0 a1 = some r) :
    Calls Tryd.prog 42 #[.slice A0 l0.length c0, .int .i64 a1] w fun e w' => e = .returned (.int .i64 r) ∧ Drawn0 w w' := by
  have HR0 := Aside0.mk hr0
  have HC0 := Aside0.mk hc0
  clear hr0 hc0
  have H : (if (Go.bits .and .i64 a1 127) ≤ 32 then (if 0 ≤ (Go.bits .and .i64 a1 127) then (if (Go.bits .and .i64 a1 127) < (l0.length : Int) then (some (rd l0 (Go.bits .and .i64 a1 127))) else (none)) else (none)) else (if (Go.bits .and .i64 a1 127) ≤ 64 then (if 0 ≤ (wrap64 (64 - (Go.bits .and .i64 a1 127))) then (if (wrap64 (64 - (Go.bits .and .i64 a1 127))) < (l0.length : Int) then (some (wrap64 (-(rd l0 (wrap64 (64 - (Go.bits .and .i64 a1 127))))))) else (none)) else (none)) else (if (Go.bits .and .i64 a1 127) ≤ 96 then (if 0 ≤ (wrap64 ((Go.bits .and .i64 a1 127) - 64)) then (if (wrap64 ((Go.bits .and .i64 a1 127) - 64)) < (l0.length : Int) then (some (wrap64 (-(rd l0 (wrap64 ((Go.bits .and .i64 a1 127) - 64)))))) else (none)) else (none)) else (if 0 ≤ (wrap64 (128 - (Go.bits .and .i64 a1 127))) then (if (wrap64 (128 - (Go.bits .and .i64 a1 127))) < (l0.length : Int) then (some (rd l0 (wrap64 (128 - (Go.bits .and .i64 a1 127))))) else (none)) else (none))))) = some r := h
  clear h
  by_cases c3 : (Go.bits .and .i64 a1 127) ≤ 32
  · rw [if_pos c3] at H
    have c3b0 : decide ((Go.bits .and .i64 a1 127) ≤ 32) = true := decide_eq_true c3
    clear c3
    by_cases c4 : 0 ≤ (Go.bits .and .i64 a1 127)
    rotate_left
    · rw [if_neg c4] at H
      exact absurd H (by simp)
    rw [if_pos c4] at H
    have c4b0 : decide (0 ≤ (Go.bits .and .i64 a1 127)) = true := decide_eq_true c4
    clear c4
    by_cases c5 : (Go.bits .and .i64 a1 127) < (l0.length : Int)
    rotate_left
    · rw [if_neg c5] at H
      exact absurd H (by simp)
    rw [if_pos c5] at H
    have c5b0 : decide ((Go.bits .and .i64 a1 127) < (l0.length : Int)) = true := decide_eq_true c5
    clear c5
    obtain rfl := Option.some.inj H
    have p120 : 0 ≤ ((Go.bits .and .i64 a1 127) : Int) := of_decide_eq_true (by first | (with_reducible assumption) | assumption)
    have q120 : (Go.bits .and .i64 a1 127) < (l0.length : Int) := of_decide_eq_true (by first | (with_reducible assumption) | assumption)
    obtain ⟨ad120, e120, hx120_0⟩ := Kd.at_int HR0.out (Go.bits .and .i64 a1 127) p120 q120
    cases e120
    replace p120 := eq_true p120
    replace q120 := eq_true q120
    go_enter Tryd.func42, Tryd.ntmps42
    go_wp2
    go_ret
    exact ⟨by first | rfl | (simp; done) | (simp [*]; done), by repeat (first | exact Drawn0.refl _ | apply Drawn0.step)⟩
  rw [if_neg c3] at H
  have c3b0 : decide ((Go.bits .and .i64 a1 127) ≤ 32) = false := decide_eq_false c3
  clear c3
  by_cases c6 : (Go.bits .and .i64 a1 127) ≤ 64
  · rw [if_pos c6] at H
    have c6b0 : decide ((Go.bits .and .i64 a1 127) ≤ 64) = true := decide_eq_true c6
    clear c6
    obtain ⟨ji7, hji7⟩ : ∃ j_ : Int, (wrap64 (64 - (Go.bits .and .i64 a1 127))) = j_ := ⟨_, rfl⟩
    replace H : (if 0 ≤ (ji7) then (if (ji7) < (l0.length : Int) then (some (wrap64 (-(rd l0 (ji7))))) else (none)) else (none)) = some r := by first | (rw [hji7] at H; exact H) | (simp only [hji7] at H ⊢; exact H)
    have hji7w : (IntKind.i64.wrap (64 - (Go.bits .and .i64 a1 127))) = ji7 := (i64_w _).trans hji7
    by_cases c8 : 0 ≤ (ji7)
    rotate_left
    · rw [if_neg c8] at H
      exact absurd H (by simp)
    rw [if_pos c8] at H
    have c8b0 : decide (0 ≤ (ji7)) = true := decide_eq_true c8
    clear c8
    by_cases c9 : (ji7) < (l0.length : Int)
    rotate_left
    · rw [if_neg c9] at H
      exact absurd H (by simp)
    rw [if_pos c9] at H
    have c9b0 : decide ((ji7) < (l0.length : Int)) = true := decide_eq_true c9
    clear c9
    obtain rfl := Option.some.inj H
    have p121 : 0 ≤ ((ji7) : Int) := of_decide_eq_true (by first | (with_reducible assumption) | assumption)
    have q121 : (ji7) < (l0.length : Int) := of_decide_eq_true (by first | (with_reducible assumption) | assumption)
    obtain ⟨ad121, e121, hx121_0⟩ := Kd.at_int HR0.out (ji7) p121 q121
    cases e121
    replace p121 := eq_true p121
    replace q121 := eq_true q121
    go_enter Tryd.func42, Tryd.ntmps42
    go_wp2
    go_ret
    exact ⟨by first | rfl | (simp; done) | (simp only [← hji7] <;> (first | rfl | simp)) | (simp [*]; done), by repeat (first | exact Drawn0.refl _ | apply Drawn0.step)⟩
  rw [if_neg c6] at H
  have c6b0 : decide ((Go.bits .and .i64 a1 127) ≤ 64) = false := decide_eq_false c6
  clear c6
  by_cases c10 : (Go.bits .and .i64 a1 127) ≤ 96
  rotate_left
  · rw [if_neg c10] at H
    have c10b0 : decide ((Go.bits .and .i64 a1 127) ≤ 96) = false := decide_eq_false c10
    clear c10
    obtain ⟨ji14, hji14⟩ : ∃ j_ : Int, (wrap64 (128 - (Go.bits .and .i64 a1 127))) = j_ := ⟨_, rfl⟩
    replace H : (if 0 ≤ (ji14) then (if (ji14) < (l0.length : Int) then (some (rd l0 (ji14))) else (none)) else (none)) = some r := by first | (rw [hji14] at H; exact H) | (simp only [hji14] at H ⊢; exact H)
    have hji14w : (IntKind.i64.wrap (128 - (Go.bits .and .i64 a1 127))) = ji14 := (i64_w _).trans hji14
    by_cases c15 : 0 ≤ (ji14)
    rotate_left
    · rw [if_neg c15] at H
      exact absurd H (by simp)
    rw [if_pos c15] at H
    have c15b0 : decide (0 ≤ (ji14)) = true := decide_eq_true c15
    clear c15
    by_cases c16 : (ji14) < (l0.length : Int)
    rotate_left
    · rw [if_neg c16] at H
      exact absurd H (by simp)
    rw [if_pos c16] at H
    have c16b0 : decide ((ji14) < (l0.length : Int)) = true := decide_eq_true c16
    clear c16
    obtain rfl := Option.some.inj H
    have p123 : 0 ≤ ((ji14) : Int) := of_decide_eq_true (by first | (with_reducible assumption) | assumption)
    have q123 : (ji14) < (l0.length : Int) := of_decide_eq_true (by first | (with_reducible assumption) | assumption)
    obtain ⟨ad123, e123, hx123_0⟩ := Kd.at_int HR0.out (ji14) p123 q123
    cases e123
    replace p123 := eq_true p123
    replace q123 := eq_true q123
    go_enter Tryd.func42, Tryd.ntmps42
    go_wp2
    go_ret
    exact ⟨by first | rfl | (simp; done) | (simp only [← hji14] <;> (first | rfl | simp)) | (simp [*]; done), by repeat (first | exact Drawn0.refl _ | apply Drawn0.step)⟩
  rw [if_pos c10] at H
  have c10b0 : decide ((Go.bits .and .i64 a1 127) ≤ 96) = true := decide_eq_true c10
  clear c10
  obtain ⟨ji11, hji11⟩ : ∃ j_ : Int, (wrap64 ((Go.bits .and .i64 a1 127) - 64)) = j_ := ⟨_, rfl⟩
  replace H : (if 0 ≤ (ji11) then (if (ji11) < (l0.length : Int) then (some (wrap64 (-(rd l0 (ji11))))) else (none)) else (none)) = some r := by first | (rw [hji11] at H; exact H) | (simp only [hji11] at H ⊢; exact H)
  have hji11w : (IntKind.i64.wrap ((Go.bits .and .i64 a1 127) - 64)) = ji11 := (i64_w _).trans hji11
  by_cases c12 : 0 ≤ (ji11)
  rotate_left
  · rw [if_neg c12] at H
    exact absurd H (by simp)
  rw [if_pos c12] at H
  have c12b0 : decide (0 ≤ (ji11)) = true := decide_eq_true c12
  clear c12
  by_cases c13 : (ji11) < (l0.length : Int)
  rotate_left
  · rw [if_neg c13] at H
    exact absurd H (by simp)
  rw [if_pos c13] at H
  have c13b0 : decide ((ji11) < (l0.length : Int)) = true := decide_eq_true c13
  clear c13
  obtain rfl := Option.some.inj H
  have p122 : 0 ≤ ((ji11) : Int) := of_decide_eq_true (by first | (with_reducible assumption) | assumption)
  have q122 : (ji11) < (l0.length : Int) := of_decide_eq_true (by first | (with_reducible assumption) | assumption)
  obtain ⟨ad122, e122, hx122_0⟩ := Kd.at_int HR0.out (ji11) p122 q122
  cases e122
  replace p122 := eq_true p122
  replace q122 := eq_true q122
  go_enter Tryd.func42, Tryd.ntmps42
  go_wp2
  go_ret
  exact ⟨by first | rfl | (simp; done) | (simp only [← hji11] <;> (first | rfl | simp)) | (simp [*]; done), by repeat (first | exact Drawn0.refl _ | apply Drawn0.step)⟩

/-! ### spec_Window: function 41 -/
def spec_Window.l0 : Nat → List Int → List Int → Int → Int → Option (List Int)
  | 0, _, _, _, _ => none
  | k + 1, x1, x2, x7, x8 => if x8 < x7 then ((spec_l11C.f x1 (wrap64 (31 - (wrap64 (2 * x8))))).bind fun t130 => (if 0 ≤ x8 then (if x8 < (x2.length : Int) then (spec_Window.l0 k x1 (x2.set (x8 : Int).toNat t130) x7 (wrap64 (x8 + 1))) else (none)) else (none))) else (some x2)
def spec_Window.f (k : Nat)  : Option (List Int) := (spec_l11Table.f).bind fun t124 => (if 32 ≤ 35184372088832 then ((some (List.replicate 32 0 : List Int)).bind fun y127 => (spec_Window.l0 k t124 y127 (y127.length : Int) 0)) else (none))
theorem spec_Window.mono_l : ∀ k, (∀ y0 y1 y2 y3, LeO (spec_Window.l0 k y0 y1 y2 y3) (spec_Window.l0 (k + 1) y0 y1 y2 y3))
  | 0 => fun _ _ _ _ r h => by simp [spec_Window.l0] at h
  | k + 1 => by
    have ih0 := spec_Window.mono_l k
    · intro y0 y1 y2 y3
      unfold spec_Window.l0
      repeat' first
      | (with_reducible exact ih0 _ _ _ _)
      | (with_reducible exact LeO.refl _)
      | (with_reducible exact LeO.none _)
      | (with_reducible refine LeO.ite ?_ ?_)
      | (with_reducible refine LeO.bind ?_ (fun _ => ?_))
      | exact ih0 _ _ _ _
      | exact LeO.none _
      | refine LeO.ite ?_ ?_
      | refine LeO.bind ?_ (fun _ => ?_)
theorem spec_Window.mono : ∀ k, LeO (spec_Window.f k ) (spec_Window.f (k + 1) ) := by
  intro  k
  have ih0 := spec_Window.mono_l k
  unfold spec_Window.f
  repeat' first
      | (with_reducible exact ih0 _ _ _ _)
      | (with_reducible exact LeO.refl _)
      | (with_reducible exact LeO.none _)
      | (with_reducible refine LeO.ite ?_ ?_)
      | (with_reducible refine LeO.bind ?_ (fun _ => ?_))
      | exact ih0 _ _ _ _
      | exact LeO.none _
      | refine LeO.ite ?_ ?_
      | refine LeO.bind ?_ (fun _ => ?_)
set_option maxHeartbeats 8000000 in
set_option maxRecDepth 100000 in
theorem spec_Window.calls (k : Nat)  (r : List Int) (w : World) (h : spec_Window.f k  = some r) :
    Calls Tryd.prog 41 #[] w fun e w' => ∃ v0_ : Value, e = .returned (v0_) ∧ Kd.R (Kd.int .i64) 3 w' w.heap.size (fun _ => True) v0_ r ∧ Below w.heap.size w w' := by
  have HB := Aside0.mk (Below.refl w.heap.size w)
  have H : ((spec_l11Table.f).bind fun t124 => (if 32 ≤ 35184372088832 then ((some (List.replicate 32 0 : List Int)).bind fun y127 => (spec_Window.l0 k t124 y127 (y127.length : Int) 0)) else (none))) = some r := h
  clear h
  replace H := Option.bind_eq_some_iff.mp H
  obtain ⟨t124, A10, H⟩ := H
  replace H : (if 32 ≤ 35184372088832 then ((some (List.replicate 32 0 : List Int)).bind fun y127 => (spec_Window.l0 k t124 y127 (y127.length : Int) 0)) else (none)) = some r := H
  have A1 := Aside0.mk A10
  clear A10
  by_cases c2 : 32 ≤ 35184372088832
  rotate_left
  · rw [if_neg c2] at H
    exact absurd H (by simp)
  rw [if_pos c2] at H
  have c2b0 := eq_true c2
  have c2b1 : decide (32 ≤ 35184372088832) = true := decide_eq_true c2
  clear c2
  obtain ⟨y127, hy127⟩ : ∃ y_ : List Int, y_ = (List.replicate 32 0) := ⟨_, rfl⟩
  replace H : (spec_Window.l0 k t124 y127 (y127.length : Int) 0) = some r := by first | (rw [hy127]; with_reducible exact H) | (have H2_ := (Option.bind_some _ _).symm.trans H; rw [hy127]; with_reducible exact H2_) | (have H2_ := (Option.bind_some _ _).symm.trans H; with_reducible exact H2_) | with_reducible exact H | (rw [hy127]; exact H) | exact H
  have Ny127 := Aside0.mk hy127
  clear hy127
  have H' := Aside0.mk H
  clear H
  go_enter Tryd.func41, Tryd.ntmps41
  go_wp2_with (first | ((with_reducible refine gate_callee (f := 40) rfl ?_); refine goesL_ (some 4) rfl rfl Tryd.func40 (by kernel_rfl) rfl #[] rfl (by (try simp only [List.map_toArray, List.map_cons, List.map_nil]); first | done | rfl | (simp only [List.length_drop, List.length_take]; rfl)) ?_; (with_reducible refine (spec_l11Table.calls  t124 _ A1.out).mono ?_); rintro e w3 ⟨v125, rfl, ho0, hb⟩; refine ⟨_, rfl, ?_⟩; have n0_ := Aside0.mk (Kd.R_lower ho0 (below_size (by repeat (first | (with_reducible first | exact HB.out | apply below_alloc | apply pw_below_drewN | apply below_drew1) | exact HB.out)))); have n1_ := Aside0.mk (below_step (by repeat (first | (with_reducible first | exact HB.out | apply below_alloc | apply pw_below_drewN | apply below_drew1) | exact HB.out)) hb); clear HB; have HO126 := n0_; have HB := n1_; clear n0_ n1_; (try clear hb); (try clear hb2); (try clear hk); (try clear hi); (try clear ho0)) | ((with_reducible refine gate_dst (N := 5) rfl ?_); refine Kd.R_make (Kd.int .i64) _ 3 rfl (N := 5) rfl 22 _ _ rfl 32 rfl rfl Tryd.underlying22 (.int .i64 0) 8 info3 rfl (by decide) (by omega) 0 (ok := fun _ => True) (okp := fun _ => True) rfl (fun _ hk => hk) trivial (by omega) (by omega) (Below.refl _ _) (Nat.le_refl _) ?_; intro v128 w4 ho5 hb hg_ hnew_; clear hg_ hnew_; (first | rw [← Ny127.out] at ho5 | (simp only [Int.reduceToNat] at ho5; rw [← Ny127.out] at ho5)); have n0_ := Aside0.mk (Kd.R_elder' (by (with_reducible repeat (first | apply Kd.R_alloc | apply Kd.R_drewN | apply Kd.R_drew)); exact HO126.out) (Kd.R_base ho5) hb); have n1_ := Aside0.mk (Kd.R_lower (Kd.R_new' ho5 (Kd.R_lt (by (with_reducible repeat (first | apply Kd.R_alloc | apply Kd.R_drewN | apply Kd.R_drew)); exact HO126.out))) (below_size (by repeat (first | (with_reducible first | exact HB.out | apply below_alloc | apply pw_below_drewN | apply below_drew1) | exact HB.out)))); have n2_ := Aside0.mk (below_step (by repeat (first | (with_reducible first | exact HB.out | apply below_alloc | apply pw_below_drewN | apply below_drew1) | exact HB.out)) hb); clear HO126; clear HB; have HO126 := n0_; have HO129 := n1_; have HB := n2_; clear n0_ n1_ n2_; clear hb ho5; obtain ⟨Ao6, co6, eo6⟩ := Kd.R_slice HO129.out; subst eo6))
  go_loopg [8] k (fun kq v8 w' => ∃ (x2_1 : List Int) (x8_1 : Int), v8 = .int .i64 x8_1 ∧ Aside0 (spec_Window.l0 kq t124 x2_1 (y127.length : Int) x8_1 = some r) ∧ Aside0 (kq ≤ k) ∧ Aside0 (Kd.R (Kd.int .i64) 3 w' w.heap.size (fun k_ => some k_ ≠ ((.slice Ao6 y127.length co6) : Value).ownBlock) v125 t124) ∧ Aside0 (Kd.R (Kd.int .i64) 3 w' w.heap.size (fun k_ => some k_ ≠ (v125 : Value).ownBlock) (.slice Ao6 y127.length co6) x2_1) ∧ Aside0 (Below w.heap.size w w'))
  case atStart => exact ⟨(y127), (0), (by first | rfl | (simp; done) | (simp [*]; done)), H', ⟨Nat.le_refl _⟩, ⟨by (with_reducible repeat (first | apply Kd.R_alloc | apply Kd.R_drewN | apply Kd.R_drew)); exact Kd.R_mono HO126.out (fun _ hk => hk.2)⟩, ⟨by (with_reducible repeat (first | apply Kd.R_alloc | apply Kd.R_drewN | apply Kd.R_drew)); exact Kd.R_mono HO129.out (fun _ hk => hk.2)⟩, ⟨by repeat (first | (with_reducible first | exact HB.out | apply below_alloc | apply pw_below_drewN | apply below_drew1) | exact HB.out)⟩⟩
  case round =>
    clear H'
    try clear c2
    try clear c2b0
    try clear c2b1
    try clear p2
    try clear c4
    obtain ⟨x2_1, x8_1, rfl, HA, HK1, HO_1, HO_2, HB⟩ := hrel
    have hl2_1 := (Kd.R_reads' HO_2.out).1
    rw [hl2_1] at HO_2
    (try simp only [hl2_1])
    (try simp only [hl2_1] at HO_1)
    cases gk with
    | zero => exact absurd HA.out (by simp [spec_Window.l0])
    | succ k1 =>
      have H := HA.out
      clear HA
      simp only [spec_Window.l0] at H
      by_cases c7 : x8_1 < (y127.length : Int)
      rotate_left
      · rw [if_neg c7] at H
        have c7b0 : decide (x8_1 < (y127.length : Int)) = false := decide_eq_false c7
        (try simp only [hl2_1] at c7b0)
        clear c7
        obtain rfl := Option.some.inj H
        go_wp2
        go_ret
        exact ⟨_, by first | rfl | (simp [errW_none, errW_some] <;> rfl) | (simp [*, errW_none, errW_some] <;> rfl), by (with_reducible repeat (first | apply Kd.R_alloc | apply Kd.R_drewN | apply Kd.R_drew)); exact Kd.R_mono HO_2.out (fun _ hk => trivial), by repeat (first | (with_reducible first | exact HB.out | apply below_alloc | apply pw_below_drewN | apply below_drew1) | exact HB.out)⟩
      rw [if_pos c7] at H
      have c7b0 : decide (x8_1 < (y127.length : Int)) = true := decide_eq_true c7
      (try simp only [hl2_1] at c7b0)
      clear c7
      replace H := Option.bind_eq_some_iff.mp H
      obtain ⟨t130, A80, H⟩ := H
      replace H : (if 0 ≤ x8_1 then (if x8_1 < (x2_1.length : Int) then (spec_Window.l0 k1 t124 (x2_1.set (x8_1 : Int).toNat t130) (y127.length : Int) (wrap64 (x8_1 + 1))) else (none)) else (none)) = some r := H
      have A8 := Aside0.mk A80
      clear A80
      by_cases c9 : 0 ≤ x8_1
      rotate_left
      · rw [if_neg c9] at H
        exact absurd H (by simp)
      rw [if_pos c9] at H
      have c9b0 : decide (0 ≤ x8_1) = true := decide_eq_true c9
      clear c9
      by_cases c10 : x8_1 < (x2_1.length : Int)
      rotate_left
      · rw [if_neg c10] at H
        exact absurd H (by simp)
      rw [if_pos c10] at H
      have c10b0 : decide (x8_1 < (x2_1.length : Int)) = true := decide_eq_true c10
      (try simp only [hl2_1] at c10b0)
      clear c10
      obtain ⟨y131, hy131⟩ : ∃ y_ : List Int, y_ = (x2_1.set (x8_1 : Int).toNat t130) := ⟨_, rfl⟩
      replace H : (spec_Window.l0 k1 t124 y131 (y127.length : Int) (wrap64 (x8_1 + 1))) = some r := by first | (rw [hy131]; with_reducible exact H) | (have H2_ := (Option.bind_some _ _).symm.trans H; rw [hy131]; with_reducible exact H2_) | (have H2_ := (Option.bind_some _ _).symm.trans H; with_reducible exact H2_) | with_reducible exact H | (rw [hy131]; exact H) | exact H
      have Ny131 := Aside0.mk hy131
      clear hy131
      have H' := Aside0.mk H
      clear H
      obtain ⟨Ao12, co12, eo12⟩ := Kd.R_slice HO_1.out
      subst eo12
      go_wp2_with (first | ((with_reducible refine gate_callee (f := 42) rfl ?_); refine goesL_ (some 17) rfl rfl Tryd.func42 (by kernel_rfl) rfl #[.slice Ao12 t124.length co12, .int .i64 (wrap64 (31 - (wrap64 (2 * x8_1))))] rfl (by (try simp only [List.map_toArray, List.map_cons, List.map_nil]); first | done | rfl | (simp only [List.length_drop, List.length_take]; rfl)) ?_; (with_reducible refine (spec_l11C.calls _ _ t124 (wrap64 (31 - (wrap64 (2 * x8_1)))) t130 _ ?side1 ?side2 A8.out).mono ?_); (case side1 => repeat (first | exact (Kd.R_reads' HO_1.out).2.2 | (with_reducible refine Kd.C_alloc ?_ _) | (with_reducible refine Kd.C_drewN ?_ _) | (with_reducible refine Kd.C_drew ?_))); (case side2 => exact (Kd.R_reads' HO_1.out).2.1); rintro e w' ⟨rfl, ⟨nd, rfl⟩⟩; refine ⟨_, rfl, ?_⟩; (try (rw [drewN_self wr]; generalize hq_ : World.drewN wr _ = wr; have n0_ : Aside0 (Kd.R (Kd.int .i64) 3 wr w.heap.size (fun k_ => some k_ ≠ (.slice Ao6 x2_1.length co6 : Value).ownBlock) (.slice Ao12 t124.length co12) t124) := ⟨by rw [← hq_]; exact (by (with_reducible repeat (first | apply Kd.R_alloc | apply Kd.R_drewN | apply Kd.R_drew)); exact HO_1.out)⟩; have n1_ : Aside0 (Kd.R (Kd.int .i64) 3 wr w.heap.size (fun k_ => some k_ ≠ (.slice Ao12 t124.length co12 : Value).ownBlock) (.slice Ao6 x2_1.length co6) x2_1) := ⟨by rw [← hq_]; exact (by (with_reducible repeat (first | apply Kd.R_alloc | apply Kd.R_drewN | apply Kd.R_drew)); exact HO_2.out)⟩; have n2_ : Aside0 (Below w.heap.size w wr) := ⟨by rw [← hq_]; exact (by repeat (first | (with_reducible first | exact HB.out | apply below_alloc | apply pw_below_drewN | apply below_drew1) | exact HB.out))⟩; clear HO_1 HO_2 HB hq_; have HO_1 := n0_; have HO_2 := n1_; have HB := n2_; clear n0_ n1_ n2_)); have p11 : 0 ≤ (x8_1 : Int) := of_decide_eq_true (by first | (with_reducible assumption) | assumption); have q11 : (x8_1 : Int) < ((x2_1.length : Int) : Int) := of_decide_eq_true (by first | (with_reducible assumption) | assumption); obtain ⟨go11, co11, eo11, gb11, gl11, cl11, HG11⟩ := Kd.R_form HO_2.out (by omega); (first | cases eo11 | (injection eo11 with ea_ en_ ec_; (first | subst ea_ | (injection ea_ with ea_; subst ea_)); subst ec_; clear en_)); have GB11 := Aside0.mk gb11; have GG11 := Aside0.mk HG11; clear gb11 gl11 HG11; obtain ⟨hx11_0, hf11_0⟩ := Kd.R_celln 0 HO_2.out (x8_1 : Int) p11 q11; replace p11 := eq_true p11; replace q11 := eq_true q11; obtain ⟨hy13_, hz13_⟩ := Kd.R_celln 0 HO_2.out (x8_1 : Int) (of_decide_eq_true (by first | (with_reducible assumption) | assumption)) (of_decide_eq_true (by first | (with_reducible assumption) | assumption)); have HP13 := Kd.R_putg HO_2.out (x8_1 : Int) t130) | ((with_reducible refine gate_store (t := 3) (p := 18) rfl ?_); refine store_event (t := 3) (p := 18) (v := ?vo_w14) (w1 := (wr.setCell ⟨go11, (x8_1 : Int).toNat, none⟩ (.int .i64 t130))) ?hg ?ho ?hn ?hr ?_; (case ho => rfl); (case hg => rfl); (case hn => rfl); (case hr => first | (go_simp; done) | (go_simp; rfl)); intro w14 hw; have hg : wr.grownBy w14 (some go11) := (by rw [hw]; exact HP13.2); have hp_ : Kd.R (Kd.int .i64) 3 w14 w.heap.size (fun k_ => some k_ ≠ (.slice Ao12 t124.length co12 : Value).ownBlock) (.slice (some ⟨go11, 0, none⟩) x2_1.length co6) y131 := (by rw [hw, Ny131.out]; exact HP13.1); clear HP13; have n0_ := Aside0.mk (Kd.R_after (v := (.slice (some ⟨go11, 0, none⟩) x2_1.length co6)) (v1 := (.slice (some ⟨go11, 0, none⟩) x2_1.length co6)) (ok := (fun _ => True)) (by (with_reducible repeat (first | apply Kd.R_alloc | apply Kd.R_drewN | apply Kd.R_drew)); exact Kd.R_mono HO_1.out (fun _ hk => ⟨trivial, hk⟩)) hg (.inl rfl)); have n1_ := Aside0.mk (hp_); have n2_ := Aside0.mk ((by rw [hw]; exact below_set (HB.out) GB11.out : Below w.heap.size w w14)); clear HO_1; clear HO_2; clear HB; have HO_1 := n0_; have HO_2 := n1_; have HB := n2_; clear n0_ n1_ n2_; clear hg hw hp_))
      (try simp only [← hl2_1])
      go_roundg k1
      case measure => have := HK1.out; omega
      case rel => exact ⟨(y131), (wrap64 (x8_1 + 1)), (by first | rfl | (simp; done) | (simp [*]; done)), H', ⟨by have := HK1.out; omega⟩, ⟨by (try simp only [hl2_1]); (with_reducible repeat (first | apply Kd.R_alloc | apply Kd.R_drewN | apply Kd.R_drew)); exact Kd.R_mono HO_1.out (fun _ hk => hk.2)⟩, ⟨by (try simp only [hl2_1]); (with_reducible repeat (first | apply Kd.R_alloc | apply Kd.R_drewN | apply Kd.R_drew)); exact HO_2.out⟩, ⟨by repeat (first | (with_reducible first | exact HB.out | apply below_alloc | apply pw_below_drewN | apply below_drew1) | exact HB.out)⟩⟩

end Go.Proofs.YtidblealnaicpaaDoor.PFnExactSoundOf

-- written by myprint.py (a program of this session's over the kit's print)
import Derived.Test.YtggokppfhkebkaaPFnExactGoodMovingx0
import Derived.Test.YtggokppfhkebkaaPFnExactGoodMovingx3
namespace Go.Proofs.Ytggokppfhkebkaa.PFnExactGoodMoving
open Go.RowKit Go.Proofs.YtggokppfhkebkaaW.PrintWords Go.Proofs.YtggokppfhkebkaaW.PrintLast Go.Proofs.YtggokppfhkebkaaW.PrintMore
attribute [local go_sem] max2_int min2_int max_two min_two max_three min_three max_four min_four   -- for this text's walks alone
set_option linter.unusedVariables false
set_option linter.unusedSimpArgs false

/-! ### impl_GoodMoving: function 42 -/
mutual
def impl_GoodMoving.j0 : Nat → Int → Bool → Int → Int → List Int → Int → List (S115) → Option (Bool)
  | 0, _, _, _, _, _, _, _ => none
  | k + 1, x3, x58, x164000, x164001, x164002, x164003, x164004 => if x58 = true then (some false) else (impl_GoodMoving.l0 k x3 0 x164004 (x164004.length : Int) 0 x164000 x164001 x164002 x164003 x164004)
def impl_GoodMoving.l0 : Nat → Int → Int → List (S115) → Int → Int → Int → Int → List Int → Int → List (S115) → Option (Bool)
  | 0, _, _, _, _, _, _, _, _, _, _ => none
  | k + 1, x3, x4, x60, x61, x62, x164000, x164001, x164002, x164003, x164004 => if x62 < x61 then (if 0 ≤ x62 then (if x62 < (x60.length : Int) then ((impl_goodFrame.f x164000 x164001 x164002 x164003 x164004 ((rd_T115 x60 x62).f0) ((rd_T115 x60 x62).f1) ((rd_T115 x60 x62).f2) ((rd_T115 x60 x62).f3) ((rd_T115 x60 x62).f4) ((rd_T115 x60 x62).f5) ((rd_T115 x60 x62).f6) ((rd_T115 x60 x62).f7)).bind fun t168 => (if t168 = true then (if (((rd_T115 x60 x62).f7).length : Int) = (wrap64 (((rd_T115 x60 x62).f2) * ((rd_T115 x60 x62).f3))) then ((impl_inRange.f k ((rd_T115 x60 x62).f7) (wrap64 (x3 - 1))).bind fun t169 => (if t169 = true then (impl_GoodMoving.l0 k x3 (wrap64 (x4 + (((rd_T115 x60 x62).f7).length : Int))) x60 x61 (wrap64 (x62 + 1)) x164000 x164001 x164002 x164003 x164004) else (some false))) else (some false)) else (some false))) else (none)) else (none)) else (some (decide (x4 ≤ 16384)))
end
def impl_GoodMoving.f (k : Nat) (a0_0 : Int) (a0_1 : Int) (l0_2 : List Int) (a0_3 : Int) (l0_4 : List (S115)) : Option (Bool) := (impl_goodSides.f a0_0 a0_1).bind fun t164 => (if t164 = true then (if (l0_2.length : Int) < 2 then (impl_GoodMoving.j0 k (l0_2.length : Int) true a0_0 a0_1 l0_2 a0_3 l0_4) else (if (l0_2.length : Int) > 256 then (impl_GoodMoving.j0 k (l0_2.length : Int) true a0_0 a0_1 l0_2 a0_3 l0_4) else (if (Go.bits .and .i64 (l0_2.length : Int) (wrap64 ((l0_2.length : Int) - 1))) = 0 then ((impl_inRange.f k l0_2 16777215).bind fun t165 => (if t165 = true then (if a0_3 < 0 then (impl_GoodMoving.j0 k (l0_2.length : Int) true a0_0 a0_1 l0_2 a0_3 l0_4) else (if a0_3 > 65535 then (impl_GoodMoving.j0 k (l0_2.length : Int) true a0_0 a0_1 l0_2 a0_3 l0_4) else (if (l0_4.length : Int) < 1 then (impl_GoodMoving.j0 k (l0_2.length : Int) true a0_0 a0_1 l0_2 a0_3 l0_4) else (impl_GoodMoving.j0 k (l0_2.length : Int) (decide ((l0_4.length : Int) > 40)) a0_0 a0_1 l0_2 a0_3 l0_4)))) else (impl_GoodMoving.j0 k (l0_2.length : Int) true a0_0 a0_1 l0_2 a0_3 l0_4))) else (impl_GoodMoving.j0 k (l0_2.length : Int) true a0_0 a0_1 l0_2 a0_3 l0_4)))) else (impl_GoodMoving.j0 k (l0_2.length : Int) true a0_0 a0_1 l0_2 a0_3 l0_4))
theorem impl_GoodMoving.mono_l : ∀ k, (∀ y0 y1 y2 y3 y4 y5 y6, LeO (impl_GoodMoving.j0 k y0 y1 y2 y3 y4 y5 y6) (impl_GoodMoving.j0 (k + 1) y0 y1 y2 y3 y4 y5 y6)) ∧ (∀ y0 y1 y2 y3 y4 y5 y6 y7 y8 y9, LeO (impl_GoodMoving.l0 k y0 y1 y2 y3 y4 y5 y6 y7 y8 y9) (impl_GoodMoving.l0 (k + 1) y0 y1 y2 y3 y4 y5 y6 y7 y8 y9))
  | 0 => ⟨fun _ _ _ _ _ _ _ r h => by simp [impl_GoodMoving.j0] at h, fun _ _ _ _ _ _ _ _ _ _ r h => by simp [impl_GoodMoving.l0] at h⟩
  | k + 1 => by
    obtain ⟨ih0, ih1⟩ := impl_GoodMoving.mono_l k
    refine ⟨?_, ?_⟩
    · intro y0 y1 y2 y3 y4 y5 y6
      unfold impl_GoodMoving.j0
      repeat' first
      | (with_reducible exact ih0 _ _ _ _ _ _ _)
      | (with_reducible exact ih1 _ _ _ _ _ _ _ _ _ _)
      | (with_reducible exact impl_inRange.mono _ _ _)
      | (with_reducible exact LeO.refl _)
      | (with_reducible exact LeO.none _)
      | (with_reducible refine LeO.ite ?_ ?_)
      | (with_reducible refine LeO.bind ?_ (fun _ => ?_))
      | exact ih0 _ _ _ _ _ _ _
      | exact ih1 _ _ _ _ _ _ _ _ _ _
      | exact impl_inRange.mono _ _ _
      | exact LeO.none _
      | refine LeO.ite ?_ ?_
      | refine LeO.bind ?_ (fun _ => ?_)
    · intro y0 y1 y2 y3 y4 y5 y6 y7 y8 y9
      unfold impl_GoodMoving.l0
      repeat' first
      | (with_reducible exact ih0 _ _ _ _ _ _ _)
      | (with_reducible exact ih1 _ _ _ _ _ _ _ _ _ _)
      | (with_reducible exact impl_inRange.mono _ _ _)
      | (with_reducible exact LeO.refl _)
      | (with_reducible exact LeO.none _)
      | (with_reducible refine LeO.ite ?_ ?_)
      | (with_reducible refine LeO.bind ?_ (fun _ => ?_))
      | exact ih0 _ _ _ _ _ _ _
      | exact ih1 _ _ _ _ _ _ _ _ _ _
      | exact impl_inRange.mono _ _ _
      | exact LeO.none _
      | refine LeO.ite ?_ ?_
      | refine LeO.bind ?_ (fun _ => ?_)
theorem impl_GoodMoving.mono : ∀ a0 a1 a2 a3 a4 k, LeO (impl_GoodMoving.f k a0 a1 a2 a3 a4) (impl_GoodMoving.f (k + 1) a0 a1 a2 a3 a4) := by
  intro a0 a1 a2 a3 a4 k
  obtain ⟨ih0, ih1⟩ := impl_GoodMoving.mono_l k
  unfold impl_GoodMoving.f
  repeat' first
      | (with_reducible exact ih0 _ _ _ _ _ _ _)
      | (with_reducible exact ih1 _ _ _ _ _ _ _ _ _ _)
      | (with_reducible exact impl_inRange.mono _ _ _)
      | (with_reducible exact LeO.refl _)
      | (with_reducible exact LeO.none _)
      | (with_reducible refine LeO.ite ?_ ?_)
      | (with_reducible refine LeO.bind ?_ (fun _ => ?_))
      | exact ih0 _ _ _ _ _ _ _
      | exact ih1 _ _ _ _ _ _ _ _ _ _
      | exact impl_inRange.mono _ _ _
      | exact LeO.none _
      | refine LeO.ite ?_ ?_
      | refine LeO.bind ?_ (fun _ => ?_)
set_option maxHeartbeats 8000000 in
set_option maxRecDepth 100000 in
theorem impl_GoodMoving.calls (k : Nat) (a0_0 : Int) (a0_1 : Int) (A0_2 : Option Addr) (c0_2 : Nat) (l0_2 : List Int) (a0_3 : Int) (A0_4 : Option Addr) (c0_4 : Nat) (l0_4 : List (S115)) (r : Bool) (w : World) (hr0_2 : Kd.C (Kd.int .i64) w A0_2 l0_2.length l0_2) (hc0_2 : l0_2.length ≤ c0_2) (hr0_4 : Kd.C k115 w A0_4 l0_4.length l0_4) (hc0_4 : l0_4.length ≤ c0_4) (h : impl_GoodMoving.f k a0_0 a0_1 l0_2 a0_3 l0_4 = some r) :
    Calls Try.prog 42 #[.agg #[.int .i64 a0_0, .int .i64 a0_1, .slice A0_2 l0_2.length c0_2, .int .i64 a0_3, .slice A0_4 l0_4.length c0_4]] w fun e w' => e = .returned (.bool r) ∧ Below w.heap.size w w' := by
  have hu61 := Try.underlying61
  have hu115 := Try.underlying115
  have HR0_2 := Aside0.mk hr0_2
  have HC0_2 := Aside0.mk hc0_2
  clear hr0_2 hc0_2
  have HR0_4 := Aside0.mk hr0_4
  have HC0_4 := Aside0.mk hc0_4
  clear hr0_4 hc0_4
  have HB := Aside0.mk (Below.refl w.heap.size w)
  have H : ((impl_goodSides.f a0_0 a0_1).bind fun t164 => (if t164 = true then (if (l0_2.length : Int) < 2 then (impl_GoodMoving.j0 k (l0_2.length : Int) true a0_0 a0_1 l0_2 a0_3 l0_4) else (if (l0_2.length : Int) > 256 then (impl_GoodMoving.j0 k (l0_2.length : Int) true a0_0 a0_1 l0_2 a0_3 l0_4) else (if (Go.bits .and .i64 (l0_2.length : Int) (wrap64 ((l0_2.length : Int) - 1))) = 0 then ((impl_inRange.f k l0_2 16777215).bind fun t165 => (if t165 = true then (if a0_3 < 0 then (impl_GoodMoving.j0 k (l0_2.length : Int) true a0_0 a0_1 l0_2 a0_3 l0_4) else (if a0_3 > 65535 then (impl_GoodMoving.j0 k (l0_2.length : Int) true a0_0 a0_1 l0_2 a0_3 l0_4) else (if (l0_4.length : Int) < 1 then (impl_GoodMoving.j0 k (l0_2.length : Int) true a0_0 a0_1 l0_2 a0_3 l0_4) else (impl_GoodMoving.j0 k (l0_2.length : Int) (decide ((l0_4.length : Int) > 40)) a0_0 a0_1 l0_2 a0_3 l0_4)))) else (impl_GoodMoving.j0 k (l0_2.length : Int) true a0_0 a0_1 l0_2 a0_3 l0_4))) else (impl_GoodMoving.j0 k (l0_2.length : Int) true a0_0 a0_1 l0_2 a0_3 l0_4)))) else (impl_GoodMoving.j0 k (l0_2.length : Int) true a0_0 a0_1 l0_2 a0_3 l0_4))) = some r := h
  clear h
  have HC2 := Aside0.mk H
  clear H
  go_enter Try.func42, Try.ntmps42
  go_upto_region 2 with (first | ((with_reducible refine gate_dst (N := 1) rfl ?_); (try (refine gate_guard (by rfl) ?_; dsimp only)); refine box_event ?hg (N := 1) ?hd (cs := #[.int .i64 a0_0, .int .i64 a0_1, .slice A0_2 l0_2.length c0_2, .int .i64 a0_3, .slice A0_4 l0_4.length c0_4]) (t := 61) ?hr ?_; (case hd => rfl); (case hg => rfl); (case hr => first | (go_simp; done) | (go_simp; rfl)); intro gb163 hg w3 hbox hb; have n0_ := Aside0.mk (below_step (by repeat (first | (with_reducible first | exact HB.out | apply below_alloc | apply pw_below_drewN | apply below_drew1) | exact HB.out)) hb); have n1_ := Aside0.mk (hbox); have n2_ := Aside0.mk ((by rw [hg]; exact (below_size (by repeat (first | (with_reducible first | exact HB.out | apply below_alloc | apply pw_below_drewN | apply below_drew1) | exact HB.out))) : w.heap.size ≤ gb163)); have n3_ := Aside0.mk ((by rw [hg]; exact (below_size (by repeat (first | (with_reducible first | exact HB.out | apply below_alloc | apply pw_below_drewN | apply below_drew1) | exact HB.out))) : w.heap.size ≤ gb163)); clear HB; have HB := n0_; have BK163 := n1_; have GW163 := n2_; have GE163 := n3_; clear n0_ n1_ n2_ n3_; clear hb hbox hg; have hcz4_0 : w3.cell? ⟨gb163, 0, none⟩ = some (.int .i64 a0_0) := (blk_cell BK163.out 0).trans rfl; have hcz4_1 : w3.cell? ⟨gb163, 1, none⟩ = some (.int .i64 a0_1) := (blk_cell BK163.out 1).trans rfl; have hcz4_2 : w3.cell? ⟨gb163, 2, none⟩ = some (.slice A0_2 l0_2.length c0_2) := (blk_cell BK163.out 2).trans rfl; have hcz4_3 : w3.cell? ⟨gb163, 3, none⟩ = some (.int .i64 a0_3) := (blk_cell BK163.out 3).trans rfl; have hcz4_4 : w3.cell? ⟨gb163, 4, none⟩ = some (.slice A0_4 l0_4.length c0_4) := (blk_cell BK163.out 4).trans rfl; have hfz4_0 := blk_frozen BK163.out 0; have hfz4_1 := blk_frozen BK163.out 1; have hfz4_2 := blk_frozen BK163.out 2; have hfz4_3 := blk_frozen BK163.out 3; have hfz4_4 := blk_frozen BK163.out 4))
  (try simp only [Act.put, List.setIfInBounds_toArray, List.set_cons_zero, List.set_cons_succ])
  go_cut [58] (fun v58 wc => ∃ (kq : Nat) (x58_1 : Bool), v58 = .bool x58_1 ∧ Aside0 (impl_GoodMoving.j0 kq (l0_2.length : Int) x58_1 a0_0 a0_1 l0_2 a0_3 l0_4 = some r) ∧ Aside0 (kq ≤ k) ∧ Aside0 (wc.heap[gb163]? = some (.cells #[.int .i64 a0_0, .int .i64 a0_1, (.slice A0_2 l0_2.length c0_2), .int .i64 a0_3, (.slice A0_4 l0_4.length c0_4)] 61 (0, 0))) ∧ Aside0 (Below w.heap.size w wc))
  case first =>
    have H := HC2.out
    clear HC2
    replace H := Option.bind_eq_some_iff.mp H
    obtain ⟨t164, A50, H⟩ := H
    replace H : (if t164 = true then (if (l0_2.length : Int) < 2 then (impl_GoodMoving.j0 k (l0_2.length : Int) true a0_0 a0_1 l0_2 a0_3 l0_4) else (if (l0_2.length : Int) > 256 then (impl_GoodMoving.j0 k (l0_2.length : Int) true a0_0 a0_1 l0_2 a0_3 l0_4) else (if (Go.bits .and .i64 (l0_2.length : Int) (wrap64 ((l0_2.length : Int) - 1))) = 0 then ((impl_inRange.f k l0_2 16777215).bind fun t165 => (if t165 = true then (if a0_3 < 0 then (impl_GoodMoving.j0 k (l0_2.length : Int) true a0_0 a0_1 l0_2 a0_3 l0_4) else (if a0_3 > 65535 then (impl_GoodMoving.j0 k (l0_2.length : Int) true a0_0 a0_1 l0_2 a0_3 l0_4) else (if (l0_4.length : Int) < 1 then (impl_GoodMoving.j0 k (l0_2.length : Int) true a0_0 a0_1 l0_2 a0_3 l0_4) else (impl_GoodMoving.j0 k (l0_2.length : Int) (decide ((l0_4.length : Int) > 40)) a0_0 a0_1 l0_2 a0_3 l0_4)))) else (impl_GoodMoving.j0 k (l0_2.length : Int) true a0_0 a0_1 l0_2 a0_3 l0_4))) else (impl_GoodMoving.j0 k (l0_2.length : Int) true a0_0 a0_1 l0_2 a0_3 l0_4)))) else (impl_GoodMoving.j0 k (l0_2.length : Int) true a0_0 a0_1 l0_2 a0_3 l0_4)) = some r := H
    have A5 := Aside0.mk A50
    clear A50
    by_cases c6 : t164 = true
    rotate_left
    · replace c6 := Bool.eq_false_iff.mpr c6
      subst c6
      have H1 : (impl_GoodMoving.j0 k (l0_2.length : Int) true a0_0 a0_1 l0_2 a0_3 l0_4) = some r := by rw [if_neg (show ¬ (false = true) by decide)] at H; exact H
      clear H
      have H := H1
      clear H1
      have H' := Aside0.mk H
      clear H
      have hcz23_0 : w3.cell? ⟨gb163, 0, none⟩ = some (.int .i64 a0_0) := (blk_cell BK163.out 0).trans rfl
      have hcz23_1 : w3.cell? ⟨gb163, 1, none⟩ = some (.int .i64 a0_1) := (blk_cell BK163.out 1).trans rfl
      have hcz23_2 : w3.cell? ⟨gb163, 2, none⟩ = some (.slice A0_2 l0_2.length c0_2) := (blk_cell BK163.out 2).trans rfl
      have hcz23_3 : w3.cell? ⟨gb163, 3, none⟩ = some (.int .i64 a0_3) := (blk_cell BK163.out 3).trans rfl
      have hcz23_4 : w3.cell? ⟨gb163, 4, none⟩ = some (.slice A0_4 l0_4.length c0_4) := (blk_cell BK163.out 4).trans rfl
      have hfz23_0 := blk_frozen BK163.out 0
      have hfz23_1 := blk_frozen BK163.out 1
      have hfz23_2 := blk_frozen BK163.out 2
      have hfz23_3 := blk_frozen BK163.out 3
      have hfz23_4 := blk_frozen BK163.out 4
      go_wp2_with (first | ((with_reducible refine gate_callee (f := 99) rfl ?_); refine goesL_ (some 14) rfl rfl Try.func99 (by kernel_rfl) rfl #[.int .i64 a0_0, .int .i64 a0_1] rfl (by (try simp only [List.map_toArray, List.map_cons, List.map_nil]); first | done | rfl | (simp only [List.length_drop, List.length_take]; rfl)) ?_; (with_reducible refine (impl_goodSides.calls a0_0 a0_1 false _ A5.out).mono ?_); rintro e w' ⟨rfl, ⟨nd, rfl⟩⟩; refine ⟨_, rfl, ?_⟩))
      go_meet
      case rel => exact ⟨_, (true), (by first | rfl | (simp; done) | (simp [*]; done)), H', ⟨by first | omega | exact Nat.le_refl _⟩, ⟨by (with_reducible repeat (first | refine blk_drewN ?_ _ | refine blk_drew ?_ | refine blk_alloc ?_ _)); exact BK163.out⟩, ⟨by repeat (first | (with_reducible first | exact HB.out | apply below_alloc | apply pw_below_drewN | apply below_drew1 | refine below_set ?_ GE163.out) | exact HB.out)⟩⟩
    subst c6
    have H1 : (if (l0_2.length : Int) < 2 then (impl_GoodMoving.j0 k (l0_2.length : Int) true a0_0 a0_1 l0_2 a0_3 l0_4) else (if (l0_2.length : Int) > 256 then (impl_GoodMoving.j0 k (l0_2.length : Int) true a0_0 a0_1 l0_2 a0_3 l0_4) else (if (Go.bits .and .i64 (l0_2.length : Int) (wrap64 ((l0_2.length : Int) - 1))) = 0 then ((impl_inRange.f k l0_2 16777215).bind fun t165 => (if t165 = true then (if a0_3 < 0 then (impl_GoodMoving.j0 k (l0_2.length : Int) true a0_0 a0_1 l0_2 a0_3 l0_4) else (if a0_3 > 65535 then (impl_GoodMoving.j0 k (l0_2.length : Int) true a0_0 a0_1 l0_2 a0_3 l0_4) else (if (l0_4.length : Int) < 1 then (impl_GoodMoving.j0 k (l0_2.length : Int) true a0_0 a0_1 l0_2 a0_3 l0_4) else (impl_GoodMoving.j0 k (l0_2.length : Int) (decide ((l0_4.length : Int) > 40)) a0_0 a0_1 l0_2 a0_3 l0_4)))) else (impl_GoodMoving.j0 k (l0_2.length : Int) true a0_0 a0_1 l0_2 a0_3 l0_4))) else (impl_GoodMoving.j0 k (l0_2.length : Int) true a0_0 a0_1 l0_2 a0_3 l0_4)))) = some r := by rw [if_pos rfl] at H; exact H
    clear H
    have H := H1
    clear H1
    by_cases c7 : (l0_2.length : Int) < 2
    · rw [if_pos c7] at H
      have c7b0 : decide ((l0_2.length : Int) < 2) = true := decide_eq_true c7
      have c7b1 : decide (l0_2.length < 2) = true := decide_eq_true (by omega)
      have c7b2 : l0_2.length < 2 := by omega
      clear c7
      (first | rw [c7b0] | (simp only [i64_w, i32_w]; rw [c7b0]) | skip)
      have H' := Aside0.mk H
      clear H
      have hcz8_0 : w3.cell? ⟨gb163, 0, none⟩ = some (.int .i64 a0_0) := (blk_cell BK163.out 0).trans rfl
      have hcz8_1 : w3.cell? ⟨gb163, 1, none⟩ = some (.int .i64 a0_1) := (blk_cell BK163.out 1).trans rfl
      have hcz8_2 : w3.cell? ⟨gb163, 2, none⟩ = some (.slice A0_2 l0_2.length c0_2) := (blk_cell BK163.out 2).trans rfl
      have hcz8_3 : w3.cell? ⟨gb163, 3, none⟩ = some (.int .i64 a0_3) := (blk_cell BK163.out 3).trans rfl
      have hcz8_4 : w3.cell? ⟨gb163, 4, none⟩ = some (.slice A0_4 l0_4.length c0_4) := (blk_cell BK163.out 4).trans rfl
      have hfz8_0 := blk_frozen BK163.out 0
      have hfz8_1 := blk_frozen BK163.out 1
      have hfz8_2 := blk_frozen BK163.out 2
      have hfz8_3 := blk_frozen BK163.out 3
      have hfz8_4 := blk_frozen BK163.out 4
      go_wp2_with (first | ((with_reducible refine gate_callee (f := 99) rfl ?_); refine goesL_ (some 14) rfl rfl Try.func99 (by kernel_rfl) rfl #[.int .i64 a0_0, .int .i64 a0_1] rfl (by (try simp only [List.map_toArray, List.map_cons, List.map_nil]); first | done | rfl | (simp only [List.length_drop, List.length_take]; rfl)) ?_; (with_reducible refine (impl_goodSides.calls a0_0 a0_1 true _ A5.out).mono ?_); rintro e w' ⟨rfl, ⟨nd, rfl⟩⟩; refine ⟨_, rfl, ?_⟩))
      go_meet
      case rel => exact ⟨_, (true), (by first | rfl | (simp; done) | (simp [*]; done)), H', ⟨by first | omega | exact Nat.le_refl _⟩, ⟨by (with_reducible repeat (first | refine blk_drewN ?_ _ | refine blk_drew ?_ | refine blk_alloc ?_ _)); exact BK163.out⟩, ⟨by repeat (first | (with_reducible first | exact HB.out | apply below_alloc | apply pw_below_drewN | apply below_drew1 | refine below_set ?_ GE163.out) | exact HB.out)⟩⟩
    rw [if_neg c7] at H
    have c7b0 : decide ((l0_2.length : Int) < 2) = false := decide_eq_false c7
    have c7b1 : decide (l0_2.length < 2) = false := decide_eq_false (by omega)
    have c7b2 : ¬ (l0_2.length < 2) := by omega
    clear c7
    (first | rw [c7b0] | (simp only [i64_w, i32_w]; rw [c7b0]) | skip)
    by_cases c9 : (l0_2.length : Int) > 256
    · rw [if_pos c9] at H
      have c9b0 : decide (256 < (l0_2.length : Int)) = true := decide_eq_true c9
      have c9b1 : decide (256 < l0_2.length) = true := decide_eq_true (by omega)
      have c9b2 : 256 < l0_2.length := by omega
      clear c9
      have H' := Aside0.mk H
      clear H
      have hcz10_0 : w3.cell? ⟨gb163, 0, none⟩ = some (.int .i64 a0_0) := (blk_cell BK163.out 0).trans rfl
      have hcz10_1 : w3.cell? ⟨gb163, 1, none⟩ = some (.int .i64 a0_1) := (blk_cell BK163.out 1).trans rfl
      have hcz10_2 : w3.cell? ⟨gb163, 2, none⟩ = some (.slice A0_2 l0_2.length c0_2) := (blk_cell BK163.out 2).trans rfl
      have hcz10_3 : w3.cell? ⟨gb163, 3, none⟩ = some (.int .i64 a0_3) := (blk_cell BK163.out 3).trans rfl
      have hcz10_4 : w3.cell? ⟨gb163, 4, none⟩ = some (.slice A0_4 l0_4.length c0_4) := (blk_cell BK163.out 4).trans rfl
      have hfz10_0 := blk_frozen BK163.out 0
      have hfz10_1 := blk_frozen BK163.out 1
      have hfz10_2 := blk_frozen BK163.out 2
      have hfz10_3 := blk_frozen BK163.out 3
      have hfz10_4 := blk_frozen BK163.out 4
      go_wp2_with (first | ((with_reducible refine gate_callee (f := 99) rfl ?_); refine goesL_ (some 14) rfl rfl Try.func99 (by kernel_rfl) rfl #[.int .i64 a0_0, .int .i64 a0_1] rfl (by (try simp only [List.map_toArray, List.map_cons, List.map_nil]); first | done | rfl | (simp only [List.length_drop, List.length_take]; rfl)) ?_; (with_reducible refine (impl_goodSides.calls a0_0 a0_1 true _ A5.out).mono ?_); rintro e w' ⟨rfl, ⟨nd, rfl⟩⟩; refine ⟨_, rfl, ?_⟩))
      go_meet
      case rel => exact ⟨_, (true), (by first | rfl | (simp; done) | (simp [*]; done)), H', ⟨by first | omega | exact Nat.le_refl _⟩, ⟨by (with_reducible repeat (first | refine blk_drewN ?_ _ | refine blk_drew ?_ | refine blk_alloc ?_ _)); exact BK163.out⟩, ⟨by repeat (first | (with_reducible first | exact HB.out | apply below_alloc | apply pw_below_drewN | apply below_drew1 | refine below_set ?_ GE163.out) | exact HB.out)⟩⟩
    rw [if_neg c9] at H
    have c9b0 : decide (256 < (l0_2.length : Int)) = false := decide_eq_false c9
    have c9b1 : decide (256 < l0_2.length) = false := decide_eq_false (by omega)
    have c9b2 : ¬ (256 < l0_2.length) := by omega
    clear c9
    by_cases c11 : (Go.bits .and .i64 (l0_2.length : Int) (wrap64 ((l0_2.length : Int) - 1))) = 0
    rotate_left
    · rw [if_neg c11] at H
      have c11b0 : ((Go.bits .and .i64 (l0_2.length : Int) (wrap64 ((l0_2.length : Int) - 1))) == 0) = false := beq_eq_false_iff_ne.mpr c11
      (try (have c11b0w := c11b0; rw [show wrap64 ((l0_2.length : Int) - 1) = ((l0_2.length : Int) - 1) from by unfold wrap64; omega] at c11b0w))
      have c11b1 : ((Go.bits .and .i64 (l0_2.length : Int) (wrap64 ((l0_2.length : Int) - 1))) != 0) = true := bne_iff_ne.mpr c11
      (try (have c11b1w := c11b1; rw [show wrap64 ((l0_2.length : Int) - 1) = ((l0_2.length : Int) - 1) from by unfold wrap64; omega] at c11b1w))
      have H' := Aside0.mk H
      clear H
      have hcz22_0 : w3.cell? ⟨gb163, 0, none⟩ = some (.int .i64 a0_0) := (blk_cell BK163.out 0).trans rfl
      have hcz22_1 : w3.cell? ⟨gb163, 1, none⟩ = some (.int .i64 a0_1) := (blk_cell BK163.out 1).trans rfl
      have hcz22_2 : w3.cell? ⟨gb163, 2, none⟩ = some (.slice A0_2 l0_2.length c0_2) := (blk_cell BK163.out 2).trans rfl
      have hcz22_3 : w3.cell? ⟨gb163, 3, none⟩ = some (.int .i64 a0_3) := (blk_cell BK163.out 3).trans rfl
      have hcz22_4 : w3.cell? ⟨gb163, 4, none⟩ = some (.slice A0_4 l0_4.length c0_4) := (blk_cell BK163.out 4).trans rfl
      have hfz22_0 := blk_frozen BK163.out 0
      have hfz22_1 := blk_frozen BK163.out 1
      have hfz22_2 := blk_frozen BK163.out 2
      have hfz22_3 := blk_frozen BK163.out 3
      have hfz22_4 := blk_frozen BK163.out 4
      go_wp2_with (first | ((with_reducible refine gate_callee (f := 99) rfl ?_); refine goesL_ (some 14) rfl rfl Try.func99 (by kernel_rfl) rfl #[.int .i64 a0_0, .int .i64 a0_1] rfl (by (try simp only [List.map_toArray, List.map_cons, List.map_nil]); first | done | rfl | (simp only [List.length_drop, List.length_take]; rfl)) ?_; (with_reducible refine (impl_goodSides.calls a0_0 a0_1 true _ A5.out).mono ?_); rintro e w' ⟨rfl, ⟨nd, rfl⟩⟩; refine ⟨_, rfl, ?_⟩))
      go_meet
      case rel => exact ⟨_, (true), (by first | rfl | (simp; done) | (simp [*]; done)), H', ⟨by first | omega | exact Nat.le_refl _⟩, ⟨by (with_reducible repeat (first | refine blk_drewN ?_ _ | refine blk_drew ?_ | refine blk_alloc ?_ _)); exact BK163.out⟩, ⟨by repeat (first | (with_reducible first | exact HB.out | apply below_alloc | apply pw_below_drewN | apply below_drew1 | refine below_set ?_ GE163.out) | exact HB.out)⟩⟩
    rw [if_pos c11] at H
    have c11b0 : ((Go.bits .and .i64 (l0_2.length : Int) (wrap64 ((l0_2.length : Int) - 1))) == 0) = true := beq_iff_eq.mpr c11
    (try (have c11b0w := c11b0; rw [show wrap64 ((l0_2.length : Int) - 1) = ((l0_2.length : Int) - 1) from by unfold wrap64; omega] at c11b0w))
    have c11b1 : ((Go.bits .and .i64 (l0_2.length : Int) (wrap64 ((l0_2.length : Int) - 1))) != 0) = false := bne_eq_false_iff_eq.mpr c11
    (try (have c11b1w := c11b1; rw [show wrap64 ((l0_2.length : Int) - 1) = ((l0_2.length : Int) - 1) from by unfold wrap64; omega] at c11b1w))
    clear c11
    replace H := Option.bind_eq_some_iff.mp H
    obtain ⟨t165, A120, H⟩ := H
    replace H : (if t165 = true then (if a0_3 < 0 then (impl_GoodMoving.j0 k (l0_2.length : Int) true a0_0 a0_1 l0_2 a0_3 l0_4) else (if a0_3 > 65535 then (impl_GoodMoving.j0 k (l0_2.length : Int) true a0_0 a0_1 l0_2 a0_3 l0_4) else (if (l0_4.length : Int) < 1 then (impl_GoodMoving.j0 k (l0_2.length : Int) true a0_0 a0_1 l0_2 a0_3 l0_4) else (impl_GoodMoving.j0 k (l0_2.length : Int) (decide ((l0_4.length : Int) > 40)) a0_0 a0_1 l0_2 a0_3 l0_4)))) else (impl_GoodMoving.j0 k (l0_2.length : Int) true a0_0 a0_1 l0_2 a0_3 l0_4)) = some r := H
    have A12 := Aside0.mk A120
    clear A120
    by_cases c13 : t165 = true
    rotate_left
    · replace c13 := Bool.eq_false_iff.mpr c13
      subst c13
      have H1 : (impl_GoodMoving.j0 k (l0_2.length : Int) true a0_0 a0_1 l0_2 a0_3 l0_4) = some r := by rw [if_neg (show ¬ (false = true) by decide)] at H; exact H
      clear H
      have H := H1
      clear H1
      have H' := Aside0.mk H
      clear H
      have hcz21_0 : w3.cell? ⟨gb163, 0, none⟩ = some (.int .i64 a0_0) := (blk_cell BK163.out 0).trans rfl
      have hcz21_1 : w3.cell? ⟨gb163, 1, none⟩ = some (.int .i64 a0_1) := (blk_cell BK163.out 1).trans rfl
      have hcz21_2 : w3.cell? ⟨gb163, 2, none⟩ = some (.slice A0_2 l0_2.length c0_2) := (blk_cell BK163.out 2).trans rfl
      have hcz21_3 : w3.cell? ⟨gb163, 3, none⟩ = some (.int .i64 a0_3) := (blk_cell BK163.out 3).trans rfl
      have hcz21_4 : w3.cell? ⟨gb163, 4, none⟩ = some (.slice A0_4 l0_4.length c0_4) := (blk_cell BK163.out 4).trans rfl
      have hfz21_0 := blk_frozen BK163.out 0
      have hfz21_1 := blk_frozen BK163.out 1
      have hfz21_2 := blk_frozen BK163.out 2
      have hfz21_3 := blk_frozen BK163.out 3
      have hfz21_4 := blk_frozen BK163.out 4
      go_wp2_with (first | ((with_reducible refine gate_callee (f := 99) rfl ?_); refine goesL_ (some 14) rfl rfl Try.func99 (by kernel_rfl) rfl #[.int .i64 a0_0, .int .i64 a0_1] rfl (by (try simp only [List.map_toArray, List.map_cons, List.map_nil]); first | done | rfl | (simp only [List.length_drop, List.length_take]; rfl)) ?_; (with_reducible refine (impl_goodSides.calls a0_0 a0_1 true _ A5.out).mono ?_); rintro e w' ⟨rfl, ⟨nd, rfl⟩⟩; refine ⟨_, rfl, ?_⟩) | (go_at_call 100; (with_reducible refine (impl_inRange.calls k _ _ l0_2 16777215 false _ ?side1 ?side2 A12.out).mono ?_); (case side1 => repeat (first | exact (Kd.C_below HR0_2.out (by repeat (first | (with_reducible first | exact HB.out | apply below_alloc | apply pw_below_drewN | apply below_drew1 | refine below_set ?_ GE163.out) | exact HB.out))) | (with_reducible refine Kd.C_alloc ?_ _) | (with_reducible refine Kd.C_drewN ?_ _) | (with_reducible refine Kd.C_drew ?_))); (case side2 => exact HC0_2.out); rintro e w' ⟨rfl, ⟨nd, rfl⟩⟩))
      go_meet
      case rel => exact ⟨_, (true), (by first | rfl | (simp; done) | (simp [*]; done)), H', ⟨by first | omega | exact Nat.le_refl _⟩, ⟨by (with_reducible repeat (first | refine blk_drewN ?_ _ | refine blk_drew ?_ | refine blk_alloc ?_ _)); exact BK163.out⟩, ⟨by repeat (first | (with_reducible first | exact HB.out | apply below_alloc | apply pw_below_drewN | apply below_drew1 | refine below_set ?_ GE163.out) | exact HB.out)⟩⟩
    subst c13
    have H1 : (if a0_3 < 0 then (impl_GoodMoving.j0 k (l0_2.length : Int) true a0_0 a0_1 l0_2 a0_3 l0_4) else (if a0_3 > 65535 then (impl_GoodMoving.j0 k (l0_2.length : Int) true a0_0 a0_1 l0_2 a0_3 l0_4) else (if (l0_4.length : Int) < 1 then (impl_GoodMoving.j0 k (l0_2.length : Int) true a0_0 a0_1 l0_2 a0_3 l0_4) else (impl_GoodMoving.j0 k (l0_2.length : Int) (decide ((l0_4.length : Int) > 40)) a0_0 a0_1 l0_2 a0_3 l0_4)))) = some r := by rw [if_pos rfl] at H; exact H
    clear H
    have H := H1
    clear H1
    by_cases c14 : a0_3 < 0
    · rw [if_pos c14] at H
      have c14b0 : decide (a0_3 < 0) = true := decide_eq_true c14
      clear c14
      have H' := Aside0.mk H
      clear H
      have hcz15_0 : w3.cell? ⟨gb163, 0, none⟩ = some (.int .i64 a0_0) := (blk_cell BK163.out 0).trans rfl
      have hcz15_1 : w3.cell? ⟨gb163, 1, none⟩ = some (.int .i64 a0_1) := (blk_cell BK163.out 1).trans rfl
      have hcz15_2 : w3.cell? ⟨gb163, 2, none⟩ = some (.slice A0_2 l0_2.length c0_2) := (blk_cell BK163.out 2).trans rfl
      have hcz15_3 : w3.cell? ⟨gb163, 3, none⟩ = some (.int .i64 a0_3) := (blk_cell BK163.out 3).trans rfl
      have hcz15_4 : w3.cell? ⟨gb163, 4, none⟩ = some (.slice A0_4 l0_4.length c0_4) := (blk_cell BK163.out 4).trans rfl
      have hfz15_0 := blk_frozen BK163.out 0
      have hfz15_1 := blk_frozen BK163.out 1
      have hfz15_2 := blk_frozen BK163.out 2
      have hfz15_3 := blk_frozen BK163.out 3
      have hfz15_4 := blk_frozen BK163.out 4
      go_wp2_with (first | ((with_reducible refine gate_callee (f := 99) rfl ?_); refine goesL_ (some 14) rfl rfl Try.func99 (by kernel_rfl) rfl #[.int .i64 a0_0, .int .i64 a0_1] rfl (by (try simp only [List.map_toArray, List.map_cons, List.map_nil]); first | done | rfl | (simp only [List.length_drop, List.length_take]; rfl)) ?_; (with_reducible refine (impl_goodSides.calls a0_0 a0_1 true _ A5.out).mono ?_); rintro e w' ⟨rfl, ⟨nd, rfl⟩⟩; refine ⟨_, rfl, ?_⟩) | (go_at_call 100; (with_reducible refine (impl_inRange.calls k _ _ l0_2 16777215 true _ ?side1 ?side2 A12.out).mono ?_); (case side1 => repeat (first | exact (Kd.C_below HR0_2.out (by repeat (first | (with_reducible first | exact HB.out | apply below_alloc | apply pw_below_drewN | apply below_drew1 | refine below_set ?_ GE163.out) | exact HB.out))) | (with_reducible refine Kd.C_alloc ?_ _) | (with_reducible refine Kd.C_drewN ?_ _) | (with_reducible refine Kd.C_drew ?_))); (case side2 => exact HC0_2.out); rintro e w' ⟨rfl, ⟨nd, rfl⟩⟩))
      go_meet
      case rel => exact ⟨_, (true), (by first | rfl | (simp; done) | (simp [*]; done)), H', ⟨by first | omega | exact Nat.le_refl _⟩, ⟨by (with_reducible repeat (first | refine blk_drewN ?_ _ | refine blk_drew ?_ | refine blk_alloc ?_ _)); exact BK163.out⟩, ⟨by repeat (first | (with_reducible first | exact HB.out | apply below_alloc | apply pw_below_drewN | apply below_drew1 | refine below_set ?_ GE163.out) | exact HB.out)⟩⟩
    rw [if_neg c14] at H
    have c14b0 : decide (a0_3 < 0) = false := decide_eq_false c14
    clear c14
    by_cases c16 : a0_3 > 65535
    · rw [if_pos c16] at H
      have c16b0 : decide (65535 < a0_3) = true := decide_eq_true c16
      clear c16
      have H' := Aside0.mk H
      clear H
      have hcz17_0 : w3.cell? ⟨gb163, 0, none⟩ = some (.int .i64 a0_0) := (blk_cell BK163.out 0).trans rfl
      have hcz17_1 : w3.cell? ⟨gb163, 1, none⟩ = some (.int .i64 a0_1) := (blk_cell BK163.out 1).trans rfl
      have hcz17_2 : w3.cell? ⟨gb163, 2, none⟩ = some (.slice A0_2 l0_2.length c0_2) := (blk_cell BK163.out 2).trans rfl
      have hcz17_3 : w3.cell? ⟨gb163, 3, none⟩ = some (.int .i64 a0_3) := (blk_cell BK163.out 3).trans rfl
      have hcz17_4 : w3.cell? ⟨gb163, 4, none⟩ = some (.slice A0_4 l0_4.length c0_4) := (blk_cell BK163.out 4).trans rfl
      have hfz17_0 := blk_frozen BK163.out 0
      have hfz17_1 := blk_frozen BK163.out 1
      have hfz17_2 := blk_frozen BK163.out 2
      have hfz17_3 := blk_frozen BK163.out 3
      have hfz17_4 := blk_frozen BK163.out 4
      go_wp2_with (first | ((with_reducible refine gate_callee (f := 99) rfl ?_); refine goesL_ (some 14) rfl rfl Try.func99 (by kernel_rfl) rfl #[.int .i64 a0_0, .int .i64 a0_1] rfl (by (try simp only [List.map_toArray, List.map_cons, List.map_nil]); first | done | rfl | (simp only [List.length_drop, List.length_take]; rfl)) ?_; (with_reducible refine (impl_goodSides.calls a0_0 a0_1 true _ A5.out).mono ?_); rintro e w' ⟨rfl, ⟨nd, rfl⟩⟩; refine ⟨_, rfl, ?_⟩) | (go_at_call 100; (with_reducible refine (impl_inRange.calls k _ _ l0_2 16777215 true _ ?side1 ?side2 A12.out).mono ?_); (case side1 => repeat (first | exact (Kd.C_below HR0_2.out (by repeat (first | (with_reducible first | exact HB.out | apply below_alloc | apply pw_below_drewN | apply below_drew1 | refine below_set ?_ GE163.out) | exact HB.out))) | (with_reducible refine Kd.C_alloc ?_ _) | (with_reducible refine Kd.C_drewN ?_ _) | (with_reducible refine Kd.C_drew ?_))); (case side2 => exact HC0_2.out); rintro e w' ⟨rfl, ⟨nd, rfl⟩⟩))
      go_meet
      case rel => exact ⟨_, (true), (by first | rfl | (simp; done) | (simp [*]; done)), H', ⟨by first | omega | exact Nat.le_refl _⟩, ⟨by (with_reducible repeat (first | refine blk_drewN ?_ _ | refine blk_drew ?_ | refine blk_alloc ?_ _)); exact BK163.out⟩, ⟨by repeat (first | (with_reducible first | exact HB.out | apply below_alloc | apply pw_below_drewN | apply below_drew1 | refine below_set ?_ GE163.out) | exact HB.out)⟩⟩
    rw [if_neg c16] at H
    have c16b0 : decide (65535 < a0_3) = false := decide_eq_false c16
    clear c16
    by_cases c18 : (l0_4.length : Int) < 1
    · rw [if_pos c18] at H
      have c18b0 : decide ((l0_4.length : Int) < 1) = true := decide_eq_true c18
      have c18b1 : decide (l0_4.length < 1) = true := decide_eq_true (by omega)
      have c18b2 : l0_4.length < 1 := by omega
      clear c18
      have H' := Aside0.mk H
      clear H
      have hcz19_0 : w3.cell? ⟨gb163, 0, none⟩ = some (.int .i64 a0_0) := (blk_cell BK163.out 0).trans rfl
      have hcz19_1 : w3.cell? ⟨gb163, 1, none⟩ = some (.int .i64 a0_1) := (blk_cell BK163.out 1).trans rfl
      have hcz19_2 : w3.cell? ⟨gb163, 2, none⟩ = some (.slice A0_2 l0_2.length c0_2) := (blk_cell BK163.out 2).trans rfl
      have hcz19_3 : w3.cell? ⟨gb163, 3, none⟩ = some (.int .i64 a0_3) := (blk_cell BK163.out 3).trans rfl
      have hcz19_4 : w3.cell? ⟨gb163, 4, none⟩ = some (.slice A0_4 l0_4.length c0_4) := (blk_cell BK163.out 4).trans rfl
      have hfz19_0 := blk_frozen BK163.out 0
      have hfz19_1 := blk_frozen BK163.out 1
      have hfz19_2 := blk_frozen BK163.out 2
      have hfz19_3 := blk_frozen BK163.out 3
      have hfz19_4 := blk_frozen BK163.out 4
      go_wp2_with (first | ((with_reducible refine gate_callee (f := 99) rfl ?_); refine goesL_ (some 14) rfl rfl Try.func99 (by kernel_rfl) rfl #[.int .i64 a0_0, .int .i64 a0_1] rfl (by (try simp only [List.map_toArray, List.map_cons, List.map_nil]); first | done | rfl | (simp only [List.length_drop, List.length_take]; rfl)) ?_; (with_reducible refine (impl_goodSides.calls a0_0 a0_1 true _ A5.out).mono ?_); rintro e w' ⟨rfl, ⟨nd, rfl⟩⟩; refine ⟨_, rfl, ?_⟩) | (go_at_call 100; (with_reducible refine (impl_inRange.calls k _ _ l0_2 16777215 true _ ?side1 ?side2 A12.out).mono ?_); (case side1 => repeat (first | exact (Kd.C_below HR0_2.out (by repeat (first | (with_reducible first | exact HB.out | apply below_alloc | apply pw_below_drewN | apply below_drew1 | refine below_set ?_ GE163.out) | exact HB.out))) | (with_reducible refine Kd.C_alloc ?_ _) | (with_reducible refine Kd.C_drewN ?_ _) | (with_reducible refine Kd.C_drew ?_))); (case side2 => exact HC0_2.out); rintro e w' ⟨rfl, ⟨nd, rfl⟩⟩))
      go_meet
      case rel => exact ⟨_, (true), (by first | rfl | (simp; done) | (simp [*]; done)), H', ⟨by first | omega | exact Nat.le_refl _⟩, ⟨by (with_reducible repeat (first | refine blk_drewN ?_ _ | refine blk_drew ?_ | refine blk_alloc ?_ _)); exact BK163.out⟩, ⟨by repeat (first | (with_reducible first | exact HB.out | apply below_alloc | apply pw_below_drewN | apply below_drew1 | refine below_set ?_ GE163.out) | exact HB.out)⟩⟩
    rw [if_neg c18] at H
    have c18b0 : decide ((l0_4.length : Int) < 1) = false := decide_eq_false c18
    have c18b1 : decide (l0_4.length < 1) = false := decide_eq_false (by omega)
    have c18b2 : ¬ (l0_4.length < 1) := by omega
    clear c18
    have H' := Aside0.mk H
    clear H
    have hcz20_0 : w3.cell? ⟨gb163, 0, none⟩ = some (.int .i64 a0_0) := (blk_cell BK163.out 0).trans rfl
    have hcz20_1 : w3.cell? ⟨gb163, 1, none⟩ = some (.int .i64 a0_1) := (blk_cell BK163.out 1).trans rfl
    have hcz20_2 : w3.cell? ⟨gb163, 2, none⟩ = some (.slice A0_2 l0_2.length c0_2) := (blk_cell BK163.out 2).trans rfl
    have hcz20_3 : w3.cell? ⟨gb163, 3, none⟩ = some (.int .i64 a0_3) := (blk_cell BK163.out 3).trans rfl
    have hcz20_4 : w3.cell? ⟨gb163, 4, none⟩ = some (.slice A0_4 l0_4.length c0_4) := (blk_cell BK163.out 4).trans rfl
    have hfz20_0 := blk_frozen BK163.out 0
    have hfz20_1 := blk_frozen BK163.out 1
    have hfz20_2 := blk_frozen BK163.out 2
    have hfz20_3 := blk_frozen BK163.out 3
    have hfz20_4 := blk_frozen BK163.out 4
    go_wp2_with (first | ((with_reducible refine gate_callee (f := 99) rfl ?_); refine goesL_ (some 14) rfl rfl Try.func99 (by kernel_rfl) rfl #[.int .i64 a0_0, .int .i64 a0_1] rfl (by (try simp only [List.map_toArray, List.map_cons, List.map_nil]); first | done | rfl | (simp only [List.length_drop, List.length_take]; rfl)) ?_; (with_reducible refine (impl_goodSides.calls a0_0 a0_1 true _ A5.out).mono ?_); rintro e w' ⟨rfl, ⟨nd, rfl⟩⟩; refine ⟨_, rfl, ?_⟩) | (go_at_call 100; (with_reducible refine (impl_inRange.calls k _ _ l0_2 16777215 true _ ?side1 ?side2 A12.out).mono ?_); (case side1 => repeat (first | exact (Kd.C_below HR0_2.out (by repeat (first | (with_reducible first | exact HB.out | apply below_alloc | apply pw_below_drewN | apply below_drew1 | refine below_set ?_ GE163.out) | exact HB.out))) | (with_reducible refine Kd.C_alloc ?_ _) | (with_reducible refine Kd.C_drewN ?_ _) | (with_reducible refine Kd.C_drew ?_))); (case side2 => exact HC0_2.out); rintro e w' ⟨rfl, ⟨nd, rfl⟩⟩))
    go_meet
    case rel => exact ⟨_, (decide ((l0_4.length : Int) > 40)), (by first | rfl | (simp; done) | (simp [*]; done)), H', ⟨by first | omega | exact Nat.le_refl _⟩, ⟨by (with_reducible repeat (first | refine blk_drewN ?_ _ | refine blk_drew ?_ | refine blk_alloc ?_ _)); exact BK163.out⟩, ⟨by repeat (first | (with_reducible first | exact HB.out | apply below_alloc | apply pw_below_drewN | apply below_drew1 | refine below_set ?_ GE163.out) | exact HB.out)⟩⟩
  case rest =>
    clear HC2
    try clear c1
    try clear p2
    try clear c4
    try clear c6
    try clear p6
    try clear c7
    try clear c7b0
    try clear c7b1
    try clear c7b2
    try clear c9
    try clear c9b0
    try clear c9b1
    try clear c9b2
    try clear c11
    try clear c11b0
    try clear c11b1
    try clear c13
    try clear c14
    try clear c14b0
    try clear c16
    try clear c16b0
    try clear c18
    try clear c18b0
    try clear c18b1
    try clear c18b2
    try clear hcz10_0
    try clear hcz10_1
    try clear hcz10_2
    try clear hcz10_3
    try clear hcz10_4
    try clear hcz15_0
    try clear hcz15_1
    try clear hcz15_2
    try clear hcz15_3
    try clear hcz15_4
    try clear hcz17_0
    try clear hcz17_1
    try clear hcz17_2
    try clear hcz17_3
    try clear hcz17_4
    try clear hcz19_0
    try clear hcz19_1
    try clear hcz19_2
    try clear hcz19_3
    try clear hcz19_4
    try clear hcz20_0
    try clear hcz20_1
    try clear hcz20_2
    try clear hcz20_3
    try clear hcz20_4
    try clear hcz21_0
    try clear hcz21_1
    try clear hcz21_2
    try clear hcz21_3
    try clear hcz21_4
    try clear hcz22_0
    try clear hcz22_1
    try clear hcz22_2
    try clear hcz22_3
    try clear hcz22_4
    try clear hcz23_0
    try clear hcz23_1
    try clear hcz23_2
    try clear hcz23_3
    try clear hcz23_4
    try clear hcz4_0
    try clear hcz4_1
    try clear hcz4_2
    try clear hcz4_3
    try clear hcz4_4
    try clear hcz8_0
    try clear hcz8_1
    try clear hcz8_2
    try clear hcz8_3
    try clear hcz8_4
    try clear hfz10_0
    try clear hfz10_1
    try clear hfz10_2
    try clear hfz10_3
    try clear hfz10_4
    try clear hfz15_0
    try clear hfz15_1
    try clear hfz15_2
    try clear hfz15_3
    try clear hfz15_4
    try clear hfz17_0
    try clear hfz17_1
    try clear hfz17_2
    try clear hfz17_3
    try clear hfz17_4
    try clear hfz19_0
    try clear hfz19_1
    try clear hfz19_2
    try clear hfz19_3
    try clear hfz19_4
    try clear hfz20_0
    try clear hfz20_1
    try clear hfz20_2
    try clear hfz20_3
    try clear hfz20_4
    try clear hfz21_0
    try clear hfz21_1
    try clear hfz21_2
    try clear hfz21_3
    try clear hfz21_4
    try clear hfz22_0
    try clear hfz22_1
    try clear hfz22_2
    try clear hfz22_3
    try clear hfz22_4
    try clear hfz23_0
    try clear hfz23_1
    try clear hfz23_2
    try clear hfz23_3
    try clear hfz23_4
    try clear hfz4_0
    try clear hfz4_1
    try clear hfz4_2
    try clear hfz4_3
    try clear hfz4_4
    try clear hfz8_0
    try clear hfz8_1
    try clear hfz8_2
    try clear hfz8_3
    try clear hfz8_4
    obtain ⟨kq, x58_1, rfl, HA, HJ1, BK163, HB⟩ := hcut
    cases kq with
    | zero => exact absurd HA.out (by simp [impl_GoodMoving.j0])
    | succ kj1 =>
      have H := HA.out
      clear HA
      simp only [impl_GoodMoving.j0] at H
      by_cases c24 : x58_1 = true
      · subst c24
        have H1 : (some false) = some r := by rw [if_pos rfl] at H; exact H
        clear H
        have H := H1
        clear H1
        obtain rfl := Option.some.inj H
        go_wp2
        go_ret
        exact ⟨by first | rfl | (simp [errW_none, errW_some] <;> rfl) | (simp [*, errW_none, errW_some] <;> rfl), by repeat (first | (with_reducible first | exact HB.out | apply below_alloc | apply pw_below_drewN | apply below_drew1 | refine below_set ?_ GE163.out) | exact HB.out)⟩
      replace c24 := Bool.eq_false_iff.mpr c24
      subst c24
      have H1 : (impl_GoodMoving.l0 kj1 (l0_2.length : Int) 0 l0_4 (l0_4.length : Int) 0 a0_0 a0_1 l0_2 a0_3 l0_4) = some r := by rw [if_neg (show ¬ (false = true) by decide)] at H; exact H
      clear H
      have H := H1
      clear H1
      have H' := Aside0.mk H
      clear H
      have hcz25_0 : wc.cell? ⟨gb163, 0, none⟩ = some (.int .i64 a0_0) := (blk_cell BK163.out 0).trans rfl
      have hcz25_1 : wc.cell? ⟨gb163, 1, none⟩ = some (.int .i64 a0_1) := (blk_cell BK163.out 1).trans rfl
      have hcz25_2 : wc.cell? ⟨gb163, 2, none⟩ = some (.slice A0_2 l0_2.length c0_2) := (blk_cell BK163.out 2).trans rfl
      have hcz25_3 : wc.cell? ⟨gb163, 3, none⟩ = some (.int .i64 a0_3) := (blk_cell BK163.out 3).trans rfl
      have hcz25_4 : wc.cell? ⟨gb163, 4, none⟩ = some (.slice A0_4 l0_4.length c0_4) := (blk_cell BK163.out 4).trans rfl
      have hfz25_0 := blk_frozen BK163.out 0
      have hfz25_1 := blk_frozen BK163.out 1
      have hfz25_2 := blk_frozen BK163.out 2
      have hfz25_3 := blk_frozen BK163.out 3
      have hfz25_4 := blk_frozen BK163.out 4
      go_wp2
      go_loopg [4, 62] kj1 (fun kq v4 v62 w' => ∃ (x4_2 : Int) (x62_2 : Int), v4 = .int .i64 x4_2 ∧ v62 = .int .i64 x62_2 ∧ Aside0 (impl_GoodMoving.l0 kq (l0_2.length : Int) x4_2 l0_4 (l0_4.length : Int) x62_2 a0_0 a0_1 l0_2 a0_3 l0_4 = some r) ∧ Aside0 (kq ≤ kj1) ∧ Aside0 (w'.heap[gb163]? = some (.cells #[.int .i64 a0_0, .int .i64 a0_1, (.slice A0_2 l0_2.length c0_2), .int .i64 a0_3, (.slice A0_4 l0_4.length c0_4)] 61 (0, 0))) ∧ Aside0 (Below w.heap.size w w'))
      case atStart => exact ⟨(0), (0), (by first | rfl | (simp; done) | (simp [*]; done)), (by first | rfl | (simp; done) | (simp [*]; done)), H', ⟨Nat.le_refl _⟩, ⟨by (with_reducible repeat (first | refine blk_drewN ?_ _ | refine blk_drew ?_ | refine blk_alloc ?_ _)); exact BK163.out⟩, ⟨by repeat (first | (with_reducible first | exact HB.out | apply below_alloc | apply pw_below_drewN | apply below_drew1 | refine below_set ?_ GE163.out) | exact HB.out)⟩⟩
      case round =>
        clear H'
        try clear c1
        try clear c2
        try clear p2
        try clear c4
        try clear c6
        try clear p6
        try clear c7
        try clear c7b0
        try clear c7b1
        try clear c7b2
        try clear c9
        try clear c9b0
        try clear c9b1
        try clear c9b2
        try clear c11
        try clear c11b0
        try clear c11b1
        try clear c13
        try clear c14
        try clear c14b0
        try clear c16
        try clear c16b0
        try clear c18
        try clear c18b0
        try clear c18b1
        try clear c18b2
        try clear c24
        try clear hcz10_0
        try clear hcz10_1
        try clear hcz10_2
        try clear hcz10_3
        try clear hcz10_4
        try clear hcz15_0
        try clear hcz15_1
        try clear hcz15_2
        try clear hcz15_3
        try clear hcz15_4
        try clear hcz17_0
        try clear hcz17_1
        try clear hcz17_2
        try clear hcz17_3
        try clear hcz17_4
        try clear hcz19_0
        try clear hcz19_1
        try clear hcz19_2
        try clear hcz19_3
        try clear hcz19_4
        try clear hcz20_0
        try clear hcz20_1
        try clear hcz20_2
        try clear hcz20_3
        try clear hcz20_4
        try clear hcz21_0
        try clear hcz21_1
        try clear hcz21_2
        try clear hcz21_3
        try clear hcz21_4
        try clear hcz22_0
        try clear hcz22_1
        try clear hcz22_2
        try clear hcz22_3
        try clear hcz22_4
        try clear hcz23_0
        try clear hcz23_1
        try clear hcz23_2
        try clear hcz23_3
        try clear hcz23_4
        try clear hcz25_0
        try clear hcz25_1
        try clear hcz25_2
        try clear hcz25_3
        try clear hcz25_4
        try clear hcz4_0
        try clear hcz4_1
        try clear hcz4_2
        try clear hcz4_3
        try clear hcz4_4
        try clear hcz8_0
        try clear hcz8_1
        try clear hcz8_2
        try clear hcz8_3
        try clear hcz8_4
        try clear hfz10_0
        try clear hfz10_1
        try clear hfz10_2
        try clear hfz10_3
        try clear hfz10_4
        try clear hfz15_0
        try clear hfz15_1
        try clear hfz15_2
        try clear hfz15_3
        try clear hfz15_4
        try clear hfz17_0
        try clear hfz17_1
        try clear hfz17_2
        try clear hfz17_3
        try clear hfz17_4
        try clear hfz19_0
        try clear hfz19_1
        try clear hfz19_2
        try clear hfz19_3
        try clear hfz19_4
        try clear hfz20_0
        try clear hfz20_1
        try clear hfz20_2
        try clear hfz20_3
        try clear hfz20_4
        try clear hfz21_0
        try clear hfz21_1
        try clear hfz21_2
        try clear hfz21_3
        try clear hfz21_4
        try clear hfz22_0
        try clear hfz22_1
        try clear hfz22_2
        try clear hfz22_3
        try clear hfz22_4
        try clear hfz23_0
        try clear hfz23_1
        try clear hfz23_2
        try clear hfz23_3
        try clear hfz23_4
        try clear hfz25_0
        try clear hfz25_1
        try clear hfz25_2
        try clear hfz25_3
        try clear hfz25_4
        try clear hfz4_0
        try clear hfz4_1
        try clear hfz4_2
        try clear hfz4_3
        try clear hfz4_4
        try clear hfz8_0
        try clear hfz8_1
        try clear hfz8_2
        try clear hfz8_3
        try clear hfz8_4
        try clear p2
        try clear p6
        obtain ⟨x4_2, x62_2, rfl, rfl, HA, HK2, BK163, HB⟩ := hrel
        cases gk with
        | zero => exact absurd HA.out (by simp [impl_GoodMoving.l0])
        | succ k2 =>
          have H := HA.out
          clear HA
          simp only [impl_GoodMoving.l0] at H
          by_cases c26 : x62_2 < (l0_4.length : Int)
          rotate_left
          · rw [if_neg c26] at H
            have c26b0 : decide (x62_2 < (l0_4.length : Int)) = false := decide_eq_false c26
            clear c26
            obtain rfl := Option.some.inj H
            go_wp2
            go_ret
            exact ⟨by first | rfl | (simp [errW_none, errW_some] <;> rfl) | (simp [*, errW_none, errW_some] <;> rfl), by repeat (first | (with_reducible first | exact HB.out | apply below_alloc | apply pw_below_drewN | apply below_drew1 | refine below_set ?_ GE163.out) | exact HB.out)⟩
          rw [if_pos c26] at H
          have c26b0 : decide (x62_2 < (l0_4.length : Int)) = true := decide_eq_true c26
          clear c26
          by_cases c27 : 0 ≤ x62_2
          rotate_left
          · rw [if_neg c27] at H
            exact absurd H (by simp)
          rw [if_pos c27] at H
          have c27b0 : decide (0 ≤ x62_2) = true := decide_eq_true c27
          clear c27
          by_cases c28 : x62_2 < (l0_4.length : Int)
          rotate_left
          · rw [if_neg c28] at H
            exact absurd H (by simp)
          rw [if_pos c28] at H
          have c28b0 : decide (x62_2 < (l0_4.length : Int)) = true := decide_eq_true c28
          clear c28
          replace H := Option.bind_eq_some_iff.mp H
          obtain ⟨t168, A290, H⟩ := H
          replace H : (if t168 = true then (if (((rd_T115 l0_4 x62_2).f7).length : Int) = (wrap64 (((rd_T115 l0_4 x62_2).f2) * ((rd_T115 l0_4 x62_2).f3))) then ((impl_inRange.f k2 ((rd_T115 l0_4 x62_2).f7) (wrap64 ((l0_2.length : Int) - 1))).bind fun t169 => (if t169 = true then (impl_GoodMoving.l0 k2 (l0_2.length : Int) (wrap64 (x4_2 + (((rd_T115 l0_4 x62_2).f7).length : Int))) l0_4 (l0_4.length : Int) (wrap64 (x62_2 + 1)) a0_0 a0_1 l0_2 a0_3 l0_4) else (some false))) else (some false)) else (some false)) = some r := H
          have A29 := Aside0.mk A290
          clear A290
          by_cases c30 : t168 = true
          rotate_left
          · replace c30 := Bool.eq_false_iff.mpr c30
            subst c30
            have H1 : (some false) = some r := by rw [if_neg (show ¬ (false = true) by decide)] at H; exact H
            clear H
            have H := H1
            clear H1
            obtain rfl := Option.some.inj H
            have p166 : 0 ≤ (x62_2 : Int) := of_decide_eq_true (by first | (with_reducible assumption) | assumption)
            have q166 : x62_2 < (l0_4.length : Int) := of_decide_eq_true (by first | (with_reducible assumption) | assumption)
            obtain ⟨ad166, A166_7, c166_7, e166, hx166_0, hx166_1, hx166_2, hx166_3, hx166_4, hx166_5, hx166_6, hx166_7, hl166_7, hi166_7⟩ := at_T115 HR0_4.out x62_2 p166 q166
            cases e166
            replace hx166_0 := (HB.out.cell (World.block_lt_of_cell? w _ hx166_0)).trans hx166_0
            replace hx166_1 := (HB.out.cell (World.block_lt_of_cell? w _ hx166_1)).trans hx166_1
            replace hx166_2 := (HB.out.cell (World.block_lt_of_cell? w _ hx166_2)).trans hx166_2
            replace hx166_3 := (HB.out.cell (World.block_lt_of_cell? w _ hx166_3)).trans hx166_3
            replace hx166_4 := (HB.out.cell (World.block_lt_of_cell? w _ hx166_4)).trans hx166_4
            replace hx166_5 := (HB.out.cell (World.block_lt_of_cell? w _ hx166_5)).trans hx166_5
            replace hx166_6 := (HB.out.cell (World.block_lt_of_cell? w _ hx166_6)).trans hx166_6
            replace hx166_7 := (HB.out.cell (World.block_lt_of_cell? w _ hx166_7)).trans hx166_7
            have HR166_7 := Aside0.mk hi166_7
            have HC166_7 := Aside0.mk hl166_7
            clear hi166_7 hl166_7
            replace p166 := eq_true p166
            replace q166 := eq_true q166
            go_wp2_with (first | ((with_reducible refine gate_dst (N := 6) rfl ?_); (try (refine gate_guard (by rfl) ?_; dsimp only)); refine box_event ?hg (N := 6) ?hd (cs := #[.int .i64 0, .int .i64 0, .int .i64 0, .int .i64 0, .int .i64 0, .int .i64 0, .int .i64 0, .slice none 0 0]) (t := 115) ?hr ?_; (case hd => rfl); (case hg => rfl); (case hr => first | (go_simp; done) | (go_simp; rfl)); intro gb167 hg w52 hbox hb; have n0_ := Aside0.mk (blk_below (g := gb163) (o := .cells #[.int .i64 a0_0, .int .i64 a0_1, .slice A0_2 l0_2.length c0_2, .int .i64 a0_3, .slice (some ad166) l0_4.length c0_4] 61 (0, 0)) (by (with_reducible repeat (first | refine blk_drewN ?_ _ | refine blk_drew ?_ | refine blk_alloc ?_ _)); exact BK163.out) hb); have n1_ := Aside0.mk (below_step (by repeat (first | (with_reducible first | exact HB.out | apply below_alloc | apply pw_below_drewN | apply below_drew1 | refine below_set ?_ GE163.out) | exact HB.out)) hb); have n2_ := Aside0.mk (hbox); have n3_ := Aside0.mk ((by rw [hg]; exact (below_size (by repeat (first | (with_reducible first | exact HB.out | apply below_alloc | apply pw_below_drewN | apply below_drew1 | refine below_set ?_ GE163.out) | exact HB.out))) : w.heap.size ≤ gb167)); have n4_ := Aside0.mk ((by rw [hg]; exact (below_size (by repeat (first | (with_reducible first | exact HB.out | apply below_alloc | apply pw_below_drewN | apply below_drew1 | refine below_set ?_ GE163.out) | exact HB.out))) : w.heap.size ≤ gb167)); have n5_ := Aside0.mk ((by rw [hg]; exact Nat.ne_of_lt (blk_lt (g := gb163) (o := .cells #[.int .i64 a0_0, .int .i64 a0_1, .slice A0_2 l0_2.length c0_2, .int .i64 a0_3, .slice (some ad166) l0_4.length c0_4] 61 (0, 0)) (by (with_reducible repeat (first | refine blk_drewN ?_ _ | refine blk_drew ?_ | refine blk_alloc ?_ _)); exact BK163.out)) : gb163 ≠ gb167)); have n6_ := Aside0.mk ((by rw [hg]; exact Nat.ne_of_gt (blk_lt (g := gb163) (o := .cells #[.int .i64 a0_0, .int .i64 a0_1, .slice A0_2 l0_2.length c0_2, .int .i64 a0_3, .slice (some ad166) l0_4.length c0_4] 61 (0, 0)) (by (with_reducible repeat (first | refine blk_drewN ?_ _ | refine blk_drew ?_ | refine blk_alloc ?_ _)); exact BK163.out)) : gb167 ≠ gb163)); clear BK163; clear HB; have BK163 := n0_; have HB := n1_; have BK167 := n2_; have GW167 := n3_; have GE167 := n4_; have NB163_167 := n5_; have NB167_163 := n6_; clear n0_ n1_ n2_ n3_ n4_ n5_ n6_; clear hb hbox hg; have hnb53 := NB167_163.out; have hnc53 := NB163_167.out; have hcz54_0 : w52.cell? ⟨gb167, 0, none⟩ = some (.int .i64 0) := (blk_cell BK167.out 0).trans rfl; have hcz54_1 : w52.cell? ⟨gb167, 1, none⟩ = some (.int .i64 0) := (blk_cell BK167.out 1).trans rfl; have hcz54_2 : w52.cell? ⟨gb167, 2, none⟩ = some (.int .i64 0) := (blk_cell BK167.out 2).trans rfl; have hcz54_3 : w52.cell? ⟨gb167, 3, none⟩ = some (.int .i64 0) := (blk_cell BK167.out 3).trans rfl; have hcz54_4 : w52.cell? ⟨gb167, 4, none⟩ = some (.int .i64 0) := (blk_cell BK167.out 4).trans rfl; have hcz54_5 : w52.cell? ⟨gb167, 5, none⟩ = some (.int .i64 0) := (blk_cell BK167.out 5).trans rfl; have hcz54_6 : w52.cell? ⟨gb167, 6, none⟩ = some (.int .i64 0) := (blk_cell BK167.out 6).trans rfl; have hcz54_7 : w52.cell? ⟨gb167, 7, none⟩ = some (.slice none 0 0) := (blk_cell BK167.out 7).trans rfl; have hfz54_0 := blk_frozen BK167.out 0; have hfz54_1 := blk_frozen BK167.out 1; have hfz54_2 := blk_frozen BK167.out 2; have hfz54_3 := blk_frozen BK167.out 3; have hfz54_4 := blk_frozen BK167.out 4; have hfz54_5 := blk_frozen BK167.out 5; have hfz54_6 := blk_frozen BK167.out 6; have hfz54_7 := blk_frozen BK167.out 7; have hcz55_0 : w52.cell? ⟨gb163, 0, none⟩ = some (.int .i64 a0_0) := (blk_cell BK163.out 0).trans rfl; have hcz55_1 : w52.cell? ⟨gb163, 1, none⟩ = some (.int .i64 a0_1) := (blk_cell BK163.out 1).trans rfl; have hcz55_2 : w52.cell? ⟨gb163, 2, none⟩ = some (.slice A0_2 l0_2.length c0_2) := (blk_cell BK163.out 2).trans rfl; have hcz55_3 : w52.cell? ⟨gb163, 3, none⟩ = some (.int .i64 a0_3) := (blk_cell BK163.out 3).trans rfl; have hcz55_4 : w52.cell? ⟨gb163, 4, none⟩ = some (.slice (some ad166) l0_4.length c0_4) := (blk_cell BK163.out 4).trans rfl; have hfz55_0 := blk_frozen BK163.out 0; have hfz55_1 := blk_frozen BK163.out 1; have hfz55_2 := blk_frozen BK163.out 2; have hfz55_3 := blk_frozen BK163.out 3; have hfz55_4 := blk_frozen BK163.out 4) | ((with_reducible refine gate_callee (f := 101) rfl ?_); refine goesL_ (some 68) rfl rfl Try.func101 (by kernel_rfl) rfl #[.agg #[.int .i64 a0_0, .int .i64 a0_1, .slice A0_2 l0_2.length c0_2, .int .i64 a0_3, .slice (some ad166) l0_4.length c0_4], .agg #[.int .i64 ((rd_T115 l0_4 x62_2).f0), .int .i64 ((rd_T115 l0_4 x62_2).f1), .int .i64 ((rd_T115 l0_4 x62_2).f2), .int .i64 ((rd_T115 l0_4 x62_2).f3), .int .i64 ((rd_T115 l0_4 x62_2).f4), .int .i64 ((rd_T115 l0_4 x62_2).f5), .int .i64 ((rd_T115 l0_4 x62_2).f6), .slice A166_7 ((rd_T115 l0_4 x62_2).f7).length c166_7]] rfl (by (try simp only [List.map_toArray, List.map_cons, List.map_nil]); first | done | rfl | (simp only [List.length_drop, List.length_take]; rfl)) ?_; (with_reducible refine (impl_goodFrame.calls a0_0 a0_1 _ _ l0_2 a0_3 _ _ l0_4 ((rd_T115 l0_4 x62_2).f0) ((rd_T115 l0_4 x62_2).f1) ((rd_T115 l0_4 x62_2).f2) ((rd_T115 l0_4 x62_2).f3) ((rd_T115 l0_4 x62_2).f4) ((rd_T115 l0_4 x62_2).f5) ((rd_T115 l0_4 x62_2).f6) _ _ ((rd_T115 l0_4 x62_2).f7) false _ ?side1 ?side2 ?side3 ?side4 ?side5 ?side6 A29.out).mono ?_); (case side1 => exact Kd.C_below HR0_2.out (by repeat (first | (with_reducible first | exact HB.out | apply below_alloc | apply pw_below_drewN | apply below_drew1 | refine below_set ?_ GE163.out | refine below_set ?_ GE167.out) | exact HB.out))); (case side2 => exact HC0_2.out); (case side3 => exact Kd.C_below HR0_4.out (by repeat (first | (with_reducible first | exact HB.out | apply below_alloc | apply pw_below_drewN | apply below_drew1 | refine below_set ?_ GE163.out | refine below_set ?_ GE167.out) | exact HB.out))); (case side4 => exact HC0_4.out); (case side5 => exact Kd.C_below HR166_7.out (by repeat (first | (with_reducible first | exact HB.out | apply below_alloc | apply pw_below_drewN | apply below_drew1 | refine below_set ?_ GE163.out | refine below_set ?_ GE167.out) | exact HB.out))); (case side6 => exact HC166_7.out); rintro e w56 ⟨rfl, hb⟩; refine ⟨_, rfl, ?_⟩; have n0_ := Aside0.mk (blk_below (g := gb163) (o := .cells #[.int .i64 a0_0, .int .i64 a0_1, .slice A0_2 l0_2.length c0_2, .int .i64 a0_3, .slice (some ad166) l0_4.length c0_4] 61 (0, 0)) (by (with_reducible repeat (first | refine blk_drewN ?_ _ | refine blk_drew ?_ | refine blk_alloc ?_ _)); refine blk_far ?_ NB163_167.out _; (with_reducible repeat (first | refine blk_drewN ?_ _ | refine blk_drew ?_ | refine blk_alloc ?_ _)); refine blk_far ?_ NB163_167.out _; (with_reducible repeat (first | refine blk_drewN ?_ _ | refine blk_drew ?_ | refine blk_alloc ?_ _)); refine blk_far ?_ NB163_167.out _; (with_reducible repeat (first | refine blk_drewN ?_ _ | refine blk_drew ?_ | refine blk_alloc ?_ _)); refine blk_far ?_ NB163_167.out _; (with_reducible repeat (first | refine blk_drewN ?_ _ | refine blk_drew ?_ | refine blk_alloc ?_ _)); refine blk_far ?_ NB163_167.out _; (with_reducible repeat (first | refine blk_drewN ?_ _ | refine blk_drew ?_ | refine blk_alloc ?_ _)); refine blk_far ?_ NB163_167.out _; (with_reducible repeat (first | refine blk_drewN ?_ _ | refine blk_drew ?_ | refine blk_alloc ?_ _)); refine blk_far ?_ NB163_167.out _; (with_reducible repeat (first | refine blk_drewN ?_ _ | refine blk_drew ?_ | refine blk_alloc ?_ _)); refine blk_far ?_ NB163_167.out _; (with_reducible repeat (first | refine blk_drewN ?_ _ | refine blk_drew ?_ | refine blk_alloc ?_ _)); exact BK163.out) hb); have n1_ := Aside0.mk (blk_below (g := gb167) (o := .cells #[.int .i64 ((rd_T115 l0_4 x62_2).f0), .int .i64 ((rd_T115 l0_4 x62_2).f1), .int .i64 ((rd_T115 l0_4 x62_2).f2), .int .i64 ((rd_T115 l0_4 x62_2).f3), .int .i64 ((rd_T115 l0_4 x62_2).f4), .int .i64 ((rd_T115 l0_4 x62_2).f5), .int .i64 ((rd_T115 l0_4 x62_2).f6), .slice A166_7 ((rd_T115 l0_4 x62_2).f7).length c166_7] 115 (0, 0)) (by (with_reducible repeat (first | refine blk_drewN ?_ _ | refine blk_drew ?_ | refine blk_alloc ?_ _)); refine blk_put (cs := #[.int .i64 ((rd_T115 l0_4 x62_2).f0), .int .i64 ((rd_T115 l0_4 x62_2).f1), .int .i64 ((rd_T115 l0_4 x62_2).f2), .int .i64 ((rd_T115 l0_4 x62_2).f3), .int .i64 ((rd_T115 l0_4 x62_2).f4), .int .i64 ((rd_T115 l0_4 x62_2).f5), .int .i64 ((rd_T115 l0_4 x62_2).f6), .slice none 0 0]) ?_ 7 _ rfl; (with_reducible repeat (first | refine blk_drewN ?_ _ | refine blk_drew ?_ | refine blk_alloc ?_ _)); refine blk_put (cs := #[.int .i64 ((rd_T115 l0_4 x62_2).f0), .int .i64 ((rd_T115 l0_4 x62_2).f1), .int .i64 ((rd_T115 l0_4 x62_2).f2), .int .i64 ((rd_T115 l0_4 x62_2).f3), .int .i64 ((rd_T115 l0_4 x62_2).f4), .int .i64 ((rd_T115 l0_4 x62_2).f5), .int .i64 0, .slice none 0 0]) ?_ 6 _ rfl; (with_reducible repeat (first | refine blk_drewN ?_ _ | refine blk_drew ?_ | refine blk_alloc ?_ _)); refine blk_put (cs := #[.int .i64 ((rd_T115 l0_4 x62_2).f0), .int .i64 ((rd_T115 l0_4 x62_2).f1), .int .i64 ((rd_T115 l0_4 x62_2).f2), .int .i64 ((rd_T115 l0_4 x62_2).f3), .int .i64 ((rd_T115 l0_4 x62_2).f4), .int .i64 0, .int .i64 0, .slice none 0 0]) ?_ 5 _ rfl; (with_reducible repeat (first | refine blk_drewN ?_ _ | refine blk_drew ?_ | refine blk_alloc ?_ _)); refine blk_put (cs := #[.int .i64 ((rd_T115 l0_4 x62_2).f0), .int .i64 ((rd_T115 l0_4 x62_2).f1), .int .i64 ((rd_T115 l0_4 x62_2).f2), .int .i64 ((rd_T115 l0_4 x62_2).f3), .int .i64 0, .int .i64 0, .int .i64 0, .slice none 0 0]) ?_ 4 _ rfl; (with_reducible repeat (first | refine blk_drewN ?_ _ | refine blk_drew ?_ | refine blk_alloc ?_ _)); refine blk_put (cs := #[.int .i64 ((rd_T115 l0_4 x62_2).f0), .int .i64 ((rd_T115 l0_4 x62_2).f1), .int .i64 ((rd_T115 l0_4 x62_2).f2), .int .i64 0, .int .i64 0, .int .i64 0, .int .i64 0, .slice none 0 0]) ?_ 3 _ rfl; (with_reducible repeat (first | refine blk_drewN ?_ _ | refine blk_drew ?_ | refine blk_alloc ?_ _)); refine blk_put (cs := #[.int .i64 ((rd_T115 l0_4 x62_2).f0), .int .i64 ((rd_T115 l0_4 x62_2).f1), .int .i64 0, .int .i64 0, .int .i64 0, .int .i64 0, .int .i64 0, .slice none 0 0]) ?_ 2 _ rfl; (with_reducible repeat (first | refine blk_drewN ?_ _ | refine blk_drew ?_ | refine blk_alloc ?_ _)); refine blk_put (cs := #[.int .i64 ((rd_T115 l0_4 x62_2).f0), .int .i64 0, .int .i64 0, .int .i64 0, .int .i64 0, .int .i64 0, .int .i64 0, .slice none 0 0]) ?_ 1 _ rfl; (with_reducible repeat (first | refine blk_drewN ?_ _ | refine blk_drew ?_ | refine blk_alloc ?_ _)); refine blk_put (cs := #[.int .i64 0, .int .i64 0, .int .i64 0, .int .i64 0, .int .i64 0, .int .i64 0, .int .i64 0, .slice none 0 0]) ?_ 0 _ rfl; (with_reducible repeat (first | refine blk_drewN ?_ _ | refine blk_drew ?_ | refine blk_alloc ?_ _)); exact BK167.out) hb); have n2_ := Aside0.mk (below_step (by repeat (first | (with_reducible first | exact HB.out | apply below_alloc | apply pw_below_drewN | apply below_drew1 | refine below_set ?_ GE163.out | refine below_set ?_ GE167.out) | exact HB.out)) hb); clear BK163; clear BK167; clear HB; have BK163 := n0_; have BK167 := n1_; have HB := n2_; clear n0_ n1_ n2_; (try clear hb); (try clear hb2); (try clear hk); (try clear hi)))
            go_ret
            exact ⟨by first | rfl | (simp [errW_none, errW_some] <;> rfl) | (simp [*, errW_none, errW_some] <;> rfl), by repeat (first | (with_reducible first | exact HB.out | apply below_alloc | apply pw_below_drewN | apply below_drew1 | refine below_set ?_ GE163.out | refine below_set ?_ GE167.out) | exact HB.out)⟩
          subst c30
          have H1 : (if (((rd_T115 l0_4 x62_2).f7).length : Int) = (wrap64 (((rd_T115 l0_4 x62_2).f2) * ((rd_T115 l0_4 x62_2).f3))) then ((impl_inRange.f k2 ((rd_T115 l0_4 x62_2).f7) (wrap64 ((l0_2.length : Int) - 1))).bind fun t169 => (if t169 = true then (impl_GoodMoving.l0 k2 (l0_2.length : Int) (wrap64 (x4_2 + (((rd_T115 l0_4 x62_2).f7).length : Int))) l0_4 (l0_4.length : Int) (wrap64 (x62_2 + 1)) a0_0 a0_1 l0_2 a0_3 l0_4) else (some false))) else (some false)) = some r := by rw [if_pos rfl] at H; exact H
          clear H
          have H := H1
          clear H1
          by_cases c31 : (((rd_T115 l0_4 x62_2).f7).length : Int) = (wrap64 (((rd_T115 l0_4 x62_2).f2) * ((rd_T115 l0_4 x62_2).f3)))
          rotate_left
          · rw [if_neg c31] at H
            have c31b0 : ((((rd_T115 l0_4 x62_2).f7).length : Int) == (wrap64 (((rd_T115 l0_4 x62_2).f2) * ((rd_T115 l0_4 x62_2).f3)))) = false := beq_eq_false_iff_ne.mpr c31
            have c31b1 : ((((rd_T115 l0_4 x62_2).f7).length : Int) != (wrap64 (((rd_T115 l0_4 x62_2).f2) * ((rd_T115 l0_4 x62_2).f3)))) = true := bne_iff_ne.mpr c31
            obtain rfl := Option.some.inj H
            have p166 : 0 ≤ (x62_2 : Int) := of_decide_eq_true (by first | (with_reducible assumption) | assumption)
            have q166 : x62_2 < (l0_4.length : Int) := of_decide_eq_true (by first | (with_reducible assumption) | assumption)
            obtain ⟨ad166, A166_7, c166_7, e166, hx166_0, hx166_1, hx166_2, hx166_3, hx166_4, hx166_5, hx166_6, hx166_7, hl166_7, hi166_7⟩ := at_T115 HR0_4.out x62_2 p166 q166
            cases e166
            replace hx166_0 := (HB.out.cell (World.block_lt_of_cell? w _ hx166_0)).trans hx166_0
            replace hx166_1 := (HB.out.cell (World.block_lt_of_cell? w _ hx166_1)).trans hx166_1
            replace hx166_2 := (HB.out.cell (World.block_lt_of_cell? w _ hx166_2)).trans hx166_2
            replace hx166_3 := (HB.out.cell (World.block_lt_of_cell? w _ hx166_3)).trans hx166_3
            replace hx166_4 := (HB.out.cell (World.block_lt_of_cell? w _ hx166_4)).trans hx166_4
            replace hx166_5 := (HB.out.cell (World.block_lt_of_cell? w _ hx166_5)).trans hx166_5
            replace hx166_6 := (HB.out.cell (World.block_lt_of_cell? w _ hx166_6)).trans hx166_6
            replace hx166_7 := (HB.out.cell (World.block_lt_of_cell? w _ hx166_7)).trans hx166_7
            have HR166_7 := Aside0.mk hi166_7
            have HC166_7 := Aside0.mk hl166_7
            clear hi166_7 hl166_7
            replace p166 := eq_true p166
            replace q166 := eq_true q166
            go_wp2_with (first | ((with_reducible refine gate_dst (N := 6) rfl ?_); (try (refine gate_guard (by rfl) ?_; dsimp only)); refine box_event ?hg (N := 6) ?hd (cs := #[.int .i64 0, .int .i64 0, .int .i64 0, .int .i64 0, .int .i64 0, .int .i64 0, .int .i64 0, .slice none 0 0]) (t := 115) ?hr ?_; (case hd => rfl); (case hg => rfl); (case hr => first | (go_simp; done) | (go_simp; rfl)); intro gb167 hg w46 hbox hb; have n0_ := Aside0.mk (blk_below (g := gb163) (o := .cells #[.int .i64 a0_0, .int .i64 a0_1, .slice A0_2 l0_2.length c0_2, .int .i64 a0_3, .slice (some ad166) l0_4.length c0_4] 61 (0, 0)) (by (with_reducible repeat (first | refine blk_drewN ?_ _ | refine blk_drew ?_ | refine blk_alloc ?_ _)); exact BK163.out) hb); have n1_ := Aside0.mk (below_step (by repeat (first | (with_reducible first | exact HB.out | apply below_alloc | apply pw_below_drewN | apply below_drew1 | refine below_set ?_ GE163.out) | exact HB.out)) hb); have n2_ := Aside0.mk (hbox); have n3_ := Aside0.mk ((by rw [hg]; exact (below_size (by repeat (first | (with_reducible first | exact HB.out | apply below_alloc | apply pw_below_drewN | apply below_drew1 | refine below_set ?_ GE163.out) | exact HB.out))) : w.heap.size ≤ gb167)); have n4_ := Aside0.mk ((by rw [hg]; exact (below_size (by repeat (first | (with_reducible first | exact HB.out | apply below_alloc | apply pw_below_drewN | apply below_drew1 | refine below_set ?_ GE163.out) | exact HB.out))) : w.heap.size ≤ gb167)); have n5_ := Aside0.mk ((by rw [hg]; exact Nat.ne_of_lt (blk_lt (g := gb163) (o := .cells #[.int .i64 a0_0, .int .i64 a0_1, .slice A0_2 l0_2.length c0_2, .int .i64 a0_3, .slice (some ad166) l0_4.length c0_4] 61 (0, 0)) (by (with_reducible repeat (first | refine blk_drewN ?_ _ | refine blk_drew ?_ | refine blk_alloc ?_ _)); exact BK163.out)) : gb163 ≠ gb167)); have n6_ := Aside0.mk ((by rw [hg]; exact Nat.ne_of_gt (blk_lt (g := gb163) (o := .cells #[.int .i64 a0_0, .int .i64 a0_1, .slice A0_2 l0_2.length c0_2, .int .i64 a0_3, .slice (some ad166) l0_4.length c0_4] 61 (0, 0)) (by (with_reducible repeat (first | refine blk_drewN ?_ _ | refine blk_drew ?_ | refine blk_alloc ?_ _)); exact BK163.out)) : gb167 ≠ gb163)); clear BK163; clear HB; have BK163 := n0_; have HB := n1_; have BK167 := n2_; have GW167 := n3_; have GE167 := n4_; have NB163_167 := n5_; have NB167_163 := n6_; clear n0_ n1_ n2_ n3_ n4_ n5_ n6_; clear hb hbox hg; have hnb47 := NB167_163.out; have hnc47 := NB163_167.out; have hcz48_0 : w46.cell? ⟨gb167, 0, none⟩ = some (.int .i64 0) := (blk_cell BK167.out 0).trans rfl; have hcz48_1 : w46.cell? ⟨gb167, 1, none⟩ = some (.int .i64 0) := (blk_cell BK167.out 1).trans rfl; have hcz48_2 : w46.cell? ⟨gb167, 2, none⟩ = some (.int .i64 0) := (blk_cell BK167.out 2).trans rfl; have hcz48_3 : w46.cell? ⟨gb167, 3, none⟩ = some (.int .i64 0) := (blk_cell BK167.out 3).trans rfl; have hcz48_4 : w46.cell? ⟨gb167, 4, none⟩ = some (.int .i64 0) := (blk_cell BK167.out 4).trans rfl; have hcz48_5 : w46.cell? ⟨gb167, 5, none⟩ = some (.int .i64 0) := (blk_cell BK167.out 5).trans rfl; have hcz48_6 : w46.cell? ⟨gb167, 6, none⟩ = some (.int .i64 0) := (blk_cell BK167.out 6).trans rfl; have hcz48_7 : w46.cell? ⟨gb167, 7, none⟩ = some (.slice none 0 0) := (blk_cell BK167.out 7).trans rfl; have hfz48_0 := blk_frozen BK167.out 0; have hfz48_1 := blk_frozen BK167.out 1; have hfz48_2 := blk_frozen BK167.out 2; have hfz48_3 := blk_frozen BK167.out 3; have hfz48_4 := blk_frozen BK167.out 4; have hfz48_5 := blk_frozen BK167.out 5; have hfz48_6 := blk_frozen BK167.out 6; have hfz48_7 := blk_frozen BK167.out 7; have hcz49_0 : w46.cell? ⟨gb163, 0, none⟩ = some (.int .i64 a0_0) := (blk_cell BK163.out 0).trans rfl; have hcz49_1 : w46.cell? ⟨gb163, 1, none⟩ = some (.int .i64 a0_1) := (blk_cell BK163.out 1).trans rfl; have hcz49_2 : w46.cell? ⟨gb163, 2, none⟩ = some (.slice A0_2 l0_2.length c0_2) := (blk_cell BK163.out 2).trans rfl; have hcz49_3 : w46.cell? ⟨gb163, 3, none⟩ = some (.int .i64 a0_3) := (blk_cell BK163.out 3).trans rfl; have hcz49_4 : w46.cell? ⟨gb163, 4, none⟩ = some (.slice (some ad166) l0_4.length c0_4) := (blk_cell BK163.out 4).trans rfl; have hfz49_0 := blk_frozen BK163.out 0; have hfz49_1 := blk_frozen BK163.out 1; have hfz49_2 := blk_frozen BK163.out 2; have hfz49_3 := blk_frozen BK163.out 3; have hfz49_4 := blk_frozen BK163.out 4) | ((with_reducible refine gate_callee (f := 101) rfl ?_); refine goesL_ (some 68) rfl rfl Try.func101 (by kernel_rfl) rfl #[.agg #[.int .i64 a0_0, .int .i64 a0_1, .slice A0_2 l0_2.length c0_2, .int .i64 a0_3, .slice (some ad166) l0_4.length c0_4], .agg #[.int .i64 ((rd_T115 l0_4 x62_2).f0), .int .i64 ((rd_T115 l0_4 x62_2).f1), .int .i64 ((rd_T115 l0_4 x62_2).f2), .int .i64 ((rd_T115 l0_4 x62_2).f3), .int .i64 ((rd_T115 l0_4 x62_2).f4), .int .i64 ((rd_T115 l0_4 x62_2).f5), .int .i64 ((rd_T115 l0_4 x62_2).f6), .slice A166_7 ((rd_T115 l0_4 x62_2).f7).length c166_7]] rfl (by (try simp only [List.map_toArray, List.map_cons, List.map_nil]); first | done | rfl | (simp only [List.length_drop, List.length_take]; rfl)) ?_; (with_reducible refine (impl_goodFrame.calls a0_0 a0_1 _ _ l0_2 a0_3 _ _ l0_4 ((rd_T115 l0_4 x62_2).f0) ((rd_T115 l0_4 x62_2).f1) ((rd_T115 l0_4 x62_2).f2) ((rd_T115 l0_4 x62_2).f3) ((rd_T115 l0_4 x62_2).f4) ((rd_T115 l0_4 x62_2).f5) ((rd_T115 l0_4 x62_2).f6) _ _ ((rd_T115 l0_4 x62_2).f7) true _ ?side1 ?side2 ?side3 ?side4 ?side5 ?side6 A29.out).mono ?_); (case side1 => exact Kd.C_below HR0_2.out (by repeat (first | (with_reducible first | exact HB.out | apply below_alloc | apply pw_below_drewN | apply below_drew1 | refine below_set ?_ GE163.out | refine below_set ?_ GE167.out) | exact HB.out))); (case side2 => exact HC0_2.out); (case side3 => exact Kd.C_below HR0_4.out (by repeat (first | (with_reducible first | exact HB.out | apply below_alloc | apply pw_below_drewN | apply below_drew1 | refine below_set ?_ GE163.out | refine below_set ?_ GE167.out) | exact HB.out))); (case side4 => exact HC0_4.out); (case side5 => exact Kd.C_below HR166_7.out (by repeat (first | (with_reducible first | exact HB.out | apply below_alloc | apply pw_below_drewN | apply below_drew1 | refine below_set ?_ GE163.out | refine below_set ?_ GE167.out) | exact HB.out))); (case side6 => exact HC166_7.out); rintro e w50 ⟨rfl, hb⟩; refine ⟨_, rfl, ?_⟩; have n0_ := Aside0.mk (blk_below (g := gb163) (o := .cells #[.int .i64 a0_0, .int .i64 a0_1, .slice A0_2 l0_2.length c0_2, .int .i64 a0_3, .slice (some ad166) l0_4.length c0_4] 61 (0, 0)) (by (with_reducible repeat (first | refine blk_drewN ?_ _ | refine blk_drew ?_ | refine blk_alloc ?_ _)); refine blk_far ?_ NB163_167.out _; (with_reducible repeat (first | refine blk_drewN ?_ _ | refine blk_drew ?_ | refine blk_alloc ?_ _)); refine blk_far ?_ NB163_167.out _; (with_reducible repeat (first | refine blk_drewN ?_ _ | refine blk_drew ?_ | refine blk_alloc ?_ _)); refine blk_far ?_ NB163_167.out _; (with_reducible repeat (first | refine blk_drewN ?_ _ | refine blk_drew ?_ | refine blk_alloc ?_ _)); refine blk_far ?_ NB163_167.out _; (with_reducible repeat (first | refine blk_drewN ?_ _ | refine blk_drew ?_ | refine blk_alloc ?_ _)); refine blk_far ?_ NB163_167.out _; (with_reducible repeat (first | refine blk_drewN ?_ _ | refine blk_drew ?_ | refine blk_alloc ?_ _)); refine blk_far ?_ NB163_167.out _; (with_reducible repeat (first | refine blk_drewN ?_ _ | refine blk_drew ?_ | refine blk_alloc ?_ _)); refine blk_far ?_ NB163_167.out _; (with_reducible repeat (first | refine blk_drewN ?_ _ | refine blk_drew ?_ | refine blk_alloc ?_ _)); refine blk_far ?_ NB163_167.out _; (with_reducible repeat (first | refine blk_drewN ?_ _ | refine blk_drew ?_ | refine blk_alloc ?_ _)); exact BK163.out) hb); have n1_ := Aside0.mk (blk_below (g := gb167) (o := .cells #[.int .i64 ((rd_T115 l0_4 x62_2).f0), .int .i64 ((rd_T115 l0_4 x62_2).f1), .int .i64 ((rd_T115 l0_4 x62_2).f2), .int .i64 ((rd_T115 l0_4 x62_2).f3), .int .i64 ((rd_T115 l0_4 x62_2).f4), .int .i64 ((rd_T115 l0_4 x62_2).f5), .int .i64 ((rd_T115 l0_4 x62_2).f6), .slice A166_7 ((rd_T115 l0_4 x62_2).f7).length c166_7] 115 (0, 0)) (by (with_reducible repeat (first | refine blk_drewN ?_ _ | refine blk_drew ?_ | refine blk_alloc ?_ _)); refine blk_put (cs := #[.int .i64 ((rd_T115 l0_4 x62_2).f0), .int .i64 ((rd_T115 l0_4 x62_2).f1), .int .i64 ((rd_T115 l0_4 x62_2).f2), .int .i64 ((rd_T115 l0_4 x62_2).f3), .int .i64 ((rd_T115 l0_4 x62_2).f4), .int .i64 ((rd_T115 l0_4 x62_2).f5), .int .i64 ((rd_T115 l0_4 x62_2).f6), .slice none 0 0]) ?_ 7 _ rfl; (with_reducible repeat (first | refine blk_drewN ?_ _ | refine blk_drew ?_ | refine blk_alloc ?_ _)); refine blk_put (cs := #[.int .i64 ((rd_T115 l0_4 x62_2).f0), .int .i64 ((rd_T115 l0_4 x62_2).f1), .int .i64 ((rd_T115 l0_4 x62_2).f2), .int .i64 ((rd_T115 l0_4 x62_2).f3), .int .i64 ((rd_T115 l0_4 x62_2).f4), .int .i64 ((rd_T115 l0_4 x62_2).f5), .int .i64 0, .slice none 0 0]) ?_ 6 _ rfl; (with_reducible repeat (first | refine blk_drewN ?_ _ | refine blk_drew ?_ | refine blk_alloc ?_ _)); refine blk_put (cs := #[.int .i64 ((rd_T115 l0_4 x62_2).f0), .int .i64 ((rd_T115 l0_4 x62_2).f1), .int .i64 ((rd_T115 l0_4 x62_2).f2), .int .i64 ((rd_T115 l0_4 x62_2).f3), .int .i64 ((rd_T115 l0_4 x62_2).f4), .int .i64 0, .int .i64 0, .slice none 0 0]) ?_ 5 _ rfl; (with_reducible repeat (first | refine blk_drewN ?_ _ | refine blk_drew ?_ | refine blk_alloc ?_ _)); refine blk_put (cs := #[.int .i64 ((rd_T115 l0_4 x62_2).f0), .int .i64 ((rd_T115 l0_4 x62_2).f1), .int .i64 ((rd_T115 l0_4 x62_2).f2), .int .i64 ((rd_T115 l0_4 x62_2).f3), .int .i64 0, .int .i64 0, .int .i64 0, .slice none 0 0]) ?_ 4 _ rfl; (with_reducible repeat (first | refine blk_drewN ?_ _ | refine blk_drew ?_ | refine blk_alloc ?_ _)); refine blk_put (cs := #[.int .i64 ((rd_T115 l0_4 x62_2).f0), .int .i64 ((rd_T115 l0_4 x62_2).f1), .int .i64 ((rd_T115 l0_4 x62_2).f2), .int .i64 0, .int .i64 0, .int .i64 0, .int .i64 0, .slice none 0 0]) ?_ 3 _ rfl; (with_reducible repeat (first | refine blk_drewN ?_ _ | refine blk_drew ?_ | refine blk_alloc ?_ _)); refine blk_put (cs := #[.int .i64 ((rd_T115 l0_4 x62_2).f0), .int .i64 ((rd_T115 l0_4 x62_2).f1), .int .i64 0, .int .i64 0, .int .i64 0, .int .i64 0, .int .i64 0, .slice none 0 0]) ?_ 2 _ rfl; (with_reducible repeat (first | refine blk_drewN ?_ _ | refine blk_drew ?_ | refine blk_alloc ?_ _)); refine blk_put (cs := #[.int .i64 ((rd_T115 l0_4 x62_2).f0), .int .i64 0, .int .i64 0, .int .i64 0, .int .i64 0, .int .i64 0, .int .i64 0, .slice none 0 0]) ?_ 1 _ rfl; (with_reducible repeat (first | refine blk_drewN ?_ _ | refine blk_drew ?_ | refine blk_alloc ?_ _)); refine blk_put (cs := #[.int .i64 0, .int .i64 0, .int .i64 0, .int .i64 0, .int .i64 0, .int .i64 0, .int .i64 0, .slice none 0 0]) ?_ 0 _ rfl; (with_reducible repeat (first | refine blk_drewN ?_ _ | refine blk_drew ?_ | refine blk_alloc ?_ _)); exact BK167.out) hb); have n2_ := Aside0.mk (below_step (by repeat (first | (with_reducible first | exact HB.out | apply below_alloc | apply pw_below_drewN | apply below_drew1 | refine below_set ?_ GE163.out | refine below_set ?_ GE167.out) | exact HB.out)) hb); clear BK163; clear BK167; clear HB; have BK163 := n0_; have BK167 := n1_; have HB := n2_; clear n0_ n1_ n2_; (try clear hb); (try clear hb2); (try clear hk); (try clear hi); have hcz51_0 : w50.cell? ⟨gb167, 0, none⟩ = some (.int .i64 ((rd_T115 l0_4 x62_2).f0)) := (blk_cell BK167.out 0).trans rfl; have hcz51_1 : w50.cell? ⟨gb167, 1, none⟩ = some (.int .i64 ((rd_T115 l0_4 x62_2).f1)) := (blk_cell BK167.out 1).trans rfl; have hcz51_2 : w50.cell? ⟨gb167, 2, none⟩ = some (.int .i64 ((rd_T115 l0_4 x62_2).f2)) := (blk_cell BK167.out 2).trans rfl; have hcz51_3 : w50.cell? ⟨gb167, 3, none⟩ = some (.int .i64 ((rd_T115 l0_4 x62_2).f3)) := (blk_cell BK167.out 3).trans rfl; have hcz51_4 : w50.cell? ⟨gb167, 4, none⟩ = some (.int .i64 ((rd_T115 l0_4 x62_2).f4)) := (blk_cell BK167.out 4).trans rfl; have hcz51_5 : w50.cell? ⟨gb167, 5, none⟩ = some (.int .i64 ((rd_T115 l0_4 x62_2).f5)) := (blk_cell BK167.out 5).trans rfl; have hcz51_6 : w50.cell? ⟨gb167, 6, none⟩ = some (.int .i64 ((rd_T115 l0_4 x62_2).f6)) := (blk_cell BK167.out 6).trans rfl; have hcz51_7 : w50.cell? ⟨gb167, 7, none⟩ = some (.slice A166_7 ((rd_T115 l0_4 x62_2).f7).length c166_7) := (blk_cell BK167.out 7).trans rfl; have hfz51_0 := blk_frozen BK167.out 0; have hfz51_1 := blk_frozen BK167.out 1; have hfz51_2 := blk_frozen BK167.out 2; have hfz51_3 := blk_frozen BK167.out 3; have hfz51_4 := blk_frozen BK167.out 4; have hfz51_5 := blk_frozen BK167.out 5; have hfz51_6 := blk_frozen BK167.out 6; have hfz51_7 := blk_frozen BK167.out 7))
            go_ret
            exact ⟨by first | rfl | (simp [errW_none, errW_some] <;> rfl) | (simp [*, errW_none, errW_some] <;> rfl), by repeat (first | (with_reducible first | exact HB.out | apply below_alloc | apply pw_below_drewN | apply below_drew1 | refine below_set ?_ GE163.out | refine below_set ?_ GE167.out) | exact HB.out)⟩
          rw [if_pos c31] at H
          have c31b0 : ((((rd_T115 l0_4 x62_2).f7).length : Int) == (wrap64 (((rd_T115 l0_4 x62_2).f2) * ((rd_T115 l0_4 x62_2).f3)))) = true := beq_iff_eq.mpr c31
          have c31b1 : ((((rd_T115 l0_4 x62_2).f7).length : Int) != (wrap64 (((rd_T115 l0_4 x62_2).f2) * ((rd_T115 l0_4 x62_2).f3)))) = false := bne_eq_false_iff_eq.mpr c31
          clear c31
          replace H := Option.bind_eq_some_iff.mp H
          obtain ⟨t169, A320, H⟩ := H
          replace H : (if t169 = true then (impl_GoodMoving.l0 k2 (l0_2.length : Int) (wrap64 (x4_2 + (((rd_T115 l0_4 x62_2).f7).length : Int))) l0_4 (l0_4.length : Int) (wrap64 (x62_2 + 1)) a0_0 a0_1 l0_2 a0_3 l0_4) else (some false)) = some r := H
          have A32 := Aside0.mk A320
          clear A320
          by_cases c33 : t169 = true
          rotate_left
          · replace c33 := Bool.eq_false_iff.mpr c33
            subst c33
            have H1 : (some false) = some r := by rw [if_neg (show ¬ (false = true) by decide)] at H; exact H
            clear H
            have H := H1
            clear H1
            obtain rfl := Option.some.inj H
            have p166 : 0 ≤ (x62_2 : Int) := of_decide_eq_true (by first | (with_reducible assumption) | assumption)
            have q166 : x62_2 < (l0_4.length : Int) := of_decide_eq_true (by first | (with_reducible assumption) | assumption)
            obtain ⟨ad166, A166_7, c166_7, e166, hx166_0, hx166_1, hx166_2, hx166_3, hx166_4, hx166_5, hx166_6, hx166_7, hl166_7, hi166_7⟩ := at_T115 HR0_4.out x62_2 p166 q166
            cases e166
            replace hx166_0 := (HB.out.cell (World.block_lt_of_cell? w _ hx166_0)).trans hx166_0
            replace hx166_1 := (HB.out.cell (World.block_lt_of_cell? w _ hx166_1)).trans hx166_1
            replace hx166_2 := (HB.out.cell (World.block_lt_of_cell? w _ hx166_2)).trans hx166_2
            replace hx166_3 := (HB.out.cell (World.block_lt_of_cell? w _ hx166_3)).trans hx166_3
            replace hx166_4 := (HB.out.cell (World.block_lt_of_cell? w _ hx166_4)).trans hx166_4
            replace hx166_5 := (HB.out.cell (World.block_lt_of_cell? w _ hx166_5)).trans hx166_5
            replace hx166_6 := (HB.out.cell (World.block_lt_of_cell? w _ hx166_6)).trans hx166_6
            replace hx166_7 := (HB.out.cell (World.block_lt_of_cell? w _ hx166_7)).trans hx166_7
            have HR166_7 := Aside0.mk hi166_7
            have HC166_7 := Aside0.mk hl166_7
            clear hi166_7 hl166_7
            replace p166 := eq_true p166
            replace q166 := eq_true q166
            go_wp2_with (first | ((with_reducible refine gate_dst (N := 6) rfl ?_); (try (refine gate_guard (by rfl) ?_; dsimp only)); refine box_event ?hg (N := 6) ?hd (cs := #[.int .i64 0, .int .i64 0, .int .i64 0, .int .i64 0, .int .i64 0, .int .i64 0, .int .i64 0, .slice none 0 0]) (t := 115) ?hr ?_; (case hd => rfl); (case hg => rfl); (case hr => first | (go_simp; done) | (go_simp; rfl)); intro gb167 hg w40 hbox hb; have n0_ := Aside0.mk (blk_below (g := gb163) (o := .cells #[.int .i64 a0_0, .int .i64 a0_1, .slice A0_2 l0_2.length c0_2, .int .i64 a0_3, .slice (some ad166) l0_4.length c0_4] 61 (0, 0)) (by (with_reducible repeat (first | refine blk_drewN ?_ _ | refine blk_drew ?_ | refine blk_alloc ?_ _)); exact BK163.out) hb); have n1_ := Aside0.mk (below_step (by repeat (first | (with_reducible first | exact HB.out | apply below_alloc | apply pw_below_drewN | apply below_drew1 | refine below_set ?_ GE163.out) | exact HB.out)) hb); have n2_ := Aside0.mk (hbox); have n3_ := Aside0.mk ((by rw [hg]; exact (below_size (by repeat (first | (with_reducible first | exact HB.out | apply below_alloc | apply pw_below_drewN | apply below_drew1 | refine below_set ?_ GE163.out) | exact HB.out))) : w.heap.size ≤ gb167)); have n4_ := Aside0.mk ((by rw [hg]; exact (below_size (by repeat (first | (with_reducible first | exact HB.out | apply below_alloc | apply pw_below_drewN | apply below_drew1 | refine below_set ?_ GE163.out) | exact HB.out))) : w.heap.size ≤ gb167)); have n5_ := Aside0.mk ((by rw [hg]; exact Nat.ne_of_lt (blk_lt (g := gb163) (o := .cells #[.int .i64 a0_0, .int .i64 a0_1, .slice A0_2 l0_2.length c0_2, .int .i64 a0_3, .slice (some ad166) l0_4.length c0_4] 61 (0, 0)) (by (with_reducible repeat (first | refine blk_drewN ?_ _ | refine blk_drew ?_ | refine blk_alloc ?_ _)); exact BK163.out)) : gb163 ≠ gb167)); have n6_ := Aside0.mk ((by rw [hg]; exact Nat.ne_of_gt (blk_lt (g := gb163) (o := .cells #[.int .i64 a0_0, .int .i64 a0_1, .slice A0_2 l0_2.length c0_2, .int .i64 a0_3, .slice (some ad166) l0_4.length c0_4] 61 (0, 0)) (by (with_reducible repeat (first | refine blk_drewN ?_ _ | refine blk_drew ?_ | refine blk_alloc ?_ _)); exact BK163.out)) : gb167 ≠ gb163)); clear BK163; clear HB; have BK163 := n0_; have HB := n1_; have BK167 := n2_; have GW167 := n3_; have GE167 := n4_; have NB163_167 := n5_; have NB167_163 := n6_; clear n0_ n1_ n2_ n3_ n4_ n5_ n6_; clear hb hbox hg; have hnb41 := NB167_163.out; have hnc41 := NB163_167.out; have hcz42_0 : w40.cell? ⟨gb167, 0, none⟩ = some (.int .i64 0) := (blk_cell BK167.out 0).trans rfl; have hcz42_1 : w40.cell? ⟨gb167, 1, none⟩ = some (.int .i64 0) := (blk_cell BK167.out 1).trans rfl; have hcz42_2 : w40.cell? ⟨gb167, 2, none⟩ = some (.int .i64 0) := (blk_cell BK167.out 2).trans rfl; have hcz42_3 : w40.cell? ⟨gb167, 3, none⟩ = some (.int .i64 0) := (blk_cell BK167.out 3).trans rfl; have hcz42_4 : w40.cell? ⟨gb167, 4, none⟩ = some (.int .i64 0) := (blk_cell BK167.out 4).trans rfl; have hcz42_5 : w40.cell? ⟨gb167, 5, none⟩ = some (.int .i64 0) := (blk_cell BK167.out 5).trans rfl; have hcz42_6 : w40.cell? ⟨gb167, 6, none⟩ = some (.int .i64 0) := (blk_cell BK167.out 6).trans rfl; have hcz42_7 : w40.cell? ⟨gb167, 7, none⟩ = some (.slice none 0 0) := (blk_cell BK167.out 7).trans rfl; have hfz42_0 := blk_frozen BK167.out 0; have hfz42_1 := blk_frozen BK167.out 1; have hfz42_2 := blk_frozen BK167.out 2; have hfz42_3 := blk_frozen BK167.out 3; have hfz42_4 := blk_frozen BK167.out 4; have hfz42_5 := blk_frozen BK167.out 5; have hfz42_6 := blk_frozen BK167.out 6; have hfz42_7 := blk_frozen BK167.out 7; have hcz43_0 : w40.cell? ⟨gb163, 0, none⟩ = some (.int .i64 a0_0) := (blk_cell BK163.out 0).trans rfl; have hcz43_1 : w40.cell? ⟨gb163, 1, none⟩ = some (.int .i64 a0_1) := (blk_cell BK163.out 1).trans rfl; have hcz43_2 : w40.cell? ⟨gb163, 2, none⟩ = some (.slice A0_2 l0_2.length c0_2) := (blk_cell BK163.out 2).trans rfl; have hcz43_3 : w40.cell? ⟨gb163, 3, none⟩ = some (.int .i64 a0_3) := (blk_cell BK163.out 3).trans rfl; have hcz43_4 : w40.cell? ⟨gb163, 4, none⟩ = some (.slice (some ad166) l0_4.length c0_4) := (blk_cell BK163.out 4).trans rfl; have hfz43_0 := blk_frozen BK163.out 0; have hfz43_1 := blk_frozen BK163.out 1; have hfz43_2 := blk_frozen BK163.out 2; have hfz43_3 := blk_frozen BK163.out 3; have hfz43_4 := blk_frozen BK163.out 4) | ((with_reducible refine gate_callee (f := 101) rfl ?_); refine goesL_ (some 68) rfl rfl Try.func101 (by kernel_rfl) rfl #[.agg #[.int .i64 a0_0, .int .i64 a0_1, .slice A0_2 l0_2.length c0_2, .int .i64 a0_3, .slice (some ad166) l0_4.length c0_4], .agg #[.int .i64 ((rd_T115 l0_4 x62_2).f0), .int .i64 ((rd_T115 l0_4 x62_2).f1), .int .i64 ((rd_T115 l0_4 x62_2).f2), .int .i64 ((rd_T115 l0_4 x62_2).f3), .int .i64 ((rd_T115 l0_4 x62_2).f4), .int .i64 ((rd_T115 l0_4 x62_2).f5), .int .i64 ((rd_T115 l0_4 x62_2).f6), .slice A166_7 ((rd_T115 l0_4 x62_2).f7).length c166_7]] rfl (by (try simp only [List.map_toArray, List.map_cons, List.map_nil]); first | done | rfl | (simp only [List.length_drop, List.length_take]; rfl)) ?_; (with_reducible refine (impl_goodFrame.calls a0_0 a0_1 _ _ l0_2 a0_3 _ _ l0_4 ((rd_T115 l0_4 x62_2).f0) ((rd_T115 l0_4 x62_2).f1) ((rd_T115 l0_4 x62_2).f2) ((rd_T115 l0_4 x62_2).f3) ((rd_T115 l0_4 x62_2).f4) ((rd_T115 l0_4 x62_2).f5) ((rd_T115 l0_4 x62_2).f6) _ _ ((rd_T115 l0_4 x62_2).f7) true _ ?side1 ?side2 ?side3 ?side4 ?side5 ?side6 A29.out).mono ?_); (case side1 => exact Kd.C_below HR0_2.out (by repeat (first | (with_reducible first | exact HB.out | apply below_alloc | apply pw_below_drewN | apply below_drew1 | refine below_set ?_ GE163.out | refine below_set ?_ GE167.out) | exact HB.out))); (case side2 => exact HC0_2.out); (case side3 => exact Kd.C_below HR0_4.out (by repeat (first | (with_reducible first | exact HB.out | apply below_alloc | apply pw_below_drewN | apply below_drew1 | refine below_set ?_ GE163.out | refine below_set ?_ GE167.out) | exact HB.out))); (case side4 => exact HC0_4.out); (case side5 => exact Kd.C_below HR166_7.out (by repeat (first | (with_reducible first | exact HB.out | apply below_alloc | apply pw_below_drewN | apply below_drew1 | refine below_set ?_ GE163.out | refine below_set ?_ GE167.out) | exact HB.out))); (case side6 => exact HC166_7.out); rintro e w44 ⟨rfl, hb⟩; refine ⟨_, rfl, ?_⟩; have n0_ := Aside0.mk (blk_below (g := gb163) (o := .cells #[.int .i64 a0_0, .int .i64 a0_1, .slice A0_2 l0_2.length c0_2, .int .i64 a0_3, .slice (some ad166) l0_4.length c0_4] 61 (0, 0)) (by (with_reducible repeat (first | refine blk_drewN ?_ _ | refine blk_drew ?_ | refine blk_alloc ?_ _)); refine blk_far ?_ NB163_167.out _; (with_reducible repeat (first | refine blk_drewN ?_ _ | refine blk_drew ?_ | refine blk_alloc ?_ _)); refine blk_far ?_ NB163_167.out _; (with_reducible repeat (first | refine blk_drewN ?_ _ | refine blk_drew ?_ | refine blk_alloc ?_ _)); refine blk_far ?_ NB163_167.out _; (with_reducible repeat (first | refine blk_drewN ?_ _ | refine blk_drew ?_ | refine blk_alloc ?_ _)); refine blk_far ?_ NB163_167.out _; (with_reducible repeat (first | refine blk_drewN ?_ _ | refine blk_drew ?_ | refine blk_alloc ?_ _)); refine blk_far ?_ NB163_167.out _; (with_reducible repeat (first | refine blk_drewN ?_ _ | refine blk_drew ?_ | refine blk_alloc ?_ _)); refine blk_far ?_ NB163_167.out _; (with_reducible repeat (first | refine blk_drewN ?_ _ | refine blk_drew ?_ | refine blk_alloc ?_ _)); refine blk_far ?_ NB163_167.out _; (with_reducible repeat (first | refine blk_drewN ?_ _ | refine blk_drew ?_ | refine blk_alloc ?_ _)); refine blk_far ?_ NB163_167.out _; (with_reducible repeat (first | refine blk_drewN ?_ _ | refine blk_drew ?_ | refine blk_alloc ?_ _)); exact BK163.out) hb); have n1_ := Aside0.mk (blk_below (g := gb167) (o := .cells #[.int .i64 ((rd_T115 l0_4 x62_2).f0), .int .i64 ((rd_T115 l0_4 x62_2).f1), .int .i64 ((rd_T115 l0_4 x62_2).f2), .int .i64 ((rd_T115 l0_4 x62_2).f3), .int .i64 ((rd_T115 l0_4 x62_2).f4), .int .i64 ((rd_T115 l0_4 x62_2).f5), .int .i64 ((rd_T115 l0_4 x62_2).f6), .slice A166_7 ((rd_T115 l0_4 x62_2).f7).length c166_7] 115 (0, 0)) (by (with_reducible repeat (first | refine blk_drewN ?_ _ | refine blk_drew ?_ | refine blk_alloc ?_ _)); refine blk_put (cs := #[.int .i64 ((rd_T115 l0_4 x62_2).f0), .int .i64 ((rd_T115 l0_4 x62_2).f1), .int .i64 ((rd_T115 l0_4 x62_2).f2), .int .i64 ((rd_T115 l0_4 x62_2).f3), .int .i64 ((rd_T115 l0_4 x62_2).f4), .int .i64 ((rd_T115 l0_4 x62_2).f5), .int .i64 ((rd_T115 l0_4 x62_2).f6), .slice none 0 0]) ?_ 7 _ rfl; (with_reducible repeat (first | refine blk_drewN ?_ _ | refine blk_drew ?_ | refine blk_alloc ?_ _)); refine blk_put (cs := #[.int .i64 ((rd_T115 l0_4 x62_2).f0), .int .i64 ((rd_T115 l0_4 x62_2).f1), .int .i64 ((rd_T115 l0_4 x62_2).f2), .int .i64 ((rd_T115 l0_4 x62_2).f3), .int .i64 ((rd_T115 l0_4 x62_2).f4), .int .i64 ((rd_T115 l0_4 x62_2).f5), .int .i64 0, .slice none 0 0]) ?_ 6 _ rfl; (with_reducible repeat (first | refine blk_drewN ?_ _ | refine blk_drew ?_ | refine blk_alloc ?_ _)); refine blk_put (cs := #[.int .i64 ((rd_T115 l0_4 x62_2).f0), .int .i64 ((rd_T115 l0_4 x62_2).f1), .int .i64 ((rd_T115 l0_4 x62_2).f2), .int .i64 ((rd_T115 l0_4 x62_2).f3), .int .i64 ((rd_T115 l0_4 x62_2).f4), .int .i64 0, .int .i64 0, .slice none 0 0]) ?_ 5 _ rfl; (with_reducible repeat (first | refine blk_drewN ?_ _ | refine blk_drew ?_ | refine blk_alloc ?_ _)); refine blk_put (cs := #[.int .i64 ((rd_T115 l0_4 x62_2).f0), .int .i64 ((rd_T115 l0_4 x62_2).f1), .int .i64 ((rd_T115 l0_4 x62_2).f2), .int .i64 ((rd_T115 l0_4 x62_2).f3), .int .i64 0, .int .i64 0, .int .i64 0, .slice none 0 0]) ?_ 4 _ rfl; (with_reducible repeat (first | refine blk_drewN ?_ _ | refine blk_drew ?_ | refine blk_alloc ?_ _)); refine blk_put (cs := #[.int .i64 ((rd_T115 l0_4 x62_2).f0), .int .i64 ((rd_T115 l0_4 x62_2).f1), .int .i64 ((rd_T115 l0_4 x62_2).f2), .int .i64 0, .int .i64 0, .int .i64 0, .int .i64 0, .slice none 0 0]) ?_ 3 _ rfl; (with_reducible repeat (first | refine blk_drewN ?_ _ | refine blk_drew ?_ | refine blk_alloc ?_ _)); refine blk_put (cs := #[.int .i64 ((rd_T115 l0_4 x62_2).f0), .int .i64 ((rd_T115 l0_4 x62_2).f1), .int .i64 0, .int .i64 0, .int .i64 0, .int .i64 0, .int .i64 0, .slice none 0 0]) ?_ 2 _ rfl; (with_reducible repeat (first | refine blk_drewN ?_ _ | refine blk_drew ?_ | refine blk_alloc ?_ _)); refine blk_put (cs := #[.int .i64 ((rd_T115 l0_4 x62_2).f0), .int .i64 0, .int .i64 0, .int .i64 0, .int .i64 0, .int .i64 0, .int .i64 0, .slice none 0 0]) ?_ 1 _ rfl; (with_reducible repeat (first | refine blk_drewN ?_ _ | refine blk_drew ?_ | refine blk_alloc ?_ _)); refine blk_put (cs := #[.int .i64 0, .int .i64 0, .int .i64 0, .int .i64 0, .int .i64 0, .int .i64 0, .int .i64 0, .slice none 0 0]) ?_ 0 _ rfl; (with_reducible repeat (first | refine blk_drewN ?_ _ | refine blk_drew ?_ | refine blk_alloc ?_ _)); exact BK167.out) hb); have n2_ := Aside0.mk (below_step (by repeat (first | (with_reducible first | exact HB.out | apply below_alloc | apply pw_below_drewN | apply below_drew1 | refine below_set ?_ GE163.out | refine below_set ?_ GE167.out) | exact HB.out)) hb); clear BK163; clear BK167; clear HB; have BK163 := n0_; have BK167 := n1_; have HB := n2_; clear n0_ n1_ n2_; (try clear hb); (try clear hb2); (try clear hk); (try clear hi); have hcz45_0 : w44.cell? ⟨gb167, 0, none⟩ = some (.int .i64 ((rd_T115 l0_4 x62_2).f0)) := (blk_cell BK167.out 0).trans rfl; have hcz45_1 : w44.cell? ⟨gb167, 1, none⟩ = some (.int .i64 ((rd_T115 l0_4 x62_2).f1)) := (blk_cell BK167.out 1).trans rfl; have hcz45_2 : w44.cell? ⟨gb167, 2, none⟩ = some (.int .i64 ((rd_T115 l0_4 x62_2).f2)) := (blk_cell BK167.out 2).trans rfl; have hcz45_3 : w44.cell? ⟨gb167, 3, none⟩ = some (.int .i64 ((rd_T115 l0_4 x62_2).f3)) := (blk_cell BK167.out 3).trans rfl; have hcz45_4 : w44.cell? ⟨gb167, 4, none⟩ = some (.int .i64 ((rd_T115 l0_4 x62_2).f4)) := (blk_cell BK167.out 4).trans rfl; have hcz45_5 : w44.cell? ⟨gb167, 5, none⟩ = some (.int .i64 ((rd_T115 l0_4 x62_2).f5)) := (blk_cell BK167.out 5).trans rfl; have hcz45_6 : w44.cell? ⟨gb167, 6, none⟩ = some (.int .i64 ((rd_T115 l0_4 x62_2).f6)) := (blk_cell BK167.out 6).trans rfl; have hcz45_7 : w44.cell? ⟨gb167, 7, none⟩ = some (.slice A166_7 ((rd_T115 l0_4 x62_2).f7).length c166_7) := (blk_cell BK167.out 7).trans rfl; have hfz45_0 := blk_frozen BK167.out 0; have hfz45_1 := blk_frozen BK167.out 1; have hfz45_2 := blk_frozen BK167.out 2; have hfz45_3 := blk_frozen BK167.out 3; have hfz45_4 := blk_frozen BK167.out 4; have hfz45_5 := blk_frozen BK167.out 5; have hfz45_6 := blk_frozen BK167.out 6; have hfz45_7 := blk_frozen BK167.out 7) | (go_at_call 100; (with_reducible refine (impl_inRange.calls k2 _ _ ((rd_T115 l0_4 x62_2).f7) (wrap64 ((l0_2.length : Int) - 1)) false _ ?side1 ?side2 A32.out).mono ?_); (case side1 => repeat (first | exact (Kd.C_below HR166_7.out HB.out) | (with_reducible refine Kd.C_alloc ?_ _) | (with_reducible refine Kd.C_drewN ?_ _) | (with_reducible refine Kd.C_drew ?_))); (case side2 => exact HC166_7.out); rintro e w' ⟨rfl, ⟨nd, rfl⟩⟩))
            go_ret
            exact ⟨by first | rfl | (simp [errW_none, errW_some] <;> rfl) | (simp [*, errW_none, errW_some] <;> rfl), by repeat (first | (with_reducible first | exact HB.out | apply below_alloc | apply pw_below_drewN | apply below_drew1 | refine below_set ?_ GE163.out | refine below_set ?_ GE167.out) | exact HB.out)⟩
          subst c33
          have H1 : (impl_GoodMoving.l0 k2 (l0_2.length : Int) (wrap64 (x4_2 + (((rd_T115 l0_4 x62_2).f7).length : Int))) l0_4 (l0_4.length : Int) (wrap64 (x62_2 + 1)) a0_0 a0_1 l0_2 a0_3 l0_4) = some r := by rw [if_pos rfl] at H; exact H
          clear H
          have H := H1
          clear H1
          have H' := Aside0.mk H
          clear H
          have p166 : 0 ≤ (x62_2 : Int) := of_decide_eq_true (by first | (with_reducible assumption) | assumption)
          have q166 : x62_2 < (l0_4.length : Int) := of_decide_eq_true (by first | (with_reducible assumption) | assumption)
          obtain ⟨ad166, A166_7, c166_7, e166, hx166_0, hx166_1, hx166_2, hx166_3, hx166_4, hx166_5, hx166_6, hx166_7, hl166_7, hi166_7⟩ := at_T115 HR0_4.out x62_2 p166 q166
          cases e166
          replace hx166_0 := (HB.out.cell (World.block_lt_of_cell? w _ hx166_0)).trans hx166_0
          replace hx166_1 := (HB.out.cell (World.block_lt_of_cell? w _ hx166_1)).trans hx166_1
          replace hx166_2 := (HB.out.cell (World.block_lt_of_cell? w _ hx166_2)).trans hx166_2
          replace hx166_3 := (HB.out.cell (World.block_lt_of_cell? w _ hx166_3)).trans hx166_3
          replace hx166_4 := (HB.out.cell (World.block_lt_of_cell? w _ hx166_4)).trans hx166_4
          replace hx166_5 := (HB.out.cell (World.block_lt_of_cell? w _ hx166_5)).trans hx166_5
          replace hx166_6 := (HB.out.cell (World.block_lt_of_cell? w _ hx166_6)).trans hx166_6
          replace hx166_7 := (HB.out.cell (World.block_lt_of_cell? w _ hx166_7)).trans hx166_7
          have HR166_7 := Aside0.mk hi166_7
          have HC166_7 := Aside0.mk hl166_7
          clear hi166_7 hl166_7
          replace p166 := eq_true p166
          replace q166 := eq_true q166
          go_wp2_with (first | ((with_reducible refine gate_dst (N := 6) rfl ?_); (try (refine gate_guard (by rfl) ?_; dsimp only)); refine box_event ?hg (N := 6) ?hd (cs := #[.int .i64 0, .int .i64 0, .int .i64 0, .int .i64 0, .int .i64 0, .int .i64 0, .int .i64 0, .slice none 0 0]) (t := 115) ?hr ?_; (case hd => rfl); (case hg => rfl); (case hr => first | (go_simp; done) | (go_simp; rfl)); intro gb167 hg w34 hbox hb; have n0_ := Aside0.mk (blk_below (g := gb163) (o := .cells #[.int .i64 a0_0, .int .i64 a0_1, .slice A0_2 l0_2.length c0_2, .int .i64 a0_3, .slice (some ad166) l0_4.length c0_4] 61 (0, 0)) (by (with_reducible repeat (first | refine blk_drewN ?_ _ | refine blk_drew ?_ | refine blk_alloc ?_ _)); exact BK163.out) hb); have n1_ := Aside0.mk (below_step (by repeat (first | (with_reducible first | exact HB.out | apply below_alloc | apply pw_below_drewN | apply below_drew1 | refine below_set ?_ GE163.out) | exact HB.out)) hb); have n2_ := Aside0.mk (hbox); have n3_ := Aside0.mk ((by rw [hg]; exact (below_size (by repeat (first | (with_reducible first | exact HB.out | apply below_alloc | apply pw_below_drewN | apply below_drew1 | refine below_set ?_ GE163.out) | exact HB.out))) : w.heap.size ≤ gb167)); have n4_ := Aside0.mk ((by rw [hg]; exact (below_size (by repeat (first | (with_reducible first | exact HB.out | apply below_alloc | apply pw_below_drewN | apply below_drew1 | refine below_set ?_ GE163.out) | exact HB.out))) : w.heap.size ≤ gb167)); have n5_ := Aside0.mk ((by rw [hg]; exact Nat.ne_of_lt (blk_lt (g := gb163) (o := .cells #[.int .i64 a0_0, .int .i64 a0_1, .slice A0_2 l0_2.length c0_2, .int .i64 a0_3, .slice (some ad166) l0_4.length c0_4] 61 (0, 0)) (by (with_reducible repeat (first | refine blk_drewN ?_ _ | refine blk_drew ?_ | refine blk_alloc ?_ _)); exact BK163.out)) : gb163 ≠ gb167)); have n6_ := Aside0.mk ((by rw [hg]; exact Nat.ne_of_gt (blk_lt (g := gb163) (o := .cells #[.int .i64 a0_0, .int .i64 a0_1, .slice A0_2 l0_2.length c0_2, .int .i64 a0_3, .slice (some ad166) l0_4.length c0_4] 61 (0, 0)) (by (with_reducible repeat (first | refine blk_drewN ?_ _ | refine blk_drew ?_ | refine blk_alloc ?_ _)); exact BK163.out)) : gb167 ≠ gb163)); clear BK163; clear HB; have BK163 := n0_; have HB := n1_; have BK167 := n2_; have GW167 := n3_; have GE167 := n4_; have NB163_167 := n5_; have NB167_163 := n6_; clear n0_ n1_ n2_ n3_ n4_ n5_ n6_; clear hb hbox hg; have hnb35 := NB167_163.out; have hnc35 := NB163_167.out; have hcz36_0 : w34.cell? ⟨gb167, 0, none⟩ = some (.int .i64 0) := (blk_cell BK167.out 0).trans rfl; have hcz36_1 : w34.cell? ⟨gb167, 1, none⟩ = some (.int .i64 0) := (blk_cell BK167.out 1).trans rfl; have hcz36_2 : w34.cell? ⟨gb167, 2, none⟩ = some (.int .i64 0) := (blk_cell BK167.out 2).trans rfl; have hcz36_3 : w34.cell? ⟨gb167, 3, none⟩ = some (.int .i64 0) := (blk_cell BK167.out 3).trans rfl; have hcz36_4 : w34.cell? ⟨gb167, 4, none⟩ = some (.int .i64 0) := (blk_cell BK167.out 4).trans rfl; have hcz36_5 : w34.cell? ⟨gb167, 5, none⟩ = some (.int .i64 0) := (blk_cell BK167.out 5).trans rfl; have hcz36_6 : w34.cell? ⟨gb167, 6, none⟩ = some (.int .i64 0) := (blk_cell BK167.out 6).trans rfl; have hcz36_7 : w34.cell? ⟨gb167, 7, none⟩ = some (.slice none 0 0) := (blk_cell BK167.out 7).trans rfl; have hfz36_0 := blk_frozen BK167.out 0; have hfz36_1 := blk_frozen BK167.out 1; have hfz36_2 := blk_frozen BK167.out 2; have hfz36_3 := blk_frozen BK167.out 3; have hfz36_4 := blk_frozen BK167.out 4; have hfz36_5 := blk_frozen BK167.out 5; have hfz36_6 := blk_frozen BK167.out 6; have hfz36_7 := blk_frozen BK167.out 7; have hcz37_0 : w34.cell? ⟨gb163, 0, none⟩ = some (.int .i64 a0_0) := (blk_cell BK163.out 0).trans rfl; have hcz37_1 : w34.cell? ⟨gb163, 1, none⟩ = some (.int .i64 a0_1) := (blk_cell BK163.out 1).trans rfl; have hcz37_2 : w34.cell? ⟨gb163, 2, none⟩ = some (.slice A0_2 l0_2.length c0_2) := (blk_cell BK163.out 2).trans rfl; have hcz37_3 : w34.cell? ⟨gb163, 3, none⟩ = some (.int .i64 a0_3) := (blk_cell BK163.out 3).trans rfl; have hcz37_4 : w34.cell? ⟨gb163, 4, none⟩ = some (.slice (some ad166) l0_4.length c0_4) := (blk_cell BK163.out 4).trans rfl; have hfz37_0 := blk_frozen BK163.out 0; have hfz37_1 := blk_frozen BK163.out 1; have hfz37_2 := blk_frozen BK163.out 2; have hfz37_3 := blk_frozen BK163.out 3; have hfz37_4 := blk_frozen BK163.out 4) | ((with_reducible refine gate_callee (f := 101) rfl ?_); refine goesL_ (some 68) rfl rfl Try.func101 (by kernel_rfl) rfl #[.agg #[.int .i64 a0_0, .int .i64 a0_1, .slice A0_2 l0_2.length c0_2, .int .i64 a0_3, .slice (some ad166) l0_4.length c0_4], .agg #[.int .i64 ((rd_T115 l0_4 x62_2).f0), .int .i64 ((rd_T115 l0_4 x62_2).f1), .int .i64 ((rd_T115 l0_4 x62_2).f2), .int .i64 ((rd_T115 l0_4 x62_2).f3), .int .i64 ((rd_T115 l0_4 x62_2).f4), .int .i64 ((rd_T115 l0_4 x62_2).f5), .int .i64 ((rd_T115 l0_4 x62_2).f6), .slice A166_7 ((rd_T115 l0_4 x62_2).f7).length c166_7]] rfl (by (try simp only [List.map_toArray, List.map_cons, List.map_nil]); first | done | rfl | (simp only [List.length_drop, List.length_take]; rfl)) ?_; (with_reducible refine (impl_goodFrame.calls a0_0 a0_1 _ _ l0_2 a0_3 _ _ l0_4 ((rd_T115 l0_4 x62_2).f0) ((rd_T115 l0_4 x62_2).f1) ((rd_T115 l0_4 x62_2).f2) ((rd_T115 l0_4 x62_2).f3) ((rd_T115 l0_4 x62_2).f4) ((rd_T115 l0_4 x62_2).f5) ((rd_T115 l0_4 x62_2).f6) _ _ ((rd_T115 l0_4 x62_2).f7) true _ ?side1 ?side2 ?side3 ?side4 ?side5 ?side6 A29.out).mono ?_); (case side1 => exact Kd.C_below HR0_2.out (by repeat (first | (with_reducible first | exact HB.out | apply below_alloc | apply pw_below_drewN | apply below_drew1 | refine below_set ?_ GE163.out | refine below_set ?_ GE167.out) | exact HB.out))); (case side2 => exact HC0_2.out); (case side3 => exact Kd.C_below HR0_4.out (by repeat (first | (with_reducible first | exact HB.out | apply below_alloc | apply pw_below_drewN | apply below_drew1 | refine below_set ?_ GE163.out | refine below_set ?_ GE167.out) | exact HB.out))); (case side4 => exact HC0_4.out); (case side5 => exact Kd.C_below HR166_7.out (by repeat (first | (with_reducible first | exact HB.out | apply below_alloc | apply pw_below_drewN | apply below_drew1 | refine below_set ?_ GE163.out | refine below_set ?_ GE167.out) | exact HB.out))); (case side6 => exact HC166_7.out); rintro e w38 ⟨rfl, hb⟩; refine ⟨_, rfl, ?_⟩; have n0_ := Aside0.mk (blk_below (g := gb163) (o := .cells #[.int .i64 a0_0, .int .i64 a0_1, .slice A0_2 l0_2.length c0_2, .int .i64 a0_3, .slice (some ad166) l0_4.length c0_4] 61 (0, 0)) (by (with_reducible repeat (first | refine blk_drewN ?_ _ | refine blk_drew ?_ | refine blk_alloc ?_ _)); refine blk_far ?_ NB163_167.out _; (with_reducible repeat (first | refine blk_drewN ?_ _ | refine blk_drew ?_ | refine blk_alloc ?_ _)); refine blk_far ?_ NB163_167.out _; (with_reducible repeat (first | refine blk_drewN ?_ _ | refine blk_drew ?_ | refine blk_alloc ?_ _)); refine blk_far ?_ NB163_167.out _; (with_reducible repeat (first | refine blk_drewN ?_ _ | refine blk_drew ?_ | refine blk_alloc ?_ _)); refine blk_far ?_ NB163_167.out _; (with_reducible repeat (first | refine blk_drewN ?_ _ | refine blk_drew ?_ | refine blk_alloc ?_ _)); refine blk_far ?_ NB163_167.out _; (with_reducible repeat (first | refine blk_drewN ?_ _ | refine blk_drew ?_ | refine blk_alloc ?_ _)); refine blk_far ?_ NB163_167.out _; (with_reducible repeat (first | refine blk_drewN ?_ _ | refine blk_drew ?_ | refine blk_alloc ?_ _)); refine blk_far ?_ NB163_167.out _; (with_reducible repeat (first | refine blk_drewN ?_ _ | refine blk_drew ?_ | refine blk_alloc ?_ _)); refine blk_far ?_ NB163_167.out _; (with_reducible repeat (first | refine blk_drewN ?_ _ | refine blk_drew ?_ | refine blk_alloc ?_ _)); exact BK163.out) hb); have n1_ := Aside0.mk (blk_below (g := gb167) (o := .cells #[.int .i64 ((rd_T115 l0_4 x62_2).f0), .int .i64 ((rd_T115 l0_4 x62_2).f1), .int .i64 ((rd_T115 l0_4 x62_2).f2), .int .i64 ((rd_T115 l0_4 x62_2).f3), .int .i64 ((rd_T115 l0_4 x62_2).f4), .int .i64 ((rd_T115 l0_4 x62_2).f5), .int .i64 ((rd_T115 l0_4 x62_2).f6), .slice A166_7 ((rd_T115 l0_4 x62_2).f7).length c166_7] 115 (0, 0)) (by (with_reducible repeat (first | refine blk_drewN ?_ _ | refine blk_drew ?_ | refine blk_alloc ?_ _)); refine blk_put (cs := #[.int .i64 ((rd_T115 l0_4 x62_2).f0), .int .i64 ((rd_T115 l0_4 x62_2).f1), .int .i64 ((rd_T115 l0_4 x62_2).f2), .int .i64 ((rd_T115 l0_4 x62_2).f3), .int .i64 ((rd_T115 l0_4 x62_2).f4), .int .i64 ((rd_T115 l0_4 x62_2).f5), .int .i64 ((rd_T115 l0_4 x62_2).f6), .slice none 0 0]) ?_ 7 _ rfl; (with_reducible repeat (first | refine blk_drewN ?_ _ | refine blk_drew ?_ | refine blk_alloc ?_ _)); refine blk_put (cs := #[.int .i64 ((rd_T115 l0_4 x62_2).f0), .int .i64 ((rd_T115 l0_4 x62_2).f1), .int .i64 ((rd_T115 l0_4 x62_2).f2), .int .i64 ((rd_T115 l0_4 x62_2).f3), .int .i64 ((rd_T115 l0_4 x62_2).f4), .int .i64 ((rd_T115 l0_4 x62_2).f5), .int .i64 0, .slice none 0 0]) ?_ 6 _ rfl; (with_reducible repeat (first | refine blk_drewN ?_ _ | refine blk_drew ?_ | refine blk_alloc ?_ _)); refine blk_put (cs := #[.int .i64 ((rd_T115 l0_4 x62_2).f0), .int .i64 ((rd_T115 l0_4 x62_2).f1), .int .i64 ((rd_T115 l0_4 x62_2).f2), .int .i64 ((rd_T115 l0_4 x62_2).f3), .int .i64 ((rd_T115 l0_4 x62_2).f4), .int .i64 0, .int .i64 0, .slice none 0 0]) ?_ 5 _ rfl; (with_reducible repeat (first | refine blk_drewN ?_ _ | refine blk_drew ?_ | refine blk_alloc ?_ _)); refine blk_put (cs := #[.int .i64 ((rd_T115 l0_4 x62_2).f0), .int .i64 ((rd_T115 l0_4 x62_2).f1), .int .i64 ((rd_T115 l0_4 x62_2).f2), .int .i64 ((rd_T115 l0_4 x62_2).f3), .int .i64 0, .int .i64 0, .int .i64 0, .slice none 0 0]) ?_ 4 _ rfl; (with_reducible repeat (first | refine blk_drewN ?_ _ | refine blk_drew ?_ | refine blk_alloc ?_ _)); refine blk_put (cs := #[.int .i64 ((rd_T115 l0_4 x62_2).f0), .int .i64 ((rd_T115 l0_4 x62_2).f1), .int .i64 ((rd_T115 l0_4 x62_2).f2), .int .i64 0, .int .i64 0, .int .i64 0, .int .i64 0, .slice none 0 0]) ?_ 3 _ rfl; (with_reducible repeat (first | refine blk_drewN ?_ _ | refine blk_drew ?_ | refine blk_alloc ?_ _)); refine blk_put (cs := #[.int .i64 ((rd_T115 l0_4 x62_2).f0), .int .i64 ((rd_T115 l0_4 x62_2).f1), .int .i64 0, .int .i64 0, .int .i64 0, .int .i64 0, .int .i64 0, .slice none 0 0]) ?_ 2 _ rfl; (with_reducible repeat (first | refine blk_drewN ?_ _ | refine blk_drew ?_ | refine blk_alloc ?_ _)); refine blk_put (cs := #[.int .i64 ((rd_T115 l0_4 x62_2).f0), .int .i64 0, .int .i64 0, .int .i64 0, .int .i64 0, .int .i64 0, .int .i64 0, .slice none 0 0]) ?_ 1 _ rfl; (with_reducible repeat (first | refine blk_drewN ?_ _ | refine blk_drew ?_ | refine blk_alloc ?_ _)); refine blk_put (cs := #[.int .i64 0, .int .i64 0, .int .i64 0, .int .i64 0, .int .i64 0, .int .i64 0, .int .i64 0, .slice none 0 0]) ?_ 0 _ rfl; (with_reducible repeat (first | refine blk_drewN ?_ _ | refine blk_drew ?_ | refine blk_alloc ?_ _)); exact BK167.out) hb); have n2_ := Aside0.mk (below_step (by repeat (first | (with_reducible first | exact HB.out | apply below_alloc | apply pw_below_drewN | apply below_drew1 | refine below_set ?_ GE163.out | refine below_set ?_ GE167.out) | exact HB.out)) hb); clear BK163; clear BK167; clear HB; have BK163 := n0_; have BK167 := n1_; have HB := n2_; clear n0_ n1_ n2_; (try clear hb); (try clear hb2); (try clear hk); (try clear hi); have hcz39_0 : w38.cell? ⟨gb167, 0, none⟩ = some (.int .i64 ((rd_T115 l0_4 x62_2).f0)) := (blk_cell BK167.out 0).trans rfl; have hcz39_1 : w38.cell? ⟨gb167, 1, none⟩ = some (.int .i64 ((rd_T115 l0_4 x62_2).f1)) := (blk_cell BK167.out 1).trans rfl; have hcz39_2 : w38.cell? ⟨gb167, 2, none⟩ = some (.int .i64 ((rd_T115 l0_4 x62_2).f2)) := (blk_cell BK167.out 2).trans rfl; have hcz39_3 : w38.cell? ⟨gb167, 3, none⟩ = some (.int .i64 ((rd_T115 l0_4 x62_2).f3)) := (blk_cell BK167.out 3).trans rfl; have hcz39_4 : w38.cell? ⟨gb167, 4, none⟩ = some (.int .i64 ((rd_T115 l0_4 x62_2).f4)) := (blk_cell BK167.out 4).trans rfl; have hcz39_5 : w38.cell? ⟨gb167, 5, none⟩ = some (.int .i64 ((rd_T115 l0_4 x62_2).f5)) := (blk_cell BK167.out 5).trans rfl; have hcz39_6 : w38.cell? ⟨gb167, 6, none⟩ = some (.int .i64 ((rd_T115 l0_4 x62_2).f6)) := (blk_cell BK167.out 6).trans rfl; have hcz39_7 : w38.cell? ⟨gb167, 7, none⟩ = some (.slice A166_7 ((rd_T115 l0_4 x62_2).f7).length c166_7) := (blk_cell BK167.out 7).trans rfl; have hfz39_0 := blk_frozen BK167.out 0; have hfz39_1 := blk_frozen BK167.out 1; have hfz39_2 := blk_frozen BK167.out 2; have hfz39_3 := blk_frozen BK167.out 3; have hfz39_4 := blk_frozen BK167.out 4; have hfz39_5 := blk_frozen BK167.out 5; have hfz39_6 := blk_frozen BK167.out 6; have hfz39_7 := blk_frozen BK167.out 7) | (go_at_call 100; (with_reducible refine (impl_inRange.calls k2 _ _ ((rd_T115 l0_4 x62_2).f7) (wrap64 ((l0_2.length : Int) - 1)) true _ ?side1 ?side2 A32.out).mono ?_); (case side1 => repeat (first | exact (Kd.C_below HR166_7.out HB.out) | (with_reducible refine Kd.C_alloc ?_ _) | (with_reducible refine Kd.C_drewN ?_ _) | (with_reducible refine Kd.C_drew ?_))); (case side2 => exact HC166_7.out); rintro e w' ⟨rfl, ⟨nd, rfl⟩⟩))
          go_roundg k2
          case measure => have := HJ1.out; have := HK2.out; omega
          case rel => exact ⟨(wrap64 (x4_2 + (((rd_T115 l0_4 x62_2).f7).length : Int))), (wrap64 (x62_2 + 1)), (by first | rfl | (simp; done) | (simp [*]; done)), (by first | rfl | (simp; done) | (simp [*]; done)), H', ⟨by have := HJ1.out; have := HK2.out; omega⟩, ⟨by (with_reducible repeat (first | refine blk_drewN ?_ _ | refine blk_drew ?_ | refine blk_alloc ?_ _)); exact BK163.out⟩, ⟨by repeat (first | (with_reducible first | exact HB.out | apply below_alloc | apply pw_below_drewN | apply below_drew1 | refine below_set ?_ GE163.out | refine below_set ?_ GE167.out) | exact HB.out)⟩⟩

end Go.Proofs.Ytggokppfhkebkaa.PFnExactGoodMoving

-- written by myprint.py (a program of this session's over the kit's print)
import Derived.Test.YtidblealnaicpaaPFnExactMergex0
namespace Go.Proofs.Ytidblealnaicpaa.PFnExactMerge
open Go.RowKit Go.Proofs.YtidblealnaicpaaW.PrintWords Go.Proofs.YtidblealnaicpaaW.PrintLast Go.Proofs.YtidblealnaicpaaW.PrintMore
attribute [local go_sem] max2_int min2_int max_two min_two max_three min_three max_four min_four   -- for this text's walks alone
set_option linter.unusedVariables false
set_option linter.unusedSimpArgs false

/-! ### laws_szIntS: function 164 -/
def laws_szIntS.f (l0 : List Int) (a1 : Int) : Option (Int) := if (wrap64 (a1 - (l0.length : Int))) < 0 then (some (-1)) else (some (wrap64 (a1 - (l0.length : Int))))
set_option maxHeartbeats 8000000 in
set_option maxRecDepth 100000 in
theorem laws_szIntS.calls (A0 : Option Addr) (c0 : Nat) (l0 : List Int) (a1 : Int) (r : Int) (w : World) (hr0 : Kd.C (Kd.int .i64) w A0 l0.length l0) (hc0 : l0.length ≤ c0) (h : laws_szIntS.f l0 a1 = some r) :
    Calls Try.prog 164 #[.slice A0 l0.length c0, .int .i64 a1] w fun e w' => e = .returned (.int .i64 r) ∧ Drawn0 w w' := by
  have HR0 := Aside0.mk hr0
  have HC0 := Aside0.mk hc0
  clear hr0 hc0
  have H : (if (wrap64 (a1 - (l0.length : Int))) < 0 then (some (-1)) else (some (wrap64 (a1 - (l0.length : Int))))) = some r := h
  clear h
  by_cases c3 : (wrap64 (a1 - (l0.length : Int))) < 0
  · rw [if_pos c3] at H
    have c3b0 : decide ((wrap64 (a1 - (l0.length : Int))) < 0) = true := decide_eq_true c3
    clear c3
    obtain rfl := Option.some.inj H
    go_enter Try.func164, Try.ntmps164
    go_wp2
    go_ret
    exact ⟨by first | rfl | (simp; done) | (simp [*]; done), by repeat (first | exact Drawn0.refl _ | apply Drawn0.step)⟩
  · rw [if_neg c3] at H
    have c3b0 : decide ((wrap64 (a1 - (l0.length : Int))) < 0) = false := decide_eq_false c3
    clear c3
    obtain rfl := Option.some.inj H
    go_enter Try.func164, Try.ntmps164
    go_wp2
    go_ret
    exact ⟨by first | rfl | (simp; done) | (simp [*]; done), by repeat (first | exact Drawn0.refl _ | apply Drawn0.step)⟩

/-! ### laws_szImage: function 84 -/
def laws_szImage.f (a0_0 : Int) (a0_1 : Int) (a0_2 : Int) (a0_3 : Int) (l0_4 : List Int) (a1 : Int) : Option (Int) := (laws_szIntS.f l0_4 a1).bind fun t102 => (if t102 < 0 then (some (-1)) else (some t102))
set_option maxHeartbeats 8000000 in
set_option maxRecDepth 100000 in
theorem laws_szImage.calls (a0_0 : Int) (a0_1 : Int) (a0_2 : Int) (a0_3 : Int) (A0_4 : Option Addr) (c0_4 : Nat) (l0_4 : List Int) (a1 : Int) (r : Int) (w : World) (hr0_4 : Kd.C (Kd.int .i64) w A0_4 l0_4.length l0_4) (hc0_4 : l0_4.length ≤ c0_4) (h : laws_szImage.f a0_0 a0_1 a0_2 a0_3 l0_4 a1 = some r) :
    Calls Try.prog 84 #[.agg #[.int .i64 a0_0, .int .i64 a0_1, .int .i64 a0_2, .int .i64 a0_3, .slice A0_4 l0_4.length c0_4], .int .i64 a1] w fun e w' => e = .returned (.int .i64 r) ∧ Below w.heap.size w w' := by
  have hu108 := Try.underlying108
  have HR0_4 := Aside0.mk hr0_4
  have HC0_4 := Aside0.mk hc0_4
  clear hr0_4 hc0_4
  have HB := Aside0.mk (Below.refl w.heap.size w)
  have H : ((laws_szIntS.f l0_4 a1).bind fun t102 => (if t102 < 0 then (some (-1)) else (some t102))) = some r := h
  clear h
  replace H := Option.bind_eq_some_iff.mp H
  obtain ⟨t102, A30, H⟩ := H
  replace H : (if t102 < 0 then (some (-1)) else (some t102)) = some r := H
  have A3 := Aside0.mk A30
  clear A30
  by_cases c4 : t102 < 0
  · rw [if_pos c4] at H
    have c4b0 : decide (t102 < 0) = true := decide_eq_true c4
    clear c4
    obtain rfl := Option.some.inj H
    go_enter Try.func84, Try.ntmps84
    go_wp2_with (first | ((with_reducible refine gate_dst (N := 2) rfl ?_); refine box_event ?hg (N := 2) ?hd (cs := #[.int .i64 a0_0, .int .i64 a0_1, .int .i64 a0_2, .int .i64 a0_3, .slice A0_4 l0_4.length c0_4]) (t := 108) ?hr ?_; (case hd => rfl); (case hg => rfl); (case hr => first | (go_simp; done) | (go_simp; rfl)); intro gb101 hg w5 hbox hb; have n0_ := Aside0.mk (below_step (by repeat (first | (with_reducible first | exact HB.out | apply below_alloc | apply pw_below_drewN | apply below_drew1) | exact HB.out)) hb); have n1_ := Aside0.mk (hbox); have n2_ := Aside0.mk ((by rw [hg]; exact (below_size (by repeat (first | (with_reducible first | exact HB.out | apply below_alloc | apply pw_below_drewN | apply below_drew1) | exact HB.out))) : w.heap.size ≤ gb101)); have n3_ := n2_; clear HB; have HB := n0_; have BK101 := n1_; have GW101 := n2_; have GE101 := n3_; clear n0_ n1_ n2_ n3_; clear hb hbox hg; have hcz6_0 : w5.cell? ⟨gb101, 0, none⟩ = some (.int .i64 a0_0) := (blk_cell BK101.out 0).trans rfl; have hcz6_1 : w5.cell? ⟨gb101, 1, none⟩ = some (.int .i64 a0_1) := (blk_cell BK101.out 1).trans rfl; have hcz6_2 : w5.cell? ⟨gb101, 2, none⟩ = some (.int .i64 a0_2) := (blk_cell BK101.out 2).trans rfl; have hcz6_3 : w5.cell? ⟨gb101, 3, none⟩ = some (.int .i64 a0_3) := (blk_cell BK101.out 3).trans rfl; have hcz6_4 : w5.cell? ⟨gb101, 4, none⟩ = some (.slice A0_4 l0_4.length c0_4) := (blk_cell BK101.out 4).trans rfl; have hfz6_0 := blk_frozen BK101.out 0; have hfz6_1 := blk_frozen BK101.out 1; have hfz6_2 := blk_frozen BK101.out 2; have hfz6_3 := blk_frozen BK101.out 3; have hfz6_4 := blk_frozen BK101.out 4) | ((with_reducible refine gate_callee (f := 164) rfl ?_); refine goesL_ (some 8) rfl rfl Try.func164 (by kernel_rfl) rfl #[.slice A0_4 l0_4.length c0_4, .int .i64 a1] rfl (by (try simp only [List.map_toArray, List.map_cons, List.map_nil]); first | done | rfl | (simp only [List.length_drop, List.length_take]; rfl)) ?_; (with_reducible refine (laws_szIntS.calls _ _ l0_4 a1 t102 _ ?side1 ?side2 A3.out).mono ?_); (case side1 => repeat (first | exact (Kd.C_below HR0_4.out HB.out) | (with_reducible refine Kd.C_alloc ?_ _) | (with_reducible refine Kd.C_drewN ?_ _) | (with_reducible refine Kd.C_drew ?_))); (case side2 => exact HC0_4.out); rintro e w' ⟨rfl, ⟨nd, rfl⟩⟩; refine ⟨_, rfl, ?_⟩))
    go_ret
    exact ⟨by first | rfl | (simp [errW_none, errW_some] <;> rfl) | (simp [*, errW_none, errW_some] <;> rfl), by repeat (first | (with_reducible first | exact HB.out | apply below_alloc | apply pw_below_drewN | apply below_drew1 | refine below_set ?_ GE101.out) | exact HB.out)⟩
  rw [if_neg c4] at H
  have c4b0 : decide (t102 < 0) = false := decide_eq_false c4
  clear c4
  obtain rfl := Option.some.inj H
  go_enter Try.func84, Try.ntmps84
  go_wp2_with (first | ((with_reducible refine gate_dst (N := 2) rfl ?_); refine box_event ?hg (N := 2) ?hd (cs := #[.int .i64 a0_0, .int .i64 a0_1, .int .i64 a0_2, .int .i64 a0_3, .slice A0_4 l0_4.length c0_4]) (t := 108) ?hr ?_; (case hd => rfl); (case hg => rfl); (case hr => first | (go_simp; done) | (go_simp; rfl)); intro gb101 hg w7 hbox hb; have n0_ := Aside0.mk (below_step (by repeat (first | (with_reducible first | exact HB.out | apply below_alloc | apply pw_below_drewN | apply below_drew1) | exact HB.out)) hb); have n1_ := Aside0.mk (hbox); have n2_ := Aside0.mk ((by rw [hg]; exact (below_size (by repeat (first | (with_reducible first | exact HB.out | apply below_alloc | apply pw_below_drewN | apply below_drew1) | exact HB.out))) : w.heap.size ≤ gb101)); have n3_ := n2_; clear HB; have HB := n0_; have BK101 := n1_; have GW101 := n2_; have GE101 := n3_; clear n0_ n1_ n2_ n3_; clear hb hbox hg; have hcz8_0 : w7.cell? ⟨gb101, 0, none⟩ = some (.int .i64 a0_0) := (blk_cell BK101.out 0).trans rfl; have hcz8_1 : w7.cell? ⟨gb101, 1, none⟩ = some (.int .i64 a0_1) := (blk_cell BK101.out 1).trans rfl; have hcz8_2 : w7.cell? ⟨gb101, 2, none⟩ = some (.int .i64 a0_2) := (blk_cell BK101.out 2).trans rfl; have hcz8_3 : w7.cell? ⟨gb101, 3, none⟩ = some (.int .i64 a0_3) := (blk_cell BK101.out 3).trans rfl; have hcz8_4 : w7.cell? ⟨gb101, 4, none⟩ = some (.slice A0_4 l0_4.length c0_4) := (blk_cell BK101.out 4).trans rfl; have hfz8_0 := blk_frozen BK101.out 0; have hfz8_1 := blk_frozen BK101.out 1; have hfz8_2 := blk_frozen BK101.out 2; have hfz8_3 := blk_frozen BK101.out 3; have hfz8_4 := blk_frozen BK101.out 4) | ((with_reducible refine gate_callee (f := 164) rfl ?_); refine goesL_ (some 8) rfl rfl Try.func164 (by kernel_rfl) rfl #[.slice A0_4 l0_4.length c0_4, .int .i64 a1] rfl (by (try simp only [List.map_toArray, List.map_cons, List.map_nil]); first | done | rfl | (simp only [List.length_drop, List.length_take]; rfl)) ?_; (with_reducible refine (laws_szIntS.calls _ _ l0_4 a1 t102 _ ?side1 ?side2 A3.out).mono ?_); (case side1 => repeat (first | exact (Kd.C_below HR0_4.out HB.out) | (with_reducible refine Kd.C_alloc ?_ _) | (with_reducible refine Kd.C_drewN ?_ _) | (with_reducible refine Kd.C_drew ?_))); (case side2 => exact HC0_4.out); rintro e w' ⟨rfl, ⟨nd, rfl⟩⟩; refine ⟨_, rfl, ?_⟩))
  go_ret
  exact ⟨by first | rfl | (simp [errW_none, errW_some] <;> rfl) | (simp [*, errW_none, errW_some] <;> rfl), by repeat (first | (with_reducible first | exact HB.out | apply below_alloc | apply pw_below_drewN | apply below_drew1 | refine below_set ?_ GE101.out) | exact HB.out)⟩

/-! ### laws_szImageS: function 21 -/
def laws_szImageS.l0 : Nat → List (S108) → Int → Int → Option (Int)
  | 0, _, _, _ => none
  | k + 1, x0, x1, x5 => if x5 < (x0.length : Int) then (if 0 ≤ x5 then ((laws_szImage.f ((rd_T108 x0 x5).f0) ((rd_T108 x0 x5).f1) ((rd_T108 x0 x5).f2) ((rd_T108 x0 x5).f3) ((rd_T108 x0 x5).f4) x1).bind fun t104 => (if t104 < 0 then (some (-1)) else (laws_szImageS.l0 k x0 t104 (wrap64 (x5 + 1))))) else (none)) else (some x1)
def laws_szImageS.f (k : Nat) (l0 : List (S108)) (a1 : Int) : Option (Int) := if (wrap64 (a1 - (l0.length : Int))) < 0 then (some (-1)) else (laws_szImageS.l0 k l0 (wrap64 (a1 - (l0.length : Int))) 0)
theorem laws_szImageS.mono_l : ∀ k, (∀ y0 y1 y2, LeO (laws_szImageS.l0 k y0 y1 y2) (laws_szImageS.l0 (k + 1) y0 y1 y2))
  | 0 => fun _ _ _ r h => by simp [laws_szImageS.l0] at h
  | k + 1 => by
    have ih0 := laws_szImageS.mono_l k
    · intro y0 y1 y2
      unfold laws_szImageS.l0
      repeat' first
      | (with_reducible exact ih0 _ _ _)
      | (with_reducible exact LeO.refl _)
      | (with_reducible exact LeO.none _)
      | (with_reducible refine LeO.ite ?_ ?_)
      | (with_reducible refine LeO.bind ?_ (fun _ => ?_))
      | exact ih0 _ _ _
      | exact LeO.none _
      | refine LeO.ite ?_ ?_
      | refine LeO.bind ?_ (fun _ => ?_)
theorem laws_szImageS.mono : ∀ a0 a1 k, LeO (laws_szImageS.f k a0 a1) (laws_szImageS.f (k + 1) a0 a1) := by
  intro a0 a1 k
  have ih0 := laws_szImageS.mono_l k
  unfold laws_szImageS.f
  repeat' first
      | (with_reducible exact ih0 _ _ _)
      | (with_reducible exact LeO.refl _)
      | (with_reducible exact LeO.none _)
      | (with_reducible refine LeO.ite ?_ ?_)
      | (with_reducible refine LeO.bind ?_ (fun _ => ?_))
      | exact ih0 _ _ _
      | exact LeO.none _
      | refine LeO.ite ?_ ?_
      | refine LeO.bind ?_ (fun _ => ?_)
set_option maxHeartbeats 8000000 in
set_option maxRecDepth 100000 in
theorem laws_szImageS.calls (k : Nat) (A0 : Option Addr) (c0 : Nat) (l0 : List (S108)) (a1 : Int) (r : Int) (w : World) (hr0 : Kd.C k108 w A0 l0.length l0) (hc0 : l0.length ≤ c0) (h : laws_szImageS.f k l0 a1 = some r) :
    Calls Try.prog 21 #[.slice A0 l0.length c0, .int .i64 a1] w fun e w' => e = .returned (.int .i64 r) ∧ Below w.heap.size w w' := by
  have hu108 := Try.underlying108
  have HR0 := Aside0.mk hr0
  have HC0 := Aside0.mk hc0
  clear hr0 hc0
  have HB := Aside0.mk (Below.refl w.heap.size w)
  have H : (if (wrap64 (a1 - (l0.length : Int))) < 0 then (some (-1)) else (laws_szImageS.l0 k l0 (wrap64 (a1 - (l0.length : Int))) 0)) = some r := h
  clear h
  by_cases c3 : (wrap64 (a1 - (l0.length : Int))) < 0
  · rw [if_pos c3] at H
    have c3b0 : decide ((wrap64 (a1 - (l0.length : Int))) < 0) = true := decide_eq_true c3
    clear c3
    obtain rfl := Option.some.inj H
    go_enter Try.func21, Try.ntmps21
    go_wp2
    go_ret
    exact ⟨by first | rfl | (simp [errW_none, errW_some] <;> rfl) | (simp [*, errW_none, errW_some] <;> rfl), by repeat (first | (with_reducible first | exact HB.out | apply below_alloc | apply pw_below_drewN | apply below_drew1) | exact HB.out)⟩
  rw [if_neg c3] at H
  have c3b0 : decide ((wrap64 (a1 - (l0.length : Int))) < 0) = false := decide_eq_false c3
  clear c3
  have H' := Aside0.mk H
  clear H
  go_enter Try.func21, Try.ntmps21
  go_wp2
  go_loopg [1, 5] k (fun kq v1 v5 w' => ∃ (x1_1 : Int) (x5_1 : Int), v1 = .int .i64 x1_1 ∧ v5 = .int .i64 x5_1 ∧ Aside0 (laws_szImageS.l0 kq l0 x1_1 x5_1 = some r) ∧ Aside0 (kq ≤ k) ∧ Aside0 (Below w.heap.size w w'))
  case atStart => exact ⟨(wrap64 (a1 - (l0.length : Int))), (0), (by first | rfl | (simp; done) | (simp [*]; done)), (by first | rfl | (simp; done) | (simp [*]; done)), H', ⟨Nat.le_refl _⟩, ⟨by repeat (first | (with_reducible first | exact HB.out | apply below_alloc | apply pw_below_drewN | apply below_drew1) | exact HB.out)⟩⟩
  case round =>
    clear H'
    try clear c2
    try clear p2
    try clear c3
    try clear c3b0
    obtain ⟨x1_1, x5_1, rfl, rfl, HA, HK1, HB⟩ := hrel
    cases gk with
    | zero => exact absurd HA.out (by simp [laws_szImageS.l0])
    | succ k1 =>
      have H := HA.out
      clear HA
      simp only [laws_szImageS.l0] at H
      by_cases c4 : x5_1 < (l0.length : Int)
      rotate_left
      · rw [if_neg c4] at H
        have c4b0 : decide (x5_1 < (l0.length : Int)) = false := decide_eq_false c4
        clear c4
        obtain rfl := Option.some.inj H
        go_wp2
        go_ret
        exact ⟨by first | rfl | (simp [errW_none, errW_some] <;> rfl) | (simp [*, errW_none, errW_some] <;> rfl), by repeat (first | (with_reducible first | exact HB.out | apply below_alloc | apply pw_below_drewN | apply below_drew1) | exact HB.out)⟩
      rw [if_pos c4] at H
      have c4b0 : decide (x5_1 < (l0.length : Int)) = true := decide_eq_true c4
      clear c4
      by_cases c5 : 0 ≤ x5_1
      rotate_left
      · rw [if_neg c5] at H
        exact absurd H (by simp)
      rw [if_pos c5] at H
      have c5b0 : decide (0 ≤ x5_1) = true := decide_eq_true c5
      clear c5
      replace H := Option.bind_eq_some_iff.mp H
      obtain ⟨t104, A60, H⟩ := H
      replace H : (if t104 < 0 then (some (-1)) else (laws_szImageS.l0 k1 l0 t104 (wrap64 (x5_1 + 1)))) = some r := H
      have A6 := Aside0.mk A60
      clear A60
      by_cases c7 : t104 < 0
      · rw [if_pos c7] at H
        have c7b0 : decide (t104 < 0) = true := decide_eq_true c7
        clear c7
        obtain rfl := Option.some.inj H
        have p103 : 0 ≤ (x5_1 : Int) := of_decide_eq_true (by first | (with_reducible assumption) | assumption)
        have q103 : x5_1 < (l0.length : Int) := of_decide_eq_true (by first | (with_reducible assumption) | assumption)
        obtain ⟨ad103, A103_4, c103_4, e103, hx103_0, hx103_1, hx103_2, hx103_3, hx103_4, hl103_4, hi103_4⟩ := at_T108 HR0.out x5_1 p103 q103
        cases e103
        replace hx103_0 := (HB.out.cell (World.block_lt_of_cell? w _ hx103_0)).trans hx103_0
        replace hx103_1 := (HB.out.cell (World.block_lt_of_cell? w _ hx103_1)).trans hx103_1
        replace hx103_2 := (HB.out.cell (World.block_lt_of_cell? w _ hx103_2)).trans hx103_2
        replace hx103_3 := (HB.out.cell (World.block_lt_of_cell? w _ hx103_3)).trans hx103_3
        replace hx103_4 := (HB.out.cell (World.block_lt_of_cell? w _ hx103_4)).trans hx103_4
        have HR103_4 := Aside0.mk hi103_4
        have HC103_4 := Aside0.mk hl103_4
        clear hi103_4 hl103_4
        replace p103 := eq_true p103
        replace q103 := eq_true q103
        go_wp2_with (first | ((with_reducible refine gate_callee (f := 84) rfl ?_); refine goesL_ (some 23) rfl rfl Try.func84 (by kernel_rfl) rfl #[.agg #[.int .i64 ((rd_T108 l0 x5_1).f0), .int .i64 ((rd_T108 l0 x5_1).f1), .int .i64 ((rd_T108 l0 x5_1).f2), .int .i64 ((rd_T108 l0 x5_1).f3), .slice A103_4 ((rd_T108 l0 x5_1).f4).length c103_4], .int .i64 x1_1] rfl (by (try simp only [List.map_toArray, List.map_cons, List.map_nil]); first | done | rfl | (simp only [List.length_drop, List.length_take]; rfl)) ?_; (with_reducible refine (laws_szImage.calls ((rd_T108 l0 x5_1).f0) ((rd_T108 l0 x5_1).f1) ((rd_T108 l0 x5_1).f2) ((rd_T108 l0 x5_1).f3) _ _ ((rd_T108 l0 x5_1).f4) x1_1 t104 _ ?side1 ?side2 A6.out).mono ?_); (case side1 => repeat (first | exact (Kd.C_below HR103_4.out HB.out) | (with_reducible refine Kd.C_alloc ?_ _) | (with_reducible refine Kd.C_drewN ?_ _) | (with_reducible refine Kd.C_drew ?_))); (case side2 => exact HC103_4.out); rintro e w8 ⟨rfl, hb⟩; refine ⟨_, rfl, ?_⟩; have n0_ := Aside0.mk (below_step (by repeat (first | (with_reducible first | exact HB.out | apply below_alloc | apply pw_below_drewN | apply below_drew1) | exact HB.out)) hb); clear HB; have HB := n0_; clear n0_; (try clear hb); (try clear hb2); (try clear hk); (try clear hi)))
        go_ret
        exact ⟨by first | rfl | (simp [errW_none, errW_some] <;> rfl) | (simp [*, errW_none, errW_some] <;> rfl), by repeat (first | (with_reducible first | exact HB.out | apply below_alloc | apply pw_below_drewN | apply below_drew1) | exact HB.out)⟩
      rw [if_neg c7] at H
      have c7b0 : decide (t104 < 0) = false := decide_eq_false c7
      clear c7
      have H' := Aside0.mk H
      clear H
      have p103 : 0 ≤ (x5_1 : Int) := of_decide_eq_true (by first | (with_reducible assumption) | assumption)
      have q103 : x5_1 < (l0.length : Int) := of_decide_eq_true (by first | (with_reducible assumption) | assumption)
      obtain ⟨ad103, A103_4, c103_4, e103, hx103_0, hx103_1, hx103_2, hx103_3, hx103_4, hl103_4, hi103_4⟩ := at_T108 HR0.out x5_1 p103 q103
      cases e103
      replace hx103_0 := (HB.out.cell (World.block_lt_of_cell? w _ hx103_0)).trans hx103_0
      replace hx103_1 := (HB.out.cell (World.block_lt_of_cell? w _ hx103_1)).trans hx103_1
      replace hx103_2 := (HB.out.cell (World.block_lt_of_cell? w _ hx103_2)).trans hx103_2
      replace hx103_3 := (HB.out.cell (World.block_lt_of_cell? w _ hx103_3)).trans hx103_3
      replace hx103_4 := (HB.out.cell (World.block_lt_of_cell? w _ hx103_4)).trans hx103_4
      have HR103_4 := Aside0.mk hi103_4
      have HC103_4 := Aside0.mk hl103_4
      clear hi103_4 hl103_4
      replace p103 := eq_true p103
      replace q103 := eq_true q103
      go_wp2_with (first | ((with_reducible refine gate_callee (f := 84) rfl ?_); refine goesL_ (some 23) rfl rfl Try.func84 (by kernel_rfl) rfl #[.agg #[.int .i64 ((rd_T108 l0 x5_1).f0), .int .i64 ((rd_T108 l0 x5_1).f1), .int .i64 ((rd_T108 l0 x5_1).f2), .int .i64 ((rd_T108 l0 x5_1).f3), .slice A103_4 ((rd_T108 l0 x5_1).f4).length c103_4], .int .i64 x1_1] rfl (by (try simp only [List.map_toArray, List.map_cons, List.map_nil]); first | done | rfl | (simp only [List.length_drop, List.length_take]; rfl)) ?_; (with_reducible refine (laws_szImage.calls ((rd_T108 l0 x5_1).f0) ((rd_T108 l0 x5_1).f1) ((rd_T108 l0 x5_1).f2) ((rd_T108 l0 x5_1).f3) _ _ ((rd_T108 l0 x5_1).f4) x1_1 t104 _ ?side1 ?side2 A6.out).mono ?_); (case side1 => repeat (first | exact (Kd.C_below HR103_4.out HB.out) | (with_reducible refine Kd.C_alloc ?_ _) | (with_reducible refine Kd.C_drewN ?_ _) | (with_reducible refine Kd.C_drew ?_))); (case side2 => exact HC103_4.out); rintro e w9 ⟨rfl, hb⟩; refine ⟨_, rfl, ?_⟩; have n0_ := Aside0.mk (below_step (by repeat (first | (with_reducible first | exact HB.out | apply below_alloc | apply pw_below_drewN | apply below_drew1) | exact HB.out)) hb); clear HB; have HB := n0_; clear n0_; (try clear hb); (try clear hb2); (try clear hk); (try clear hi)))
      go_roundg k1
      case measure => have := HK1.out; omega
      case rel => exact ⟨(t104), (wrap64 (x5_1 + 1)), (by first | rfl | (simp; done) | (simp [*]; done)), (by first | rfl | (simp; done) | (simp [*]; done)), H', ⟨by have := HK1.out; omega⟩, ⟨by repeat (first | (with_reducible first | exact HB.out | apply below_alloc | apply pw_below_drewN | apply below_drew1) | exact HB.out)⟩⟩

/-! ### spec_l4Sides: function 85 -/
def spec_l4Sides.f (a0 : Int) (a1 : Int) : Option (Bool) := if a0 ≥ 1 then (if a0 ≤ 512 then (if a1 ≥ 1 then (some (decide (a1 ≤ 512))) else (some false)) else (some false)) else (some false)
set_option maxHeartbeats 8000000 in
set_option maxRecDepth 100000 in
theorem spec_l4Sides.calls (a0 : Int) (a1 : Int) (r : Bool) (w : World) (h : spec_l4Sides.f a0 a1 = some r) :
    Calls Try.prog 85 #[.int .i64 a0, .int .i64 a1] w fun e w' => e = .returned (.bool r) ∧ Drawn0 w w' := by
  have H : (if a0 ≥ 1 then (if a0 ≤ 512 then (if a1 ≥ 1 then (some (decide (a1 ≤ 512))) else (some false)) else (some false)) else (some false)) = some r := h
  clear h
  by_cases c3 : a0 ≥ 1
  · rw [if_pos c3] at H
    have c3b0 : decide (1 ≤ a0) = true := decide_eq_true c3
    clear c3
    by_cases c4 : a0 ≤ 512
    · rw [if_pos c4] at H
      have c4b0 : decide (a0 ≤ 512) = true := decide_eq_true c4
      clear c4
      by_cases c5 : a1 ≥ 1
      · rw [if_pos c5] at H
        have c5b0 : decide (1 ≤ a1) = true := decide_eq_true c5
        clear c5
        obtain rfl := Option.some.inj H
        go_enter Try.func85, Try.ntmps85
        go_wp2
        go_ret
        exact ⟨by first | rfl | (simp; done) | (simp [*]; done), by repeat (first | exact Drawn0.refl _ | apply Drawn0.step)⟩
      · rw [if_neg c5] at H
        have c5b0 : decide (1 ≤ a1) = false := decide_eq_false c5
        clear c5
        obtain rfl := Option.some.inj H
        go_enter Try.func85, Try.ntmps85
        go_wp2
        go_ret
        exact ⟨by first | rfl | (simp; done) | (simp [*]; done), by repeat (first | exact Drawn0.refl _ | apply Drawn0.step)⟩
    · rw [if_neg c4] at H
      have c4b0 : decide (a0 ≤ 512) = false := decide_eq_false c4
      clear c4
      obtain rfl := Option.some.inj H
      go_enter Try.func85, Try.ntmps85
      go_wp2
      go_ret
      exact ⟨by first | rfl | (simp; done) | (simp [*]; done), by repeat (first | exact Drawn0.refl _ | apply Drawn0.step)⟩
  · rw [if_neg c3] at H
    have c3b0 : decide (1 ≤ a0) = false := decide_eq_false c3
    clear c3
    obtain rfl := Option.some.inj H
    go_enter Try.func85, Try.ntmps85
    go_wp2
    go_ret
    exact ⟨by first | rfl | (simp; done) | (simp [*]; done), by repeat (first | exact Drawn0.refl _ | apply Drawn0.step)⟩

/-! ### spec_l4Count: function 165 -/
def spec_l4Count.f (a0 : Int) (a1 : Int) (a2 : Int) : Option (Int) := if a0 ≤ a1 then (some 0) else (if a2 = 0 then (none) else (some (wrap64 (Int.tdiv (wrap64 ((wrap64 ((wrap64 (a0 - a1)) + a2)) - 1)) a2))))
set_option maxHeartbeats 8000000 in
set_option maxRecDepth 100000 in
theorem spec_l4Count.calls (a0 : Int) (a1 : Int) (a2 : Int) (r : Int) (w : World) (h : spec_l4Count.f a0 a1 a2 = some r) :
    Calls Try.prog 165 #[.int .i64 a0, .int .i64 a1, .int .i64 a2] w fun e w' => e = .returned (.int .i64 r) ∧ Drawn0 w w' := by
  have H : (if a0 ≤ a1 then (some 0) else (if a2 = 0 then (none) else (some (wrap64 (Int.tdiv (wrap64 ((wrap64 ((wrap64 (a0 - a1)) + a2)) - 1)) a2))))) = some r := h
  clear h
  by_cases c4 : a0 ≤ a1
  · rw [if_pos c4] at H
    have c4b0 : decide (a0 ≤ a1) = true := decide_eq_true c4
    clear c4
    obtain rfl := Option.some.inj H
    go_enter Try.func165, Try.ntmps165
    go_wp2
    go_ret
    exact ⟨by first | rfl | (simp; done) | (simp [*]; done), by repeat (first | exact Drawn0.refl _ | apply Drawn0.step)⟩
  · rw [if_neg c4] at H
    have c4b0 : decide (a0 ≤ a1) = false := decide_eq_false c4
    clear c4
    by_cases c5 : a2 = 0
    · rw [if_pos c5] at H
      exact absurd H (by simp)
    · rw [if_neg c5] at H
      have c5b0 : (a2 == 0) = false := beq_eq_false_iff_ne.mpr c5
      have c5b1 : (a2 != 0) = true := bne_iff_ne.mpr c5
      obtain rfl := Option.some.inj H
      go_enter Try.func165, Try.ntmps165
      go_wp2
      go_ret
      exact ⟨by first | rfl | (simp; done) | (simp [*]; done), by repeat (first | exact Drawn0.refl _ | apply Drawn0.step)⟩

/-! ### spec_l4Passes: function 86 -/
def spec_l4Passes.l0 : Nat → Int → Int → List Int → List (S113) → Int → Option ((List (S113)))
  | 0, _, _, _, _, _ => none
  | k + 1, x0, x1, x5, x6, x7 => if x7 < (x5.length : Int) then (if 0 ≤ x7 then (if 0 ≤ (wrap64 (x7 + 1)) then (if (wrap64 (x7 + 1)) < (x5.length : Int) then (if 0 ≤ (wrap64 (x7 + 2)) then (if (wrap64 (x7 + 2)) < (x5.length : Int) then (if 0 ≤ (wrap64 (x7 + 3)) then (if (wrap64 (x7 + 3)) < (x5.length : Int) then ((spec_l4Count.f x0 (rd x5 x7) (rd x5 (wrap64 (x7 + 2)))).bind fun t138 => ((spec_l4Count.f x1 (rd x5 (wrap64 (x7 + 1))) (rd x5 (wrap64 (x7 + 3)))).bind fun t139 => (if t138 > 0 then (if t139 > 0 then (if x6.length < 2932031007402 then (spec_l4Passes.l0 k x0 x1 x5 (x6 ++ [(⟨rd x5 x7, rd x5 (wrap64 (x7 + 1)), rd x5 (wrap64 (x7 + 2)), rd x5 (wrap64 (x7 + 3)), t138, t139⟩ : S113)]) (wrap64 (x7 + 4))) else (none)) else (spec_l4Passes.l0 k x0 x1 x5 x6 (wrap64 (x7 + 4)))) else (spec_l4Passes.l0 k x0 x1 x5 x6 (wrap64 (x7 + 4)))))) else (none)) else (none)) else (none)) else (none)) else (none)) else (none)) else (none)) else (some x6)
def spec_l4Passes.f (k : Nat) (a0 : Int) (a1 : Int) : Option ((List (S113))) := spec_l4Passes.l0 k a0 a1 (([0, 0, 8, 8, 4, 0, 8, 8, 0, 4, 4, 8, 2, 0, 4, 4, 0, 2, 2, 4, 1, 0, 2, 2, 0, 1, 1, 2] : List Int)) ([] : List (S113)) 0
theorem spec_l4Passes.mono_l : ∀ k, (∀ y0 y1 y2 y3 y4, LeO (spec_l4Passes.l0 k y0 y1 y2 y3 y4) (spec_l4Passes.l0 (k + 1) y0 y1 y2 y3 y4))
  | 0 => fun _ _ _ _ _ r h => by simp [spec_l4Passes.l0] at h
  | k + 1 => by
    have ih0 := spec_l4Passes.mono_l k
    · intro y0 y1 y2 y3 y4
      unfold spec_l4Passes.l0
      repeat' first
      | (with_reducible exact ih0 _ _ _ _ _)
      | (with_reducible exact LeO.refl _)
      | (with_reducible exact LeO.none _)
      | (with_reducible refine LeO.ite ?_ ?_)
      | (with_reducible refine LeO.bind ?_ (fun _ => ?_))
      | exact ih0 _ _ _ _ _
      | exact LeO.none _
      | refine LeO.ite ?_ ?_
      | refine LeO.bind ?_ (fun _ => ?_)
theorem spec_l4Passes.mono : ∀ a0 a1 k, LeO (spec_l4Passes.f k a0 a1) (spec_l4Passes.f (k + 1) a0 a1) := by
  intro a0 a1 k
  have ih0 := spec_l4Passes.mono_l k
  unfold spec_l4Passes.f
  repeat' first
      | (with_reducible exact ih0 _ _ _ _ _)
      | (with_reducible exact LeO.refl _)
      | (with_reducible exact LeO.none _)
      | (with_reducible refine LeO.ite ?_ ?_)
      | (with_reducible refine LeO.bind ?_ (fun _ => ?_))
      | exact ih0 _ _ _ _ _
      | exact LeO.none _
      | refine LeO.ite ?_ ?_
      | refine LeO.bind ?_ (fun _ => ?_)
def spec_l4Passes.T6 : Bool × List (List Nat × List Nat) := (true, [([], []), ([], []), ([0, 1], [0, 1]), ([2], [2]), ([], []), ([], []), ([5], [5]), ([4, 6], [4, 6]), ([7], [7]), ([], []), ([], []), ([10], [10]), ([9, 11], [9, 11]), ([12], [12]), ([], []), ([], []), ([15], [15]), ([14, 16], [14, 16]), ([17], [17]), ([3, 8, 13, 18], [3, 8, 13, 18]), ([], []), ([20, 19, 0, 1, 2, 3, 4, 5, 6, 7, 8, 9, 10, 11, 12, 13, 14, 15, 16, 17, 18, 19, 20], [19, 20])])
def spec_l4Passes.B6 : List Nat := [0, 0, 3, 7, 0, 0, 32, 112, 240, 0, 0, 1024, 3584, 7680, 0, 0, 32768, 114688, 245760, 524287, 0, 2097151]
theorem spec_l4Passes.tab6 : rtab .any (opsOf Try.f86 6) = spec_l4Passes.T6 := by kernel_rfl
theorem spec_l4Passes.bits6 : waitsOk spec_l4Passes.T6.2 spec_l4Passes.B6 = true := by kernel_rfl
set_option maxHeartbeats 8000000 in
set_option maxRecDepth 100000 in
theorem spec_l4Passes.calls (k : Nat) (a0 : Int) (a1 : Int) (r : List (S113)) (w : World) (h : spec_l4Passes.f k a0 a1 = some r) :
    Calls Try.prog 86 #[.int .i64 a0, .int .i64 a1] w fun e w' => ∃ v0_ : Value, e = .returned (v0_) ∧ Kd.R k113 113 w' w.heap.size (fun _ => True) v0_ r ∧ Below w.heap.size w w' := by
  have hu113 := Try.underlying113
  have HB := Aside0.mk (Below.refl w.heap.size w)
  have H : (spec_l4Passes.l0 k a0 a1 (([0, 0, 8, 8, 4, 0, 8, 8, 0, 4, 4, 8, 2, 0, 4, 4, 0, 2, 2, 4, 1, 0, 2, 2, 0, 1, 1, 2] : List Int)) ([] : List (S113)) 0) = some r := h
  clear h
  obtain ⟨y130, hy130⟩ : ∃ y_ : List Int, y_ = (([0, 0, 8, 8, 4, 0, 8, 8, 0, 4, 4, 8, 2, 0, 4, 4, 0, 2, 2, 4, 1, 0, 2, 2, 0, 1, 1, 2] : List Int)) := ⟨_, rfl⟩
  replace H : (spec_l4Passes.l0 k a0 a1 y130 ([] : List (S113)) 0) = some r := by first | (rw [hy130]; with_reducible exact H) | (have H2_ := (Option.bind_some _ _).symm.trans H; rw [hy130]; with_reducible exact H2_) | (have H2_ := (Option.bind_some _ _).symm.trans H; with_reducible exact H2_) | with_reducible exact H | (rw [hy130]; exact H) | exact H
  have Ny130 := Aside0.mk hy130
  clear hy130
  have H' := Aside0.mk H
  clear H
  go_enter Try.func86, Try.ntmps86
  go_wp2_with (first | ((with_reducible refine gate_dst (N := 9) rfl ?_); refine Kd.R_lit (Kd.int .i64) _ 3 ?hg (N := 9) ?hd (xs := ([0, 0, 8, 8, 4, 0, 8, 8, 0, 4, 4, 8, 2, 0, 4, 4, 0, 2, 2, 4, 1, 0, 2, 2, 0, 1, 1, 2] : List Int)) (inner := [.int .i64 0, .int .i64 0, .int .i64 8, .int .i64 8, .int .i64 4, .int .i64 0, .int .i64 8, .int .i64 8, .int .i64 0, .int .i64 4, .int .i64 4, .int .i64 8, .int .i64 2, .int .i64 0, .int .i64 4, .int .i64 4, .int .i64 0, .int .i64 2, .int .i64 2, .int .i64 4, .int .i64 1, .int .i64 0, .int .i64 2, .int .i64 2, .int .i64 0, .int .i64 1, .int .i64 1, .int .i64 2]) (ok := fun _ => True) (okp := fun _ => True) ?hr ?hp (fun _ hk => hk) trivial (Below.refl _ _) (Nat.le_refl _) (by simp) ?_; (case hd => rfl); (case hg => rfl); (case hr => first | (go_simp; done) | (go_simp; rfl)); (case hp => exact (Reps.one (show Kd.M (Kd.int .i64) _ _ _ 0 [.int .i64 0] from rfl) (Reps.one (show Kd.M (Kd.int .i64) _ _ _ 0 [.int .i64 0] from rfl) (Reps.one (show Kd.M (Kd.int .i64) _ _ _ 8 [.int .i64 8] from rfl) (Reps.one (show Kd.M (Kd.int .i64) _ _ _ 8 [.int .i64 8] from rfl) (Reps.one (show Kd.M (Kd.int .i64) _ _ _ 4 [.int .i64 4] from rfl) (Reps.one (show Kd.M (Kd.int .i64) _ _ _ 0 [.int .i64 0] from rfl) (Reps.one (show Kd.M (Kd.int .i64) _ _ _ 8 [.int .i64 8] from rfl) (Reps.one (show Kd.M (Kd.int .i64) _ _ _ 8 [.int .i64 8] from rfl) (Reps.one (show Kd.M (Kd.int .i64) _ _ _ 0 [.int .i64 0] from rfl) (Reps.one (show Kd.M (Kd.int .i64) _ _ _ 4 [.int .i64 4] from rfl) (Reps.one (show Kd.M (Kd.int .i64) _ _ _ 4 [.int .i64 4] from rfl) (Reps.one (show Kd.M (Kd.int .i64) _ _ _ 8 [.int .i64 8] from rfl) (Reps.one (show Kd.M (Kd.int .i64) _ _ _ 2 [.int .i64 2] from rfl) (Reps.one (show Kd.M (Kd.int .i64) _ _ _ 0 [.int .i64 0] from rfl) (Reps.one (show Kd.M (Kd.int .i64) _ _ _ 4 [.int .i64 4] from rfl) (Reps.one (show Kd.M (Kd.int .i64) _ _ _ 4 [.int .i64 4] from rfl) (Reps.one (show Kd.M (Kd.int .i64) _ _ _ 0 [.int .i64 0] from rfl) (Reps.one (show Kd.M (Kd.int .i64) _ _ _ 2 [.int .i64 2] from rfl) (Reps.one (show Kd.M (Kd.int .i64) _ _ _ 2 [.int .i64 2] from rfl) (Reps.one (show Kd.M (Kd.int .i64) _ _ _ 4 [.int .i64 4] from rfl) (Reps.one (show Kd.M (Kd.int .i64) _ _ _ 1 [.int .i64 1] from rfl) (Reps.one (show Kd.M (Kd.int .i64) _ _ _ 0 [.int .i64 0] from rfl) (Reps.one (show Kd.M (Kd.int .i64) _ _ _ 2 [.int .i64 2] from rfl) (Reps.one (show Kd.M (Kd.int .i64) _ _ _ 2 [.int .i64 2] from rfl) (Reps.one (show Kd.M (Kd.int .i64) _ _ _ 0 [.int .i64 0] from rfl) (Reps.one (show Kd.M (Kd.int .i64) _ _ _ 1 [.int .i64 1] from rfl) (Reps.one (show Kd.M (Kd.int .i64) _ _ _ 1 [.int .i64 1] from rfl) (Reps.one (show Kd.M (Kd.int .i64) _ _ _ 2 [.int .i64 2] from rfl) (Reps.none _ _)))))))))))))))))))))))))))))); intro v131 w3 ho4 hb hg_ hnew_; clear hg_ hnew_; (first | rw [← Ny130.out] at ho4 | (simp only [Int.reduceToNat] at ho4; rw [← Ny130.out] at ho4)); have n0_ := Aside0.mk (Kd.R_lower ho4 (below_size (by repeat (first | (with_reducible first | exact HB.out | apply below_alloc | apply pw_below_drewN | apply below_drew1) | exact HB.out)))); have n1_ := Aside0.mk (below_step (by repeat (first | (with_reducible first | exact HB.out | apply below_alloc | apply pw_below_drewN | apply below_drew1) | exact HB.out)) hb); clear HB; have HO132 := n0_; have HB := n1_; clear n0_ n1_; clear hb ho4))
  go_loopg [6, 7] k (fun kq v6 v7 w' => ∃ (x6_1 : List (S113)) (x7_1 : Int), v7 = .int .i64 x7_1 ∧ Aside0 (spec_l4Passes.l0 kq a0 a1 y130 x6_1 x7_1 = some r) ∧ Aside0 (kq ≤ k) ∧ Aside0 (Kd.R (Kd.int .i64) 3 w' w.heap.size (fun _ => True) v131 y130) ∧ Aside0 (Kd.R k113 113 w' w.heap.size (fun _ => True) v6 x6_1) ∧ Aside0 (Below w.heap.size w w'))
  case atStart => exact ⟨(([] : List (S113))), (0), (by first | rfl | (simp; done) | (simp [*]; done)), H', ⟨Nat.le_refl _⟩, ⟨by (with_reducible repeat (first | apply Kd.R_alloc | apply Kd.R_drewN | apply Kd.R_drew)); exact HO132.out⟩, ⟨by first | exact Kd.R_nil _ _ _ _ _ | exact Kd.N_nil _ _ _ _ _ | exact Kd.V_nil _ _ _ _ _ | exact Kd.Q_nil _ _ _ _ _ | exact Kd.S_nil _ _ _ _ _⟩, ⟨by repeat (first | (with_reducible first | exact HB.out | apply below_alloc | apply pw_below_drewN | apply below_drew1) | exact HB.out)⟩⟩
  case round =>
    clear H'
    try clear c1
    try clear p2
    obtain ⟨x6_1, x7_1, rfl, HA, HK1, HO_5, HO_6, HB⟩ := hrel
    cases gk with
    | zero => exact absurd HA.out (by simp [spec_l4Passes.l0])
    | succ k1 =>
      have H := HA.out
      clear HA
      simp only [spec_l4Passes.l0] at H
      by_cases c5 : x7_1 < (y130.length : Int)
      rotate_left
      · rw [if_neg c5] at H
        have c5b0 : decide (x7_1 < (y130.length : Int)) = false := decide_eq_false c5
        clear c5
        obtain rfl := Option.some.inj H
        obtain ⟨Ao52, co52, eo52⟩ := Kd.R_slice HO_5.out
        subst eo52
        go_wp2
        go_ret
        exact ⟨_, by first | rfl | (simp [errW_none, errW_some] <;> rfl) | (simp [*, errW_none, errW_some] <;> rfl), by (with_reducible repeat (first | apply Kd.R_alloc | apply Kd.R_drewN | apply Kd.R_drew)); exact HO_6.out, by repeat (first | (with_reducible first | exact HB.out | apply below_alloc | apply pw_below_drewN | apply below_drew1) | exact HB.out)⟩
      rw [if_pos c5] at H
      have c5b0 : decide (x7_1 < (y130.length : Int)) = true := decide_eq_true c5
      clear c5
      by_cases c6 : 0 ≤ x7_1
      rotate_left
      · rw [if_neg c6] at H
        exact absurd H (by simp)
      rw [if_pos c6] at H
      have c6b0 : decide (0 ≤ x7_1) = true := decide_eq_true c6
      clear c6
      obtain ⟨ji7, hji7⟩ : ∃ j_ : Int, (wrap64 (x7_1 + 1)) = j_ := ⟨_, rfl⟩
      replace H : (if 0 ≤ (ji7) then (if (ji7) < (y130.length : Int) then (if 0 ≤ (wrap64 (x7_1 + 2)) then (if (wrap64 (x7_1 + 2)) < (y130.length : Int) then (if 0 ≤ (wrap64 (x7_1 + 3)) then (if (wrap64 (x7_1 + 3)) < (y130.length : Int) then ((spec_l4Count.f a0 (rd y130 x7_1) (rd y130 (wrap64 (x7_1 + 2)))).bind fun t138 => ((spec_l4Count.f a1 (rd y130 (ji7)) (rd y130 (wrap64 (x7_1 + 3)))).bind fun t139 => (if t138 > 0 then (if t139 > 0 then (if x6_1.length < 2932031007402 then (spec_l4Passes.l0 k1 a0 a1 y130 (x6_1 ++ [(⟨rd y130 x7_1, rd y130 (ji7), rd y130 (wrap64 (x7_1 + 2)), rd y130 (wrap64 (x7_1 + 3)), t138, t139⟩ : S113)]) (wrap64 (x7_1 + 4))) else (none)) else (spec_l4Passes.l0 k1 a0 a1 y130 x6_1 (wrap64 (x7_1 + 4)))) else (spec_l4Passes.l0 k1 a0 a1 y130 x6_1 (wrap64 (x7_1 + 4)))))) else (none)) else (none)) else (none)) else (none)) else (none)) else (none)) = some r := by first | (rw [hji7] at H; exact H) | (simp only [hji7] at H ⊢; exact H)
      have hji7w : (IntKind.i64.wrap (x7_1 + 1)) = ji7 := (i64_w _).trans hji7
      by_cases c8 : 0 ≤ (ji7)
      rotate_left
      · rw [if_neg c8] at H
        exact absurd H (by simp)
      rw [if_pos c8] at H
      have c8b0 : decide (0 ≤ (ji7)) = true := decide_eq_true c8
      clear c8
      by_cases c9 : (ji7) < (y130.length : Int)
      rotate_left
      · rw [if_neg c9] at H
        exact absurd H (by simp)
      rw [if_pos c9] at H
      have c9b0 : decide ((ji7) < (y130.length : Int)) = true := decide_eq_true c9
      clear c9
      obtain ⟨ji10, hji10⟩ : ∃ j_ : Int, (wrap64 (x7_1 + 2)) = j_ := ⟨_, rfl⟩
      replace H : (if 0 ≤ (ji10) then (if (ji10) < (y130.length : Int) then (if 0 ≤ (wrap64 (x7_1 + 3)) then (if (wrap64 (x7_1 + 3)) < (y130.length : Int) then ((spec_l4Count.f a0 (rd y130 x7_1) (rd y130 (ji10))).bind fun t138 => ((spec_l4Count.f a1 (rd y130 (ji7)) (rd y130 (wrap64 (x7_1 + 3)))).bind fun t139 => (if t138 > 0 then (if t139 > 0 then (if x6_1.length < 2932031007402 then (spec_l4Passes.l0 k1 a0 a1 y130 (x6_1 ++ [(⟨rd y130 x7_1, rd y130 (ji7), rd y130 (ji10), rd y130 (wrap64 (x7_1 + 3)), t138, t139⟩ : S113)]) (wrap64 (x7_1 + 4))) else (none)) else (spec_l4Passes.l0 k1 a0 a1 y130 x6_1 (wrap64 (x7_1 + 4)))) else (spec_l4Passes.l0 k1 a0 a1 y130 x6_1 (wrap64 (x7_1 + 4)))))) else (none)) else (none)) else (none)) else (none)) = some r := by first | (rw [hji10] at H; exact H) | (simp only [hji10] at H ⊢; exact H)
      have hji10w : (IntKind.i64.wrap (x7_1 + 2)) = ji10 := (i64_w _).trans hji10
      by_cases c11 : 0 ≤ (ji10)
      rotate_left
      · rw [if_neg c11] at H
        exact absurd H (by simp)
      rw [if_pos c11] at H
      have c11b0 : decide (0 ≤ (ji10)) = true := decide_eq_true c11
      clear c11
      by_cases c12 : (ji10) < (y130.length : Int)
      rotate_left
      · rw [if_neg c12] at H
        exact absurd H (by simp)
      rw [if_pos c12] at H
      have c12b0 : decide ((ji10) < (y130.length : Int)) = true := decide_eq_true c12
      clear c12
      obtain ⟨ji13, hji13⟩ : ∃ j_ : Int, (wrap64 (x7_1 + 3)) = j_ := ⟨_, rfl⟩
      replace H : (if 0 ≤ (ji13) then (if (ji13) < (y130.length : Int) then ((spec_l4Count.f a0 (rd y130 x7_1) (rd y130 (ji10))).bind fun t138 => ((spec_l4Count.f a1 (rd y130 (ji7)) (rd y130 (ji13))).bind fun t139 => (if t138 > 0 then (if t139 > 0 then (if x6_1.length < 2932031007402 then (spec_l4Passes.l0 k1 a0 a1 y130 (x6_1 ++ [(⟨rd y130 x7_1, rd y130 (ji7), rd y130 (ji10), rd y130 (ji13), t138, t139⟩ : S113)]) (wrap64 (x7_1 + 4))) else (none)) else (spec_l4Passes.l0 k1 a0 a1 y130 x6_1 (wrap64 (x7_1 + 4)))) else (spec_l4Passes.l0 k1 a0 a1 y130 x6_1 (wrap64 (x7_1 + 4)))))) else (none)) else (none)) = some r := by first | (rw [hji13] at H; exact H) | (simp only [hji13] at H ⊢; exact H)
      have hji13w : (IntKind.i64.wrap (x7_1 + 3)) = ji13 := (i64_w _).trans hji13
      by_cases c14 : 0 ≤ (ji13)
      rotate_left
      · rw [if_neg c14] at H
        exact absurd H (by simp)
      rw [if_pos c14] at H
      have c14b0 : decide (0 ≤ (ji13)) = true := decide_eq_true c14
      clear c14
      by_cases c15 : (ji13) < (y130.length : Int)
      rotate_left
      · rw [if_neg c15] at H
        exact absurd H (by simp)
      rw [if_pos c15] at H
      have c15b0 : decide ((ji13) < (y130.length : Int)) = true := decide_eq_true c15
      clear c15
      replace H := Option.bind_eq_some_iff.mp H
      obtain ⟨t138, A160, H⟩ := H
      replace H : ((spec_l4Count.f a1 (rd y130 (ji7)) (rd y130 (ji13))).bind fun t139 => (if t138 > 0 then (if t139 > 0 then (if x6_1.length < 2932031007402 then (spec_l4Passes.l0 k1 a0 a1 y130 (x6_1 ++ [(⟨rd y130 x7_1, rd y130 (ji7), rd y130 (ji10), rd y130 (ji13), t138, t139⟩ : S113)]) (wrap64 (x7_1 + 4))) else (none)) else (spec_l4Passes.l0 k1 a0 a1 y130 x6_1 (wrap64 (x7_1 + 4)))) else (spec_l4Passes.l0 k1 a0 a1 y130 x6_1 (wrap64 (x7_1 + 4))))) = some r := H
      have A16 := Aside0.mk A160
      clear A160
      replace H := Option.bind_eq_some_iff.mp H
      obtain ⟨t139, A170, H⟩ := H
      replace H : (if t138 > 0 then (if t139 > 0 then (if x6_1.length < 2932031007402 then (spec_l4Passes.l0 k1 a0 a1 y130 (x6_1 ++ [(⟨rd y130 x7_1, rd y130 (ji7), rd y130 (ji10), rd y130 (ji13), t138, t139⟩ : S113)]) (wrap64 (x7_1 + 4))) else (none)) else (spec_l4Passes.l0 k1 a0 a1 y130 x6_1 (wrap64 (x7_1 + 4)))) else (spec_l4Passes.l0 k1 a0 a1 y130 x6_1 (wrap64 (x7_1 + 4)))) = some r := H
      have A17 := Aside0.mk A170
      clear A170
      by_cases c18 : t138 > 0
      rw [if_pos c18] at H
      have c18b0 : decide (0 < t138) = true := decide_eq_true c18
      clear c18
      by_cases c19 : t139 > 0
      rw [if_pos c19] at H
      have c19b0 : decide (0 < t139) = true := decide_eq_true c19
      clear c19
      by_cases c20 : x6_1.length < 2932031007402
      rw [if_pos c20] at H
      have LMc20 := Aside0.mk c20
      clear c20
      obtain ⟨y140, hy140⟩ : ∃ y_ : List (S113), y_ = (x6_1 ++ [(⟨rd y130 x7_1, rd y130 (ji7), rd y130 (ji10), rd y130 (ji13), t138, t139⟩ : S113)]) := ⟨_, rfl⟩
      replace H : (spec_l4Passes.l0 k1 a0 a1 y130 y140 (wrap64 (x7_1 + 4))) = some r := by first | (rw [hy140]; with_reducible exact H) | (have H2_ := (Option.bind_some _ _).symm.trans H; rw [hy140]; with_reducible exact H2_) | (have H2_ := (Option.bind_some _ _).symm.trans H; with_reducible exact H2_) | with_reducible exact H | (rw [hy140]; exact H) | exact H
      have Ny140 := Aside0.mk hy140
      clear hy140
      have H' := Aside0.mk H
      clear H
      rotate_left
      · rw [if_neg c20] at H
        exact absurd H (by simp)
      rw [if_neg c19] at H
      have c19b0 : decide (0 < t139) = false := decide_eq_false c19
      clear c19
      have H' := Aside0.mk H
      clear H
      rotate_left
      rw [if_neg c18] at H
      have c18b0 : decide (0 < t138) = false := decide_eq_false c18
      clear c18
      have H' := Aside0.mk H
      clear H
      all_goals
        obtain ⟨Ao21, co21, eo21⟩ := Kd.R_slice HO_5.out
        subst eo21
        try go_wp2
        have n0_ := Aside0.mk (Kd.R_drew HO_5.out)
        have n1_ := Aside0.mk (Kd.R_drew HO_6.out)
        have n2_ := Aside0.mk (below_drew1 HB.out)
        clear HO_5
        clear HO_6
        clear HB
        have HO_5 := n0_
        have HO_6 := n1_
        have HB := n2_
        clear n0_ n1_ n2_
        have p133 : 0 ≤ (x7_1 : Int) := of_decide_eq_true (by first | (with_reducible assumption) | assumption)
        have q133 : x7_1 < (y130.length : Int) := of_decide_eq_true (by first | (with_reducible assumption) | assumption)
        obtain ⟨ad133, e133, hx133_0⟩ := Kd.at_int (Kd.R_reads' HO_5.out).2.2 x7_1 p133 q133
        cases e133
        replace p133 := eq_true p133
        replace q133 := eq_true q133
        have p134 : 0 ≤ ((ji7) : Int) := of_decide_eq_true (by first | (with_reducible assumption) | assumption)
        have q134 : (ji7) < (y130.length : Int) := of_decide_eq_true (by first | (with_reducible assumption) | assumption)
        obtain ⟨ad134, e134, hx134_0⟩ := Kd.at_int (Kd.R_reads' HO_5.out).2.2 (ji7) p134 q134
        obtain rfl : ad133 = ad134 := (by injection e134)
        replace p134 := eq_true p134
        replace q134 := eq_true q134
        have p135 : 0 ≤ ((ji10) : Int) := of_decide_eq_true (by first | (with_reducible assumption) | assumption)
        have q135 : (ji10) < (y130.length : Int) := of_decide_eq_true (by first | (with_reducible assumption) | assumption)
        obtain ⟨ad135, e135, hx135_0⟩ := Kd.at_int (Kd.R_reads' HO_5.out).2.2 (ji10) p135 q135
        obtain rfl : ad133 = ad135 := (by injection e135)
        replace p135 := eq_true p135
        replace q135 := eq_true q135
        have p136 : 0 ≤ ((ji13) : Int) := of_decide_eq_true (by first | (with_reducible assumption) | assumption)
        have q136 : (ji13) < (y130.length : Int) := of_decide_eq_true (by first | (with_reducible assumption) | assumption)
        obtain ⟨ad136, e136, hx136_0⟩ := Kd.at_int (Kd.R_reads' HO_5.out).2.2 (ji13) p136 q136
        obtain rfl : ad133 = ad136 := (by injection e136)
        replace p136 := eq_true p136
        replace q136 := eq_true q136
        refine start_ (n := 22) (S := fun w' => w'.cell? (ad133.add (x7_1).toNat) = some (.int .i64 (rd y130 x7_1)) ∧ w'.cell? (ad133.add ((ji7)).toNat) = some (.int .i64 (rd y130 (ji7))) ∧ w'.cell? (ad133.add ((ji10)).toNat) = some (.int .i64 (rd y130 (ji10))) ∧ w'.cell? (ad133.add ((ji13)).toNat) = some (.int .i64 (rd y130 (ji13)))) (ds := []) #[false, false, false, false, false, false, false, false, false, false, false, false, false, false, false, false, false, false, false, false, false, false] (by kernel_rfl) rfl rfl ⟨hx133_0, hx134_0, hx135_0, hx136_0⟩ (fun hHeld => ?_); refine with_tabW spec_l4Passes.tab6 spec_l4Passes.bits6 (fun HT_ HW_ => ?_)
        generalize wr.drew = w22 at HO_5 HO_6 HB hx133_0 hx134_0 hx135_0 hx136_0 hHeld ⊢
        refine pure_ (i := 0) (N := some 16) (v := ?_) (a' := ?_) #[true, false, false, false, false, false, false, false, false, false, false, false, false, false, false, false, false, false, false, false, false, false] rfl rfl (any_of HT_.out (by kernel_rfl)) (fun _ _ _ h => h) (Or.inl ⟨by rfl, ?_⟩) ?_ ?_
        rotate_left
        · intro w'
          go_simp
          with_reducible rfl
        rotate_left
        · simp only [Act.put, List.setIfInBounds_toArray, List.set_cons_zero, List.set_cons_succ, i64_w, i32_w]
          rfl
        refine pure_ (i := 1) (N := some 17) (v := ?_) (a' := ?_) #[true, true, false, false, false, false, false, false, false, false, false, false, false, false, false, false, false, false, false, false, false, false] rfl rfl (any_of HT_.out (by kernel_rfl)) (fun _ _ _ h => h) (Or.inl ⟨by rfl, ?_⟩) ?_ ?_
        rotate_left
        · intro w'
          go_simp
          with_reducible rfl
        rotate_left
        · simp only [Act.put, List.setIfInBounds_toArray, List.set_cons_zero, List.set_cons_succ, i64_w, i32_w]
          rfl
        refine pure_ (i := 2) (N := some 18) (v := ?_) (a' := ?_) #[true, true, true, false, false, false, false, false, false, false, false, false, false, false, false, false, false, false, false, false, false, false] rfl rfl (any_of HT_.out (by kernel_rfl)) (fun _ _ _ h => h) (Or.inl ⟨by rfl, ?_⟩) ?_ ?_
        rotate_left
        · intro w'
          go_simp
          with_reducible rfl
        rotate_left
        · simp only [Act.put, List.setIfInBounds_toArray, List.set_cons_zero, List.set_cons_succ, i64_w, i32_w]
          rfl
        refine pure_ (i := 4) (N := some 20) (v := ?_) (a' := ?_) #[true, true, true, false, true, false, false, false, false, false, false, false, false, false, false, false, false, false, false, false, false, false] rfl rfl (any_of HT_.out (by kernel_rfl)) (fun _ _ _ h => h) (Or.inl ⟨by rfl, ?_⟩) ?_ ?_
        rotate_left
        · intro w'
          go_simp
          with_reducible rfl
        rotate_left
        · simp only [Act.put, List.setIfInBounds_toArray, List.set_cons_zero, List.set_cons_succ, i64_w, i32_w]
          rfl
        refine pure_ (i := 5) (N := some 21) (v := ?_) (a' := ?_) #[true, true, true, false, true, true, false, false, false, false, false, false, false, false, false, false, false, false, false, false, false, false] rfl rfl (any_of HT_.out (by kernel_rfl)) (fun _ _ _ h => h) (Or.inl ⟨by rfl, ?_⟩) ?_ ?_
        rotate_left
        · intro w'
          go_simp
          with_reducible rfl
        rotate_left
        · simp only [Act.put, List.setIfInBounds_toArray, List.set_cons_zero, List.set_cons_succ, i64_w, i32_w]
          rfl
        refine pure_ (i := 6) (N := some 22) (v := ?_) (a' := ?_) #[true, true, true, false, true, true, true, false, false, false, false, false, false, false, false, false, false, false, false, false, false, false] rfl rfl (any_of HT_.out (by kernel_rfl)) (fun _ _ _ h => h) (Or.inl ⟨by rfl, ?_⟩) ?_ ?_
        rotate_left
        · intro w'
          go_simp
          with_reducible rfl
        rotate_left
        · simp only [Act.put, List.setIfInBounds_toArray, List.set_cons_zero, List.set_cons_succ, i64_w, i32_w]
          rfl
        refine pure_ (i := 7) (N := some 23) (v := ?_) (a' := ?_) #[true, true, true, false, true, true, true, true, false, false, false, false, false, false, false, false, false, false, false, false, false, false] rfl rfl (any_of HT_.out (by kernel_rfl)) (fun _ _ _ h => h) (Or.inl ⟨by rfl, ?_⟩) ?_ ?_
        rotate_left
        · intro w'
          go_simp
          with_reducible rfl
        rotate_left
        · simp only [Act.put, List.setIfInBounds_toArray, List.set_cons_zero, List.set_cons_succ, i64_w, i32_w]
          rfl
        refine pure_ (i := 9) (N := some 25) (v := ?_) (a' := ?_) #[true, true, true, false, true, true, true, true, false, true, false, false, false, false, false, false, false, false, false, false, false, false] rfl rfl (any_of HT_.out (by kernel_rfl)) (fun _ _ _ h => h) (Or.inl ⟨by rfl, ?_⟩) ?_ ?_
        rotate_left
        · intro w'
          go_simp
          with_reducible rfl
        rotate_left
        · simp only [Act.put, List.setIfInBounds_toArray, List.set_cons_zero, List.set_cons_succ, i64_w, i32_w]
          rfl
        refine pure_ (i := 10) (N := some 26) (v := ?_) (a' := ?_) #[true, true, true, false, true, true, true, true, false, true, true, false, false, false, false, false, false, false, false, false, false, false] rfl rfl (any_of HT_.out (by kernel_rfl)) (fun _ _ _ h => h) (Or.inl ⟨by rfl, ?_⟩) ?_ ?_
        rotate_left
        · intro w'
          go_simp
          with_reducible rfl
        rotate_left
        · simp only [Act.put, List.setIfInBounds_toArray, List.set_cons_zero, List.set_cons_succ, i64_w, i32_w]
          rfl
        refine pure_ (i := 11) (N := some 27) (v := ?_) (a' := ?_) #[true, true, true, false, true, true, true, true, false, true, true, true, false, false, false, false, false, false, false, false, false, false] rfl rfl (any_of HT_.out (by kernel_rfl)) (fun _ _ _ h => h) (Or.inl ⟨by rfl, ?_⟩) ?_ ?_
        rotate_left
        · intro w'
          go_simp
          with_reducible rfl
        rotate_left
        · simp only [Act.put, List.setIfInBounds_toArray, List.set_cons_zero, List.set_cons_succ, i64_w, i32_w]
          rfl
        refine pure_ (i := 12) (N := some 28) (v := ?_) (a' := ?_) #[true, true, true, false, true, true, true, true, false, true, true, true, true, false, false, false, false, false, false, false, false, false] rfl rfl (any_of HT_.out (by kernel_rfl)) (fun _ _ _ h => h) (Or.inl ⟨by rfl, ?_⟩) ?_ ?_
        rotate_left
        · intro w'
          go_simp
          with_reducible rfl
        rotate_left
        · simp only [Act.put, List.setIfInBounds_toArray, List.set_cons_zero, List.set_cons_succ, i64_w, i32_w]
          rfl
        refine pure_ (i := 14) (N := some 30) (v := ?_) (a' := ?_) #[true, true, true, false, true, true, true, true, false, true, true, true, true, false, true, false, false, false, false, false, false, false] rfl rfl (any_of HT_.out (by kernel_rfl)) (fun _ _ _ h => h) (Or.inl ⟨by rfl, ?_⟩) ?_ ?_
        rotate_left
        · intro w'
          go_simp
          with_reducible rfl
        rotate_left
        · simp only [Act.put, List.setIfInBounds_toArray, List.set_cons_zero, List.set_cons_succ, i64_w, i32_w]
          rfl
        refine pure_ (i := 15) (N := some 31) (v := ?_) (a' := ?_) #[true, true, true, false, true, true, true, true, false, true, true, true, true, false, true, true, false, false, false, false, false, false] rfl rfl (any_of HT_.out (by kernel_rfl)) (fun _ _ _ h => h) (Or.inl ⟨by rfl, ?_⟩) ?_ ?_
        rotate_left
        · intro w'
          go_simp
          with_reducible rfl
        rotate_left
        · simp only [Act.put, List.setIfInBounds_toArray, List.set_cons_zero, List.set_cons_succ, i64_w, i32_w]
          rfl
        refine pure_ (i := 16) (N := some 32) (v := ?_) (a' := ?_) #[true, true, true, false, true, true, true, true, false, true, true, true, true, false, true, true, true, false, false, false, false, false] rfl rfl (any_of HT_.out (by kernel_rfl)) (fun _ _ _ h => h) (Or.inl ⟨by rfl, ?_⟩) ?_ ?_
        rotate_left
        · intro w'
          go_simp
          with_reducible rfl
        rotate_left
        · simp only [Act.put, List.setIfInBounds_toArray, List.set_cons_zero, List.set_cons_succ, i64_w, i32_w]
          rfl
        refine pure_ (i := 17) (N := some 33) (v := ?_) (a' := ?_) #[true, true, true, false, true, true, true, true, false, true, true, true, true, false, true, true, true, true, false, false, false, false] rfl rfl (any_of HT_.out (by kernel_rfl)) (fun _ _ _ h => h) (Or.inl ⟨by rfl, ?_⟩) ?_ ?_
        rotate_left
        · intro w'
          go_simp
          with_reducible rfl
        rotate_left
        · simp only [Act.put, List.setIfInBounds_toArray, List.set_cons_zero, List.set_cons_succ, i64_w, i32_w]
          rfl
        refine take_ (i := 3) (N := some 19) (v := ?_) (a' := ?_) #[true, true, true, true, true, true, true, true, false, true, true, true, true, false, true, true, true, true, false, false, false, false] rfl rfl (take_ofW HT_.out HW_.out (by kernel_rfl)) (fun _ _ _ h => h) (Or.inl ⟨by rfl, ?_⟩) hHeld ?_ ?_
        rotate_left
        · rintro w' ⟨s0, s1, s2, s3⟩
          go_simp
          with_reducible rfl
        rotate_left
        · simp only [Act.put, List.setIfInBounds_toArray, List.set_cons_zero, List.set_cons_succ, i64_w, i32_w]
          rfl
        refine take_ (i := 8) (N := some 24) (v := ?_) (a' := ?_) #[true, true, true, true, true, true, true, true, true, true, true, true, true, false, true, true, true, true, false, false, false, false] rfl rfl (take_ofW HT_.out HW_.out (by kernel_rfl)) (fun _ _ _ h => h) (Or.inl ⟨by rfl, ?_⟩) hHeld ?_ ?_
        rotate_left
        · rintro w' ⟨s0, s1, s2, s3⟩
          go_simp
          with_reducible rfl
        rotate_left
        · simp only [Act.put, List.setIfInBounds_toArray, List.set_cons_zero, List.set_cons_succ, i64_w, i32_w]
          rfl
        refine take_ (i := 13) (N := some 29) (v := ?_) (a' := ?_) #[true, true, true, true, true, true, true, true, true, true, true, true, true, true, true, true, true, true, false, false, false, false] rfl rfl (take_ofW HT_.out HW_.out (by kernel_rfl)) (fun _ _ _ h => h) (Or.inl ⟨by rfl, ?_⟩) hHeld ?_ ?_
        rotate_left
        · rintro w' ⟨s0, s1, s2, s3⟩
          go_simp
          with_reducible rfl
        rotate_left
        · simp only [Act.put, List.setIfInBounds_toArray, List.set_cons_zero, List.set_cons_succ, i64_w, i32_w]
          rfl
        refine take_ (i := 18) (N := some 34) (v := ?_) (a' := ?_) #[true, true, true, true, true, true, true, true, true, true, true, true, true, true, true, true, true, true, true, false, false, false] rfl rfl (take_ofW HT_.out HW_.out (by kernel_rfl)) (fun _ _ _ h => h) (Or.inl ⟨by rfl, ?_⟩) hHeld ?_ ?_
        rotate_left
        · rintro w' ⟨s0, s1, s2, s3⟩
          go_simp
          with_reducible rfl
        rotate_left
        · simp only [Act.put, List.setIfInBounds_toArray, List.set_cons_zero, List.set_cons_succ, i64_w, i32_w]
          rfl
        refine pure_ (i := 19) (N := some 35) (v := ?_) (a' := ?_) #[true, true, true, true, true, true, true, true, true, true, true, true, true, true, true, true, true, true, true, true, false, false] rfl rfl (any_of HT_.out (by kernel_rfl)) (fun _ _ _ h => h) (Or.inl ⟨by rfl, ?_⟩) ?_ ?_
        rotate_left
        · intro w'
          go_simp
          with_reducible rfl
        rotate_left
        · simp only [Act.put, List.setIfInBounds_toArray, List.set_cons_zero, List.set_cons_succ, i64_w, i32_w]
          rfl
        refine one_ (i := 20) (N := some 8) #[true, true, true, true, true, true, true, true, true, true, true, true, true, true, true, true, true, true, true, true, true, false] rfl rfl (one_of HT_.out (by kernel_rfl)) (by decide) (fun K hK => ?_)
        refine box_step ?hg (N := 8) ?hd (cs := #[.int .i64 0, .int .i64 0, .int .i64 0, .int .i64 0, .int .i64 0, .int .i64 0]) (t := 113) ?hr ?_; (case hd => rfl); (case hg => rfl); (case hr => first | (go_simp; done) | (go_simp; rfl))
        intro gb137 hg w23 hbox hb
        have HS0_ := (hb.cell (World.block_lt_of_cell? _ _ (hHeld.1))).trans (hHeld.1)
        have HS1_ := (hb.cell (World.block_lt_of_cell? _ _ (hHeld.2.1))).trans (hHeld.2.1)
        have HS2_ := (hb.cell (World.block_lt_of_cell? _ _ (hHeld.2.2.1))).trans (hHeld.2.2.1)
        have HS3_ := (hb.cell (World.block_lt_of_cell? _ _ (hHeld.2.2.2))).trans (hHeld.2.2.2)
        have n0_ := Aside0.mk (Kd.R_below (by (with_reducible repeat (first | apply Kd.R_alloc | apply Kd.R_drewN | apply Kd.R_drew)); exact HO_5.out) hb)
        have n1_ := Aside0.mk (Kd.R_below (Kd.R_elderB (by (with_reducible repeat (first | apply Kd.R_alloc | apply Kd.R_drewN | apply Kd.R_drew)); exact HO_6.out) gb137 (Nat.le_of_eq hg.symm)) hb)
        have n2_ := Aside0.mk (below_step (by repeat (first | (with_reducible first | exact HB.out | apply below_alloc | apply pw_below_drewN | apply below_drew1) | exact HB.out)) hb)
        have n3_ := Aside0.mk (hbox)
        have n4_ := Aside0.mk ((by rw [hg]; exact (below_size (by repeat (first | (with_reducible first | exact HB.out | apply below_alloc | apply pw_below_drewN | apply below_drew1) | exact HB.out))) : w.heap.size ≤ gb137))
        have n5_ := Aside0.mk ((by rw [hg]; exact (below_size (by repeat (first | (with_reducible first | exact HB.out | apply below_alloc | apply pw_below_drewN | apply below_drew1) | exact HB.out))) : w.heap.size ≤ gb137))
        clear HO_5
        clear HO_6
        clear HB
        have HO_5 := n0_
        have HO_6 := n1_
        have HB := n2_
        have BK137 := n3_
        have GW137 := n4_
        have GE137 := n5_
        clear n0_ n1_ n2_ n3_ n4_ n5_
        clear hb hbox hg
        refine hK.out _ _ ⟨HS0_, HS1_, HS2_, HS3_⟩ (fun hHeld => ?_)
        clear hK K
        refine norm_ (a' := ?_) ?_ ?_
        rotate_left
        · show Act.put _ (some 8) _ = _
          simp only [Act.put, List.setIfInBounds_toArray, List.set_cons_zero, List.set_cons_succ, i64_w, i32_w]
          rfl
        refine one_ (i := 21) (N := none) #[true, true, true, true, true, true, true, true, true, true, true, true, true, true, true, true, true, true, true, true, true, true] rfl rfl (one_of HT_.out (by kernel_rfl)) (by decide) (fun K hK => ?_)
        have hs24 : w23.cell? ⟨gb137, 0, none⟩ = some (.int .i64 0) := (blk_cell BK137.out 0).trans rfl
        have hfs24 := blk_frozen BK137.out 0
        have hs25 : w23.cell? ⟨gb137, 1, none⟩ = some (.int .i64 0) := (blk_cell BK137.out 1).trans rfl
        have hfs25 := blk_frozen BK137.out 1
        have hs26 : w23.cell? ⟨gb137, 2, none⟩ = some (.int .i64 0) := (blk_cell BK137.out 2).trans rfl
        have hfs26 := blk_frozen BK137.out 2
        have hs27 : w23.cell? ⟨gb137, 3, none⟩ = some (.int .i64 0) := (blk_cell BK137.out 3).trans rfl
        have hfs27 := blk_frozen BK137.out 3
        have hs28 : w23.cell? ⟨gb137, 4, none⟩ = some (.int .i64 0) := (blk_cell BK137.out 4).trans rfl
        have hfs28 := blk_frozen BK137.out 4
        have hs29 : w23.cell? ⟨gb137, 5, none⟩ = some (.int .i64 0) := (blk_cell BK137.out 5).trans rfl
        have hfs29 := blk_frozen BK137.out 5
        refine skip_ (w1 := ?_) (by rfl) rfl ?_ ?_
        rotate_left
        · go_simp
          rfl
        refine hK.out _ _ ⟨((cell_far (p := ⟨gb137, _, none⟩) (by first | exact Kd.own_blk (Kd.R_ne HO_5.out BK137.out (by decide)) | (rw [add_block]; exact Kd.own_blk (Kd.R_ne HO_5.out BK137.out (by decide))) | (show (Addr.add _ _).block ≠ _; rw [add_block]; exact Kd.own_blk (Kd.R_ne HO_5.out BK137.out (by decide))) | (dsimp only; exact Kd.own_blk (Kd.R_ne HO_5.out BK137.out (by decide)))) _).trans (((cell_far (p := ⟨gb137, _, none⟩) (by first | exact Kd.own_blk (Kd.R_ne HO_5.out BK137.out (by decide)) | (rw [add_block]; exact Kd.own_blk (Kd.R_ne HO_5.out BK137.out (by decide))) | (show (Addr.add _ _).block ≠ _; rw [add_block]; exact Kd.own_blk (Kd.R_ne HO_5.out BK137.out (by decide))) | (dsimp only; exact Kd.own_blk (Kd.R_ne HO_5.out BK137.out (by decide)))) _).trans (((cell_far (p := ⟨gb137, _, none⟩) (by first | exact Kd.own_blk (Kd.R_ne HO_5.out BK137.out (by decide)) | (rw [add_block]; exact Kd.own_blk (Kd.R_ne HO_5.out BK137.out (by decide))) | (show (Addr.add _ _).block ≠ _; rw [add_block]; exact Kd.own_blk (Kd.R_ne HO_5.out BK137.out (by decide))) | (dsimp only; exact Kd.own_blk (Kd.R_ne HO_5.out BK137.out (by decide)))) _).trans (((cell_far (p := ⟨gb137, _, none⟩) (by first | exact Kd.own_blk (Kd.R_ne HO_5.out BK137.out (by decide)) | (rw [add_block]; exact Kd.own_blk (Kd.R_ne HO_5.out BK137.out (by decide))) | (show (Addr.add _ _).block ≠ _; rw [add_block]; exact Kd.own_blk (Kd.R_ne HO_5.out BK137.out (by decide))) | (dsimp only; exact Kd.own_blk (Kd.R_ne HO_5.out BK137.out (by decide)))) _).trans (((cell_far (p := ⟨gb137, _, none⟩) (by first | exact Kd.own_blk (Kd.R_ne HO_5.out BK137.out (by decide)) | (rw [add_block]; exact Kd.own_blk (Kd.R_ne HO_5.out BK137.out (by decide))) | (show (Addr.add _ _).block ≠ _; rw [add_block]; exact Kd.own_blk (Kd.R_ne HO_5.out BK137.out (by decide))) | (dsimp only; exact Kd.own_blk (Kd.R_ne HO_5.out BK137.out (by decide)))) _).trans (((cell_far (p := ⟨gb137, _, none⟩) (by first | exact Kd.own_blk (Kd.R_ne HO_5.out BK137.out (by decide)) | (rw [add_block]; exact Kd.own_blk (Kd.R_ne HO_5.out BK137.out (by decide))) | (show (Addr.add _ _).block ≠ _; rw [add_block]; exact Kd.own_blk (Kd.R_ne HO_5.out BK137.out (by decide))) | (dsimp only; exact Kd.own_blk (Kd.R_ne HO_5.out BK137.out (by decide)))) _).trans (hHeld.1)))))))))))), ((cell_far (p := ⟨gb137, _, none⟩) (by first | exact Kd.own_blk (Kd.R_ne HO_5.out BK137.out (by decide)) | (rw [add_block]; exact Kd.own_blk (Kd.R_ne HO_5.out BK137.out (by decide))) | (show (Addr.add _ _).block ≠ _; rw [add_block]; exact Kd.own_blk (Kd.R_ne HO_5.out BK137.out (by decide))) | (dsimp only; exact Kd.own_blk (Kd.R_ne HO_5.out BK137.out (by decide)))) _).trans (((cell_far (p := ⟨gb137, _, none⟩) (by first | exact Kd.own_blk (Kd.R_ne HO_5.out BK137.out (by decide)) | (rw [add_block]; exact Kd.own_blk (Kd.R_ne HO_5.out BK137.out (by decide))) | (show (Addr.add _ _).block ≠ _; rw [add_block]; exact Kd.own_blk (Kd.R_ne HO_5.out BK137.out (by decide))) | (dsimp only; exact Kd.own_blk (Kd.R_ne HO_5.out BK137.out (by decide)))) _).trans (((cell_far (p := ⟨gb137, _, none⟩) (by first | exact Kd.own_blk (Kd.R_ne HO_5.out BK137.out (by decide)) | (rw [add_block]; exact Kd.own_blk (Kd.R_ne HO_5.out BK137.out (by decide))) | (show (Addr.add _ _).block ≠ _; rw [add_block]; exact Kd.own_blk (Kd.R_ne HO_5.out BK137.out (by decide))) | (dsimp only; exact Kd.own_blk (Kd.R_ne HO_5.out BK137.out (by decide)))) _).trans (((cell_far (p := ⟨gb137, _, none⟩) (by first | exact Kd.own_blk (Kd.R_ne HO_5.out BK137.out (by decide)) | (rw [add_block]; exact Kd.own_blk (Kd.R_ne HO_5.out BK137.out (by decide))) | (show (Addr.add _ _).block ≠ _; rw [add_block]; exact Kd.own_blk (Kd.R_ne HO_5.out BK137.out (by decide))) | (dsimp only; exact Kd.own_blk (Kd.R_ne HO_5.out BK137.out (by decide)))) _).trans (((cell_far (p := ⟨gb137, _, none⟩) (by first | exact Kd.own_blk (Kd.R_ne HO_5.out BK137.out (by decide)) | (rw [add_block]; exact Kd.own_blk (Kd.R_ne HO_5.out BK137.out (by decide))) | (show (Addr.add _ _).block ≠ _; rw [add_block]; exact Kd.own_blk (Kd.R_ne HO_5.out BK137.out (by decide))) | (dsimp only; exact Kd.own_blk (Kd.R_ne HO_5.out BK137.out (by decide)))) _).trans (((cell_far (p := ⟨gb137, _, none⟩) (by first | exact Kd.own_blk (Kd.R_ne HO_5.out BK137.out (by decide)) | (rw [add_block]; exact Kd.own_blk (Kd.R_ne HO_5.out BK137.out (by decide))) | (show (Addr.add _ _).block ≠ _; rw [add_block]; exact Kd.own_blk (Kd.R_ne HO_5.out BK137.out (by decide))) | (dsimp only; exact Kd.own_blk (Kd.R_ne HO_5.out BK137.out (by decide)))) _).trans (hHeld.2.1)))))))))))), ((cell_far (p := ⟨gb137, _, none⟩) (by first | exact Kd.own_blk (Kd.R_ne HO_5.out BK137.out (by decide)) | (rw [add_block]; exact Kd.own_blk (Kd.R_ne HO_5.out BK137.out (by decide))) | (show (Addr.add _ _).block ≠ _; rw [add_block]; exact Kd.own_blk (Kd.R_ne HO_5.out BK137.out (by decide))) | (dsimp only; exact Kd.own_blk (Kd.R_ne HO_5.out BK137.out (by decide)))) _).trans (((cell_far (p := ⟨gb137, _, none⟩) (by first | exact Kd.own_blk (Kd.R_ne HO_5.out BK137.out (by decide)) | (rw [add_block]; exact Kd.own_blk (Kd.R_ne HO_5.out BK137.out (by decide))) | (show (Addr.add _ _).block ≠ _; rw [add_block]; exact Kd.own_blk (Kd.R_ne HO_5.out BK137.out (by decide))) | (dsimp only; exact Kd.own_blk (Kd.R_ne HO_5.out BK137.out (by decide)))) _).trans (((cell_far (p := ⟨gb137, _, none⟩) (by first | exact Kd.own_blk (Kd.R_ne HO_5.out BK137.out (by decide)) | (rw [add_block]; exact Kd.own_blk (Kd.R_ne HO_5.out BK137.out (by decide))) | (show (Addr.add _ _).block ≠ _; rw [add_block]; exact Kd.own_blk (Kd.R_ne HO_5.out BK137.out (by decide))) | (dsimp only; exact Kd.own_blk (Kd.R_ne HO_5.out BK137.out (by decide)))) _).trans (((cell_far (p := ⟨gb137, _, none⟩) (by first | exact Kd.own_blk (Kd.R_ne HO_5.out BK137.out (by decide)) | (rw [add_block]; exact Kd.own_blk (Kd.R_ne HO_5.out BK137.out (by decide))) | (show (Addr.add _ _).block ≠ _; rw [add_block]; exact Kd.own_blk (Kd.R_ne HO_5.out BK137.out (by decide))) | (dsimp only; exact Kd.own_blk (Kd.R_ne HO_5.out BK137.out (by decide)))) _).trans (((cell_far (p := ⟨gb137, _, none⟩) (by first | exact Kd.own_blk (Kd.R_ne HO_5.out BK137.out (by decide)) | (rw [add_block]; exact Kd.own_blk (Kd.R_ne HO_5.out BK137.out (by decide))) | (show (Addr.add _ _).block ≠ _; rw [add_block]; exact Kd.own_blk (Kd.R_ne HO_5.out BK137.out (by decide))) | (dsimp only; exact Kd.own_blk (Kd.R_ne HO_5.out BK137.out (by decide)))) _).trans (((cell_far (p := ⟨gb137, _, none⟩) (by first | exact Kd.own_blk (Kd.R_ne HO_5.out BK137.out (by decide)) | (rw [add_block]; exact Kd.own_blk (Kd.R_ne HO_5.out BK137.out (by decide))) | (show (Addr.add _ _).block ≠ _; rw [add_block]; exact Kd.own_blk (Kd.R_ne HO_5.out BK137.out (by decide))) | (dsimp only; exact Kd.own_blk (Kd.R_ne HO_5.out BK137.out (by decide)))) _).trans (hHeld.2.2.1)))))))))))), ((cell_far (p := ⟨gb137, _, none⟩) (by first | exact Kd.own_blk (Kd.R_ne HO_5.out BK137.out (by decide)) | (rw [add_block]; exact Kd.own_blk (Kd.R_ne HO_5.out BK137.out (by decide))) | (show (Addr.add _ _).block ≠ _; rw [add_block]; exact Kd.own_blk (Kd.R_ne HO_5.out BK137.out (by decide))) | (dsimp only; exact Kd.own_blk (Kd.R_ne HO_5.out BK137.out (by decide)))) _).trans (((cell_far (p := ⟨gb137, _, none⟩) (by first | exact Kd.own_blk (Kd.R_ne HO_5.out BK137.out (by decide)) | (rw [add_block]; exact Kd.own_blk (Kd.R_ne HO_5.out BK137.out (by decide))) | (show (Addr.add _ _).block ≠ _; rw [add_block]; exact Kd.own_blk (Kd.R_ne HO_5.out BK137.out (by decide))) | (dsimp only; exact Kd.own_blk (Kd.R_ne HO_5.out BK137.out (by decide)))) _).trans (((cell_far (p := ⟨gb137, _, none⟩) (by first | exact Kd.own_blk (Kd.R_ne HO_5.out BK137.out (by decide)) | (rw [add_block]; exact Kd.own_blk (Kd.R_ne HO_5.out BK137.out (by decide))) | (show (Addr.add _ _).block ≠ _; rw [add_block]; exact Kd.own_blk (Kd.R_ne HO_5.out BK137.out (by decide))) | (dsimp only; exact Kd.own_blk (Kd.R_ne HO_5.out BK137.out (by decide)))) _).trans (((cell_far (p := ⟨gb137, _, none⟩) (by first | exact Kd.own_blk (Kd.R_ne HO_5.out BK137.out (by decide)) | (rw [add_block]; exact Kd.own_blk (Kd.R_ne HO_5.out BK137.out (by decide))) | (show (Addr.add _ _).block ≠ _; rw [add_block]; exact Kd.own_blk (Kd.R_ne HO_5.out BK137.out (by decide))) | (dsimp only; exact Kd.own_blk (Kd.R_ne HO_5.out BK137.out (by decide)))) _).trans (((cell_far (p := ⟨gb137, _, none⟩) (by first | exact Kd.own_blk (Kd.R_ne HO_5.out BK137.out (by decide)) | (rw [add_block]; exact Kd.own_blk (Kd.R_ne HO_5.out BK137.out (by decide))) | (show (Addr.add _ _).block ≠ _; rw [add_block]; exact Kd.own_blk (Kd.R_ne HO_5.out BK137.out (by decide))) | (dsimp only; exact Kd.own_blk (Kd.R_ne HO_5.out BK137.out (by decide)))) _).trans (((cell_far (p := ⟨gb137, _, none⟩) (by first | exact Kd.own_blk (Kd.R_ne HO_5.out BK137.out (by decide)) | (rw [add_block]; exact Kd.own_blk (Kd.R_ne HO_5.out BK137.out (by decide))) | (show (Addr.add _ _).block ≠ _; rw [add_block]; exact Kd.own_blk (Kd.R_ne HO_5.out BK137.out (by decide))) | (dsimp only; exact Kd.own_blk (Kd.R_ne HO_5.out BK137.out (by decide)))) _).trans (hHeld.2.2.2))))))))))))⟩ (fun hHeld => ?_)
        clear hK K
        refine done_ (done_of HT_.out (by kernel_rfl)) ?_
        clear hHeld
        (try clear hx133_0)
        have n5_ := Aside0.mk (Kd.R_far (p := ⟨gb137, 5, none⟩) (Kd.R_far (p := ⟨gb137, 4, none⟩) (Kd.R_far (p := ⟨gb137, 3, none⟩) (Kd.R_far (p := ⟨gb137, 2, none⟩) (Kd.R_far (p := ⟨gb137, 1, none⟩) (Kd.R_far (p := ⟨gb137, 0, none⟩) (Kd.R_types HO_5.out BK137.out (by decide)) (fun _ hk => hk.2) (.int .i64 (rd y130 x7_1))) (fun _ hk => hk.2) (.int .i64 (rd y130 (ji7)))) (fun _ hk => hk.2) (.int .i64 (rd y130 (ji10)))) (fun _ hk => hk.2) (.int .i64 (rd y130 (ji13)))) (fun _ hk => hk.2) (.int .i64 0)) (fun _ hk => hk.2) (.int .i64 0))
        have n6_ := Aside0.mk (Kd.R_far (p := ⟨gb137, 5, none⟩) (Kd.R_far (p := ⟨gb137, 4, none⟩) (Kd.R_far (p := ⟨gb137, 3, none⟩) (Kd.R_far (p := ⟨gb137, 2, none⟩) (Kd.R_far (p := ⟨gb137, 1, none⟩) (Kd.R_far (p := ⟨gb137, 0, none⟩) HO_6.out (fun _ hk => hk.2) (.int .i64 (rd y130 x7_1))) (fun _ hk => hk.2) (.int .i64 (rd y130 (ji7)))) (fun _ hk => hk.2) (.int .i64 (rd y130 (ji10)))) (fun _ hk => hk.2) (.int .i64 (rd y130 (ji13)))) (fun _ hk => hk.2) (.int .i64 0)) (fun _ hk => hk.2) (.int .i64 0))
        have nB_ := Aside0.mk (show Below w.heap.size w (World.setCell (World.setCell (World.setCell (World.setCell (World.setCell (World.setCell w23 ⟨gb137, 0, none⟩ (.int .i64 (rd y130 x7_1))) ⟨gb137, 1, none⟩ (.int .i64 (rd y130 (ji7)))) ⟨gb137, 2, none⟩ (.int .i64 (rd y130 (ji10)))) ⟨gb137, 3, none⟩ (.int .i64 (rd y130 (ji13)))) ⟨gb137, 4, none⟩ (.int .i64 0)) ⟨gb137, 5, none⟩ (.int .i64 0)) from (below_set (below_set (below_set (below_set (below_set (below_set HB.out GE137.out) GE137.out) GE137.out) GE137.out) GE137.out) GE137.out))
        have nK_ := Aside0.mk (show (World.setCell (World.setCell (World.setCell (World.setCell (World.setCell (World.setCell w23 ⟨gb137, 0, none⟩ (.int .i64 (rd y130 x7_1))) ⟨gb137, 1, none⟩ (.int .i64 (rd y130 (ji7)))) ⟨gb137, 2, none⟩ (.int .i64 (rd y130 (ji10)))) ⟨gb137, 3, none⟩ (.int .i64 (rd y130 (ji13)))) ⟨gb137, 4, none⟩ (.int .i64 0)) ⟨gb137, 5, none⟩ (.int .i64 0)).heap[gb137]? = some (.cells #[.int .i64 (rd y130 x7_1), .int .i64 (rd y130 (ji7)), .int .i64 (rd y130 (ji10)), .int .i64 (rd y130 (ji13)), .int .i64 0, .int .i64 0] 113 (0, 0)) from (blk_set (blk_set (blk_set (blk_set (blk_set (blk_set BK137.out 0 (.int .i64 (rd y130 x7_1))) 1 (.int .i64 (rd y130 (ji7)))) 2 (.int .i64 (rd y130 (ji10)))) 3 (.int .i64 (rd y130 (ji13)))) 4 (.int .i64 0)) 5 (.int .i64 0)))
        clear HO_5 HO_6 HB BK137
        generalize (World.setCell (World.setCell (World.setCell (World.setCell (World.setCell (World.setCell w23 ⟨gb137, 0, none⟩ (.int .i64 (rd y130 x7_1))) ⟨gb137, 1, none⟩ (.int .i64 (rd y130 (ji7)))) ⟨gb137, 2, none⟩ (.int .i64 (rd y130 (ji10)))) ⟨gb137, 3, none⟩ (.int .i64 (rd y130 (ji13)))) ⟨gb137, 4, none⟩ (.int .i64 0)) ⟨gb137, 5, none⟩ (.int .i64 0)) = wz1 at n5_ n6_ nB_ nK_ ⊢
        have HO_5 := n5_
        have HO_6 := n6_
        have HB := nB_
        have BK137 := nK_
        clear n5_ n6_ nB_ nK_
        have hcz_0 : wz1.cell? ⟨gb137, 0, none⟩ = some (.int .i64 (rd y130 x7_1)) := (blk_cell BK137.out 0).trans rfl
        have hcz_1 : wz1.cell? ⟨gb137, 1, none⟩ = some (.int .i64 (rd y130 (ji7))) := (blk_cell BK137.out 1).trans rfl
        have hcz_2 : wz1.cell? ⟨gb137, 2, none⟩ = some (.int .i64 (rd y130 (ji10))) := (blk_cell BK137.out 2).trans rfl
        have hcz_3 : wz1.cell? ⟨gb137, 3, none⟩ = some (.int .i64 (rd y130 (ji13))) := (blk_cell BK137.out 3).trans rfl
        have hcz_4 : wz1.cell? ⟨gb137, 4, none⟩ = some (.int .i64 0) := (blk_cell BK137.out 4).trans rfl
        have hcz_5 : wz1.cell? ⟨gb137, 5, none⟩ = some (.int .i64 0) := (blk_cell BK137.out 5).trans rfl
        have hfz_0 := blk_frozen BK137.out 0
        have hfz_1 := blk_frozen BK137.out 1
        have hfz_2 := blk_frozen BK137.out 2
        have hfz_3 := blk_frozen BK137.out 3
        have hfz_4 := blk_frozen BK137.out 4
        have hfz_5 := blk_frozen BK137.out 5
        go_upto_region 8 with (first | ((with_reducible refine gate_callee (f := 165) rfl ?_); refine goesL_ (some 41) rfl rfl Try.func165 (by kernel_rfl) rfl #[.int .i64 a0, .int .i64 (rd y130 x7_1), .int .i64 (rd y130 (ji10))] rfl (by (try simp only [List.map_toArray, List.map_cons, List.map_nil]); first | done | rfl | (simp only [hji7, hji10, hji13]; rfl)) ?_; (with_reducible refine (spec_l4Count.calls a0 (rd y130 x7_1) (rd y130 (ji10)) t138 _ A16.out).mono ?_); rintro e wz2 ⟨rfl, hd⟩; have hb := hd.below; refine ⟨_, rfl, ?_⟩; have n5_ := Aside0.mk (Kd.R_below HO_5.out hb); have n6_ := Aside0.mk (Kd.R_below HO_6.out hb); have nB_ := Aside0.mk (below_step HB.out hb); have nK_ := Aside0.mk (blk_below BK137.out hb); clear HO_5 HO_6 HB BK137 hb hd; clear hcz_0 hfz_0 hcz_1 hfz_1 hcz_2 hfz_2 hcz_3 hfz_3 hcz_4 hfz_4 hcz_5 hfz_5; have HO_5 := n5_; have HO_6 := n6_; have HB := nB_; have BK137 := nK_; clear n5_ n6_ nB_ nK_; have hcz_0 : wz2.cell? ⟨gb137, 0, none⟩ = some (.int .i64 (rd y130 x7_1)) := (blk_cell BK137.out 0).trans rfl; have hcz_1 : wz2.cell? ⟨gb137, 1, none⟩ = some (.int .i64 (rd y130 (ji7))) := (blk_cell BK137.out 1).trans rfl; have hcz_2 : wz2.cell? ⟨gb137, 2, none⟩ = some (.int .i64 (rd y130 (ji10))) := (blk_cell BK137.out 2).trans rfl; have hcz_3 : wz2.cell? ⟨gb137, 3, none⟩ = some (.int .i64 (rd y130 (ji13))) := (blk_cell BK137.out 3).trans rfl; have hcz_4 : wz2.cell? ⟨gb137, 4, none⟩ = some (.int .i64 0) := (blk_cell BK137.out 4).trans rfl; have hcz_5 : wz2.cell? ⟨gb137, 5, none⟩ = some (.int .i64 0) := (blk_cell BK137.out 5).trans rfl; have hfz_0 := blk_frozen BK137.out 0; have hfz_1 := blk_frozen BK137.out 1; have hfz_2 := blk_frozen BK137.out 2; have hfz_3 := blk_frozen BK137.out 3; have hfz_4 := blk_frozen BK137.out 4; have hfz_5 := blk_frozen BK137.out 5))
        clear hcz_0 hfz_0 hcz_1 hfz_1 hcz_2 hfz_2 hcz_3 hfz_3 hcz_4 hfz_4 hcz_5 hfz_5
        have n5_ := Aside0.mk (Kd.R_far (p := ⟨gb137, 4, none⟩) HO_5.out (fun _ hk => hk.2) (.int .i64 t138))
        have n6_ := Aside0.mk (Kd.R_far (p := ⟨gb137, 4, none⟩) HO_6.out (fun _ hk => hk.2) (.int .i64 t138))
        have nB_ := Aside0.mk (show Below w.heap.size w (World.setCell wz2 ⟨gb137, 4, none⟩ (.int .i64 t138)) from (below_set HB.out GE137.out))
        have nK_ := Aside0.mk (show (World.setCell wz2 ⟨gb137, 4, none⟩ (.int .i64 t138)).heap[gb137]? = some (.cells #[.int .i64 (rd y130 x7_1), .int .i64 (rd y130 (ji7)), .int .i64 (rd y130 (ji10)), .int .i64 (rd y130 (ji13)), .int .i64 t138, .int .i64 0] 113 (0, 0)) from (blk_set BK137.out 4 (.int .i64 t138)))
        clear HO_5 HO_6 HB BK137
        generalize (World.setCell wz2 ⟨gb137, 4, none⟩ (.int .i64 t138)) = wz3 at n5_ n6_ nB_ nK_ ⊢
        have HO_5 := n5_
        have HO_6 := n6_
        have HB := nB_
        have BK137 := nK_
        clear n5_ n6_ nB_ nK_
        have hcz_0 : wz3.cell? ⟨gb137, 0, none⟩ = some (.int .i64 (rd y130 x7_1)) := (blk_cell BK137.out 0).trans rfl
        have hcz_1 : wz3.cell? ⟨gb137, 1, none⟩ = some (.int .i64 (rd y130 (ji7))) := (blk_cell BK137.out 1).trans rfl
        have hcz_2 : wz3.cell? ⟨gb137, 2, none⟩ = some (.int .i64 (rd y130 (ji10))) := (blk_cell BK137.out 2).trans rfl
        have hcz_3 : wz3.cell? ⟨gb137, 3, none⟩ = some (.int .i64 (rd y130 (ji13))) := (blk_cell BK137.out 3).trans rfl
        have hcz_4 : wz3.cell? ⟨gb137, 4, none⟩ = some (.int .i64 t138) := (blk_cell BK137.out 4).trans rfl
        have hcz_5 : wz3.cell? ⟨gb137, 5, none⟩ = some (.int .i64 0) := (blk_cell BK137.out 5).trans rfl
        have hfz_0 := blk_frozen BK137.out 0
        have hfz_1 := blk_frozen BK137.out 1
        have hfz_2 := blk_frozen BK137.out 2
        have hfz_3 := blk_frozen BK137.out 3
        have hfz_4 := blk_frozen BK137.out 4
        have hfz_5 := blk_frozen BK137.out 5
        go_upto_region 9 with (first | ((with_reducible refine gate_callee (f := 165) rfl ?_); refine goesL_ (some 48) rfl rfl Try.func165 (by kernel_rfl) rfl #[.int .i64 a1, .int .i64 (rd y130 (ji7)), .int .i64 (rd y130 (ji13))] rfl (by (try simp only [List.map_toArray, List.map_cons, List.map_nil]); first | done | rfl | (simp only [hji7, hji10, hji13]; rfl)) ?_; (with_reducible refine (spec_l4Count.calls a1 (rd y130 (ji7)) (rd y130 (ji13)) t139 _ A17.out).mono ?_); rintro e wz4 ⟨rfl, hd⟩; have hb := hd.below; refine ⟨_, rfl, ?_⟩; have n5_ := Aside0.mk (Kd.R_below HO_5.out hb); have n6_ := Aside0.mk (Kd.R_below HO_6.out hb); have nB_ := Aside0.mk (below_step HB.out hb); have nK_ := Aside0.mk (blk_below BK137.out hb); clear HO_5 HO_6 HB BK137 hb hd; clear hcz_0 hfz_0 hcz_1 hfz_1 hcz_2 hfz_2 hcz_3 hfz_3 hcz_4 hfz_4 hcz_5 hfz_5; have HO_5 := n5_; have HO_6 := n6_; have HB := nB_; have BK137 := nK_; clear n5_ n6_ nB_ nK_; have hcz_0 : wz4.cell? ⟨gb137, 0, none⟩ = some (.int .i64 (rd y130 x7_1)) := (blk_cell BK137.out 0).trans rfl; have hcz_1 : wz4.cell? ⟨gb137, 1, none⟩ = some (.int .i64 (rd y130 (ji7))) := (blk_cell BK137.out 1).trans rfl; have hcz_2 : wz4.cell? ⟨gb137, 2, none⟩ = some (.int .i64 (rd y130 (ji10))) := (blk_cell BK137.out 2).trans rfl; have hcz_3 : wz4.cell? ⟨gb137, 3, none⟩ = some (.int .i64 (rd y130 (ji13))) := (blk_cell BK137.out 3).trans rfl; have hcz_4 : wz4.cell? ⟨gb137, 4, none⟩ = some (.int .i64 t138) := (blk_cell BK137.out 4).trans rfl; have hcz_5 : wz4.cell? ⟨gb137, 5, none⟩ = some (.int .i64 0) := (blk_cell BK137.out 5).trans rfl; have hfz_0 := blk_frozen BK137.out 0; have hfz_1 := blk_frozen BK137.out 1; have hfz_2 := blk_frozen BK137.out 2; have hfz_3 := blk_frozen BK137.out 3; have hfz_4 := blk_frozen BK137.out 4; have hfz_5 := blk_frozen BK137.out 5))
        clear hcz_0 hfz_0 hcz_1 hfz_1 hcz_2 hfz_2 hcz_3 hfz_3 hcz_4 hfz_4 hcz_5 hfz_5
        have n5_ := Aside0.mk (Kd.R_far (p := ⟨gb137, 5, none⟩) HO_5.out (fun _ hk => hk.2) (.int .i64 t139))
        have n6_ := Aside0.mk (Kd.R_far (p := ⟨gb137, 5, none⟩) HO_6.out (fun _ hk => hk.2) (.int .i64 t139))
        have nB_ := Aside0.mk (show Below w.heap.size w (World.setCell wz4 ⟨gb137, 5, none⟩ (.int .i64 t139)) from (below_set HB.out GE137.out))
        have nK_ := Aside0.mk (show (World.setCell wz4 ⟨gb137, 5, none⟩ (.int .i64 t139)).heap[gb137]? = some (.cells #[.int .i64 (rd y130 x7_1), .int .i64 (rd y130 (ji7)), .int .i64 (rd y130 (ji10)), .int .i64 (rd y130 (ji13)), .int .i64 t138, .int .i64 t139] 113 (0, 0)) from (blk_set BK137.out 5 (.int .i64 t139)))
        clear HO_5 HO_6 HB BK137
        generalize (World.setCell wz4 ⟨gb137, 5, none⟩ (.int .i64 t139)) = wz5 at n5_ n6_ nB_ nK_ ⊢
        have HO_5 := n5_
        have HO_6 := n6_
        have HB := nB_
        have BK137 := nK_
        clear n5_ n6_ nB_ nK_
        have hcz_0 : wz5.cell? ⟨gb137, 0, none⟩ = some (.int .i64 (rd y130 x7_1)) := (blk_cell BK137.out 0).trans rfl
        have hcz_1 : wz5.cell? ⟨gb137, 1, none⟩ = some (.int .i64 (rd y130 (ji7))) := (blk_cell BK137.out 1).trans rfl
        have hcz_2 : wz5.cell? ⟨gb137, 2, none⟩ = some (.int .i64 (rd y130 (ji10))) := (blk_cell BK137.out 2).trans rfl
        have hcz_3 : wz5.cell? ⟨gb137, 3, none⟩ = some (.int .i64 (rd y130 (ji13))) := (blk_cell BK137.out 3).trans rfl
        have hcz_4 : wz5.cell? ⟨gb137, 4, none⟩ = some (.int .i64 t138) := (blk_cell BK137.out 4).trans rfl
        have hcz_5 : wz5.cell? ⟨gb137, 5, none⟩ = some (.int .i64 t139) := (blk_cell BK137.out 5).trans rfl
        have hfz_0 := blk_frozen BK137.out 0
        have hfz_1 := blk_frozen BK137.out 1
        have hfz_2 := blk_frozen BK137.out 2
        have hfz_3 := blk_frozen BK137.out 3
        have hfz_4 := blk_frozen BK137.out 4
        have hfz_5 := blk_frozen BK137.out 5
      · go_wp2
        go_roundg k1
        case measure => have := HK1.out; omega
        case rel => exact ⟨x6_1, wrap64 (x7_1 + 4), (by first | rfl | (simp; done)), H', ⟨by have := HK1.out; omega⟩, ⟨Kd.R_mono HO_5.out (fun _ _ => trivial)⟩, ⟨Kd.R_mono HO_6.out (fun _ _ => trivial)⟩, HB⟩
      · go_wp2_with (first | ((with_reducible refine gate_builtin (b := .append) (xs := #[.tmp 58, .tmp 60]) rfl ?_); at_builtin; refine Kd.R_append k113 (w0 := w) (W := wz5) w.heap.size rfl (.tmp 58) (.tmp 60) 110 113 (.agg #[(.int .i64 0), (.int .i64 0), (.int .i64 0), (.int .i64 0), (.int .i64 0), (.int .i64 0)]) 48 rfl Try.underlying110 info113 rfl (by decide) (by omega) u6 x6_1 (⟨(rd y130 x7_1), (rd y130 (ji7)), (rd y130 (ji10)), (rd y130 (ji13)), t138, t139⟩ : S113) [.int .i64 (rd y130 x7_1), .int .i64 (rd y130 (ji7)), .int .i64 (rd y130 (ji10)), .int .i64 (rd y130 (ji13)), .int .i64 t138, .int .i64 t139] (fun k_ => k_ ≠ gb137) (fun _ => False) rfl (by first | (go_simp; done) | (go_simp; rfl)) ?aP (fun _ hk => hk.elim) ?aF ?aO ?aB ?aS ?aL ?_; (case aP => exact k113_mkM _ _ _ (⟨(rd y130 x7_1), (rd y130 (ji7)), (rd y130 (ji10)), (rd y130 (ji13)), t138, t139⟩ : S113)); (case aB => exact HB.out); (case aF => exact fun k_ hk => by have := blk_lt BK137.out; omega); (case aO => exact Kd.R_mono HO_6.out (fun _ hk => hk.2)); (case aS => exact below_size HB.out); (case aL => have := LMc20.out; omega); intro v9 w9 ho hb hg hat; have n6_ := Aside0.mk ho; have n5_ := Aside0.mk (Kd.R_over' (v := u6) HO_5.out (Kd.R_typed HO_6.out) (by decide) hg); have nB_ := Aside0.mk hb; clear ho hb hg hat HO_5 HO_6 HB; have HO_5 := n5_; have HO_6 := n6_; have HB := nB_; clear n5_ n6_ nB_))
        go_roundg k1
        case measure => have := HK1.out; omega
        case rel => exact ⟨y140, wrap64 (x7_1 + 4), (by first | rfl | (simp; done)), H', ⟨by have := HK1.out; omega⟩, ⟨Kd.R_mono HO_5.out (fun _ _ => trivial)⟩, ⟨by rw [Ny140.out]; exact Kd.R_mono HO_6.out (fun _ _ => trivial)⟩, HB⟩
      · go_wp2
        go_roundg k1
        case measure => have := HK1.out; omega
        case rel => exact ⟨x6_1, wrap64 (x7_1 + 4), (by first | rfl | (simp; done)), H', ⟨by have := HK1.out; omega⟩, ⟨Kd.R_mono HO_5.out (fun _ _ => trivial)⟩, ⟨Kd.R_mono HO_6.out (fun _ _ => trivial)⟩, HB⟩

/-! ### spec_l4Depth: function 166 -/
def spec_l4Depth.f (a0 : Int) : Option (Bool) := if a0 = 1 then (some true) else (if a0 = 2 then (some true) else (if a0 = 4 then (some true) else (if a0 = 8 then (some true) else (some (a0 == 16)))))
set_option maxHeartbeats 8000000 in
set_option maxRecDepth 100000 in
theorem spec_l4Depth.calls (a0 : Int) (r : Bool) (w : World) (h : spec_l4Depth.f a0 = some r) :
    Calls Try.prog 166 #[.int .i64 a0] w fun e w' => e = .returned (.bool r) ∧ Drawn0 w w' := by
  have H : (if a0 = 1 then (some true) else (if a0 = 2 then (some true) else (if a0 = 4 then (some true) else (if a0 = 8 then (some true) else (some (a0 == 16)))))) = some r := h
  clear h
  by_cases c2 : a0 = 1
  · rw [if_pos c2] at H
    have c2b0 : (a0 == 1) = true := beq_iff_eq.mpr c2
    have c2b1 : (a0 != 1) = false := bne_eq_false_iff_eq.mpr c2
    clear c2
    obtain rfl := Option.some.inj H
    go_enter Try.func166, Try.ntmps166
    go_wp2
    go_ret
    exact ⟨by first | rfl | (simp; done) | (simp [*]; done), by repeat (first | exact Drawn0.refl _ | apply Drawn0.step)⟩
  · rw [if_neg c2] at H
    have c2b0 : (a0 == 1) = false := beq_eq_false_iff_ne.mpr c2
    have c2b1 : (a0 != 1) = true := bne_iff_ne.mpr c2
    by_cases c3 : a0 = 2
    · rw [if_pos c3] at H
      have c3b0 : (a0 == 2) = true := beq_iff_eq.mpr c3
      have c3b1 : (a0 != 2) = false := bne_eq_false_iff_eq.mpr c3
      clear c3
      obtain rfl := Option.some.inj H
      go_enter Try.func166, Try.ntmps166
      go_wp2
      go_ret
      exact ⟨by first | rfl | (simp; done) | (simp [*]; done), by repeat (first | exact Drawn0.refl _ | apply Drawn0.step)⟩
    · rw [if_neg c3] at H
      have c3b0 : (a0 == 2) = false := beq_eq_false_iff_ne.mpr c3
      have c3b1 : (a0 != 2) = true := bne_iff_ne.mpr c3
      by_cases c4 : a0 = 4
      · rw [if_pos c4] at H
        have c4b0 : (a0 == 4) = true := beq_iff_eq.mpr c4
        have c4b1 : (a0 != 4) = false := bne_eq_false_iff_eq.mpr c4
        clear c4
        obtain rfl := Option.some.inj H
        go_enter Try.func166, Try.ntmps166
        go_wp2
        go_ret
        exact ⟨by first | rfl | (simp; done) | (simp [*]; done), by repeat (first | exact Drawn0.refl _ | apply Drawn0.step)⟩
      · rw [if_neg c4] at H
        have c4b0 : (a0 == 4) = false := beq_eq_false_iff_ne.mpr c4
        have c4b1 : (a0 != 4) = true := bne_iff_ne.mpr c4
        by_cases c5 : a0 = 8
        · rw [if_pos c5] at H
          have c5b0 : (a0 == 8) = true := beq_iff_eq.mpr c5
          have c5b1 : (a0 != 8) = false := bne_eq_false_iff_eq.mpr c5
          clear c5
          obtain rfl := Option.some.inj H
          go_enter Try.func166, Try.ntmps166
          go_wp2
          go_ret
          exact ⟨by first | rfl | (simp; done) | (simp [*]; done), by repeat (first | exact Drawn0.refl _ | apply Drawn0.step)⟩
        · rw [if_neg c5] at H
          have c5b0 : (a0 == 8) = false := beq_eq_false_iff_ne.mpr c5
          have c5b1 : (a0 != 8) = true := bne_iff_ne.mpr c5
          obtain rfl := Option.some.inj H
          go_enter Try.func166, Try.ntmps166
          go_wp2
          go_ret
          exact ⟨by first | rfl | (simp; done) | (simp [*]; done), by repeat (first | exact Drawn0.refl _ | apply Drawn0.step)⟩

end Go.Proofs.Ytidblealnaicpaa.PFnExactMerge

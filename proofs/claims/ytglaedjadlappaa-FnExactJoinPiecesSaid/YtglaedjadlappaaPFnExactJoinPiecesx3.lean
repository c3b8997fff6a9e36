-- written by myprint.py (a program of this session's over the kit's print)
import Derived.Test.YtglaedjadlappaaPFnExactJoinPiecesx0
namespace Go.Proofs.Ytglaedjadlappaa.PFnExactJoinPieces
open Go.RowKit Go.Proofs.YtglaedjadlappaaW.PrintWords Go.Proofs.YtglaedjadlappaaW.PrintLast Go.Proofs.YtglaedjadlappaaW.PrintMore
attribute [local go_sem] max2_int min2_int max_two min_two max_three min_three max_four min_four   -- for this text's walks alone
set_option linter.unusedVariables false
set_option linter.unusedSimpArgs false

/-! ### impl_JoinPieces: function 24 -/
mutual
def impl_JoinPieces.l0 : Nat → List Int → List (S126) → Int → Int → Option (Int × List Int × Int)
  | 0, _, _, _, _ => none
  | k + 1, x3, x10, x11, x12 => if x12 < x11 then (if 0 ≤ x12 then (if x12 < (x10.length : Int) then (if ((rd_T126 x10 x12).f1) = 0 then (if ((rd_T126 x10 x12).f2) = 0 then (if ((rd_T126 x10 x12).f0) ≥ 0 then (impl_JoinPieces.j1 k x3 x10 x11 x12 (decide (((rd_T126 x10 x12).f0) ≤ 255)) ((rd_T126 x10 x12).f0) ((rd_T126 x10 x12).f1) ((rd_T126 x10 x12).f2)) else (impl_JoinPieces.j1 k x3 x10 x11 x12 false ((rd_T126 x10 x12).f0) ((rd_T126 x10 x12).f1) ((rd_T126 x10 x12).f2))) else (impl_JoinPieces.j1 k x3 x10 x11 x12 false ((rd_T126 x10 x12).f0) ((rd_T126 x10 x12).f1) ((rd_T126 x10 x12).f2))) else (impl_JoinPieces.j1 k x3 x10 x11 x12 false ((rd_T126 x10 x12).f0) ((rd_T126 x10 x12).f1) ((rd_T126 x10 x12).f2))) else (none)) else (none)) else (some (0, x3, 0))
def impl_JoinPieces.j1 : Nat → List Int → List (S126) → Int → Int → Bool → Int → Int → Int → Option (Int × List Int × Int)
  | 0, _, _, _, _, _, _, _, _ => none
  | k + 1, x3, x10, x11, x12, x32, x127000, x127001, x127002 => if x32 = true then (if x3.length < 140737488355328 then ((some (x3 ++ [(x127000) % 256] : List Int)).bind fun y127 => (if (y127.length : Int) > 40000 then (some (7, ([] : List Int), 0)) else (impl_JoinPieces.l0 k y127 x10 x11 (wrap64 (x12 + 1))))) else (none)) else (if x127000 = 0 then (if x127001 < 3 then (impl_JoinPieces.j2 k x3 x10 x11 x12 true x127000 x127001 x127002) else (if x127001 > 258 then (impl_JoinPieces.j2 k x3 x10 x11 x12 true x127000 x127001 x127002) else (if x127002 < 1 then (impl_JoinPieces.j2 k x3 x10 x11 x12 true x127000 x127001 x127002) else (impl_JoinPieces.j2 k x3 x10 x11 x12 (decide (x127002 > 32768)) x127000 x127001 x127002)))) else (impl_JoinPieces.j2 k x3 x10 x11 x12 true x127000 x127001 x127002))
def impl_JoinPieces.j2 : Nat → List Int → List (S126) → Int → Int → Bool → Int → Int → Int → Option (Int × List Int × Int)
  | 0, _, _, _, _, _, _, _, _ => none
  | k + 1, x3, x10, x11, x12, x57, x127000, x127001, x127002 => if x57 = true then (some (1, ([] : List Int), 0)) else (if x127002 > (x3.length : Int) then (some (5, ([] : List Int), 0)) else (impl_JoinPieces.l1 k x3 x10 x11 x12 x127001 0 x127000 x127001 x127002))
def impl_JoinPieces.l1 : Nat → List Int → List (S126) → Int → Int → Int → Int → Int → Int → Int → Option (Int × List Int × Int)
  | 0, _, _, _, _, _, _, _, _, _ => none
  | k + 1, x3, x10, x11, x12, x17, x18, x127000, x127001, x127002 => if x18 < x17 then (if 0 ≤ (wrap64 ((x3.length : Int) - x127002)) then (if (wrap64 ((x3.length : Int) - x127002)) < (x3.length : Int) then (if x3.length < 140737488355328 then (impl_JoinPieces.l1 k (x3 ++ [rd x3 (wrap64 ((x3.length : Int) - x127002))]) x10 x11 x12 x17 (wrap64 (x18 + 1)) x127000 x127001 x127002) else (none)) else (none)) else (none)) else (if (x3.length : Int) > 40000 then (some (7, ([] : List Int), 0)) else (impl_JoinPieces.l0 k x3 x10 x11 (wrap64 (x12 + 1))))
end
def impl_JoinPieces.f (k : Nat) (l0 : List (S126)) : Option (Int × List Int × Int) := if (l0.length : Int) > 40000 then (some (7, ([] : List Int), 0)) else (impl_JoinPieces.l0 k ([] : List Int) l0 (l0.length : Int) 0)
theorem impl_JoinPieces.mono_l : ∀ k, (∀ y0 y1 y2 y3, LeO (impl_JoinPieces.l0 k y0 y1 y2 y3) (impl_JoinPieces.l0 (k + 1) y0 y1 y2 y3)) ∧ (∀ y0 y1 y2 y3 y4 y5 y6 y7, LeO (impl_JoinPieces.j1 k y0 y1 y2 y3 y4 y5 y6 y7) (impl_JoinPieces.j1 (k + 1) y0 y1 y2 y3 y4 y5 y6 y7)) ∧ (∀ y0 y1 y2 y3 y4 y5 y6 y7, LeO (impl_JoinPieces.j2 k y0 y1 y2 y3 y4 y5 y6 y7) (impl_JoinPieces.j2 (k + 1) y0 y1 y2 y3 y4 y5 y6 y7)) ∧ (∀ y0 y1 y2 y3 y4 y5 y6 y7 y8, LeO (impl_JoinPieces.l1 k y0 y1 y2 y3 y4 y5 y6 y7 y8) (impl_JoinPieces.l1 (k + 1) y0 y1 y2 y3 y4 y5 y6 y7 y8))
  | 0 => ⟨fun _ _ _ _ r h => by simp [impl_JoinPieces.l0] at h, fun _ _ _ _ _ _ _ _ r h => by simp [impl_JoinPieces.j1] at h, fun _ _ _ _ _ _ _ _ r h => by simp [impl_JoinPieces.j2] at h, fun _ _ _ _ _ _ _ _ _ r h => by simp [impl_JoinPieces.l1] at h⟩
  | k + 1 => by
    obtain ⟨ih0, ih1, ih2, ih3⟩ := impl_JoinPieces.mono_l k
    refine ⟨?_, ?_, ?_, ?_⟩
    · intro y0 y1 y2 y3
      unfold impl_JoinPieces.l0
      repeat' first
      | (with_reducible exact ih0 _ _ _ _)
      | (with_reducible exact ih1 _ _ _ _ _ _ _ _)
      | (with_reducible exact ih2 _ _ _ _ _ _ _ _)
      | (with_reducible exact ih3 _ _ _ _ _ _ _ _ _)
      | (with_reducible exact LeO.refl _)
      | (with_reducible exact LeO.none _)
      | (with_reducible refine LeO.ite ?_ ?_)
      | (with_reducible refine LeO.bind ?_ (fun _ => ?_))
      | exact ih0 _ _ _ _
      | exact ih1 _ _ _ _ _ _ _ _
      | exact ih2 _ _ _ _ _ _ _ _
      | exact ih3 _ _ _ _ _ _ _ _ _
      | exact LeO.none _
      | refine LeO.ite ?_ ?_
      | refine LeO.bind ?_ (fun _ => ?_)
    · intro y0 y1 y2 y3 y4 y5 y6 y7
      unfold impl_JoinPieces.j1
      repeat' first
      | (with_reducible exact ih0 _ _ _ _)
      | (with_reducible exact ih1 _ _ _ _ _ _ _ _)
      | (with_reducible exact ih2 _ _ _ _ _ _ _ _)
      | (with_reducible exact ih3 _ _ _ _ _ _ _ _ _)
      | (with_reducible exact LeO.refl _)
      | (with_reducible exact LeO.none _)
      | (with_reducible refine LeO.ite ?_ ?_)
      | (with_reducible refine LeO.bind ?_ (fun _ => ?_))
      | exact ih0 _ _ _ _
      | exact ih1 _ _ _ _ _ _ _ _
      | exact ih2 _ _ _ _ _ _ _ _
      | exact ih3 _ _ _ _ _ _ _ _ _
      | exact LeO.none _
      | refine LeO.ite ?_ ?_
      | refine LeO.bind ?_ (fun _ => ?_)
    · intro y0 y1 y2 y3 y4 y5 y6 y7
      unfold impl_JoinPieces.j2
      repeat' first
      | (with_reducible exact ih0 _ _ _ _)
      | (with_reducible exact ih1 _ _ _ _ _ _ _ _)
      | (with_reducible exact ih2 _ _ _ _ _ _ _ _)
      | (with_reducible exact ih3 _ _ _ _ _ _ _ _ _)
      | (with_reducible exact LeO.refl _)
      | (with_reducible exact LeO.none _)
      | (with_reducible refine LeO.ite ?_ ?_)
      | (with_reducible refine LeO.bind ?_ (fun _ => ?_))
      | exact ih0 _ _ _ _
      | exact ih1 _ _ _ _ _ _ _ _
      | exact ih2 _ _ _ _ _ _ _ _
      | exact ih3 _ _ _ _ _ _ _ _ _
      | exact LeO.none _
      | refine LeO.ite ?_ ?_
      | refine LeO.bind ?_ (fun _ => ?_)
    · intro y0 y1 y2 y3 y4 y5 y6 y7 y8
      unfold impl_JoinPieces.l1
      repeat' first
      | (with_reducible exact ih0 _ _ _ _)
      | (with_reducible exact ih1 _ _ _ _ _ _ _ _)
      | (with_reducible exact ih2 _ _ _ _ _ _ _ _)
      | (with_reducible exact ih3 _ _ _ _ _ _ _ _ _)
      | (with_reducible exact LeO.refl _)
      | (with_reducible exact LeO.none _)
      | (with_reducible refine LeO.ite ?_ ?_)
      | (with_reducible refine LeO.bind ?_ (fun _ => ?_))
      | exact ih0 _ _ _ _
      | exact ih1 _ _ _ _ _ _ _ _
      | exact ih2 _ _ _ _ _ _ _ _
      | exact ih3 _ _ _ _ _ _ _ _ _
      | exact LeO.none _
      | refine LeO.ite ?_ ?_
      | refine LeO.bind ?_ (fun _ => ?_)
theorem impl_JoinPieces.mono : ∀ a0 k, LeO (impl_JoinPieces.f k a0) (impl_JoinPieces.f (k + 1) a0) := by
  intro a0 k
  obtain ⟨ih0, ih1, ih2, ih3⟩ := impl_JoinPieces.mono_l k
  unfold impl_JoinPieces.f
  repeat' first
      | (with_reducible exact ih0 _ _ _ _)
      | (with_reducible exact ih1 _ _ _ _ _ _ _ _)
      | (with_reducible exact ih2 _ _ _ _ _ _ _ _)
      | (with_reducible exact ih3 _ _ _ _ _ _ _ _ _)
      | (with_reducible exact LeO.refl _)
      | (with_reducible exact LeO.none _)
      | (with_reducible refine LeO.ite ?_ ?_)
      | (with_reducible refine LeO.bind ?_ (fun _ => ?_))
      | exact ih0 _ _ _ _
      | exact ih1 _ _ _ _ _ _ _ _
      | exact ih2 _ _ _ _ _ _ _ _
      | exact ih3 _ _ _ _ _ _ _ _ _
      | exact LeO.none _
      | refine LeO.ite ?_ ?_
      | refine LeO.bind ?_ (fun _ => ?_)
set_option maxHeartbeats 8000000 in
set_option maxRecDepth 100000 in
theorem impl_JoinPieces.calls (k : Nat) (A0 : Option Addr) (c0 : Nat) (l0 : List (S126)) (r1 : Int) (r2 : List Int) (r3 : Int) (w : World) (hr0 : Kd.C k126 w A0 l0.length l0) (hc0 : l0.length ≤ c0) (h : impl_JoinPieces.f k l0 = some (r1, r2, r3)) :
    Calls Try.prog 24 #[.slice A0 l0.length c0] w fun e w' => ∃ v1_ : Value, e = .returned (.agg #[.int .i64 r1, v1_, .int .i64 r3]) ∧ Kd.R (Kd.int .u8) 5 w' w.heap.size (fun _ => True) v1_ r2 ∧ Below w.heap.size w w' := by
  have hu38 := Try.underlying38
  have hu126 := Try.underlying126
  have HR0 := Aside0.mk hr0
  have HC0 := Aside0.mk hc0
  clear hr0 hc0
  have HB := Aside0.mk (Below.refl w.heap.size w)
  have H : (if (l0.length : Int) > 40000 then (some (7, ([] : List Int), 0)) else (impl_JoinPieces.l0 k ([] : List Int) l0 (l0.length : Int) 0)) = some (r1, r2, r3) := h
  clear h
  by_cases c2 : (l0.length : Int) > 40000
  · rw [if_pos c2] at H
    have c2b0 : decide (40000 < (l0.length : Int)) = true := decide_eq_true c2
    have c2b1 : decide (40000 < l0.length) = true := decide_eq_true (by omega)
    have c2b2 : 40000 < l0.length := by omega
    clear c2
    simp only [Option.some.injEq, Prod.mk.injEq] at H
    obtain ⟨rfl, rfl, rfl⟩ := H
    go_enter Try.func24, Try.ntmps24
    go_wp2_with (first | ((with_reducible refine gate_dst (N := 2) rfl ?_); refine box_event ?hg (N := 2) ?hd (cs := #[.int .i64 0, .slice none 0 0, .int .i64 0]) (t := 38) ?hr ?_; (case hd => rfl); (case hg => rfl); (case hr => first | (go_simp; done) | (go_simp; rfl)); intro gb124 hg w3 hbox hb; have n0_ := Aside0.mk (below_step (by repeat (first | (with_reducible first | exact HB.out | apply below_alloc | apply pw_below_drewN | apply below_drew1) | exact HB.out)) hb); have n1_ := Aside0.mk (hbox); have n2_ := Aside0.mk ((by rw [hg]; exact (below_size (by repeat (first | (with_reducible first | exact HB.out | apply below_alloc | apply pw_below_drewN | apply below_drew1) | exact HB.out))) : w.heap.size ≤ gb124)); have n3_ := Aside0.mk ((by rw [hg]; exact (below_size (by repeat (first | (with_reducible first | exact HB.out | apply below_alloc | apply pw_below_drewN | apply below_drew1) | exact HB.out))) : w.heap.size ≤ gb124)); clear HB; have HB := n0_; have BK124 := n1_; have GW124 := n2_; have GE124 := n3_; clear n0_ n1_ n2_ n3_; clear hb hbox hg; have hcz4_0 : w3.cell? ⟨gb124, 0, none⟩ = some (.int .i64 0) := (blk_cell BK124.out 0).trans rfl; have hcz4_1 : w3.cell? ⟨gb124, 1, none⟩ = some (.slice none 0 0) := (blk_cell BK124.out 1).trans rfl; have hcz4_2 : w3.cell? ⟨gb124, 2, none⟩ = some (.int .i64 0) := (blk_cell BK124.out 2).trans rfl; have hfz4_0 := blk_frozen BK124.out 0; have hfz4_1 := blk_frozen BK124.out 1; have hfz4_2 := blk_frozen BK124.out 2))
    refine bodyPost_ret (results_cell_row rfl _ _ gb124 38 #[.int .i64 7, .slice none 0 0, .int .i64 0] (0, 0) _ rfl (by (with_reducible repeat (first | refine blk_drewN ?_ _ | refine blk_drew ?_ | refine blk_alloc ?_ _)); refine blk_put (cs := #[.int .i64 7, .slice none 0 0, .int .i64 0]) ?_ 2 _ rfl; (with_reducible repeat (first | refine blk_drewN ?_ _ | refine blk_drew ?_ | refine blk_alloc ?_ _)); refine blk_put (cs := #[.int .i64 7, .slice none 0 0, .int .i64 0]) ?_ 1 _ rfl; (with_reducible repeat (first | refine blk_drewN ?_ _ | refine blk_drew ?_ | refine blk_alloc ?_ _)); refine blk_put (cs := #[.int .i64 0, .slice none 0 0, .int .i64 0]) ?_ 0 _ rfl; (with_reducible repeat (first | refine blk_drewN ?_ _ | refine blk_drew ?_ | refine blk_alloc ?_ _)); exact BK124.out) Try.underlying38 rfl (by kernel_rfl)) rfl ?_
    exact ⟨_, by first | rfl | (simp [errW_none, errW_some] <;> rfl) | (simp [*, errW_none, errW_some] <;> rfl), by first | exact Kd.R_nil _ _ _ _ _ | exact Kd.N_nil _ _ _ _ _ | exact Kd.V_nil _ _ _ _ _ | exact Kd.Q_nil _ _ _ _ _ | exact Kd.S_nil _ _ _ _ _, by repeat (first | (with_reducible first | exact HB.out | apply below_alloc | apply pw_below_drewN | apply below_drew1 | refine below_set ?_ GE124.out) | exact HB.out)⟩
  · rw [if_neg c2] at H
    have c2b0 : decide (40000 < (l0.length : Int)) = false := decide_eq_false c2
    have c2b1 : decide (40000 < l0.length) = false := decide_eq_false (by omega)
    have c2b2 : ¬ (40000 < l0.length) := by omega
    clear c2
    have H' := Aside0.mk H
    clear H
    go_enter Try.func24, Try.ntmps24
    go_wp2_with (first | ((with_reducible refine gate_dst (N := 2) rfl ?_); refine box_event ?hg (N := 2) ?hd (cs := #[.int .i64 0, .slice none 0 0, .int .i64 0]) (t := 38) ?hr ?_; (case hd => rfl); (case hg => rfl); (case hr => first | (go_simp; done) | (go_simp; rfl)); intro gb124 hg w5 hbox hb; have n0_ := Aside0.mk (below_step (by repeat (first | (with_reducible first | exact HB.out | apply below_alloc | apply pw_below_drewN | apply below_drew1) | exact HB.out)) hb); have n1_ := Aside0.mk (hbox); have n2_ := Aside0.mk ((by rw [hg]; exact (below_size (by repeat (first | (with_reducible first | exact HB.out | apply below_alloc | apply pw_below_drewN | apply below_drew1) | exact HB.out))) : w.heap.size ≤ gb124)); have n3_ := Aside0.mk ((by rw [hg]; exact (below_size (by repeat (first | (with_reducible first | exact HB.out | apply below_alloc | apply pw_below_drewN | apply below_drew1) | exact HB.out))) : w.heap.size ≤ gb124)); clear HB; have HB := n0_; have BK124 := n1_; have GW124 := n2_; have GE124 := n3_; clear n0_ n1_ n2_ n3_; clear hb hbox hg))
    go_loopg [3, 12] k (fun kq v3 v12 w' => ∃ (x3_1 : List Int) (x12_1 : Int) (x125000_1 : Int) (x125002_1 : Int), v12 = .int .i64 x12_1 ∧ Aside0 (impl_JoinPieces.l0 kq x3_1 l0 (l0.length : Int) x12_1 = some (r1, r2, r3)) ∧ Aside0 (kq ≤ k) ∧ Aside0 (Kd.R (Kd.int .u8) 5 w' w.heap.size (fun _ => True) v3 x3_1) ∧ Aside0 (w'.heap[gb124]? = some (.cells #[.int .i64 x125000_1, (.slice none 0 0), .int .i64 x125002_1] 38 (0, 0))) ∧ Aside0 (Below w.heap.size w w'))
    case atStart => exact ⟨(([] : List Int)), (0), (0), (0), (by first | rfl | (simp; done) | (simp [*]; done)), H', ⟨Nat.le_refl _⟩, ⟨by first | exact Kd.R_nil _ _ _ _ _ | exact Kd.N_nil _ _ _ _ _ | exact Kd.V_nil _ _ _ _ _ | exact Kd.Q_nil _ _ _ _ _ | exact Kd.S_nil _ _ _ _ _⟩, ⟨by (with_reducible repeat (first | refine blk_drewN ?_ _ | refine blk_drew ?_ | refine blk_alloc ?_ _)); exact BK124.out⟩, ⟨by repeat (first | (with_reducible first | exact HB.out | apply below_alloc | apply pw_below_drewN | apply below_drew1 | refine below_set ?_ GE124.out) | exact HB.out)⟩⟩
    case round =>
      clear H'
      try clear c2
      try clear c2b0
      try clear c2b1
      try clear c2b2
      try clear p2
      try clear hcz4_0
      try clear hcz4_1
      try clear hcz4_2
      try clear hfz4_0
      try clear hfz4_1
      try clear hfz4_2
      obtain ⟨x3_1, x12_1, x125000_1, x125002_1, rfl, HA, HK1, HO_3, BK124, HB⟩ := hrel
      cases gk with
      | zero => exact absurd HA.out (by simp [impl_JoinPieces.l0])
      | succ k1 =>
        have H := HA.out
        clear HA
        simp only [impl_JoinPieces.l0] at H
        by_cases c6 : x12_1 < (l0.length : Int)
        · rw [if_pos c6] at H
          have c6b0 : decide (x12_1 < (l0.length : Int)) = true := decide_eq_true c6
          clear c6
          by_cases c7 : 0 ≤ x12_1
          · rw [if_pos c7] at H
            have c7b0 : decide (0 ≤ x12_1) = true := decide_eq_true c7
            clear c7
            by_cases c8 : x12_1 < (l0.length : Int)
            · rw [if_pos c8] at H
              have c8b0 : decide (x12_1 < (l0.length : Int)) = true := decide_eq_true c8
              clear c8
              have HC9 := Aside0.mk H
              clear H
              have p125 : 0 ≤ (x12_1 : Int) := of_decide_eq_true (by first | (with_reducible assumption) | assumption)
              have q125 : x12_1 < (l0.length : Int) := of_decide_eq_true (by first | (with_reducible assumption) | assumption)
              obtain ⟨ad125, e125, hx125_0, hx125_1, hx125_2⟩ := at_T126 HR0.out x12_1 p125 q125
              cases e125
              replace hx125_0 := (HB.out.cell (World.block_lt_of_cell? w _ hx125_0)).trans hx125_0
              replace hx125_1 := (HB.out.cell (World.block_lt_of_cell? w _ hx125_1)).trans hx125_1
              replace hx125_2 := (HB.out.cell (World.block_lt_of_cell? w _ hx125_2)).trans hx125_2
              replace p125 := eq_true p125
              replace q125 := eq_true q125
              go_upto_region 11 with (first | ((with_reducible refine gate_dst (N := 5) rfl ?_); refine box_event ?hg (N := 5) ?hd (cs := #[.int .i64 0, .int .i64 0, .int .i64 0]) (t := 126) ?hr ?_; (case hd => rfl); (case hg => rfl); (case hr => first | (go_simp; done) | (go_simp; rfl)); intro gb126 hg w10 hbox hb; have n0_ := Aside0.mk (Kd.R_below (by (with_reducible repeat (first | apply Kd.R_alloc | apply Kd.R_drewN | apply Kd.R_drew)); exact HO_3.out) hb); have n1_ := Aside0.mk (blk_below (g := gb124) (o := .cells #[.int .i64 x125000_1, .slice none 0 0, .int .i64 x125002_1] 38 (0, 0)) (by (with_reducible repeat (first | refine blk_drewN ?_ _ | refine blk_drew ?_ | refine blk_alloc ?_ _)); exact BK124.out) hb); have n2_ := Aside0.mk (below_step (by repeat (first | (with_reducible first | exact HB.out | apply below_alloc | apply pw_below_drewN | apply below_drew1 | refine below_set ?_ GE124.out) | exact HB.out)) hb); have n3_ := Aside0.mk (hbox); have n4_ := Aside0.mk ((by rw [hg]; exact (below_size (by repeat (first | (with_reducible first | exact HB.out | apply below_alloc | apply pw_below_drewN | apply below_drew1 | refine below_set ?_ GE124.out) | exact HB.out))) : w.heap.size ≤ gb126)); have n5_ := Aside0.mk ((by rw [hg]; exact (below_size (by repeat (first | (with_reducible first | exact HB.out | apply below_alloc | apply pw_below_drewN | apply below_drew1 | refine below_set ?_ GE124.out) | exact HB.out))) : w.heap.size ≤ gb126)); have n6_ := Aside0.mk ((by rw [hg]; exact Nat.ne_of_lt (blk_lt (g := gb124) (o := .cells #[.int .i64 x125000_1, .slice none 0 0, .int .i64 x125002_1] 38 (0, 0)) (by (with_reducible repeat (first | refine blk_drewN ?_ _ | refine blk_drew ?_ | refine blk_alloc ?_ _)); exact BK124.out)) : gb124 ≠ gb126)); have n7_ := Aside0.mk ((by rw [hg]; exact Nat.ne_of_gt (blk_lt (g := gb124) (o := .cells #[.int .i64 x125000_1, .slice none 0 0, .int .i64 x125002_1] 38 (0, 0)) (by (with_reducible repeat (first | refine blk_drewN ?_ _ | refine blk_drew ?_ | refine blk_alloc ?_ _)); exact BK124.out)) : gb126 ≠ gb124)); clear HO_3; clear BK124; clear HB; have HO_3 := n0_; have BK124 := n1_; have HB := n2_; have BK126 := n3_; have GW126 := n4_; have GE126 := n5_; have NB124_126 := n6_; have NB126_124 := n7_; clear n0_ n1_ n2_ n3_ n4_ n5_ n6_ n7_; clear hb hbox hg; have hnb11 := NB126_124.out; have hnc11 := NB124_126.out; have hcz12_0 : w10.cell? ⟨gb126, 0, none⟩ = some (.int .i64 0) := (blk_cell BK126.out 0).trans rfl; have hcz12_1 : w10.cell? ⟨gb126, 1, none⟩ = some (.int .i64 0) := (blk_cell BK126.out 1).trans rfl; have hcz12_2 : w10.cell? ⟨gb126, 2, none⟩ = some (.int .i64 0) := (blk_cell BK126.out 2).trans rfl; have hfz12_0 := blk_frozen BK126.out 0; have hfz12_1 := blk_frozen BK126.out 1; have hfz12_2 := blk_frozen BK126.out 2))
              (try simp only [Act.put, List.setIfInBounds_toArray, List.set_cons_zero, List.set_cons_succ])
              go_cut [32] (fun v32 wc => ∃ (kq : Nat) (x32_8 : Bool), v32 = .bool x32_8 ∧ Aside0 (impl_JoinPieces.j1 kq x3_1 l0 (l0.length : Int) x12_1 x32_8 ((rd_T126 l0 x12_1).f0) ((rd_T126 l0 x12_1).f1) ((rd_T126 l0 x12_1).f2) = some (r1, r2, r3)) ∧ Aside0 (kq ≤ k1) ∧ Aside0 (Kd.R (Kd.int .u8) 5 wc w.heap.size (fun _ => True) u3 x3_1) ∧ Aside0 (wc.heap[gb124]? = some (.cells #[.int .i64 x125000_1, (.slice none 0 0), .int .i64 x125002_1] 38 (0, 0))) ∧ Aside0 (wc.heap[gb126]? = some (.cells #[.int .i64 ((rd_T126 l0 x12_1).f0), .int .i64 ((rd_T126 l0 x12_1).f1), .int .i64 ((rd_T126 l0 x12_1).f2)] 126 (0, 0))) ∧ Aside0 (Below w.heap.size w wc))
              case first =>
                have H := HC9.out
                clear HC9
                by_cases c13 : ((rd_T126 l0 x12_1).f1) = 0
                · rw [if_pos c13] at H
                  have c13b0 : (((rd_T126 l0 x12_1).f1) == 0) = true := beq_iff_eq.mpr c13
                  have c13b1 : (((rd_T126 l0 x12_1).f1) != 0) = false := bne_eq_false_iff_eq.mpr c13
                  clear c13
                  (first | rw [c13b0] | (simp only [i64_w, i32_w]; rw [c13b0]) | skip)
                  by_cases c14 : ((rd_T126 l0 x12_1).f2) = 0
                  · rw [if_pos c14] at H
                    have c14b0 : (((rd_T126 l0 x12_1).f2) == 0) = true := beq_iff_eq.mpr c14
                    have c14b1 : (((rd_T126 l0 x12_1).f2) != 0) = false := bne_eq_false_iff_eq.mpr c14
                    clear c14
                    by_cases c15 : ((rd_T126 l0 x12_1).f0) ≥ 0
                    · rw [if_pos c15] at H
                      have c15b0 : decide (0 ≤ ((rd_T126 l0 x12_1).f0)) = true := decide_eq_true c15
                      clear c15
                      have H' := Aside0.mk H
                      clear H
                      have hnb16 := NB126_124.out
                      have hnc16 := NB124_126.out
                      have hcz17_0 : w10.cell? ⟨gb126, 0, none⟩ = some (.int .i64 0) := (blk_cell BK126.out 0).trans rfl
                      have hcz17_1 : w10.cell? ⟨gb126, 1, none⟩ = some (.int .i64 0) := (blk_cell BK126.out 1).trans rfl
                      have hcz17_2 : w10.cell? ⟨gb126, 2, none⟩ = some (.int .i64 0) := (blk_cell BK126.out 2).trans rfl
                      have hfz17_0 := blk_frozen BK126.out 0
                      have hfz17_1 := blk_frozen BK126.out 1
                      have hfz17_2 := blk_frozen BK126.out 2
                      go_wp2
                      go_meet
                      case rel => exact ⟨_, (decide (((rd_T126 l0 x12_1).f0) ≤ 255)), (by first | rfl | (simp; done) | (simp [*]; done)), H', ⟨by have := HK1.out; first | omega | exact Nat.le_refl _⟩, ⟨by (with_reducible repeat (first | apply Kd.R_alloc | apply Kd.R_drewN | apply Kd.R_drew)); exact Kd.R_mono (Kd.R_far (p := ⟨gb126, 2, none⟩) (Kd.R_far (p := ⟨gb126, 1, none⟩) (Kd.R_far (p := ⟨gb126, 0, none⟩) (Kd.R_types HO_3.out BK126.out (by decide)) (fun _ hk => hk.2) (.int .i64 ((rd_T126 l0 x12_1).f0))) (fun _ hk => hk.2) (.int .i64 ((rd_T126 l0 x12_1).f1))) (fun _ hk => hk.2) (.int .i64 ((rd_T126 l0 x12_1).f2))) (fun _ hk => trivial)⟩, ⟨by (with_reducible repeat (first | refine blk_drewN ?_ _ | refine blk_drew ?_ | refine blk_alloc ?_ _)); refine blk_far ?_ NB124_126.out _; (with_reducible repeat (first | refine blk_drewN ?_ _ | refine blk_drew ?_ | refine blk_alloc ?_ _)); refine blk_far ?_ NB124_126.out _; (with_reducible repeat (first | refine blk_drewN ?_ _ | refine blk_drew ?_ | refine blk_alloc ?_ _)); refine blk_far ?_ NB124_126.out _; (with_reducible repeat (first | refine blk_drewN ?_ _ | refine blk_drew ?_ | refine blk_alloc ?_ _)); exact BK124.out⟩, ⟨by (with_reducible repeat (first | refine blk_drewN ?_ _ | refine blk_drew ?_ | refine blk_alloc ?_ _)); refine blk_put (cs := #[.int .i64 ((rd_T126 l0 x12_1).f0), .int .i64 ((rd_T126 l0 x12_1).f1), .int .i64 0]) ?_ 2 _ rfl; (with_reducible repeat (first | refine blk_drewN ?_ _ | refine blk_drew ?_ | refine blk_alloc ?_ _)); refine blk_put (cs := #[.int .i64 ((rd_T126 l0 x12_1).f0), .int .i64 0, .int .i64 0]) ?_ 1 _ rfl; (with_reducible repeat (first | refine blk_drewN ?_ _ | refine blk_drew ?_ | refine blk_alloc ?_ _)); refine blk_put (cs := #[.int .i64 0, .int .i64 0, .int .i64 0]) ?_ 0 _ rfl; (with_reducible repeat (first | refine blk_drewN ?_ _ | refine blk_drew ?_ | refine blk_alloc ?_ _)); exact BK126.out⟩, ⟨by repeat (first | (with_reducible first | exact HB.out | apply below_alloc | apply pw_below_drewN | apply below_drew1 | refine below_set ?_ GE124.out | refine below_set ?_ GE126.out) | exact HB.out)⟩⟩
                    · rw [if_neg c15] at H
                      have c15b0 : decide (0 ≤ ((rd_T126 l0 x12_1).f0)) = false := decide_eq_false c15
                      clear c15
                      have H' := Aside0.mk H
                      clear H
                      have hnb18 := NB126_124.out
                      have hnc18 := NB124_126.out
                      have hcz19_0 : w10.cell? ⟨gb126, 0, none⟩ = some (.int .i64 0) := (blk_cell BK126.out 0).trans rfl
                      have hcz19_1 : w10.cell? ⟨gb126, 1, none⟩ = some (.int .i64 0) := (blk_cell BK126.out 1).trans rfl
                      have hcz19_2 : w10.cell? ⟨gb126, 2, none⟩ = some (.int .i64 0) := (blk_cell BK126.out 2).trans rfl
                      have hfz19_0 := blk_frozen BK126.out 0
                      have hfz19_1 := blk_frozen BK126.out 1
                      have hfz19_2 := blk_frozen BK126.out 2
                      go_wp2
                      go_meet
                      case rel => exact ⟨_, (false), (by first | rfl | (simp; done) | (simp [*]; done)), H', ⟨by have := HK1.out; first | omega | exact Nat.le_refl _⟩, ⟨by (with_reducible repeat (first | apply Kd.R_alloc | apply Kd.R_drewN | apply Kd.R_drew)); exact Kd.R_mono (Kd.R_far (p := ⟨gb126, 2, none⟩) (Kd.R_far (p := ⟨gb126, 1, none⟩) (Kd.R_far (p := ⟨gb126, 0, none⟩) (Kd.R_types HO_3.out BK126.out (by decide)) (fun _ hk => hk.2) (.int .i64 ((rd_T126 l0 x12_1).f0))) (fun _ hk => hk.2) (.int .i64 ((rd_T126 l0 x12_1).f1))) (fun _ hk => hk.2) (.int .i64 ((rd_T126 l0 x12_1).f2))) (fun _ hk => trivial)⟩, ⟨by (with_reducible repeat (first | refine blk_drewN ?_ _ | refine blk_drew ?_ | refine blk_alloc ?_ _)); refine blk_far ?_ NB124_126.out _; (with_reducible repeat (first | refine blk_drewN ?_ _ | refine blk_drew ?_ | refine blk_alloc ?_ _)); refine blk_far ?_ NB124_126.out _; (with_reducible repeat (first | refine blk_drewN ?_ _ | refine blk_drew ?_ | refine blk_alloc ?_ _)); refine blk_far ?_ NB124_126.out _; (with_reducible repeat (first | refine blk_drewN ?_ _ | refine blk_drew ?_ | refine blk_alloc ?_ _)); exact BK124.out⟩, ⟨by (with_reducible repeat (first | refine blk_drewN ?_ _ | refine blk_drew ?_ | refine blk_alloc ?_ _)); refine blk_put (cs := #[.int .i64 ((rd_T126 l0 x12_1).f0), .int .i64 ((rd_T126 l0 x12_1).f1), .int .i64 0]) ?_ 2 _ rfl; (with_reducible repeat (first | refine blk_drewN ?_ _ | refine blk_drew ?_ | refine blk_alloc ?_ _)); refine blk_put (cs := #[.int .i64 ((rd_T126 l0 x12_1).f0), .int .i64 0, .int .i64 0]) ?_ 1 _ rfl; (with_reducible repeat (first | refine blk_drewN ?_ _ | refine blk_drew ?_ | refine blk_alloc ?_ _)); refine blk_put (cs := #[.int .i64 0, .int .i64 0, .int .i64 0]) ?_ 0 _ rfl; (with_reducible repeat (first | refine blk_drewN ?_ _ | refine blk_drew ?_ | refine blk_alloc ?_ _)); exact BK126.out⟩, ⟨by repeat (first | (with_reducible first | exact HB.out | apply below_alloc | apply pw_below_drewN | apply below_drew1 | refine below_set ?_ GE124.out | refine below_set ?_ GE126.out) | exact HB.out)⟩⟩
                  · rw [if_neg c14] at H
                    have c14b0 : (((rd_T126 l0 x12_1).f2) == 0) = false := beq_eq_false_iff_ne.mpr c14
                    have c14b1 : (((rd_T126 l0 x12_1).f2) != 0) = true := bne_iff_ne.mpr c14
                    have H' := Aside0.mk H
                    clear H
                    have hnb20 := NB126_124.out
                    have hnc20 := NB124_126.out
                    have hcz21_0 : w10.cell? ⟨gb126, 0, none⟩ = some (.int .i64 0) := (blk_cell BK126.out 0).trans rfl
                    have hcz21_1 : w10.cell? ⟨gb126, 1, none⟩ = some (.int .i64 0) := (blk_cell BK126.out 1).trans rfl
                    have hcz21_2 : w10.cell? ⟨gb126, 2, none⟩ = some (.int .i64 0) := (blk_cell BK126.out 2).trans rfl
                    have hfz21_0 := blk_frozen BK126.out 0
                    have hfz21_1 := blk_frozen BK126.out 1
                    have hfz21_2 := blk_frozen BK126.out 2
                    go_wp2
                    go_meet
                    case rel => exact ⟨_, (false), (by first | rfl | (simp; done) | (simp [*]; done)), H', ⟨by have := HK1.out; first | omega | exact Nat.le_refl _⟩, ⟨by (with_reducible repeat (first | apply Kd.R_alloc | apply Kd.R_drewN | apply Kd.R_drew)); exact Kd.R_mono (Kd.R_far (p := ⟨gb126, 2, none⟩) (Kd.R_far (p := ⟨gb126, 1, none⟩) (Kd.R_far (p := ⟨gb126, 0, none⟩) (Kd.R_types HO_3.out BK126.out (by decide)) (fun _ hk => hk.2) (.int .i64 ((rd_T126 l0 x12_1).f0))) (fun _ hk => hk.2) (.int .i64 ((rd_T126 l0 x12_1).f1))) (fun _ hk => hk.2) (.int .i64 ((rd_T126 l0 x12_1).f2))) (fun _ hk => trivial)⟩, ⟨by (with_reducible repeat (first | refine blk_drewN ?_ _ | refine blk_drew ?_ | refine blk_alloc ?_ _)); refine blk_far ?_ NB124_126.out _; (with_reducible repeat (first | refine blk_drewN ?_ _ | refine blk_drew ?_ | refine blk_alloc ?_ _)); refine blk_far ?_ NB124_126.out _; (with_reducible repeat (first | refine blk_drewN ?_ _ | refine blk_drew ?_ | refine blk_alloc ?_ _)); refine blk_far ?_ NB124_126.out _; (with_reducible repeat (first | refine blk_drewN ?_ _ | refine blk_drew ?_ | refine blk_alloc ?_ _)); exact BK124.out⟩, ⟨by (with_reducible repeat (first | refine blk_drewN ?_ _ | refine blk_drew ?_ | refine blk_alloc ?_ _)); refine blk_put (cs := #[.int .i64 ((rd_T126 l0 x12_1).f0), .int .i64 ((rd_T126 l0 x12_1).f1), .int .i64 0]) ?_ 2 _ rfl; (with_reducible repeat (first | refine blk_drewN ?_ _ | refine blk_drew ?_ | refine blk_alloc ?_ _)); refine blk_put (cs := #[.int .i64 ((rd_T126 l0 x12_1).f0), .int .i64 0, .int .i64 0]) ?_ 1 _ rfl; (with_reducible repeat (first | refine blk_drewN ?_ _ | refine blk_drew ?_ | refine blk_alloc ?_ _)); refine blk_put (cs := #[.int .i64 0, .int .i64 0, .int .i64 0]) ?_ 0 _ rfl; (with_reducible repeat (first | refine blk_drewN ?_ _ | refine blk_drew ?_ | refine blk_alloc ?_ _)); exact BK126.out⟩, ⟨by repeat (first | (with_reducible first | exact HB.out | apply below_alloc | apply pw_below_drewN | apply below_drew1 | refine below_set ?_ GE124.out | refine below_set ?_ GE126.out) | exact HB.out)⟩⟩
                · rw [if_neg c13] at H
                  have c13b0 : (((rd_T126 l0 x12_1).f1) == 0) = false := beq_eq_false_iff_ne.mpr c13
                  have c13b1 : (((rd_T126 l0 x12_1).f1) != 0) = true := bne_iff_ne.mpr c13
                  (first | rw [c13b0] | (simp only [i64_w, i32_w]; rw [c13b0]) | skip)
                  have H' := Aside0.mk H
                  clear H
                  have hnb22 := NB126_124.out
                  have hnc22 := NB124_126.out
                  have hcz23_0 : w10.cell? ⟨gb126, 0, none⟩ = some (.int .i64 0) := (blk_cell BK126.out 0).trans rfl
                  have hcz23_1 : w10.cell? ⟨gb126, 1, none⟩ = some (.int .i64 0) := (blk_cell BK126.out 1).trans rfl
                  have hcz23_2 : w10.cell? ⟨gb126, 2, none⟩ = some (.int .i64 0) := (blk_cell BK126.out 2).trans rfl
                  have hfz23_0 := blk_frozen BK126.out 0
                  have hfz23_1 := blk_frozen BK126.out 1
                  have hfz23_2 := blk_frozen BK126.out 2
                  go_wp2
                  go_meet
                  case rel => exact ⟨_, (false), (by first | rfl | (simp; done) | (simp [*]; done)), H', ⟨by have := HK1.out; first | omega | exact Nat.le_refl _⟩, ⟨by (with_reducible repeat (first | apply Kd.R_alloc | apply Kd.R_drewN | apply Kd.R_drew)); exact Kd.R_mono (Kd.R_far (p := ⟨gb126, 2, none⟩) (Kd.R_far (p := ⟨gb126, 1, none⟩) (Kd.R_far (p := ⟨gb126, 0, none⟩) (Kd.R_types HO_3.out BK126.out (by decide)) (fun _ hk => hk.2) (.int .i64 ((rd_T126 l0 x12_1).f0))) (fun _ hk => hk.2) (.int .i64 ((rd_T126 l0 x12_1).f1))) (fun _ hk => hk.2) (.int .i64 ((rd_T126 l0 x12_1).f2))) (fun _ hk => trivial)⟩, ⟨by (with_reducible repeat (first | refine blk_drewN ?_ _ | refine blk_drew ?_ | refine blk_alloc ?_ _)); refine blk_far ?_ NB124_126.out _; (with_reducible repeat (first | refine blk_drewN ?_ _ | refine blk_drew ?_ | refine blk_alloc ?_ _)); refine blk_far ?_ NB124_126.out _; (with_reducible repeat (first | refine blk_drewN ?_ _ | refine blk_drew ?_ | refine blk_alloc ?_ _)); refine blk_far ?_ NB124_126.out _; (with_reducible repeat (first | refine blk_drewN ?_ _ | refine blk_drew ?_ | refine blk_alloc ?_ _)); exact BK124.out⟩, ⟨by (with_reducible repeat (first | refine blk_drewN ?_ _ | refine blk_drew ?_ | refine blk_alloc ?_ _)); refine blk_put (cs := #[.int .i64 ((rd_T126 l0 x12_1).f0), .int .i64 ((rd_T126 l0 x12_1).f1), .int .i64 0]) ?_ 2 _ rfl; (with_reducible repeat (first | refine blk_drewN ?_ _ | refine blk_drew ?_ | refine blk_alloc ?_ _)); refine blk_put (cs := #[.int .i64 ((rd_T126 l0 x12_1).f0), .int .i64 0, .int .i64 0]) ?_ 1 _ rfl; (with_reducible repeat (first | refine blk_drewN ?_ _ | refine blk_drew ?_ | refine blk_alloc ?_ _)); refine blk_put (cs := #[.int .i64 0, .int .i64 0, .int .i64 0]) ?_ 0 _ rfl; (with_reducible repeat (first | refine blk_drewN ?_ _ | refine blk_drew ?_ | refine blk_alloc ?_ _)); exact BK126.out⟩, ⟨by repeat (first | (with_reducible first | exact HB.out | apply below_alloc | apply pw_below_drewN | apply below_drew1 | refine below_set ?_ GE124.out | refine below_set ?_ GE126.out) | exact HB.out)⟩⟩
              case rest =>
                clear HC9
                try clear c1
                try clear p1
                try clear q1
                try clear hx1
                try clear c2
                try clear c2b0
                try clear c2b1
                try clear c2b2
                try clear p2
                try clear c6
                try clear c6b0
                try clear c7
                try clear c7b0
                try clear c8
                try clear c8b0
                try clear c11
                try clear p12
                try clear q12
                try clear hx12
                try clear c13
                try clear c13b0
                try clear c13b1
                try clear c14
                try clear c14b0
                try clear c14b1
                try clear c15
                try clear c15b0
                try clear c16
                try clear c18
                try clear c20
                try clear c22
                try clear hcz12_0
                try clear hcz12_1
                try clear hcz12_2
                try clear hcz17_0
                try clear hcz17_1
                try clear hcz17_2
                try clear hcz19_0
                try clear hcz19_1
                try clear hcz19_2
                try clear hcz21_0
                try clear hcz21_1
                try clear hcz21_2
                try clear hcz23_0
                try clear hcz23_1
                try clear hcz23_2
                try clear hcz4_0
                try clear hcz4_1
                try clear hcz4_2
                try clear hfz12_0
                try clear hfz12_1
                try clear hfz12_2
                try clear hfz17_0
                try clear hfz17_1
                try clear hfz17_2
                try clear hfz19_0
                try clear hfz19_1
                try clear hfz19_2
                try clear hfz21_0
                try clear hfz21_1
                try clear hfz21_2
                try clear hfz23_0
                try clear hfz23_1
                try clear hfz23_2
                try clear hfz4_0
                try clear hfz4_1
                try clear hfz4_2
                try clear hx125_0
                try clear hx125_1
                try clear hx125_2
                try clear p125
                try clear p2
                try clear q125
                obtain ⟨kq, x32_8, rfl, HA, HJ8, HO_3, BK124, BK126, HB⟩ := hcut
                cases kq with
                | zero => exact absurd HA.out (by simp [impl_JoinPieces.j1])
                | succ kj8 =>
                  have H := HA.out
                  clear HA
                  simp only [impl_JoinPieces.j1] at H
                  by_cases c24 : x32_8 = true
                  · subst c24
                    have H1 : (if x3_1.length < 140737488355328 then ((some (x3_1 ++ [(((rd_T126 l0 x12_1).f0)) % 256] : List Int)).bind fun y127 => (if (y127.length : Int) > 40000 then (some (7, ([] : List Int), 0)) else (impl_JoinPieces.l0 kj8 y127 l0 (l0.length : Int) (wrap64 (x12_1 + 1))))) else (none)) = some (r1, r2, r3) := by rw [if_pos rfl] at H; exact H
                    clear H
                    have H := H1
                    clear H1
                    by_cases c25 : x3_1.length < 140737488355328
                    · rw [if_pos c25] at H
                      have LMc25 := Aside0.mk c25
                      clear c25
                      obtain ⟨y127, hy127⟩ : ∃ y_ : List Int, y_ = (x3_1 ++ [(((rd_T126 l0 x12_1).f0)) % 256]) := ⟨_, rfl⟩
                      replace H : (if (y127.length : Int) > 40000 then (some (7, ([] : List Int), 0)) else (impl_JoinPieces.l0 kj8 y127 l0 (l0.length : Int) (wrap64 (x12_1 + 1)))) = some (r1, r2, r3) := by first | (rw [hy127]; with_reducible exact H) | (have H2_ := (Option.bind_some _ _).symm.trans H; rw [hy127]; with_reducible exact H2_) | (have H2_ := (Option.bind_some _ _).symm.trans H; with_reducible exact H2_) | with_reducible exact H | (rw [hy127]; exact H) | exact H
                      have Ny127 := Aside0.mk hy127
                      clear hy127
                      by_cases c26 : (y127.length : Int) > 40000
                      · rw [if_pos c26] at H
                        have c26b0 : decide (40000 < (y127.length : Int)) = true := decide_eq_true c26
                        have c26b1 : decide (40000 < y127.length) = true := decide_eq_true (by omega)
                        have c26b2 : 40000 < y127.length := by omega
                        clear c26
                        simp only [Option.some.injEq, Prod.mk.injEq] at H
                        obtain ⟨rfl, rfl, rfl⟩ := H
                        have hnb27 := NB126_124.out
                        have hnc27 := NB124_126.out
                        have hcz28_0 : wc.cell? ⟨gb126, 0, none⟩ = some (.int .i64 ((rd_T126 l0 x12_1).f0)) := (blk_cell BK126.out 0).trans rfl
                        have hcz28_1 : wc.cell? ⟨gb126, 1, none⟩ = some (.int .i64 ((rd_T126 l0 x12_1).f1)) := (blk_cell BK126.out 1).trans rfl
                        have hcz28_2 : wc.cell? ⟨gb126, 2, none⟩ = some (.int .i64 ((rd_T126 l0 x12_1).f2)) := (blk_cell BK126.out 2).trans rfl
                        have hfz28_0 := blk_frozen BK126.out 0
                        have hfz28_1 := blk_frozen BK126.out 1
                        have hfz28_2 := blk_frozen BK126.out 2
                        go_wp2_with (first | ((with_reducible refine gate_builtin (b := .append) (xs := #[.tmp 51, .tmp 55]) rfl ?_); at_builtin; refine Kd.R_append (Kd.int .u8) (w0 := w) w.heap.size rfl (.tmp 51) (.tmp 55) 36 5 (.int .u8 0) 1 rfl Try.underlying36 info5 rfl (by decide) (by omega) u3 x3_1 ((((rd_T126 l0 x12_1).f0)) % 256) [.int .u8 ((((rd_T126 l0 x12_1).f0)) % 256)] (fun _ => True) (fun _ => False) rfl rfl ?aP (fun _ hk => hk.elim) ?aF ?aO ?aB ?aS ?aL ?_; (case aP => exact rfl); (case aB => exact (by repeat (first | (with_reducible first | exact HB.out | apply below_alloc | apply pw_below_drewN | apply below_drew1 | refine below_set ?_ GE124.out | refine below_set ?_ GE126.out) | exact HB.out))); (case aF => exact (fun _ _ => trivial)); (case aO => exact (by (with_reducible repeat (first | apply Kd.R_alloc | apply Kd.R_drewN | apply Kd.R_drew)); exact HO_3.out)); (case aS => exact (below_size (by repeat (first | (with_reducible first | exact HB.out | apply below_alloc | apply pw_below_drewN | apply below_drew1 | refine below_set ?_ GE124.out | refine below_set ?_ GE126.out) | exact HB.out)))); (case aL => have := LMc25.out; omega); intro v128 w29 ho hb hg hat; rw [← Ny127.out] at ho; have n0_ := Aside0.mk (blk_grown (g := gb124) (o := .cells #[.int .i64 x125000_1, .slice none 0 0, .int .i64 x125002_1] 38 (0, 0)) (by (with_reducible repeat (first | refine blk_drewN ?_ _ | refine blk_drew ?_ | refine blk_alloc ?_ _)); exact BK124.out) hg (Kd.R_ne HO_3.out BK124.out (by decide))); have n1_ := Aside0.mk (blk_grown (g := gb126) (o := .cells #[.int .i64 ((rd_T126 l0 x12_1).f0), .int .i64 ((rd_T126 l0 x12_1).f1), .int .i64 ((rd_T126 l0 x12_1).f2)] 126 (0, 0)) (by (with_reducible repeat (first | refine blk_drewN ?_ _ | refine blk_drew ?_ | refine blk_alloc ?_ _)); exact BK126.out) hg (Kd.R_ne HO_3.out BK126.out (by decide))); have n2_ := Aside0.mk (hb); have n3_ := Aside0.mk (ho); clear BK124; clear BK126; clear HB; clear HO_3; have BK124 := n0_; have BK126 := n1_; have HB := n2_; have HO129 := n3_; clear n0_ n1_ n2_ n3_; clear ho hb hg hat; obtain ⟨Ao30, co30, eo30⟩ := Kd.R_slice HO129.out; subst eo30; have hcz31_0 : w29.cell? ⟨gb124, 0, none⟩ = some (.int .i64 x125000_1) := (blk_cell BK124.out 0).trans rfl; have hcz31_1 : w29.cell? ⟨gb124, 1, none⟩ = some (.slice none 0 0) := (blk_cell BK124.out 1).trans rfl; have hcz31_2 : w29.cell? ⟨gb124, 2, none⟩ = some (.int .i64 x125002_1) := (blk_cell BK124.out 2).trans rfl; have hfz31_0 := blk_frozen BK124.out 0; have hfz31_1 := blk_frozen BK124.out 1; have hfz31_2 := blk_frozen BK124.out 2))
                        refine bodyPost_ret (results_cell_row rfl _ _ gb124 38 #[.int .i64 7, .slice none 0 0, .int .i64 0] (0, 0) _ rfl (by (with_reducible repeat (first | refine blk_drewN ?_ _ | refine blk_drew ?_ | refine blk_alloc ?_ _)); refine blk_put (cs := #[.int .i64 7, .slice none 0 0, .int .i64 x125002_1]) ?_ 2 _ rfl; (with_reducible repeat (first | refine blk_drewN ?_ _ | refine blk_drew ?_ | refine blk_alloc ?_ _)); refine blk_put (cs := #[.int .i64 7, .slice none 0 0, .int .i64 x125002_1]) ?_ 1 _ rfl; (with_reducible repeat (first | refine blk_drewN ?_ _ | refine blk_drew ?_ | refine blk_alloc ?_ _)); refine blk_put (cs := #[.int .i64 x125000_1, .slice none 0 0, .int .i64 x125002_1]) ?_ 0 _ rfl; (with_reducible repeat (first | refine blk_drewN ?_ _ | refine blk_drew ?_ | refine blk_alloc ?_ _)); exact BK124.out) Try.underlying38 rfl (by kernel_rfl)) rfl ?_
                        exact ⟨_, by first | rfl | (simp [errW_none, errW_some] <;> rfl) | (simp [*, errW_none, errW_some] <;> rfl), by first | exact Kd.R_nil _ _ _ _ _ | exact Kd.N_nil _ _ _ _ _ | exact Kd.V_nil _ _ _ _ _ | exact Kd.Q_nil _ _ _ _ _ | exact Kd.S_nil _ _ _ _ _, by repeat (first | (with_reducible first | exact HB.out | apply below_alloc | apply pw_below_drewN | apply below_drew1 | refine below_set ?_ GE124.out | refine below_set ?_ GE126.out) | exact HB.out)⟩
                      · rw [if_neg c26] at H
                        have c26b0 : decide (40000 < (y127.length : Int)) = false := decide_eq_false c26
                        have c26b1 : decide (40000 < y127.length) = false := decide_eq_false (by omega)
                        have c26b2 : ¬ (40000 < y127.length) := by omega
                        clear c26
                        have H' := Aside0.mk H
                        clear H
                        have hnb32 := NB126_124.out
                        have hnc32 := NB124_126.out
                        have hcz33_0 : wc.cell? ⟨gb126, 0, none⟩ = some (.int .i64 ((rd_T126 l0 x12_1).f0)) := (blk_cell BK126.out 0).trans rfl
                        have hcz33_1 : wc.cell? ⟨gb126, 1, none⟩ = some (.int .i64 ((rd_T126 l0 x12_1).f1)) := (blk_cell BK126.out 1).trans rfl
                        have hcz33_2 : wc.cell? ⟨gb126, 2, none⟩ = some (.int .i64 ((rd_T126 l0 x12_1).f2)) := (blk_cell BK126.out 2).trans rfl
                        have hfz33_0 := blk_frozen BK126.out 0
                        have hfz33_1 := blk_frozen BK126.out 1
                        have hfz33_2 := blk_frozen BK126.out 2
                        go_wp2_with (first | ((with_reducible refine gate_builtin (b := .append) (xs := #[.tmp 51, .tmp 55]) rfl ?_); at_builtin; refine Kd.R_append (Kd.int .u8) (w0 := w) w.heap.size rfl (.tmp 51) (.tmp 55) 36 5 (.int .u8 0) 1 rfl Try.underlying36 info5 rfl (by decide) (by omega) u3 x3_1 ((((rd_T126 l0 x12_1).f0)) % 256) [.int .u8 ((((rd_T126 l0 x12_1).f0)) % 256)] (fun _ => True) (fun _ => False) rfl rfl ?aP (fun _ hk => hk.elim) ?aF ?aO ?aB ?aS ?aL ?_; (case aP => exact rfl); (case aB => exact (by repeat (first | (with_reducible first | exact HB.out | apply below_alloc | apply pw_below_drewN | apply below_drew1 | refine below_set ?_ GE124.out | refine below_set ?_ GE126.out) | exact HB.out))); (case aF => exact (fun _ _ => trivial)); (case aO => exact (by (with_reducible repeat (first | apply Kd.R_alloc | apply Kd.R_drewN | apply Kd.R_drew)); exact HO_3.out)); (case aS => exact (below_size (by repeat (first | (with_reducible first | exact HB.out | apply below_alloc | apply pw_below_drewN | apply below_drew1 | refine below_set ?_ GE124.out | refine below_set ?_ GE126.out) | exact HB.out)))); (case aL => have := LMc25.out; omega); intro v128 w34 ho hb hg hat; rw [← Ny127.out] at ho; have n0_ := Aside0.mk (blk_grown (g := gb124) (o := .cells #[.int .i64 x125000_1, .slice none 0 0, .int .i64 x125002_1] 38 (0, 0)) (by (with_reducible repeat (first | refine blk_drewN ?_ _ | refine blk_drew ?_ | refine blk_alloc ?_ _)); exact BK124.out) hg (Kd.R_ne HO_3.out BK124.out (by decide))); have n1_ := Aside0.mk (blk_grown (g := gb126) (o := .cells #[.int .i64 ((rd_T126 l0 x12_1).f0), .int .i64 ((rd_T126 l0 x12_1).f1), .int .i64 ((rd_T126 l0 x12_1).f2)] 126 (0, 0)) (by (with_reducible repeat (first | refine blk_drewN ?_ _ | refine blk_drew ?_ | refine blk_alloc ?_ _)); exact BK126.out) hg (Kd.R_ne HO_3.out BK126.out (by decide))); have n2_ := Aside0.mk (hb); have n3_ := Aside0.mk (ho); clear BK124; clear BK126; clear HB; clear HO_3; have BK124 := n0_; have BK126 := n1_; have HB := n2_; have HO129 := n3_; clear n0_ n1_ n2_ n3_; clear ho hb hg hat; obtain ⟨Ao35, co35, eo35⟩ := Kd.R_slice HO129.out; subst eo35))
                        go_roundg kj8
                        case measure => have := HK1.out; have := HJ8.out; omega
                        case rel => exact ⟨(y127), (wrap64 (x12_1 + 1)), (x125000_1), (x125002_1), (by first | rfl | (simp; done) | (simp [*]; done)), H', ⟨by have := HK1.out; have := HJ8.out; omega⟩, ⟨by (with_reducible repeat (first | apply Kd.R_alloc | apply Kd.R_drewN | apply Kd.R_drew)); exact HO129.out⟩, ⟨by (with_reducible repeat (first | refine blk_drewN ?_ _ | refine blk_drew ?_ | refine blk_alloc ?_ _)); exact BK124.out⟩, ⟨by repeat (first | (with_reducible first | exact HB.out | apply below_alloc | apply pw_below_drewN | apply below_drew1 | refine below_set ?_ GE124.out | refine below_set ?_ GE126.out) | exact HB.out)⟩⟩
                    · rw [if_neg c25] at H
                      exact absurd H (by simp)
                  · replace c24 := Bool.eq_false_iff.mpr c24
                    subst c24
                    have H1 : (if ((rd_T126 l0 x12_1).f0) = 0 then (if ((rd_T126 l0 x12_1).f1) < 3 then (impl_JoinPieces.j2 kj8 x3_1 l0 (l0.length : Int) x12_1 true ((rd_T126 l0 x12_1).f0) ((rd_T126 l0 x12_1).f1) ((rd_T126 l0 x12_1).f2)) else (if ((rd_T126 l0 x12_1).f1) > 258 then (impl_JoinPieces.j2 kj8 x3_1 l0 (l0.length : Int) x12_1 true ((rd_T126 l0 x12_1).f0) ((rd_T126 l0 x12_1).f1) ((rd_T126 l0 x12_1).f2)) else (if ((rd_T126 l0 x12_1).f2) < 1 then (impl_JoinPieces.j2 kj8 x3_1 l0 (l0.length : Int) x12_1 true ((rd_T126 l0 x12_1).f0) ((rd_T126 l0 x12_1).f1) ((rd_T126 l0 x12_1).f2)) else (impl_JoinPieces.j2 kj8 x3_1 l0 (l0.length : Int) x12_1 (decide (((rd_T126 l0 x12_1).f2) > 32768)) ((rd_T126 l0 x12_1).f0) ((rd_T126 l0 x12_1).f1) ((rd_T126 l0 x12_1).f2))))) else (impl_JoinPieces.j2 kj8 x3_1 l0 (l0.length : Int) x12_1 true ((rd_T126 l0 x12_1).f0) ((rd_T126 l0 x12_1).f1) ((rd_T126 l0 x12_1).f2))) = some (r1, r2, r3) := by rw [if_neg (show ¬ (false = true) by decide)] at H; exact H
                    clear H
                    have H := H1
                    clear H1
                    have HC36 := Aside0.mk H
                    clear H
                    go_upto_region 13 with (fail)
                    go_cut [57] (fun v57 wc => ∃ (kq : Nat) (x57_35 : Bool), v57 = .bool x57_35 ∧ Aside0 (impl_JoinPieces.j2 kq x3_1 l0 (l0.length : Int) x12_1 x57_35 ((rd_T126 l0 x12_1).f0) ((rd_T126 l0 x12_1).f1) ((rd_T126 l0 x12_1).f2) = some (r1, r2, r3)) ∧ Aside0 (kq ≤ kj8) ∧ Aside0 (Kd.R (Kd.int .u8) 5 wc w.heap.size (fun _ => True) u3 x3_1) ∧ Aside0 (wc.heap[gb124]? = some (.cells #[.int .i64 x125000_1, (.slice none 0 0), .int .i64 x125002_1] 38 (0, 0))) ∧ Aside0 (wc.heap[gb126]? = some (.cells #[.int .i64 ((rd_T126 l0 x12_1).f0), .int .i64 ((rd_T126 l0 x12_1).f1), .int .i64 ((rd_T126 l0 x12_1).f2)] 126 (0, 0))) ∧ Aside0 (Below w.heap.size w wc))
                    case first =>
                      have H := HC36.out
                      clear HC36
                      by_cases c37 : ((rd_T126 l0 x12_1).f0) = 0
                      · rw [if_pos c37] at H
                        have c37b0 : (((rd_T126 l0 x12_1).f0) == 0) = true := beq_iff_eq.mpr c37
                        have c37b1 : (((rd_T126 l0 x12_1).f0) != 0) = false := bne_eq_false_iff_eq.mpr c37
                        clear c37
                        (first | rw [c37b0] | (simp only [i64_w, i32_w]; rw [c37b0]) | skip)
                        by_cases c38 : ((rd_T126 l0 x12_1).f1) < 3
                        · rw [if_pos c38] at H
                          have c38b0 : decide (((rd_T126 l0 x12_1).f1) < 3) = true := decide_eq_true c38
                          clear c38
                          have H' := Aside0.mk H
                          clear H
                          have hnb39 := NB126_124.out
                          have hnc39 := NB124_126.out
                          have hcz40_0 : wc.cell? ⟨gb126, 0, none⟩ = some (.int .i64 ((rd_T126 l0 x12_1).f0)) := (blk_cell BK126.out 0).trans rfl
                          have hcz40_1 : wc.cell? ⟨gb126, 1, none⟩ = some (.int .i64 ((rd_T126 l0 x12_1).f1)) := (blk_cell BK126.out 1).trans rfl
                          have hcz40_2 : wc.cell? ⟨gb126, 2, none⟩ = some (.int .i64 ((rd_T126 l0 x12_1).f2)) := (blk_cell BK126.out 2).trans rfl
                          have hfz40_0 := blk_frozen BK126.out 0
                          have hfz40_1 := blk_frozen BK126.out 1
                          have hfz40_2 := blk_frozen BK126.out 2
                          go_wp2
                          go_meet
                          case rel => exact ⟨_, (true), (by first | rfl | (simp; done) | (simp [*]; done)), H', ⟨by have := HK1.out; have := HJ8.out; first | omega | exact Nat.le_refl _⟩, ⟨by (with_reducible repeat (first | apply Kd.R_alloc | apply Kd.R_drewN | apply Kd.R_drew)); exact HO_3.out⟩, ⟨by (with_reducible repeat (first | refine blk_drewN ?_ _ | refine blk_drew ?_ | refine blk_alloc ?_ _)); exact BK124.out⟩, ⟨by (with_reducible repeat (first | refine blk_drewN ?_ _ | refine blk_drew ?_ | refine blk_alloc ?_ _)); exact BK126.out⟩, ⟨by repeat (first | (with_reducible first | exact HB.out | apply below_alloc | apply pw_below_drewN | apply below_drew1 | refine below_set ?_ GE124.out | refine below_set ?_ GE126.out) | exact HB.out)⟩⟩
                        · rw [if_neg c38] at H
                          have c38b0 : decide (((rd_T126 l0 x12_1).f1) < 3) = false := decide_eq_false c38
                          clear c38
                          by_cases c41 : ((rd_T126 l0 x12_1).f1) > 258
                          · rw [if_pos c41] at H
                            have c41b0 : decide (258 < ((rd_T126 l0 x12_1).f1)) = true := decide_eq_true c41
                            clear c41
                            have H' := Aside0.mk H
                            clear H
                            have hnb42 := NB126_124.out
                            have hnc42 := NB124_126.out
                            have hcz43_0 : wc.cell? ⟨gb126, 0, none⟩ = some (.int .i64 ((rd_T126 l0 x12_1).f0)) := (blk_cell BK126.out 0).trans rfl
                            have hcz43_1 : wc.cell? ⟨gb126, 1, none⟩ = some (.int .i64 ((rd_T126 l0 x12_1).f1)) := (blk_cell BK126.out 1).trans rfl
                            have hcz43_2 : wc.cell? ⟨gb126, 2, none⟩ = some (.int .i64 ((rd_T126 l0 x12_1).f2)) := (blk_cell BK126.out 2).trans rfl
                            have hfz43_0 := blk_frozen BK126.out 0
                            have hfz43_1 := blk_frozen BK126.out 1
                            have hfz43_2 := blk_frozen BK126.out 2
                            go_wp2
                            go_meet
                            case rel => exact ⟨_, (true), (by first | rfl | (simp; done) | (simp [*]; done)), H', ⟨by have := HK1.out; have := HJ8.out; first | omega | exact Nat.le_refl _⟩, ⟨by (with_reducible repeat (first | apply Kd.R_alloc | apply Kd.R_drewN | apply Kd.R_drew)); exact HO_3.out⟩, ⟨by (with_reducible repeat (first | refine blk_drewN ?_ _ | refine blk_drew ?_ | refine blk_alloc ?_ _)); exact BK124.out⟩, ⟨by (with_reducible repeat (first | refine blk_drewN ?_ _ | refine blk_drew ?_ | refine blk_alloc ?_ _)); exact BK126.out⟩, ⟨by repeat (first | (with_reducible first | exact HB.out | apply below_alloc | apply pw_below_drewN | apply below_drew1 | refine below_set ?_ GE124.out | refine below_set ?_ GE126.out) | exact HB.out)⟩⟩
                          · rw [if_neg c41] at H
                            have c41b0 : decide (258 < ((rd_T126 l0 x12_1).f1)) = false := decide_eq_false c41
                            clear c41
                            by_cases c44 : ((rd_T126 l0 x12_1).f2) < 1
                            · rw [if_pos c44] at H
                              have c44b0 : decide (((rd_T126 l0 x12_1).f2) < 1) = true := decide_eq_true c44
                              clear c44
                              have H' := Aside0.mk H
                              clear H
                              have hnb45 := NB126_124.out
                              have hnc45 := NB124_126.out
                              have hcz46_0 : wc.cell? ⟨gb126, 0, none⟩ = some (.int .i64 ((rd_T126 l0 x12_1).f0)) := (blk_cell BK126.out 0).trans rfl
                              have hcz46_1 : wc.cell? ⟨gb126, 1, none⟩ = some (.int .i64 ((rd_T126 l0 x12_1).f1)) := (blk_cell BK126.out 1).trans rfl
                              have hcz46_2 : wc.cell? ⟨gb126, 2, none⟩ = some (.int .i64 ((rd_T126 l0 x12_1).f2)) := (blk_cell BK126.out 2).trans rfl
                              have hfz46_0 := blk_frozen BK126.out 0
                              have hfz46_1 := blk_frozen BK126.out 1
                              have hfz46_2 := blk_frozen BK126.out 2
                              go_wp2
                              go_meet
                              case rel => exact ⟨_, (true), (by first | rfl | (simp; done) | (simp [*]; done)), H', ⟨by have := HK1.out; have := HJ8.out; first | omega | exact Nat.le_refl _⟩, ⟨by (with_reducible repeat (first | apply Kd.R_alloc | apply Kd.R_drewN | apply Kd.R_drew)); exact HO_3.out⟩, ⟨by (with_reducible repeat (first | refine blk_drewN ?_ _ | refine blk_drew ?_ | refine blk_alloc ?_ _)); exact BK124.out⟩, ⟨by (with_reducible repeat (first | refine blk_drewN ?_ _ | refine blk_drew ?_ | refine blk_alloc ?_ _)); exact BK126.out⟩, ⟨by repeat (first | (with_reducible first | exact HB.out | apply below_alloc | apply pw_below_drewN | apply below_drew1 | refine below_set ?_ GE124.out | refine below_set ?_ GE126.out) | exact HB.out)⟩⟩
                            · rw [if_neg c44] at H
                              have c44b0 : decide (((rd_T126 l0 x12_1).f2) < 1) = false := decide_eq_false c44
                              clear c44
                              have H' := Aside0.mk H
                              clear H
                              have hnb47 := NB126_124.out
                              have hnc47 := NB124_126.out
                              have hcz48_0 : wc.cell? ⟨gb126, 0, none⟩ = some (.int .i64 ((rd_T126 l0 x12_1).f0)) := (blk_cell BK126.out 0).trans rfl
                              have hcz48_1 : wc.cell? ⟨gb126, 1, none⟩ = some (.int .i64 ((rd_T126 l0 x12_1).f1)) := (blk_cell BK126.out 1).trans rfl
                              have hcz48_2 : wc.cell? ⟨gb126, 2, none⟩ = some (.int .i64 ((rd_T126 l0 x12_1).f2)) := (blk_cell BK126.out 2).trans rfl
                              have hfz48_0 := blk_frozen BK126.out 0
                              have hfz48_1 := blk_frozen BK126.out 1
                              have hfz48_2 := blk_frozen BK126.out 2
                              go_wp2
                              go_meet
                              case rel => exact ⟨_, (decide (((rd_T126 l0 x12_1).f2) > 32768)), (by first | rfl | (simp; done) | (simp [*]; done)), H', ⟨by have := HK1.out; have := HJ8.out; first | omega | exact Nat.le_refl _⟩, ⟨by (with_reducible repeat (first | apply Kd.R_alloc | apply Kd.R_drewN | apply Kd.R_drew)); exact HO_3.out⟩, ⟨by (with_reducible repeat (first | refine blk_drewN ?_ _ | refine blk_drew ?_ | refine blk_alloc ?_ _)); exact BK124.out⟩, ⟨by (with_reducible repeat (first | refine blk_drewN ?_ _ | refine blk_drew ?_ | refine blk_alloc ?_ _)); exact BK126.out⟩, ⟨by repeat (first | (with_reducible first | exact HB.out | apply below_alloc | apply pw_below_drewN | apply below_drew1 | refine below_set ?_ GE124.out | refine below_set ?_ GE126.out) | exact HB.out)⟩⟩
                      · rw [if_neg c37] at H
                        have c37b0 : (((rd_T126 l0 x12_1).f0) == 0) = false := beq_eq_false_iff_ne.mpr c37
                        have c37b1 : (((rd_T126 l0 x12_1).f0) != 0) = true := bne_iff_ne.mpr c37
                        (first | rw [c37b0] | (simp only [i64_w, i32_w]; rw [c37b0]) | skip)
                        have H' := Aside0.mk H
                        clear H
                        have hnb49 := NB126_124.out
                        have hnc49 := NB124_126.out
                        have hcz50_0 : wc.cell? ⟨gb126, 0, none⟩ = some (.int .i64 ((rd_T126 l0 x12_1).f0)) := (blk_cell BK126.out 0).trans rfl
                        have hcz50_1 : wc.cell? ⟨gb126, 1, none⟩ = some (.int .i64 ((rd_T126 l0 x12_1).f1)) := (blk_cell BK126.out 1).trans rfl
                        have hcz50_2 : wc.cell? ⟨gb126, 2, none⟩ = some (.int .i64 ((rd_T126 l0 x12_1).f2)) := (blk_cell BK126.out 2).trans rfl
                        have hfz50_0 := blk_frozen BK126.out 0
                        have hfz50_1 := blk_frozen BK126.out 1
                        have hfz50_2 := blk_frozen BK126.out 2
                        go_wp2
                        go_meet
                        case rel => exact ⟨_, (true), (by first | rfl | (simp; done) | (simp [*]; done)), H', ⟨by have := HK1.out; have := HJ8.out; first | omega | exact Nat.le_refl _⟩, ⟨by (with_reducible repeat (first | apply Kd.R_alloc | apply Kd.R_drewN | apply Kd.R_drew)); exact HO_3.out⟩, ⟨by (with_reducible repeat (first | refine blk_drewN ?_ _ | refine blk_drew ?_ | refine blk_alloc ?_ _)); exact BK124.out⟩, ⟨by (with_reducible repeat (first | refine blk_drewN ?_ _ | refine blk_drew ?_ | refine blk_alloc ?_ _)); exact BK126.out⟩, ⟨by repeat (first | (with_reducible first | exact HB.out | apply below_alloc | apply pw_below_drewN | apply below_drew1 | refine below_set ?_ GE124.out | refine below_set ?_ GE126.out) | exact HB.out)⟩⟩
                    case rest =>
                      clear HC36
                      try clear c1
                      try clear p1
                      try clear q1
                      try clear hx1
                      try clear c2
                      try clear c2b0
                      try clear c2b1
                      try clear c2b2
                      try clear p2
                      try clear c3
                      try clear c4
                      try clear c6
                      try clear c6b0
                      try clear p6
                      try clear c7
                      try clear c7b0
                      try clear c8
                      try clear c8b0
                      try clear c11
                      try clear p12
                      try clear q12
                      try clear hx12
                      try clear c13
                      try clear c13b0
                      try clear c13b1
                      try clear c14
                      try clear c14b0
                      try clear c14b1
                      try clear c15
                      try clear c15b0
                      try clear c16
                      try clear c18
                      try clear c20
                      try clear c22
                      try clear c24
                      try clear c25
                      try clear c26
                      try clear c26b0
                      try clear c26b1
                      try clear c26b2
                      try clear c27
                      try clear c32
                      try clear c37
                      try clear c37b0
                      try clear c37b1
                      try clear c38
                      try clear c38b0
                      try clear c39
                      try clear c41
                      try clear c41b0
                      try clear c42
                      try clear c44
                      try clear c44b0
                      try clear c45
                      try clear c47
                      try clear c49
                      try clear hcz12_0
                      try clear hcz12_1
                      try clear hcz12_2
                      try clear hcz17_0
                      try clear hcz17_1
                      try clear hcz17_2
                      try clear hcz19_0
                      try clear hcz19_1
                      try clear hcz19_2
                      try clear hcz21_0
                      try clear hcz21_1
                      try clear hcz21_2
                      try clear hcz23_0
                      try clear hcz23_1
                      try clear hcz23_2
                      try clear hcz28_0
                      try clear hcz28_1
                      try clear hcz28_2
                      try clear hcz31_0
                      try clear hcz31_1
                      try clear hcz31_2
                      try clear hcz33_0
                      try clear hcz33_1
                      try clear hcz33_2
                      try clear hcz40_0
                      try clear hcz40_1
                      try clear hcz40_2
                      try clear hcz43_0
                      try clear hcz43_1
                      try clear hcz43_2
                      try clear hcz46_0
                      try clear hcz46_1
                      try clear hcz46_2
                      try clear hcz48_0
                      try clear hcz48_1
                      try clear hcz48_2
                      try clear hcz4_0
                      try clear hcz4_1
                      try clear hcz4_2
                      try clear hcz50_0
                      try clear hcz50_1
                      try clear hcz50_2
                      try clear hfz12_0
                      try clear hfz12_1
                      try clear hfz12_2
                      try clear hfz17_0
                      try clear hfz17_1
                      try clear hfz17_2
                      try clear hfz19_0
                      try clear hfz19_1
                      try clear hfz19_2
                      try clear hfz21_0
                      try clear hfz21_1
                      try clear hfz21_2
                      try clear hfz23_0
                      try clear hfz23_1
                      try clear hfz23_2
                      try clear hfz28_0
                      try clear hfz28_1
                      try clear hfz28_2
                      try clear hfz31_0
                      try clear hfz31_1
                      try clear hfz31_2
                      try clear hfz33_0
                      try clear hfz33_1
                      try clear hfz33_2
                      try clear hfz40_0
                      try clear hfz40_1
                      try clear hfz40_2
                      try clear hfz43_0
                      try clear hfz43_1
                      try clear hfz43_2
                      try clear hfz46_0
                      try clear hfz46_1
                      try clear hfz46_2
                      try clear hfz48_0
                      try clear hfz48_1
                      try clear hfz48_2
                      try clear hfz4_0
                      try clear hfz4_1
                      try clear hfz4_2
                      try clear hfz50_0
                      try clear hfz50_1
                      try clear hfz50_2
                      try clear hx125_0
                      try clear hx125_1
                      try clear hx125_2
                      try clear p1
                      try clear p12
                      try clear p125
                      try clear p2
                      try clear q1
                      try clear q12
                      try clear q125
                      obtain ⟨kq, x57_35, rfl, HA, HJ35, HO_3, BK124, BK126, HB⟩ := hcut
                      cases kq with
                      | zero => exact absurd HA.out (by simp [impl_JoinPieces.j2])
                      | succ kj35 =>
                        have H := HA.out
                        clear HA
                        simp only [impl_JoinPieces.j2] at H
                        by_cases c51 : x57_35 = true
                        · subst c51
                          have H1 : (some (1, ([] : List Int), 0)) = some (r1, r2, r3) := by rw [if_pos rfl] at H; exact H
                          clear H
                          have H := H1
                          clear H1
                          simp only [Option.some.injEq, Prod.mk.injEq] at H
                          obtain ⟨rfl, rfl, rfl⟩ := H
                          have hnb52 := NB124_126.out
                          have hnc52 := NB126_124.out
                          have hcz53_0 : wc.cell? ⟨gb124, 0, none⟩ = some (.int .i64 x125000_1) := (blk_cell BK124.out 0).trans rfl
                          have hcz53_1 : wc.cell? ⟨gb124, 1, none⟩ = some (.slice none 0 0) := (blk_cell BK124.out 1).trans rfl
                          have hcz53_2 : wc.cell? ⟨gb124, 2, none⟩ = some (.int .i64 x125002_1) := (blk_cell BK124.out 2).trans rfl
                          have hfz53_0 := blk_frozen BK124.out 0
                          have hfz53_1 := blk_frozen BK124.out 1
                          have hfz53_2 := blk_frozen BK124.out 2
                          go_wp2
                          refine bodyPost_ret (results_cell_row rfl _ _ gb124 38 #[.int .i64 1, .slice none 0 0, .int .i64 0] (0, 0) _ rfl (by (with_reducible repeat (first | refine blk_drewN ?_ _ | refine blk_drew ?_ | refine blk_alloc ?_ _)); refine blk_put (cs := #[.int .i64 1, .slice none 0 0, .int .i64 x125002_1]) ?_ 2 _ rfl; (with_reducible repeat (first | refine blk_drewN ?_ _ | refine blk_drew ?_ | refine blk_alloc ?_ _)); refine blk_put (cs := #[.int .i64 1, .slice none 0 0, .int .i64 x125002_1]) ?_ 1 _ rfl; (with_reducible repeat (first | refine blk_drewN ?_ _ | refine blk_drew ?_ | refine blk_alloc ?_ _)); refine blk_put (cs := #[.int .i64 x125000_1, .slice none 0 0, .int .i64 x125002_1]) ?_ 0 _ rfl; (with_reducible repeat (first | refine blk_drewN ?_ _ | refine blk_drew ?_ | refine blk_alloc ?_ _)); exact BK124.out) Try.underlying38 rfl (by kernel_rfl)) rfl ?_
                          exact ⟨_, by first | rfl | (simp [errW_none, errW_some] <;> rfl) | (simp [*, errW_none, errW_some] <;> rfl), by first | exact Kd.R_nil _ _ _ _ _ | exact Kd.N_nil _ _ _ _ _ | exact Kd.V_nil _ _ _ _ _ | exact Kd.Q_nil _ _ _ _ _ | exact Kd.S_nil _ _ _ _ _, by repeat (first | (with_reducible first | exact HB.out | apply below_alloc | apply pw_below_drewN | apply below_drew1 | refine below_set ?_ GE124.out | refine below_set ?_ GE126.out) | exact HB.out)⟩
                        · replace c51 := Bool.eq_false_iff.mpr c51
                          subst c51
                          have H1 : (if ((rd_T126 l0 x12_1).f2) > (x3_1.length : Int) then (some (5, ([] : List Int), 0)) else (impl_JoinPieces.l1 kj35 x3_1 l0 (l0.length : Int) x12_1 ((rd_T126 l0 x12_1).f1) 0 ((rd_T126 l0 x12_1).f0) ((rd_T126 l0 x12_1).f1) ((rd_T126 l0 x12_1).f2))) = some (r1, r2, r3) := by rw [if_neg (show ¬ (false = true) by decide)] at H; exact H
                          clear H
                          have H := H1
                          clear H1
                          by_cases c54 : ((rd_T126 l0 x12_1).f2) > (x3_1.length : Int)
                          · rw [if_pos c54] at H
                            have c54b0 : decide ((x3_1.length : Int) < ((rd_T126 l0 x12_1).f2)) = true := decide_eq_true c54
                            clear c54
                            simp only [Option.some.injEq, Prod.mk.injEq] at H
                            obtain ⟨rfl, rfl, rfl⟩ := H
                            have hnb55 := NB126_124.out
                            have hnc55 := NB124_126.out
                            have hcz56_0 : wc.cell? ⟨gb126, 0, none⟩ = some (.int .i64 ((rd_T126 l0 x12_1).f0)) := (blk_cell BK126.out 0).trans rfl
                            have hcz56_1 : wc.cell? ⟨gb126, 1, none⟩ = some (.int .i64 ((rd_T126 l0 x12_1).f1)) := (blk_cell BK126.out 1).trans rfl
                            have hcz56_2 : wc.cell? ⟨gb126, 2, none⟩ = some (.int .i64 ((rd_T126 l0 x12_1).f2)) := (blk_cell BK126.out 2).trans rfl
                            have hfz56_0 := blk_frozen BK126.out 0
                            have hfz56_1 := blk_frozen BK126.out 1
                            have hfz56_2 := blk_frozen BK126.out 2
                            obtain ⟨Ao57, co57, eo57⟩ := Kd.R_slice HO_3.out
                            subst eo57
                            have hcz58_0 : wc.cell? ⟨gb124, 0, none⟩ = some (.int .i64 x125000_1) := (blk_cell BK124.out 0).trans rfl
                            have hcz58_1 : wc.cell? ⟨gb124, 1, none⟩ = some (.slice none 0 0) := (blk_cell BK124.out 1).trans rfl
                            have hcz58_2 : wc.cell? ⟨gb124, 2, none⟩ = some (.int .i64 x125002_1) := (blk_cell BK124.out 2).trans rfl
                            have hfz58_0 := blk_frozen BK124.out 0
                            have hfz58_1 := blk_frozen BK124.out 1
                            have hfz58_2 := blk_frozen BK124.out 2
                            go_wp2
                            refine bodyPost_ret (results_cell_row rfl _ _ gb124 38 #[.int .i64 5, .slice none 0 0, .int .i64 0] (0, 0) _ rfl (by (with_reducible repeat (first | refine blk_drewN ?_ _ | refine blk_drew ?_ | refine blk_alloc ?_ _)); refine blk_put (cs := #[.int .i64 5, .slice none 0 0, .int .i64 x125002_1]) ?_ 2 _ rfl; (with_reducible repeat (first | refine blk_drewN ?_ _ | refine blk_drew ?_ | refine blk_alloc ?_ _)); refine blk_put (cs := #[.int .i64 5, .slice none 0 0, .int .i64 x125002_1]) ?_ 1 _ rfl; (with_reducible repeat (first | refine blk_drewN ?_ _ | refine blk_drew ?_ | refine blk_alloc ?_ _)); refine blk_put (cs := #[.int .i64 x125000_1, .slice none 0 0, .int .i64 x125002_1]) ?_ 0 _ rfl; (with_reducible repeat (first | refine blk_drewN ?_ _ | refine blk_drew ?_ | refine blk_alloc ?_ _)); exact BK124.out) Try.underlying38 rfl (by kernel_rfl)) rfl ?_
                            exact ⟨_, by first | rfl | (simp [errW_none, errW_some] <;> rfl) | (simp [*, errW_none, errW_some] <;> rfl), by first | exact Kd.R_nil _ _ _ _ _ | exact Kd.N_nil _ _ _ _ _ | exact Kd.V_nil _ _ _ _ _ | exact Kd.Q_nil _ _ _ _ _ | exact Kd.S_nil _ _ _ _ _, by repeat (first | (with_reducible first | exact HB.out | apply below_alloc | apply pw_below_drewN | apply below_drew1 | refine below_set ?_ GE124.out | refine below_set ?_ GE126.out) | exact HB.out)⟩
                          · rw [if_neg c54] at H
                            have c54b0 : decide ((x3_1.length : Int) < ((rd_T126 l0 x12_1).f2)) = false := decide_eq_false c54
                            clear c54
                            have H' := Aside0.mk H
                            clear H
                            have hnb59 := NB126_124.out
                            have hnc59 := NB124_126.out
                            have hcz60_0 : wc.cell? ⟨gb126, 0, none⟩ = some (.int .i64 ((rd_T126 l0 x12_1).f0)) := (blk_cell BK126.out 0).trans rfl
                            have hcz60_1 : wc.cell? ⟨gb126, 1, none⟩ = some (.int .i64 ((rd_T126 l0 x12_1).f1)) := (blk_cell BK126.out 1).trans rfl
                            have hcz60_2 : wc.cell? ⟨gb126, 2, none⟩ = some (.int .i64 ((rd_T126 l0 x12_1).f2)) := (blk_cell BK126.out 2).trans rfl
                            have hfz60_0 := blk_frozen BK126.out 0
                            have hfz60_1 := blk_frozen BK126.out 1
                            have hfz60_2 := blk_frozen BK126.out 2
                            obtain ⟨Ao61, co61, eo61⟩ := Kd.R_slice HO_3.out
                            subst eo61
                            go_wp2
                            go_loopg [3, 18] kj35 (fun kq v3 v18 w' => ∃ (x3_4 : List Int) (x18_4 : Int), v18 = .int .i64 x18_4 ∧ Aside0 (impl_JoinPieces.l1 kq x3_4 l0 (l0.length : Int) x12_1 ((rd_T126 l0 x12_1).f1) x18_4 ((rd_T126 l0 x12_1).f0) ((rd_T126 l0 x12_1).f1) ((rd_T126 l0 x12_1).f2) = some (r1, r2, r3)) ∧ Aside0 (kq ≤ kj35) ∧ Aside0 (Kd.R (Kd.int .u8) 5 w' w.heap.size (fun _ => True) v3 x3_4) ∧ Aside0 (w'.heap[gb124]? = some (.cells #[.int .i64 x125000_1, (.slice none 0 0), .int .i64 x125002_1] 38 (0, 0))) ∧ Aside0 (w'.heap[gb126]? = some (.cells #[.int .i64 ((rd_T126 l0 x12_1).f0), .int .i64 ((rd_T126 l0 x12_1).f1), .int .i64 ((rd_T126 l0 x12_1).f2)] 126 (0, 0))) ∧ Aside0 (Below w.heap.size w w'))
                            case atStart => exact ⟨(x3_1), (0), (by first | rfl | (simp; done) | (simp [*]; done)), H', ⟨Nat.le_refl _⟩, ⟨by (with_reducible repeat (first | apply Kd.R_alloc | apply Kd.R_drewN | apply Kd.R_drew)); exact HO_3.out⟩, ⟨by (with_reducible repeat (first | refine blk_drewN ?_ _ | refine blk_drew ?_ | refine blk_alloc ?_ _)); exact BK124.out⟩, ⟨by (with_reducible repeat (first | refine blk_drewN ?_ _ | refine blk_drew ?_ | refine blk_alloc ?_ _)); exact BK126.out⟩, ⟨by repeat (first | (with_reducible first | exact HB.out | apply below_alloc | apply pw_below_drewN | apply below_drew1 | refine below_set ?_ GE124.out | refine below_set ?_ GE126.out) | exact HB.out)⟩⟩
                            case round =>
                              clear H'
                              try clear c1
                              try clear p1
                              try clear q1
                              try clear hx1
                              try clear c2
                              try clear c2b0
                              try clear c2b1
                              try clear c2b2
                              try clear p2
                              try clear c3
                              try clear c4
                              try clear c5
                              try clear c6
                              try clear c6b0
                              try clear p6
                              try clear c7
                              try clear c7b0
                              try clear c8
                              try clear c8b0
                              try clear c11
                              try clear p12
                              try clear q12
                              try clear hx12
                              try clear c13
                              try clear c13b0
                              try clear c13b1
                              try clear c14
                              try clear c14b0
                              try clear c14b1
                              try clear c15
                              try clear c15b0
                              try clear c16
                              try clear c18
                              try clear c20
                              try clear c22
                              try clear c24
                              try clear c25
                              try clear c26
                              try clear c26b0
                              try clear c26b1
                              try clear c26b2
                              try clear c27
                              try clear c32
                              try clear c37
                              try clear c37b0
                              try clear c37b1
                              try clear c38
                              try clear c38b0
                              try clear c39
                              try clear c41
                              try clear c41b0
                              try clear c42
                              try clear c44
                              try clear c44b0
                              try clear c45
                              try clear c47
                              try clear c49
                              try clear c51
                              try clear c52
                              try clear c54
                              try clear c54b0
                              try clear c55
                              try clear c59
                              try clear hcz12_0
                              try clear hcz12_1
                              try clear hcz12_2
                              try clear hcz17_0
                              try clear hcz17_1
                              try clear hcz17_2
                              try clear hcz19_0
                              try clear hcz19_1
                              try clear hcz19_2
                              try clear hcz21_0
                              try clear hcz21_1
                              try clear hcz21_2
                              try clear hcz23_0
                              try clear hcz23_1
                              try clear hcz23_2
                              try clear hcz28_0
                              try clear hcz28_1
                              try clear hcz28_2
                              try clear hcz31_0
                              try clear hcz31_1
                              try clear hcz31_2
                              try clear hcz33_0
                              try clear hcz33_1
                              try clear hcz33_2
                              try clear hcz40_0
                              try clear hcz40_1
                              try clear hcz40_2
                              try clear hcz43_0
                              try clear hcz43_1
                              try clear hcz43_2
                              try clear hcz46_0
                              try clear hcz46_1
                              try clear hcz46_2
                              try clear hcz48_0
                              try clear hcz48_1
                              try clear hcz48_2
                              try clear hcz4_0
                              try clear hcz4_1
                              try clear hcz4_2
                              try clear hcz50_0
                              try clear hcz50_1
                              try clear hcz50_2
                              try clear hcz53_0
                              try clear hcz53_1
                              try clear hcz53_2
                              try clear hcz56_0
                              try clear hcz56_1
                              try clear hcz56_2
                              try clear hcz58_0
                              try clear hcz58_1
                              try clear hcz58_2
                              try clear hcz60_0
                              try clear hcz60_1
                              try clear hcz60_2
                              try clear hfz12_0
                              try clear hfz12_1
                              try clear hfz12_2
                              try clear hfz17_0
                              try clear hfz17_1
                              try clear hfz17_2
                              try clear hfz19_0
                              try clear hfz19_1
                              try clear hfz19_2
                              try clear hfz21_0
                              try clear hfz21_1
                              try clear hfz21_2
                              try clear hfz23_0
                              try clear hfz23_1
                              try clear hfz23_2
                              try clear hfz28_0
                              try clear hfz28_1
                              try clear hfz28_2
                              try clear hfz31_0
                              try clear hfz31_1
                              try clear hfz31_2
                              try clear hfz33_0
                              try clear hfz33_1
                              try clear hfz33_2
                              try clear hfz40_0
                              try clear hfz40_1
                              try clear hfz40_2
                              try clear hfz43_0
                              try clear hfz43_1
                              try clear hfz43_2
                              try clear hfz46_0
                              try clear hfz46_1
                              try clear hfz46_2
                              try clear hfz48_0
                              try clear hfz48_1
                              try clear hfz48_2
                              try clear hfz4_0
                              try clear hfz4_1
                              try clear hfz4_2
                              try clear hfz50_0
                              try clear hfz50_1
                              try clear hfz50_2
                              try clear hfz53_0
                              try clear hfz53_1
                              try clear hfz53_2
                              try clear hfz56_0
                              try clear hfz56_1
                              try clear hfz56_2
                              try clear hfz58_0
                              try clear hfz58_1
                              try clear hfz58_2
                              try clear hfz60_0
                              try clear hfz60_1
                              try clear hfz60_2
                              try clear hx125_0
                              try clear hx125_1
                              try clear hx125_2
                              try clear p1
                              try clear p12
                              try clear p125
                              try clear p2
                              try clear p6
                              try clear q1
                              try clear q12
                              try clear q125
                              obtain ⟨x3_4, x18_4, rfl, HA, HK4, HO_3, BK124, BK126, HB⟩ := hrel
                              cases gk with
                              | zero => exact absurd HA.out (by simp [impl_JoinPieces.l1])
                              | succ k4 =>
                                have H := HA.out
                                clear HA
                                simp only [impl_JoinPieces.l1] at H
                                by_cases c62 : x18_4 < ((rd_T126 l0 x12_1).f1)
                                · rw [if_pos c62] at H
                                  have c62b0 : decide (x18_4 < ((rd_T126 l0 x12_1).f1)) = true := decide_eq_true c62
                                  clear c62
                                  obtain ⟨ji63, hji63⟩ : ∃ j_ : Int, (wrap64 ((x3_4.length : Int) - ((rd_T126 l0 x12_1).f2))) = j_ := ⟨_, rfl⟩
                                  replace H : (if 0 ≤ (ji63) then (if (ji63) < (x3_4.length : Int) then (if x3_4.length < 140737488355328 then (impl_JoinPieces.l1 k4 (x3_4 ++ [rd x3_4 (ji63)]) l0 (l0.length : Int) x12_1 ((rd_T126 l0 x12_1).f1) (wrap64 (x18_4 + 1)) ((rd_T126 l0 x12_1).f0) ((rd_T126 l0 x12_1).f1) ((rd_T126 l0 x12_1).f2)) else (none)) else (none)) else (none)) = some (r1, r2, r3) := by first | (rw [hji63] at H; exact H) | (simp only [hji63] at H ⊢; exact H)
                                  have hji63w : (IntKind.i64.wrap ((x3_4.length : Int) - ((rd_T126 l0 x12_1).f2))) = ji63 := (i64_w _).trans hji63
                                  by_cases c64 : 0 ≤ (ji63)
                                  · rw [if_pos c64] at H
                                    have c64b0 : decide (0 ≤ (ji63)) = true := decide_eq_true c64
                                    clear c64
                                    by_cases c65 : (ji63) < (x3_4.length : Int)
                                    · rw [if_pos c65] at H
                                      have c65b0 : decide ((ji63) < (x3_4.length : Int)) = true := decide_eq_true c65
                                      clear c65
                                      by_cases c66 : x3_4.length < 140737488355328
                                      · rw [if_pos c66] at H
                                        have LMc66 := Aside0.mk c66
                                        clear c66
                                        obtain ⟨y131, hy131⟩ : ∃ y_ : List Int, y_ = (x3_4 ++ [rd x3_4 (ji63)]) := ⟨_, rfl⟩
                                        replace H : (impl_JoinPieces.l1 k4 y131 l0 (l0.length : Int) x12_1 ((rd_T126 l0 x12_1).f1) (wrap64 (x18_4 + 1)) ((rd_T126 l0 x12_1).f0) ((rd_T126 l0 x12_1).f1) ((rd_T126 l0 x12_1).f2)) = some (r1, r2, r3) := by first | (rw [hy131]; with_reducible exact H) | (have H2_ := (Option.bind_some _ _).symm.trans H; rw [hy131]; with_reducible exact H2_) | (have H2_ := (Option.bind_some _ _).symm.trans H; with_reducible exact H2_) | with_reducible exact H | (rw [hy131]; exact H) | exact H
                                        have Ny131 := Aside0.mk hy131
                                        clear hy131
                                        have H' := Aside0.mk H
                                        clear H
                                        obtain ⟨Ao67, co67, eo67⟩ := Kd.R_slice HO_3.out
                                        subst eo67
                                        have hnb68 := NB126_124.out
                                        have hnc68 := NB124_126.out
                                        have hcz69_0 : wr.cell? ⟨gb126, 0, none⟩ = some (.int .i64 ((rd_T126 l0 x12_1).f0)) := (blk_cell BK126.out 0).trans rfl
                                        have hcz69_1 : wr.cell? ⟨gb126, 1, none⟩ = some (.int .i64 ((rd_T126 l0 x12_1).f1)) := (blk_cell BK126.out 1).trans rfl
                                        have hcz69_2 : wr.cell? ⟨gb126, 2, none⟩ = some (.int .i64 ((rd_T126 l0 x12_1).f2)) := (blk_cell BK126.out 2).trans rfl
                                        have hfz69_0 := blk_frozen BK126.out 0
                                        have hfz69_1 := blk_frozen BK126.out 1
                                        have hfz69_2 := blk_frozen BK126.out 2
                                        have p130 : 0 ≤ ((ji63) : Int) := of_decide_eq_true (by first | (with_reducible assumption) | assumption)
                                        have q130 : (ji63) < (x3_4.length : Int) := of_decide_eq_true (by first | (with_reducible assumption) | assumption)
                                        obtain ⟨ad130, e130, hx130_0⟩ := Kd.at_int (Kd.R_reads' HO_3.out).2.2 (ji63) p130 q130
                                        cases e130
                                        replace p130 := eq_true p130
                                        replace q130 := eq_true q130
                                        go_wp2_with (first | ((with_reducible refine gate_builtin (b := .append) (xs := #[.tmp 20, .tmp 29]) rfl ?_); at_builtin; refine Kd.R_append (Kd.int .u8) (w0 := w) w.heap.size rfl (.tmp 20) (.tmp 29) 36 5 (.int .u8 0) 1 rfl Try.underlying36 info5 rfl (by decide) (by omega) (.slice (some ad130) x3_4.length co67) x3_4 (rd x3_4 (ji63)) [.int .u8 (rd x3_4 (ji63))] (fun _ => True) (fun _ => False) rfl rfl ?aP (fun _ hk => hk.elim) ?aF ?aO ?aB ?aS ?aL ?_; (case aP => exact rfl); (case aB => exact (by repeat (first | (with_reducible first | exact HB.out | apply below_alloc | apply pw_below_drewN | apply below_drew1 | refine below_set ?_ GE124.out | refine below_set ?_ GE126.out) | exact HB.out))); (case aF => exact (fun _ _ => trivial)); (case aO => exact (by (with_reducible repeat (first | apply Kd.R_alloc | apply Kd.R_drewN | apply Kd.R_drew)); exact HO_3.out)); (case aS => exact (below_size (by repeat (first | (with_reducible first | exact HB.out | apply below_alloc | apply pw_below_drewN | apply below_drew1 | refine below_set ?_ GE124.out | refine below_set ?_ GE126.out) | exact HB.out)))); (case aL => have := LMc66.out; omega); intro v132 w70 ho hb hg hat; rw [← Ny131.out] at ho; have n0_ := Aside0.mk (blk_grown (g := gb124) (o := .cells #[.int .i64 x125000_1, .slice none 0 0, .int .i64 x125002_1] 38 (0, 0)) (by (with_reducible repeat (first | refine blk_drewN ?_ _ | refine blk_drew ?_ | refine blk_alloc ?_ _)); exact BK124.out) hg (Kd.R_ne HO_3.out BK124.out (by decide))); have n1_ := Aside0.mk (blk_grown (g := gb126) (o := .cells #[.int .i64 ((rd_T126 l0 x12_1).f0), .int .i64 ((rd_T126 l0 x12_1).f1), .int .i64 ((rd_T126 l0 x12_1).f2)] 126 (0, 0)) (by (with_reducible repeat (first | refine blk_drewN ?_ _ | refine blk_drew ?_ | refine blk_alloc ?_ _)); exact BK126.out) hg (Kd.R_ne HO_3.out BK126.out (by decide))); have n2_ := Aside0.mk (hb); have n3_ := Aside0.mk (ho); clear BK124; clear BK126; clear HB; clear HO_3; have BK124 := n0_; have BK126 := n1_; have HB := n2_; have HO133 := n3_; clear n0_ n1_ n2_ n3_; clear ho hb hg hat))
                                        go_roundg k4
                                        case measure => have := HK1.out; have := HJ8.out; have := HJ35.out; have := HK4.out; omega
                                        case rel => exact ⟨(y131), (wrap64 (x18_4 + 1)), (by first | rfl | (simp; done) | (simp [*]; done)), H', ⟨by have := HK1.out; have := HJ8.out; have := HJ35.out; have := HK4.out; omega⟩, ⟨by (with_reducible repeat (first | apply Kd.R_alloc | apply Kd.R_drewN | apply Kd.R_drew)); exact HO133.out⟩, ⟨by (with_reducible repeat (first | refine blk_drewN ?_ _ | refine blk_drew ?_ | refine blk_alloc ?_ _)); exact BK124.out⟩, ⟨by (with_reducible repeat (first | refine blk_drewN ?_ _ | refine blk_drew ?_ | refine blk_alloc ?_ _)); exact BK126.out⟩, ⟨by repeat (first | (with_reducible first | exact HB.out | apply below_alloc | apply pw_below_drewN | apply below_drew1 | refine below_set ?_ GE124.out | refine below_set ?_ GE126.out) | exact HB.out)⟩⟩
                                      · rw [if_neg c66] at H
                                        exact absurd H (by simp)
                                    · rw [if_neg c65] at H
                                      exact absurd H (by simp)
                                  · rw [if_neg c64] at H
                                    exact absurd H (by simp)
                                · rw [if_neg c62] at H
                                  have c62b0 : decide (x18_4 < ((rd_T126 l0 x12_1).f1)) = false := decide_eq_false c62
                                  clear c62
                                  by_cases c71 : (x3_4.length : Int) > 40000
                                  · rw [if_pos c71] at H
                                    have c71b0 : decide (40000 < (x3_4.length : Int)) = true := decide_eq_true c71
                                    have c71b1 : decide (40000 < x3_4.length) = true := decide_eq_true (by omega)
                                    have c71b2 : 40000 < x3_4.length := by omega
                                    clear c71
                                    simp only [Option.some.injEq, Prod.mk.injEq] at H
                                    obtain ⟨rfl, rfl, rfl⟩ := H
                                    obtain ⟨Ao72, co72, eo72⟩ := Kd.R_slice HO_3.out
                                    subst eo72
                                    have hnb73 := NB124_126.out
                                    have hnc73 := NB126_124.out
                                    have hcz74_0 : wr.cell? ⟨gb124, 0, none⟩ = some (.int .i64 x125000_1) := (blk_cell BK124.out 0).trans rfl
                                    have hcz74_1 : wr.cell? ⟨gb124, 1, none⟩ = some (.slice none 0 0) := (blk_cell BK124.out 1).trans rfl
                                    have hcz74_2 : wr.cell? ⟨gb124, 2, none⟩ = some (.int .i64 x125002_1) := (blk_cell BK124.out 2).trans rfl
                                    have hfz74_0 := blk_frozen BK124.out 0
                                    have hfz74_1 := blk_frozen BK124.out 1
                                    have hfz74_2 := blk_frozen BK124.out 2
                                    go_wp2
                                    refine bodyPost_ret (results_cell_row rfl _ _ gb124 38 #[.int .i64 7, .slice none 0 0, .int .i64 0] (0, 0) _ rfl (by (with_reducible repeat (first | refine blk_drewN ?_ _ | refine blk_drew ?_ | refine blk_alloc ?_ _)); refine blk_put (cs := #[.int .i64 7, .slice none 0 0, .int .i64 x125002_1]) ?_ 2 _ rfl; (with_reducible repeat (first | refine blk_drewN ?_ _ | refine blk_drew ?_ | refine blk_alloc ?_ _)); refine blk_put (cs := #[.int .i64 7, .slice none 0 0, .int .i64 x125002_1]) ?_ 1 _ rfl; (with_reducible repeat (first | refine blk_drewN ?_ _ | refine blk_drew ?_ | refine blk_alloc ?_ _)); refine blk_put (cs := #[.int .i64 x125000_1, .slice none 0 0, .int .i64 x125002_1]) ?_ 0 _ rfl; (with_reducible repeat (first | refine blk_drewN ?_ _ | refine blk_drew ?_ | refine blk_alloc ?_ _)); exact BK124.out) Try.underlying38 rfl (by kernel_rfl)) rfl ?_
                                    exact ⟨_, by first | rfl | (simp [errW_none, errW_some] <;> rfl) | (simp [*, errW_none, errW_some] <;> rfl), by first | exact Kd.R_nil _ _ _ _ _ | exact Kd.N_nil _ _ _ _ _ | exact Kd.V_nil _ _ _ _ _ | exact Kd.Q_nil _ _ _ _ _ | exact Kd.S_nil _ _ _ _ _, by repeat (first | (with_reducible first | exact HB.out | apply below_alloc | apply pw_below_drewN | apply below_drew1 | refine below_set ?_ GE124.out | refine below_set ?_ GE126.out) | exact HB.out)⟩
                                  · rw [if_neg c71] at H
                                    have c71b0 : decide (40000 < (x3_4.length : Int)) = false := decide_eq_false c71
                                    have c71b1 : decide (40000 < x3_4.length) = false := decide_eq_false (by omega)
                                    have c71b2 : ¬ (40000 < x3_4.length) := by omega
                                    clear c71
                                    have H' := Aside0.mk H
                                    clear H
                                    obtain ⟨Ao75, co75, eo75⟩ := Kd.R_slice HO_3.out
                                    subst eo75
                                    go_wp2
                                    go_roundg k4
                                    case measure => have := HK1.out; have := HJ8.out; have := HJ35.out; have := HK4.out; omega
                                    case rel => exact ⟨(x3_4), (wrap64 (x12_1 + 1)), (x125000_1), (x125002_1), (by first | rfl | (simp; done) | (simp [*]; done)), H', ⟨by have := HK1.out; have := HJ8.out; have := HJ35.out; have := HK4.out; omega⟩, ⟨by (with_reducible repeat (first | apply Kd.R_alloc | apply Kd.R_drewN | apply Kd.R_drew)); exact HO_3.out⟩, ⟨by (with_reducible repeat (first | refine blk_drewN ?_ _ | refine blk_drew ?_ | refine blk_alloc ?_ _)); exact BK124.out⟩, ⟨by repeat (first | (with_reducible first | exact HB.out | apply below_alloc | apply pw_below_drewN | apply below_drew1 | refine below_set ?_ GE124.out | refine below_set ?_ GE126.out) | exact HB.out)⟩⟩
            · rw [if_neg c8] at H
              exact absurd H (by simp)
          · rw [if_neg c7] at H
            exact absurd H (by simp)
        · rw [if_neg c6] at H
          have c6b0 : decide (x12_1 < (l0.length : Int)) = false := decide_eq_false c6
          clear c6
          simp only [Option.some.injEq, Prod.mk.injEq] at H
          obtain ⟨rfl, rfl, rfl⟩ := H
          obtain ⟨Ao76, co76, eo76⟩ := Kd.R_slice HO_3.out
          subst eo76
          have hcz77_0 : wr.cell? ⟨gb124, 0, none⟩ = some (.int .i64 x125000_1) := (blk_cell BK124.out 0).trans rfl
          have hcz77_1 : wr.cell? ⟨gb124, 1, none⟩ = some (.slice none 0 0) := (blk_cell BK124.out 1).trans rfl
          have hcz77_2 : wr.cell? ⟨gb124, 2, none⟩ = some (.int .i64 x125002_1) := (blk_cell BK124.out 2).trans rfl
          have hfz77_0 := blk_frozen BK124.out 0
          have hfz77_1 := blk_frozen BK124.out 1
          have hfz77_2 := blk_frozen BK124.out 2
          go_wp2
          refine bodyPost_ret (results_cell_row rfl _ _ gb124 38 #[.int .i64 0, .slice Ao76 x3_1.length co76, .int .i64 0] (0, 0) _ rfl (by (with_reducible repeat (first | refine blk_drewN ?_ _ | refine blk_drew ?_ | refine blk_alloc ?_ _)); refine blk_put (cs := #[.int .i64 0, .slice Ao76 x3_1.length co76, .int .i64 x125002_1]) ?_ 2 _ rfl; (with_reducible repeat (first | refine blk_drewN ?_ _ | refine blk_drew ?_ | refine blk_alloc ?_ _)); refine blk_put (cs := #[.int .i64 0, .slice none 0 0, .int .i64 x125002_1]) ?_ 1 _ rfl; (with_reducible repeat (first | refine blk_drewN ?_ _ | refine blk_drew ?_ | refine blk_alloc ?_ _)); refine blk_put (cs := #[.int .i64 x125000_1, .slice none 0 0, .int .i64 x125002_1]) ?_ 0 _ rfl; (with_reducible repeat (first | refine blk_drewN ?_ _ | refine blk_drew ?_ | refine blk_alloc ?_ _)); exact BK124.out) Try.underlying38 rfl (by kernel_rfl)) rfl ?_
          exact ⟨_, by first | rfl | (simp [errW_none, errW_some] <;> rfl) | (simp [*, errW_none, errW_some] <;> rfl), by (with_reducible repeat (first | apply Kd.R_alloc | apply Kd.R_drewN | apply Kd.R_drew)); exact Kd.R_mono (Kd.R_far (p := ⟨gb124, 2, none⟩) (Kd.R_far (p := ⟨gb124, 1, none⟩) (Kd.R_far (p := ⟨gb124, 0, none⟩) (Kd.R_types HO_3.out BK124.out (by decide)) (fun _ hk => hk.2) (.int .i64 0)) (fun _ hk => hk.2) (.slice Ao76 x3_1.length co76)) (fun _ hk => hk.2) (.int .i64 0)) (fun _ hk => trivial), by repeat (first | (with_reducible first | exact HB.out | apply below_alloc | apply pw_below_drewN | apply below_drew1 | refine below_set ?_ GE124.out) | exact HB.out)⟩

end Go.Proofs.Ytglaedjadlappaa.PFnExactJoinPieces

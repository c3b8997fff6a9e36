-- written by myprint.py (a program of this session's over the kit's print)
import Derived.Test.YtidblealnaicpaaPFnExactReadPartsx0
import Derived.Test.YtidblealnaicpaaPFnExactReadPartsx1
namespace Go.Proofs.Ytidblealnaicpaa.PFnExactReadParts
open Go.RowKit Go.Proofs.YtidblealnaicpaaW.PrintWords Go.Proofs.YtidblealnaicpaaW.PrintLast Go.Proofs.YtidblealnaicpaaW.PrintMore
attribute [local go_sem] max2_int min2_int max_two min_two max_three min_three max_four min_four   -- for this text's walks alone
set_option linter.unusedVariables false
set_option linter.unusedSimpArgs false

/-! ### spec_ReadParts: function 67 -/
mutual
def spec_ReadParts.l0 : Nat → List Int → List Int → Int → Int → Option (Int × Int × Int × List Bool × List Int × (List (List Int)))
  | 0, _, _, _, _ => none
  | k + 1, x0, x15, x16, x17 => if x17 < x16 then (if 0 ≤ x17 then (if x17 < (x15.length : Int) then (if x17 ≥ (x0.length : Int) then (some (2, 0, 0, ([] : List Bool), ([] : List Int), ([] : List (List Int)))) else (if x17 < (x0.length : Int) then (if (rd x0 x17) = (rd x15 x17) then (spec_ReadParts.l0 k x0 x15 x16 (wrap64 (x17 + 1))) else (some (4, 0, 0, ([] : List Bool), ([] : List Int), ([] : List (List Int))))) else (none))) else (none)) else (none)) else (if (x0.length : Int) < 6 then (some (2, 0, 0, ([] : List Bool), ([] : List Int), ([] : List (List Int)))) else (if 4 < (x0.length : Int) then (if 5 < (x0.length : Int) then ((spec_l14Sides.f (wrap64 (8 * (wrap64 (rd x0 4)))) (wrap64 (8 * (wrap64 (rd x0 5))))).bind fun t120 => (if t120 = true then (spec_ReadParts.l1 k x0 6 0 (wrap64 (8 * (wrap64 (rd x0 4)))) (wrap64 (8 * (wrap64 (rd x0 5)))) ([] : List Bool) ([] : List Int) ([] : List (List Int))) else (some (5, 0, 0, ([] : List Bool), ([] : List Int), ([] : List (List Int)))))) else (none)) else (none)))
def spec_ReadParts.l1 : Nat → List Int → Int → Int → Int → Int → List Bool → List Int → List (List Int) → Option (Int × Int × Int × List Bool × List Int × (List (List Int)))
  | 0, _, _, _, _, _, _, _, _ => none
  | k + 1, x0, x6, x120000, x120001, x120002, x120003, x120004, x120005 => if x6 < (x0.length : Int) then (if (wrap64 ((x0.length : Int) - x6)) < 9 then (some (2, 0, 0, ([] : List Bool), ([] : List Int), ([] : List (List Int)))) else (if 0 ≤ (wrap64 (x6 + 1)) then (if (wrap64 (x6 + 1)) ≤ (wrap64 (x6 + 5)) then (if (wrap64 (x6 + 5)) ≤ (x0.length : Int) then ((spec_l5Int.f k ((x0.take ((wrap64 (x6 + 5)) : Int).toNat).drop ((wrap64 (x6 + 1)) : Int).toNat)).bind fun t122 => (if t122 > (wrap64 ((wrap64 ((x0.length : Int) - x6)) - 9)) then (some (2, 0, 0, ([] : List Bool), ([] : List Int), ([] : List (List Int)))) else (if 0 ≤ x6 then (if (Go.bits .and .i64 (wrap64 (rd x0 x6)) 127) > 40 then (some (5, 0, 0, ([] : List Bool), ([] : List Int), ([] : List (List Int)))) else (if 0 ≤ (wrap64 ((wrap64 (x6 + 5)) + t122)) then (if (wrap64 ((wrap64 (x6 + 5)) + t122)) ≤ (wrap64 ((wrap64 (x6 + 9)) + t122)) then (if (wrap64 ((wrap64 (x6 + 9)) + t122)) ≤ (x0.length : Int) then ((spec_l5Int.f k ((x0.take ((wrap64 ((wrap64 (x6 + 9)) + t122)) : Int).toNat).drop ((wrap64 ((wrap64 (x6 + 5)) + t122)) : Int).toNat)).bind fun t126 => (if x6 ≤ (wrap64 ((wrap64 (x6 + 5)) + t122)) then (if (wrap64 ((wrap64 (x6 + 5)) + t122)) ≤ (x0.length : Int) then ((spec_Crc.f k ((x0.take ((wrap64 ((wrap64 (x6 + 5)) + t122)) : Int).toNat).drop (x6 : Int).toNat)).bind fun t128 => (if ((t126) % 4294967296) = t128 then (if (x120005.length : Int) = 0 then (spec_ReadParts.j2 k x0 x6 t122 (Go.bits .and .i64 (wrap64 (rd x0 x6)) 127) (decide ((rd x0 x6) ≥ 128)) (!(decide ((rd x0 x6) ≥ 128))) x120000 x120001 x120002 x120003 x120004 x120005) else (spec_ReadParts.j2 k x0 x6 t122 (Go.bits .and .i64 (wrap64 (rd x0 x6)) 127) (decide ((rd x0 x6) ≥ 128)) false x120000 x120001 x120002 x120003 x120004 x120005)) else (some (3, 0, 0, ([] : List Bool), ([] : List Int), ([] : List (List Int)))))) else (none)) else (none))) else (none)) else (none)) else (none))) else (none)))) else (none)) else (none)) else (none))) else (if (x120005.length : Int) = 0 then (some (2, 0, 0, ([] : List Bool), ([] : List Int), ([] : List (List Int)))) else (some (x120000, x120001, x120002, x120003, x120004, x120005)))
def spec_ReadParts.j2 : Nat → List Int → Int → Int → Int → Bool → Bool → Int → Int → Int → List Bool → List Int → List (List Int) → Option (Int × Int × Int × List Bool × List Int × (List (List Int)))
  | 0, _, _, _, _, _, _, _, _, _, _, _, _ => none
  | k + 1, x0, x6, x7, x8, x9, x120, x120000, x120001, x120002, x120003, x120004, x120005 => if x120 = true then (some (6, 0, 0, ([] : List Bool), ([] : List Int), ([] : List (List Int)))) else (if (x120005.length : Int) = 24 then (some (7, 0, 0, ([] : List Bool), ([] : List Int), ([] : List (List Int)))) else (if (wrap64 ((wrap64 ((wrap64 ((x120005.length : Int) + 1)) * x120001)) * x120002)) > 8192 then (some (7, 0, 0, ([] : List Bool), ([] : List Int), ([] : List (List Int)))) else (if 0 ≤ (wrap64 (x6 + 5)) then (if (wrap64 (x6 + 5)) ≤ (wrap64 ((wrap64 (x6 + 5)) + x7)) then (if (wrap64 ((wrap64 (x6 + 5)) + x7)) ≤ (x0.length : Int) then (if ([] : List Int).length + ((x0.take ((wrap64 ((wrap64 (x6 + 5)) + x7)) : Int).toNat).drop ((wrap64 (x6 + 5)) : Int).toNat).length < 140737488355328 then (if x120005.length < 5864062014805 then (if x120003.length < 140737488355328 then (if x120004.length < 17592186044416 then (spec_ReadParts.l1 k x0 (wrap64 (x6 + (wrap64 (9 + x7)))) x120000 x120001 x120002 (x120003 ++ [x9]) (x120004 ++ [x8]) (x120005 ++ [(([] : List Int) ++ ((x0.take ((wrap64 ((wrap64 (x6 + 5)) + x7)) : Int).toNat).drop ((wrap64 (x6 + 5)) : Int).toNat))])) else (none)) else (none)) else (none)) else (none)) else (none)) else (none)) else (none))))
end
def spec_ReadParts.f (k : Nat) (l0 : List Int) : Option (Int × Int × Int × List Bool × List Int × (List (List Int))) := if (l0.length : Int) > 60000 then (some (1, 0, 0, ([] : List Bool), ([] : List Int), ([] : List (List Int)))) else ((some (([86, 73, 68, 49] : List Int) : List Int)).bind fun y112 => (spec_ReadParts.l0 k l0 y112 (y112.length : Int) 0))
theorem spec_ReadParts.mono_l : ∀ k, (∀ y0 y1 y2 y3, LeO (spec_ReadParts.l0 k y0 y1 y2 y3) (spec_ReadParts.l0 (k + 1) y0 y1 y2 y3)) ∧ (∀ y0 y1 y2 y3 y4 y5 y6 y7, LeO (spec_ReadParts.l1 k y0 y1 y2 y3 y4 y5 y6 y7) (spec_ReadParts.l1 (k + 1) y0 y1 y2 y3 y4 y5 y6 y7)) ∧ (∀ y0 y1 y2 y3 y4 y5 y6 y7 y8 y9 y10 y11, LeO (spec_ReadParts.j2 k y0 y1 y2 y3 y4 y5 y6 y7 y8 y9 y10 y11) (spec_ReadParts.j2 (k + 1) y0 y1 y2 y3 y4 y5 y6 y7 y8 y9 y10 y11))
  | 0 => ⟨fun _ _ _ _ r h => by simp [spec_ReadParts.l0] at h, fun _ _ _ _ _ _ _ _ r h => by simp [spec_ReadParts.l1] at h, fun _ _ _ _ _ _ _ _ _ _ _ _ r h => by simp [spec_ReadParts.j2] at h⟩
  | k + 1 => by
    obtain ⟨ih0, ih1, ih2⟩ := spec_ReadParts.mono_l k
    refine ⟨?_, ?_, ?_⟩
    · intro y0 y1 y2 y3
      unfold spec_ReadParts.l0
      repeat' first
      | (with_reducible exact ih0 _ _ _ _)
      | (with_reducible exact ih1 _ _ _ _ _ _ _ _)
      | (with_reducible exact ih2 _ _ _ _ _ _ _ _ _ _ _ _)
      | (with_reducible exact spec_Crc.mono _ _)
      | (with_reducible exact spec_l5Int.mono _ _)
      | (with_reducible exact LeO.refl _)
      | (with_reducible exact LeO.none _)
      | (with_reducible refine LeO.ite ?_ ?_)
      | (with_reducible refine LeO.bind ?_ (fun _ => ?_))
      | exact ih0 _ _ _ _
      | exact ih1 _ _ _ _ _ _ _ _
      | exact ih2 _ _ _ _ _ _ _ _ _ _ _ _
      | exact spec_Crc.mono _ _
      | exact spec_l5Int.mono _ _
      | exact LeO.none _
      | refine LeO.ite ?_ ?_
      | refine LeO.bind ?_ (fun _ => ?_)
    · intro y0 y1 y2 y3 y4 y5 y6 y7
      unfold spec_ReadParts.l1
      repeat' first
      | (with_reducible exact ih0 _ _ _ _)
      | (with_reducible exact ih1 _ _ _ _ _ _ _ _)
      | (with_reducible exact ih2 _ _ _ _ _ _ _ _ _ _ _ _)
      | (with_reducible exact spec_Crc.mono _ _)
      | (with_reducible exact spec_l5Int.mono _ _)
      | (with_reducible exact LeO.refl _)
      | (with_reducible exact LeO.none _)
      | (with_reducible refine LeO.ite ?_ ?_)
      | (with_reducible refine LeO.bind ?_ (fun _ => ?_))
      | exact ih0 _ _ _ _
      | exact ih1 _ _ _ _ _ _ _ _
      | exact ih2 _ _ _ _ _ _ _ _ _ _ _ _
      | exact spec_Crc.mono _ _
      | exact spec_l5Int.mono _ _
      | exact LeO.none _
      | refine LeO.ite ?_ ?_
      | refine LeO.bind ?_ (fun _ => ?_)
    · intro y0 y1 y2 y3 y4 y5 y6 y7 y8 y9 y10 y11
      unfold spec_ReadParts.j2
      repeat' first
      | (with_reducible exact ih0 _ _ _ _)
      | (with_reducible exact ih1 _ _ _ _ _ _ _ _)
      | (with_reducible exact ih2 _ _ _ _ _ _ _ _ _ _ _ _)
      | (with_reducible exact spec_Crc.mono _ _)
      | (with_reducible exact spec_l5Int.mono _ _)
      | (with_reducible exact LeO.refl _)
      | (with_reducible exact LeO.none _)
      | (with_reducible refine LeO.ite ?_ ?_)
      | (with_reducible refine LeO.bind ?_ (fun _ => ?_))
      | exact ih0 _ _ _ _
      | exact ih1 _ _ _ _ _ _ _ _
      | exact ih2 _ _ _ _ _ _ _ _ _ _ _ _
      | exact spec_Crc.mono _ _
      | exact spec_l5Int.mono _ _
      | exact LeO.none _
      | refine LeO.ite ?_ ?_
      | refine LeO.bind ?_ (fun _ => ?_)
theorem spec_ReadParts.mono : ∀ a0 k, LeO (spec_ReadParts.f k a0) (spec_ReadParts.f (k + 1) a0) := by
  intro a0 k
  obtain ⟨ih0, ih1, ih2⟩ := spec_ReadParts.mono_l k
  unfold spec_ReadParts.f
  repeat' first
      | (with_reducible exact ih0 _ _ _ _)
      | (with_reducible exact ih1 _ _ _ _ _ _ _ _)
      | (with_reducible exact ih2 _ _ _ _ _ _ _ _ _ _ _ _)
      | (with_reducible exact spec_Crc.mono _ _)
      | (with_reducible exact spec_l5Int.mono _ _)
      | (with_reducible exact LeO.refl _)
      | (with_reducible exact LeO.none _)
      | (with_reducible refine LeO.ite ?_ ?_)
      | (with_reducible refine LeO.bind ?_ (fun _ => ?_))
      | exact ih0 _ _ _ _
      | exact ih1 _ _ _ _ _ _ _ _
      | exact ih2 _ _ _ _ _ _ _ _ _ _ _ _
      | exact spec_Crc.mono _ _
      | exact spec_l5Int.mono _ _
      | exact LeO.none _
      | refine LeO.ite ?_ ?_
      | refine LeO.bind ?_ (fun _ => ?_)
def spec_ReadParts.T13 : Bool × List (List Nat × List Nat) := (true, [([], []), ([0], [0]), ([1], [1]), ([2], [2]), ([3], [3]), ([], []), ([5], [5]), ([6], [6]), ([7], [7]), ([8], [8]), ([4, 9], [4, 9]), ([], []), ([11, 10, 0, 1, 2, 3, 4, 5, 6, 7, 8, 9, 10, 11], [10, 11])])
def spec_ReadParts.B13 : List Nat := [0, 1, 3, 7, 15, 0, 32, 96, 224, 480, 1023, 0, 4095]
theorem spec_ReadParts.tab13 : rtab .any (opsOf Try.f67 13) = spec_ReadParts.T13 := by kernel_rfl
theorem spec_ReadParts.bits13 : waitsOk spec_ReadParts.T13.2 spec_ReadParts.B13 = true := by kernel_rfl
def spec_ReadParts.T27 : Bool × List (List Nat × List Nat) := (true, [([], []), ([], []), ([1], [1]), ([], []), ([2, 3], [2, 3]), ([], []), ([5], [5]), ([], []), ([6, 7], [6, 7]), ([0, 4, 8], [0, 4, 8]), ([9], [9]), ([10], [10]), ([], []), ([], []), ([], []), ([14], [14]), ([], []), ([15, 16], [15, 16]), ([12, 13, 17], [12, 13, 17]), ([18, 10], [18]), ([11, 19], [11, 19]), ([20, 19], [20])])
def spec_ReadParts.B27 : List Nat := [0, 0, 2, 0, 14, 0, 32, 0, 224, 511, 1023, 2047, 0, 0, 0, 16384, 0, 114688, 258048, 522239, 1048575, 2097151]
theorem spec_ReadParts.tab27 : rtab .any (opsOf Try.f67 27) = spec_ReadParts.T27 := by kernel_rfl
theorem spec_ReadParts.bits27 : waitsOk spec_ReadParts.T27.2 spec_ReadParts.B27 = true := by kernel_rfl
set_option maxHeartbeats 8000000 in
set_option maxRecDepth 100000 in
theorem spec_ReadParts.calls (k : Nat) (A0 : Option Addr) (c0 : Nat) (l0 : List Int) (r1 : Int) (r2 : Int) (r3 : Int) (r4 : List Bool) (r5 : List Int) (r6 : List (List Int)) (w : World) (hr0 : Kd.C (Kd.int .u8) w A0 l0.length l0) (hc0 : l0.length ≤ c0) (h : spec_ReadParts.f k l0 = some (r1, r2, r3, r4, r5, r6)) :
    Calls Try.prog 67 #[.slice A0 l0.length c0] w fun e w' => ∃ v3_ v4_ v5_ : Value, e = .returned (.agg #[.int .i64 r1, .int .i64 r2, .int .i64 r3, v3_, v4_, v5_]) ∧ Kd.R Kd.bool 4 w' w.heap.size (fun _ => True) v3_ r4 ∧ Kd.R (Kd.int .i64) 3 w' w.heap.size (fun _ => True) v4_ r5 ∧ Kd.S (Kd.slice 5 (Kd.int .u8)) 51 w' w.heap.size (fun _ => True) v5_ r6 ∧ Below w.heap.size w w' := by
  have hu94 := Try.underlying94
  have HR0 := Aside0.mk hr0
  have HC0 := Aside0.mk hc0
  clear hr0 hc0
  have HB := Aside0.mk (Below.refl w.heap.size w)
  have H : (if (l0.length : Int) > 60000 then (some (1, 0, 0, ([] : List Bool), ([] : List Int), ([] : List (List Int)))) else ((some (([86, 73, 68, 49] : List Int) : List Int)).bind fun y112 => (spec_ReadParts.l0 k l0 y112 (y112.length : Int) 0))) = some (r1, r2, r3, r4, r5, r6) := h
  clear h
  by_cases c2 : (l0.length : Int) > 60000
  · rw [if_pos c2] at H
    have c2b0 : decide (60000 < (l0.length : Int)) = true := decide_eq_true c2
    have c2b1 : decide (60000 < l0.length) = true := decide_eq_true (by omega)
    have c2b2 : 60000 < l0.length := by omega
    clear c2
    simp only [Option.some.injEq, Prod.mk.injEq] at H
    obtain ⟨rfl, rfl, rfl, rfl, rfl, rfl⟩ := H
    go_enter Try.func67, Try.ntmps67
    go_wp2_with (first | ((with_reducible refine gate_dst (N := 2) rfl ?_); (try (refine gate_guard (by rfl) ?_; dsimp only)); refine box_event ?hg (N := 2) ?hd (cs := #[.int .i64 0, .int .i64 0, .int .i64 0, .slice none 0 0, .slice none 0 0, .slice none 0 0]) (t := 94) ?hr ?_; (case hd => rfl); (case hg => rfl); (case hr => first | (go_simp; done) | (go_simp; rfl)); intro gb111 hg w3 hbox hb; have n0_ := Aside0.mk (below_step (by repeat (first | (with_reducible first | exact HB.out | apply below_alloc | apply pw_below_drewN | apply below_drew1) | exact HB.out)) hb); have n1_ := Aside0.mk (hbox); have n2_ := Aside0.mk ((by rw [hg]; exact (below_size (by repeat (first | (with_reducible first | exact HB.out | apply below_alloc | apply pw_below_drewN | apply below_drew1) | exact HB.out))) : w.heap.size ≤ gb111)); have n3_ := n2_; clear HB; have HB := n0_; have BK111 := n1_; have GW111 := n2_; have GE111 := n3_; clear n0_ n1_ n2_ n3_; clear hb hbox hg; have hcz4_0 : w3.cell? ⟨gb111, 0, none⟩ = some (.int .i64 0) := (blk_cell BK111.out 0).trans rfl; have hcz4_1 : w3.cell? ⟨gb111, 1, none⟩ = some (.int .i64 0) := (blk_cell BK111.out 1).trans rfl; have hcz4_2 : w3.cell? ⟨gb111, 2, none⟩ = some (.int .i64 0) := (blk_cell BK111.out 2).trans rfl; have hcz4_3 : w3.cell? ⟨gb111, 3, none⟩ = some (.slice none 0 0) := (blk_cell BK111.out 3).trans rfl; have hcz4_4 : w3.cell? ⟨gb111, 4, none⟩ = some (.slice none 0 0) := (blk_cell BK111.out 4).trans rfl; have hcz4_5 : w3.cell? ⟨gb111, 5, none⟩ = some (.slice none 0 0) := (blk_cell BK111.out 5).trans rfl; have hfz4_0 := blk_frozen BK111.out 0; have hfz4_1 := blk_frozen BK111.out 1; have hfz4_2 := blk_frozen BK111.out 2; have hfz4_3 := blk_frozen BK111.out 3; have hfz4_4 := blk_frozen BK111.out 4; have hfz4_5 := blk_frozen BK111.out 5))
    refine bodyPost_ret (results_cell_row rfl _ _ gb111 94 #[.int .i64 1, .int .i64 0, .int .i64 0, .slice none 0 0, .slice none 0 0, .slice none 0 0] (0, 0) _ rfl (by (with_reducible repeat (first | refine blk_drewN ?_ _ | refine blk_drew ?_ | refine blk_alloc ?_ _)); refine blk_put (cs := #[.int .i64 1, .int .i64 0, .int .i64 0, .slice none 0 0, .slice none 0 0, .slice none 0 0]) ?_ 5 _ rfl; (with_reducible repeat (first | refine blk_drewN ?_ _ | refine blk_drew ?_ | refine blk_alloc ?_ _)); refine blk_put (cs := #[.int .i64 1, .int .i64 0, .int .i64 0, .slice none 0 0, .slice none 0 0, .slice none 0 0]) ?_ 4 _ rfl; (with_reducible repeat (first | refine blk_drewN ?_ _ | refine blk_drew ?_ | refine blk_alloc ?_ _)); refine blk_put (cs := #[.int .i64 1, .int .i64 0, .int .i64 0, .slice none 0 0, .slice none 0 0, .slice none 0 0]) ?_ 3 _ rfl; (with_reducible repeat (first | refine blk_drewN ?_ _ | refine blk_drew ?_ | refine blk_alloc ?_ _)); refine blk_put (cs := #[.int .i64 1, .int .i64 0, .int .i64 0, .slice none 0 0, .slice none 0 0, .slice none 0 0]) ?_ 2 _ rfl; (with_reducible repeat (first | refine blk_drewN ?_ _ | refine blk_drew ?_ | refine blk_alloc ?_ _)); refine blk_put (cs := #[.int .i64 1, .int .i64 0, .int .i64 0, .slice none 0 0, .slice none 0 0, .slice none 0 0]) ?_ 1 _ rfl; (with_reducible repeat (first | refine blk_drewN ?_ _ | refine blk_drew ?_ | refine blk_alloc ?_ _)); refine blk_put (cs := #[.int .i64 0, .int .i64 0, .int .i64 0, .slice none 0 0, .slice none 0 0, .slice none 0 0]) ?_ 0 _ rfl; (with_reducible repeat (first | refine blk_drewN ?_ _ | refine blk_drew ?_ | refine blk_alloc ?_ _)); exact BK111.out) Try.underlying94 rfl (by kernel_rfl)) rfl ?_
    exact ⟨_, _, _, by first | rfl | (simp [errW_none, errW_some] <;> rfl) | (simp [*, errW_none, errW_some] <;> rfl), by first | exact Kd.R_nil _ _ _ _ _ | exact Kd.N_nil _ _ _ _ _ | exact Kd.V_nil _ _ _ _ _ | exact Kd.Q_nil _ _ _ _ _ | exact Kd.S_nil _ _ _ _ _, by first | exact Kd.R_nil _ _ _ _ _ | exact Kd.N_nil _ _ _ _ _ | exact Kd.V_nil _ _ _ _ _ | exact Kd.Q_nil _ _ _ _ _ | exact Kd.S_nil _ _ _ _ _, by first | exact Kd.S_nil _ _ _ _ _ | exact Kd.N_nil _ _ _ _ _ | exact Kd.V_nil _ _ _ _ _ | exact Kd.Q_nil _ _ _ _ _ | exact Kd.R_nil _ _ _ _ _, by repeat (first | (with_reducible first | exact HB.out | apply below_alloc | apply pw_below_drewN | apply below_drew1 | refine below_set ?_ GE111.out) | exact HB.out)⟩
  rw [if_neg c2] at H
  have c2b0 : decide (60000 < (l0.length : Int)) = false := decide_eq_false c2
  have c2b1 : decide (60000 < l0.length) = false := decide_eq_false (by omega)
  have c2b2 : ¬ (60000 < l0.length) := by omega
  clear c2
  obtain ⟨y112, hy112⟩ : ∃ y_ : List Int, y_ = (([86, 73, 68, 49] : List Int)) := ⟨_, rfl⟩
  replace H : (spec_ReadParts.l0 k l0 y112 (y112.length : Int) 0) = some (r1, r2, r3, r4, r5, r6) := by first | (rw [hy112]; with_reducible exact H) | (have H2_ := (Option.bind_some _ _).symm.trans H; rw [hy112]; with_reducible exact H2_) | (have H2_ := (Option.bind_some _ _).symm.trans H; with_reducible exact H2_) | with_reducible exact H | (rw [hy112]; exact H) | exact H
  have Ny112 := Aside0.mk hy112
  clear hy112
  have H' := Aside0.mk H
  clear H
  go_enter Try.func67, Try.ntmps67
  go_wp2_with (first | ((with_reducible refine gate_dst (N := 2) rfl ?_); (try (refine gate_guard (by rfl) ?_; dsimp only)); refine box_event ?hg (N := 2) ?hd (cs := #[.int .i64 0, .int .i64 0, .int .i64 0, .slice none 0 0, .slice none 0 0, .slice none 0 0]) (t := 94) ?hr ?_; (case hd => rfl); (case hg => rfl); (case hr => first | (go_simp; done) | (go_simp; rfl)); intro gb111 hg w5 hbox hb; have n0_ := Aside0.mk (below_step (by repeat (first | (with_reducible first | exact HB.out | apply below_alloc | apply pw_below_drewN | apply below_drew1) | exact HB.out)) hb); have n1_ := Aside0.mk (hbox); have n2_ := Aside0.mk ((by rw [hg]; exact (below_size (by repeat (first | (with_reducible first | exact HB.out | apply below_alloc | apply pw_below_drewN | apply below_drew1) | exact HB.out))) : w.heap.size ≤ gb111)); have n3_ := n2_; clear HB; have HB := n0_; have BK111 := n1_; have GW111 := n2_; have GE111 := n3_; clear n0_ n1_ n2_ n3_; clear hb hbox hg) | ((with_reducible refine gate_dst (N := 15) rfl ?_); (try (refine gate_guard (by rfl) ?_; dsimp only)); refine Kd.R_lit (Kd.int .u8) _ 5 ?hg (N := 15) ?hd (xs := ([86, 73, 68, 49] : List Int)) (inner := [.int .u8 86, .int .u8 73, .int .u8 68, .int .u8 49]) (ok := fun _ => True) (okp := fun _ => True) ?hr ?hp (fun _ hk => hk) trivial (Below.refl _ _) (Nat.le_refl _) (by simp) ?_; (case hd => rfl); (case hg => rfl); (case hr => first | (go_simp; done) | (go_simp; rfl)); (case hp => exact (Reps.one (show Kd.M (Kd.int .u8) _ _ _ 86 [.int .u8 86] from rfl) (Reps.one (show Kd.M (Kd.int .u8) _ _ _ 73 [.int .u8 73] from rfl) (Reps.one (show Kd.M (Kd.int .u8) _ _ _ 68 [.int .u8 68] from rfl) (Reps.one (show Kd.M (Kd.int .u8) _ _ _ 49 [.int .u8 49] from rfl) (Reps.none _ _)))))); intro v113 w6 ho7 hb hg_ hnew_; clear hg_ hnew_; (first | rw [← Ny112.out] at ho7 | (simp only [Int.reduceToNat] at ho7; rw [← Ny112.out] at ho7)); have n0_ := Aside0.mk (Kd.R_lower ho7 (below_size (by repeat (first | (with_reducible first | exact HB.out | apply below_alloc | apply pw_below_drewN | apply below_drew1 | refine below_set ?_ GE111.out) | exact HB.out)))); have n1_ := Aside0.mk (blk_below (g := gb111) (o := .cells #[.int .i64 0, .int .i64 0, .int .i64 0, .slice none 0 0, .slice none 0 0, .slice none 0 0] 94 (0, 0)) (by (with_reducible repeat (first | refine blk_drewN ?_ _ | refine blk_drew ?_ | refine blk_alloc ?_ _)); exact BK111.out) hb); have n2_ := Aside0.mk (below_step (by repeat (first | (with_reducible first | exact HB.out | apply below_alloc | apply pw_below_drewN | apply below_drew1 | refine below_set ?_ GE111.out) | exact HB.out)) hb); clear BK111; clear HB; have HO114 := n0_; have BK111 := n1_; have HB := n2_; clear n0_ n1_ n2_; clear hb ho7; obtain ⟨Ao8, co8, eo8⟩ := Kd.R_slice HO114.out; subst eo8))
  go_loopg [17] k (fun kq v17 w' => ∃ (x17_1 : Int) (x112000_1 : Int) (x112001_1 : Int) (x112002_1 : Int), v17 = .int .i64 x17_1 ∧ Aside0 (spec_ReadParts.l0 kq l0 y112 (y112.length : Int) x17_1 = some (r1, r2, r3, r4, r5, r6)) ∧ Aside0 (kq ≤ k) ∧ Aside0 (Kd.R (Kd.int .u8) 5 w' w.heap.size (fun _ => True) (.slice Ao8 y112.length co8) y112) ∧ Aside0 (w'.heap[gb111]? = some (.cells #[.int .i64 x112000_1, .int .i64 x112001_1, .int .i64 x112002_1, (.slice none 0 0), (.slice none 0 0), (.slice none 0 0)] 94 (0, 0))) ∧ Aside0 (Below w.heap.size w w'))
  case atStart => exact ⟨(0), (0), (0), (0), (by first | rfl | (simp; done) | (simp [*]; done)), H', ⟨Nat.le_refl _⟩, ⟨by (with_reducible repeat (first | apply Kd.R_alloc | apply Kd.R_drewN | apply Kd.R_drew)); exact HO114.out⟩, ⟨by (with_reducible repeat (first | refine blk_drewN ?_ _ | refine blk_drew ?_ | refine blk_alloc ?_ _)); exact BK111.out⟩, ⟨by repeat (first | (with_reducible first | exact HB.out | apply below_alloc | apply pw_below_drewN | apply below_drew1 | refine below_set ?_ GE111.out) | exact HB.out)⟩⟩
  case round =>
    clear H'
    try clear c2
    try clear c2b0
    try clear c2b1
    try clear c2b2
    try clear p2
    try clear c6
    try clear hcz4_0
    try clear hcz4_1
    try clear hcz4_2
    try clear hcz4_3
    try clear hcz4_4
    try clear hcz4_5
    try clear hfz4_0
    try clear hfz4_1
    try clear hfz4_2
    try clear hfz4_3
    try clear hfz4_4
    try clear hfz4_5
    obtain ⟨x17_1, x112000_1, x112001_1, x112002_1, rfl, HA, HK1, HO_15, BK111, HB⟩ := hrel
    cases gk with
    | zero => exact absurd HA.out (by simp [spec_ReadParts.l0])
    | succ k1 =>
      have H := HA.out
      clear HA
      simp only [spec_ReadParts.l0] at H
      by_cases c9 : x17_1 < (y112.length : Int)
      · rw [if_pos c9] at H
        have c9b0 : decide (x17_1 < (y112.length : Int)) = true := decide_eq_true c9
        clear c9
        by_cases c10 : 0 ≤ x17_1
        rotate_left
        · rw [if_neg c10] at H
          exact absurd H (by simp)
        rw [if_pos c10] at H
        have c10b0 : decide (0 ≤ x17_1) = true := decide_eq_true c10
        clear c10
        by_cases c11 : x17_1 < (y112.length : Int)
        rotate_left
        · rw [if_neg c11] at H
          exact absurd H (by simp)
        rw [if_pos c11] at H
        have c11b0 : decide (x17_1 < (y112.length : Int)) = true := decide_eq_true c11
        clear c11
        by_cases c12 : x17_1 ≥ (l0.length : Int)
        · rw [if_pos c12] at H
          have c12b0 : decide ((l0.length : Int) ≤ x17_1) = true := decide_eq_true c12
          clear c12
          simp only [Option.some.injEq, Prod.mk.injEq] at H
          obtain ⟨rfl, rfl, rfl, rfl, rfl, rfl⟩ := H
          have p115 : 0 ≤ (x17_1 : Int) := of_decide_eq_true (by first | (with_reducible assumption) | assumption)
          have q115 : x17_1 < (y112.length : Int) := of_decide_eq_true (by first | (with_reducible assumption) | assumption)
          obtain ⟨ad115, e115, hx115_0⟩ := Kd.at_int (Kd.R_reads' HO_15.out).2.2 x17_1 p115 q115
          cases e115
          replace p115 := eq_true p115
          replace q115 := eq_true q115
          have hcz13_0 : wr.cell? ⟨gb111, 0, none⟩ = some (.int .i64 x112000_1) := (blk_cell BK111.out 0).trans rfl
          have hcz13_1 : wr.cell? ⟨gb111, 1, none⟩ = some (.int .i64 x112001_1) := (blk_cell BK111.out 1).trans rfl
          have hcz13_2 : wr.cell? ⟨gb111, 2, none⟩ = some (.int .i64 x112002_1) := (blk_cell BK111.out 2).trans rfl
          have hcz13_3 : wr.cell? ⟨gb111, 3, none⟩ = some (.slice none 0 0) := (blk_cell BK111.out 3).trans rfl
          have hcz13_4 : wr.cell? ⟨gb111, 4, none⟩ = some (.slice none 0 0) := (blk_cell BK111.out 4).trans rfl
          have hcz13_5 : wr.cell? ⟨gb111, 5, none⟩ = some (.slice none 0 0) := (blk_cell BK111.out 5).trans rfl
          have hfz13_0 := blk_frozen BK111.out 0
          have hfz13_1 := blk_frozen BK111.out 1
          have hfz13_2 := blk_frozen BK111.out 2
          have hfz13_3 := blk_frozen BK111.out 3
          have hfz13_4 := blk_frozen BK111.out 4
          have hfz13_5 := blk_frozen BK111.out 5
          go_wp2
          refine bodyPost_ret (results_cell_row rfl _ _ gb111 94 #[.int .i64 2, .int .i64 0, .int .i64 0, .slice none 0 0, .slice none 0 0, .slice none 0 0] (0, 0) _ rfl (by (with_reducible repeat (first | refine blk_drewN ?_ _ | refine blk_drew ?_ | refine blk_alloc ?_ _)); refine blk_put (cs := #[.int .i64 2, .int .i64 0, .int .i64 0, .slice none 0 0, .slice none 0 0, .slice none 0 0]) ?_ 5 _ rfl; (with_reducible repeat (first | refine blk_drewN ?_ _ | refine blk_drew ?_ | refine blk_alloc ?_ _)); refine blk_put (cs := #[.int .i64 2, .int .i64 0, .int .i64 0, .slice none 0 0, .slice none 0 0, .slice none 0 0]) ?_ 4 _ rfl; (with_reducible repeat (first | refine blk_drewN ?_ _ | refine blk_drew ?_ | refine blk_alloc ?_ _)); refine blk_put (cs := #[.int .i64 2, .int .i64 0, .int .i64 0, .slice none 0 0, .slice none 0 0, .slice none 0 0]) ?_ 3 _ rfl; (with_reducible repeat (first | refine blk_drewN ?_ _ | refine blk_drew ?_ | refine blk_alloc ?_ _)); refine blk_put (cs := #[.int .i64 2, .int .i64 0, .int .i64 x112002_1, .slice none 0 0, .slice none 0 0, .slice none 0 0]) ?_ 2 _ rfl; (with_reducible repeat (first | refine blk_drewN ?_ _ | refine blk_drew ?_ | refine blk_alloc ?_ _)); refine blk_put (cs := #[.int .i64 2, .int .i64 x112001_1, .int .i64 x112002_1, .slice none 0 0, .slice none 0 0, .slice none 0 0]) ?_ 1 _ rfl; (with_reducible repeat (first | refine blk_drewN ?_ _ | refine blk_drew ?_ | refine blk_alloc ?_ _)); refine blk_put (cs := #[.int .i64 x112000_1, .int .i64 x112001_1, .int .i64 x112002_1, .slice none 0 0, .slice none 0 0, .slice none 0 0]) ?_ 0 _ rfl; (with_reducible repeat (first | refine blk_drewN ?_ _ | refine blk_drew ?_ | refine blk_alloc ?_ _)); exact BK111.out) Try.underlying94 rfl (by kernel_rfl)) rfl ?_
          exact ⟨_, _, _, by first | rfl | (simp [errW_none, errW_some] <;> rfl) | (simp [*, errW_none, errW_some] <;> rfl), by first | exact Kd.R_nil _ _ _ _ _ | exact Kd.N_nil _ _ _ _ _ | exact Kd.V_nil _ _ _ _ _ | exact Kd.Q_nil _ _ _ _ _ | exact Kd.S_nil _ _ _ _ _, by first | exact Kd.R_nil _ _ _ _ _ | exact Kd.N_nil _ _ _ _ _ | exact Kd.V_nil _ _ _ _ _ | exact Kd.Q_nil _ _ _ _ _ | exact Kd.S_nil _ _ _ _ _, by first | exact Kd.S_nil _ _ _ _ _ | exact Kd.N_nil _ _ _ _ _ | exact Kd.V_nil _ _ _ _ _ | exact Kd.Q_nil _ _ _ _ _ | exact Kd.R_nil _ _ _ _ _, by repeat (first | (with_reducible first | exact HB.out | apply below_alloc | apply pw_below_drewN | apply below_drew1 | refine below_set ?_ GE111.out) | exact HB.out)⟩
        rw [if_neg c12] at H
        have c12b0 : decide ((l0.length : Int) ≤ x17_1) = false := decide_eq_false c12
        clear c12
        by_cases c14 : x17_1 < (l0.length : Int)
        rotate_left
        · rw [if_neg c14] at H
          exact absurd H (by simp)
        rw [if_pos c14] at H
        have c14b0 : decide (x17_1 < (l0.length : Int)) = true := decide_eq_true c14
        clear c14
        by_cases c15 : (rd l0 x17_1) = (rd y112 x17_1)
        · rw [if_pos c15] at H
          have c15b0 : ((rd l0 x17_1) == (rd y112 x17_1)) = true := beq_iff_eq.mpr c15
          have c15b1 : ((rd l0 x17_1) != (rd y112 x17_1)) = false := bne_eq_false_iff_eq.mpr c15
          clear c15
          have H' := Aside0.mk H
          clear H
          have p115 : 0 ≤ (x17_1 : Int) := of_decide_eq_true (by first | (with_reducible assumption) | assumption)
          have q115 : x17_1 < (y112.length : Int) := of_decide_eq_true (by first | (with_reducible assumption) | assumption)
          obtain ⟨ad115, e115, hx115_0⟩ := Kd.at_int (Kd.R_reads' HO_15.out).2.2 x17_1 p115 q115
          cases e115
          replace p115 := eq_true p115
          replace q115 := eq_true q115
          have p116 : 0 ≤ (x17_1 : Int) := of_decide_eq_true (by first | (with_reducible assumption) | assumption)
          have q116 : x17_1 < (l0.length : Int) := of_decide_eq_true (by first | (with_reducible assumption) | assumption)
          obtain ⟨ad116, e116, hx116_0⟩ := Kd.at_int HR0.out x17_1 p116 q116
          cases e116
          replace hx116_0 := (HB.out.cell (World.block_lt_of_cell? w _ hx116_0)).trans hx116_0
          replace p116 := eq_true p116
          replace q116 := eq_true q116
          go_wp2
          go_roundg k1
          case measure => have := HK1.out; omega
          case rel => exact ⟨(wrap64 (x17_1 + 1)), (x112000_1), (x112001_1), (x112002_1), (by first | rfl | (simp; done) | (simp [*]; done)), H', ⟨by have := HK1.out; omega⟩, ⟨by (with_reducible repeat (first | apply Kd.R_alloc | apply Kd.R_drewN | apply Kd.R_drew)); exact HO_15.out⟩, ⟨by (with_reducible repeat (first | refine blk_drewN ?_ _ | refine blk_drew ?_ | refine blk_alloc ?_ _)); exact BK111.out⟩, ⟨by repeat (first | (with_reducible first | exact HB.out | apply below_alloc | apply pw_below_drewN | apply below_drew1 | refine below_set ?_ GE111.out) | exact HB.out)⟩⟩
        rw [if_neg c15] at H
        have c15b0 : ((rd l0 x17_1) == (rd y112 x17_1)) = false := beq_eq_false_iff_ne.mpr c15
        have c15b1 : ((rd l0 x17_1) != (rd y112 x17_1)) = true := bne_iff_ne.mpr c15
        simp only [Option.some.injEq, Prod.mk.injEq] at H
        obtain ⟨rfl, rfl, rfl, rfl, rfl, rfl⟩ := H
        have p115 : 0 ≤ (x17_1 : Int) := of_decide_eq_true (by first | (with_reducible assumption) | assumption)
        have q115 : x17_1 < (y112.length : Int) := of_decide_eq_true (by first | (with_reducible assumption) | assumption)
        obtain ⟨ad115, e115, hx115_0⟩ := Kd.at_int (Kd.R_reads' HO_15.out).2.2 x17_1 p115 q115
        cases e115
        replace p115 := eq_true p115
        replace q115 := eq_true q115
        have p116 : 0 ≤ (x17_1 : Int) := of_decide_eq_true (by first | (with_reducible assumption) | assumption)
        have q116 : x17_1 < (l0.length : Int) := of_decide_eq_true (by first | (with_reducible assumption) | assumption)
        obtain ⟨ad116, e116, hx116_0⟩ := Kd.at_int HR0.out x17_1 p116 q116
        cases e116
        replace hx116_0 := (HB.out.cell (World.block_lt_of_cell? w _ hx116_0)).trans hx116_0
        replace p116 := eq_true p116
        replace q116 := eq_true q116
        have hcz16_0 : wr.cell? ⟨gb111, 0, none⟩ = some (.int .i64 x112000_1) := (blk_cell BK111.out 0).trans rfl
        have hcz16_1 : wr.cell? ⟨gb111, 1, none⟩ = some (.int .i64 x112001_1) := (blk_cell BK111.out 1).trans rfl
        have hcz16_2 : wr.cell? ⟨gb111, 2, none⟩ = some (.int .i64 x112002_1) := (blk_cell BK111.out 2).trans rfl
        have hcz16_3 : wr.cell? ⟨gb111, 3, none⟩ = some (.slice none 0 0) := (blk_cell BK111.out 3).trans rfl
        have hcz16_4 : wr.cell? ⟨gb111, 4, none⟩ = some (.slice none 0 0) := (blk_cell BK111.out 4).trans rfl
        have hcz16_5 : wr.cell? ⟨gb111, 5, none⟩ = some (.slice none 0 0) := (blk_cell BK111.out 5).trans rfl
        have hfz16_0 := blk_frozen BK111.out 0
        have hfz16_1 := blk_frozen BK111.out 1
        have hfz16_2 := blk_frozen BK111.out 2
        have hfz16_3 := blk_frozen BK111.out 3
        have hfz16_4 := blk_frozen BK111.out 4
        have hfz16_5 := blk_frozen BK111.out 5
        go_wp2
        refine bodyPost_ret (results_cell_row rfl _ _ gb111 94 #[.int .i64 4, .int .i64 0, .int .i64 0, .slice none 0 0, .slice none 0 0, .slice none 0 0] (0, 0) _ rfl (by (with_reducible repeat (first | refine blk_drewN ?_ _ | refine blk_drew ?_ | refine blk_alloc ?_ _)); refine blk_put (cs := #[.int .i64 4, .int .i64 0, .int .i64 0, .slice none 0 0, .slice none 0 0, .slice none 0 0]) ?_ 5 _ rfl; (with_reducible repeat (first | refine blk_drewN ?_ _ | refine blk_drew ?_ | refine blk_alloc ?_ _)); refine blk_put (cs := #[.int .i64 4, .int .i64 0, .int .i64 0, .slice none 0 0, .slice none 0 0, .slice none 0 0]) ?_ 4 _ rfl; (with_reducible repeat (first | refine blk_drewN ?_ _ | refine blk_drew ?_ | refine blk_alloc ?_ _)); refine blk_put (cs := #[.int .i64 4, .int .i64 0, .int .i64 0, .slice none 0 0, .slice none 0 0, .slice none 0 0]) ?_ 3 _ rfl; (with_reducible repeat (first | refine blk_drewN ?_ _ | refine blk_drew ?_ | refine blk_alloc ?_ _)); refine blk_put (cs := #[.int .i64 4, .int .i64 0, .int .i64 x112002_1, .slice none 0 0, .slice none 0 0, .slice none 0 0]) ?_ 2 _ rfl; (with_reducible repeat (first | refine blk_drewN ?_ _ | refine blk_drew ?_ | refine blk_alloc ?_ _)); refine blk_put (cs := #[.int .i64 4, .int .i64 x112001_1, .int .i64 x112002_1, .slice none 0 0, .slice none 0 0, .slice none 0 0]) ?_ 1 _ rfl; (with_reducible repeat (first | refine blk_drewN ?_ _ | refine blk_drew ?_ | refine blk_alloc ?_ _)); refine blk_put (cs := #[.int .i64 x112000_1, .int .i64 x112001_1, .int .i64 x112002_1, .slice none 0 0, .slice none 0 0, .slice none 0 0]) ?_ 0 _ rfl; (with_reducible repeat (first | refine blk_drewN ?_ _ | refine blk_drew ?_ | refine blk_alloc ?_ _)); exact BK111.out) Try.underlying94 rfl (by kernel_rfl)) rfl ?_
        exact ⟨_, _, _, by first | rfl | (simp [errW_none, errW_some] <;> rfl) | (simp [*, errW_none, errW_some] <;> rfl), by first | exact Kd.R_nil _ _ _ _ _ | exact Kd.N_nil _ _ _ _ _ | exact Kd.V_nil _ _ _ _ _ | exact Kd.Q_nil _ _ _ _ _ | exact Kd.S_nil _ _ _ _ _, by first | exact Kd.R_nil _ _ _ _ _ | exact Kd.N_nil _ _ _ _ _ | exact Kd.V_nil _ _ _ _ _ | exact Kd.Q_nil _ _ _ _ _ | exact Kd.S_nil _ _ _ _ _, by first | exact Kd.S_nil _ _ _ _ _ | exact Kd.N_nil _ _ _ _ _ | exact Kd.V_nil _ _ _ _ _ | exact Kd.Q_nil _ _ _ _ _ | exact Kd.R_nil _ _ _ _ _, by repeat (first | (with_reducible first | exact HB.out | apply below_alloc | apply pw_below_drewN | apply below_drew1 | refine below_set ?_ GE111.out) | exact HB.out)⟩
      rw [if_neg c9] at H
      have c9b0 : decide (x17_1 < (y112.length : Int)) = false := decide_eq_false c9
      clear c9
      by_cases c17 : (l0.length : Int) < 6
      · rw [if_pos c17] at H
        have c17b0 : decide ((l0.length : Int) < 6) = true := decide_eq_true c17
        have c17b1 : decide (l0.length < 6) = true := decide_eq_true (by omega)
        have c17b2 : l0.length < 6 := by omega
        clear c17
        simp only [Option.some.injEq, Prod.mk.injEq] at H
        obtain ⟨rfl, rfl, rfl, rfl, rfl, rfl⟩ := H
        have hcz18_0 : wr.cell? ⟨gb111, 0, none⟩ = some (.int .i64 x112000_1) := (blk_cell BK111.out 0).trans rfl
        have hcz18_1 : wr.cell? ⟨gb111, 1, none⟩ = some (.int .i64 x112001_1) := (blk_cell BK111.out 1).trans rfl
        have hcz18_2 : wr.cell? ⟨gb111, 2, none⟩ = some (.int .i64 x112002_1) := (blk_cell BK111.out 2).trans rfl
        have hcz18_3 : wr.cell? ⟨gb111, 3, none⟩ = some (.slice none 0 0) := (blk_cell BK111.out 3).trans rfl
        have hcz18_4 : wr.cell? ⟨gb111, 4, none⟩ = some (.slice none 0 0) := (blk_cell BK111.out 4).trans rfl
        have hcz18_5 : wr.cell? ⟨gb111, 5, none⟩ = some (.slice none 0 0) := (blk_cell BK111.out 5).trans rfl
        have hfz18_0 := blk_frozen BK111.out 0
        have hfz18_1 := blk_frozen BK111.out 1
        have hfz18_2 := blk_frozen BK111.out 2
        have hfz18_3 := blk_frozen BK111.out 3
        have hfz18_4 := blk_frozen BK111.out 4
        have hfz18_5 := blk_frozen BK111.out 5
        go_wp2
        refine bodyPost_ret (results_cell_row rfl _ _ gb111 94 #[.int .i64 2, .int .i64 0, .int .i64 0, .slice none 0 0, .slice none 0 0, .slice none 0 0] (0, 0) _ rfl (by (with_reducible repeat (first | refine blk_drewN ?_ _ | refine blk_drew ?_ | refine blk_alloc ?_ _)); refine blk_put (cs := #[.int .i64 2, .int .i64 0, .int .i64 0, .slice none 0 0, .slice none 0 0, .slice none 0 0]) ?_ 5 _ rfl; (with_reducible repeat (first | refine blk_drewN ?_ _ | refine blk_drew ?_ | refine blk_alloc ?_ _)); refine blk_put (cs := #[.int .i64 2, .int .i64 0, .int .i64 0, .slice none 0 0, .slice none 0 0, .slice none 0 0]) ?_ 4 _ rfl; (with_reducible repeat (first | refine blk_drewN ?_ _ | refine blk_drew ?_ | refine blk_alloc ?_ _)); refine blk_put (cs := #[.int .i64 2, .int .i64 0, .int .i64 0, .slice none 0 0, .slice none 0 0, .slice none 0 0]) ?_ 3 _ rfl; (with_reducible repeat (first | refine blk_drewN ?_ _ | refine blk_drew ?_ | refine blk_alloc ?_ _)); refine blk_put (cs := #[.int .i64 2, .int .i64 0, .int .i64 x112002_1, .slice none 0 0, .slice none 0 0, .slice none 0 0]) ?_ 2 _ rfl; (with_reducible repeat (first | refine blk_drewN ?_ _ | refine blk_drew ?_ | refine blk_alloc ?_ _)); refine blk_put (cs := #[.int .i64 2, .int .i64 x112001_1, .int .i64 x112002_1, .slice none 0 0, .slice none 0 0, .slice none 0 0]) ?_ 1 _ rfl; (with_reducible repeat (first | refine blk_drewN ?_ _ | refine blk_drew ?_ | refine blk_alloc ?_ _)); refine blk_put (cs := #[.int .i64 x112000_1, .int .i64 x112001_1, .int .i64 x112002_1, .slice none 0 0, .slice none 0 0, .slice none 0 0]) ?_ 0 _ rfl; (with_reducible repeat (first | refine blk_drewN ?_ _ | refine blk_drew ?_ | refine blk_alloc ?_ _)); exact BK111.out) Try.underlying94 rfl (by kernel_rfl)) rfl ?_
        exact ⟨_, _, _, by first | rfl | (simp [errW_none, errW_some] <;> rfl) | (simp [*, errW_none, errW_some] <;> rfl), by first | exact Kd.R_nil _ _ _ _ _ | exact Kd.N_nil _ _ _ _ _ | exact Kd.V_nil _ _ _ _ _ | exact Kd.Q_nil _ _ _ _ _ | exact Kd.S_nil _ _ _ _ _, by first | exact Kd.R_nil _ _ _ _ _ | exact Kd.N_nil _ _ _ _ _ | exact Kd.V_nil _ _ _ _ _ | exact Kd.Q_nil _ _ _ _ _ | exact Kd.S_nil _ _ _ _ _, by first | exact Kd.S_nil _ _ _ _ _ | exact Kd.N_nil _ _ _ _ _ | exact Kd.V_nil _ _ _ _ _ | exact Kd.Q_nil _ _ _ _ _ | exact Kd.R_nil _ _ _ _ _, by repeat (first | (with_reducible first | exact HB.out | apply below_alloc | apply pw_below_drewN | apply below_drew1 | refine below_set ?_ GE111.out) | exact HB.out)⟩
      rw [if_neg c17] at H
      have c17b0 : decide ((l0.length : Int) < 6) = false := decide_eq_false c17
      have c17b1 : decide (l0.length < 6) = false := decide_eq_false (by omega)
      have c17b2 : ¬ (l0.length < 6) := by omega
      clear c17
      by_cases c19 : 4 < (l0.length : Int)
      rotate_left
      · rw [if_neg c19] at H
        exact absurd H (by simp)
      rw [if_pos c19] at H
      have c19b0 : decide (4 < (l0.length : Int)) = true := decide_eq_true c19
      have c19b1 : decide (4 < l0.length) = true := decide_eq_true (by omega)
      have c19b2 : 4 < l0.length := by omega
      clear c19
      by_cases c20 : 5 < (l0.length : Int)
      rotate_left
      · rw [if_neg c20] at H
        exact absurd H (by simp)
      rw [if_pos c20] at H
      have c20b0 : decide (5 < (l0.length : Int)) = true := decide_eq_true c20
      have c20b1 : decide (5 < l0.length) = true := decide_eq_true (by omega)
      have c20b2 : 5 < l0.length := by omega
      clear c20
      replace H := Option.bind_eq_some_iff.mp H
      obtain ⟨t120, A210, H⟩ := H
      replace H : (if t120 = true then (spec_ReadParts.l1 k1 l0 6 0 (wrap64 (8 * (wrap64 (rd l0 4)))) (wrap64 (8 * (wrap64 (rd l0 5)))) ([] : List Bool) ([] : List Int) ([] : List (List Int))) else (some (5, 0, 0, ([] : List Bool), ([] : List Int), ([] : List (List Int))))) = some (r1, r2, r3, r4, r5, r6) := H
      have A21 := Aside0.mk A210
      clear A210
      by_cases c22 : t120 = true
      rotate_left
      · replace c22 := Bool.eq_false_iff.mpr c22
        subst c22
        have H1 : (some (5, 0, 0, ([] : List Bool), ([] : List Int), ([] : List (List Int)))) = some (r1, r2, r3, r4, r5, r6) := by rw [if_neg (show ¬ (false = true) by decide)] at H; exact H
        clear H
        have H := H1
        clear H1
        simp only [Option.some.injEq, Prod.mk.injEq] at H
        obtain ⟨rfl, rfl, rfl, rfl, rfl, rfl⟩ := H
        try go_wp2
        have n0_ := Aside0.mk (Kd.R_drew HO_15.out)
        have n1_ := Aside0.mk (blk_drew BK111.out)
        have n2_ := Aside0.mk (below_drew1 HB.out)
        clear HO_15
        clear BK111
        clear HB
        have HO_15 := n0_
        have BK111 := n1_
        have HB := n2_
        clear n0_ n1_ n2_
        have p117 : 0 ≤ (4 : Int) := (by omega)
        have q117 : 4 < (l0.length : Int) := of_decide_eq_true (by first | (with_reducible assumption) | assumption)
        obtain ⟨ad117, e117, hx117_0⟩ := Kd.at_int HR0.out 4 p117 q117
        have hw117_0 := hx117_0
        (try rw [show ((4 : Int)).toNat = 4 from rfl] at hw117_0)
        (try rw [show 4 * 1 = 4 from rfl] at hw117_0)
        (try simp only [Nat.reduceMul, Nat.reduceEqDiff, Go.Addr.add, ↓reduceIte] at hw117_0)
        cases e117
        (try simp only [show (4 : Int).toNat = 4 from rfl, Nat.reduceMul, Nat.reduceEqDiff, Go.Addr.add, ↓reduceIte] at hx117_0)
        have qi117 : (4 < l0.length) = True := eq_true (by omega)
        (try rw [show ((4 : Int)).toNat = 4 from rfl] at hx117_0)
        replace hx117_0 := (HB.out.cell (World.block_lt_of_cell? w _ hx117_0)).trans hx117_0
        replace p117 := eq_true p117
        replace q117 := eq_true q117
        have p118 : 0 ≤ (5 : Int) := (by omega)
        have q118 : 5 < (l0.length : Int) := of_decide_eq_true (by first | (with_reducible assumption) | assumption)
        obtain ⟨ad118, e118, hx118_0⟩ := Kd.at_int HR0.out 5 p118 q118
        have hw118_0 := hx118_0
        (try rw [show ((5 : Int)).toNat = 5 from rfl] at hw118_0)
        (try rw [show 5 * 1 = 5 from rfl] at hw118_0)
        (try simp only [Nat.reduceMul, Nat.reduceEqDiff, Go.Addr.add, ↓reduceIte] at hw118_0)
        obtain rfl : ad117 = ad118 := (by injection e118)
        (try simp only [show (5 : Int).toNat = 5 from rfl, Nat.reduceMul, Nat.reduceEqDiff, Go.Addr.add, ↓reduceIte] at hx118_0)
        have qi118 : (5 < l0.length) = True := eq_true (by omega)
        (try rw [show ((5 : Int)).toNat = 5 from rfl] at hx118_0)
        replace hx118_0 := (HB.out.cell (World.block_lt_of_cell? w _ hx118_0)).trans hx118_0
        replace p118 := eq_true p118
        replace q118 := eq_true q118
        refine start_ (n := 13) (S := fun w' => w'.cell? ⟨ad117.block, ad117.off + 4, none⟩ = some (.int .u8 (rd l0 4)) ∧ w'.cell? ⟨ad117.block, ad117.off + 5, none⟩ = some (.int .u8 (rd l0 5))) (ds := []) #[false, false, false, false, false, false, false, false, false, false, false, false, false] (by kernel_rfl) rfl rfl ⟨((HB.out.cell (World.block_lt_of_cell? w _ hw117_0)).trans hw117_0), ((HB.out.cell (World.block_lt_of_cell? w _ hw118_0)).trans hw118_0)⟩ (fun hHeld => ?_); refine with_tabW spec_ReadParts.tab13 spec_ReadParts.bits13 (fun HT_ HW_ => ?_)
        generalize wr.drew = w127 at HO_15 BK111 HB hx117_0 hx118_0 hHeld ⊢
        refine pure_ (i := 0) (N := some 39) (v := ?_) (a' := ?_) #[true, false, false, false, false, false, false, false, false, false, false, false, false] rfl rfl (any_of HT_.out (by kernel_rfl)) (fun _ _ _ h => h) (Or.inl ⟨by rfl, ?_⟩) ?_ ?_
        rotate_left
        · intro w'
          go_simp
          with_reducible rfl
        rotate_left
        · simp only [Act.put, List.setIfInBounds_toArray, List.set_cons_zero, List.set_cons_succ, i64_w, i32_w]
          rfl
        refine pure_ (i := 1) (N := some 40) (v := ?_) (a' := ?_) #[true, true, false, false, false, false, false, false, false, false, false, false, false] rfl rfl (any_of HT_.out (by kernel_rfl)) (fun _ _ _ h => h) (Or.inl ⟨by rfl, ?_⟩) ?_ ?_
        rotate_left
        · intro w'
          go_simp
          with_reducible rfl
        rotate_left
        · simp only [Act.put, List.setIfInBounds_toArray, List.set_cons_zero, List.set_cons_succ, i64_w, i32_w]
          rfl
        refine pure_ (i := 5) (N := some 44) (v := ?_) (a' := ?_) #[true, true, false, false, false, true, false, false, false, false, false, false, false] rfl rfl (any_of HT_.out (by kernel_rfl)) (fun _ _ _ h => h) (Or.inl ⟨by rfl, ?_⟩) ?_ ?_
        rotate_left
        · intro w'
          go_simp
          with_reducible rfl
        rotate_left
        · simp only [Act.put, List.setIfInBounds_toArray, List.set_cons_zero, List.set_cons_succ, i64_w, i32_w]
          rfl
        refine pure_ (i := 6) (N := some 45) (v := ?_) (a' := ?_) #[true, true, false, false, false, true, true, false, false, false, false, false, false] rfl rfl (any_of HT_.out (by kernel_rfl)) (fun _ _ _ h => h) (Or.inl ⟨by rfl, ?_⟩) ?_ ?_
        rotate_left
        · intro w'
          go_simp
          with_reducible rfl
        rotate_left
        · simp only [Act.put, List.setIfInBounds_toArray, List.set_cons_zero, List.set_cons_succ, i64_w, i32_w]
          rfl
        refine take_ (i := 2) (N := some 41) (v := ?_) (a' := ?_) #[true, true, true, false, false, true, true, false, false, false, false, false, false] rfl rfl (take_ofW HT_.out HW_.out (by kernel_rfl)) (fun _ _ _ h => h) (Or.inl ⟨by rfl, ?_⟩) hHeld ?_ ?_
        rotate_left
        · rintro w' ⟨s0, s1⟩
          go_simp
          with_reducible rfl
        rotate_left
        · simp only [Act.put, List.setIfInBounds_toArray, List.set_cons_zero, List.set_cons_succ, i64_w, i32_w]
          rfl
        refine pure_ (i := 3) (N := some 42) (v := ?_) (a' := ?_) #[true, true, true, true, false, true, true, false, false, false, false, false, false] rfl rfl (any_of HT_.out (by kernel_rfl)) (fun _ _ _ h => h) (Or.inl ⟨by rfl, ?_⟩) ?_ ?_
        rotate_left
        · intro w'
          go_simp
          with_reducible rfl
        rotate_left
        · simp only [Act.put, List.setIfInBounds_toArray, List.set_cons_zero, List.set_cons_succ, i64_w, i32_w]
          rfl
        refine pure_ (i := 4) (N := some 43) (v := ?_) (a' := ?_) #[true, true, true, true, true, true, true, false, false, false, false, false, false] rfl rfl (any_of HT_.out (by kernel_rfl)) (fun _ _ _ h => h) (Or.inl ⟨by rfl, ?_⟩) ?_ ?_
        rotate_left
        · intro w'
          go_simp
          with_reducible rfl
        rotate_left
        · simp only [Act.put, List.setIfInBounds_toArray, List.set_cons_zero, List.set_cons_succ, i64_w, i32_w]
          rfl
        refine take_ (i := 7) (N := some 46) (v := ?_) (a' := ?_) #[true, true, true, true, true, true, true, true, false, false, false, false, false] rfl rfl (take_ofW HT_.out HW_.out (by kernel_rfl)) (fun _ _ _ h => h) (Or.inl ⟨by rfl, ?_⟩) hHeld ?_ ?_
        rotate_left
        · rintro w' ⟨s0, s1⟩
          go_simp
          with_reducible rfl
        rotate_left
        · simp only [Act.put, List.setIfInBounds_toArray, List.set_cons_zero, List.set_cons_succ, i64_w, i32_w]
          rfl
        refine pure_ (i := 8) (N := some 47) (v := ?_) (a' := ?_) #[true, true, true, true, true, true, true, true, true, false, false, false, false] rfl rfl (any_of HT_.out (by kernel_rfl)) (fun _ _ _ h => h) (Or.inl ⟨by rfl, ?_⟩) ?_ ?_
        rotate_left
        · intro w'
          go_simp
          with_reducible rfl
        rotate_left
        · simp only [Act.put, List.setIfInBounds_toArray, List.set_cons_zero, List.set_cons_succ, i64_w, i32_w]
          rfl
        refine pure_ (i := 9) (N := some 48) (v := ?_) (a' := ?_) #[true, true, true, true, true, true, true, true, true, true, false, false, false] rfl rfl (any_of HT_.out (by kernel_rfl)) (fun _ _ _ h => h) (Or.inl ⟨by rfl, ?_⟩) ?_ ?_
        rotate_left
        · intro w'
          go_simp
          with_reducible rfl
        rotate_left
        · simp only [Act.put, List.setIfInBounds_toArray, List.set_cons_zero, List.set_cons_succ, i64_w, i32_w]
          rfl
        refine pure_ (i := 10) (N := some 49) (v := ?_) (a' := ?_) #[true, true, true, true, true, true, true, true, true, true, true, false, false] rfl rfl (any_of HT_.out (by kernel_rfl)) (fun _ _ _ h => h) (Or.inl ⟨by rfl, ?_⟩) ?_ ?_
        rotate_left
        · intro w'
          go_simp
          with_reducible rfl
        rotate_left
        · simp only [Act.put, List.setIfInBounds_toArray, List.set_cons_zero, List.set_cons_succ, i64_w, i32_w]
          rfl
        refine one_ (i := 11) (N := some 5) #[true, true, true, true, true, true, true, true, true, true, true, true, false] rfl rfl (one_of HT_.out (by kernel_rfl)) (by decide) (fun K hK => ?_)
        refine box_step ?hg (N := 5) ?hd (cs := #[.int .i64 0, .int .i64 0, .int .i64 0, .slice none 0 0, .slice none 0 0, .slice none 0 0]) (t := 94) ?hr ?_; (case hd => rfl); (case hg => rfl); (case hr => first | (go_simp; done) | (go_simp; rfl))
        intro gb119 hg w128 hbox hb
        have n0_ := Aside0.mk (Kd.R_below (by (with_reducible repeat (first | apply Kd.R_alloc | apply Kd.R_drewN | apply Kd.R_drew)); exact HO_15.out) hb)
        have n1_ := Aside0.mk (blk_below (g := gb111) (o := .cells #[.int .i64 x112000_1, .int .i64 x112001_1, .int .i64 x112002_1, .slice none 0 0, .slice none 0 0, .slice none 0 0] 94 (0, 0)) (by (with_reducible repeat (first | refine blk_drewN ?_ _ | refine blk_drew ?_ | refine blk_alloc ?_ _)); exact BK111.out) hb)
        have n2_ := Aside0.mk (below_step (by repeat (first | (with_reducible first | exact HB.out | apply below_alloc | apply pw_below_drewN | apply below_drew1 | refine below_set ?_ GE111.out) | exact HB.out)) hb)
        have n3_ := Aside0.mk (hbox)
        have n4_ := Aside0.mk ((by rw [hg]; exact (below_size (by repeat (first | (with_reducible first | exact HB.out | apply below_alloc | apply pw_below_drewN | apply below_drew1 | refine below_set ?_ GE111.out) | exact HB.out))) : w.heap.size ≤ gb119))
        have n5_ := Aside0.mk ((by rw [hg]; exact (below_size (by repeat (first | (with_reducible first | exact HB.out | apply below_alloc | apply pw_below_drewN | apply below_drew1 | refine below_set ?_ GE111.out) | exact HB.out))) : w.heap.size ≤ gb119))
        have n6_ := Aside0.mk ((by rw [hg]; exact Nat.ne_of_lt (blk_lt (g := gb111) (o := .cells #[.int .i64 x112000_1, .int .i64 x112001_1, .int .i64 x112002_1, .slice none 0 0, .slice none 0 0, .slice none 0 0] 94 (0, 0)) (by (with_reducible repeat (first | refine blk_drewN ?_ _ | refine blk_drew ?_ | refine blk_alloc ?_ _)); exact BK111.out)) : gb111 ≠ gb119))
        have n7_ := Aside0.mk ((by rw [hg]; exact Nat.ne_of_gt (blk_lt (g := gb111) (o := .cells #[.int .i64 x112000_1, .int .i64 x112001_1, .int .i64 x112002_1, .slice none 0 0, .slice none 0 0, .slice none 0 0] 94 (0, 0)) (by (with_reducible repeat (first | refine blk_drewN ?_ _ | refine blk_drew ?_ | refine blk_alloc ?_ _)); exact BK111.out)) : gb119 ≠ gb111))
        clear HO_15
        clear BK111
        clear HB
        have HO_15 := n0_
        have BK111 := n1_
        have HB := n2_
        have BK119 := n3_
        have GW119 := n4_
        have GE119 := n5_
        have NB111_119 := n6_
        have NB119_111 := n7_
        clear n0_ n1_ n2_ n3_ n4_ n5_ n6_ n7_
        clear hb hbox hg
        refine hK.out _ _ ⟨((HB.out.cell (World.block_lt_of_cell? w _ hw117_0)).trans hw117_0), ((HB.out.cell (World.block_lt_of_cell? w _ hw118_0)).trans hw118_0)⟩ (fun hHeld => ?_)
        clear hK K
        refine norm_ (a' := ?_) ?_ ?_
        rotate_left
        · show Act.put _ (some 5) _ = _
          simp only [Act.put, List.setIfInBounds_toArray, List.set_cons_zero, List.set_cons_succ, i64_w, i32_w]
          rfl
        refine one_ (i := 12) (N := none) #[true, true, true, true, true, true, true, true, true, true, true, true, true] rfl rfl (one_of HT_.out (by kernel_rfl)) (by decide) (fun K hK => ?_)
        have hs129 : w128.cell? ⟨gb119, 0, none⟩ = some (.int .i64 0) := (blk_cell BK119.out 0).trans rfl
        have hfs129 := blk_frozen BK119.out 0
        have hns129_0 := NB111_119.out
        have hms129_0 := NB119_111.out
        have hs130 : w128.cell? ⟨gb119, 1, none⟩ = some (.int .i64 0) := (blk_cell BK119.out 1).trans rfl
        have hfs130 := blk_frozen BK119.out 1
        have hns130_0 := NB111_119.out
        have hms130_0 := NB119_111.out
        have hs131 : w128.cell? ⟨gb119, 2, none⟩ = some (.int .i64 0) := (blk_cell BK119.out 2).trans rfl
        have hfs131 := blk_frozen BK119.out 2
        have hns131_0 := NB111_119.out
        have hms131_0 := NB119_111.out
        have hs132 : w128.cell? ⟨gb119, 3, none⟩ = some (.slice none 0 0) := (blk_cell BK119.out 3).trans rfl
        have hfs132 := blk_frozen BK119.out 3
        have hns132_0 := NB111_119.out
        have hms132_0 := NB119_111.out
        have hs133 : w128.cell? ⟨gb119, 4, none⟩ = some (.slice none 0 0) := (blk_cell BK119.out 4).trans rfl
        have hfs133 := blk_frozen BK119.out 4
        have hns133_0 := NB111_119.out
        have hms133_0 := NB119_111.out
        have hs134 : w128.cell? ⟨gb119, 5, none⟩ = some (.slice none 0 0) := (blk_cell BK119.out 5).trans rfl
        have hfs134 := blk_frozen BK119.out 5
        have hns134_0 := NB111_119.out
        have hms134_0 := NB119_111.out
        refine skip_ (w1 := ?_) (by rfl) rfl ?_ ?_
        rotate_left
        · go_simp
          rfl
        have zb_ := World.block_lt_of_cell? _ _ hw117_0
        (try rw [add_block] at zb_)
        have zn117_0_119 := Nat.ne_of_lt (Nat.lt_of_lt_of_le zb_ GW119.out)
        clear zb_
        have zb_ := World.block_lt_of_cell? _ _ hw118_0
        (try rw [add_block] at zb_)
        have zn118_0_119 := Nat.ne_of_lt (Nat.lt_of_lt_of_le zb_ GW119.out)
        clear zb_
        refine hK.out _ _ ⟨((cell_far (p := ⟨gb119, _, none⟩) (by first | exact zn117_0_119 | (rw [add_block]; exact zn117_0_119) | (show (Addr.add _ _).block ≠ _; rw [add_block]; exact zn117_0_119) | (dsimp only; exact zn117_0_119)) _).trans (((cell_far (p := ⟨gb119, _, none⟩) (by first | exact zn117_0_119 | (rw [add_block]; exact zn117_0_119) | (show (Addr.add _ _).block ≠ _; rw [add_block]; exact zn117_0_119) | (dsimp only; exact zn117_0_119)) _).trans (((cell_far (p := ⟨gb119, _, none⟩) (by first | exact zn117_0_119 | (rw [add_block]; exact zn117_0_119) | (show (Addr.add _ _).block ≠ _; rw [add_block]; exact zn117_0_119) | (dsimp only; exact zn117_0_119)) _).trans (((cell_far (p := ⟨gb119, _, none⟩) (by first | exact zn117_0_119 | (rw [add_block]; exact zn117_0_119) | (show (Addr.add _ _).block ≠ _; rw [add_block]; exact zn117_0_119) | (dsimp only; exact zn117_0_119)) _).trans (((cell_far (p := ⟨gb119, _, none⟩) (by first | exact zn117_0_119 | (rw [add_block]; exact zn117_0_119) | (show (Addr.add _ _).block ≠ _; rw [add_block]; exact zn117_0_119) | (dsimp only; exact zn117_0_119)) _).trans (((cell_far (p := ⟨gb119, _, none⟩) (by first | exact zn117_0_119 | (rw [add_block]; exact zn117_0_119) | (show (Addr.add _ _).block ≠ _; rw [add_block]; exact zn117_0_119) | (dsimp only; exact zn117_0_119)) _).trans (hHeld.1)))))))))))), ((cell_far (p := ⟨gb119, _, none⟩) (by first | exact zn118_0_119 | (rw [add_block]; exact zn118_0_119) | (show (Addr.add _ _).block ≠ _; rw [add_block]; exact zn118_0_119) | (dsimp only; exact zn118_0_119)) _).trans (((cell_far (p := ⟨gb119, _, none⟩) (by first | exact zn118_0_119 | (rw [add_block]; exact zn118_0_119) | (show (Addr.add _ _).block ≠ _; rw [add_block]; exact zn118_0_119) | (dsimp only; exact zn118_0_119)) _).trans (((cell_far (p := ⟨gb119, _, none⟩) (by first | exact zn118_0_119 | (rw [add_block]; exact zn118_0_119) | (show (Addr.add _ _).block ≠ _; rw [add_block]; exact zn118_0_119) | (dsimp only; exact zn118_0_119)) _).trans (((cell_far (p := ⟨gb119, _, none⟩) (by first | exact zn118_0_119 | (rw [add_block]; exact zn118_0_119) | (show (Addr.add _ _).block ≠ _; rw [add_block]; exact zn118_0_119) | (dsimp only; exact zn118_0_119)) _).trans (((cell_far (p := ⟨gb119, _, none⟩) (by first | exact zn118_0_119 | (rw [add_block]; exact zn118_0_119) | (show (Addr.add _ _).block ≠ _; rw [add_block]; exact zn118_0_119) | (dsimp only; exact zn118_0_119)) _).trans (((cell_far (p := ⟨gb119, _, none⟩) (by first | exact zn118_0_119 | (rw [add_block]; exact zn118_0_119) | (show (Addr.add _ _).block ≠ _; rw [add_block]; exact zn118_0_119) | (dsimp only; exact zn118_0_119)) _).trans (hHeld.2))))))))))))⟩ (fun hHeld => ?_)
        clear zn117_0_119 zn118_0_119
        clear hK K
        refine done_ (done_of HT_.out (by kernel_rfl)) ?_
        have hnb135 := NB119_111.out
        have hnc135 := NB111_119.out
        have hcz136_0 : w128.cell? ⟨gb119, 0, none⟩ = some (.int .i64 0) := (blk_cell BK119.out 0).trans rfl
        have hcz136_1 : w128.cell? ⟨gb119, 1, none⟩ = some (.int .i64 0) := (blk_cell BK119.out 1).trans rfl
        have hcz136_2 : w128.cell? ⟨gb119, 2, none⟩ = some (.int .i64 0) := (blk_cell BK119.out 2).trans rfl
        have hcz136_3 : w128.cell? ⟨gb119, 3, none⟩ = some (.slice none 0 0) := (blk_cell BK119.out 3).trans rfl
        have hcz136_4 : w128.cell? ⟨gb119, 4, none⟩ = some (.slice none 0 0) := (blk_cell BK119.out 4).trans rfl
        have hcz136_5 : w128.cell? ⟨gb119, 5, none⟩ = some (.slice none 0 0) := (blk_cell BK119.out 5).trans rfl
        have hfz136_0 := blk_frozen BK119.out 0
        have hfz136_1 := blk_frozen BK119.out 1
        have hfz136_2 := blk_frozen BK119.out 2
        have hfz136_3 := blk_frozen BK119.out 3
        have hfz136_4 := blk_frozen BK119.out 4
        have hfz136_5 := blk_frozen BK119.out 5
        try go_wp2_with (first | ((with_reducible refine gate_callee (f := 141) rfl ?_); refine goesL_ (some 54) rfl rfl Try.func141 (by kernel_rfl) rfl #[.int .i64 (wrap64 (8 * (wrap64 (rd l0 4)))), .int .i64 (wrap64 (8 * (wrap64 (rd l0 5))))] rfl (by (try simp only [List.map_toArray, List.map_cons, List.map_nil]); first | done | rfl | (simp only [List.length_drop, List.length_take]; rfl)) ?_; (with_reducible refine (spec_l14Sides.calls (wrap64 (8 * (wrap64 (rd l0 4)))) (wrap64 (8 * (wrap64 (rd l0 5)))) false _ A21.out).mono ?_); rintro e w' ⟨rfl, ⟨nd, rfl⟩⟩; refine ⟨_, rfl, ?_⟩; have hcz137_0 : w128.cell? ⟨gb111, 0, none⟩ = some (.int .i64 x112000_1) := (blk_cell BK111.out 0).trans rfl; have hcz137_1 : w128.cell? ⟨gb111, 1, none⟩ = some (.int .i64 x112001_1) := (blk_cell BK111.out 1).trans rfl; have hcz137_2 : w128.cell? ⟨gb111, 2, none⟩ = some (.int .i64 x112002_1) := (blk_cell BK111.out 2).trans rfl; have hcz137_3 : w128.cell? ⟨gb111, 3, none⟩ = some (.slice none 0 0) := (blk_cell BK111.out 3).trans rfl; have hcz137_4 : w128.cell? ⟨gb111, 4, none⟩ = some (.slice none 0 0) := (blk_cell BK111.out 4).trans rfl; have hcz137_5 : w128.cell? ⟨gb111, 5, none⟩ = some (.slice none 0 0) := (blk_cell BK111.out 5).trans rfl; have hfz137_0 := blk_frozen BK111.out 0; have hfz137_1 := blk_frozen BK111.out 1; have hfz137_2 := blk_frozen BK111.out 2; have hfz137_3 := blk_frozen BK111.out 3; have hfz137_4 := blk_frozen BK111.out 4; have hfz137_5 := blk_frozen BK111.out 5))
        refine bodyPost_ret (results_cell_row rfl _ _ gb111 94 #[.int .i64 5, .int .i64 0, .int .i64 0, .slice none 0 0, .slice none 0 0, .slice none 0 0] (0, 0) _ rfl (by (with_reducible repeat (first | refine blk_drewN ?_ _ | refine blk_drew ?_ | refine blk_alloc ?_ _)); refine blk_put (cs := #[.int .i64 5, .int .i64 0, .int .i64 0, .slice none 0 0, .slice none 0 0, .slice none 0 0]) ?_ 5 _ rfl; (with_reducible repeat (first | refine blk_drewN ?_ _ | refine blk_drew ?_ | refine blk_alloc ?_ _)); refine blk_put (cs := #[.int .i64 5, .int .i64 0, .int .i64 0, .slice none 0 0, .slice none 0 0, .slice none 0 0]) ?_ 4 _ rfl; (with_reducible repeat (first | refine blk_drewN ?_ _ | refine blk_drew ?_ | refine blk_alloc ?_ _)); refine blk_put (cs := #[.int .i64 5, .int .i64 0, .int .i64 0, .slice none 0 0, .slice none 0 0, .slice none 0 0]) ?_ 3 _ rfl; (with_reducible repeat (first | refine blk_drewN ?_ _ | refine blk_drew ?_ | refine blk_alloc ?_ _)); refine blk_put (cs := #[.int .i64 5, .int .i64 0, .int .i64 x112002_1, .slice none 0 0, .slice none 0 0, .slice none 0 0]) ?_ 2 _ rfl; (with_reducible repeat (first | refine blk_drewN ?_ _ | refine blk_drew ?_ | refine blk_alloc ?_ _)); refine blk_put (cs := #[.int .i64 5, .int .i64 x112001_1, .int .i64 x112002_1, .slice none 0 0, .slice none 0 0, .slice none 0 0]) ?_ 1 _ rfl; (with_reducible repeat (first | refine blk_drewN ?_ _ | refine blk_drew ?_ | refine blk_alloc ?_ _)); refine blk_put (cs := #[.int .i64 x112000_1, .int .i64 x112001_1, .int .i64 x112002_1, .slice none 0 0, .slice none 0 0, .slice none 0 0]) ?_ 0 _ rfl; (with_reducible repeat (first | refine blk_drewN ?_ _ | refine blk_drew ?_ | refine blk_alloc ?_ _)); refine blk_far ?_ NB111_119.out _; (with_reducible repeat (first | refine blk_drewN ?_ _ | refine blk_drew ?_ | refine blk_alloc ?_ _)); refine blk_far ?_ NB111_119.out _; (with_reducible repeat (first | refine blk_drewN ?_ _ | refine blk_drew ?_ | refine blk_alloc ?_ _)); refine blk_far ?_ NB111_119.out _; (with_reducible repeat (first | refine blk_drewN ?_ _ | refine blk_drew ?_ | refine blk_alloc ?_ _)); refine blk_far ?_ NB111_119.out _; (with_reducible repeat (first | refine blk_drewN ?_ _ | refine blk_drew ?_ | refine blk_alloc ?_ _)); refine blk_far ?_ NB111_119.out _; (with_reducible repeat (first | refine blk_drewN ?_ _ | refine blk_drew ?_ | refine blk_alloc ?_ _)); refine blk_far ?_ NB111_119.out _; (with_reducible repeat (first | refine blk_drewN ?_ _ | refine blk_drew ?_ | refine blk_alloc ?_ _)); exact BK111.out) Try.underlying94 rfl (by kernel_rfl)) rfl ?_
        exact ⟨_, _, _, by first | rfl | (simp [errW_none, errW_some] <;> rfl) | (simp [*, errW_none, errW_some] <;> rfl), by first | exact Kd.R_nil _ _ _ _ _ | exact Kd.N_nil _ _ _ _ _ | exact Kd.V_nil _ _ _ _ _ | exact Kd.Q_nil _ _ _ _ _ | exact Kd.S_nil _ _ _ _ _, by first | exact Kd.R_nil _ _ _ _ _ | exact Kd.N_nil _ _ _ _ _ | exact Kd.V_nil _ _ _ _ _ | exact Kd.Q_nil _ _ _ _ _ | exact Kd.S_nil _ _ _ _ _, by first | exact Kd.S_nil _ _ _ _ _ | exact Kd.N_nil _ _ _ _ _ | exact Kd.V_nil _ _ _ _ _ | exact Kd.Q_nil _ _ _ _ _ | exact Kd.R_nil _ _ _ _ _, by repeat (first | (with_reducible first | exact HB.out | apply below_alloc | apply pw_below_drewN | apply below_drew1 | refine below_set ?_ GE111.out | refine below_set ?_ GE119.out) | exact HB.out)⟩
      subst c22
      have H1 : (spec_ReadParts.l1 k1 l0 6 0 (wrap64 (8 * (wrap64 (rd l0 4)))) (wrap64 (8 * (wrap64 (rd l0 5)))) ([] : List Bool) ([] : List Int) ([] : List (List Int))) = some (r1, r2, r3, r4, r5, r6) := by rw [if_pos rfl] at H; exact H
      clear H
      have H := H1
      clear H1
      have H' := Aside0.mk H
      clear H
      try go_wp2
      have n0_ := Aside0.mk (Kd.R_drew HO_15.out)
      have n1_ := Aside0.mk (blk_drew BK111.out)
      have n2_ := Aside0.mk (below_drew1 HB.out)
      clear HO_15
      clear BK111
      clear HB
      have HO_15 := n0_
      have BK111 := n1_
      have HB := n2_
      clear n0_ n1_ n2_
      have p117 : 0 ≤ (4 : Int) := (by omega)
      have q117 : 4 < (l0.length : Int) := of_decide_eq_true (by first | (with_reducible assumption) | assumption)
      obtain ⟨ad117, e117, hx117_0⟩ := Kd.at_int HR0.out 4 p117 q117
      have hw117_0 := hx117_0
      (try rw [show ((4 : Int)).toNat = 4 from rfl] at hw117_0)
      (try rw [show 4 * 1 = 4 from rfl] at hw117_0)
      (try simp only [Nat.reduceMul, Nat.reduceEqDiff, Go.Addr.add, ↓reduceIte] at hw117_0)
      cases e117
      (try simp only [show (4 : Int).toNat = 4 from rfl, Nat.reduceMul, Nat.reduceEqDiff, Go.Addr.add, ↓reduceIte] at hx117_0)
      have qi117 : (4 < l0.length) = True := eq_true (by omega)
      (try rw [show ((4 : Int)).toNat = 4 from rfl] at hx117_0)
      replace hx117_0 := (HB.out.cell (World.block_lt_of_cell? w _ hx117_0)).trans hx117_0
      replace p117 := eq_true p117
      replace q117 := eq_true q117
      have p118 : 0 ≤ (5 : Int) := (by omega)
      have q118 : 5 < (l0.length : Int) := of_decide_eq_true (by first | (with_reducible assumption) | assumption)
      obtain ⟨ad118, e118, hx118_0⟩ := Kd.at_int HR0.out 5 p118 q118
      have hw118_0 := hx118_0
      (try rw [show ((5 : Int)).toNat = 5 from rfl] at hw118_0)
      (try rw [show 5 * 1 = 5 from rfl] at hw118_0)
      (try simp only [Nat.reduceMul, Nat.reduceEqDiff, Go.Addr.add, ↓reduceIte] at hw118_0)
      obtain rfl : ad117 = ad118 := (by injection e118)
      (try simp only [show (5 : Int).toNat = 5 from rfl, Nat.reduceMul, Nat.reduceEqDiff, Go.Addr.add, ↓reduceIte] at hx118_0)
      have qi118 : (5 < l0.length) = True := eq_true (by omega)
      (try rw [show ((5 : Int)).toNat = 5 from rfl] at hx118_0)
      replace hx118_0 := (HB.out.cell (World.block_lt_of_cell? w _ hx118_0)).trans hx118_0
      replace p118 := eq_true p118
      replace q118 := eq_true q118
      refine start_ (n := 13) (S := fun w' => w'.cell? ⟨ad117.block, ad117.off + 4, none⟩ = some (.int .u8 (rd l0 4)) ∧ w'.cell? ⟨ad117.block, ad117.off + 5, none⟩ = some (.int .u8 (rd l0 5))) (ds := []) #[false, false, false, false, false, false, false, false, false, false, false, false, false] (by kernel_rfl) rfl rfl ⟨((HB.out.cell (World.block_lt_of_cell? w _ hw117_0)).trans hw117_0), ((HB.out.cell (World.block_lt_of_cell? w _ hw118_0)).trans hw118_0)⟩ (fun hHeld => ?_); refine with_tabW spec_ReadParts.tab13 spec_ReadParts.bits13 (fun HT_ HW_ => ?_)
      generalize wr.drew = w23 at HO_15 BK111 HB hx117_0 hx118_0 hHeld ⊢
      refine pure_ (i := 0) (N := some 39) (v := ?_) (a' := ?_) #[true, false, false, false, false, false, false, false, false, false, false, false, false] rfl rfl (any_of HT_.out (by kernel_rfl)) (fun _ _ _ h => h) (Or.inl ⟨by rfl, ?_⟩) ?_ ?_
      rotate_left
      · intro w'
        go_simp
        with_reducible rfl
      rotate_left
      · simp only [Act.put, List.setIfInBounds_toArray, List.set_cons_zero, List.set_cons_succ, i64_w, i32_w]
        rfl
      refine pure_ (i := 1) (N := some 40) (v := ?_) (a' := ?_) #[true, true, false, false, false, false, false, false, false, false, false, false, false] rfl rfl (any_of HT_.out (by kernel_rfl)) (fun _ _ _ h => h) (Or.inl ⟨by rfl, ?_⟩) ?_ ?_
      rotate_left
      · intro w'
        go_simp
        with_reducible rfl
      rotate_left
      · simp only [Act.put, List.setIfInBounds_toArray, List.set_cons_zero, List.set_cons_succ, i64_w, i32_w]
        rfl
      refine pure_ (i := 5) (N := some 44) (v := ?_) (a' := ?_) #[true, true, false, false, false, true, false, false, false, false, false, false, false] rfl rfl (any_of HT_.out (by kernel_rfl)) (fun _ _ _ h => h) (Or.inl ⟨by rfl, ?_⟩) ?_ ?_
      rotate_left
      · intro w'
        go_simp
        with_reducible rfl
      rotate_left
      · simp only [Act.put, List.setIfInBounds_toArray, List.set_cons_zero, List.set_cons_succ, i64_w, i32_w]
        rfl
      refine pure_ (i := 6) (N := some 45) (v := ?_) (a' := ?_) #[true, true, false, false, false, true, true, false, false, false, false, false, false] rfl rfl (any_of HT_.out (by kernel_rfl)) (fun _ _ _ h => h) (Or.inl ⟨by rfl, ?_⟩) ?_ ?_
      rotate_left
      · intro w'
        go_simp
        with_reducible rfl
      rotate_left
      · simp only [Act.put, List.setIfInBounds_toArray, List.set_cons_zero, List.set_cons_succ, i64_w, i32_w]
        rfl
      refine take_ (i := 2) (N := some 41) (v := ?_) (a' := ?_) #[true, true, true, false, false, true, true, false, false, false, false, false, false] rfl rfl (take_ofW HT_.out HW_.out (by kernel_rfl)) (fun _ _ _ h => h) (Or.inl ⟨by rfl, ?_⟩) hHeld ?_ ?_
      rotate_left
      · rintro w' ⟨s0, s1⟩
        go_simp
        with_reducible rfl
      rotate_left
      · simp only [Act.put, List.setIfInBounds_toArray, List.set_cons_zero, List.set_cons_succ, i64_w, i32_w]
        rfl
      refine pure_ (i := 3) (N := some 42) (v := ?_) (a' := ?_) #[true, true, true, true, false, true, true, false, false, false, false, false, false] rfl rfl (any_of HT_.out (by kernel_rfl)) (fun _ _ _ h => h) (Or.inl ⟨by rfl, ?_⟩) ?_ ?_
      rotate_left
      · intro w'
        go_simp
        with_reducible rfl
      rotate_left
      · simp only [Act.put, List.setIfInBounds_toArray, List.set_cons_zero, List.set_cons_succ, i64_w, i32_w]
        rfl
      refine pure_ (i := 4) (N := some 43) (v := ?_) (a' := ?_) #[true, true, true, true, true, true, true, false, false, false, false, false, false] rfl rfl (any_of HT_.out (by kernel_rfl)) (fun _ _ _ h => h) (Or.inl ⟨by rfl, ?_⟩) ?_ ?_
      rotate_left
      · intro w'
        go_simp
        with_reducible rfl
      rotate_left
      · simp only [Act.put, List.setIfInBounds_toArray, List.set_cons_zero, List.set_cons_succ, i64_w, i32_w]
        rfl
      refine take_ (i := 7) (N := some 46) (v := ?_) (a' := ?_) #[true, true, true, true, true, true, true, true, false, false, false, false, false] rfl rfl (take_ofW HT_.out HW_.out (by kernel_rfl)) (fun _ _ _ h => h) (Or.inl ⟨by rfl, ?_⟩) hHeld ?_ ?_
      rotate_left
      · rintro w' ⟨s0, s1⟩
        go_simp
        with_reducible rfl
      rotate_left
      · simp only [Act.put, List.setIfInBounds_toArray, List.set_cons_zero, List.set_cons_succ, i64_w, i32_w]
        rfl
      refine pure_ (i := 8) (N := some 47) (v := ?_) (a' := ?_) #[true, true, true, true, true, true, true, true, true, false, false, false, false] rfl rfl (any_of HT_.out (by kernel_rfl)) (fun _ _ _ h => h) (Or.inl ⟨by rfl, ?_⟩) ?_ ?_
      rotate_left
      · intro w'
        go_simp
        with_reducible rfl
      rotate_left
      · simp only [Act.put, List.setIfInBounds_toArray, List.set_cons_zero, List.set_cons_succ, i64_w, i32_w]
        rfl
      refine pure_ (i := 9) (N := some 48) (v := ?_) (a' := ?_) #[true, true, true, true, true, true, true, true, true, true, false, false, false] rfl rfl (any_of HT_.out (by kernel_rfl)) (fun _ _ _ h => h) (Or.inl ⟨by rfl, ?_⟩) ?_ ?_
      rotate_left
      · intro w'
        go_simp
        with_reducible rfl
      rotate_left
      · simp only [Act.put, List.setIfInBounds_toArray, List.set_cons_zero, List.set_cons_succ, i64_w, i32_w]
        rfl
      refine pure_ (i := 10) (N := some 49) (v := ?_) (a' := ?_) #[true, true, true, true, true, true, true, true, true, true, true, false, false] rfl rfl (any_of HT_.out (by kernel_rfl)) (fun _ _ _ h => h) (Or.inl ⟨by rfl, ?_⟩) ?_ ?_
      rotate_left
      · intro w'
        go_simp
        with_reducible rfl
      rotate_left
      · simp only [Act.put, List.setIfInBounds_toArray, List.set_cons_zero, List.set_cons_succ, i64_w, i32_w]
        rfl
      refine one_ (i := 11) (N := some 5) #[true, true, true, true, true, true, true, true, true, true, true, true, false] rfl rfl (one_of HT_.out (by kernel_rfl)) (by decide) (fun K hK => ?_)
      refine box_step ?hg (N := 5) ?hd (cs := #[.int .i64 0, .int .i64 0, .int .i64 0, .slice none 0 0, .slice none 0 0, .slice none 0 0]) (t := 94) ?hr ?_; (case hd => rfl); (case hg => rfl); (case hr => first | (go_simp; done) | (go_simp; rfl))
      intro gb119 hg w24 hbox hb
      have n0_ := Aside0.mk (Kd.R_below (by (with_reducible repeat (first | apply Kd.R_alloc | apply Kd.R_drewN | apply Kd.R_drew)); exact HO_15.out) hb)
      have n1_ := Aside0.mk (blk_below (g := gb111) (o := .cells #[.int .i64 x112000_1, .int .i64 x112001_1, .int .i64 x112002_1, .slice none 0 0, .slice none 0 0, .slice none 0 0] 94 (0, 0)) (by (with_reducible repeat (first | refine blk_drewN ?_ _ | refine blk_drew ?_ | refine blk_alloc ?_ _)); exact BK111.out) hb)
      have n2_ := Aside0.mk (below_step (by repeat (first | (with_reducible first | exact HB.out | apply below_alloc | apply pw_below_drewN | apply below_drew1 | refine below_set ?_ GE111.out) | exact HB.out)) hb)
      have n3_ := Aside0.mk (hbox)
      have n4_ := Aside0.mk ((by rw [hg]; exact (below_size (by repeat (first | (with_reducible first | exact HB.out | apply below_alloc | apply pw_below_drewN | apply below_drew1 | refine below_set ?_ GE111.out) | exact HB.out))) : w.heap.size ≤ gb119))
      have n5_ := Aside0.mk ((by rw [hg]; exact (below_size (by repeat (first | (with_reducible first | exact HB.out | apply below_alloc | apply pw_below_drewN | apply below_drew1 | refine below_set ?_ GE111.out) | exact HB.out))) : w.heap.size ≤ gb119))
      have n6_ := Aside0.mk ((by rw [hg]; exact Nat.ne_of_lt (blk_lt (g := gb111) (o := .cells #[.int .i64 x112000_1, .int .i64 x112001_1, .int .i64 x112002_1, .slice none 0 0, .slice none 0 0, .slice none 0 0] 94 (0, 0)) (by (with_reducible repeat (first | refine blk_drewN ?_ _ | refine blk_drew ?_ | refine blk_alloc ?_ _)); exact BK111.out)) : gb111 ≠ gb119))
      have n7_ := Aside0.mk ((by rw [hg]; exact Nat.ne_of_gt (blk_lt (g := gb111) (o := .cells #[.int .i64 x112000_1, .int .i64 x112001_1, .int .i64 x112002_1, .slice none 0 0, .slice none 0 0, .slice none 0 0] 94 (0, 0)) (by (with_reducible repeat (first | refine blk_drewN ?_ _ | refine blk_drew ?_ | refine blk_alloc ?_ _)); exact BK111.out)) : gb119 ≠ gb111))
      clear HO_15
      clear BK111
      clear HB
      have HO_15 := n0_
      have BK111 := n1_
      have HB := n2_
      have BK119 := n3_
      have GW119 := n4_
      have GE119 := n5_
      have NB111_119 := n6_
      have NB119_111 := n7_
      clear n0_ n1_ n2_ n3_ n4_ n5_ n6_ n7_
      clear hb hbox hg
      refine hK.out _ _ ⟨((HB.out.cell (World.block_lt_of_cell? w _ hw117_0)).trans hw117_0), ((HB.out.cell (World.block_lt_of_cell? w _ hw118_0)).trans hw118_0)⟩ (fun hHeld => ?_)
      clear hK K
      refine norm_ (a' := ?_) ?_ ?_
      rotate_left
      · show Act.put _ (some 5) _ = _
        simp only [Act.put, List.setIfInBounds_toArray, List.set_cons_zero, List.set_cons_succ, i64_w, i32_w]
        rfl
      refine one_ (i := 12) (N := none) #[true, true, true, true, true, true, true, true, true, true, true, true, true] rfl rfl (one_of HT_.out (by kernel_rfl)) (by decide) (fun K hK => ?_)
      have hs25 : w24.cell? ⟨gb119, 0, none⟩ = some (.int .i64 0) := (blk_cell BK119.out 0).trans rfl
      have hfs25 := blk_frozen BK119.out 0
      have hns25_0 := NB111_119.out
      have hms25_0 := NB119_111.out
      have hs26 : w24.cell? ⟨gb119, 1, none⟩ = some (.int .i64 0) := (blk_cell BK119.out 1).trans rfl
      have hfs26 := blk_frozen BK119.out 1
      have hns26_0 := NB111_119.out
      have hms26_0 := NB119_111.out
      have hs27 : w24.cell? ⟨gb119, 2, none⟩ = some (.int .i64 0) := (blk_cell BK119.out 2).trans rfl
      have hfs27 := blk_frozen BK119.out 2
      have hns27_0 := NB111_119.out
      have hms27_0 := NB119_111.out
      have hs28 : w24.cell? ⟨gb119, 3, none⟩ = some (.slice none 0 0) := (blk_cell BK119.out 3).trans rfl
      have hfs28 := blk_frozen BK119.out 3
      have hns28_0 := NB111_119.out
      have hms28_0 := NB119_111.out
      have hs29 : w24.cell? ⟨gb119, 4, none⟩ = some (.slice none 0 0) := (blk_cell BK119.out 4).trans rfl
      have hfs29 := blk_frozen BK119.out 4
      have hns29_0 := NB111_119.out
      have hms29_0 := NB119_111.out
      have hs30 : w24.cell? ⟨gb119, 5, none⟩ = some (.slice none 0 0) := (blk_cell BK119.out 5).trans rfl
      have hfs30 := blk_frozen BK119.out 5
      have hns30_0 := NB111_119.out
      have hms30_0 := NB119_111.out
      refine skip_ (w1 := ?_) (by rfl) rfl ?_ ?_
      rotate_left
      · go_simp
        rfl
      have zb_ := World.block_lt_of_cell? _ _ hw117_0
      (try rw [add_block] at zb_)
      have zn117_0_119 := Nat.ne_of_lt (Nat.lt_of_lt_of_le zb_ GW119.out)
      clear zb_
      have zb_ := World.block_lt_of_cell? _ _ hw118_0
      (try rw [add_block] at zb_)
      have zn118_0_119 := Nat.ne_of_lt (Nat.lt_of_lt_of_le zb_ GW119.out)
      clear zb_
      refine hK.out _ _ ⟨((cell_far (p := ⟨gb119, _, none⟩) (by first | exact zn117_0_119 | (rw [add_block]; exact zn117_0_119) | (show (Addr.add _ _).block ≠ _; rw [add_block]; exact zn117_0_119) | (dsimp only; exact zn117_0_119)) _).trans (((cell_far (p := ⟨gb119, _, none⟩) (by first | exact zn117_0_119 | (rw [add_block]; exact zn117_0_119) | (show (Addr.add _ _).block ≠ _; rw [add_block]; exact zn117_0_119) | (dsimp only; exact zn117_0_119)) _).trans (((cell_far (p := ⟨gb119, _, none⟩) (by first | exact zn117_0_119 | (rw [add_block]; exact zn117_0_119) | (show (Addr.add _ _).block ≠ _; rw [add_block]; exact zn117_0_119) | (dsimp only; exact zn117_0_119)) _).trans (((cell_far (p := ⟨gb119, _, none⟩) (by first | exact zn117_0_119 | (rw [add_block]; exact zn117_0_119) | (show (Addr.add _ _).block ≠ _; rw [add_block]; exact zn117_0_119) | (dsimp only; exact zn117_0_119)) _).trans (((cell_far (p := ⟨gb119, _, none⟩) (by first | exact zn117_0_119 | (rw [add_block]; exact zn117_0_119) | (show (Addr.add _ _).block ≠ _; rw [add_block]; exact zn117_0_119) | (dsimp only; exact zn117_0_119)) _).trans (((cell_far (p := ⟨gb119, _, none⟩) (by first | exact zn117_0_119 | (rw [add_block]; exact zn117_0_119) | (show (Addr.add _ _).block ≠ _; rw [add_block]; exact zn117_0_119) | (dsimp only; exact zn117_0_119)) _).trans (hHeld.1)))))))))))), ((cell_far (p := ⟨gb119, _, none⟩) (by first | exact zn118_0_119 | (rw [add_block]; exact zn118_0_119) | (show (Addr.add _ _).block ≠ _; rw [add_block]; exact zn118_0_119) | (dsimp only; exact zn118_0_119)) _).trans (((cell_far (p := ⟨gb119, _, none⟩) (by first | exact zn118_0_119 | (rw [add_block]; exact zn118_0_119) | (show (Addr.add _ _).block ≠ _; rw [add_block]; exact zn118_0_119) | (dsimp only; exact zn118_0_119)) _).trans (((cell_far (p := ⟨gb119, _, none⟩) (by first | exact zn118_0_119 | (rw [add_block]; exact zn118_0_119) | (show (Addr.add _ _).block ≠ _; rw [add_block]; exact zn118_0_119) | (dsimp only; exact zn118_0_119)) _).trans (((cell_far (p := ⟨gb119, _, none⟩) (by first | exact zn118_0_119 | (rw [add_block]; exact zn118_0_119) | (show (Addr.add _ _).block ≠ _; rw [add_block]; exact zn118_0_119) | (dsimp only; exact zn118_0_119)) _).trans (((cell_far (p := ⟨gb119, _, none⟩) (by first | exact zn118_0_119 | (rw [add_block]; exact zn118_0_119) | (show (Addr.add _ _).block ≠ _; rw [add_block]; exact zn118_0_119) | (dsimp only; exact zn118_0_119)) _).trans (((cell_far (p := ⟨gb119, _, none⟩) (by first | exact zn118_0_119 | (rw [add_block]; exact zn118_0_119) | (show (Addr.add _ _).block ≠ _; rw [add_block]; exact zn118_0_119) | (dsimp only; exact zn118_0_119)) _).trans (hHeld.2))))))))))))⟩ (fun hHeld => ?_)
      clear zn117_0_119 zn118_0_119
      clear hK K
      refine done_ (done_of HT_.out (by kernel_rfl)) ?_
      have hnb31 := NB119_111.out
      have hnc31 := NB111_119.out
      have hcz32_0 : w24.cell? ⟨gb119, 0, none⟩ = some (.int .i64 0) := (blk_cell BK119.out 0).trans rfl
      have hcz32_1 : w24.cell? ⟨gb119, 1, none⟩ = some (.int .i64 0) := (blk_cell BK119.out 1).trans rfl
      have hcz32_2 : w24.cell? ⟨gb119, 2, none⟩ = some (.int .i64 0) := (blk_cell BK119.out 2).trans rfl
      have hcz32_3 : w24.cell? ⟨gb119, 3, none⟩ = some (.slice none 0 0) := (blk_cell BK119.out 3).trans rfl
      have hcz32_4 : w24.cell? ⟨gb119, 4, none⟩ = some (.slice none 0 0) := (blk_cell BK119.out 4).trans rfl
      have hcz32_5 : w24.cell? ⟨gb119, 5, none⟩ = some (.slice none 0 0) := (blk_cell BK119.out 5).trans rfl
      have hfz32_0 := blk_frozen BK119.out 0
      have hfz32_1 := blk_frozen BK119.out 1
      have hfz32_2 := blk_frozen BK119.out 2
      have hfz32_3 := blk_frozen BK119.out 3
      have hfz32_4 := blk_frozen BK119.out 4
      have hfz32_5 := blk_frozen BK119.out 5
      try go_wp2_with (first | ((with_reducible refine gate_callee (f := 141) rfl ?_); refine goesL_ (some 54) rfl rfl Try.func141 (by kernel_rfl) rfl #[.int .i64 (wrap64 (8 * (wrap64 (rd l0 4)))), .int .i64 (wrap64 (8 * (wrap64 (rd l0 5))))] rfl (by (try simp only [List.map_toArray, List.map_cons, List.map_nil]); first | done | rfl | (simp only [List.length_drop, List.length_take]; rfl)) ?_; (with_reducible refine (spec_l14Sides.calls (wrap64 (8 * (wrap64 (rd l0 4)))) (wrap64 (8 * (wrap64 (rd l0 5)))) true _ A21.out).mono ?_); rintro e w' ⟨rfl, ⟨nd, rfl⟩⟩; refine ⟨_, rfl, ?_⟩))
      go_loopg [6] k1 (fun kq v6 w' => ∃ (x6_2 : Int) (x112000_2 : Int) (x112001_2 : Int) (x112002_2 : Int) (x120003_2 : List Bool) (x120004_2 : List Int) (x120005_2 : List (List Int)) (u120003 : Value) (u120004 : Value) (u120005 : Value), v6 = .int .i64 x6_2 ∧ Aside0 (spec_ReadParts.l1 kq l0 x6_2 0 (wrap64 (8 * (wrap64 (rd l0 4)))) (wrap64 (8 * (wrap64 (rd l0 5)))) x120003_2 x120004_2 x120005_2 = some (r1, r2, r3, r4, r5, r6)) ∧ Aside0 (kq ≤ k1) ∧ Aside0 (Kd.R Kd.bool 4 w' w.heap.size (fun _ => True) u120003 x120003_2) ∧ Aside0 (Kd.R (Kd.int .i64) 3 w' w.heap.size (fun _ => True) u120004 x120004_2) ∧ Aside0 (Kd.S (Kd.slice 5 (Kd.int .u8)) 51 w' w.heap.size (fun _ => True) u120005 x120005_2) ∧ Aside0 (w'.heap[gb111]? = some (.cells #[.int .i64 x112000_2, .int .i64 x112001_2, .int .i64 x112002_2, (.slice none 0 0), (.slice none 0 0), (.slice none 0 0)] 94 (0, 0))) ∧ Aside0 (w'.heap[gb119]? = some (.cells #[.int .i64 0, .int .i64 (wrap64 (8 * (wrap64 (rd l0 4)))), .int .i64 (wrap64 (8 * (wrap64 (rd l0 5)))), u120003, u120004, u120005] 94 (0, 0))) ∧ Aside0 (Below w.heap.size w w'))
      case atStart => exact ⟨(6), (x112000_1), (x112001_1), (x112002_1), (([] : List Bool)), (([] : List Int)), (([] : List (List Int))), (.slice none 0 0), (.slice none 0 0), (.slice none 0 0), (by first | rfl | (simp; done) | (simp [*]; done)), H', ⟨Nat.le_refl _⟩, ⟨by first | exact Kd.R_nil _ _ _ _ _ | exact Kd.N_nil _ _ _ _ _ | exact Kd.V_nil _ _ _ _ _ | exact Kd.Q_nil _ _ _ _ _ | exact Kd.S_nil _ _ _ _ _⟩, ⟨by first | exact Kd.R_nil _ _ _ _ _ | exact Kd.N_nil _ _ _ _ _ | exact Kd.V_nil _ _ _ _ _ | exact Kd.Q_nil _ _ _ _ _ | exact Kd.S_nil _ _ _ _ _⟩, ⟨by first | exact Kd.S_nil _ _ _ _ _ | exact Kd.N_nil _ _ _ _ _ | exact Kd.V_nil _ _ _ _ _ | exact Kd.Q_nil _ _ _ _ _ | exact Kd.R_nil _ _ _ _ _⟩, ⟨by (with_reducible repeat (first | refine blk_drewN ?_ _ | refine blk_drew ?_ | refine blk_alloc ?_ _)); refine blk_far ?_ NB111_119.out _; (with_reducible repeat (first | refine blk_drewN ?_ _ | refine blk_drew ?_ | refine blk_alloc ?_ _)); refine blk_far ?_ NB111_119.out _; (with_reducible repeat (first | refine blk_drewN ?_ _ | refine blk_drew ?_ | refine blk_alloc ?_ _)); refine blk_far ?_ NB111_119.out _; (with_reducible repeat (first | refine blk_drewN ?_ _ | refine blk_drew ?_ | refine blk_alloc ?_ _)); refine blk_far ?_ NB111_119.out _; (with_reducible repeat (first | refine blk_drewN ?_ _ | refine blk_drew ?_ | refine blk_alloc ?_ _)); refine blk_far ?_ NB111_119.out _; (with_reducible repeat (first | refine blk_drewN ?_ _ | refine blk_drew ?_ | refine blk_alloc ?_ _)); refine blk_far ?_ NB111_119.out _; (with_reducible repeat (first | refine blk_drewN ?_ _ | refine blk_drew ?_ | refine blk_alloc ?_ _)); exact BK111.out⟩, ⟨by (with_reducible repeat (first | refine blk_drewN ?_ _ | refine blk_drew ?_ | refine blk_alloc ?_ _)); refine blk_put (cs := #[.int .i64 0, .int .i64 (wrap64 (8 * (wrap64 (rd l0 4)))), .int .i64 (wrap64 (8 * (wrap64 (rd l0 5)))), .slice none 0 0, .slice none 0 0, .slice none 0 0]) ?_ 5 _ rfl; (with_reducible repeat (first | refine blk_drewN ?_ _ | refine blk_drew ?_ | refine blk_alloc ?_ _)); refine blk_put (cs := #[.int .i64 0, .int .i64 (wrap64 (8 * (wrap64 (rd l0 4)))), .int .i64 (wrap64 (8 * (wrap64 (rd l0 5)))), .slice none 0 0, .slice none 0 0, .slice none 0 0]) ?_ 4 _ rfl; (with_reducible repeat (first | refine blk_drewN ?_ _ | refine blk_drew ?_ | refine blk_alloc ?_ _)); refine blk_put (cs := #[.int .i64 0, .int .i64 (wrap64 (8 * (wrap64 (rd l0 4)))), .int .i64 (wrap64 (8 * (wrap64 (rd l0 5)))), .slice none 0 0, .slice none 0 0, .slice none 0 0]) ?_ 3 _ rfl; (with_reducible repeat (first | refine blk_drewN ?_ _ | refine blk_drew ?_ | refine blk_alloc ?_ _)); refine blk_put (cs := #[.int .i64 0, .int .i64 (wrap64 (8 * (wrap64 (rd l0 4)))), .int .i64 0, .slice none 0 0, .slice none 0 0, .slice none 0 0]) ?_ 2 _ rfl; (with_reducible repeat (first | refine blk_drewN ?_ _ | refine blk_drew ?_ | refine blk_alloc ?_ _)); refine blk_put (cs := #[.int .i64 0, .int .i64 0, .int .i64 0, .slice none 0 0, .slice none 0 0, .slice none 0 0]) ?_ 1 _ rfl; (with_reducible repeat (first | refine blk_drewN ?_ _ | refine blk_drew ?_ | refine blk_alloc ?_ _)); refine blk_put (cs := #[.int .i64 0, .int .i64 0, .int .i64 0, .slice none 0 0, .slice none 0 0, .slice none 0 0]) ?_ 0 _ rfl; (with_reducible repeat (first | refine blk_drewN ?_ _ | refine blk_drew ?_ | refine blk_alloc ?_ _)); exact BK119.out⟩, ⟨by repeat (first | (with_reducible first | exact HB.out | apply below_alloc | apply pw_below_drewN | apply below_drew1 | refine below_set ?_ GE111.out | refine below_set ?_ GE119.out) | exact HB.out)⟩⟩
      case round =>
        clear H'
        try clear c1
        try clear p1
        try clear q1
        try clear hx1
        try clear qi1
        try clear c2
        try clear c2b0
        try clear c2b1
        try clear c2b2
        try clear p2
        try clear c3
        try clear c6
        try clear p6
        try clear c9
        try clear c9b0
        try clear c10
        try clear c10b0
        try clear c11
        try clear c11b0
        try clear p11
        try clear q11
        try clear hx11
        try clear qi11
        try clear c12
        try clear c12b0
        try clear c14
        try clear c14b0
        try clear c15
        try clear c15b0
        try clear c15b1
        try clear c17
        try clear c17b0
        try clear c17b1
        try clear c17b2
        try clear c19
        try clear c19b0
        try clear c19b1
        try clear c19b2
        try clear c20
        try clear c20b0
        try clear c20b1
        try clear c20b2
        try clear c22
        try clear c31
        try clear hcz13_0
        try clear hcz13_1
        try clear hcz13_2
        try clear hcz13_3
        try clear hcz13_4
        try clear hcz13_5
        try clear hcz16_0
        try clear hcz16_1
        try clear hcz16_2
        try clear hcz16_3
        try clear hcz16_4
        try clear hcz16_5
        try clear hcz18_0
        try clear hcz18_1
        try clear hcz18_2
        try clear hcz18_3
        try clear hcz18_4
        try clear hcz18_5
        try clear hcz32_0
        try clear hcz32_1
        try clear hcz32_2
        try clear hcz32_3
        try clear hcz32_4
        try clear hcz32_5
        try clear hcz4_0
        try clear hcz4_1
        try clear hcz4_2
        try clear hcz4_3
        try clear hcz4_4
        try clear hcz4_5
        try clear hfz13_0
        try clear hfz13_1
        try clear hfz13_2
        try clear hfz13_3
        try clear hfz13_4
        try clear hfz13_5
        try clear hfz16_0
        try clear hfz16_1
        try clear hfz16_2
        try clear hfz16_3
        try clear hfz16_4
        try clear hfz16_5
        try clear hfz18_0
        try clear hfz18_1
        try clear hfz18_2
        try clear hfz18_3
        try clear hfz18_4
        try clear hfz18_5
        try clear hfz32_0
        try clear hfz32_1
        try clear hfz32_2
        try clear hfz32_3
        try clear hfz32_4
        try clear hfz32_5
        try clear hfz4_0
        try clear hfz4_1
        try clear hfz4_2
        try clear hfz4_3
        try clear hfz4_4
        try clear hfz4_5
        try clear hx115_0
        try clear hx116_0
        try clear hx117_0
        try clear hx118_0
        try clear p115
        try clear p116
        try clear p117
        try clear p118
        try clear p2
        try clear q115
        try clear q116
        try clear q117
        try clear q118
        obtain ⟨x6_2, x112000_2, x112001_2, x112002_2, x120003_2, x120004_2, x120005_2, u120003, u120004, u120005, rfl, HA, HK2, HO_120003, HO_120004, HO_120005, BK111, BK119, HB⟩ := hrel
        cases gk with
        | zero => exact absurd HA.out (by simp [spec_ReadParts.l1])
        | succ k2 =>
          have H := HA.out
          clear HA
          simp only [spec_ReadParts.l1] at H
          by_cases c33 : x6_2 < (l0.length : Int)
          rotate_left
          · rw [if_neg c33] at H
            have c33b0 : decide (x6_2 < (l0.length : Int)) = false := decide_eq_false c33
            clear c33
            by_cases c116 : (x120005_2.length : Int) = 0
            · rw [if_pos c116] at H
              have c116b0 : ((x120005_2.length : Int) == 0) = true := beq_iff_eq.mpr c116
              have c116b1 : ((x120005_2.length : Int) != 0) = false := bne_eq_false_iff_eq.mpr c116
              clear c116
              simp only [Option.some.injEq, Prod.mk.injEq] at H
              obtain ⟨rfl, rfl, rfl, rfl, rfl, rfl⟩ := H
              have hnb117 := NB119_111.out
              have hnc117 := NB111_119.out
              have hcz118_0 : wr.cell? ⟨gb119, 0, none⟩ = some (.int .i64 0) := (blk_cell BK119.out 0).trans rfl
              have hcz118_1 : wr.cell? ⟨gb119, 1, none⟩ = some (.int .i64 (wrap64 (8 * (wrap64 (rd l0 4))))) := (blk_cell BK119.out 1).trans rfl
              have hcz118_2 : wr.cell? ⟨gb119, 2, none⟩ = some (.int .i64 (wrap64 (8 * (wrap64 (rd l0 5))))) := (blk_cell BK119.out 2).trans rfl
              have hcz118_3 : wr.cell? ⟨gb119, 3, none⟩ = some (u120003) := (blk_cell BK119.out 3).trans rfl
              have hcz118_4 : wr.cell? ⟨gb119, 4, none⟩ = some (u120004) := (blk_cell BK119.out 4).trans rfl
              have hcz118_5 : wr.cell? ⟨gb119, 5, none⟩ = some (u120005) := (blk_cell BK119.out 5).trans rfl
              have hfz118_0 := blk_frozen BK119.out 0
              have hfz118_1 := blk_frozen BK119.out 1
              have hfz118_2 := blk_frozen BK119.out 2
              have hfz118_3 := blk_frozen BK119.out 3
              have hfz118_4 := blk_frozen BK119.out 4
              have hfz118_5 := blk_frozen BK119.out 5
              obtain ⟨Ao119, co119, eo119⟩ := Kd.S_slice HO_120005.out
              subst eo119
              have hcz120_0 : wr.cell? ⟨gb111, 0, none⟩ = some (.int .i64 x112000_2) := (blk_cell BK111.out 0).trans rfl
              have hcz120_1 : wr.cell? ⟨gb111, 1, none⟩ = some (.int .i64 x112001_2) := (blk_cell BK111.out 1).trans rfl
              have hcz120_2 : wr.cell? ⟨gb111, 2, none⟩ = some (.int .i64 x112002_2) := (blk_cell BK111.out 2).trans rfl
              have hcz120_3 : wr.cell? ⟨gb111, 3, none⟩ = some (.slice none 0 0) := (blk_cell BK111.out 3).trans rfl
              have hcz120_4 : wr.cell? ⟨gb111, 4, none⟩ = some (.slice none 0 0) := (blk_cell BK111.out 4).trans rfl
              have hcz120_5 : wr.cell? ⟨gb111, 5, none⟩ = some (.slice none 0 0) := (blk_cell BK111.out 5).trans rfl
              have hfz120_0 := blk_frozen BK111.out 0
              have hfz120_1 := blk_frozen BK111.out 1
              have hfz120_2 := blk_frozen BK111.out 2
              have hfz120_3 := blk_frozen BK111.out 3
              have hfz120_4 := blk_frozen BK111.out 4
              have hfz120_5 := blk_frozen BK111.out 5
              go_wp2
              refine bodyPost_ret (results_cell_row rfl _ _ gb111 94 #[.int .i64 2, .int .i64 0, .int .i64 0, .slice none 0 0, .slice none 0 0, .slice none 0 0] (0, 0) _ rfl (by (with_reducible repeat (first | refine blk_drewN ?_ _ | refine blk_drew ?_ | refine blk_alloc ?_ _)); refine blk_put (cs := #[.int .i64 2, .int .i64 0, .int .i64 0, .slice none 0 0, .slice none 0 0, .slice none 0 0]) ?_ 5 _ rfl; (with_reducible repeat (first | refine blk_drewN ?_ _ | refine blk_drew ?_ | refine blk_alloc ?_ _)); refine blk_put (cs := #[.int .i64 2, .int .i64 0, .int .i64 0, .slice none 0 0, .slice none 0 0, .slice none 0 0]) ?_ 4 _ rfl; (with_reducible repeat (first | refine blk_drewN ?_ _ | refine blk_drew ?_ | refine blk_alloc ?_ _)); refine blk_put (cs := #[.int .i64 2, .int .i64 0, .int .i64 0, .slice none 0 0, .slice none 0 0, .slice none 0 0]) ?_ 3 _ rfl; (with_reducible repeat (first | refine blk_drewN ?_ _ | refine blk_drew ?_ | refine blk_alloc ?_ _)); refine blk_put (cs := #[.int .i64 2, .int .i64 0, .int .i64 x112002_2, .slice none 0 0, .slice none 0 0, .slice none 0 0]) ?_ 2 _ rfl; (with_reducible repeat (first | refine blk_drewN ?_ _ | refine blk_drew ?_ | refine blk_alloc ?_ _)); refine blk_put (cs := #[.int .i64 2, .int .i64 x112001_2, .int .i64 x112002_2, .slice none 0 0, .slice none 0 0, .slice none 0 0]) ?_ 1 _ rfl; (with_reducible repeat (first | refine blk_drewN ?_ _ | refine blk_drew ?_ | refine blk_alloc ?_ _)); refine blk_put (cs := #[.int .i64 x112000_2, .int .i64 x112001_2, .int .i64 x112002_2, .slice none 0 0, .slice none 0 0, .slice none 0 0]) ?_ 0 _ rfl; (with_reducible repeat (first | refine blk_drewN ?_ _ | refine blk_drew ?_ | refine blk_alloc ?_ _)); exact BK111.out) Try.underlying94 rfl (by kernel_rfl)) rfl ?_
              exact ⟨_, _, _, by first | rfl | (simp [errW_none, errW_some] <;> rfl) | (simp [*, errW_none, errW_some] <;> rfl), by first | exact Kd.R_nil _ _ _ _ _ | exact Kd.N_nil _ _ _ _ _ | exact Kd.V_nil _ _ _ _ _ | exact Kd.Q_nil _ _ _ _ _ | exact Kd.S_nil _ _ _ _ _, by first | exact Kd.R_nil _ _ _ _ _ | exact Kd.N_nil _ _ _ _ _ | exact Kd.V_nil _ _ _ _ _ | exact Kd.Q_nil _ _ _ _ _ | exact Kd.S_nil _ _ _ _ _, by first | exact Kd.S_nil _ _ _ _ _ | exact Kd.N_nil _ _ _ _ _ | exact Kd.V_nil _ _ _ _ _ | exact Kd.Q_nil _ _ _ _ _ | exact Kd.R_nil _ _ _ _ _, by repeat (first | (with_reducible first | exact HB.out | apply below_alloc | apply pw_below_drewN | apply below_drew1 | refine below_set ?_ GE111.out | refine below_set ?_ GE119.out) | exact HB.out)⟩
            rw [if_neg c116] at H
            have c116b0 : ((x120005_2.length : Int) == 0) = false := beq_eq_false_iff_ne.mpr c116
            have c116b1 : ((x120005_2.length : Int) != 0) = true := bne_iff_ne.mpr c116
            have c116b2 : ¬ (x120005_2 = []) := fun h_ => c116 (by rw [h_]; rfl)
            simp only [Option.some.injEq, Prod.mk.injEq] at H
            obtain ⟨rfl, rfl, rfl, rfl, rfl, rfl⟩ := H
            have hnb121 := NB119_111.out
            have hnc121 := NB111_119.out
            have hcz122_0 : wr.cell? ⟨gb119, 0, none⟩ = some (.int .i64 0) := (blk_cell BK119.out 0).trans rfl
            have hcz122_1 : wr.cell? ⟨gb119, 1, none⟩ = some (.int .i64 (wrap64 (8 * (wrap64 (rd l0 4))))) := (blk_cell BK119.out 1).trans rfl
            have hcz122_2 : wr.cell? ⟨gb119, 2, none⟩ = some (.int .i64 (wrap64 (8 * (wrap64 (rd l0 5))))) := (blk_cell BK119.out 2).trans rfl
            have hcz122_3 : wr.cell? ⟨gb119, 3, none⟩ = some (u120003) := (blk_cell BK119.out 3).trans rfl
            have hcz122_4 : wr.cell? ⟨gb119, 4, none⟩ = some (u120004) := (blk_cell BK119.out 4).trans rfl
            have hcz122_5 : wr.cell? ⟨gb119, 5, none⟩ = some (u120005) := (blk_cell BK119.out 5).trans rfl
            have hfz122_0 := blk_frozen BK119.out 0
            have hfz122_1 := blk_frozen BK119.out 1
            have hfz122_2 := blk_frozen BK119.out 2
            have hfz122_3 := blk_frozen BK119.out 3
            have hfz122_4 := blk_frozen BK119.out 4
            have hfz122_5 := blk_frozen BK119.out 5
            obtain ⟨Ao123, co123, eo123⟩ := Kd.S_slice HO_120005.out
            subst eo123
            have hcz124_0 : wr.cell? ⟨gb111, 0, none⟩ = some (.int .i64 x112000_2) := (blk_cell BK111.out 0).trans rfl
            have hcz124_1 : wr.cell? ⟨gb111, 1, none⟩ = some (.int .i64 x112001_2) := (blk_cell BK111.out 1).trans rfl
            have hcz124_2 : wr.cell? ⟨gb111, 2, none⟩ = some (.int .i64 x112002_2) := (blk_cell BK111.out 2).trans rfl
            have hcz124_3 : wr.cell? ⟨gb111, 3, none⟩ = some (.slice none 0 0) := (blk_cell BK111.out 3).trans rfl
            have hcz124_4 : wr.cell? ⟨gb111, 4, none⟩ = some (.slice none 0 0) := (blk_cell BK111.out 4).trans rfl
            have hcz124_5 : wr.cell? ⟨gb111, 5, none⟩ = some (.slice none 0 0) := (blk_cell BK111.out 5).trans rfl
            have hfz124_0 := blk_frozen BK111.out 0
            have hfz124_1 := blk_frozen BK111.out 1
            have hfz124_2 := blk_frozen BK111.out 2
            have hfz124_3 := blk_frozen BK111.out 3
            have hfz124_4 := blk_frozen BK111.out 4
            have hfz124_5 := blk_frozen BK111.out 5
            obtain ⟨Ao125, co125, eo125⟩ := Kd.R_slice HO_120003.out
            subst eo125
            obtain ⟨Ao126, co126, eo126⟩ := Kd.R_slice HO_120004.out
            subst eo126
            go_wp2
            refine bodyPost_ret (results_cell_row rfl _ _ gb111 94 #[.int .i64 0, .int .i64 (wrap64 (8 * (wrap64 (rd l0 4)))), .int .i64 (wrap64 (8 * (wrap64 (rd l0 5)))), .slice Ao125 x120003_2.length co125, .slice Ao126 x120004_2.length co126, .slice Ao123 x120005_2.length co123] (0, 0) _ rfl (by (with_reducible repeat (first | refine blk_drewN ?_ _ | refine blk_drew ?_ | refine blk_alloc ?_ _)); refine blk_put (cs := #[.int .i64 0, .int .i64 (wrap64 (8 * (wrap64 (rd l0 4)))), .int .i64 (wrap64 (8 * (wrap64 (rd l0 5)))), .slice Ao125 x120003_2.length co125, .slice Ao126 x120004_2.length co126, .slice none 0 0]) ?_ 5 _ rfl; (with_reducible repeat (first | refine blk_drewN ?_ _ | refine blk_drew ?_ | refine blk_alloc ?_ _)); refine blk_put (cs := #[.int .i64 0, .int .i64 (wrap64 (8 * (wrap64 (rd l0 4)))), .int .i64 (wrap64 (8 * (wrap64 (rd l0 5)))), .slice Ao125 x120003_2.length co125, .slice none 0 0, .slice none 0 0]) ?_ 4 _ rfl; (with_reducible repeat (first | refine blk_drewN ?_ _ | refine blk_drew ?_ | refine blk_alloc ?_ _)); refine blk_put (cs := #[.int .i64 0, .int .i64 (wrap64 (8 * (wrap64 (rd l0 4)))), .int .i64 (wrap64 (8 * (wrap64 (rd l0 5)))), .slice none 0 0, .slice none 0 0, .slice none 0 0]) ?_ 3 _ rfl; (with_reducible repeat (first | refine blk_drewN ?_ _ | refine blk_drew ?_ | refine blk_alloc ?_ _)); refine blk_put (cs := #[.int .i64 0, .int .i64 (wrap64 (8 * (wrap64 (rd l0 4)))), .int .i64 x112002_2, .slice none 0 0, .slice none 0 0, .slice none 0 0]) ?_ 2 _ rfl; (with_reducible repeat (first | refine blk_drewN ?_ _ | refine blk_drew ?_ | refine blk_alloc ?_ _)); refine blk_put (cs := #[.int .i64 0, .int .i64 x112001_2, .int .i64 x112002_2, .slice none 0 0, .slice none 0 0, .slice none 0 0]) ?_ 1 _ rfl; (with_reducible repeat (first | refine blk_drewN ?_ _ | refine blk_drew ?_ | refine blk_alloc ?_ _)); refine blk_put (cs := #[.int .i64 x112000_2, .int .i64 x112001_2, .int .i64 x112002_2, .slice none 0 0, .slice none 0 0, .slice none 0 0]) ?_ 0 _ rfl; (with_reducible repeat (first | refine blk_drewN ?_ _ | refine blk_drew ?_ | refine blk_alloc ?_ _)); exact BK111.out) Try.underlying94 rfl (by kernel_rfl)) rfl ?_
            exact ⟨_, _, _, by first | rfl | (simp [errW_none, errW_some] <;> rfl) | (simp [*, errW_none, errW_some] <;> rfl), by (with_reducible repeat (first | apply Kd.R_alloc | apply Kd.R_drewN | apply Kd.R_drew)); exact Kd.R_mono (Kd.R_far (p := ⟨gb111, 5, none⟩) (Kd.R_far (p := ⟨gb111, 4, none⟩) (Kd.R_far (p := ⟨gb111, 3, none⟩) (Kd.R_far (p := ⟨gb111, 2, none⟩) (Kd.R_far (p := ⟨gb111, 1, none⟩) (Kd.R_far (p := ⟨gb111, 0, none⟩) (Kd.R_types HO_120003.out BK111.out (by decide)) (fun _ hk => hk.2) (.int .i64 0)) (fun _ hk => hk.2) (.int .i64 (wrap64 (8 * (wrap64 (rd l0 4)))))) (fun _ hk => hk.2) (.int .i64 (wrap64 (8 * (wrap64 (rd l0 5)))))) (fun _ hk => hk.2) (.slice Ao125 x120003_2.length co125)) (fun _ hk => hk.2) (.slice Ao126 x120004_2.length co126)) (fun _ hk => hk.2) (.slice Ao123 x120005_2.length co123)) (fun _ hk => trivial), by (with_reducible repeat (first | apply Kd.R_alloc | apply Kd.R_drewN | apply Kd.R_drew)); exact Kd.R_mono (Kd.R_far (p := ⟨gb111, 5, none⟩) (Kd.R_far (p := ⟨gb111, 4, none⟩) (Kd.R_far (p := ⟨gb111, 3, none⟩) (Kd.R_far (p := ⟨gb111, 2, none⟩) (Kd.R_far (p := ⟨gb111, 1, none⟩) (Kd.R_far (p := ⟨gb111, 0, none⟩) (Kd.R_types HO_120004.out BK111.out (by decide)) (fun _ hk => hk.2) (.int .i64 0)) (fun _ hk => hk.2) (.int .i64 (wrap64 (8 * (wrap64 (rd l0 4)))))) (fun _ hk => hk.2) (.int .i64 (wrap64 (8 * (wrap64 (rd l0 5)))))) (fun _ hk => hk.2) (.slice Ao125 x120003_2.length co125)) (fun _ hk => hk.2) (.slice Ao126 x120004_2.length co126)) (fun _ hk => hk.2) (.slice Ao123 x120005_2.length co123)) (fun _ hk => trivial), by (with_reducible repeat (first | apply Kd.S_alloc | apply Kd.S_drewN | apply Kd.S_drew)); exact Kd.S_mono (Kd.S_far (p := ⟨gb111, 5, none⟩) (Kd.S_far (p := ⟨gb111, 4, none⟩) (Kd.S_far (p := ⟨gb111, 3, none⟩) (Kd.S_far (p := ⟨gb111, 2, none⟩) (Kd.S_far (p := ⟨gb111, 1, none⟩) (Kd.S_far (p := ⟨gb111, 0, none⟩) (Kd.S_types HO_120005.out BK111.out (by decide)) (fun _ hk => hk.2) (.int .i64 0)) (fun _ hk => hk.2) (.int .i64 (wrap64 (8 * (wrap64 (rd l0 4)))))) (fun _ hk => hk.2) (.int .i64 (wrap64 (8 * (wrap64 (rd l0 5)))))) (fun _ hk => hk.2) (.slice Ao125 x120003_2.length co125)) (fun _ hk => hk.2) (.slice Ao126 x120004_2.length co126)) (fun _ hk => hk.2) (.slice Ao123 x120005_2.length co123)) (fun _ hk => trivial), by repeat (first | (with_reducible first | exact HB.out | apply below_alloc | apply pw_below_drewN | apply below_drew1 | refine below_set ?_ GE111.out | refine below_set ?_ GE119.out) | exact HB.out)⟩
          rw [if_pos c33] at H
          have c33b0 : decide (x6_2 < (l0.length : Int)) = true := decide_eq_true c33
          clear c33
          by_cases c34 : (wrap64 ((l0.length : Int) - x6_2)) < 9
          · rw [if_pos c34] at H
            have c34b0 : decide ((wrap64 ((l0.length : Int) - x6_2)) < 9) = true := decide_eq_true c34
            clear c34
            simp only [Option.some.injEq, Prod.mk.injEq] at H
            obtain ⟨rfl, rfl, rfl, rfl, rfl, rfl⟩ := H
            have hnb35 := NB111_119.out
            have hnc35 := NB119_111.out
            have hcz36_0 : wr.cell? ⟨gb111, 0, none⟩ = some (.int .i64 x112000_2) := (blk_cell BK111.out 0).trans rfl
            have hcz36_1 : wr.cell? ⟨gb111, 1, none⟩ = some (.int .i64 x112001_2) := (blk_cell BK111.out 1).trans rfl
            have hcz36_2 : wr.cell? ⟨gb111, 2, none⟩ = some (.int .i64 x112002_2) := (blk_cell BK111.out 2).trans rfl
            have hcz36_3 : wr.cell? ⟨gb111, 3, none⟩ = some (.slice none 0 0) := (blk_cell BK111.out 3).trans rfl
            have hcz36_4 : wr.cell? ⟨gb111, 4, none⟩ = some (.slice none 0 0) := (blk_cell BK111.out 4).trans rfl
            have hcz36_5 : wr.cell? ⟨gb111, 5, none⟩ = some (.slice none 0 0) := (blk_cell BK111.out 5).trans rfl
            have hfz36_0 := blk_frozen BK111.out 0
            have hfz36_1 := blk_frozen BK111.out 1
            have hfz36_2 := blk_frozen BK111.out 2
            have hfz36_3 := blk_frozen BK111.out 3
            have hfz36_4 := blk_frozen BK111.out 4
            have hfz36_5 := blk_frozen BK111.out 5
            go_wp2
            refine bodyPost_ret (results_cell_row rfl _ _ gb111 94 #[.int .i64 2, .int .i64 0, .int .i64 0, .slice none 0 0, .slice none 0 0, .slice none 0 0] (0, 0) _ rfl (by (with_reducible repeat (first | refine blk_drewN ?_ _ | refine blk_drew ?_ | refine blk_alloc ?_ _)); refine blk_put (cs := #[.int .i64 2, .int .i64 0, .int .i64 0, .slice none 0 0, .slice none 0 0, .slice none 0 0]) ?_ 5 _ rfl; (with_reducible repeat (first | refine blk_drewN ?_ _ | refine blk_drew ?_ | refine blk_alloc ?_ _)); refine blk_put (cs := #[.int .i64 2, .int .i64 0, .int .i64 0, .slice none 0 0, .slice none 0 0, .slice none 0 0]) ?_ 4 _ rfl; (with_reducible repeat (first | refine blk_drewN ?_ _ | refine blk_drew ?_ | refine blk_alloc ?_ _)); refine blk_put (cs := #[.int .i64 2, .int .i64 0, .int .i64 0, .slice none 0 0, .slice none 0 0, .slice none 0 0]) ?_ 3 _ rfl; (with_reducible repeat (first | refine blk_drewN ?_ _ | refine blk_drew ?_ | refine blk_alloc ?_ _)); refine blk_put (cs := #[.int .i64 2, .int .i64 0, .int .i64 x112002_2, .slice none 0 0, .slice none 0 0, .slice none 0 0]) ?_ 2 _ rfl; (with_reducible repeat (first | refine blk_drewN ?_ _ | refine blk_drew ?_ | refine blk_alloc ?_ _)); refine blk_put (cs := #[.int .i64 2, .int .i64 x112001_2, .int .i64 x112002_2, .slice none 0 0, .slice none 0 0, .slice none 0 0]) ?_ 1 _ rfl; (with_reducible repeat (first | refine blk_drewN ?_ _ | refine blk_drew ?_ | refine blk_alloc ?_ _)); refine blk_put (cs := #[.int .i64 x112000_2, .int .i64 x112001_2, .int .i64 x112002_2, .slice none 0 0, .slice none 0 0, .slice none 0 0]) ?_ 0 _ rfl; (with_reducible repeat (first | refine blk_drewN ?_ _ | refine blk_drew ?_ | refine blk_alloc ?_ _)); exact BK111.out) Try.underlying94 rfl (by kernel_rfl)) rfl ?_
            exact ⟨_, _, _, by first | rfl | (simp [errW_none, errW_some] <;> rfl) | (simp [*, errW_none, errW_some] <;> rfl), by first | exact Kd.R_nil _ _ _ _ _ | exact Kd.N_nil _ _ _ _ _ | exact Kd.V_nil _ _ _ _ _ | exact Kd.Q_nil _ _ _ _ _ | exact Kd.S_nil _ _ _ _ _, by first | exact Kd.R_nil _ _ _ _ _ | exact Kd.N_nil _ _ _ _ _ | exact Kd.V_nil _ _ _ _ _ | exact Kd.Q_nil _ _ _ _ _ | exact Kd.S_nil _ _ _ _ _, by first | exact Kd.S_nil _ _ _ _ _ | exact Kd.N_nil _ _ _ _ _ | exact Kd.V_nil _ _ _ _ _ | exact Kd.Q_nil _ _ _ _ _ | exact Kd.R_nil _ _ _ _ _, by repeat (first | (with_reducible first | exact HB.out | apply below_alloc | apply pw_below_drewN | apply below_drew1 | refine below_set ?_ GE111.out | refine below_set ?_ GE119.out) | exact HB.out)⟩
          rw [if_neg c34] at H
          have c34b0 : decide ((wrap64 ((l0.length : Int) - x6_2)) < 9) = false := decide_eq_false c34
          clear c34
          obtain ⟨ji37, hji37⟩ : ∃ j_ : Int, (wrap64 (x6_2 + 1)) = j_ := ⟨_, rfl⟩
          replace H : (if 0 ≤ (ji37) then (if (ji37) ≤ (wrap64 (x6_2 + 5)) then (if (wrap64 (x6_2 + 5)) ≤ (l0.length : Int) then ((spec_l5Int.f k2 ((l0.take ((wrap64 (x6_2 + 5)) : Int).toNat).drop ((ji37) : Int).toNat)).bind fun t122 => (if t122 > (wrap64 ((wrap64 ((l0.length : Int) - x6_2)) - 9)) then (some (2, 0, 0, ([] : List Bool), ([] : List Int), ([] : List (List Int)))) else (if 0 ≤ x6_2 then (if (Go.bits .and .i64 (wrap64 (rd l0 x6_2)) 127) > 40 then (some (5, 0, 0, ([] : List Bool), ([] : List Int), ([] : List (List Int)))) else (if 0 ≤ (wrap64 ((wrap64 (x6_2 + 5)) + t122)) then (if (wrap64 ((wrap64 (x6_2 + 5)) + t122)) ≤ (wrap64 ((wrap64 (x6_2 + 9)) + t122)) then (if (wrap64 ((wrap64 (x6_2 + 9)) + t122)) ≤ (l0.length : Int) then ((spec_l5Int.f k2 ((l0.take ((wrap64 ((wrap64 (x6_2 + 9)) + t122)) : Int).toNat).drop ((wrap64 ((wrap64 (x6_2 + 5)) + t122)) : Int).toNat)).bind fun t126 => (if x6_2 ≤ (wrap64 ((wrap64 (x6_2 + 5)) + t122)) then (if (wrap64 ((wrap64 (x6_2 + 5)) + t122)) ≤ (l0.length : Int) then ((spec_Crc.f k2 ((l0.take ((wrap64 ((wrap64 (x6_2 + 5)) + t122)) : Int).toNat).drop (x6_2 : Int).toNat)).bind fun t128 => (if ((t126) % 4294967296) = t128 then (if (x120005_2.length : Int) = 0 then (spec_ReadParts.j2 k2 l0 x6_2 t122 (Go.bits .and .i64 (wrap64 (rd l0 x6_2)) 127) (decide ((rd l0 x6_2) ≥ 128)) (!(decide ((rd l0 x6_2) ≥ 128))) 0 (wrap64 (8 * (wrap64 (rd l0 4)))) (wrap64 (8 * (wrap64 (rd l0 5)))) x120003_2 x120004_2 x120005_2) else (spec_ReadParts.j2 k2 l0 x6_2 t122 (Go.bits .and .i64 (wrap64 (rd l0 x6_2)) 127) (decide ((rd l0 x6_2) ≥ 128)) false 0 (wrap64 (8 * (wrap64 (rd l0 4)))) (wrap64 (8 * (wrap64 (rd l0 5)))) x120003_2 x120004_2 x120005_2)) else (some (3, 0, 0, ([] : List Bool), ([] : List Int), ([] : List (List Int)))))) else (none)) else (none))) else (none)) else (none)) else (none))) else (none)))) else (none)) else (none)) else (none)) = some (r1, r2, r3, r4, r5, r6) := by first | (rw [hji37] at H; exact H) | (simp only [hji37] at H ⊢; exact H)
          have hji37w : (IntKind.i64.wrap (x6_2 + 1)) = ji37 := (i64_w _).trans hji37
          by_cases c38 : 0 ≤ (ji37)
          rotate_left
          · rw [if_neg c38] at H
            exact absurd H (by simp)
          rw [if_pos c38] at H
          have c38b0 := eq_true c38
          have c38b1 : decide (0 ≤ (ji37)) = true := decide_eq_true c38
          clear c38
          by_cases c39 : (ji37) ≤ (wrap64 (x6_2 + 5))
          rotate_left
          · rw [if_neg c39] at H
            exact absurd H (by simp)
          rw [if_pos c39] at H
          have c39b0 := eq_true c39
          have c39b1 : decide ((ji37) ≤ (wrap64 (x6_2 + 5))) = true := decide_eq_true c39
          by_cases c40 : (wrap64 (x6_2 + 5)) ≤ (l0.length : Int)
          rotate_left
          · rw [if_neg c40] at H
            exact absurd H (by simp)
          rw [if_pos c40] at H
          have c40b0 := eq_true c40
          have c40b1 : decide ((wrap64 (x6_2 + 5)) ≤ (l0.length : Int)) = true := decide_eq_true c40
          replace H := Option.bind_eq_some_iff.mp H
          obtain ⟨t122, A410, H⟩ := H
          replace H : (if t122 > (wrap64 ((wrap64 ((l0.length : Int) - x6_2)) - 9)) then (some (2, 0, 0, ([] : List Bool), ([] : List Int), ([] : List (List Int)))) else (if 0 ≤ x6_2 then (if (Go.bits .and .i64 (wrap64 (rd l0 x6_2)) 127) > 40 then (some (5, 0, 0, ([] : List Bool), ([] : List Int), ([] : List (List Int)))) else (if 0 ≤ (wrap64 ((wrap64 (x6_2 + 5)) + t122)) then (if (wrap64 ((wrap64 (x6_2 + 5)) + t122)) ≤ (wrap64 ((wrap64 (x6_2 + 9)) + t122)) then (if (wrap64 ((wrap64 (x6_2 + 9)) + t122)) ≤ (l0.length : Int) then ((spec_l5Int.f k2 ((l0.take ((wrap64 ((wrap64 (x6_2 + 9)) + t122)) : Int).toNat).drop ((wrap64 ((wrap64 (x6_2 + 5)) + t122)) : Int).toNat)).bind fun t126 => (if x6_2 ≤ (wrap64 ((wrap64 (x6_2 + 5)) + t122)) then (if (wrap64 ((wrap64 (x6_2 + 5)) + t122)) ≤ (l0.length : Int) then ((spec_Crc.f k2 ((l0.take ((wrap64 ((wrap64 (x6_2 + 5)) + t122)) : Int).toNat).drop (x6_2 : Int).toNat)).bind fun t128 => (if ((t126) % 4294967296) = t128 then (if (x120005_2.length : Int) = 0 then (spec_ReadParts.j2 k2 l0 x6_2 t122 (Go.bits .and .i64 (wrap64 (rd l0 x6_2)) 127) (decide ((rd l0 x6_2) ≥ 128)) (!(decide ((rd l0 x6_2) ≥ 128))) 0 (wrap64 (8 * (wrap64 (rd l0 4)))) (wrap64 (8 * (wrap64 (rd l0 5)))) x120003_2 x120004_2 x120005_2) else (spec_ReadParts.j2 k2 l0 x6_2 t122 (Go.bits .and .i64 (wrap64 (rd l0 x6_2)) 127) (decide ((rd l0 x6_2) ≥ 128)) false 0 (wrap64 (8 * (wrap64 (rd l0 4)))) (wrap64 (8 * (wrap64 (rd l0 5)))) x120003_2 x120004_2 x120005_2)) else (some (3, 0, 0, ([] : List Bool), ([] : List Int), ([] : List (List Int)))))) else (none)) else (none))) else (none)) else (none)) else (none))) else (none))) = some (r1, r2, r3, r4, r5, r6) := H
          have A41 := Aside0.mk A410
          clear A410
          by_cases c42 : t122 > (wrap64 ((wrap64 ((l0.length : Int) - x6_2)) - 9))
          · rw [if_pos c42] at H
            have c42b0 : decide ((wrap64 ((wrap64 ((l0.length : Int) - x6_2)) - 9)) < t122) = true := decide_eq_true c42
            clear c42
            simp only [Option.some.injEq, Prod.mk.injEq] at H
            obtain ⟨rfl, rfl, rfl, rfl, rfl, rfl⟩ := H
            obtain ⟨i043, hi043, _, hsz43, _⟩ := info_parts info5
            obtain ⟨A43, hcut43, hA43, hC43⟩ := print_mid_of (P := Try.prog) (Value.int .u8) 0 51 5 .i64 .i64 Try.underlying51 hi043 hsz43 (some ad117) c0 l0 (ji37) (wrap64 (x6_2 + 5)) (of_decide_eq_true (by first | (with_reducible assumption) | assumption)) (by first | omega | exact of_decide_eq_true (by first | (with_reducible assumption) | assumption)) (of_decide_eq_true (by first | (with_reducible assumption) | assumption)) HC0.out
            have HR121 := Aside0.mk (Kd.C_of_reads (h1 := fun _ => rfl) (hA43 _ (Kd.reads_of_C HR0.out)))
            have HC121 := Aside0.mk hC43
            clear hA43 hC43 hi043 hsz43
            go_wp2_with (first | ((with_reducible refine gate_callee (f := 142) rfl ?_); refine goesL_ (some 73) rfl rfl Try.func142 (by kernel_rfl) rfl #[.slice A43 ((l0.take ((wrap64 (x6_2 + 5)) : Int).toNat).drop ((ji37) : Int).toNat).length (c0 - (ji37).toNat)] rfl (by (try simp only [List.map_toArray, List.map_cons, List.map_nil]); first | done | (rw [show ((l0.take ((wrap64 (x6_2 + 5)) : Int).toNat).drop ((ji37) : Int).toNat).length = ((wrap64 (x6_2 + 5)).toNat - (ji37).toNat) from (by rw [List.length_drop, List.length_take]; have h_ : ((wrap64 (x6_2 + 5)) : Int) ≤ (l0.length : Int) := of_decide_eq_true (by first | (with_reducible assumption) | assumption); omega)] <;> rfl) | (simp only [hji37]; rfl) | rfl | (simp only [List.length_drop, List.length_take]; rfl)) ?_; (with_reducible refine (spec_l5Int.calls k2 _ _ ((l0.take ((wrap64 (x6_2 + 5)) : Int).toNat).drop ((ji37) : Int).toNat) t122 _ ?side1 ?side2 A41.out).mono ?_); (case side1 => repeat (first | exact (Kd.C_below HR121.out HB.out) | (with_reducible refine Kd.C_alloc ?_ _) | (with_reducible refine Kd.C_drewN ?_ _) | (with_reducible refine Kd.C_drew ?_))); (case side2 => exact HC121.out); rintro e w' ⟨rfl, ⟨nd, rfl⟩⟩; refine ⟨_, rfl, ?_⟩; (try (rw [drewN_self wr]; generalize hq_ : World.drewN wr _ = wr; have n0_ : Aside0 (Kd.R Kd.bool 4 wr w.heap.size (fun _ => True) u120003 x120003_2) := ⟨by rw [← hq_]; exact (by (with_reducible repeat (first | apply Kd.R_alloc | apply Kd.R_drewN | apply Kd.R_drew)); exact HO_120003.out)⟩; have n1_ : Aside0 (Kd.R (Kd.int .i64) 3 wr w.heap.size (fun _ => True) u120004 x120004_2) := ⟨by rw [← hq_]; exact (by (with_reducible repeat (first | apply Kd.R_alloc | apply Kd.R_drewN | apply Kd.R_drew)); exact HO_120004.out)⟩; have n2_ : Aside0 (Kd.S (Kd.slice 5 (Kd.int .u8)) 51 wr w.heap.size (fun _ => True) u120005 x120005_2) := ⟨by rw [← hq_]; exact (by (with_reducible repeat (first | apply Kd.S_alloc | apply Kd.S_drewN | apply Kd.S_drew)); exact HO_120005.out)⟩; have n3_ : Aside0 (wr.heap[gb111]? = some (.cells #[.int .i64 x112000_2, .int .i64 x112001_2, .int .i64 x112002_2, .slice none 0 0, .slice none 0 0, .slice none 0 0] 94 (0, 0))) := ⟨by rw [← hq_]; exact (by (with_reducible repeat (first | refine blk_drewN ?_ _ | refine blk_drew ?_ | refine blk_alloc ?_ _)); exact BK111.out)⟩; have n4_ : Aside0 (wr.heap[gb119]? = some (.cells #[.int .i64 0, .int .i64 (wrap64 (8 * (wrap64 (rd l0 4)))), .int .i64 (wrap64 (8 * (wrap64 (rd l0 5)))), u120003, u120004, u120005] 94 (0, 0))) := ⟨by rw [← hq_]; exact (by (with_reducible repeat (first | refine blk_drewN ?_ _ | refine blk_drew ?_ | refine blk_alloc ?_ _)); exact BK119.out)⟩; have n5_ : Aside0 (Below w.heap.size w wr) := ⟨by rw [← hq_]; exact (by repeat (first | (with_reducible first | exact HB.out | apply below_alloc | apply pw_below_drewN | apply below_drew1 | refine below_set ?_ GE111.out | refine below_set ?_ GE119.out) | exact HB.out))⟩; clear HO_120003 HO_120004 HO_120005 BK111 BK119 HB hq_; have HO_120003 := n0_; have HO_120004 := n1_; have HO_120005 := n2_; have BK111 := n3_; have BK119 := n4_; have HB := n5_; clear n0_ n1_ n2_ n3_ n4_ n5_)); have hnb44 := NB111_119.out; have hnc44 := NB119_111.out; have hcz45_0 : wr.cell? ⟨gb111, 0, none⟩ = some (.int .i64 x112000_2) := (blk_cell BK111.out 0).trans rfl; have hcz45_1 : wr.cell? ⟨gb111, 1, none⟩ = some (.int .i64 x112001_2) := (blk_cell BK111.out 1).trans rfl; have hcz45_2 : wr.cell? ⟨gb111, 2, none⟩ = some (.int .i64 x112002_2) := (blk_cell BK111.out 2).trans rfl; have hcz45_3 : wr.cell? ⟨gb111, 3, none⟩ = some (.slice none 0 0) := (blk_cell BK111.out 3).trans rfl; have hcz45_4 : wr.cell? ⟨gb111, 4, none⟩ = some (.slice none 0 0) := (blk_cell BK111.out 4).trans rfl; have hcz45_5 : wr.cell? ⟨gb111, 5, none⟩ = some (.slice none 0 0) := (blk_cell BK111.out 5).trans rfl; have hfz45_0 := blk_frozen BK111.out 0; have hfz45_1 := blk_frozen BK111.out 1; have hfz45_2 := blk_frozen BK111.out 2; have hfz45_3 := blk_frozen BK111.out 3; have hfz45_4 := blk_frozen BK111.out 4; have hfz45_5 := blk_frozen BK111.out 5))
            refine bodyPost_ret (results_cell_row rfl _ _ gb111 94 #[.int .i64 2, .int .i64 0, .int .i64 0, .slice none 0 0, .slice none 0 0, .slice none 0 0] (0, 0) _ rfl (by (with_reducible repeat (first | refine blk_drewN ?_ _ | refine blk_drew ?_ | refine blk_alloc ?_ _)); refine blk_put (cs := #[.int .i64 2, .int .i64 0, .int .i64 0, .slice none 0 0, .slice none 0 0, .slice none 0 0]) ?_ 5 _ rfl; (with_reducible repeat (first | refine blk_drewN ?_ _ | refine blk_drew ?_ | refine blk_alloc ?_ _)); refine blk_put (cs := #[.int .i64 2, .int .i64 0, .int .i64 0, .slice none 0 0, .slice none 0 0, .slice none 0 0]) ?_ 4 _ rfl; (with_reducible repeat (first | refine blk_drewN ?_ _ | refine blk_drew ?_ | refine blk_alloc ?_ _)); refine blk_put (cs := #[.int .i64 2, .int .i64 0, .int .i64 0, .slice none 0 0, .slice none 0 0, .slice none 0 0]) ?_ 3 _ rfl; (with_reducible repeat (first | refine blk_drewN ?_ _ | refine blk_drew ?_ | refine blk_alloc ?_ _)); refine blk_put (cs := #[.int .i64 2, .int .i64 0, .int .i64 x112002_2, .slice none 0 0, .slice none 0 0, .slice none 0 0]) ?_ 2 _ rfl; (with_reducible repeat (first | refine blk_drewN ?_ _ | refine blk_drew ?_ | refine blk_alloc ?_ _)); refine blk_put (cs := #[.int .i64 2, .int .i64 x112001_2, .int .i64 x112002_2, .slice none 0 0, .slice none 0 0, .slice none 0 0]) ?_ 1 _ rfl; (with_reducible repeat (first | refine blk_drewN ?_ _ | refine blk_drew ?_ | refine blk_alloc ?_ _)); refine blk_put (cs := #[.int .i64 x112000_2, .int .i64 x112001_2, .int .i64 x112002_2, .slice none 0 0, .slice none 0 0, .slice none 0 0]) ?_ 0 _ rfl; (with_reducible repeat (first | refine blk_drewN ?_ _ | refine blk_drew ?_ | refine blk_alloc ?_ _)); exact BK111.out) Try.underlying94 rfl (by kernel_rfl)) rfl ?_
            exact ⟨_, _, _, by first | rfl | (simp [errW_none, errW_some] <;> rfl) | (simp only [← hji37]; first | rfl | (simp [errW_none, errW_some] <;> rfl)) | (simp [*, errW_none, errW_some] <;> rfl), by first | exact Kd.R_nil _ _ _ _ _ | exact Kd.N_nil _ _ _ _ _ | exact Kd.V_nil _ _ _ _ _ | exact Kd.Q_nil _ _ _ _ _ | exact Kd.S_nil _ _ _ _ _, by first | exact Kd.R_nil _ _ _ _ _ | exact Kd.N_nil _ _ _ _ _ | exact Kd.V_nil _ _ _ _ _ | exact Kd.Q_nil _ _ _ _ _ | exact Kd.S_nil _ _ _ _ _, by first | exact Kd.S_nil _ _ _ _ _ | exact Kd.N_nil _ _ _ _ _ | exact Kd.V_nil _ _ _ _ _ | exact Kd.Q_nil _ _ _ _ _ | exact Kd.R_nil _ _ _ _ _, by repeat (first | (with_reducible first | exact HB.out | apply below_alloc | apply pw_below_drewN | apply below_drew1 | refine below_set ?_ GE111.out | refine below_set ?_ GE119.out) | exact HB.out)⟩
          rw [if_neg c42] at H
          have c42b0 : decide ((wrap64 ((wrap64 ((l0.length : Int) - x6_2)) - 9)) < t122) = false := decide_eq_false c42
          clear c42
          by_cases c46 : 0 ≤ x6_2
          rotate_left
          · rw [if_neg c46] at H
            exact absurd H (by simp)
          rw [if_pos c46] at H
          have c46b0 : decide (0 ≤ x6_2) = true := decide_eq_true c46
          clear c46
          by_cases c47 : (Go.bits .and .i64 (wrap64 (rd l0 x6_2)) 127) > 40
          · rw [if_pos c47] at H
            have c47b0 : decide (40 < (Go.bits .and .i64 (wrap64 (rd l0 x6_2)) 127)) = true := decide_eq_true c47
            clear c47
            simp only [Option.some.injEq, Prod.mk.injEq] at H
            obtain ⟨rfl, rfl, rfl, rfl, rfl, rfl⟩ := H
            obtain ⟨i048, hi048, _, hsz48, _⟩ := info_parts info5
            obtain ⟨A48, hcut48, hA48, hC48⟩ := print_mid_of (P := Try.prog) (Value.int .u8) 0 51 5 .i64 .i64 Try.underlying51 hi048 hsz48 (some ad117) c0 l0 (ji37) (wrap64 (x6_2 + 5)) (of_decide_eq_true (by first | (with_reducible assumption) | assumption)) (by first | omega | exact of_decide_eq_true (by first | (with_reducible assumption) | assumption)) (of_decide_eq_true (by first | (with_reducible assumption) | assumption)) HC0.out
            have HR121 := Aside0.mk (Kd.C_of_reads (h1 := fun _ => rfl) (hA48 _ (Kd.reads_of_C HR0.out)))
            have HC121 := Aside0.mk hC48
            clear hA48 hC48 hi048 hsz48
            go_wp2_with (first | ((with_reducible refine gate_callee (f := 142) rfl ?_); refine goesL_ (some 73) rfl rfl Try.func142 (by kernel_rfl) rfl #[.slice A48 ((l0.take ((wrap64 (x6_2 + 5)) : Int).toNat).drop ((ji37) : Int).toNat).length (c0 - (ji37).toNat)] rfl (by (try simp only [List.map_toArray, List.map_cons, List.map_nil]); first | done | (rw [show ((l0.take ((wrap64 (x6_2 + 5)) : Int).toNat).drop ((ji37) : Int).toNat).length = ((wrap64 (x6_2 + 5)).toNat - (ji37).toNat) from (by rw [List.length_drop, List.length_take]; have h_ : ((wrap64 (x6_2 + 5)) : Int) ≤ (l0.length : Int) := of_decide_eq_true (by first | (with_reducible assumption) | assumption); omega)] <;> rfl) | (simp only [hji37]; rfl) | rfl | (simp only [List.length_drop, List.length_take]; rfl)) ?_; (with_reducible refine (spec_l5Int.calls k2 _ _ ((l0.take ((wrap64 (x6_2 + 5)) : Int).toNat).drop ((ji37) : Int).toNat) t122 _ ?side1 ?side2 A41.out).mono ?_); (case side1 => repeat (first | exact (Kd.C_below HR121.out HB.out) | (with_reducible refine Kd.C_alloc ?_ _) | (with_reducible refine Kd.C_drewN ?_ _) | (with_reducible refine Kd.C_drew ?_))); (case side2 => exact HC121.out); rintro e w' ⟨rfl, ⟨nd, rfl⟩⟩; refine ⟨_, rfl, ?_⟩; (try (rw [drewN_self wr]; generalize hq_ : World.drewN wr _ = wr; have n0_ : Aside0 (Kd.R Kd.bool 4 wr w.heap.size (fun _ => True) u120003 x120003_2) := ⟨by rw [← hq_]; exact (by (with_reducible repeat (first | apply Kd.R_alloc | apply Kd.R_drewN | apply Kd.R_drew)); exact HO_120003.out)⟩; have n1_ : Aside0 (Kd.R (Kd.int .i64) 3 wr w.heap.size (fun _ => True) u120004 x120004_2) := ⟨by rw [← hq_]; exact (by (with_reducible repeat (first | apply Kd.R_alloc | apply Kd.R_drewN | apply Kd.R_drew)); exact HO_120004.out)⟩; have n2_ : Aside0 (Kd.S (Kd.slice 5 (Kd.int .u8)) 51 wr w.heap.size (fun _ => True) u120005 x120005_2) := ⟨by rw [← hq_]; exact (by (with_reducible repeat (first | apply Kd.S_alloc | apply Kd.S_drewN | apply Kd.S_drew)); exact HO_120005.out)⟩; have n3_ : Aside0 (wr.heap[gb111]? = some (.cells #[.int .i64 x112000_2, .int .i64 x112001_2, .int .i64 x112002_2, .slice none 0 0, .slice none 0 0, .slice none 0 0] 94 (0, 0))) := ⟨by rw [← hq_]; exact (by (with_reducible repeat (first | refine blk_drewN ?_ _ | refine blk_drew ?_ | refine blk_alloc ?_ _)); exact BK111.out)⟩; have n4_ : Aside0 (wr.heap[gb119]? = some (.cells #[.int .i64 0, .int .i64 (wrap64 (8 * (wrap64 (rd l0 4)))), .int .i64 (wrap64 (8 * (wrap64 (rd l0 5)))), u120003, u120004, u120005] 94 (0, 0))) := ⟨by rw [← hq_]; exact (by (with_reducible repeat (first | refine blk_drewN ?_ _ | refine blk_drew ?_ | refine blk_alloc ?_ _)); exact BK119.out)⟩; have n5_ : Aside0 (Below w.heap.size w wr) := ⟨by rw [← hq_]; exact (by repeat (first | (with_reducible first | exact HB.out | apply below_alloc | apply pw_below_drewN | apply below_drew1 | refine below_set ?_ GE111.out | refine below_set ?_ GE119.out) | exact HB.out))⟩; clear HO_120003 HO_120004 HO_120005 BK111 BK119 HB hq_; have HO_120003 := n0_; have HO_120004 := n1_; have HO_120005 := n2_; have BK111 := n3_; have BK119 := n4_; have HB := n5_; clear n0_ n1_ n2_ n3_ n4_ n5_)); have p123 : 0 ≤ (x6_2 : Int) := of_decide_eq_true (by first | (with_reducible assumption) | assumption); have q123 : x6_2 < (l0.length : Int) := of_decide_eq_true (by first | (with_reducible assumption) | assumption); obtain ⟨ad123, e123, hx123_0⟩ := Kd.at_int HR0.out x6_2 p123 q123; obtain rfl : ad117 = ad123 := (by injection e123); replace hx123_0 := (HB.out.cell (World.block_lt_of_cell? w _ hx123_0)).trans hx123_0; replace p123 := eq_true p123; replace q123 := eq_true q123; have p124 : 0 ≤ (x6_2 : Int) := of_decide_eq_true (by first | (with_reducible assumption) | assumption); have q124 : x6_2 < (l0.length : Int) := of_decide_eq_true (by first | (with_reducible assumption) | assumption); obtain ⟨ad124, e124, hx124_0⟩ := Kd.at_int HR0.out x6_2 p124 q124; obtain rfl : ad117 = ad124 := (by injection e124); replace hx124_0 := (HB.out.cell (World.block_lt_of_cell? w _ hx124_0)).trans hx124_0; replace p124 := eq_true p124; replace q124 := eq_true q124; have hnb49 := NB111_119.out; have hnc49 := NB119_111.out; have hcz50_0 : wr.cell? ⟨gb111, 0, none⟩ = some (.int .i64 x112000_2) := (blk_cell BK111.out 0).trans rfl; have hcz50_1 : wr.cell? ⟨gb111, 1, none⟩ = some (.int .i64 x112001_2) := (blk_cell BK111.out 1).trans rfl; have hcz50_2 : wr.cell? ⟨gb111, 2, none⟩ = some (.int .i64 x112002_2) := (blk_cell BK111.out 2).trans rfl; have hcz50_3 : wr.cell? ⟨gb111, 3, none⟩ = some (.slice none 0 0) := (blk_cell BK111.out 3).trans rfl; have hcz50_4 : wr.cell? ⟨gb111, 4, none⟩ = some (.slice none 0 0) := (blk_cell BK111.out 4).trans rfl; have hcz50_5 : wr.cell? ⟨gb111, 5, none⟩ = some (.slice none 0 0) := (blk_cell BK111.out 5).trans rfl; have hfz50_0 := blk_frozen BK111.out 0; have hfz50_1 := blk_frozen BK111.out 1; have hfz50_2 := blk_frozen BK111.out 2; have hfz50_3 := blk_frozen BK111.out 3; have hfz50_4 := blk_frozen BK111.out 4; have hfz50_5 := blk_frozen BK111.out 5))
            refine bodyPost_ret (results_cell_row rfl _ _ gb111 94 #[.int .i64 5, .int .i64 0, .int .i64 0, .slice none 0 0, .slice none 0 0, .slice none 0 0] (0, 0) _ rfl (by (with_reducible repeat (first | refine blk_drewN ?_ _ | refine blk_drew ?_ | refine blk_alloc ?_ _)); refine blk_put (cs := #[.int .i64 5, .int .i64 0, .int .i64 0, .slice none 0 0, .slice none 0 0, .slice none 0 0]) ?_ 5 _ rfl; (with_reducible repeat (first | refine blk_drewN ?_ _ | refine blk_drew ?_ | refine blk_alloc ?_ _)); refine blk_put (cs := #[.int .i64 5, .int .i64 0, .int .i64 0, .slice none 0 0, .slice none 0 0, .slice none 0 0]) ?_ 4 _ rfl; (with_reducible repeat (first | refine blk_drewN ?_ _ | refine blk_drew ?_ | refine blk_alloc ?_ _)); refine blk_put (cs := #[.int .i64 5, .int .i64 0, .int .i64 0, .slice none 0 0, .slice none 0 0, .slice none 0 0]) ?_ 3 _ rfl; (with_reducible repeat (first | refine blk_drewN ?_ _ | refine blk_drew ?_ | refine blk_alloc ?_ _)); refine blk_put (cs := #[.int .i64 5, .int .i64 0, .int .i64 x112002_2, .slice none 0 0, .slice none 0 0, .slice none 0 0]) ?_ 2 _ rfl; (with_reducible repeat (first | refine blk_drewN ?_ _ | refine blk_drew ?_ | refine blk_alloc ?_ _)); refine blk_put (cs := #[.int .i64 5, .int .i64 x112001_2, .int .i64 x112002_2, .slice none 0 0, .slice none 0 0, .slice none 0 0]) ?_ 1 _ rfl; (with_reducible repeat (first | refine blk_drewN ?_ _ | refine blk_drew ?_ | refine blk_alloc ?_ _)); refine blk_put (cs := #[.int .i64 x112000_2, .int .i64 x112001_2, .int .i64 x112002_2, .slice none 0 0, .slice none 0 0, .slice none 0 0]) ?_ 0 _ rfl; (with_reducible repeat (first | refine blk_drewN ?_ _ | refine blk_drew ?_ | refine blk_alloc ?_ _)); exact BK111.out) Try.underlying94 rfl (by kernel_rfl)) rfl ?_
            exact ⟨_, _, _, by first | rfl | (simp [errW_none, errW_some] <;> rfl) | (simp only [← hji37]; first | rfl | (simp [errW_none, errW_some] <;> rfl)) | (simp [*, errW_none, errW_some] <;> rfl), by first | exact Kd.R_nil _ _ _ _ _ | exact Kd.N_nil _ _ _ _ _ | exact Kd.V_nil _ _ _ _ _ | exact Kd.Q_nil _ _ _ _ _ | exact Kd.S_nil _ _ _ _ _, by first | exact Kd.R_nil _ _ _ _ _ | exact Kd.N_nil _ _ _ _ _ | exact Kd.V_nil _ _ _ _ _ | exact Kd.Q_nil _ _ _ _ _ | exact Kd.S_nil _ _ _ _ _, by first | exact Kd.S_nil _ _ _ _ _ | exact Kd.N_nil _ _ _ _ _ | exact Kd.V_nil _ _ _ _ _ | exact Kd.Q_nil _ _ _ _ _ | exact Kd.R_nil _ _ _ _ _, by repeat (first | (with_reducible first | exact HB.out | apply below_alloc | apply pw_below_drewN | apply below_drew1 | refine below_set ?_ GE111.out | refine below_set ?_ GE119.out) | exact HB.out)⟩
          rw [if_neg c47] at H
          have c47b0 : decide (40 < (Go.bits .and .i64 (wrap64 (rd l0 x6_2)) 127)) = false := decide_eq_false c47
          clear c47
          obtain ⟨ji51, hji51⟩ : ∃ j_ : Int, (wrap64 ((wrap64 (x6_2 + 5)) + t122)) = j_ := ⟨_, rfl⟩
          replace H : (if 0 ≤ (ji51) then (if (ji51) ≤ (wrap64 ((wrap64 (x6_2 + 9)) + t122)) then (if (wrap64 ((wrap64 (x6_2 + 9)) + t122)) ≤ (l0.length : Int) then ((spec_l5Int.f k2 ((l0.take ((wrap64 ((wrap64 (x6_2 + 9)) + t122)) : Int).toNat).drop ((ji51) : Int).toNat)).bind fun t126 => (if x6_2 ≤ (ji51) then (if (ji51) ≤ (l0.length : Int) then ((spec_Crc.f k2 ((l0.take ((ji51) : Int).toNat).drop (x6_2 : Int).toNat)).bind fun t128 => (if ((t126) % 4294967296) = t128 then (if (x120005_2.length : Int) = 0 then (spec_ReadParts.j2 k2 l0 x6_2 t122 (Go.bits .and .i64 (wrap64 (rd l0 x6_2)) 127) (decide ((rd l0 x6_2) ≥ 128)) (!(decide ((rd l0 x6_2) ≥ 128))) 0 (wrap64 (8 * (wrap64 (rd l0 4)))) (wrap64 (8 * (wrap64 (rd l0 5)))) x120003_2 x120004_2 x120005_2) else (spec_ReadParts.j2 k2 l0 x6_2 t122 (Go.bits .and .i64 (wrap64 (rd l0 x6_2)) 127) (decide ((rd l0 x6_2) ≥ 128)) false 0 (wrap64 (8 * (wrap64 (rd l0 4)))) (wrap64 (8 * (wrap64 (rd l0 5)))) x120003_2 x120004_2 x120005_2)) else (some (3, 0, 0, ([] : List Bool), ([] : List Int), ([] : List (List Int)))))) else (none)) else (none))) else (none)) else (none)) else (none)) = some (r1, r2, r3, r4, r5, r6) := by first | (rw [hji51] at H; exact H) | (simp only [hji51] at H ⊢; exact H)
          (try rw [hji51] at A41)
          have hji51w : (IntKind.i64.wrap ((wrap64 (x6_2 + 5)) + t122)) = ji51 := (i64_w _).trans hji51
          by_cases c52 : 0 ≤ (ji51)
          rotate_left
          · rw [if_neg c52] at H
            exact absurd H (by simp)
          rw [if_pos c52] at H
          have c52b0 := eq_true c52
          have c52b1 : decide (0 ≤ (ji51)) = true := decide_eq_true c52
          clear c52
          by_cases c53 : (ji51) ≤ (wrap64 ((wrap64 (x6_2 + 9)) + t122))
          rotate_left
          · rw [if_neg c53] at H
            exact absurd H (by simp)
          rw [if_pos c53] at H
          have c53b0 := eq_true c53
          have c53b1 : decide ((ji51) ≤ (wrap64 ((wrap64 (x6_2 + 9)) + t122))) = true := decide_eq_true c53
          by_cases c54 : (wrap64 ((wrap64 (x6_2 + 9)) + t122)) ≤ (l0.length : Int)
          rotate_left
          · rw [if_neg c54] at H
            exact absurd H (by simp)
          rw [if_pos c54] at H
          have c54b0 := eq_true c54
          have c54b1 : decide ((wrap64 ((wrap64 (x6_2 + 9)) + t122)) ≤ (l0.length : Int)) = true := decide_eq_true c54
          replace H := Option.bind_eq_some_iff.mp H
          obtain ⟨t126, A550, H⟩ := H
          replace H : (if x6_2 ≤ (ji51) then (if (ji51) ≤ (l0.length : Int) then ((spec_Crc.f k2 ((l0.take ((ji51) : Int).toNat).drop (x6_2 : Int).toNat)).bind fun t128 => (if ((t126) % 4294967296) = t128 then (if (x120005_2.length : Int) = 0 then (spec_ReadParts.j2 k2 l0 x6_2 t122 (Go.bits .and .i64 (wrap64 (rd l0 x6_2)) 127) (decide ((rd l0 x6_2) ≥ 128)) (!(decide ((rd l0 x6_2) ≥ 128))) 0 (wrap64 (8 * (wrap64 (rd l0 4)))) (wrap64 (8 * (wrap64 (rd l0 5)))) x120003_2 x120004_2 x120005_2) else (spec_ReadParts.j2 k2 l0 x6_2 t122 (Go.bits .and .i64 (wrap64 (rd l0 x6_2)) 127) (decide ((rd l0 x6_2) ≥ 128)) false 0 (wrap64 (8 * (wrap64 (rd l0 4)))) (wrap64 (8 * (wrap64 (rd l0 5)))) x120003_2 x120004_2 x120005_2)) else (some (3, 0, 0, ([] : List Bool), ([] : List Int), ([] : List (List Int)))))) else (none)) else (none)) = some (r1, r2, r3, r4, r5, r6) := H
          have A55 := Aside0.mk A550
          clear A550
          have c56b0 := eq_true (of_decide_eq_true (by first | (with_reducible assumption) | assumption) : 0 ≤ x6_2)
          by_cases c57 : x6_2 ≤ (ji51)
          rotate_left
          · rw [if_neg c57] at H
            exact absurd H (by simp)
          rw [if_pos c57] at H
          have c57b0 := eq_true c57
          have c57b1 : decide (x6_2 ≤ (ji51)) = true := decide_eq_true c57
          clear c57
          by_cases c58 : (ji51) ≤ (l0.length : Int)
          rotate_left
          · rw [if_neg c58] at H
            exact absurd H (by simp)
          rw [if_pos c58] at H
          have c58b0 := eq_true c58
          have c58b1 : decide ((ji51) ≤ (l0.length : Int)) = true := decide_eq_true c58
          clear c58
          replace H := Option.bind_eq_some_iff.mp H
          obtain ⟨t128, A590, H⟩ := H
          replace H : (if ((t126) % 4294967296) = t128 then (if (x120005_2.length : Int) = 0 then (spec_ReadParts.j2 k2 l0 x6_2 t122 (Go.bits .and .i64 (wrap64 (rd l0 x6_2)) 127) (decide ((rd l0 x6_2) ≥ 128)) (!(decide ((rd l0 x6_2) ≥ 128))) 0 (wrap64 (8 * (wrap64 (rd l0 4)))) (wrap64 (8 * (wrap64 (rd l0 5)))) x120003_2 x120004_2 x120005_2) else (spec_ReadParts.j2 k2 l0 x6_2 t122 (Go.bits .and .i64 (wrap64 (rd l0 x6_2)) 127) (decide ((rd l0 x6_2) ≥ 128)) false 0 (wrap64 (8 * (wrap64 (rd l0 4)))) (wrap64 (8 * (wrap64 (rd l0 5)))) x120003_2 x120004_2 x120005_2)) else (some (3, 0, 0, ([] : List Bool), ([] : List Int), ([] : List (List Int))))) = some (r1, r2, r3, r4, r5, r6) := H
          have A59 := Aside0.mk A590
          clear A590
          have hu_t126 : IntKind.u32.wrap t126 = t126 % 4294967296 := by simp [IntKind.wrap, IntKind.bits, IntKind.signed]
          by_cases c60 : ((t126) % 4294967296) = t128
          rotate_left
          · rw [if_neg c60] at H
            have c60b0 : (((t126) % 4294967296) == t128) = false := beq_eq_false_iff_ne.mpr c60
            have c60b1 : (((t126) % 4294967296) != t128) = true := bne_iff_ne.mpr c60
            simp only [Option.some.injEq, Prod.mk.injEq] at H
            obtain ⟨rfl, rfl, rfl, rfl, rfl, rfl⟩ := H
            obtain ⟨i0110, hi0110, _, hsz110, _⟩ := info_parts info5
            obtain ⟨A110, hcut110, hA110, hC110⟩ := print_mid_of (P := Try.prog) (Value.int .u8) 0 51 5 .i64 .i64 Try.underlying51 hi0110 hsz110 (some ad117) c0 l0 (ji37) (wrap64 (x6_2 + 5)) (of_decide_eq_true (by first | (with_reducible assumption) | assumption)) (by first | omega | exact of_decide_eq_true (by first | (with_reducible assumption) | assumption)) (of_decide_eq_true (by first | (with_reducible assumption) | assumption)) HC0.out
            have HR121 := Aside0.mk (Kd.C_of_reads (h1 := fun _ => rfl) (hA110 _ (Kd.reads_of_C HR0.out)))
            have HC121 := Aside0.mk hC110
            clear hA110 hC110 hi0110 hsz110
            try go_wp2_with (first | ((with_reducible refine gate_callee (f := 142) rfl ?_); refine goesL_ (some 73) rfl rfl Try.func142 (by kernel_rfl) rfl #[.slice A110 ((l0.take ((wrap64 (x6_2 + 5)) : Int).toNat).drop ((ji37) : Int).toNat).length (c0 - (ji37).toNat)] rfl (by (try simp only [List.map_toArray, List.map_cons, List.map_nil]); first | done | (rw [show ((l0.take ((wrap64 (x6_2 + 5)) : Int).toNat).drop ((ji37) : Int).toNat).length = ((wrap64 (x6_2 + 5)).toNat - (ji37).toNat) from (by rw [List.length_drop, List.length_take]; have h_ : ((wrap64 (x6_2 + 5)) : Int) ≤ (l0.length : Int) := of_decide_eq_true (by first | (with_reducible assumption) | assumption); omega)] <;> rfl) | (simp only [hji37]; rfl) | rfl | (simp only [List.length_drop, List.length_take]; rfl)) ?_; (with_reducible refine (spec_l5Int.calls k2 _ _ ((l0.take ((wrap64 (x6_2 + 5)) : Int).toNat).drop ((ji37) : Int).toNat) t122 _ ?side1 ?side2 A41.out).mono ?_); (case side1 => repeat (first | exact (Kd.C_below HR121.out HB.out) | (with_reducible refine Kd.C_alloc ?_ _) | (with_reducible refine Kd.C_drewN ?_ _) | (with_reducible refine Kd.C_drew ?_))); (case side2 => exact HC121.out); rintro e w' ⟨rfl, ⟨nd, rfl⟩⟩; refine ⟨_, rfl, ?_⟩; (try (rw [drewN_self wr]; generalize hq_ : World.drewN wr _ = wr; have n0_ : Aside0 (Kd.R Kd.bool 4 wr w.heap.size (fun _ => True) u120003 x120003_2) := ⟨by rw [← hq_]; exact (by (with_reducible repeat (first | apply Kd.R_alloc | apply Kd.R_drewN | apply Kd.R_drew)); exact HO_120003.out)⟩; have n1_ : Aside0 (Kd.R (Kd.int .i64) 3 wr w.heap.size (fun _ => True) u120004 x120004_2) := ⟨by rw [← hq_]; exact (by (with_reducible repeat (first | apply Kd.R_alloc | apply Kd.R_drewN | apply Kd.R_drew)); exact HO_120004.out)⟩; have n2_ : Aside0 (Kd.S (Kd.slice 5 (Kd.int .u8)) 51 wr w.heap.size (fun _ => True) u120005 x120005_2) := ⟨by rw [← hq_]; exact (by (with_reducible repeat (first | apply Kd.S_alloc | apply Kd.S_drewN | apply Kd.S_drew)); exact HO_120005.out)⟩; have n3_ : Aside0 (wr.heap[gb111]? = some (.cells #[.int .i64 x112000_2, .int .i64 x112001_2, .int .i64 x112002_2, .slice none 0 0, .slice none 0 0, .slice none 0 0] 94 (0, 0))) := ⟨by rw [← hq_]; exact (by (with_reducible repeat (first | refine blk_drewN ?_ _ | refine blk_drew ?_ | refine blk_alloc ?_ _)); exact BK111.out)⟩; have n4_ : Aside0 (wr.heap[gb119]? = some (.cells #[.int .i64 0, .int .i64 (wrap64 (8 * (wrap64 (rd l0 4)))), .int .i64 (wrap64 (8 * (wrap64 (rd l0 5)))), u120003, u120004, u120005] 94 (0, 0))) := ⟨by rw [← hq_]; exact (by (with_reducible repeat (first | refine blk_drewN ?_ _ | refine blk_drew ?_ | refine blk_alloc ?_ _)); exact BK119.out)⟩; have n5_ : Aside0 (Below w.heap.size w wr) := ⟨by rw [← hq_]; exact (by repeat (first | (with_reducible first | exact HB.out | apply below_alloc | apply pw_below_drewN | apply below_drew1 | refine below_set ?_ GE111.out | refine below_set ?_ GE119.out) | exact HB.out))⟩; clear HO_120003 HO_120004 HO_120005 BK111 BK119 HB hq_; have HO_120003 := n0_; have HO_120004 := n1_; have HO_120005 := n2_; have BK111 := n3_; have BK119 := n4_; have HB := n5_; clear n0_ n1_ n2_ n3_ n4_ n5_)); have p123 : 0 ≤ (x6_2 : Int) := of_decide_eq_true (by first | (with_reducible assumption) | assumption); have q123 : x6_2 < (l0.length : Int) := of_decide_eq_true (by first | (with_reducible assumption) | assumption); obtain ⟨ad123, e123, hx123_0⟩ := Kd.at_int HR0.out x6_2 p123 q123; obtain rfl : ad117 = ad123 := (by injection e123); replace hx123_0 := (HB.out.cell (World.block_lt_of_cell? w _ hx123_0)).trans hx123_0; replace p123 := eq_true p123; replace q123 := eq_true q123; have p124 : 0 ≤ (x6_2 : Int) := of_decide_eq_true (by first | (with_reducible assumption) | assumption); have q124 : x6_2 < (l0.length : Int) := of_decide_eq_true (by first | (with_reducible assumption) | assumption); obtain ⟨ad124, e124, hx124_0⟩ := Kd.at_int HR0.out x6_2 p124 q124; obtain rfl : ad117 = ad124 := (by injection e124); replace hx124_0 := (HB.out.cell (World.block_lt_of_cell? w _ hx124_0)).trans hx124_0; replace p124 := eq_true p124; replace q124 := eq_true q124))
            have n0_ := Aside0.mk (Kd.R_drew HO_120003.out)
            have n1_ := Aside0.mk (Kd.R_drew HO_120004.out)
            have n2_ := Aside0.mk (Kd.S_drew HO_120005.out)
            have n3_ := Aside0.mk (blk_drew BK111.out)
            have n4_ := Aside0.mk (blk_drew BK119.out)
            have n5_ := Aside0.mk (below_drew1 HB.out)
            clear HO_120003
            clear HO_120004
            clear HO_120005
            clear BK111
            clear BK119
            clear HB
            have HO_120003 := n0_
            have HO_120004 := n1_
            have HO_120005 := n2_
            have BK111 := n3_
            have BK119 := n4_
            have HB := n5_
            clear n0_ n1_ n2_ n3_ n4_ n5_
            obtain ⟨i0112, hi0112, _, hsz112, _⟩ := info_parts info5
            obtain ⟨A112, hcut112, hA112, hC112⟩ := print_mid_of (P := Try.prog) (Value.int .u8) 0 51 5 .i64 .i64 Try.underlying51 hi0112 hsz112 (some ad117) c0 l0 (ji51) (wrap64 ((wrap64 (x6_2 + 9)) + t122)) (of_decide_eq_true (by first | (with_reducible assumption) | assumption)) (by first | omega | exact of_decide_eq_true (by first | (with_reducible assumption) | assumption)) (of_decide_eq_true (by first | (with_reducible assumption) | assumption)) HC0.out
            have HR125 := Aside0.mk (Kd.C_of_reads (h1 := fun _ => rfl) (hA112 _ (Kd.reads_of_C HR0.out)))
            have HC125 := Aside0.mk hC112
            clear hA112 hC112 hi0112 hsz112
            obtain ⟨i0113, hi0113, _, hsz113, _⟩ := info_parts info5
            obtain ⟨A113, hcut113, hA113, hC113⟩ := print_mid_of (P := Try.prog) (Value.int .u8) 0 51 5 .i64 .i64 Try.underlying51 hi0113 hsz113 (some ad117) c0 l0 x6_2 (ji51) (of_decide_eq_true (by first | (with_reducible assumption) | assumption)) (by first | omega | exact of_decide_eq_true (by first | (with_reducible assumption) | assumption)) (of_decide_eq_true (by first | (with_reducible assumption) | assumption)) HC0.out
            have HR127 := Aside0.mk (Kd.C_of_reads (h1 := fun _ => rfl) (hA113 _ (Kd.reads_of_C HR0.out)))
            have HC127 := Aside0.mk hC113
            clear hA113 hC113 hi0113 hsz113
            refine start_ (n := 22) (S := fun w' => True) (ds := []) #[false, false, false, false, false, false, false, false, false, false, false, false, false, false, false, false, false, false, false, false, false, false] (by kernel_rfl) rfl rfl trivial (fun hHeld => ?_); refine with_tabW spec_ReadParts.tab27 spec_ReadParts.bits27 (fun HT_ HW_ => ?_)
            generalize wr.drew = w111 at HO_120003 HO_120004 HO_120005 BK111 BK119 HB HR125 HR127 hHeld ⊢
            refine pure_ (i := 0) (N := some 98) (v := ?_) (a' := ?_) #[true, false, false, false, false, false, false, false, false, false, false, false, false, false, false, false, false, false, false, false, false, false] rfl rfl (any_of HT_.out (by kernel_rfl)) (fun _ _ _ h => h) (Or.inl ⟨by rfl, ?_⟩) ?_ ?_
            rotate_left
            · intro w'
              go_simp
              with_reducible rfl
            rotate_left
            · simp only [Act.put, List.setIfInBounds_toArray, List.set_cons_zero, List.set_cons_succ, i64_w, i32_w]
              rfl
            refine pure_ (i := 1) (N := some 99) (v := ?_) (a' := ?_) #[true, true, false, false, false, false, false, false, false, false, false, false, false, false, false, false, false, false, false, false, false, false] rfl rfl (any_of HT_.out (by kernel_rfl)) (fun _ _ _ h => h) (Or.inl ⟨by rfl, ?_⟩) ?_ ?_
            rotate_left
            · intro w'
              go_simp
              with_reducible rfl
            rotate_left
            · simp only [Act.put, List.setIfInBounds_toArray, List.set_cons_zero, List.set_cons_succ, i64_w, i32_w]
              rfl
            refine pure_ (i := 2) (N := some 100) (v := ?_) (a' := ?_) #[true, true, true, false, false, false, false, false, false, false, false, false, false, false, false, false, false, false, false, false, false, false] rfl rfl (any_of HT_.out (by kernel_rfl)) (fun _ _ _ h => h) (Or.inl ⟨by rfl, ?_⟩) ?_ ?_
            rotate_left
            · intro w'
              go_simp
              with_reducible rfl
            rotate_left
            · simp only [Act.put, List.setIfInBounds_toArray, List.set_cons_zero, List.set_cons_succ, i64_w, i32_w]
              rfl
            refine pure_ (i := 3) (N := some 101) (v := ?_) (a' := ?_) #[true, true, true, true, false, false, false, false, false, false, false, false, false, false, false, false, false, false, false, false, false, false] rfl rfl (any_of HT_.out (by kernel_rfl)) (fun _ _ _ h => h) (Or.inl ⟨by rfl, ?_⟩) ?_ ?_
            rotate_left
            · intro w'
              go_simp
              with_reducible rfl
            rotate_left
            · simp only [Act.put, List.setIfInBounds_toArray, List.set_cons_zero, List.set_cons_succ, i64_w, i32_w]
              rfl
            refine pure_ (i := 4) (N := some 102) (v := ?_) (a' := ?_) #[true, true, true, true, true, false, false, false, false, false, false, false, false, false, false, false, false, false, false, false, false, false] rfl rfl (any_of HT_.out (by kernel_rfl)) (fun _ _ _ h => h) (Or.inl ⟨by rfl, ?_⟩) ?_ ?_
            rotate_left
            · intro w'
              go_simp
              with_reducible rfl
            rotate_left
            · simp only [Act.put, List.setIfInBounds_toArray, List.set_cons_zero, List.set_cons_succ, i64_w, i32_w]
              rfl
            refine pure_ (i := 5) (N := some 103) (v := ?_) (a' := ?_) #[true, true, true, true, true, true, false, false, false, false, false, false, false, false, false, false, false, false, false, false, false, false] rfl rfl (any_of HT_.out (by kernel_rfl)) (fun _ _ _ h => h) (Or.inl ⟨by rfl, ?_⟩) ?_ ?_
            rotate_left
            · intro w'
              go_simp
              with_reducible rfl
            rotate_left
            · simp only [Act.put, List.setIfInBounds_toArray, List.set_cons_zero, List.set_cons_succ, i64_w, i32_w]
              rfl
            refine pure_ (i := 6) (N := some 104) (v := ?_) (a' := ?_) #[true, true, true, true, true, true, true, false, false, false, false, false, false, false, false, false, false, false, false, false, false, false] rfl rfl (any_of HT_.out (by kernel_rfl)) (fun _ _ _ h => h) (Or.inl ⟨by rfl, ?_⟩) ?_ ?_
            rotate_left
            · intro w'
              go_simp
              with_reducible rfl
            rotate_left
            · simp only [Act.put, List.setIfInBounds_toArray, List.set_cons_zero, List.set_cons_succ, i64_w, i32_w]
              rfl
            refine pure_ (i := 7) (N := some 105) (v := ?_) (a' := ?_) #[true, true, true, true, true, true, true, true, false, false, false, false, false, false, false, false, false, false, false, false, false, false] rfl rfl (any_of HT_.out (by kernel_rfl)) (fun _ _ _ h => h) (Or.inl ⟨by rfl, ?_⟩) ?_ ?_
            rotate_left
            · intro w'
              go_simp
              with_reducible rfl
            rotate_left
            · simp only [Act.put, List.setIfInBounds_toArray, List.set_cons_zero, List.set_cons_succ, i64_w, i32_w]
              rfl
            refine pure_ (i := 8) (N := some 106) (v := ?_) (a' := ?_) #[true, true, true, true, true, true, true, true, true, false, false, false, false, false, false, false, false, false, false, false, false, false] rfl rfl (any_of HT_.out (by kernel_rfl)) (fun _ _ _ h => h) (Or.inl ⟨by rfl, ?_⟩) ?_ ?_
            rotate_left
            · intro w'
              go_simp
              with_reducible rfl
            rotate_left
            · simp only [Act.put, List.setIfInBounds_toArray, List.set_cons_zero, List.set_cons_succ, i64_w, i32_w]
              rfl
            refine pure_ (i := 9) (N := some 107) (v := ?_) (a' := ?_) #[true, true, true, true, true, true, true, true, true, true, false, false, false, false, false, false, false, false, false, false, false, false] rfl rfl (any_of HT_.out (by kernel_rfl)) (fun _ _ _ h => h) (Or.inl ⟨by rfl, ?_⟩) ?_ ?_
            rotate_left
            · intro w'
              go_simp
              with_reducible rfl
            rotate_left
            · simp only [Act.put, List.setIfInBounds_toArray, List.set_cons_zero, List.set_cons_succ, i64_w, i32_w]
              rfl
            refine pure_ (i := 12) (N := some 110) (v := ?_) (a' := ?_) #[true, true, true, true, true, true, true, true, true, true, false, false, true, false, false, false, false, false, false, false, false, false] rfl rfl (any_of HT_.out (by kernel_rfl)) (fun _ _ _ h => h) (Or.inl ⟨by rfl, ?_⟩) ?_ ?_
            rotate_left
            · intro w'
              go_simp
              with_reducible rfl
            rotate_left
            · simp only [Act.put, List.setIfInBounds_toArray, List.set_cons_zero, List.set_cons_succ, i64_w, i32_w]
              rfl
            refine pure_ (i := 13) (N := some 111) (v := ?_) (a' := ?_) #[true, true, true, true, true, true, true, true, true, true, false, false, true, true, false, false, false, false, false, false, false, false] rfl rfl (any_of HT_.out (by kernel_rfl)) (fun _ _ _ h => h) (Or.inl ⟨by rfl, ?_⟩) ?_ ?_
            rotate_left
            · intro w'
              go_simp
              with_reducible rfl
            rotate_left
            · simp only [Act.put, List.setIfInBounds_toArray, List.set_cons_zero, List.set_cons_succ, i64_w, i32_w]
              rfl
            refine pure_ (i := 14) (N := some 112) (v := ?_) (a' := ?_) #[true, true, true, true, true, true, true, true, true, true, false, false, true, true, true, false, false, false, false, false, false, false] rfl rfl (any_of HT_.out (by kernel_rfl)) (fun _ _ _ h => h) (Or.inl ⟨by rfl, ?_⟩) ?_ ?_
            rotate_left
            · intro w'
              go_simp
              with_reducible rfl
            rotate_left
            · simp only [Act.put, List.setIfInBounds_toArray, List.set_cons_zero, List.set_cons_succ, i64_w, i32_w]
              rfl
            refine pure_ (i := 15) (N := some 113) (v := ?_) (a' := ?_) #[true, true, true, true, true, true, true, true, true, true, false, false, true, true, true, true, false, false, false, false, false, false] rfl rfl (any_of HT_.out (by kernel_rfl)) (fun _ _ _ h => h) (Or.inl ⟨by rfl, ?_⟩) ?_ ?_
            rotate_left
            · intro w'
              go_simp
              with_reducible rfl
            rotate_left
            · simp only [Act.put, List.setIfInBounds_toArray, List.set_cons_zero, List.set_cons_succ, i64_w, i32_w]
              rfl
            refine pure_ (i := 16) (N := some 114) (v := ?_) (a' := ?_) #[true, true, true, true, true, true, true, true, true, true, false, false, true, true, true, true, true, false, false, false, false, false] rfl rfl (any_of HT_.out (by kernel_rfl)) (fun _ _ _ h => h) (Or.inl ⟨by rfl, ?_⟩) ?_ ?_
            rotate_left
            · intro w'
              go_simp
              with_reducible rfl
            rotate_left
            · simp only [Act.put, List.setIfInBounds_toArray, List.set_cons_zero, List.set_cons_succ, i64_w, i32_w]
              rfl
            refine pure_ (i := 17) (N := some 115) (v := ?_) (a' := ?_) #[true, true, true, true, true, true, true, true, true, true, false, false, true, true, true, true, true, true, false, false, false, false] rfl rfl (any_of HT_.out (by kernel_rfl)) (fun _ _ _ h => h) (Or.inl ⟨by rfl, ?_⟩) ?_ ?_
            rotate_left
            · intro w'
              go_simp
              with_reducible rfl
            rotate_left
            · simp only [Act.put, List.setIfInBounds_toArray, List.set_cons_zero, List.set_cons_succ, i64_w, i32_w]
              rfl
            refine pure_ (i := 18) (N := some 116) (v := ?_) (a' := ?_) #[true, true, true, true, true, true, true, true, true, true, false, false, true, true, true, true, true, true, true, false, false, false] rfl rfl (any_of HT_.out (by kernel_rfl)) (fun _ _ _ h => h) (Or.inl ⟨by rfl, ?_⟩) ?_ ?_
            rotate_left
            · intro w'
              go_simp
              with_reducible rfl
            rotate_left
            · simp only [Act.put, List.setIfInBounds_toArray, List.set_cons_zero, List.set_cons_succ, i64_w, i32_w]
              rfl
            refine one_ (i := 10) (N := some 108) #[true, true, true, true, true, true, true, true, true, true, true, false, true, true, true, true, true, true, true, false, false, false] rfl rfl (one_of HT_.out (by kernel_rfl)) (by decide) (fun K hK => ?_)
            refine goes_ Try.func142 (by kernel_rfl) rfl #[.slice A112 ((l0.take ((wrap64 ((wrap64 (x6_2 + 9)) + t122)) : Int).toNat).drop ((ji51) : Int).toNat).length (c0 - (ji51).toNat)] (by rfl) rfl rfl (by (try simp only [List.map_toArray, List.map_cons, List.map_nil]); first | done | (rw [show ((l0.take ((wrap64 ((wrap64 (x6_2 + 9)) + t122)) : Int).toNat).drop ((ji51) : Int).toNat).length = ((wrap64 ((wrap64 (x6_2 + 9)) + t122)).toNat - (ji51).toNat) from (by rw [List.length_drop, List.length_take]; have h_ : ((wrap64 ((wrap64 (x6_2 + 9)) + t122)) : Int) ≤ (l0.length : Int) := of_decide_eq_true (by first | (with_reducible assumption) | assumption); omega)] <;> rfl) | (simp only [hji51]; rfl) | rfl | (simp only [List.length_drop, List.length_take]; rfl)) ?_
            with_reducible refine (spec_l5Int.calls k2 _ _ ((l0.take ((wrap64 ((wrap64 (x6_2 + 9)) + t122)) : Int).toNat).drop ((ji51) : Int).toNat) t126 _ ?side1 ?side2 A55.out).mono ?_
            (case side1 => repeat (first | exact (Kd.C_below HR125.out HB.out) | (with_reducible refine Kd.C_alloc ?_ _) | (with_reducible refine Kd.C_drewN ?_ _) | (with_reducible refine Kd.C_drew ?_)))
            (case side2 => exact HC125.out)
            rintro e w' ⟨rfl, ⟨nd, rfl⟩⟩
            refine ⟨_, rfl, ?_⟩
            refine hK.out _ _ trivial (fun hHeld => ?_)
            clear hK K
            refine norm_ (a' := ?_) ?_ ?_
            rotate_left
            · show Act.put _ (some 108) _ = _
              simp only [Act.put, List.setIfInBounds_toArray, List.set_cons_zero, List.set_cons_succ, i64_w, i32_w]
              rfl
            refine pure_ (i := 11) (N := some 109) (v := ?_) (a' := ?_) #[true, true, true, true, true, true, true, true, true, true, true, true, true, true, true, true, true, true, true, false, false, false] rfl rfl (any_of HT_.out (by kernel_rfl)) (fun _ _ _ h => h) (Or.inl ⟨by rfl, ?_⟩) ?_ ?_
            rotate_left
            · intro w'
              go_simp
              with_reducible rfl
            rotate_left
            · simp only [Act.put, List.setIfInBounds_toArray, List.set_cons_zero, List.set_cons_succ, i64_w, i32_w]
              rfl
            refine one_ (i := 19) (N := some 117) #[true, true, true, true, true, true, true, true, true, true, true, true, true, true, true, true, true, true, true, true, false, false] rfl rfl (one_of HT_.out (by kernel_rfl)) (by decide) (fun K hK => ?_)
            refine goes_ Try.func143 (by kernel_rfl) rfl #[.slice A113 ((l0.take ((ji51) : Int).toNat).drop (x6_2 : Int).toNat).length (c0 - x6_2.toNat)] (by rfl) rfl rfl (by (try simp only [List.map_toArray, List.map_cons, List.map_nil]); first | done | (rw [show ((l0.take ((ji51) : Int).toNat).drop (x6_2 : Int).toNat).length = ((ji51).toNat - x6_2.toNat) from (by rw [List.length_drop, List.length_take]; have h_ : ((ji51) : Int) ≤ (l0.length : Int) := of_decide_eq_true (by first | (with_reducible assumption) | assumption); omega)] <;> rfl) | (simp only [hji51]; rfl) | rfl | (simp only [List.length_drop, List.length_take]; rfl)) ?_
            with_reducible refine (spec_Crc.calls k2 _ _ ((l0.take ((ji51) : Int).toNat).drop (x6_2 : Int).toNat) t128 _ ?side1 ?side2 A59.out).mono ?_
            (case side1 => repeat (first | exact (Kd.C_below HR127.out (by repeat (first | (with_reducible first | exact HB.out | apply below_alloc | apply pw_below_drewN | apply below_drew1 | refine below_set ?_ GE111.out | refine below_set ?_ GE119.out) | exact HB.out))) | (with_reducible refine Kd.C_alloc ?_ _) | (with_reducible refine Kd.C_drewN ?_ _) | (with_reducible refine Kd.C_drew ?_)))
            (case side2 => exact HC127.out)
            rintro e w' ⟨rfl, ⟨nd, rfl⟩⟩
            refine ⟨_, rfl, ?_⟩
            refine hK.out _ _ trivial (fun hHeld => ?_)
            clear hK K
            refine norm_ (a' := ?_) ?_ ?_
            rotate_left
            · show Act.put _ (some 117) _ = _
              simp only [Act.put, List.setIfInBounds_toArray, List.set_cons_zero, List.set_cons_succ, i64_w, i32_w]
              rfl
            refine pure_ (i := 20) (N := some 118) (v := ?_) (a' := ?_) #[true, true, true, true, true, true, true, true, true, true, true, true, true, true, true, true, true, true, true, true, true, false] rfl rfl (any_of HT_.out (by kernel_rfl)) (fun _ _ _ h => h) (Or.inl ⟨by rfl, ?_⟩) ?_ ?_
            rotate_left
            · intro w'
              go_simp
              with_reducible rfl
            rotate_left
            · simp only [Act.put, List.setIfInBounds_toArray, List.set_cons_zero, List.set_cons_succ, i64_w, i32_w]
              rfl
            refine pure_ (i := 21) (N := some 97) (v := ?_) (a' := ?_) #[true, true, true, true, true, true, true, true, true, true, true, true, true, true, true, true, true, true, true, true, true, true] rfl rfl (any_of HT_.out (by kernel_rfl)) (fun _ _ _ h => h) (Or.inl ⟨by rfl, ?_⟩) ?_ ?_
            rotate_left
            · intro w'
              go_simp
              with_reducible rfl
            rotate_left
            · simp only [Act.put, List.setIfInBounds_toArray, List.set_cons_zero, List.set_cons_succ, i64_w, i32_w]
              rfl
            refine done_ (done_of HT_.out (by kernel_rfl)) ?_
            have hnb114 := NB111_119.out
            have hnc114 := NB119_111.out
            have hcz115_0 : w111.cell? ⟨gb111, 0, none⟩ = some (.int .i64 x112000_2) := (blk_cell BK111.out 0).trans rfl
            have hcz115_1 : w111.cell? ⟨gb111, 1, none⟩ = some (.int .i64 x112001_2) := (blk_cell BK111.out 1).trans rfl
            have hcz115_2 : w111.cell? ⟨gb111, 2, none⟩ = some (.int .i64 x112002_2) := (blk_cell BK111.out 2).trans rfl
            have hcz115_3 : w111.cell? ⟨gb111, 3, none⟩ = some (.slice none 0 0) := (blk_cell BK111.out 3).trans rfl
            have hcz115_4 : w111.cell? ⟨gb111, 4, none⟩ = some (.slice none 0 0) := (blk_cell BK111.out 4).trans rfl
            have hcz115_5 : w111.cell? ⟨gb111, 5, none⟩ = some (.slice none 0 0) := (blk_cell BK111.out 5).trans rfl
            have hfz115_0 := blk_frozen BK111.out 0
            have hfz115_1 := blk_frozen BK111.out 1
            have hfz115_2 := blk_frozen BK111.out 2
            have hfz115_3 := blk_frozen BK111.out 3
            have hfz115_4 := blk_frozen BK111.out 4
            have hfz115_5 := blk_frozen BK111.out 5
            try go_wp2
            refine bodyPost_ret (results_cell_row rfl _ _ gb111 94 #[.int .i64 3, .int .i64 0, .int .i64 0, .slice none 0 0, .slice none 0 0, .slice none 0 0] (0, 0) _ rfl (by (with_reducible repeat (first | refine blk_drewN ?_ _ | refine blk_drew ?_ | refine blk_alloc ?_ _)); refine blk_put (cs := #[.int .i64 3, .int .i64 0, .int .i64 0, .slice none 0 0, .slice none 0 0, .slice none 0 0]) ?_ 5 _ rfl; (with_reducible repeat (first | refine blk_drewN ?_ _ | refine blk_drew ?_ | refine blk_alloc ?_ _)); refine blk_put (cs := #[.int .i64 3, .int .i64 0, .int .i64 0, .slice none 0 0, .slice none 0 0, .slice none 0 0]) ?_ 4 _ rfl; (with_reducible repeat (first | refine blk_drewN ?_ _ | refine blk_drew ?_ | refine blk_alloc ?_ _)); refine blk_put (cs := #[.int .i64 3, .int .i64 0, .int .i64 0, .slice none 0 0, .slice none 0 0, .slice none 0 0]) ?_ 3 _ rfl; (with_reducible repeat (first | refine blk_drewN ?_ _ | refine blk_drew ?_ | refine blk_alloc ?_ _)); refine blk_put (cs := #[.int .i64 3, .int .i64 0, .int .i64 x112002_2, .slice none 0 0, .slice none 0 0, .slice none 0 0]) ?_ 2 _ rfl; (with_reducible repeat (first | refine blk_drewN ?_ _ | refine blk_drew ?_ | refine blk_alloc ?_ _)); refine blk_put (cs := #[.int .i64 3, .int .i64 x112001_2, .int .i64 x112002_2, .slice none 0 0, .slice none 0 0, .slice none 0 0]) ?_ 1 _ rfl; (with_reducible repeat (first | refine blk_drewN ?_ _ | refine blk_drew ?_ | refine blk_alloc ?_ _)); refine blk_put (cs := #[.int .i64 x112000_2, .int .i64 x112001_2, .int .i64 x112002_2, .slice none 0 0, .slice none 0 0, .slice none 0 0]) ?_ 0 _ rfl; (with_reducible repeat (first | refine blk_drewN ?_ _ | refine blk_drew ?_ | refine blk_alloc ?_ _)); exact BK111.out) Try.underlying94 rfl (by kernel_rfl)) rfl ?_
            exact ⟨_, _, _, by first | rfl | (simp [errW_none, errW_some] <;> rfl) | (simp only [← hji37, ← hji51]; first | rfl | (simp [errW_none, errW_some] <;> rfl)) | (simp [*, errW_none, errW_some] <;> rfl), by first | exact Kd.R_nil _ _ _ _ _ | exact Kd.N_nil _ _ _ _ _ | exact Kd.V_nil _ _ _ _ _ | exact Kd.Q_nil _ _ _ _ _ | exact Kd.S_nil _ _ _ _ _, by first | exact Kd.R_nil _ _ _ _ _ | exact Kd.N_nil _ _ _ _ _ | exact Kd.V_nil _ _ _ _ _ | exact Kd.Q_nil _ _ _ _ _ | exact Kd.S_nil _ _ _ _ _, by first | exact Kd.S_nil _ _ _ _ _ | exact Kd.N_nil _ _ _ _ _ | exact Kd.V_nil _ _ _ _ _ | exact Kd.Q_nil _ _ _ _ _ | exact Kd.R_nil _ _ _ _ _, by repeat (first | (with_reducible first | exact HB.out | apply below_alloc | apply pw_below_drewN | apply below_drew1 | refine below_set ?_ GE111.out | refine below_set ?_ GE119.out) | exact HB.out)⟩
          rw [if_pos c60] at H
          have c60b0 : (((t126) % 4294967296) == t128) = true := beq_iff_eq.mpr c60
          have c60b1 : (((t126) % 4294967296) != t128) = false := bne_eq_false_iff_eq.mpr c60
          clear c60
          have HC61 := Aside0.mk H
          clear H
          obtain ⟨i062, hi062, _, hsz62, _⟩ := info_parts info5
          obtain ⟨A62, hcut62, hA62, hC62⟩ := print_mid_of (P := Try.prog) (Value.int .u8) 0 51 5 .i64 .i64 Try.underlying51 hi062 hsz62 (some ad117) c0 l0 (ji37) (wrap64 (x6_2 + 5)) (of_decide_eq_true (by first | (with_reducible assumption) | assumption)) (by first | omega | exact of_decide_eq_true (by first | (with_reducible assumption) | assumption)) (of_decide_eq_true (by first | (with_reducible assumption) | assumption)) HC0.out
          have HR121 := Aside0.mk (Kd.C_of_reads (h1 := fun _ => rfl) (hA62 _ (Kd.reads_of_C HR0.out)))
          have HC121 := Aside0.mk hC62
          clear hA62 hC62 hi062 hsz62
          try go_wp2_with (first | ((with_reducible refine gate_callee (f := 142) rfl ?_); refine goesL_ (some 73) rfl rfl Try.func142 (by kernel_rfl) rfl #[.slice A62 ((l0.take ((wrap64 (x6_2 + 5)) : Int).toNat).drop ((ji37) : Int).toNat).length (c0 - (ji37).toNat)] rfl (by (try simp only [List.map_toArray, List.map_cons, List.map_nil]); first | done | (rw [show ((l0.take ((wrap64 (x6_2 + 5)) : Int).toNat).drop ((ji37) : Int).toNat).length = ((wrap64 (x6_2 + 5)).toNat - (ji37).toNat) from (by rw [List.length_drop, List.length_take]; have h_ : ((wrap64 (x6_2 + 5)) : Int) ≤ (l0.length : Int) := of_decide_eq_true (by first | (with_reducible assumption) | assumption); omega)] <;> rfl) | (simp only [hji37]; rfl) | rfl | (simp only [List.length_drop, List.length_take]; rfl)) ?_; (with_reducible refine (spec_l5Int.calls k2 _ _ ((l0.take ((wrap64 (x6_2 + 5)) : Int).toNat).drop ((ji37) : Int).toNat) t122 _ ?side1 ?side2 A41.out).mono ?_); (case side1 => repeat (first | exact (Kd.C_below HR121.out HB.out) | (with_reducible refine Kd.C_alloc ?_ _) | (with_reducible refine Kd.C_drewN ?_ _) | (with_reducible refine Kd.C_drew ?_))); (case side2 => exact HC121.out); rintro e w' ⟨rfl, ⟨nd, rfl⟩⟩; refine ⟨_, rfl, ?_⟩; have p123 : 0 ≤ (x6_2 : Int) := of_decide_eq_true (by first | (with_reducible assumption) | assumption); have q123 : x6_2 < (l0.length : Int) := of_decide_eq_true (by first | (with_reducible assumption) | assumption); obtain ⟨ad123, e123, hx123_0⟩ := Kd.at_int HR0.out x6_2 p123 q123; obtain rfl : ad117 = ad123 := (by injection e123); replace hx123_0 := (HB.out.cell (World.block_lt_of_cell? w _ hx123_0)).trans hx123_0; replace p123 := eq_true p123; replace q123 := eq_true q123; have p124 : 0 ≤ (x6_2 : Int) := of_decide_eq_true (by first | (with_reducible assumption) | assumption); have q124 : x6_2 < (l0.length : Int) := of_decide_eq_true (by first | (with_reducible assumption) | assumption); obtain ⟨ad124, e124, hx124_0⟩ := Kd.at_int HR0.out x6_2 p124 q124; obtain rfl : ad117 = ad124 := (by injection e124); replace hx124_0 := (HB.out.cell (World.block_lt_of_cell? w _ hx124_0)).trans hx124_0; replace p124 := eq_true p124; replace q124 := eq_true q124))
          (try (rw [drewN_self wr]; generalize hq_ : World.drewN wr _ = wr; have n0_ : Aside0 (Kd.R Kd.bool 4 wr w.heap.size (fun _ => True) u120003 x120003_2) := ⟨by rw [← hq_]; exact (by (with_reducible repeat (first | apply Kd.R_alloc | apply Kd.R_drewN | apply Kd.R_drew)); exact HO_120003.out)⟩; have n1_ : Aside0 (Kd.R (Kd.int .i64) 3 wr w.heap.size (fun _ => True) u120004 x120004_2) := ⟨by rw [← hq_]; exact (by (with_reducible repeat (first | apply Kd.R_alloc | apply Kd.R_drewN | apply Kd.R_drew)); exact HO_120004.out)⟩; have n2_ : Aside0 (Kd.S (Kd.slice 5 (Kd.int .u8)) 51 wr w.heap.size (fun _ => True) u120005 x120005_2) := ⟨by rw [← hq_]; exact (by (with_reducible repeat (first | apply Kd.S_alloc | apply Kd.S_drewN | apply Kd.S_drew)); exact HO_120005.out)⟩; have n3_ : Aside0 (wr.heap[gb111]? = some (.cells #[.int .i64 x112000_2, .int .i64 x112001_2, .int .i64 x112002_2, .slice none 0 0, .slice none 0 0, .slice none 0 0] 94 (0, 0))) := ⟨by rw [← hq_]; exact (by (with_reducible repeat (first | refine blk_drewN ?_ _ | refine blk_drew ?_ | refine blk_alloc ?_ _)); exact BK111.out)⟩; have n4_ : Aside0 (wr.heap[gb119]? = some (.cells #[.int .i64 0, .int .i64 (wrap64 (8 * (wrap64 (rd l0 4)))), .int .i64 (wrap64 (8 * (wrap64 (rd l0 5)))), u120003, u120004, u120005] 94 (0, 0))) := ⟨by rw [← hq_]; exact (by (with_reducible repeat (first | refine blk_drewN ?_ _ | refine blk_drew ?_ | refine blk_alloc ?_ _)); exact BK119.out)⟩; have n5_ : Aside0 (Below w.heap.size w wr) := ⟨by rw [← hq_]; exact (by repeat (first | (with_reducible first | exact HB.out | apply below_alloc | apply pw_below_drewN | apply below_drew1 | refine below_set ?_ GE111.out | refine below_set ?_ GE119.out) | exact HB.out))⟩; clear HO_120003 HO_120004 HO_120005 BK111 BK119 HB hq_; have HO_120003 := n0_; have HO_120004 := n1_; have HO_120005 := n2_; have BK111 := n3_; have BK119 := n4_; have HB := n5_; clear n0_ n1_ n2_ n3_ n4_ n5_))
          have n0_ := Aside0.mk (Kd.R_drew HO_120003.out)
          have n1_ := Aside0.mk (Kd.R_drew HO_120004.out)
          have n2_ := Aside0.mk (Kd.S_drew HO_120005.out)
          have n3_ := Aside0.mk (blk_drew BK111.out)
          have n4_ := Aside0.mk (blk_drew BK119.out)
          have n5_ := Aside0.mk (below_drew1 HB.out)
          clear HO_120003
          clear HO_120004
          clear HO_120005
          clear BK111
          clear BK119
          clear HB
          have HO_120003 := n0_
          have HO_120004 := n1_
          have HO_120005 := n2_
          have BK111 := n3_
          have BK119 := n4_
          have HB := n5_
          clear n0_ n1_ n2_ n3_ n4_ n5_
          obtain ⟨i064, hi064, _, hsz64, _⟩ := info_parts info5
          obtain ⟨A64, hcut64, hA64, hC64⟩ := print_mid_of (P := Try.prog) (Value.int .u8) 0 51 5 .i64 .i64 Try.underlying51 hi064 hsz64 (some ad117) c0 l0 (ji51) (wrap64 ((wrap64 (x6_2 + 9)) + t122)) (of_decide_eq_true (by first | (with_reducible assumption) | assumption)) (by first | omega | exact of_decide_eq_true (by first | (with_reducible assumption) | assumption)) (of_decide_eq_true (by first | (with_reducible assumption) | assumption)) HC0.out
          have HR125 := Aside0.mk (Kd.C_of_reads (h1 := fun _ => rfl) (hA64 _ (Kd.reads_of_C HR0.out)))
          have HC125 := Aside0.mk hC64
          clear hA64 hC64 hi064 hsz64
          obtain ⟨i065, hi065, _, hsz65, _⟩ := info_parts info5
          obtain ⟨A65, hcut65, hA65, hC65⟩ := print_mid_of (P := Try.prog) (Value.int .u8) 0 51 5 .i64 .i64 Try.underlying51 hi065 hsz65 (some ad117) c0 l0 x6_2 (ji51) (of_decide_eq_true (by first | (with_reducible assumption) | assumption)) (by first | omega | exact of_decide_eq_true (by first | (with_reducible assumption) | assumption)) (of_decide_eq_true (by first | (with_reducible assumption) | assumption)) HC0.out
          have HR127 := Aside0.mk (Kd.C_of_reads (h1 := fun _ => rfl) (hA65 _ (Kd.reads_of_C HR0.out)))
          have HC127 := Aside0.mk hC65
          clear hA65 hC65 hi065 hsz65
          refine start_ (n := 22) (S := fun w' => True) (ds := []) #[false, false, false, false, false, false, false, false, false, false, false, false, false, false, false, false, false, false, false, false, false, false] (by kernel_rfl) rfl rfl trivial (fun hHeld => ?_); refine with_tabW spec_ReadParts.tab27 spec_ReadParts.bits27 (fun HT_ HW_ => ?_)
          generalize wr.drew = w63 at HO_120003 HO_120004 HO_120005 BK111 BK119 HB HR125 HR127 hHeld ⊢
          refine pure_ (i := 0) (N := some 98) (v := ?_) (a' := ?_) #[true, false, false, false, false, false, false, false, false, false, false, false, false, false, false, false, false, false, false, false, false, false] rfl rfl (any_of HT_.out (by kernel_rfl)) (fun _ _ _ h => h) (Or.inl ⟨by rfl, ?_⟩) ?_ ?_
          rotate_left
          · intro w'
            go_simp
            with_reducible rfl
          rotate_left
          · simp only [Act.put, List.setIfInBounds_toArray, List.set_cons_zero, List.set_cons_succ, i64_w, i32_w]
            rfl
          refine pure_ (i := 1) (N := some 99) (v := ?_) (a' := ?_) #[true, true, false, false, false, false, false, false, false, false, false, false, false, false, false, false, false, false, false, false, false, false] rfl rfl (any_of HT_.out (by kernel_rfl)) (fun _ _ _ h => h) (Or.inl ⟨by rfl, ?_⟩) ?_ ?_
          rotate_left
          · intro w'
            go_simp
            with_reducible rfl
          rotate_left
          · simp only [Act.put, List.setIfInBounds_toArray, List.set_cons_zero, List.set_cons_succ, i64_w, i32_w]
            rfl
          refine pure_ (i := 2) (N := some 100) (v := ?_) (a' := ?_) #[true, true, true, false, false, false, false, false, false, false, false, false, false, false, false, false, false, false, false, false, false, false] rfl rfl (any_of HT_.out (by kernel_rfl)) (fun _ _ _ h => h) (Or.inl ⟨by rfl, ?_⟩) ?_ ?_
          rotate_left
          · intro w'
            go_simp
            with_reducible rfl
          rotate_left
          · simp only [Act.put, List.setIfInBounds_toArray, List.set_cons_zero, List.set_cons_succ, i64_w, i32_w]
            rfl
          refine pure_ (i := 3) (N := some 101) (v := ?_) (a' := ?_) #[true, true, true, true, false, false, false, false, false, false, false, false, false, false, false, false, false, false, false, false, false, false] rfl rfl (any_of HT_.out (by kernel_rfl)) (fun _ _ _ h => h) (Or.inl ⟨by rfl, ?_⟩) ?_ ?_
          rotate_left
          · intro w'
            go_simp
            with_reducible rfl
          rotate_left
          · simp only [Act.put, List.setIfInBounds_toArray, List.set_cons_zero, List.set_cons_succ, i64_w, i32_w]
            rfl
          refine pure_ (i := 4) (N := some 102) (v := ?_) (a' := ?_) #[true, true, true, true, true, false, false, false, false, false, false, false, false, false, false, false, false, false, false, false, false, false] rfl rfl (any_of HT_.out (by kernel_rfl)) (fun _ _ _ h => h) (Or.inl ⟨by rfl, ?_⟩) ?_ ?_
          rotate_left
          · intro w'
            go_simp
            with_reducible rfl
          rotate_left
          · simp only [Act.put, List.setIfInBounds_toArray, List.set_cons_zero, List.set_cons_succ, i64_w, i32_w]
            rfl
          refine pure_ (i := 5) (N := some 103) (v := ?_) (a' := ?_) #[true, true, true, true, true, true, false, false, false, false, false, false, false, false, false, false, false, false, false, false, false, false] rfl rfl (any_of HT_.out (by kernel_rfl)) (fun _ _ _ h => h) (Or.inl ⟨by rfl, ?_⟩) ?_ ?_
          rotate_left
          · intro w'
            go_simp
            with_reducible rfl
          rotate_left
          · simp only [Act.put, List.setIfInBounds_toArray, List.set_cons_zero, List.set_cons_succ, i64_w, i32_w]
            rfl
          refine pure_ (i := 6) (N := some 104) (v := ?_) (a' := ?_) #[true, true, true, true, true, true, true, false, false, false, false, false, false, false, false, false, false, false, false, false, false, false] rfl rfl (any_of HT_.out (by kernel_rfl)) (fun _ _ _ h => h) (Or.inl ⟨by rfl, ?_⟩) ?_ ?_
          rotate_left
          · intro w'
            go_simp
            with_reducible rfl
          rotate_left
          · simp only [Act.put, List.setIfInBounds_toArray, List.set_cons_zero, List.set_cons_succ, i64_w, i32_w]
            rfl
          refine pure_ (i := 7) (N := some 105) (v := ?_) (a' := ?_) #[true, true, true, true, true, true, true, true, false, false, false, false, false, false, false, false, false, false, false, false, false, false] rfl rfl (any_of HT_.out (by kernel_rfl)) (fun _ _ _ h => h) (Or.inl ⟨by rfl, ?_⟩) ?_ ?_
          rotate_left
          · intro w'
            go_simp
            with_reducible rfl
          rotate_left
          · simp only [Act.put, List.setIfInBounds_toArray, List.set_cons_zero, List.set_cons_succ, i64_w, i32_w]
            rfl
          refine pure_ (i := 8) (N := some 106) (v := ?_) (a' := ?_) #[true, true, true, true, true, true, true, true, true, false, false, false, false, false, false, false, false, false, false, false, false, false] rfl rfl (any_of HT_.out (by kernel_rfl)) (fun _ _ _ h => h) (Or.inl ⟨by rfl, ?_⟩) ?_ ?_
          rotate_left
          · intro w'
            go_simp
            with_reducible rfl
          rotate_left
          · simp only [Act.put, List.setIfInBounds_toArray, List.set_cons_zero, List.set_cons_succ, i64_w, i32_w]
            rfl
          refine pure_ (i := 9) (N := some 107) (v := ?_) (a' := ?_) #[true, true, true, true, true, true, true, true, true, true, false, false, false, false, false, false, false, false, false, false, false, false] rfl rfl (any_of HT_.out (by kernel_rfl)) (fun _ _ _ h => h) (Or.inl ⟨by rfl, ?_⟩) ?_ ?_
          rotate_left
          · intro w'
            go_simp
            with_reducible rfl
          rotate_left
          · simp only [Act.put, List.setIfInBounds_toArray, List.set_cons_zero, List.set_cons_succ, i64_w, i32_w]
            rfl
          refine pure_ (i := 12) (N := some 110) (v := ?_) (a' := ?_) #[true, true, true, true, true, true, true, true, true, true, false, false, true, false, false, false, false, false, false, false, false, false] rfl rfl (any_of HT_.out (by kernel_rfl)) (fun _ _ _ h => h) (Or.inl ⟨by rfl, ?_⟩) ?_ ?_
          rotate_left
          · intro w'
            go_simp
            with_reducible rfl
          rotate_left
          · simp only [Act.put, List.setIfInBounds_toArray, List.set_cons_zero, List.set_cons_succ, i64_w, i32_w]
            rfl
          refine pure_ (i := 13) (N := some 111) (v := ?_) (a' := ?_) #[true, true, true, true, true, true, true, true, true, true, false, false, true, true, false, false, false, false, false, false, false, false] rfl rfl (any_of HT_.out (by kernel_rfl)) (fun _ _ _ h => h) (Or.inl ⟨by rfl, ?_⟩) ?_ ?_
          rotate_left
          · intro w'
            go_simp
            with_reducible rfl
          rotate_left
          · simp only [Act.put, List.setIfInBounds_toArray, List.set_cons_zero, List.set_cons_succ, i64_w, i32_w]
            rfl
          refine pure_ (i := 14) (N := some 112) (v := ?_) (a' := ?_) #[true, true, true, true, true, true, true, true, true, true, false, false, true, true, true, false, false, false, false, false, false, false] rfl rfl (any_of HT_.out (by kernel_rfl)) (fun _ _ _ h => h) (Or.inl ⟨by rfl, ?_⟩) ?_ ?_
          rotate_left
          · intro w'
            go_simp
            with_reducible rfl
          rotate_left
          · simp only [Act.put, List.setIfInBounds_toArray, List.set_cons_zero, List.set_cons_succ, i64_w, i32_w]
            rfl
          refine pure_ (i := 15) (N := some 113) (v := ?_) (a' := ?_) #[true, true, true, true, true, true, true, true, true, true, false, false, true, true, true, true, false, false, false, false, false, false] rfl rfl (any_of HT_.out (by kernel_rfl)) (fun _ _ _ h => h) (Or.inl ⟨by rfl, ?_⟩) ?_ ?_
          rotate_left
          · intro w'
            go_simp
            with_reducible rfl
          rotate_left
          · simp only [Act.put, List.setIfInBounds_toArray, List.set_cons_zero, List.set_cons_succ, i64_w, i32_w]
            rfl
          refine pure_ (i := 16) (N := some 114) (v := ?_) (a' := ?_) #[true, true, true, true, true, true, true, true, true, true, false, false, true, true, true, true, true, false, false, false, false, false] rfl rfl (any_of HT_.out (by kernel_rfl)) (fun _ _ _ h => h) (Or.inl ⟨by rfl, ?_⟩) ?_ ?_
          rotate_left
          · intro w'
            go_simp
            with_reducible rfl
          rotate_left
          · simp only [Act.put, List.setIfInBounds_toArray, List.set_cons_zero, List.set_cons_succ, i64_w, i32_w]
            rfl
          refine pure_ (i := 17) (N := some 115) (v := ?_) (a' := ?_) #[true, true, true, true, true, true, true, true, true, true, false, false, true, true, true, true, true, true, false, false, false, false] rfl rfl (any_of HT_.out (by kernel_rfl)) (fun _ _ _ h => h) (Or.inl ⟨by rfl, ?_⟩) ?_ ?_
          rotate_left
          · intro w'
            go_simp
            with_reducible rfl
          rotate_left
          · simp only [Act.put, List.setIfInBounds_toArray, List.set_cons_zero, List.set_cons_succ, i64_w, i32_w]
            rfl
          refine pure_ (i := 18) (N := some 116) (v := ?_) (a' := ?_) #[true, true, true, true, true, true, true, true, true, true, false, false, true, true, true, true, true, true, true, false, false, false] rfl rfl (any_of HT_.out (by kernel_rfl)) (fun _ _ _ h => h) (Or.inl ⟨by rfl, ?_⟩) ?_ ?_
          rotate_left
          · intro w'
            go_simp
            with_reducible rfl
          rotate_left
          · simp only [Act.put, List.setIfInBounds_toArray, List.set_cons_zero, List.set_cons_succ, i64_w, i32_w]
            rfl
          refine one_ (i := 10) (N := some 108) #[true, true, true, true, true, true, true, true, true, true, true, false, true, true, true, true, true, true, true, false, false, false] rfl rfl (one_of HT_.out (by kernel_rfl)) (by decide) (fun K hK => ?_)
          refine goes_ Try.func142 (by kernel_rfl) rfl #[.slice A64 ((l0.take ((wrap64 ((wrap64 (x6_2 + 9)) + t122)) : Int).toNat).drop ((ji51) : Int).toNat).length (c0 - (ji51).toNat)] (by rfl) rfl rfl (by (try simp only [List.map_toArray, List.map_cons, List.map_nil]); first | done | (rw [show ((l0.take ((wrap64 ((wrap64 (x6_2 + 9)) + t122)) : Int).toNat).drop ((ji51) : Int).toNat).length = ((wrap64 ((wrap64 (x6_2 + 9)) + t122)).toNat - (ji51).toNat) from (by rw [List.length_drop, List.length_take]; have h_ : ((wrap64 ((wrap64 (x6_2 + 9)) + t122)) : Int) ≤ (l0.length : Int) := of_decide_eq_true (by first | (with_reducible assumption) | assumption); omega)] <;> rfl) | (simp only [hji51]; rfl) | rfl | (simp only [List.length_drop, List.length_take]; rfl)) ?_
          with_reducible refine (spec_l5Int.calls k2 _ _ ((l0.take ((wrap64 ((wrap64 (x6_2 + 9)) + t122)) : Int).toNat).drop ((ji51) : Int).toNat) t126 _ ?side1 ?side2 A55.out).mono ?_
          (case side1 => repeat (first | exact (Kd.C_below HR125.out HB.out) | (with_reducible refine Kd.C_alloc ?_ _) | (with_reducible refine Kd.C_drewN ?_ _) | (with_reducible refine Kd.C_drew ?_)))
          (case side2 => exact HC125.out)
          rintro e w' ⟨rfl, ⟨nd, rfl⟩⟩
          refine ⟨_, rfl, ?_⟩
          refine hK.out _ _ trivial (fun hHeld => ?_)
          clear hK K
          refine norm_ (a' := ?_) ?_ ?_
          rotate_left
          · show Act.put _ (some 108) _ = _
            simp only [Act.put, List.setIfInBounds_toArray, List.set_cons_zero, List.set_cons_succ, i64_w, i32_w]
            rfl
          refine pure_ (i := 11) (N := some 109) (v := ?_) (a' := ?_) #[true, true, true, true, true, true, true, true, true, true, true, true, true, true, true, true, true, true, true, false, false, false] rfl rfl (any_of HT_.out (by kernel_rfl)) (fun _ _ _ h => h) (Or.inl ⟨by rfl, ?_⟩) ?_ ?_
          rotate_left
          · intro w'
            go_simp
            with_reducible rfl
          rotate_left
          · simp only [Act.put, List.setIfInBounds_toArray, List.set_cons_zero, List.set_cons_succ, i64_w, i32_w]
            rfl
          refine one_ (i := 19) (N := some 117) #[true, true, true, true, true, true, true, true, true, true, true, true, true, true, true, true, true, true, true, true, false, false] rfl rfl (one_of HT_.out (by kernel_rfl)) (by decide) (fun K hK => ?_)
          refine goes_ Try.func143 (by kernel_rfl) rfl #[.slice A65 ((l0.take ((ji51) : Int).toNat).drop (x6_2 : Int).toNat).length (c0 - x6_2.toNat)] (by rfl) rfl rfl (by (try simp only [List.map_toArray, List.map_cons, List.map_nil]); first | done | (rw [show ((l0.take ((ji51) : Int).toNat).drop (x6_2 : Int).toNat).length = ((ji51).toNat - x6_2.toNat) from (by rw [List.length_drop, List.length_take]; have h_ : ((ji51) : Int) ≤ (l0.length : Int) := of_decide_eq_true (by first | (with_reducible assumption) | assumption); omega)] <;> rfl) | (simp only [hji51]; rfl) | rfl | (simp only [List.length_drop, List.length_take]; rfl)) ?_
          with_reducible refine (spec_Crc.calls k2 _ _ ((l0.take ((ji51) : Int).toNat).drop (x6_2 : Int).toNat) t128 _ ?side1 ?side2 A59.out).mono ?_
          (case side1 => repeat (first | exact (Kd.C_below HR127.out (by repeat (first | (with_reducible first | exact HB.out | apply below_alloc | apply pw_below_drewN | apply below_drew1 | refine below_set ?_ GE111.out | refine below_set ?_ GE119.out) | exact HB.out))) | (with_reducible refine Kd.C_alloc ?_ _) | (with_reducible refine Kd.C_drewN ?_ _) | (with_reducible refine Kd.C_drew ?_)))
          (case side2 => exact HC127.out)
          rintro e w' ⟨rfl, ⟨nd, rfl⟩⟩
          refine ⟨_, rfl, ?_⟩
          refine hK.out _ _ trivial (fun hHeld => ?_)
          clear hK K
          refine norm_ (a' := ?_) ?_ ?_
          rotate_left
          · show Act.put _ (some 117) _ = _
            simp only [Act.put, List.setIfInBounds_toArray, List.set_cons_zero, List.set_cons_succ, i64_w, i32_w]
            rfl
          refine pure_ (i := 20) (N := some 118) (v := ?_) (a' := ?_) #[true, true, true, true, true, true, true, true, true, true, true, true, true, true, true, true, true, true, true, true, true, false] rfl rfl (any_of HT_.out (by kernel_rfl)) (fun _ _ _ h => h) (Or.inl ⟨by rfl, ?_⟩) ?_ ?_
          rotate_left
          · intro w'
            go_simp
            with_reducible rfl
          rotate_left
          · simp only [Act.put, List.setIfInBounds_toArray, List.set_cons_zero, List.set_cons_succ, i64_w, i32_w]
            rfl
          refine pure_ (i := 21) (N := some 97) (v := ?_) (a' := ?_) #[true, true, true, true, true, true, true, true, true, true, true, true, true, true, true, true, true, true, true, true, true, true] rfl rfl (any_of HT_.out (by kernel_rfl)) (fun _ _ _ h => h) (Or.inl ⟨by rfl, ?_⟩) ?_ ?_
          rotate_left
          · intro w'
            go_simp
            with_reducible rfl
          rotate_left
          · simp only [Act.put, List.setIfInBounds_toArray, List.set_cons_zero, List.set_cons_succ, i64_w, i32_w]
            rfl
          refine done_ (done_of HT_.out (by kernel_rfl)) ?_
          go_upto_region 29 with (fail)
          go_cut [120] (fun v120 wc => ∃ (kq : Nat) (x120_60 : Bool), v120 = .bool x120_60 ∧ Aside0 (spec_ReadParts.j2 kq l0 x6_2 t122 (Go.bits .and .i64 (wrap64 (rd l0 x6_2)) 127) (decide ((rd l0 x6_2) ≥ 128)) x120_60 0 (wrap64 (8 * (wrap64 (rd l0 4)))) (wrap64 (8 * (wrap64 (rd l0 5)))) x120003_2 x120004_2 x120005_2 = some (r1, r2, r3, r4, r5, r6)) ∧ Aside0 (kq ≤ k2) ∧ Aside0 (Kd.R Kd.bool 4 wc w.heap.size (fun _ => True) u120003 x120003_2) ∧ Aside0 (Kd.R (Kd.int .i64) 3 wc w.heap.size (fun _ => True) u120004 x120004_2) ∧ Aside0 (Kd.S (Kd.slice 5 (Kd.int .u8)) 51 wc w.heap.size (fun _ => True) u120005 x120005_2) ∧ Aside0 (wc.heap[gb111]? = some (.cells #[.int .i64 x112000_2, .int .i64 x112001_2, .int .i64 x112002_2, (.slice none 0 0), (.slice none 0 0), (.slice none 0 0)] 94 (0, 0))) ∧ Aside0 (wc.heap[gb119]? = some (.cells #[.int .i64 0, .int .i64 (wrap64 (8 * (wrap64 (rd l0 4)))), .int .i64 (wrap64 (8 * (wrap64 (rd l0 5)))), u120003, u120004, u120005] 94 (0, 0))) ∧ Aside0 (Below w.heap.size w wc))
          case first =>
            have H := HC61.out
            clear HC61
            by_cases c66 : (x120005_2.length : Int) = 0
            · rw [if_pos c66] at H
              have c66b0 : ((x120005_2.length : Int) == 0) = true := beq_iff_eq.mpr c66
              have c66b1 : ((x120005_2.length : Int) != 0) = false := bne_eq_false_iff_eq.mpr c66
              clear c66
              (first | rw [c66b0] | (simp only [i64_w, i32_w]; rw [c66b0]) | skip)
              have H' := Aside0.mk H
              clear H
              have hnb67 := NB119_111.out
              have hnc67 := NB111_119.out
              have hcz68_0 : w63.cell? ⟨gb119, 0, none⟩ = some (.int .i64 0) := (blk_cell BK119.out 0).trans rfl
              have hcz68_1 : w63.cell? ⟨gb119, 1, none⟩ = some (.int .i64 (wrap64 (8 * (wrap64 (rd l0 4))))) := (blk_cell BK119.out 1).trans rfl
              have hcz68_2 : w63.cell? ⟨gb119, 2, none⟩ = some (.int .i64 (wrap64 (8 * (wrap64 (rd l0 5))))) := (blk_cell BK119.out 2).trans rfl
              have hcz68_3 : w63.cell? ⟨gb119, 3, none⟩ = some (u120003) := (blk_cell BK119.out 3).trans rfl
              have hcz68_4 : w63.cell? ⟨gb119, 4, none⟩ = some (u120004) := (blk_cell BK119.out 4).trans rfl
              have hcz68_5 : w63.cell? ⟨gb119, 5, none⟩ = some (u120005) := (blk_cell BK119.out 5).trans rfl
              have hfz68_0 := blk_frozen BK119.out 0
              have hfz68_1 := blk_frozen BK119.out 1
              have hfz68_2 := blk_frozen BK119.out 2
              have hfz68_3 := blk_frozen BK119.out 3
              have hfz68_4 := blk_frozen BK119.out 4
              have hfz68_5 := blk_frozen BK119.out 5
              obtain ⟨Ao69, co69, eo69⟩ := Kd.S_slice HO_120005.out
              subst eo69
              go_wp2
              go_meet
              case rel => exact ⟨_, (!(decide ((rd l0 x6_2) ≥ 128))), (by first | rfl | (simp; done) | (simp [*]; done)), H', ⟨by have := HK1.out; have := HK2.out; first | omega | exact Nat.le_refl _⟩, ⟨by (with_reducible repeat (first | apply Kd.R_alloc | apply Kd.R_drewN | apply Kd.R_drew)); exact HO_120003.out⟩, ⟨by (with_reducible repeat (first | apply Kd.R_alloc | apply Kd.R_drewN | apply Kd.R_drew)); exact HO_120004.out⟩, ⟨by (with_reducible repeat (first | apply Kd.S_alloc | apply Kd.S_drewN | apply Kd.S_drew)); exact HO_120005.out⟩, ⟨by (with_reducible repeat (first | refine blk_drewN ?_ _ | refine blk_drew ?_ | refine blk_alloc ?_ _)); exact BK111.out⟩, ⟨by (with_reducible repeat (first | refine blk_drewN ?_ _ | refine blk_drew ?_ | refine blk_alloc ?_ _)); exact BK119.out⟩, ⟨by repeat (first | (with_reducible first | exact HB.out | apply below_alloc | apply pw_below_drewN | apply below_drew1 | refine below_set ?_ GE111.out | refine below_set ?_ GE119.out) | exact HB.out)⟩⟩
            rw [if_neg c66] at H
            have c66b0 : ((x120005_2.length : Int) == 0) = false := beq_eq_false_iff_ne.mpr c66
            have c66b1 : ((x120005_2.length : Int) != 0) = true := bne_iff_ne.mpr c66
            have c66b2 : ¬ (x120005_2 = []) := fun h_ => c66 (by rw [h_]; rfl)
            (first | rw [c66b0] | (simp only [i64_w, i32_w]; rw [c66b0]) | skip)
            have H' := Aside0.mk H
            clear H
            have hnb70 := NB119_111.out
            have hnc70 := NB111_119.out
            have hcz71_0 : w63.cell? ⟨gb119, 0, none⟩ = some (.int .i64 0) := (blk_cell BK119.out 0).trans rfl
            have hcz71_1 : w63.cell? ⟨gb119, 1, none⟩ = some (.int .i64 (wrap64 (8 * (wrap64 (rd l0 4))))) := (blk_cell BK119.out 1).trans rfl
            have hcz71_2 : w63.cell? ⟨gb119, 2, none⟩ = some (.int .i64 (wrap64 (8 * (wrap64 (rd l0 5))))) := (blk_cell BK119.out 2).trans rfl
            have hcz71_3 : w63.cell? ⟨gb119, 3, none⟩ = some (u120003) := (blk_cell BK119.out 3).trans rfl
            have hcz71_4 : w63.cell? ⟨gb119, 4, none⟩ = some (u120004) := (blk_cell BK119.out 4).trans rfl
            have hcz71_5 : w63.cell? ⟨gb119, 5, none⟩ = some (u120005) := (blk_cell BK119.out 5).trans rfl
            have hfz71_0 := blk_frozen BK119.out 0
            have hfz71_1 := blk_frozen BK119.out 1
            have hfz71_2 := blk_frozen BK119.out 2
            have hfz71_3 := blk_frozen BK119.out 3
            have hfz71_4 := blk_frozen BK119.out 4
            have hfz71_5 := blk_frozen BK119.out 5
            obtain ⟨Ao72, co72, eo72⟩ := Kd.S_slice HO_120005.out
            subst eo72
            go_wp2
            go_meet
            case rel => exact ⟨_, (false), (by first | rfl | (simp; done) | (simp [*]; done)), H', ⟨by have := HK1.out; have := HK2.out; first | omega | exact Nat.le_refl _⟩, ⟨by (with_reducible repeat (first | apply Kd.R_alloc | apply Kd.R_drewN | apply Kd.R_drew)); exact HO_120003.out⟩, ⟨by (with_reducible repeat (first | apply Kd.R_alloc | apply Kd.R_drewN | apply Kd.R_drew)); exact HO_120004.out⟩, ⟨by (with_reducible repeat (first | apply Kd.S_alloc | apply Kd.S_drewN | apply Kd.S_drew)); exact HO_120005.out⟩, ⟨by (with_reducible repeat (first | refine blk_drewN ?_ _ | refine blk_drew ?_ | refine blk_alloc ?_ _)); exact BK111.out⟩, ⟨by (with_reducible repeat (first | refine blk_drewN ?_ _ | refine blk_drew ?_ | refine blk_alloc ?_ _)); exact BK119.out⟩, ⟨by repeat (first | (with_reducible first | exact HB.out | apply below_alloc | apply pw_below_drewN | apply below_drew1 | refine below_set ?_ GE111.out | refine below_set ?_ GE119.out) | exact HB.out)⟩⟩
          case rest =>
            clear HC61
            try clear c1
            try clear p1
            try clear q1
            try clear hx1
            try clear qi1
            try clear c2
            try clear c2b0
            try clear c2b1
            try clear c2b2
            try clear p2
            try clear c3
            try clear c4
            try clear c5
            try clear c6
            try clear p6
            try clear c7
            try clear c9
            try clear c9b0
            try clear c10
            try clear c10b0
            try clear c11
            try clear c11b0
            try clear p11
            try clear q11
            try clear hx11
            try clear qi11
            try clear c12
            try clear c12b0
            try clear p12
            try clear q12
            try clear hx12
            try clear c14
            try clear c14b0
            try clear c15
            try clear c15b0
            try clear c15b1
            try clear c17
            try clear c17b0
            try clear c17b1
            try clear c17b2
            try clear c19
            try clear c19b0
            try clear c19b1
            try clear c19b2
            try clear c20
            try clear c20b0
            try clear c20b1
            try clear c20b2
            try clear c22
            try clear c31
            try clear c33
            try clear c33b0
            try clear c34
            try clear c34b0
            try clear c35
            try clear c38
            try clear c38b0
            try clear c38b1
            try clear c39
            try clear c39b0
            try clear c39b1
            try clear c40
            try clear c40b0
            try clear c40b1
            try clear c42
            try clear c42b0
            try clear c44
            try clear c46
            try clear c46b0
            try clear c47
            try clear c47b0
            try clear c49
            try clear c52
            try clear c52b0
            try clear c52b1
            try clear c53
            try clear c53b0
            try clear c53b1
            try clear c54
            try clear c54b0
            try clear c54b1
            try clear c56
            try clear c56b0
            try clear c57
            try clear c57b0
            try clear c57b1
            try clear c58
            try clear c58b0
            try clear c58b1
            try clear c60
            try clear c60b0
            try clear c60b1
            try clear p64
            try clear c66
            try clear c66b0
            try clear c66b1
            try clear c66b2
            try clear c67
            try clear c70
            try clear hcz13_0
            try clear hcz13_1
            try clear hcz13_2
            try clear hcz13_3
            try clear hcz13_4
            try clear hcz13_5
            try clear hcz16_0
            try clear hcz16_1
            try clear hcz16_2
            try clear hcz16_3
            try clear hcz16_4
            try clear hcz16_5
            try clear hcz18_0
            try clear hcz18_1
            try clear hcz18_2
            try clear hcz18_3
            try clear hcz18_4
            try clear hcz18_5
            try clear hcz32_0
            try clear hcz32_1
            try clear hcz32_2
            try clear hcz32_3
            try clear hcz32_4
            try clear hcz32_5
            try clear hcz36_0
            try clear hcz36_1
            try clear hcz36_2
            try clear hcz36_3
            try clear hcz36_4
            try clear hcz36_5
            try clear hcz45_0
            try clear hcz45_1
            try clear hcz45_2
            try clear hcz45_3
            try clear hcz45_4
            try clear hcz45_5
            try clear hcz4_0
            try clear hcz4_1
            try clear hcz4_2
            try clear hcz4_3
            try clear hcz4_4
            try clear hcz4_5
            try clear hcz50_0
            try clear hcz50_1
            try clear hcz50_2
            try clear hcz50_3
            try clear hcz50_4
            try clear hcz50_5
            try clear hcz68_0
            try clear hcz68_1
            try clear hcz68_2
            try clear hcz68_3
            try clear hcz68_4
            try clear hcz68_5
            try clear hcz71_0
            try clear hcz71_1
            try clear hcz71_2
            try clear hcz71_3
            try clear hcz71_4
            try clear hcz71_5
            try clear hfz13_0
            try clear hfz13_1
            try clear hfz13_2
            try clear hfz13_3
            try clear hfz13_4
            try clear hfz13_5
            try clear hfz16_0
            try clear hfz16_1
            try clear hfz16_2
            try clear hfz16_3
            try clear hfz16_4
            try clear hfz16_5
            try clear hfz18_0
            try clear hfz18_1
            try clear hfz18_2
            try clear hfz18_3
            try clear hfz18_4
            try clear hfz18_5
            try clear hfz32_0
            try clear hfz32_1
            try clear hfz32_2
            try clear hfz32_3
            try clear hfz32_4
            try clear hfz32_5
            try clear hfz36_0
            try clear hfz36_1
            try clear hfz36_2
            try clear hfz36_3
            try clear hfz36_4
            try clear hfz36_5
            try clear hfz45_0
            try clear hfz45_1
            try clear hfz45_2
            try clear hfz45_3
            try clear hfz45_4
            try clear hfz45_5
            try clear hfz4_0
            try clear hfz4_1
            try clear hfz4_2
            try clear hfz4_3
            try clear hfz4_4
            try clear hfz4_5
            try clear hfz50_0
            try clear hfz50_1
            try clear hfz50_2
            try clear hfz50_3
            try clear hfz50_4
            try clear hfz50_5
            try clear hfz68_0
            try clear hfz68_1
            try clear hfz68_2
            try clear hfz68_3
            try clear hfz68_4
            try clear hfz68_5
            try clear hfz71_0
            try clear hfz71_1
            try clear hfz71_2
            try clear hfz71_3
            try clear hfz71_4
            try clear hfz71_5
            try clear hx115_0
            try clear hx116_0
            try clear hx117_0
            try clear hx118_0
            try clear hx123_0
            try clear hx124_0
            try clear p1
            try clear p11
            try clear p115
            try clear p116
            try clear p117
            try clear p118
            try clear p123
            try clear p124
            try clear p2
            try clear p6
            try clear q1
            try clear q11
            try clear q115
            try clear q116
            try clear q117
            try clear q118
            try clear q123
            try clear q124
            obtain ⟨kq, x120_60, rfl, HA, HJ60, HO_120003, HO_120004, HO_120005, BK111, BK119, HB⟩ := hcut
            cases kq with
            | zero => exact absurd HA.out (by simp [spec_ReadParts.j2])
            | succ kj60 =>
              have H := HA.out
              clear HA
              simp only [spec_ReadParts.j2] at H
              by_cases c73 : x120_60 = true
              · subst c73
                have H1 : (some (6, 0, 0, ([] : List Bool), ([] : List Int), ([] : List (List Int)))) = some (r1, r2, r3, r4, r5, r6) := by rw [if_pos rfl] at H; exact H
                clear H
                have H := H1
                clear H1
                simp only [Option.some.injEq, Prod.mk.injEq] at H
                obtain ⟨rfl, rfl, rfl, rfl, rfl, rfl⟩ := H
                have hnb74 := NB111_119.out
                have hnc74 := NB119_111.out
                have hcz75_0 : wc.cell? ⟨gb111, 0, none⟩ = some (.int .i64 x112000_2) := (blk_cell BK111.out 0).trans rfl
                have hcz75_1 : wc.cell? ⟨gb111, 1, none⟩ = some (.int .i64 x112001_2) := (blk_cell BK111.out 1).trans rfl
                have hcz75_2 : wc.cell? ⟨gb111, 2, none⟩ = some (.int .i64 x112002_2) := (blk_cell BK111.out 2).trans rfl
                have hcz75_3 : wc.cell? ⟨gb111, 3, none⟩ = some (.slice none 0 0) := (blk_cell BK111.out 3).trans rfl
                have hcz75_4 : wc.cell? ⟨gb111, 4, none⟩ = some (.slice none 0 0) := (blk_cell BK111.out 4).trans rfl
                have hcz75_5 : wc.cell? ⟨gb111, 5, none⟩ = some (.slice none 0 0) := (blk_cell BK111.out 5).trans rfl
                have hfz75_0 := blk_frozen BK111.out 0
                have hfz75_1 := blk_frozen BK111.out 1
                have hfz75_2 := blk_frozen BK111.out 2
                have hfz75_3 := blk_frozen BK111.out 3
                have hfz75_4 := blk_frozen BK111.out 4
                have hfz75_5 := blk_frozen BK111.out 5
                go_wp2
                refine bodyPost_ret (results_cell_row rfl _ _ gb111 94 #[.int .i64 6, .int .i64 0, .int .i64 0, .slice none 0 0, .slice none 0 0, .slice none 0 0] (0, 0) _ rfl (by (with_reducible repeat (first | refine blk_drewN ?_ _ | refine blk_drew ?_ | refine blk_alloc ?_ _)); refine blk_put (cs := #[.int .i64 6, .int .i64 0, .int .i64 0, .slice none 0 0, .slice none 0 0, .slice none 0 0]) ?_ 5 _ rfl; (with_reducible repeat (first | refine blk_drewN ?_ _ | refine blk_drew ?_ | refine blk_alloc ?_ _)); refine blk_put (cs := #[.int .i64 6, .int .i64 0, .int .i64 0, .slice none 0 0, .slice none 0 0, .slice none 0 0]) ?_ 4 _ rfl; (with_reducible repeat (first | refine blk_drewN ?_ _ | refine blk_drew ?_ | refine blk_alloc ?_ _)); refine blk_put (cs := #[.int .i64 6, .int .i64 0, .int .i64 0, .slice none 0 0, .slice none 0 0, .slice none 0 0]) ?_ 3 _ rfl; (with_reducible repeat (first | refine blk_drewN ?_ _ | refine blk_drew ?_ | refine blk_alloc ?_ _)); refine blk_put (cs := #[.int .i64 6, .int .i64 0, .int .i64 x112002_2, .slice none 0 0, .slice none 0 0, .slice none 0 0]) ?_ 2 _ rfl; (with_reducible repeat (first | refine blk_drewN ?_ _ | refine blk_drew ?_ | refine blk_alloc ?_ _)); refine blk_put (cs := #[.int .i64 6, .int .i64 x112001_2, .int .i64 x112002_2, .slice none 0 0, .slice none 0 0, .slice none 0 0]) ?_ 1 _ rfl; (with_reducible repeat (first | refine blk_drewN ?_ _ | refine blk_drew ?_ | refine blk_alloc ?_ _)); refine blk_put (cs := #[.int .i64 x112000_2, .int .i64 x112001_2, .int .i64 x112002_2, .slice none 0 0, .slice none 0 0, .slice none 0 0]) ?_ 0 _ rfl; (with_reducible repeat (first | refine blk_drewN ?_ _ | refine blk_drew ?_ | refine blk_alloc ?_ _)); exact BK111.out) Try.underlying94 rfl (by kernel_rfl)) rfl ?_
                exact ⟨_, _, _, by first | rfl | (simp [errW_none, errW_some] <;> rfl) | (simp only [← hji37, ← hji51]; first | rfl | (simp [errW_none, errW_some] <;> rfl)) | (simp [*, errW_none, errW_some] <;> rfl), by first | exact Kd.R_nil _ _ _ _ _ | exact Kd.N_nil _ _ _ _ _ | exact Kd.V_nil _ _ _ _ _ | exact Kd.Q_nil _ _ _ _ _ | exact Kd.S_nil _ _ _ _ _, by first | exact Kd.R_nil _ _ _ _ _ | exact Kd.N_nil _ _ _ _ _ | exact Kd.V_nil _ _ _ _ _ | exact Kd.Q_nil _ _ _ _ _ | exact Kd.S_nil _ _ _ _ _, by first | exact Kd.S_nil _ _ _ _ _ | exact Kd.N_nil _ _ _ _ _ | exact Kd.V_nil _ _ _ _ _ | exact Kd.Q_nil _ _ _ _ _ | exact Kd.R_nil _ _ _ _ _, by repeat (first | (with_reducible first | exact HB.out | apply below_alloc | apply pw_below_drewN | apply below_drew1 | refine below_set ?_ GE111.out | refine below_set ?_ GE119.out) | exact HB.out)⟩
              replace c73 := Bool.eq_false_iff.mpr c73
              subst c73
              have H1 : (if (x120005_2.length : Int) = 24 then (some (7, 0, 0, ([] : List Bool), ([] : List Int), ([] : List (List Int)))) else (if (wrap64 ((wrap64 ((wrap64 ((x120005_2.length : Int) + 1)) * (wrap64 (8 * (wrap64 (rd l0 4)))))) * (wrap64 (8 * (wrap64 (rd l0 5)))))) > 8192 then (some (7, 0, 0, ([] : List Bool), ([] : List Int), ([] : List (List Int)))) else (if 0 ≤ (wrap64 (x6_2 + 5)) then (if (wrap64 (x6_2 + 5)) ≤ (wrap64 ((wrap64 (x6_2 + 5)) + t122)) then (if (wrap64 ((wrap64 (x6_2 + 5)) + t122)) ≤ (l0.length : Int) then (if ([] : List Int).length + ((l0.take ((wrap64 ((wrap64 (x6_2 + 5)) + t122)) : Int).toNat).drop ((wrap64 (x6_2 + 5)) : Int).toNat).length < 140737488355328 then (if x120005_2.length < 5864062014805 then (if x120003_2.length < 140737488355328 then (if x120004_2.length < 17592186044416 then (spec_ReadParts.l1 kj60 l0 (wrap64 (x6_2 + (wrap64 (9 + t122)))) 0 (wrap64 (8 * (wrap64 (rd l0 4)))) (wrap64 (8 * (wrap64 (rd l0 5)))) (x120003_2 ++ [(decide ((rd l0 x6_2) ≥ 128))]) (x120004_2 ++ [(Go.bits .and .i64 (wrap64 (rd l0 x6_2)) 127)]) (x120005_2 ++ [(([] : List Int) ++ ((l0.take ((wrap64 ((wrap64 (x6_2 + 5)) + t122)) : Int).toNat).drop ((wrap64 (x6_2 + 5)) : Int).toNat))])) else (none)) else (none)) else (none)) else (none)) else (none)) else (none)) else (none)))) = some (r1, r2, r3, r4, r5, r6) := by rw [if_neg (show ¬ (false = true) by decide)] at H; exact H
              clear H
              have H := H1
              clear H1
              by_cases c76 : (x120005_2.length : Int) = 24
              · rw [if_pos c76] at H
                have c76b0 : ((x120005_2.length : Int) == 24) = true := beq_iff_eq.mpr c76
                have c76b1 : ((x120005_2.length : Int) != 24) = false := bne_eq_false_iff_eq.mpr c76
                clear c76
                simp only [Option.some.injEq, Prod.mk.injEq] at H
                obtain ⟨rfl, rfl, rfl, rfl, rfl, rfl⟩ := H
                have hnb77 := NB119_111.out
                have hnc77 := NB111_119.out
                have hcz78_0 : wc.cell? ⟨gb119, 0, none⟩ = some (.int .i64 0) := (blk_cell BK119.out 0).trans rfl
                have hcz78_1 : wc.cell? ⟨gb119, 1, none⟩ = some (.int .i64 (wrap64 (8 * (wrap64 (rd l0 4))))) := (blk_cell BK119.out 1).trans rfl
                have hcz78_2 : wc.cell? ⟨gb119, 2, none⟩ = some (.int .i64 (wrap64 (8 * (wrap64 (rd l0 5))))) := (blk_cell BK119.out 2).trans rfl
                have hcz78_3 : wc.cell? ⟨gb119, 3, none⟩ = some (u120003) := (blk_cell BK119.out 3).trans rfl
                have hcz78_4 : wc.cell? ⟨gb119, 4, none⟩ = some (u120004) := (blk_cell BK119.out 4).trans rfl
                have hcz78_5 : wc.cell? ⟨gb119, 5, none⟩ = some (u120005) := (blk_cell BK119.out 5).trans rfl
                have hfz78_0 := blk_frozen BK119.out 0
                have hfz78_1 := blk_frozen BK119.out 1
                have hfz78_2 := blk_frozen BK119.out 2
                have hfz78_3 := blk_frozen BK119.out 3
                have hfz78_4 := blk_frozen BK119.out 4
                have hfz78_5 := blk_frozen BK119.out 5
                obtain ⟨Ao79, co79, eo79⟩ := Kd.S_slice HO_120005.out
                subst eo79
                have hcz80_0 : wc.cell? ⟨gb111, 0, none⟩ = some (.int .i64 x112000_2) := (blk_cell BK111.out 0).trans rfl
                have hcz80_1 : wc.cell? ⟨gb111, 1, none⟩ = some (.int .i64 x112001_2) := (blk_cell BK111.out 1).trans rfl
                have hcz80_2 : wc.cell? ⟨gb111, 2, none⟩ = some (.int .i64 x112002_2) := (blk_cell BK111.out 2).trans rfl
                have hcz80_3 : wc.cell? ⟨gb111, 3, none⟩ = some (.slice none 0 0) := (blk_cell BK111.out 3).trans rfl
                have hcz80_4 : wc.cell? ⟨gb111, 4, none⟩ = some (.slice none 0 0) := (blk_cell BK111.out 4).trans rfl
                have hcz80_5 : wc.cell? ⟨gb111, 5, none⟩ = some (.slice none 0 0) := (blk_cell BK111.out 5).trans rfl
                have hfz80_0 := blk_frozen BK111.out 0
                have hfz80_1 := blk_frozen BK111.out 1
                have hfz80_2 := blk_frozen BK111.out 2
                have hfz80_3 := blk_frozen BK111.out 3
                have hfz80_4 := blk_frozen BK111.out 4
                have hfz80_5 := blk_frozen BK111.out 5
                go_wp2
                refine bodyPost_ret (results_cell_row rfl _ _ gb111 94 #[.int .i64 7, .int .i64 0, .int .i64 0, .slice none 0 0, .slice none 0 0, .slice none 0 0] (0, 0) _ rfl (by (with_reducible repeat (first | refine blk_drewN ?_ _ | refine blk_drew ?_ | refine blk_alloc ?_ _)); refine blk_put (cs := #[.int .i64 7, .int .i64 0, .int .i64 0, .slice none 0 0, .slice none 0 0, .slice none 0 0]) ?_ 5 _ rfl; (with_reducible repeat (first | refine blk_drewN ?_ _ | refine blk_drew ?_ | refine blk_alloc ?_ _)); refine blk_put (cs := #[.int .i64 7, .int .i64 0, .int .i64 0, .slice none 0 0, .slice none 0 0, .slice none 0 0]) ?_ 4 _ rfl; (with_reducible repeat (first | refine blk_drewN ?_ _ | refine blk_drew ?_ | refine blk_alloc ?_ _)); refine blk_put (cs := #[.int .i64 7, .int .i64 0, .int .i64 0, .slice none 0 0, .slice none 0 0, .slice none 0 0]) ?_ 3 _ rfl; (with_reducible repeat (first | refine blk_drewN ?_ _ | refine blk_drew ?_ | refine blk_alloc ?_ _)); refine blk_put (cs := #[.int .i64 7, .int .i64 0, .int .i64 x112002_2, .slice none 0 0, .slice none 0 0, .slice none 0 0]) ?_ 2 _ rfl; (with_reducible repeat (first | refine blk_drewN ?_ _ | refine blk_drew ?_ | refine blk_alloc ?_ _)); refine blk_put (cs := #[.int .i64 7, .int .i64 x112001_2, .int .i64 x112002_2, .slice none 0 0, .slice none 0 0, .slice none 0 0]) ?_ 1 _ rfl; (with_reducible repeat (first | refine blk_drewN ?_ _ | refine blk_drew ?_ | refine blk_alloc ?_ _)); refine blk_put (cs := #[.int .i64 x112000_2, .int .i64 x112001_2, .int .i64 x112002_2, .slice none 0 0, .slice none 0 0, .slice none 0 0]) ?_ 0 _ rfl; (with_reducible repeat (first | refine blk_drewN ?_ _ | refine blk_drew ?_ | refine blk_alloc ?_ _)); exact BK111.out) Try.underlying94 rfl (by kernel_rfl)) rfl ?_
                exact ⟨_, _, _, by first | rfl | (simp [errW_none, errW_some] <;> rfl) | (simp only [← hji37, ← hji51]; first | rfl | (simp [errW_none, errW_some] <;> rfl)) | (simp [*, errW_none, errW_some] <;> rfl), by first | exact Kd.R_nil _ _ _ _ _ | exact Kd.N_nil _ _ _ _ _ | exact Kd.V_nil _ _ _ _ _ | exact Kd.Q_nil _ _ _ _ _ | exact Kd.S_nil _ _ _ _ _, by first | exact Kd.R_nil _ _ _ _ _ | exact Kd.N_nil _ _ _ _ _ | exact Kd.V_nil _ _ _ _ _ | exact Kd.Q_nil _ _ _ _ _ | exact Kd.S_nil _ _ _ _ _, by first | exact Kd.S_nil _ _ _ _ _ | exact Kd.N_nil _ _ _ _ _ | exact Kd.V_nil _ _ _ _ _ | exact Kd.Q_nil _ _ _ _ _ | exact Kd.R_nil _ _ _ _ _, by repeat (first | (with_reducible first | exact HB.out | apply below_alloc | apply pw_below_drewN | apply below_drew1 | refine below_set ?_ GE111.out | refine below_set ?_ GE119.out) | exact HB.out)⟩
              rw [if_neg c76] at H
              have c76b0 : ((x120005_2.length : Int) == 24) = false := beq_eq_false_iff_ne.mpr c76
              have c76b1 : ((x120005_2.length : Int) != 24) = true := bne_iff_ne.mpr c76
              by_cases c81 : (wrap64 ((wrap64 ((wrap64 ((x120005_2.length : Int) + 1)) * (wrap64 (8 * (wrap64 (rd l0 4)))))) * (wrap64 (8 * (wrap64 (rd l0 5)))))) > 8192
              · rw [if_pos c81] at H
                have c81b0 : decide (8192 < (wrap64 ((wrap64 ((wrap64 ((x120005_2.length : Int) + 1)) * (wrap64 (8 * (wrap64 (rd l0 4)))))) * (wrap64 (8 * (wrap64 (rd l0 5))))))) = true := decide_eq_true c81
                clear c81
                simp only [Option.some.injEq, Prod.mk.injEq] at H
                obtain ⟨rfl, rfl, rfl, rfl, rfl, rfl⟩ := H
                have hnb82 := NB119_111.out
                have hnc82 := NB111_119.out
                have hcz83_0 : wc.cell? ⟨gb119, 0, none⟩ = some (.int .i64 0) := (blk_cell BK119.out 0).trans rfl
                have hcz83_1 : wc.cell? ⟨gb119, 1, none⟩ = some (.int .i64 (wrap64 (8 * (wrap64 (rd l0 4))))) := (blk_cell BK119.out 1).trans rfl
                have hcz83_2 : wc.cell? ⟨gb119, 2, none⟩ = some (.int .i64 (wrap64 (8 * (wrap64 (rd l0 5))))) := (blk_cell BK119.out 2).trans rfl
                have hcz83_3 : wc.cell? ⟨gb119, 3, none⟩ = some (u120003) := (blk_cell BK119.out 3).trans rfl
                have hcz83_4 : wc.cell? ⟨gb119, 4, none⟩ = some (u120004) := (blk_cell BK119.out 4).trans rfl
                have hcz83_5 : wc.cell? ⟨gb119, 5, none⟩ = some (u120005) := (blk_cell BK119.out 5).trans rfl
                have hfz83_0 := blk_frozen BK119.out 0
                have hfz83_1 := blk_frozen BK119.out 1
                have hfz83_2 := blk_frozen BK119.out 2
                have hfz83_3 := blk_frozen BK119.out 3
                have hfz83_4 := blk_frozen BK119.out 4
                have hfz83_5 := blk_frozen BK119.out 5
                obtain ⟨Ao84, co84, eo84⟩ := Kd.S_slice HO_120005.out
                subst eo84
                have hcz85_0 : wc.cell? ⟨gb111, 0, none⟩ = some (.int .i64 x112000_2) := (blk_cell BK111.out 0).trans rfl
                have hcz85_1 : wc.cell? ⟨gb111, 1, none⟩ = some (.int .i64 x112001_2) := (blk_cell BK111.out 1).trans rfl
                have hcz85_2 : wc.cell? ⟨gb111, 2, none⟩ = some (.int .i64 x112002_2) := (blk_cell BK111.out 2).trans rfl
                have hcz85_3 : wc.cell? ⟨gb111, 3, none⟩ = some (.slice none 0 0) := (blk_cell BK111.out 3).trans rfl
                have hcz85_4 : wc.cell? ⟨gb111, 4, none⟩ = some (.slice none 0 0) := (blk_cell BK111.out 4).trans rfl
                have hcz85_5 : wc.cell? ⟨gb111, 5, none⟩ = some (.slice none 0 0) := (blk_cell BK111.out 5).trans rfl
                have hfz85_0 := blk_frozen BK111.out 0
                have hfz85_1 := blk_frozen BK111.out 1
                have hfz85_2 := blk_frozen BK111.out 2
                have hfz85_3 := blk_frozen BK111.out 3
                have hfz85_4 := blk_frozen BK111.out 4
                have hfz85_5 := blk_frozen BK111.out 5
                go_wp2
                refine bodyPost_ret (results_cell_row rfl _ _ gb111 94 #[.int .i64 7, .int .i64 0, .int .i64 0, .slice none 0 0, .slice none 0 0, .slice none 0 0] (0, 0) _ rfl (by (with_reducible repeat (first | refine blk_drewN ?_ _ | refine blk_drew ?_ | refine blk_alloc ?_ _)); refine blk_put (cs := #[.int .i64 7, .int .i64 0, .int .i64 0, .slice none 0 0, .slice none 0 0, .slice none 0 0]) ?_ 5 _ rfl; (with_reducible repeat (first | refine blk_drewN ?_ _ | refine blk_drew ?_ | refine blk_alloc ?_ _)); refine blk_put (cs := #[.int .i64 7, .int .i64 0, .int .i64 0, .slice none 0 0, .slice none 0 0, .slice none 0 0]) ?_ 4 _ rfl; (with_reducible repeat (first | refine blk_drewN ?_ _ | refine blk_drew ?_ | refine blk_alloc ?_ _)); refine blk_put (cs := #[.int .i64 7, .int .i64 0, .int .i64 0, .slice none 0 0, .slice none 0 0, .slice none 0 0]) ?_ 3 _ rfl; (with_reducible repeat (first | refine blk_drewN ?_ _ | refine blk_drew ?_ | refine blk_alloc ?_ _)); refine blk_put (cs := #[.int .i64 7, .int .i64 0, .int .i64 x112002_2, .slice none 0 0, .slice none 0 0, .slice none 0 0]) ?_ 2 _ rfl; (with_reducible repeat (first | refine blk_drewN ?_ _ | refine blk_drew ?_ | refine blk_alloc ?_ _)); refine blk_put (cs := #[.int .i64 7, .int .i64 x112001_2, .int .i64 x112002_2, .slice none 0 0, .slice none 0 0, .slice none 0 0]) ?_ 1 _ rfl; (with_reducible repeat (first | refine blk_drewN ?_ _ | refine blk_drew ?_ | refine blk_alloc ?_ _)); refine blk_put (cs := #[.int .i64 x112000_2, .int .i64 x112001_2, .int .i64 x112002_2, .slice none 0 0, .slice none 0 0, .slice none 0 0]) ?_ 0 _ rfl; (with_reducible repeat (first | refine blk_drewN ?_ _ | refine blk_drew ?_ | refine blk_alloc ?_ _)); exact BK111.out) Try.underlying94 rfl (by kernel_rfl)) rfl ?_
                exact ⟨_, _, _, by first | rfl | (simp [errW_none, errW_some] <;> rfl) | (simp only [← hji37, ← hji51]; first | rfl | (simp [errW_none, errW_some] <;> rfl)) | (simp [*, errW_none, errW_some] <;> rfl), by first | exact Kd.R_nil _ _ _ _ _ | exact Kd.N_nil _ _ _ _ _ | exact Kd.V_nil _ _ _ _ _ | exact Kd.Q_nil _ _ _ _ _ | exact Kd.S_nil _ _ _ _ _, by first | exact Kd.R_nil _ _ _ _ _ | exact Kd.N_nil _ _ _ _ _ | exact Kd.V_nil _ _ _ _ _ | exact Kd.Q_nil _ _ _ _ _ | exact Kd.S_nil _ _ _ _ _, by first | exact Kd.S_nil _ _ _ _ _ | exact Kd.N_nil _ _ _ _ _ | exact Kd.V_nil _ _ _ _ _ | exact Kd.Q_nil _ _ _ _ _ | exact Kd.R_nil _ _ _ _ _, by repeat (first | (with_reducible first | exact HB.out | apply below_alloc | apply pw_below_drewN | apply below_drew1 | refine below_set ?_ GE111.out | refine below_set ?_ GE119.out) | exact HB.out)⟩
              rw [if_neg c81] at H
              have c81b0 : decide (8192 < (wrap64 ((wrap64 ((wrap64 ((x120005_2.length : Int) + 1)) * (wrap64 (8 * (wrap64 (rd l0 4)))))) * (wrap64 (8 * (wrap64 (rd l0 5))))))) = false := decide_eq_false c81
              clear c81
              obtain ⟨ji86, hji86⟩ : ∃ j_ : Int, (wrap64 (x6_2 + 5)) = j_ := ⟨_, rfl⟩
              have hji51xji86 : wrap64 (ji86 + t122) = ji51 := by rw [← hji86]; exact hji51
              have hji51xji86 : wrap64 (ji86 + t122) = ji51 := by rw [← hji86]; exact hji51
              replace H : (if 0 ≤ (ji86) then (if (ji86) ≤ (ji51) then (if (ji51) ≤ (l0.length : Int) then (if ([] : List Int).length + ((l0.take ((ji51) : Int).toNat).drop ((ji86) : Int).toNat).length < 140737488355328 then (if x120005_2.length < 5864062014805 then (if x120003_2.length < 140737488355328 then (if x120004_2.length < 17592186044416 then (spec_ReadParts.l1 kj60 l0 (wrap64 (x6_2 + (wrap64 (9 + t122)))) 0 (wrap64 (8 * (wrap64 (rd l0 4)))) (wrap64 (8 * (wrap64 (rd l0 5)))) (x120003_2 ++ [(decide ((rd l0 x6_2) ≥ 128))]) (x120004_2 ++ [(Go.bits .and .i64 (wrap64 (rd l0 x6_2)) 127)]) (x120005_2 ++ [(([] : List Int) ++ ((l0.take ((ji51) : Int).toNat).drop ((ji86) : Int).toNat))])) else (none)) else (none)) else (none)) else (none)) else (none)) else (none)) else (none)) = some (r1, r2, r3, r4, r5, r6) := by first | (rw [hji86] at H; simp only [hji51xji86] at H; exact H) | (rw [hji86] at H; exact H) | (simp only [hji86] at H ⊢; exact H)
              (try rw [hji86] at c39b0)
              (try rw [hji86] at c39b1)
              (try rw [hji86] at c39)
              (try rw [hji86] at c40b0)
              (try rw [hji86] at c40b1)
              (try rw [hji86] at c40)
              have hji86w : (IntKind.i64.wrap (x6_2 + 5)) = ji86 := (i64_w _).trans hji86
              by_cases c87 : 0 ≤ (ji86)
              rotate_left
              · rw [if_neg c87] at H
                exact absurd H (by simp)
              rw [if_pos c87] at H
              have c87b0 := eq_true c87
              have c87b1 : decide (0 ≤ (ji86)) = true := decide_eq_true c87
              clear c87
              by_cases c88 : (ji86) ≤ (ji51)
              rotate_left
              · rw [if_neg c88] at H
                exact absurd H (by simp)
              rw [if_pos c88] at H
              have c88b0 := eq_true c88
              have c88b1 : decide ((ji86) ≤ (ji51)) = true := decide_eq_true c88
              by_cases c89 : (ji51) ≤ (l0.length : Int)
              rotate_left
              · rw [if_neg c89] at H
                exact absurd H (by simp)
              rw [if_pos c89] at H
              have c89b0 := eq_true c89
              have c89b1 : decide ((ji51) ≤ (l0.length : Int)) = true := decide_eq_true c89
              by_cases c90 : ([] : List Int).length + ((l0.take ((ji51) : Int).toNat).drop ((ji86) : Int).toNat).length < 140737488355328
              rotate_left
              · rw [if_neg c90] at H
                exact absurd H (by simp)
              rw [if_pos c90] at H
              have LMc90 := Aside0.mk c90
              clear c90
              obtain ⟨y130, hy130⟩ : ∃ y_ : List Int, y_ = (([] : List Int) ++ ((l0.take ((ji51) : Int).toNat).drop ((ji86) : Int).toNat)) := ⟨_, rfl⟩
              replace H : (if x120005_2.length < 5864062014805 then (if x120003_2.length < 140737488355328 then (if x120004_2.length < 17592186044416 then (spec_ReadParts.l1 kj60 l0 (wrap64 (x6_2 + (wrap64 (9 + t122)))) 0 (wrap64 (8 * (wrap64 (rd l0 4)))) (wrap64 (8 * (wrap64 (rd l0 5)))) (x120003_2 ++ [(decide ((rd l0 x6_2) ≥ 128))]) (x120004_2 ++ [(Go.bits .and .i64 (wrap64 (rd l0 x6_2)) 127)]) (x120005_2 ++ [y130])) else (none)) else (none)) else (none)) = some (r1, r2, r3, r4, r5, r6) := by first | (rw [hy130]; with_reducible exact H) | (have H2_ := (Option.bind_some _ _).symm.trans H; rw [hy130]; with_reducible exact H2_) | (have H2_ := (Option.bind_some _ _).symm.trans H; with_reducible exact H2_) | with_reducible exact H | (rw [hy130]; exact H) | exact H
              have Ny130 := Aside0.mk hy130
              clear hy130
              by_cases c91 : x120005_2.length < 5864062014805
              rotate_left
              · rw [if_neg c91] at H
                exact absurd H (by simp)
              rw [if_pos c91] at H
              have LMc91 := Aside0.mk c91
              clear c91
              obtain ⟨y133, hy133⟩ : ∃ y_ : List (List Int), y_ = (x120005_2 ++ [y130]) := ⟨_, rfl⟩
              replace H : (if x120003_2.length < 140737488355328 then (if x120004_2.length < 17592186044416 then (spec_ReadParts.l1 kj60 l0 (wrap64 (x6_2 + (wrap64 (9 + t122)))) 0 (wrap64 (8 * (wrap64 (rd l0 4)))) (wrap64 (8 * (wrap64 (rd l0 5)))) (x120003_2 ++ [(decide ((rd l0 x6_2) ≥ 128))]) (x120004_2 ++ [(Go.bits .and .i64 (wrap64 (rd l0 x6_2)) 127)]) y133) else (none)) else (none)) = some (r1, r2, r3, r4, r5, r6) := by first | (rw [hy133]; with_reducible exact H) | (have H2_ := (Option.bind_some _ _).symm.trans H; rw [hy133]; with_reducible exact H2_) | (have H2_ := (Option.bind_some _ _).symm.trans H; with_reducible exact H2_) | with_reducible exact H | (rw [hy133]; exact H) | exact H
              have Ny133 := Aside0.mk hy133
              clear hy133
              by_cases c92 : x120003_2.length < 140737488355328
              rotate_left
              · rw [if_neg c92] at H
                exact absurd H (by simp)
              rw [if_pos c92] at H
              have LMc92 := Aside0.mk c92
              clear c92
              obtain ⟨y136, hy136⟩ : ∃ y_ : List Bool, y_ = (x120003_2 ++ [(decide ((rd l0 x6_2) ≥ 128))]) := ⟨_, rfl⟩
              replace H : (if x120004_2.length < 17592186044416 then (spec_ReadParts.l1 kj60 l0 (wrap64 (x6_2 + (wrap64 (9 + t122)))) 0 (wrap64 (8 * (wrap64 (rd l0 4)))) (wrap64 (8 * (wrap64 (rd l0 5)))) y136 (x120004_2 ++ [(Go.bits .and .i64 (wrap64 (rd l0 x6_2)) 127)]) y133) else (none)) = some (r1, r2, r3, r4, r5, r6) := by first | (rw [hy136]; with_reducible exact H) | (have H2_ := (Option.bind_some _ _).symm.trans H; rw [hy136]; with_reducible exact H2_) | (have H2_ := (Option.bind_some _ _).symm.trans H; with_reducible exact H2_) | with_reducible exact H | (rw [hy136]; exact H) | exact H
              have Ny136 := Aside0.mk hy136
              clear hy136
              by_cases c93 : x120004_2.length < 17592186044416
              rotate_left
              · rw [if_neg c93] at H
                exact absurd H (by simp)
              rw [if_pos c93] at H
              have LMc93 := Aside0.mk c93
              clear c93
              obtain ⟨y139, hy139⟩ : ∃ y_ : List Int, y_ = (x120004_2 ++ [(Go.bits .and .i64 (wrap64 (rd l0 x6_2)) 127)]) := ⟨_, rfl⟩
              replace H : (spec_ReadParts.l1 kj60 l0 (wrap64 (x6_2 + (wrap64 (9 + t122)))) 0 (wrap64 (8 * (wrap64 (rd l0 4)))) (wrap64 (8 * (wrap64 (rd l0 5)))) y136 y139 y133) = some (r1, r2, r3, r4, r5, r6) := by first | (rw [hy139]; with_reducible exact H) | (have H2_ := (Option.bind_some _ _).symm.trans H; rw [hy139]; with_reducible exact H2_) | (have H2_ := (Option.bind_some _ _).symm.trans H; with_reducible exact H2_) | with_reducible exact H | (rw [hy139]; exact H) | exact H
              have Ny139 := Aside0.mk hy139
              clear hy139
              have H' := Aside0.mk H
              clear H
              have hnb94 := NB119_111.out
              have hnc94 := NB111_119.out
              have hcz95_0 : wc.cell? ⟨gb119, 0, none⟩ = some (.int .i64 0) := (blk_cell BK119.out 0).trans rfl
              have hcz95_1 : wc.cell? ⟨gb119, 1, none⟩ = some (.int .i64 (wrap64 (8 * (wrap64 (rd l0 4))))) := (blk_cell BK119.out 1).trans rfl
              have hcz95_2 : wc.cell? ⟨gb119, 2, none⟩ = some (.int .i64 (wrap64 (8 * (wrap64 (rd l0 5))))) := (blk_cell BK119.out 2).trans rfl
              have hcz95_3 : wc.cell? ⟨gb119, 3, none⟩ = some (u120003) := (blk_cell BK119.out 3).trans rfl
              have hcz95_4 : wc.cell? ⟨gb119, 4, none⟩ = some (u120004) := (blk_cell BK119.out 4).trans rfl
              have hcz95_5 : wc.cell? ⟨gb119, 5, none⟩ = some (u120005) := (blk_cell BK119.out 5).trans rfl
              have hfz95_0 := blk_frozen BK119.out 0
              have hfz95_1 := blk_frozen BK119.out 1
              have hfz95_2 := blk_frozen BK119.out 2
              have hfz95_3 := blk_frozen BK119.out 3
              have hfz95_4 := blk_frozen BK119.out 4
              have hfz95_5 := blk_frozen BK119.out 5
              obtain ⟨Ao96, co96, eo96⟩ := Kd.S_slice HO_120005.out
              subst eo96
              obtain ⟨i097, hi097, _, hsz97, _⟩ := info_parts info5
              obtain ⟨A97, hcut97, hA97, hC97⟩ := print_mid_of (P := Try.prog) (Value.int .u8) 0 51 5 .i64 .i64 Try.underlying51 hi097 hsz97 (some ad117) c0 l0 (ji86) (ji51) (of_decide_eq_true (by first | (with_reducible assumption) | assumption)) (by first | omega | exact of_decide_eq_true (by first | (with_reducible assumption) | assumption)) (of_decide_eq_true (by first | (with_reducible assumption) | assumption)) HC0.out
              have HR129 := Aside0.mk (Kd.C_of_reads (h1 := fun _ => rfl) (hA97 _ (Kd.reads_of_C HR0.out)))
              have HC129 := Aside0.mk hC97
              clear hA97 hC97 hi097 hsz97
              go_wp2_with (first | ((with_reducible refine gate_builtin (b := .append) (xs := #[.tmp 149, .tmp 157]) rfl ?_); (try (refine gate_guard (by rfl) ?_; dsimp only)); at_builtin; refine Kd.R_append_rows (Kd.int .u8) (w0 := w) w.heap.size rfl (.tmp 149) (.tmp 157) 51 5 (.int .u8 0) 1 rfl Try.underlying51 info5 rfl (by decide) (by omega) (.slice none 0 0) ([] : List Int) ((l0.take ((ji51) : Int).toNat).drop ((ji86) : Int).toNat) _ _ _ (fun _ => True) (fun _ => False) rfl rfl ?aO ?aR (fun _ _ h => h) (fun _ h => h.elim) ?aF ?aB ?aS ?aL ?_; (case aR => first | (rw [← show ((l0.take ((ji51) : Int).toNat).drop ((ji86) : Int).toNat).length = ((ji51).toNat - (ji86).toNat) from (by rw [List.length_drop, List.length_take]; have h_ : ((ji51) : Int) ≤ (l0.length : Int) := of_decide_eq_true (by first | (with_reducible assumption) | assumption); omega)]; repeat (first | exact (Kd.C_below HR129.out HB.out) | (with_reducible refine Kd.C_alloc ?_ _) | (with_reducible refine Kd.C_drewN ?_ _) | (with_reducible refine Kd.C_drew ?_))) | (repeat (first | exact (Kd.C_below HR129.out HB.out) | (with_reducible refine Kd.C_alloc ?_ _) | (with_reducible refine Kd.C_drewN ?_ _) | (with_reducible refine Kd.C_drew ?_)))); (case aB => exact (by repeat (first | (with_reducible first | exact HB.out | apply below_alloc | apply pw_below_drewN | apply below_drew1 | refine below_set ?_ GE111.out | refine below_set ?_ GE119.out) | exact HB.out))); (case aF => exact (fun _ _ => trivial)); (case aO => exact ((Kd.R_nil _ _ _ _ (fun _ => True)))); (case aS => exact (below_size (by repeat (first | (with_reducible first | exact HB.out | apply below_alloc | apply pw_below_drewN | apply below_drew1 | refine below_set ?_ GE111.out | refine below_set ?_ GE119.out) | exact HB.out)))); (case aL => have := LMc90.out; have hlx_ := (show ((l0.take ((ji51) : Int).toNat).drop ((ji86) : Int).toNat).length = ((ji51).toNat - (ji86).toNat) from (by rw [List.length_drop, List.length_take]; have h_ : ((ji51) : Int) ≤ (l0.length : Int) := of_decide_eq_true (by first | (with_reducible assumption) | assumption); omega)); omega); intro v131 w98 ho hb hg hat; rw [← Ny130.out] at ho; have n0_ := Aside0.mk (Kd.R_grown (by (with_reducible repeat (first | apply Kd.R_alloc | apply Kd.R_drewN | apply Kd.R_drew)); exact HO_120003.out) hg (fun _ _ => by simp [Value.ownBlock])); have n1_ := Aside0.mk (Kd.R_grown (by (with_reducible repeat (first | apply Kd.R_alloc | apply Kd.R_drewN | apply Kd.R_drew)); exact HO_120004.out) hg (fun _ _ => by simp [Value.ownBlock])); have n2_ := Aside0.mk (Kd.S_after (Kd.S_apart_nil (by (with_reducible repeat (first | apply Kd.S_alloc | apply Kd.S_drewN | apply Kd.S_drew)); exact HO_120005.out)) hg hat); have n3_ := Aside0.mk (blk_grown (g := gb111) (o := .cells #[.int .i64 x112000_2, .int .i64 x112001_2, .int .i64 x112002_2, .slice none 0 0, .slice none 0 0, .slice none 0 0] 94 (0, 0)) (by (with_reducible repeat (first | refine blk_drewN ?_ _ | refine blk_drew ?_ | refine blk_alloc ?_ _)); exact BK111.out) hg (by simp [Value.ownBlock])); have n4_ := Aside0.mk (blk_grown (g := gb119) (o := .cells #[.int .i64 0, .int .i64 (wrap64 (8 * (wrap64 (rd l0 4)))), .int .i64 (wrap64 (8 * (wrap64 (rd l0 5)))), u120003, u120004, .slice Ao96 x120005_2.length co96] 94 (0, 0)) (by (with_reducible repeat (first | refine blk_drewN ?_ _ | refine blk_drew ?_ | refine blk_alloc ?_ _)); exact BK119.out) hg (by simp [Value.ownBlock])); have n5_ := Aside0.mk (hb); have n6_ := Aside0.mk (ho); clear HO_120003; clear HO_120004; clear HO_120005; clear BK111; clear BK119; clear HB; have HO_120003 := n0_; have HO_120004 := n1_; have HO_120005 := n2_; have BK111 := n3_; have BK119 := n4_; have HB := n5_; have HO132 := n6_; clear n0_ n1_ n2_ n3_ n4_ n5_ n6_; clear ho hb hg hat; have hcz99_0 : w98.cell? ⟨gb119, 0, none⟩ = some (.int .i64 0) := (blk_cell BK119.out 0).trans rfl; have hcz99_1 : w98.cell? ⟨gb119, 1, none⟩ = some (.int .i64 (wrap64 (8 * (wrap64 (rd l0 4))))) := (blk_cell BK119.out 1).trans rfl; have hcz99_2 : w98.cell? ⟨gb119, 2, none⟩ = some (.int .i64 (wrap64 (8 * (wrap64 (rd l0 5))))) := (blk_cell BK119.out 2).trans rfl; have hcz99_3 : w98.cell? ⟨gb119, 3, none⟩ = some (u120003) := (blk_cell BK119.out 3).trans rfl; have hcz99_4 : w98.cell? ⟨gb119, 4, none⟩ = some (u120004) := (blk_cell BK119.out 4).trans rfl; have hcz99_5 : w98.cell? ⟨gb119, 5, none⟩ = some (.slice Ao96 x120005_2.length co96) := (blk_cell BK119.out 5).trans rfl; have hfz99_0 := blk_frozen BK119.out 0; have hfz99_1 := blk_frozen BK119.out 1; have hfz99_2 := blk_frozen BK119.out 2; have hfz99_3 := blk_frozen BK119.out 3; have hfz99_4 := blk_frozen BK119.out 4; have hfz99_5 := blk_frozen BK119.out 5; obtain ⟨Ao101, co101, eo101⟩ := Kd.R_slice HO132.out; subst eo101) | ((with_reducible refine gate_builtin (b := .append) (xs := #[.tmp 160, .tmp 162]) rfl ?_); (try (refine gate_guard (by rfl) ?_; dsimp only)); at_builtin; refine Kd.S_append (Kd.slice 5 (Kd.int .u8)) (w0 := w) w.heap.size rfl (.tmp 160) (.tmp 162) 92 51 (.slice none 0 0) 24 rfl Try.underlying92 info51 rfl (by decide) (by omega) (.slice Ao96 x120005_2.length co96) x120005_2 y130 [.slice Ao101 y130.length co101] (fun _ => True) (fun k_ => some k_ = (.slice Ao101 y130.length co101 : Value).ownBlock) rfl rfl ?aP (fun k_ hk_ => ((Kd.R_mono (ok' := fun k_ => ((fun _ => True)) k_ ∧ some k_ ≠ (.slice Ao96 x120005_2.length co96 : Value).ownBlock) (Kd.R_apart' (HO132.out) (Kd.S_typed HO_120005.out) (by decide)) (fun k_ hk => ⟨trivial, hk.2⟩))).1 k_ hk_.symm) ?aF ?aO ?aB ?aS ?aL ?_; (case aP => exact Kd.M_row (Kd.R_mono (Kd.R_tight rfl (Kd.R_mono (ok' := fun k_ => ((fun _ => True)) k_ ∧ some k_ ≠ (.slice Ao96 x120005_2.length co96 : Value).ownBlock) (Kd.R_apart' (HO132.out) (Kd.S_typed HO_120005.out) (by decide)) (fun k_ hk => ⟨trivial, hk.2⟩))) (fun _ h_ => h_))); (case aB => exact (by repeat (first | (with_reducible first | exact HB.out | apply below_alloc | apply pw_below_drewN | apply below_drew1 | refine below_set ?_ GE111.out | refine below_set ?_ GE119.out) | exact HB.out))); (case aF => exact (fun _ _ => trivial)); (case aO => exact (by (with_reducible repeat (first | apply Kd.S_alloc | apply Kd.S_drewN | apply Kd.S_drew)); exact Kd.S_mono HO_120005.out (fun k_ hk => ⟨trivial, fun e_ => hk.2 e_⟩))); (case aS => exact (below_size (by repeat (first | (with_reducible first | exact HB.out | apply below_alloc | apply pw_below_drewN | apply below_drew1 | refine below_set ?_ GE111.out | refine below_set ?_ GE119.out) | exact HB.out)))); (case aL => have := LMc91.out; omega); intro v134 w100 ho hb hg hat; rw [← Ny133.out] at ho; have n0_ := Aside0.mk (Kd.R_over' (by (with_reducible repeat (first | apply Kd.R_alloc | apply Kd.R_drewN | apply Kd.R_drew)); exact HO_120003.out) (Kd.S_typed (by (with_reducible repeat (first | apply Kd.S_alloc | apply Kd.S_drewN | apply Kd.S_drew)); exact HO_120005.out)) (by decide) hg); have n1_ := Aside0.mk (Kd.R_over' (by (with_reducible repeat (first | apply Kd.R_alloc | apply Kd.R_drewN | apply Kd.R_drew)); exact HO_120004.out) (Kd.S_typed (by (with_reducible repeat (first | apply Kd.S_alloc | apply Kd.S_drewN | apply Kd.S_drew)); exact HO_120005.out)) (by decide) hg); have n2_ := Aside0.mk (blk_grown (g := gb111) (o := .cells #[.int .i64 x112000_2, .int .i64 x112001_2, .int .i64 x112002_2, .slice none 0 0, .slice none 0 0, .slice none 0 0] 94 (0, 0)) (by (with_reducible repeat (first | refine blk_drewN ?_ _ | refine blk_drew ?_ | refine blk_alloc ?_ _)); exact BK111.out) hg (Kd.S_ne HO_120005.out BK111.out (by decide))); have n3_ := Aside0.mk (blk_grown (g := gb119) (o := .cells #[.int .i64 0, .int .i64 (wrap64 (8 * (wrap64 (rd l0 4)))), .int .i64 (wrap64 (8 * (wrap64 (rd l0 5)))), u120003, u120004, .slice Ao96 x120005_2.length co96] 94 (0, 0)) (by (with_reducible repeat (first | refine blk_drewN ?_ _ | refine blk_drew ?_ | refine blk_alloc ?_ _)); exact BK119.out) hg (Kd.S_ne HO_120005.out BK119.out (by decide))); have n4_ := Aside0.mk (hb); have n5_ := Aside0.mk (ho); clear HO_120003; clear HO_120004; clear BK111; clear BK119; clear HB; clear HO_120005; clear HO132; have HO_120003 := n0_; have HO_120004 := n1_; have BK111 := n2_; have BK119 := n3_; have HB := n4_; have HO135 := n5_; clear n0_ n1_ n2_ n3_ n4_ n5_; clear ho hb hg hat; obtain ⟨Ao102, co102, eo102⟩ := Kd.S_slice HO135.out; subst eo102; have hcz103_0 : w100.cell? ⟨gb119, 0, none⟩ = some (.int .i64 0) := (blk_cell BK119.out 0).trans rfl; have hcz103_1 : w100.cell? ⟨gb119, 1, none⟩ = some (.int .i64 (wrap64 (8 * (wrap64 (rd l0 4))))) := (blk_cell BK119.out 1).trans rfl; have hcz103_2 : w100.cell? ⟨gb119, 2, none⟩ = some (.int .i64 (wrap64 (8 * (wrap64 (rd l0 5))))) := (blk_cell BK119.out 2).trans rfl; have hcz103_3 : w100.cell? ⟨gb119, 3, none⟩ = some (u120003) := (blk_cell BK119.out 3).trans rfl; have hcz103_4 : w100.cell? ⟨gb119, 4, none⟩ = some (u120004) := (blk_cell BK119.out 4).trans rfl; have hcz103_5 : w100.cell? ⟨gb119, 5, none⟩ = some (.slice Ao96 x120005_2.length co96) := (blk_cell BK119.out 5).trans rfl; have hfz103_0 := blk_frozen BK119.out 0; have hfz103_1 := blk_frozen BK119.out 1; have hfz103_2 := blk_frozen BK119.out 2; have hfz103_3 := blk_frozen BK119.out 3; have hfz103_4 := blk_frozen BK119.out 4; have hfz103_5 := blk_frozen BK119.out 5) | ((with_reducible refine gate_builtin (b := .append) (xs := #[.tmp 166, .tmp 168]) rfl ?_); (try (refine gate_guard (by rfl) ?_; dsimp only)); at_builtin; refine Kd.R_append Kd.bool (w0 := w) w.heap.size rfl (.tmp 166) (.tmp 168) 91 4 (.bool false) 1 rfl Try.underlying91 info4 rfl (by decide) (by omega) u120003 x120003_2 (decide ((rd l0 x6_2) ≥ 128)) [.bool (decide ((rd l0 x6_2) ≥ 128))] (fun _ => True) (fun _ => False) rfl (by first | (go_simp; done) | (go_simp; rfl)) ?aP (fun _ hk => hk.elim) ?aF ?aO ?aB ?aS ?aL ?_; (case aP => exact rfl); (case aB => exact (by repeat (first | (with_reducible first | exact HB.out | apply below_alloc | apply pw_below_drewN | apply below_drew1 | refine below_set ?_ GE111.out | refine below_set ?_ GE119.out) | exact HB.out))); (case aF => exact (fun _ _ => trivial)); (case aO => exact (by (with_reducible repeat (first | apply Kd.R_alloc | apply Kd.R_drewN | apply Kd.R_drew)); exact Kd.R_mono (Kd.R_far (p := ⟨gb119, 5, none⟩) (Kd.R_types HO_120003.out BK119.out (by decide)) (fun _ hk => hk.2) (.slice Ao102 y133.length co102)) (fun _ hk => trivial))); (case aS => exact (below_size (by repeat (first | (with_reducible first | exact HB.out | apply below_alloc | apply pw_below_drewN | apply below_drew1 | refine below_set ?_ GE111.out | refine below_set ?_ GE119.out) | exact HB.out)))); (case aL => have := LMc92.out; omega); intro v137 w104 ho hb hg hat; rw [← Ny136.out] at ho; have n0_ := Aside0.mk (Kd.R_over' (by (with_reducible repeat (first | apply Kd.R_alloc | apply Kd.R_drewN | apply Kd.R_drew)); exact (Kd.R_mono (Kd.R_far (p := ⟨gb119, 5, none⟩) (Kd.R_types HO_120004.out BK119.out (by decide)) (fun _ hk => hk.2) (.slice Ao102 y133.length co102)) (fun _ h_ => h_.1))) (Kd.R_typed (by (with_reducible repeat (first | apply Kd.R_alloc | apply Kd.R_drewN | apply Kd.R_drew)); exact (Kd.R_mono (Kd.R_far (p := ⟨gb119, 5, none⟩) (Kd.R_types HO_120003.out BK119.out (by decide)) (fun _ hk => hk.2) (.slice Ao102 y133.length co102)) (fun _ h_ => h_.1)))) (by decide) hg); have n1_ := Aside0.mk (blk_grown (g := gb111) (o := .cells #[.int .i64 x112000_2, .int .i64 x112001_2, .int .i64 x112002_2, .slice none 0 0, .slice none 0 0, .slice none 0 0] 94 (0, 0)) (by (with_reducible repeat (first | refine blk_drewN ?_ _ | refine blk_drew ?_ | refine blk_alloc ?_ _)); refine blk_far ?_ NB111_119.out _; (with_reducible repeat (first | refine blk_drewN ?_ _ | refine blk_drew ?_ | refine blk_alloc ?_ _)); exact BK111.out) hg (Kd.R_ne HO_120003.out BK111.out (by decide))); have n2_ := Aside0.mk (blk_grown (g := gb119) (o := .cells #[.int .i64 0, .int .i64 (wrap64 (8 * (wrap64 (rd l0 4)))), .int .i64 (wrap64 (8 * (wrap64 (rd l0 5)))), u120003, u120004, .slice Ao102 y133.length co102] 94 (0, 0)) (by (with_reducible repeat (first | refine blk_drewN ?_ _ | refine blk_drew ?_ | refine blk_alloc ?_ _)); refine blk_put (cs := #[.int .i64 0, .int .i64 (wrap64 (8 * (wrap64 (rd l0 4)))), .int .i64 (wrap64 (8 * (wrap64 (rd l0 5)))), u120003, u120004, .slice Ao96 x120005_2.length co96]) ?_ 5 _ rfl; (with_reducible repeat (first | refine blk_drewN ?_ _ | refine blk_drew ?_ | refine blk_alloc ?_ _)); exact BK119.out) hg (Kd.R_ne HO_120003.out BK119.out (by decide))); have n3_ := Aside0.mk (Kd.S_over' (by (with_reducible repeat (first | apply Kd.S_alloc | apply Kd.S_drewN | apply Kd.S_drew)); exact (Kd.S_mono (Kd.S_far (p := ⟨gb119, 5, none⟩) (Kd.S_types HO135.out BK119.out (by decide)) (fun _ hk => hk.2) (.slice Ao102 y133.length co102)) (fun _ h_ => h_.1))) (Kd.R_typed (by (with_reducible repeat (first | apply Kd.R_alloc | apply Kd.R_drewN | apply Kd.R_drew)); exact (Kd.R_mono (Kd.R_far (p := ⟨gb119, 5, none⟩) (Kd.R_types HO_120003.out BK119.out (by decide)) (fun _ hk => hk.2) (.slice Ao102 y133.length co102)) (fun _ h_ => h_.1)))) (by decide) hg); have n4_ := Aside0.mk (hb); have n5_ := Aside0.mk (ho); clear HO_120004; clear BK111; clear BK119; clear HO135; clear HB; clear HO_120003; have HO_120004 := n0_; have BK111 := n1_; have BK119 := n2_; have HO135 := n3_; have HB := n4_; have HO138 := n5_; clear n0_ n1_ n2_ n3_ n4_ n5_; clear ho hb hg hat; obtain ⟨Ao105, co105, eo105⟩ := Kd.R_slice HO138.out; subst eo105; have hcz106_0 : w104.cell? ⟨gb119, 0, none⟩ = some (.int .i64 0) := (blk_cell BK119.out 0).trans rfl; have hcz106_1 : w104.cell? ⟨gb119, 1, none⟩ = some (.int .i64 (wrap64 (8 * (wrap64 (rd l0 4))))) := (blk_cell BK119.out 1).trans rfl; have hcz106_2 : w104.cell? ⟨gb119, 2, none⟩ = some (.int .i64 (wrap64 (8 * (wrap64 (rd l0 5))))) := (blk_cell BK119.out 2).trans rfl; have hcz106_3 : w104.cell? ⟨gb119, 3, none⟩ = some (u120003) := (blk_cell BK119.out 3).trans rfl; have hcz106_4 : w104.cell? ⟨gb119, 4, none⟩ = some (u120004) := (blk_cell BK119.out 4).trans rfl; have hcz106_5 : w104.cell? ⟨gb119, 5, none⟩ = some (.slice Ao102 y133.length co102) := (blk_cell BK119.out 5).trans rfl; have hfz106_0 := blk_frozen BK119.out 0; have hfz106_1 := blk_frozen BK119.out 1; have hfz106_2 := blk_frozen BK119.out 2; have hfz106_3 := blk_frozen BK119.out 3; have hfz106_4 := blk_frozen BK119.out 4; have hfz106_5 := blk_frozen BK119.out 5) | ((with_reducible refine gate_builtin (b := .append) (xs := #[.tmp 172, .tmp 174]) rfl ?_); (try (refine gate_guard (by rfl) ?_; dsimp only)); at_builtin; refine Kd.R_append (Kd.int .i64) (w0 := w) w.heap.size rfl (.tmp 172) (.tmp 174) 22 3 (.int .i64 0) 8 rfl Try.underlying22 info3 rfl (by decide) (by omega) u120004 x120004_2 (Go.bits .and .i64 (wrap64 (rd l0 x6_2)) 127) [.int .i64 (Go.bits .and .i64 (wrap64 (rd l0 x6_2)) 127)] (fun _ => True) (fun _ => False) rfl (by first | (go_simp; done) | (go_simp; rfl)) ?aP (fun _ hk => hk.elim) ?aF ?aO ?aB ?aS ?aL ?_; (case aP => exact rfl); (case aB => exact (by repeat (first | (with_reducible first | exact HB.out | apply below_alloc | apply pw_below_drewN | apply below_drew1 | refine below_set ?_ GE111.out | refine below_set ?_ GE119.out) | exact HB.out))); (case aF => exact (fun _ _ => trivial)); (case aO => exact (by (with_reducible repeat (first | apply Kd.R_alloc | apply Kd.R_drewN | apply Kd.R_drew)); exact Kd.R_mono (Kd.R_far (p := ⟨gb119, 3, none⟩) (Kd.R_types HO_120004.out BK119.out (by decide)) (fun _ hk => hk.2) (.slice Ao105 y136.length co105)) (fun _ hk => trivial))); (case aS => exact (below_size (by repeat (first | (with_reducible first | exact HB.out | apply below_alloc | apply pw_below_drewN | apply below_drew1 | refine below_set ?_ GE111.out | refine below_set ?_ GE119.out) | exact HB.out)))); (case aL => have := LMc93.out; omega); intro v140 w107 ho hb hg hat; rw [← Ny139.out] at ho; have n0_ := Aside0.mk (blk_grown (g := gb111) (o := .cells #[.int .i64 x112000_2, .int .i64 x112001_2, .int .i64 x112002_2, .slice none 0 0, .slice none 0 0, .slice none 0 0] 94 (0, 0)) (by (with_reducible repeat (first | refine blk_drewN ?_ _ | refine blk_drew ?_ | refine blk_alloc ?_ _)); refine blk_far ?_ NB111_119.out _; (with_reducible repeat (first | refine blk_drewN ?_ _ | refine blk_drew ?_ | refine blk_alloc ?_ _)); exact BK111.out) hg (Kd.R_ne HO_120004.out BK111.out (by decide))); have n1_ := Aside0.mk (blk_grown (g := gb119) (o := .cells #[.int .i64 0, .int .i64 (wrap64 (8 * (wrap64 (rd l0 4)))), .int .i64 (wrap64 (8 * (wrap64 (rd l0 5)))), .slice Ao105 y136.length co105, u120004, .slice Ao102 y133.length co102] 94 (0, 0)) (by (with_reducible repeat (first | refine blk_drewN ?_ _ | refine blk_drew ?_ | refine blk_alloc ?_ _)); refine blk_put (cs := #[.int .i64 0, .int .i64 (wrap64 (8 * (wrap64 (rd l0 4)))), .int .i64 (wrap64 (8 * (wrap64 (rd l0 5)))), u120003, u120004, .slice Ao102 y133.length co102]) ?_ 3 _ rfl; (with_reducible repeat (first | refine blk_drewN ?_ _ | refine blk_drew ?_ | refine blk_alloc ?_ _)); exact BK119.out) hg (Kd.R_ne HO_120004.out BK119.out (by decide))); have n2_ := Aside0.mk (Kd.S_over' (by (with_reducible repeat (first | apply Kd.S_alloc | apply Kd.S_drewN | apply Kd.S_drew)); exact (Kd.S_mono (Kd.S_far (p := ⟨gb119, 3, none⟩) (Kd.S_types HO135.out BK119.out (by decide)) (fun _ hk => hk.2) (.slice Ao105 y136.length co105)) (fun _ h_ => h_.1))) (Kd.R_typed (by (with_reducible repeat (first | apply Kd.R_alloc | apply Kd.R_drewN | apply Kd.R_drew)); exact (Kd.R_mono (Kd.R_far (p := ⟨gb119, 3, none⟩) (Kd.R_types HO_120004.out BK119.out (by decide)) (fun _ hk => hk.2) (.slice Ao105 y136.length co105)) (fun _ h_ => h_.1)))) (by decide) hg); have n3_ := Aside0.mk (Kd.R_over' (by (with_reducible repeat (first | apply Kd.R_alloc | apply Kd.R_drewN | apply Kd.R_drew)); exact (Kd.R_mono (Kd.R_far (p := ⟨gb119, 3, none⟩) (Kd.R_types HO138.out BK119.out (by decide)) (fun _ hk => hk.2) (.slice Ao105 y136.length co105)) (fun _ h_ => h_.1))) (Kd.R_typed (by (with_reducible repeat (first | apply Kd.R_alloc | apply Kd.R_drewN | apply Kd.R_drew)); exact (Kd.R_mono (Kd.R_far (p := ⟨gb119, 3, none⟩) (Kd.R_types HO_120004.out BK119.out (by decide)) (fun _ hk => hk.2) (.slice Ao105 y136.length co105)) (fun _ h_ => h_.1)))) (by decide) hg); have n4_ := Aside0.mk (hb); have n5_ := Aside0.mk (ho); clear BK111; clear BK119; clear HO135; clear HO138; clear HB; clear HO_120004; have BK111 := n0_; have BK119 := n1_; have HO135 := n2_; have HO138 := n3_; have HB := n4_; have HO141 := n5_; clear n0_ n1_ n2_ n3_ n4_ n5_; clear ho hb hg hat; obtain ⟨Ao108, co108, eo108⟩ := Kd.R_slice HO141.out; subst eo108; have hcz109_0 : w107.cell? ⟨gb119, 0, none⟩ = some (.int .i64 0) := (blk_cell BK119.out 0).trans rfl; have hcz109_1 : w107.cell? ⟨gb119, 1, none⟩ = some (.int .i64 (wrap64 (8 * (wrap64 (rd l0 4))))) := (blk_cell BK119.out 1).trans rfl; have hcz109_2 : w107.cell? ⟨gb119, 2, none⟩ = some (.int .i64 (wrap64 (8 * (wrap64 (rd l0 5))))) := (blk_cell BK119.out 2).trans rfl; have hcz109_3 : w107.cell? ⟨gb119, 3, none⟩ = some (.slice Ao105 y136.length co105) := (blk_cell BK119.out 3).trans rfl; have hcz109_4 : w107.cell? ⟨gb119, 4, none⟩ = some (u120004) := (blk_cell BK119.out 4).trans rfl; have hcz109_5 : w107.cell? ⟨gb119, 5, none⟩ = some (.slice Ao102 y133.length co102) := (blk_cell BK119.out 5).trans rfl; have hfz109_0 := blk_frozen BK119.out 0; have hfz109_1 := blk_frozen BK119.out 1; have hfz109_2 := blk_frozen BK119.out 2; have hfz109_3 := blk_frozen BK119.out 3; have hfz109_4 := blk_frozen BK119.out 4; have hfz109_5 := blk_frozen BK119.out 5))
              go_roundg kj60
              case measure => have := HK1.out; have := HK2.out; have := HJ60.out; omega
              case rel => exact ⟨(wrap64 (x6_2 + (wrap64 (9 + t122)))), (x112000_2), (x112001_2), (x112002_2), (y136), (y139), (y133), (.slice Ao105 y136.length co105), (.slice Ao108 y139.length co108), (.slice Ao102 y133.length co102), (by first | rfl | (simp; done) | (simp [*]; done)), H', ⟨by have := HK1.out; have := HK2.out; have := HJ60.out; omega⟩, ⟨by (with_reducible repeat (first | apply Kd.R_alloc | apply Kd.R_drewN | apply Kd.R_drew)); exact Kd.R_mono (Kd.R_far (p := ⟨gb119, 4, none⟩) (Kd.R_types HO138.out BK119.out (by decide)) (fun _ hk => hk.2) (.slice Ao108 y139.length co108)) (fun _ hk => trivial)⟩, ⟨by (with_reducible repeat (first | apply Kd.R_alloc | apply Kd.R_drewN | apply Kd.R_drew)); exact Kd.R_mono (Kd.R_far (p := ⟨gb119, 4, none⟩) (Kd.R_types HO141.out BK119.out (by decide)) (fun _ hk => hk.2) (.slice Ao108 y139.length co108)) (fun _ hk => trivial)⟩, ⟨by (with_reducible repeat (first | apply Kd.S_alloc | apply Kd.S_drewN | apply Kd.S_drew)); exact Kd.S_mono (Kd.S_far (p := ⟨gb119, 4, none⟩) (Kd.S_types HO135.out BK119.out (by decide)) (fun _ hk => hk.2) (.slice Ao108 y139.length co108)) (fun _ hk => trivial)⟩, ⟨by (with_reducible repeat (first | refine blk_drewN ?_ _ | refine blk_drew ?_ | refine blk_alloc ?_ _)); refine blk_far ?_ NB111_119.out _; (with_reducible repeat (first | refine blk_drewN ?_ _ | refine blk_drew ?_ | refine blk_alloc ?_ _)); exact BK111.out⟩, ⟨by (with_reducible repeat (first | refine blk_drewN ?_ _ | refine blk_drew ?_ | refine blk_alloc ?_ _)); refine blk_put (cs := #[.int .i64 0, .int .i64 (wrap64 (8 * (wrap64 (rd l0 4)))), .int .i64 (wrap64 (8 * (wrap64 (rd l0 5)))), .slice Ao105 y136.length co105, u120004, .slice Ao102 y133.length co102]) ?_ 4 _ rfl; (with_reducible repeat (first | refine blk_drewN ?_ _ | refine blk_drew ?_ | refine blk_alloc ?_ _)); exact BK119.out⟩, ⟨by repeat (first | (with_reducible first | exact HB.out | apply below_alloc | apply pw_below_drewN | apply below_drew1 | refine below_set ?_ GE111.out | refine below_set ?_ GE119.out) | exact HB.out)⟩⟩


end Go.Proofs.Ytidblealnaicpaa.PFnExactReadParts

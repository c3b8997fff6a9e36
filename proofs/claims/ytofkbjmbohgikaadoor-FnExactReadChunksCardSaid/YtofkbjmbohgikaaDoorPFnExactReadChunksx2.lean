-- written by myprint.py (a program of this session's over the kit's print)
import Derived.Test.YtofkbjmbohgikaaDoorPFnExactReadChunksx0
import Derived.Test.YtofkbjmbohgikaaDoorPFnExactReadChunksx1
namespace Go.Proofs.YtofkbjmbohgikaaDoor.PFnExactReadChunks
open Go.RowKit Go.Proofs.YtofkbjmbohgikaaDoorW.PrintWords Go.Proofs.YtofkbjmbohgikaaDoorW.PrintLast Go.Proofs.YtofkbjmbohgikaaDoorW.PrintMore
attribute [local go_sem] max2_int min2_int max_two min_two max_three min_three max_four min_four   -- for this text's walks alone
set_option linter.unusedVariables false
set_option linter.unusedSimpArgs false

/-! ### spec_ReadChunks: function 5 -/
mutual
def spec_ReadChunks.l0 : Nat → List Int → List Int → Int → Int → Option (Int × (List (S46)))
  | 0, _, _, _, _ => none
  | k + 1, x0, x18, x19, x20 => if x20 < x19 then (if 0 ≤ x20 then (if x20 < (x18.length : Int) then (if x20 < (x0.length : Int) then (if (rd x0 x20) = (rd x18 x20) then (spec_ReadChunks.l0 k x0 x18 x19 (wrap64 (x20 + 1))) else (some (4, ([] : List (S46))))) else (none)) else (none)) else (none)) else (spec_ReadChunks.l1 k x0 ([] : List (S46)) 8)
def spec_ReadChunks.l1 : Nat → List Int → List (S46) → Int → Option (Int × (List (S46)))
  | 0, _, _, _ => none
  | k + 1, x0, x5, x6 => if x6 < (x0.length : Int) then (if (wrap64 ((x0.length : Int) - x6)) < 12 then (some (2, ([] : List (S46)))) else (if 0 ≤ x6 then (if x6 ≤ (wrap64 (x6 + 4)) then (if (wrap64 (x6 + 4)) ≤ (x0.length : Int) then ((spec_l5Int.f k ((x0.take ((wrap64 (x6 + 4)) : Int).toNat).drop (x6 : Int).toNat)).bind fun t117 => (if t117 > (wrap64 ((wrap64 ((x0.length : Int) - x6)) - 12)) then (some (2, ([] : List (S46)))) else (if 0 ≤ (wrap64 (x6 + 4)) then (if (wrap64 (x6 + 4)) ≤ (wrap64 ((wrap64 (x6 + 8)) + t117)) then (if (wrap64 ((wrap64 (x6 + 8)) + t117)) ≤ (x0.length : Int) then ((some ((x0.take ((wrap64 ((wrap64 (x6 + 8)) + t117)) : Int).toNat).drop ((wrap64 (x6 + 4)) : Int).toNat : List Int)).bind fun y118 => (if 4 ≤ (y118.length : Int) then ((spec_l5Name.f k (strOfNums (y118.take 4))).bind fun t128 => (if t128 = true then (if 0 ≤ (wrap64 ((wrap64 (x6 + 8)) + t117)) then (if (wrap64 ((wrap64 (x6 + 8)) + t117)) ≤ (wrap64 ((wrap64 (x6 + 12)) + t117)) then (if (wrap64 ((wrap64 (x6 + 12)) + t117)) ≤ (x0.length : Int) then ((spec_l5Int.f k ((x0.take ((wrap64 ((wrap64 (x6 + 12)) + t117)) : Int).toNat).drop ((wrap64 ((wrap64 (x6 + 8)) + t117)) : Int).toNat)).bind fun t134 => ((spec_Crc.f k y118).bind fun t135 => (if ((t134) % 4294967296) = t135 then ((some (y118.drop 4 : List Int)).bind fun y136 => (if ([] : List Int).length + y136.length < 140737488355328 then (if x5.length < 3518437208883 then (spec_ReadChunks.l1 k x0 (x5 ++ [(⟨strOfNums (y118.take 4), (([] : List Int) ++ y136)⟩ : S46)]) (wrap64 (x6 + (wrap64 (12 + t117))))) else (none)) else (none))) else (some (3, ([] : List (S46))))))) else (none)) else (none)) else (none)) else (some (4, ([] : List (S46)))))) else (none))) else (none)) else (none)) else (none)))) else (none)) else (none)) else (none))) else (some (0, x5))
end
def spec_ReadChunks.f (k : Nat) (l0 : List Int) : Option (Int × (List (S46))) := if (l0.length : Int) > 60000 then (some (1, ([] : List (S46)))) else (if (l0.length : Int) < 8 then (some (2, ([] : List (S46)))) else ((spec_l5Mark.f).bind fun t107 => (spec_ReadChunks.l0 k l0 t107 (t107.length : Int) 0)))
theorem spec_ReadChunks.mono_l : ∀ k, (∀ y0 y1 y2 y3, LeO (spec_ReadChunks.l0 k y0 y1 y2 y3) (spec_ReadChunks.l0 (k + 1) y0 y1 y2 y3)) ∧ (∀ y0 y1 y2, LeO (spec_ReadChunks.l1 k y0 y1 y2) (spec_ReadChunks.l1 (k + 1) y0 y1 y2))
  | 0 => ⟨fun _ _ _ _ r h => by simp [spec_ReadChunks.l0] at h, fun _ _ _ r h => by simp [spec_ReadChunks.l1] at h⟩
  | k + 1 => by
    obtain ⟨ih0, ih1⟩ := spec_ReadChunks.mono_l k
    refine ⟨?_, ?_⟩
    · intro y0 y1 y2 y3
      unfold spec_ReadChunks.l0
      repeat' first
      | (with_reducible exact ih0 _ _ _ _)
      | (with_reducible exact ih1 _ _ _)
      | (with_reducible exact spec_Crc.mono _ _)
      | (with_reducible exact spec_l5Int.mono _ _)
      | (with_reducible exact spec_l5Name.mono _ _)
      | (with_reducible exact LeO.refl _)
      | (with_reducible exact LeO.none _)
      | (with_reducible refine LeO.ite ?_ ?_)
      | (with_reducible refine LeO.bind ?_ (fun _ => ?_))
      | exact ih0 _ _ _ _
      | exact ih1 _ _ _
      | exact spec_Crc.mono _ _
      | exact spec_l5Int.mono _ _
      | exact spec_l5Name.mono _ _
      | exact LeO.none _
      | refine LeO.ite ?_ ?_
      | refine LeO.bind ?_ (fun _ => ?_)
    · intro y0 y1 y2
      unfold spec_ReadChunks.l1
      repeat' first
      | (with_reducible exact ih0 _ _ _ _)
      | (with_reducible exact ih1 _ _ _)
      | (with_reducible exact spec_Crc.mono _ _)
      | (with_reducible exact spec_l5Int.mono _ _)
      | (with_reducible exact spec_l5Name.mono _ _)
      | (with_reducible exact LeO.refl _)
      | (with_reducible exact LeO.none _)
      | (with_reducible refine LeO.ite ?_ ?_)
      | (with_reducible refine LeO.bind ?_ (fun _ => ?_))
      | exact ih0 _ _ _ _
      | exact ih1 _ _ _
      | exact spec_Crc.mono _ _
      | exact spec_l5Int.mono _ _
      | exact spec_l5Name.mono _ _
      | exact LeO.none _
      | refine LeO.ite ?_ ?_
      | refine LeO.bind ?_ (fun _ => ?_)
theorem spec_ReadChunks.mono : ∀ a0 k, LeO (spec_ReadChunks.f k a0) (spec_ReadChunks.f (k + 1) a0) := by
  intro a0 k
  obtain ⟨ih0, ih1⟩ := spec_ReadChunks.mono_l k
  unfold spec_ReadChunks.f
  repeat' first
      | (with_reducible exact ih0 _ _ _ _)
      | (with_reducible exact ih1 _ _ _)
      | (with_reducible exact spec_Crc.mono _ _)
      | (with_reducible exact spec_l5Int.mono _ _)
      | (with_reducible exact spec_l5Name.mono _ _)
      | (with_reducible exact LeO.refl _)
      | (with_reducible exact LeO.none _)
      | (with_reducible refine LeO.ite ?_ ?_)
      | (with_reducible refine LeO.bind ?_ (fun _ => ?_))
      | exact ih0 _ _ _ _
      | exact ih1 _ _ _
      | exact spec_Crc.mono _ _
      | exact spec_l5Int.mono _ _
      | exact spec_l5Name.mono _ _
      | exact LeO.none _
      | refine LeO.ite ?_ ?_
      | refine LeO.bind ?_ (fun _ => ?_)
set_option maxHeartbeats 8000000 in
set_option maxRecDepth 100000 in
theorem spec_ReadChunks.calls (k : Nat) (P0_ : Nat → Prop) (A0 : Option Addr) (c0 : Nat) (l0 : List Int) (r1 : Int) (r2 : List (S46)) (w : World) (hs0 : Kd.V (Kd.int .u8) 5 w w.heap.size (fun k_ => P0_ k_) (.slice A0 l0.length c0) l0) (h : spec_ReadChunks.f k l0 = some (r1, r2)) :
    Calls Tryd.prog 5 #[.slice A0 l0.length c0] w fun e w' => ∃ v1_ : Value, e = .returned (.agg #[.int .i64 r1, v1_]) ∧ Kd.S k46 46 w' w.heap.size (fun k_ => (w.heap.size ≤ k_)) v1_ r2 ∧ Below w.heap.size w w' := by
  have hu25 := Tryd.underlying25
  have hu46 := Tryd.underlying46
  have HO0 := Aside0.mk (show Kd.V (Kd.int .u8) 5 w w.heap.size (fun k_ => (P0_ k_ ∨ w.heap.size ≤ k_)) (.slice A0 l0.length c0) l0 from Kd.V_mono hs0 (fun k_ hk => .inl hk))
  have HB := Aside0.mk (Below.refl w.heap.size w)
  have H : (if (l0.length : Int) > 60000 then (some (1, ([] : List (S46)))) else (if (l0.length : Int) < 8 then (some (2, ([] : List (S46)))) else ((spec_l5Mark.f).bind fun t107 => (spec_ReadChunks.l0 k l0 t107 (t107.length : Int) 0)))) = some (r1, r2) := h
  clear h
  by_cases c2 : (l0.length : Int) > 60000
  · rw [if_pos c2] at H
    have c2b0 : decide (60000 < (l0.length : Int)) = true := decide_eq_true c2
    have c2b1 : decide (60000 < l0.length) = true := decide_eq_true (by omega)
    have c2b2 : 60000 < l0.length := by omega
    clear c2
    simp only [Option.some.injEq, Prod.mk.injEq] at H
    obtain ⟨rfl, rfl⟩ := H
    go_enter Tryd.func5, Tryd.ntmps5
    go_wp2_with (first | ((with_reducible refine gate_dst (N := 2) rfl ?_); refine box_event ?hg (N := 2) ?hd (cs := #[.int .i64 0, .slice none 0 0]) (t := 25) ?hr ?_; (case hd => rfl); (case hg => rfl); (case hr => first | (go_simp; done) | (go_simp; rfl)); intro gb106 hg w3 hbox hb; have n0_ := Aside0.mk (Kd.V_below (Kd.V_elderB (by (with_reducible repeat (first | apply Kd.V_alloc | apply Kd.V_drewN | apply Kd.V_drew)); exact HO0.out) gb106 (Nat.le_of_eq hg.symm)) hb); have n1_ := Aside0.mk (below_step (by repeat (first | (with_reducible first | exact HB.out | apply below_alloc | apply pw_below_drewN | apply below_drew1) | exact HB.out)) hb); have n2_ := Aside0.mk (hbox); have n3_ := Aside0.mk ((by rw [hg]; exact (below_size (by repeat (first | (with_reducible first | exact HB.out | apply below_alloc | apply pw_below_drewN | apply below_drew1) | exact HB.out))) : w.heap.size ≤ gb106)); have n4_ := n3_; clear HO0; clear HB; have HO0 := n0_; have HB := n1_; have BK106 := n2_; have GW106 := n3_; have GE106 := n4_; clear n0_ n1_ n2_ n3_ n4_; clear hb hbox hg; have hcz4_0 : w3.cell? ⟨gb106, 0, none⟩ = some (.int .i64 0) := (blk_cell BK106.out 0).trans rfl; have hcz4_1 : w3.cell? ⟨gb106, 1, none⟩ = some (.slice none 0 0) := (blk_cell BK106.out 1).trans rfl; have hfz4_0 := blk_frozen BK106.out 0; have hfz4_1 := blk_frozen BK106.out 1))
    refine bodyPost_ret (results_cell_row rfl _ _ gb106 25 #[.int .i64 1, .slice none 0 0] (0, 0) _ rfl (by (with_reducible repeat (first | refine blk_drewN ?_ _ | refine blk_drew ?_ | refine blk_alloc ?_ _)); refine blk_put (cs := #[.int .i64 1, .slice none 0 0]) ?_ 1 _ rfl; (with_reducible repeat (first | refine blk_drewN ?_ _ | refine blk_drew ?_ | refine blk_alloc ?_ _)); refine blk_put (cs := #[.int .i64 0, .slice none 0 0]) ?_ 0 _ rfl; (with_reducible repeat (first | refine blk_drewN ?_ _ | refine blk_drew ?_ | refine blk_alloc ?_ _)); exact BK106.out) Tryd.underlying25 rfl (by kernel_rfl)) rfl ?_
    exact ⟨_, by first | rfl | (simp [errW_none, errW_some] <;> rfl) | (simp [*, errW_none, errW_some] <;> rfl), by first | exact Kd.S_nil _ _ _ _ _ | exact Kd.N_nil _ _ _ _ _ | exact Kd.V_nil _ _ _ _ _ | exact Kd.Q_nil _ _ _ _ _ | exact Kd.R_nil _ _ _ _ _, by repeat (first | (with_reducible first | exact HB.out | apply below_alloc | apply pw_below_drewN | apply below_drew1 | refine below_set ?_ GE106.out) | exact HB.out)⟩
  rw [if_neg c2] at H
  have c2b0 : decide (60000 < (l0.length : Int)) = false := decide_eq_false c2
  have c2b1 : decide (60000 < l0.length) = false := decide_eq_false (by omega)
  have c2b2 : ¬ (60000 < l0.length) := by omega
  clear c2
  by_cases c5 : (l0.length : Int) < 8
  · rw [if_pos c5] at H
    have c5b0 : decide ((l0.length : Int) < 8) = true := decide_eq_true c5
    have c5b1 : decide (l0.length < 8) = true := decide_eq_true (by omega)
    have c5b2 : l0.length < 8 := by omega
    clear c5
    simp only [Option.some.injEq, Prod.mk.injEq] at H
    obtain ⟨rfl, rfl⟩ := H
    go_enter Tryd.func5, Tryd.ntmps5
    go_wp2_with (first | ((with_reducible refine gate_dst (N := 2) rfl ?_); refine box_event ?hg (N := 2) ?hd (cs := #[.int .i64 0, .slice none 0 0]) (t := 25) ?hr ?_; (case hd => rfl); (case hg => rfl); (case hr => first | (go_simp; done) | (go_simp; rfl)); intro gb106 hg w6 hbox hb; have n0_ := Aside0.mk (Kd.V_below (Kd.V_elderB (by (with_reducible repeat (first | apply Kd.V_alloc | apply Kd.V_drewN | apply Kd.V_drew)); exact HO0.out) gb106 (Nat.le_of_eq hg.symm)) hb); have n1_ := Aside0.mk (below_step (by repeat (first | (with_reducible first | exact HB.out | apply below_alloc | apply pw_below_drewN | apply below_drew1) | exact HB.out)) hb); have n2_ := Aside0.mk (hbox); have n3_ := Aside0.mk ((by rw [hg]; exact (below_size (by repeat (first | (with_reducible first | exact HB.out | apply below_alloc | apply pw_below_drewN | apply below_drew1) | exact HB.out))) : w.heap.size ≤ gb106)); have n4_ := n3_; clear HO0; clear HB; have HO0 := n0_; have HB := n1_; have BK106 := n2_; have GW106 := n3_; have GE106 := n4_; clear n0_ n1_ n2_ n3_ n4_; clear hb hbox hg; have hcz7_0 : w6.cell? ⟨gb106, 0, none⟩ = some (.int .i64 0) := (blk_cell BK106.out 0).trans rfl; have hcz7_1 : w6.cell? ⟨gb106, 1, none⟩ = some (.slice none 0 0) := (blk_cell BK106.out 1).trans rfl; have hfz7_0 := blk_frozen BK106.out 0; have hfz7_1 := blk_frozen BK106.out 1))
    refine bodyPost_ret (results_cell_row rfl _ _ gb106 25 #[.int .i64 2, .slice none 0 0] (0, 0) _ rfl (by (with_reducible repeat (first | refine blk_drewN ?_ _ | refine blk_drew ?_ | refine blk_alloc ?_ _)); refine blk_put (cs := #[.int .i64 2, .slice none 0 0]) ?_ 1 _ rfl; (with_reducible repeat (first | refine blk_drewN ?_ _ | refine blk_drew ?_ | refine blk_alloc ?_ _)); refine blk_put (cs := #[.int .i64 0, .slice none 0 0]) ?_ 0 _ rfl; (with_reducible repeat (first | refine blk_drewN ?_ _ | refine blk_drew ?_ | refine blk_alloc ?_ _)); exact BK106.out) Tryd.underlying25 rfl (by kernel_rfl)) rfl ?_
    exact ⟨_, by first | rfl | (simp [errW_none, errW_some] <;> rfl) | (simp [*, errW_none, errW_some] <;> rfl), by first | exact Kd.S_nil _ _ _ _ _ | exact Kd.N_nil _ _ _ _ _ | exact Kd.V_nil _ _ _ _ _ | exact Kd.Q_nil _ _ _ _ _ | exact Kd.R_nil _ _ _ _ _, by repeat (first | (with_reducible first | exact HB.out | apply below_alloc | apply pw_below_drewN | apply below_drew1 | refine below_set ?_ GE106.out) | exact HB.out)⟩
  rw [if_neg c5] at H
  have c5b0 : decide ((l0.length : Int) < 8) = false := decide_eq_false c5
  have c5b1 : decide (l0.length < 8) = false := decide_eq_false (by omega)
  have c5b2 : ¬ (l0.length < 8) := by omega
  clear c5
  replace H := Option.bind_eq_some_iff.mp H
  obtain ⟨t107, A80, H⟩ := H
  replace H : (spec_ReadChunks.l0 k l0 t107 (t107.length : Int) 0) = some (r1, r2) := H
  have A8 := Aside0.mk A80
  clear A80
  have H' := Aside0.mk H
  clear H
  go_enter Tryd.func5, Tryd.ntmps5
  go_wp2_with (first | ((with_reducible refine gate_dst (N := 2) rfl ?_); refine box_event ?hg (N := 2) ?hd (cs := #[.int .i64 0, .slice none 0 0]) (t := 25) ?hr ?_; (case hd => rfl); (case hg => rfl); (case hr => first | (go_simp; done) | (go_simp; rfl)); intro gb106 hg w9 hbox hb; have n0_ := Aside0.mk (Kd.V_below (Kd.V_elderB (by (with_reducible repeat (first | apply Kd.V_alloc | apply Kd.V_drewN | apply Kd.V_drew)); exact HO0.out) gb106 (Nat.le_of_eq hg.symm)) hb); have n1_ := Aside0.mk (below_step (by repeat (first | (with_reducible first | exact HB.out | apply below_alloc | apply pw_below_drewN | apply below_drew1) | exact HB.out)) hb); have n2_ := Aside0.mk (hbox); have n3_ := Aside0.mk ((by rw [hg]; exact (below_size (by repeat (first | (with_reducible first | exact HB.out | apply below_alloc | apply pw_below_drewN | apply below_drew1) | exact HB.out))) : w.heap.size ≤ gb106)); have n4_ := n3_; clear HO0; clear HB; have HO0 := n0_; have HB := n1_; have BK106 := n2_; have GW106 := n3_; have GE106 := n4_; clear n0_ n1_ n2_ n3_ n4_; clear hb hbox hg) | ((with_reducible refine gate_callee (f := 23) rfl ?_); refine goesL_ (some 18) rfl rfl Tryd.func23 (by kernel_rfl) rfl #[] rfl (by (try simp only [List.map_toArray, List.map_cons, List.map_nil]); first | done | rfl | (simp only [List.length_drop, List.length_take]; rfl)) ?_; (with_reducible refine (spec_l5Mark.calls  t107 _ A8.out).mono ?_); rintro e w10 ⟨v108, rfl, ho0, hb⟩; refine ⟨_, rfl, ?_⟩; have n0_ := Aside0.mk (Kd.V_elder' (by (with_reducible repeat (first | apply Kd.V_alloc | apply Kd.V_drewN | apply Kd.V_drew)); exact HO0.out) (Kd.R_base ho0) hb); have n1_ := Aside0.mk (Kd.R_lower (Kd.R_newM (M := fun k_ => (w.heap.size ≤ k_)) ho0 (below_size (by repeat (first | (with_reducible first | exact HB.out | apply below_alloc | apply pw_below_drewN | apply below_drew1 | refine below_set ?_ GE106.out) | exact HB.out))) (fun k_ h_ => h_)) (below_size (by repeat (first | (with_reducible first | exact HB.out | apply below_alloc | apply pw_below_drewN | apply below_drew1 | refine below_set ?_ GE106.out) | exact HB.out)))); have n2_ := Aside0.mk (blk_below (g := gb106) (o := .cells #[.int .i64 0, .slice none 0 0] 25 (0, 0)) (by (with_reducible repeat (first | refine blk_drewN ?_ _ | refine blk_drew ?_ | refine blk_alloc ?_ _)); exact BK106.out) hb); have n3_ := Aside0.mk (below_step (by repeat (first | (with_reducible first | exact HB.out | apply below_alloc | apply pw_below_drewN | apply below_drew1 | refine below_set ?_ GE106.out) | exact HB.out)) hb); clear HO0; clear BK106; clear HB; have HO0 := n0_; have HO109 := n1_; have BK106 := n2_; have HB := n3_; clear n0_ n1_ n2_ n3_; (try clear hb); (try clear hb2); (try clear hk); (try clear hi); (try clear ho0); obtain ⟨Ao11, co11, eo11⟩ := Kd.R_slice HO109.out; subst eo11))
  go_loopg [20] k (fun kq v20 w' => ∃ (x20_1 : Int) (x107000_1 : Int), v20 = .int .i64 x20_1 ∧ Aside0 (spec_ReadChunks.l0 kq l0 t107 (t107.length : Int) x20_1 = some (r1, r2)) ∧ Aside0 (kq ≤ k) ∧ Aside0 (Kd.V (Kd.int .u8) 5 w' w.heap.size (fun k_ => (P0_ k_ ∨ w.heap.size ≤ k_) ∧ some k_ ≠ ((.slice Ao11 t107.length co11) : Value).ownBlock ∧ k_ ≠ gb106) (.slice A0 l0.length c0) l0) ∧ Aside0 (Kd.R (Kd.int .u8) 5 w' w.heap.size (fun k_ => (w.heap.size ≤ k_)) (.slice Ao11 t107.length co11) t107) ∧ Aside0 (w'.heap[gb106]? = some (.cells #[.int .i64 x107000_1, (.slice none 0 0)] 25 (0, 0))) ∧ Aside0 (Below w.heap.size w w'))
  case atStart => exact ⟨(0), (0), (by first | rfl | (simp; done) | (simp [*]; done)), H', ⟨Nat.le_refl _⟩, ⟨by (with_reducible repeat (first | apply Kd.V_alloc | apply Kd.V_drewN | apply Kd.V_drew)); exact Kd.V_mono HO0.out (fun _ hk => ⟨hk.1.1, ⟨hk.2, hk.1.2⟩⟩)⟩, ⟨by (with_reducible repeat (first | apply Kd.R_alloc | apply Kd.R_drewN | apply Kd.R_drew)); exact Kd.R_mono HO109.out (fun _ hk => hk.1)⟩, ⟨by (with_reducible repeat (first | refine blk_drewN ?_ _ | refine blk_drew ?_ | refine blk_alloc ?_ _)); exact BK106.out⟩, ⟨by repeat (first | (with_reducible first | exact HB.out | apply below_alloc | apply pw_below_drewN | apply below_drew1 | refine below_set ?_ GE106.out) | exact HB.out)⟩⟩
  case round =>
    clear H'
    try clear c2
    try clear c2b0
    try clear c2b1
    try clear c2b2
    try clear p2
    try clear c5
    try clear c5b0
    try clear c5b1
    try clear c5b2
    try clear hcz4_0
    try clear hcz4_1
    try clear hcz7_0
    try clear hcz7_1
    try clear hfz4_0
    try clear hfz4_1
    try clear hfz7_0
    try clear hfz7_1
    obtain ⟨x20_1, x107000_1, rfl, HA, HK1, HO_0, HO_18, BK106, HB⟩ := hrel
    cases gk with
    | zero => exact absurd HA.out (by simp [spec_ReadChunks.l0])
    | succ k1 =>
      have H := HA.out
      clear HA
      simp only [spec_ReadChunks.l0] at H
      by_cases c12 : x20_1 < (t107.length : Int)
      · rw [if_pos c12] at H
        have c12b0 : decide (x20_1 < (t107.length : Int)) = true := decide_eq_true c12
        clear c12
        by_cases c13 : 0 ≤ x20_1
        rotate_left
        · rw [if_neg c13] at H
          exact absurd H (by simp)
        rw [if_pos c13] at H
        have c13b0 : decide (0 ≤ x20_1) = true := decide_eq_true c13
        clear c13
        by_cases c14 : x20_1 < (t107.length : Int)
        rotate_left
        · rw [if_neg c14] at H
          exact absurd H (by simp)
        rw [if_pos c14] at H
        have c14b0 : decide (x20_1 < (t107.length : Int)) = true := decide_eq_true c14
        clear c14
        by_cases c15 : x20_1 < (l0.length : Int)
        rotate_left
        · rw [if_neg c15] at H
          exact absurd H (by simp)
        rw [if_pos c15] at H
        have c15b0 : decide (x20_1 < (l0.length : Int)) = true := decide_eq_true c15
        clear c15
        by_cases c16 : (rd l0 x20_1) = (rd t107 x20_1)
        · rw [if_pos c16] at H
          have c16b0 : ((rd l0 x20_1) == (rd t107 x20_1)) = true := beq_iff_eq.mpr c16
          have c16b1 : ((rd l0 x20_1) != (rd t107 x20_1)) = false := bne_eq_false_iff_eq.mpr c16
          clear c16
          have H' := Aside0.mk H
          clear H
          have p110 : 0 ≤ (x20_1 : Int) := of_decide_eq_true (by first | (with_reducible assumption) | assumption)
          have q110 : x20_1 < (t107.length : Int) := of_decide_eq_true (by first | (with_reducible assumption) | assumption)
          obtain ⟨ad110, e110, hx110_0⟩ := Kd.at_int (Kd.R_reads' HO_18.out).2.2 x20_1 p110 q110
          cases e110
          replace p110 := eq_true p110
          replace q110 := eq_true q110
          have p111 : 0 ≤ (x20_1 : Int) := of_decide_eq_true (by first | (with_reducible assumption) | assumption)
          have q111 : x20_1 < (l0.length : Int) := of_decide_eq_true (by first | (with_reducible assumption) | assumption)
          obtain ⟨ad111, e111, hx111_0⟩ := Kd.at_int (Kd.V_reads' HO_0.out).2.2 x20_1 p111 q111
          cases e111
          replace p111 := eq_true p111
          replace q111 := eq_true q111
          go_wp2
          go_roundg k1
          case measure => have := HK1.out; omega
          case rel => exact ⟨(wrap64 (x20_1 + 1)), (x107000_1), (by first | rfl | (simp; done) | (simp [*]; done)), H', ⟨by have := HK1.out; omega⟩, ⟨by (with_reducible repeat (first | apply Kd.V_alloc | apply Kd.V_drewN | apply Kd.V_drew)); exact HO_0.out⟩, ⟨by (with_reducible repeat (first | apply Kd.R_alloc | apply Kd.R_drewN | apply Kd.R_drew)); exact HO_18.out⟩, ⟨by (with_reducible repeat (first | refine blk_drewN ?_ _ | refine blk_drew ?_ | refine blk_alloc ?_ _)); exact BK106.out⟩, ⟨by repeat (first | (with_reducible first | exact HB.out | apply below_alloc | apply pw_below_drewN | apply below_drew1 | refine below_set ?_ GE106.out) | exact HB.out)⟩⟩
        rw [if_neg c16] at H
        have c16b0 : ((rd l0 x20_1) == (rd t107 x20_1)) = false := beq_eq_false_iff_ne.mpr c16
        have c16b1 : ((rd l0 x20_1) != (rd t107 x20_1)) = true := bne_iff_ne.mpr c16
        simp only [Option.some.injEq, Prod.mk.injEq] at H
        obtain ⟨rfl, rfl⟩ := H
        have p110 : 0 ≤ (x20_1 : Int) := of_decide_eq_true (by first | (with_reducible assumption) | assumption)
        have q110 : x20_1 < (t107.length : Int) := of_decide_eq_true (by first | (with_reducible assumption) | assumption)
        obtain ⟨ad110, e110, hx110_0⟩ := Kd.at_int (Kd.R_reads' HO_18.out).2.2 x20_1 p110 q110
        cases e110
        replace p110 := eq_true p110
        replace q110 := eq_true q110
        have p111 : 0 ≤ (x20_1 : Int) := of_decide_eq_true (by first | (with_reducible assumption) | assumption)
        have q111 : x20_1 < (l0.length : Int) := of_decide_eq_true (by first | (with_reducible assumption) | assumption)
        obtain ⟨ad111, e111, hx111_0⟩ := Kd.at_int (Kd.V_reads' HO_0.out).2.2 x20_1 p111 q111
        cases e111
        replace p111 := eq_true p111
        replace q111 := eq_true q111
        have hcz17_0 : wr.cell? ⟨gb106, 0, none⟩ = some (.int .i64 x107000_1) := (blk_cell BK106.out 0).trans rfl
        have hcz17_1 : wr.cell? ⟨gb106, 1, none⟩ = some (.slice none 0 0) := (blk_cell BK106.out 1).trans rfl
        have hfz17_0 := blk_frozen BK106.out 0
        have hfz17_1 := blk_frozen BK106.out 1
        go_wp2
        refine bodyPost_ret (results_cell_row rfl _ _ gb106 25 #[.int .i64 4, .slice none 0 0] (0, 0) _ rfl (by (with_reducible repeat (first | refine blk_drewN ?_ _ | refine blk_drew ?_ | refine blk_alloc ?_ _)); refine blk_put (cs := #[.int .i64 4, .slice none 0 0]) ?_ 1 _ rfl; (with_reducible repeat (first | refine blk_drewN ?_ _ | refine blk_drew ?_ | refine blk_alloc ?_ _)); refine blk_put (cs := #[.int .i64 x107000_1, .slice none 0 0]) ?_ 0 _ rfl; (with_reducible repeat (first | refine blk_drewN ?_ _ | refine blk_drew ?_ | refine blk_alloc ?_ _)); exact BK106.out) Tryd.underlying25 rfl (by kernel_rfl)) rfl ?_
        exact ⟨_, by first | rfl | (simp [errW_none, errW_some] <;> rfl) | (simp [*, errW_none, errW_some] <;> rfl), by first | exact Kd.S_nil _ _ _ _ _ | exact Kd.N_nil _ _ _ _ _ | exact Kd.V_nil _ _ _ _ _ | exact Kd.Q_nil _ _ _ _ _ | exact Kd.R_nil _ _ _ _ _, by repeat (first | (with_reducible first | exact HB.out | apply below_alloc | apply pw_below_drewN | apply below_drew1 | refine below_set ?_ GE106.out) | exact HB.out)⟩
      rw [if_neg c12] at H
      have c12b0 : decide (x20_1 < (t107.length : Int)) = false := decide_eq_false c12
      clear c12
      have H' := Aside0.mk H
      clear H
      go_wp2
      go_loopg [5, 6] k1 (fun kq v5 v6 w' => ∃ (x5_2 : List (S46)) (x6_2 : Int) (x107000_2 : Int), v6 = .int .i64 x6_2 ∧ Aside0 (spec_ReadChunks.l1 kq l0 x5_2 x6_2 = some (r1, r2)) ∧ Aside0 (kq ≤ k1) ∧ Aside0 (Kd.V (Kd.int .u8) 5 w' w.heap.size (fun k_ => (P0_ k_ ∨ w.heap.size ≤ k_) ∧ some k_ ≠ (v5 : Value).ownBlock ∧ k_ ≠ gb106) (.slice A0 l0.length c0) l0) ∧ Aside0 (Kd.S k46 46 w' w.heap.size (fun k_ => (w.heap.size ≤ k_)) v5 x5_2) ∧ Aside0 (w'.heap[gb106]? = some (.cells #[.int .i64 x107000_2, (.slice none 0 0)] 25 (0, 0))) ∧ Aside0 (Below w.heap.size w w'))
      case atStart => exact ⟨(([] : List (S46))), (8), (x107000_1), (by first | rfl | (simp; done) | (simp [*]; done)), H', ⟨Nat.le_refl _⟩, ⟨by (with_reducible repeat (first | apply Kd.V_alloc | apply Kd.V_drewN | apply Kd.V_drew)); exact Kd.V_mono HO_0.out (fun _ hk => ⟨hk.1, ⟨(by simp [Value.ownBlock]), hk.2.2⟩⟩)⟩, ⟨by first | exact Kd.S_nil _ _ _ _ _ | exact Kd.N_nil _ _ _ _ _ | exact Kd.V_nil _ _ _ _ _ | exact Kd.Q_nil _ _ _ _ _ | exact Kd.R_nil _ _ _ _ _⟩, ⟨by (with_reducible repeat (first | refine blk_drewN ?_ _ | refine blk_drew ?_ | refine blk_alloc ?_ _)); exact BK106.out⟩, ⟨by repeat (first | (with_reducible first | exact HB.out | apply below_alloc | apply pw_below_drewN | apply below_drew1 | refine below_set ?_ GE106.out) | exact HB.out)⟩⟩
      case round =>
        clear H'
        try clear c1
        try clear p1
        try clear q1
        try clear hx1
        try clear c2
        try clear c2b0
        try clear c2b1
        try clear c2b2
        try clear p2
        try clear c5
        try clear c5b0
        try clear c5b1
        try clear c5b2
        try clear p6
        try clear p11
        try clear q11
        try clear hx11
        try clear c12
        try clear c12b0
        try clear c13
        try clear c13b0
        try clear c14
        try clear c14b0
        try clear c15
        try clear c15b0
        try clear c16
        try clear c16b0
        try clear c16b1
        try clear hcz17_0
        try clear hcz17_1
        try clear hcz4_0
        try clear hcz4_1
        try clear hcz7_0
        try clear hcz7_1
        try clear hfz17_0
        try clear hfz17_1
        try clear hfz4_0
        try clear hfz4_1
        try clear hfz7_0
        try clear hfz7_1
        try clear hx110_0
        try clear hx111_0
        try clear p110
        try clear p111
        try clear p2
        try clear q110
        try clear q111
        obtain ⟨x5_2, x6_2, x107000_2, rfl, HA, HK2, HO_0, HO_5, BK106, HB⟩ := hrel
        cases gk with
        | zero => exact absurd HA.out (by simp [spec_ReadChunks.l1])
        | succ k2 =>
          have H := HA.out
          clear HA
          simp only [spec_ReadChunks.l1] at H
          by_cases c18 : x6_2 < (l0.length : Int)
          rotate_left
          · rw [if_neg c18] at H
            have c18b0 : decide (x6_2 < (l0.length : Int)) = false := decide_eq_false c18
            clear c18
            simp only [Option.some.injEq, Prod.mk.injEq] at H
            obtain ⟨rfl, rfl⟩ := H
            obtain ⟨Ao68, co68, eo68⟩ := Kd.S_slice HO_5.out
            subst eo68
            have hcz69_0 : wr.cell? ⟨gb106, 0, none⟩ = some (.int .i64 x107000_2) := (blk_cell BK106.out 0).trans rfl
            have hcz69_1 : wr.cell? ⟨gb106, 1, none⟩ = some (.slice none 0 0) := (blk_cell BK106.out 1).trans rfl
            have hfz69_0 := blk_frozen BK106.out 0
            have hfz69_1 := blk_frozen BK106.out 1
            go_wp2
            refine bodyPost_ret (results_cell_row rfl _ _ gb106 25 #[.int .i64 0, .slice Ao68 x5_2.length co68] (0, 0) _ rfl (by (with_reducible repeat (first | refine blk_drewN ?_ _ | refine blk_drew ?_ | refine blk_alloc ?_ _)); refine blk_put (cs := #[.int .i64 0, .slice none 0 0]) ?_ 1 _ rfl; (with_reducible repeat (first | refine blk_drewN ?_ _ | refine blk_drew ?_ | refine blk_alloc ?_ _)); refine blk_put (cs := #[.int .i64 x107000_2, .slice none 0 0]) ?_ 0 _ rfl; (with_reducible repeat (first | refine blk_drewN ?_ _ | refine blk_drew ?_ | refine blk_alloc ?_ _)); exact BK106.out) Tryd.underlying25 rfl (by kernel_rfl)) rfl ?_
            exact ⟨_, by first | rfl | (simp [errW_none, errW_some] <;> rfl) | (simp [*, errW_none, errW_some] <;> rfl), by (with_reducible repeat (first | apply Kd.S_alloc | apply Kd.S_drewN | apply Kd.S_drew)); exact Kd.S_mono (Kd.S_far (p := ⟨gb106, 1, none⟩) (Kd.S_far (p := ⟨gb106, 0, none⟩) (Kd.S_types HO_5.out BK106.out (by decide)) (fun _ hk => hk.2) (.int .i64 0)) (fun _ hk => hk.2) (.slice Ao68 x5_2.length co68)) (fun _ hk => hk.1), by repeat (first | (with_reducible first | exact HB.out | apply below_alloc | apply pw_below_drewN | apply below_drew1 | refine below_set ?_ GE106.out) | exact HB.out)⟩
          rw [if_pos c18] at H
          have c18b0 : decide (x6_2 < (l0.length : Int)) = true := decide_eq_true c18
          clear c18
          by_cases c19 : (wrap64 ((l0.length : Int) - x6_2)) < 12
          · rw [if_pos c19] at H
            have c19b0 : decide ((wrap64 ((l0.length : Int) - x6_2)) < 12) = true := decide_eq_true c19
            clear c19
            simp only [Option.some.injEq, Prod.mk.injEq] at H
            obtain ⟨rfl, rfl⟩ := H
            have hcz20_0 : wr.cell? ⟨gb106, 0, none⟩ = some (.int .i64 x107000_2) := (blk_cell BK106.out 0).trans rfl
            have hcz20_1 : wr.cell? ⟨gb106, 1, none⟩ = some (.slice none 0 0) := (blk_cell BK106.out 1).trans rfl
            have hfz20_0 := blk_frozen BK106.out 0
            have hfz20_1 := blk_frozen BK106.out 1
            go_wp2
            refine bodyPost_ret (results_cell_row rfl _ _ gb106 25 #[.int .i64 2, .slice none 0 0] (0, 0) _ rfl (by (with_reducible repeat (first | refine blk_drewN ?_ _ | refine blk_drew ?_ | refine blk_alloc ?_ _)); refine blk_put (cs := #[.int .i64 2, .slice none 0 0]) ?_ 1 _ rfl; (with_reducible repeat (first | refine blk_drewN ?_ _ | refine blk_drew ?_ | refine blk_alloc ?_ _)); refine blk_put (cs := #[.int .i64 x107000_2, .slice none 0 0]) ?_ 0 _ rfl; (with_reducible repeat (first | refine blk_drewN ?_ _ | refine blk_drew ?_ | refine blk_alloc ?_ _)); exact BK106.out) Tryd.underlying25 rfl (by kernel_rfl)) rfl ?_
            exact ⟨_, by first | rfl | (simp [errW_none, errW_some] <;> rfl) | (simp [*, errW_none, errW_some] <;> rfl), by first | exact Kd.S_nil _ _ _ _ _ | exact Kd.N_nil _ _ _ _ _ | exact Kd.V_nil _ _ _ _ _ | exact Kd.Q_nil _ _ _ _ _ | exact Kd.R_nil _ _ _ _ _, by repeat (first | (with_reducible first | exact HB.out | apply below_alloc | apply pw_below_drewN | apply below_drew1 | refine below_set ?_ GE106.out) | exact HB.out)⟩
          rw [if_neg c19] at H
          have c19b0 : decide ((wrap64 ((l0.length : Int) - x6_2)) < 12) = false := decide_eq_false c19
          clear c19
          by_cases c21 : 0 ≤ x6_2
          rotate_left
          · rw [if_neg c21] at H
            exact absurd H (by simp)
          rw [if_pos c21] at H
          have c21b0 := eq_true c21
          have c21b1 : decide (0 ≤ x6_2) = true := decide_eq_true c21
          clear c21
          by_cases c22 : x6_2 ≤ (wrap64 (x6_2 + 4))
          rotate_left
          · rw [if_neg c22] at H
            exact absurd H (by simp)
          rw [if_pos c22] at H
          have c22b0 := eq_true c22
          have c22b1 : decide (x6_2 ≤ (wrap64 (x6_2 + 4))) = true := decide_eq_true c22
          by_cases c23 : (wrap64 (x6_2 + 4)) ≤ (l0.length : Int)
          rotate_left
          · rw [if_neg c23] at H
            exact absurd H (by simp)
          rw [if_pos c23] at H
          have c23b0 := eq_true c23
          have c23b1 : decide ((wrap64 (x6_2 + 4)) ≤ (l0.length : Int)) = true := decide_eq_true c23
          obtain ⟨y112, hy112⟩ : ∃ y_ : List Int, y_ = ((l0.take ((wrap64 (x6_2 + 4)) : Int).toNat).drop (x6_2 : Int).toNat) := ⟨_, rfl⟩
          replace H : ((spec_l5Int.f k2 y112).bind fun t117 => (if t117 > (wrap64 ((wrap64 ((l0.length : Int) - x6_2)) - 12)) then (some (2, ([] : List (S46)))) else (if 0 ≤ (wrap64 (x6_2 + 4)) then (if (wrap64 (x6_2 + 4)) ≤ (wrap64 ((wrap64 (x6_2 + 8)) + t117)) then (if (wrap64 ((wrap64 (x6_2 + 8)) + t117)) ≤ (l0.length : Int) then ((some ((l0.take ((wrap64 ((wrap64 (x6_2 + 8)) + t117)) : Int).toNat).drop ((wrap64 (x6_2 + 4)) : Int).toNat : List Int)).bind fun y118 => (if 4 ≤ (y118.length : Int) then ((spec_l5Name.f k2 (strOfNums (y118.take 4))).bind fun t128 => (if t128 = true then (if 0 ≤ (wrap64 ((wrap64 (x6_2 + 8)) + t117)) then (if (wrap64 ((wrap64 (x6_2 + 8)) + t117)) ≤ (wrap64 ((wrap64 (x6_2 + 12)) + t117)) then (if (wrap64 ((wrap64 (x6_2 + 12)) + t117)) ≤ (l0.length : Int) then ((spec_l5Int.f k2 ((l0.take ((wrap64 ((wrap64 (x6_2 + 12)) + t117)) : Int).toNat).drop ((wrap64 ((wrap64 (x6_2 + 8)) + t117)) : Int).toNat)).bind fun t134 => ((spec_Crc.f k2 y118).bind fun t135 => (if ((t134) % 4294967296) = t135 then ((some (y118.drop 4 : List Int)).bind fun y136 => (if ([] : List Int).length + y136.length < 140737488355328 then (if x5_2.length < 3518437208883 then (spec_ReadChunks.l1 k2 l0 (x5_2 ++ [(⟨strOfNums (y118.take 4), (([] : List Int) ++ y136)⟩ : S46)]) (wrap64 (x6_2 + (wrap64 (12 + t117))))) else (none)) else (none))) else (some (3, ([] : List (S46))))))) else (none)) else (none)) else (none)) else (some (4, ([] : List (S46)))))) else (none))) else (none)) else (none)) else (none)))) = some (r1, r2) := by first | (rw [hy112]; with_reducible exact H) | (have H2_ := (Option.bind_some _ _).symm.trans H; rw [hy112]; with_reducible exact H2_) | (have H2_ := (Option.bind_some _ _).symm.trans H; with_reducible exact H2_) | with_reducible exact H | (rw [hy112]; exact H) | exact H
          have Ny112 := Aside0.mk hy112
          clear hy112
          replace H := Option.bind_eq_some_iff.mp H
          obtain ⟨t117, A240, H⟩ := H
          replace H : (if t117 > (wrap64 ((wrap64 ((l0.length : Int) - x6_2)) - 12)) then (some (2, ([] : List (S46)))) else (if 0 ≤ (wrap64 (x6_2 + 4)) then (if (wrap64 (x6_2 + 4)) ≤ (wrap64 ((wrap64 (x6_2 + 8)) + t117)) then (if (wrap64 ((wrap64 (x6_2 + 8)) + t117)) ≤ (l0.length : Int) then ((some ((l0.take ((wrap64 ((wrap64 (x6_2 + 8)) + t117)) : Int).toNat).drop ((wrap64 (x6_2 + 4)) : Int).toNat : List Int)).bind fun y118 => (if 4 ≤ (y118.length : Int) then ((spec_l5Name.f k2 (strOfNums (y118.take 4))).bind fun t128 => (if t128 = true then (if 0 ≤ (wrap64 ((wrap64 (x6_2 + 8)) + t117)) then (if (wrap64 ((wrap64 (x6_2 + 8)) + t117)) ≤ (wrap64 ((wrap64 (x6_2 + 12)) + t117)) then (if (wrap64 ((wrap64 (x6_2 + 12)) + t117)) ≤ (l0.length : Int) then ((spec_l5Int.f k2 ((l0.take ((wrap64 ((wrap64 (x6_2 + 12)) + t117)) : Int).toNat).drop ((wrap64 ((wrap64 (x6_2 + 8)) + t117)) : Int).toNat)).bind fun t134 => ((spec_Crc.f k2 y118).bind fun t135 => (if ((t134) % 4294967296) = t135 then ((some (y118.drop 4 : List Int)).bind fun y136 => (if ([] : List Int).length + y136.length < 140737488355328 then (if x5_2.length < 3518437208883 then (spec_ReadChunks.l1 k2 l0 (x5_2 ++ [(⟨strOfNums (y118.take 4), (([] : List Int) ++ y136)⟩ : S46)]) (wrap64 (x6_2 + (wrap64 (12 + t117))))) else (none)) else (none))) else (some (3, ([] : List (S46))))))) else (none)) else (none)) else (none)) else (some (4, ([] : List (S46)))))) else (none))) else (none)) else (none)) else (none))) = some (r1, r2) := H
          have A24 := Aside0.mk A240
          clear A240
          by_cases c25 : t117 > (wrap64 ((wrap64 ((l0.length : Int) - x6_2)) - 12))
          · rw [if_pos c25] at H
            have c25b0 : decide ((wrap64 ((wrap64 ((l0.length : Int) - x6_2)) - 12)) < t117) = true := decide_eq_true c25
            clear c25
            simp only [Option.some.injEq, Prod.mk.injEq] at H
            obtain ⟨rfl, rfl⟩ := H
            have q26 : ((wrap64 (x6_2 + 4)) : Int) ≤ ((l0.length : Int) : Int) := of_decide_eq_true (by first | (with_reducible assumption) | assumption)
            obtain ⟨i026, hi026, _, hsz26, _⟩ := info_parts info5
            have hroom26 : l0.length ≤ c0 := (Kd.V_reads' HO_0.out).2.1
            have hC26 : Kd.F (Kd.int .u8) _ _ A0 l0.length l0 := (Kd.V_at (base := w.heap.size) HO_0.out).2.2
            have ql26 : (x6_2 : Int) ≤ ((wrap64 (x6_2 + 4)) : Int) := of_decide_eq_true (by first | (with_reducible assumption) | assumption)
            have q026 : (0 : Int) ≤ (x6_2 : Int) := of_decide_eq_true (by first | (with_reducible assumption) | assumption)
            have hcut26 := cut_mid (P := Tryd.prog) 22 5 .i64 .i64 Tryd.underlying22 hi026 1 hsz26 A0 l0.length c0 x6_2 (wrap64 (x6_2 + 4)) q026 ql26 q26 hroom26
            have hr26 := Kd.F_mid (lo := (x6_2 : Int).toNat) (hi := ((wrap64 (x6_2 + 4)) : Int).toNat) (c := c0) hC26 (by omega) (by omega) hroom26
            obtain ⟨A26, hA26⟩ : ∃ A1, A1 = (if c0 = (x6_2 : Int).toNat then A0 else (A0 : Option Addr).map (·.add ((x6_2 : Int).toNat * 1))) := ⟨_, rfl⟩
            obtain ⟨c26, hc26⟩ : ∃ c1, c1 = c0 - (x6_2 : Int).toNat := ⟨_, rfl⟩
            have hy26 : y112.length = ((wrap64 (x6_2 + 4)) : Int).toNat - (x6_2 : Int).toNat := (by rw [Ny112.out, List.length_drop, List.length_take] <;> omega)
            rw [show ((l0).take ((wrap64 (x6_2 + 4)) : Int).toNat).drop (x6_2 : Int).toNat = y112 from Ny112.out.symm] at hr26
            replace hr26 : Kd.F (Kd.int .u8) _ _ A26 y112.length y112 := (by rw [hA26]; exact hr26)
            rw [← hy26, ← hA26, ← hc26] at hcut26
            have HO116 := Aside0.mk (show Kd.V (Kd.int .u8) 5 _ w.heap.size _ (.slice A26 y112.length c26) y112 from Kd.V_mk (by rw [hy26, hc26]; exact Nat.sub_le_sub_right (Nat.le_trans (by omega) hroom26) _) hr26)
            have HC116 := Aside0.mk (show y112.length ≤ c26 from by rw [hy26, hc26]; exact Nat.sub_le_sub_right (Nat.le_trans (by omega) hroom26) _)
            clear hr26 hC26 hroom26 hi026 hsz26 hc26
            have KY26 := Aside0.mk hy26
            have KA26 := Aside0.mk hA26
            clear hy26 hA26
            replace q26 := eq_true q26
            go_wp2_with (first | ((with_reducible refine gate_callee (f := 24) rfl ?_); refine goesL_ (some 48) rfl rfl Tryd.func24 (by kernel_rfl) rfl #[.slice A26 y112.length c26] rfl (by (try simp only [List.map_toArray, List.map_cons, List.map_nil]); first | done | rfl | (simp only [List.length_drop, List.length_take]; rfl)) ?_; (with_reducible refine (spec_l5Int.calls k2 _ _ y112 t117 _ ?side1 ?side2 A24.out).mono ?_); (case side1 => repeat (first | exact (Kd.V_reads' HO116.out).2.2 | (with_reducible refine Kd.C_alloc ?_ _) | (with_reducible refine Kd.C_drewN ?_ _) | (with_reducible refine Kd.C_drew ?_))); (case side2 => exact (Kd.V_reads' HO116.out).2.1); rintro e w' ⟨rfl, ⟨nd, rfl⟩⟩; refine ⟨_, rfl, ?_⟩; (try (rw [drewN_self wr]; generalize hq_ : World.drewN wr _ = wr; have n0_ : Aside0 (Kd.V (Kd.int .u8) 5 wr w.heap.size (fun k_ => (((P0_ k_ ∨ w.heap.size ≤ k_)) ∧ (some k_ ≠ (u5 : Value).ownBlock ∧ k_ ≠ gb106))) (.slice A26 y112.length c26) y112) := ⟨by rw [← hq_]; exact (by (with_reducible repeat (first | apply Kd.V_alloc | apply Kd.V_drewN | apply Kd.V_drew)); exact HO116.out)⟩; have n1_ : Aside0 (Kd.V (Kd.int .u8) 5 wr w.heap.size (fun k_ => (((P0_ k_ ∨ w.heap.size ≤ k_)) ∧ (some k_ ≠ (u5 : Value).ownBlock ∧ k_ ≠ gb106))) (.slice A0 l0.length c0) l0) := ⟨by rw [← hq_]; exact (by (with_reducible repeat (first | apply Kd.V_alloc | apply Kd.V_drewN | apply Kd.V_drew)); exact HO_0.out)⟩; have n2_ : Aside0 (Kd.S k46 46 wr w.heap.size (fun k_ => ((w.heap.size ≤ k_))) u5 x5_2) := ⟨by rw [← hq_]; exact (by (with_reducible repeat (first | apply Kd.S_alloc | apply Kd.S_drewN | apply Kd.S_drew)); exact HO_5.out)⟩; have n3_ : Aside0 (wr.heap[gb106]? = some (.cells #[.int .i64 x107000_2, .slice none 0 0] 25 (0, 0))) := ⟨by rw [← hq_]; exact (by (with_reducible repeat (first | refine blk_drewN ?_ _ | refine blk_drew ?_ | refine blk_alloc ?_ _)); exact BK106.out)⟩; have n4_ : Aside0 (Below w.heap.size w wr) := ⟨by rw [← hq_]; exact (by repeat (first | (with_reducible first | exact HB.out | apply below_alloc | apply pw_below_drewN | apply below_drew1 | refine below_set ?_ GE106.out) | exact HB.out))⟩; clear HO116 HO_0 HO_5 BK106 HB hq_; have HO116 := n0_; have HO_0 := n1_; have HO_5 := n2_; have BK106 := n3_; have HB := n4_; clear n0_ n1_ n2_ n3_ n4_)); have hcz27_0 : wr.cell? ⟨gb106, 0, none⟩ = some (.int .i64 x107000_2) := (blk_cell BK106.out 0).trans rfl; have hcz27_1 : wr.cell? ⟨gb106, 1, none⟩ = some (.slice none 0 0) := (blk_cell BK106.out 1).trans rfl; have hfz27_0 := blk_frozen BK106.out 0; have hfz27_1 := blk_frozen BK106.out 1))
            refine bodyPost_ret (results_cell_row rfl _ _ gb106 25 #[.int .i64 2, .slice none 0 0] (0, 0) _ rfl (by (with_reducible repeat (first | refine blk_drewN ?_ _ | refine blk_drew ?_ | refine blk_alloc ?_ _)); refine blk_put (cs := #[.int .i64 2, .slice none 0 0]) ?_ 1 _ rfl; (with_reducible repeat (first | refine blk_drewN ?_ _ | refine blk_drew ?_ | refine blk_alloc ?_ _)); refine blk_put (cs := #[.int .i64 x107000_2, .slice none 0 0]) ?_ 0 _ rfl; (with_reducible repeat (first | refine blk_drewN ?_ _ | refine blk_drew ?_ | refine blk_alloc ?_ _)); exact BK106.out) Tryd.underlying25 rfl (by kernel_rfl)) rfl ?_
            exact ⟨_, by first | rfl | (simp [errW_none, errW_some] <;> rfl) | (simp [*, errW_none, errW_some] <;> rfl), by first | exact Kd.S_nil _ _ _ _ _ | exact Kd.N_nil _ _ _ _ _ | exact Kd.V_nil _ _ _ _ _ | exact Kd.Q_nil _ _ _ _ _ | exact Kd.R_nil _ _ _ _ _, by repeat (first | (with_reducible first | exact HB.out | apply below_alloc | apply pw_below_drewN | apply below_drew1 | refine below_set ?_ GE106.out) | exact HB.out)⟩
          rw [if_neg c25] at H
          have c25b0 : decide ((wrap64 ((wrap64 ((l0.length : Int) - x6_2)) - 12)) < t117) = false := decide_eq_false c25
          clear c25
          obtain ⟨ji28, hji28⟩ : ∃ j_ : Int, (wrap64 (x6_2 + 4)) = j_ := ⟨_, rfl⟩
          replace H : (if 0 ≤ (ji28) then (if (ji28) ≤ (wrap64 ((wrap64 (x6_2 + 8)) + t117)) then (if (wrap64 ((wrap64 (x6_2 + 8)) + t117)) ≤ (l0.length : Int) then ((some ((l0.take ((wrap64 ((wrap64 (x6_2 + 8)) + t117)) : Int).toNat).drop ((ji28) : Int).toNat : List Int)).bind fun y118 => (if 4 ≤ (y118.length : Int) then ((spec_l5Name.f k2 (strOfNums (y118.take 4))).bind fun t128 => (if t128 = true then (if 0 ≤ (wrap64 ((wrap64 (x6_2 + 8)) + t117)) then (if (wrap64 ((wrap64 (x6_2 + 8)) + t117)) ≤ (wrap64 ((wrap64 (x6_2 + 12)) + t117)) then (if (wrap64 ((wrap64 (x6_2 + 12)) + t117)) ≤ (l0.length : Int) then ((spec_l5Int.f k2 ((l0.take ((wrap64 ((wrap64 (x6_2 + 12)) + t117)) : Int).toNat).drop ((wrap64 ((wrap64 (x6_2 + 8)) + t117)) : Int).toNat)).bind fun t134 => ((spec_Crc.f k2 y118).bind fun t135 => (if ((t134) % 4294967296) = t135 then ((some (y118.drop 4 : List Int)).bind fun y136 => (if ([] : List Int).length + y136.length < 140737488355328 then (if x5_2.length < 3518437208883 then (spec_ReadChunks.l1 k2 l0 (x5_2 ++ [(⟨strOfNums (y118.take 4), (([] : List Int) ++ y136)⟩ : S46)]) (wrap64 (x6_2 + (wrap64 (12 + t117))))) else (none)) else (none))) else (some (3, ([] : List (S46))))))) else (none)) else (none)) else (none)) else (some (4, ([] : List (S46)))))) else (none))) else (none)) else (none)) else (none)) = some (r1, r2) := by first | (rw [hji28] at H; exact H) | (simp only [hji28] at H ⊢; exact H)
          (try rw [hji28] at c22b0)
          (try rw [hji28] at c22b1)
          (try rw [hji28] at c22)
          (try rw [hji28] at c23b0)
          (try rw [hji28] at c23b1)
          (try rw [hji28] at c23)
          (try rw [hji28] at Ny112)
          (try rw [hji28] at A24)
          have hji28w : (IntKind.i64.wrap (x6_2 + 4)) = ji28 := (i64_w _).trans hji28
          by_cases c29 : 0 ≤ (ji28)
          rotate_left
          · rw [if_neg c29] at H
            exact absurd H (by simp)
          rw [if_pos c29] at H
          have c29b0 := eq_true c29
          have c29b1 : decide (0 ≤ (ji28)) = true := decide_eq_true c29
          clear c29
          by_cases c30 : (ji28) ≤ (wrap64 ((wrap64 (x6_2 + 8)) + t117))
          rotate_left
          · rw [if_neg c30] at H
            exact absurd H (by simp)
          rw [if_pos c30] at H
          have c30b0 := eq_true c30
          have c30b1 : decide ((ji28) ≤ (wrap64 ((wrap64 (x6_2 + 8)) + t117))) = true := decide_eq_true c30
          by_cases c31 : (wrap64 ((wrap64 (x6_2 + 8)) + t117)) ≤ (l0.length : Int)
          rotate_left
          · rw [if_neg c31] at H
            exact absurd H (by simp)
          rw [if_pos c31] at H
          have c31b0 := eq_true c31
          have c31b1 : decide ((wrap64 ((wrap64 (x6_2 + 8)) + t117)) ≤ (l0.length : Int)) = true := decide_eq_true c31
          obtain ⟨y118, hy118⟩ : ∃ y_ : List Int, y_ = ((l0.take ((wrap64 ((wrap64 (x6_2 + 8)) + t117)) : Int).toNat).drop ((ji28) : Int).toNat) := ⟨_, rfl⟩
          replace H : (if 4 ≤ (y118.length : Int) then ((spec_l5Name.f k2 (strOfNums (y118.take 4))).bind fun t128 => (if t128 = true then (if 0 ≤ (wrap64 ((wrap64 (x6_2 + 8)) + t117)) then (if (wrap64 ((wrap64 (x6_2 + 8)) + t117)) ≤ (wrap64 ((wrap64 (x6_2 + 12)) + t117)) then (if (wrap64 ((wrap64 (x6_2 + 12)) + t117)) ≤ (l0.length : Int) then ((spec_l5Int.f k2 ((l0.take ((wrap64 ((wrap64 (x6_2 + 12)) + t117)) : Int).toNat).drop ((wrap64 ((wrap64 (x6_2 + 8)) + t117)) : Int).toNat)).bind fun t134 => ((spec_Crc.f k2 y118).bind fun t135 => (if ((t134) % 4294967296) = t135 then ((some (y118.drop 4 : List Int)).bind fun y136 => (if ([] : List Int).length + y136.length < 140737488355328 then (if x5_2.length < 3518437208883 then (spec_ReadChunks.l1 k2 l0 (x5_2 ++ [(⟨strOfNums (y118.take 4), (([] : List Int) ++ y136)⟩ : S46)]) (wrap64 (x6_2 + (wrap64 (12 + t117))))) else (none)) else (none))) else (some (3, ([] : List (S46))))))) else (none)) else (none)) else (none)) else (some (4, ([] : List (S46)))))) else (none)) = some (r1, r2) := by first | (rw [hy118]; with_reducible exact H) | (have H2_ := (Option.bind_some _ _).symm.trans H; rw [hy118]; with_reducible exact H2_) | (have H2_ := (Option.bind_some _ _).symm.trans H; with_reducible exact H2_) | with_reducible exact H | (rw [hy118]; exact H) | exact H
          have Ny118 := Aside0.mk hy118
          clear hy118
          by_cases c32 : 4 ≤ (y118.length : Int)
          rotate_left
          · rw [if_neg c32] at H
            exact absurd H (by simp)
          rw [if_pos c32] at H
          have c32b0 := eq_true c32
          have c32b1 : decide (4 ≤ (y118.length : Int)) = true := decide_eq_true c32
          clear c32
          obtain ⟨y123, hy123⟩ : ∃ y_ : List Int, y_ = (y118.take 4) := ⟨_, rfl⟩
          replace H : ((spec_l5Name.f k2 (strOfNums y123)).bind fun t128 => (if t128 = true then (if 0 ≤ (wrap64 ((wrap64 (x6_2 + 8)) + t117)) then (if (wrap64 ((wrap64 (x6_2 + 8)) + t117)) ≤ (wrap64 ((wrap64 (x6_2 + 12)) + t117)) then (if (wrap64 ((wrap64 (x6_2 + 12)) + t117)) ≤ (l0.length : Int) then ((spec_l5Int.f k2 ((l0.take ((wrap64 ((wrap64 (x6_2 + 12)) + t117)) : Int).toNat).drop ((wrap64 ((wrap64 (x6_2 + 8)) + t117)) : Int).toNat)).bind fun t134 => ((spec_Crc.f k2 y118).bind fun t135 => (if ((t134) % 4294967296) = t135 then ((some (y118.drop 4 : List Int)).bind fun y136 => (if ([] : List Int).length + y136.length < 140737488355328 then (if x5_2.length < 3518437208883 then (spec_ReadChunks.l1 k2 l0 (x5_2 ++ [(⟨strOfNums (y118.take 4), (([] : List Int) ++ y136)⟩ : S46)]) (wrap64 (x6_2 + (wrap64 (12 + t117))))) else (none)) else (none))) else (some (3, ([] : List (S46))))))) else (none)) else (none)) else (none)) else (some (4, ([] : List (S46)))))) = some (r1, r2) := by first | (rw [hy123]; with_reducible exact H) | (have H2_ := (Option.bind_some _ _).symm.trans H; rw [hy123]; with_reducible exact H2_) | (have H2_ := (Option.bind_some _ _).symm.trans H; with_reducible exact H2_) | with_reducible exact H | (rw [hy123]; exact H) | exact H
          have Ny123 := Aside0.mk hy123
          clear hy123
          replace H := Option.bind_eq_some_iff.mp H
          obtain ⟨t128, A330, H⟩ := H
          replace H : (if t128 = true then (if 0 ≤ (wrap64 ((wrap64 (x6_2 + 8)) + t117)) then (if (wrap64 ((wrap64 (x6_2 + 8)) + t117)) ≤ (wrap64 ((wrap64 (x6_2 + 12)) + t117)) then (if (wrap64 ((wrap64 (x6_2 + 12)) + t117)) ≤ (l0.length : Int) then ((spec_l5Int.f k2 ((l0.take ((wrap64 ((wrap64 (x6_2 + 12)) + t117)) : Int).toNat).drop ((wrap64 ((wrap64 (x6_2 + 8)) + t117)) : Int).toNat)).bind fun t134 => ((spec_Crc.f k2 y118).bind fun t135 => (if ((t134) % 4294967296) = t135 then ((some (y118.drop 4 : List Int)).bind fun y136 => (if ([] : List Int).length + y136.length < 140737488355328 then (if x5_2.length < 3518437208883 then (spec_ReadChunks.l1 k2 l0 (x5_2 ++ [(⟨strOfNums (y118.take 4), (([] : List Int) ++ y136)⟩ : S46)]) (wrap64 (x6_2 + (wrap64 (12 + t117))))) else (none)) else (none))) else (some (3, ([] : List (S46))))))) else (none)) else (none)) else (none)) else (some (4, ([] : List (S46))))) = some (r1, r2) := H
          have A33 := Aside0.mk A330
          clear A330
          by_cases c34 : t128 = true
          rotate_left
          · replace c34 := Bool.eq_false_iff.mpr c34
            subst c34
            have H1 : (some (4, ([] : List (S46)))) = some (r1, r2) := by rw [if_neg (show ¬ (false = true) by decide)] at H; exact H
            clear H
            have H := H1
            clear H1
            simp only [Option.some.injEq, Prod.mk.injEq] at H
            obtain ⟨rfl, rfl⟩ := H
            have q63 : ((ji28) : Int) ≤ ((l0.length : Int) : Int) := of_decide_eq_true (by first | (with_reducible assumption) | assumption)
            obtain ⟨i063, hi063, _, hsz63, _⟩ := info_parts info5
            have hroom63 : l0.length ≤ c0 := (Kd.V_reads' HO_0.out).2.1
            have hC63 : Kd.F (Kd.int .u8) _ _ A0 l0.length l0 := (Kd.V_at (base := w.heap.size) HO_0.out).2.2
            have ql63 : (x6_2 : Int) ≤ ((ji28) : Int) := of_decide_eq_true (by first | (with_reducible assumption) | assumption)
            have q063 : (0 : Int) ≤ (x6_2 : Int) := of_decide_eq_true (by first | (with_reducible assumption) | assumption)
            have hcut63 := cut_mid (P := Tryd.prog) 22 5 .i64 .i64 Tryd.underlying22 hi063 1 hsz63 A0 l0.length c0 x6_2 (ji28) q063 ql63 q63 hroom63
            have hr63 := Kd.F_mid (lo := (x6_2 : Int).toNat) (hi := ((ji28) : Int).toNat) (c := c0) hC63 (by omega) (by omega) hroom63
            obtain ⟨A63, hA63⟩ : ∃ A1, A1 = (if c0 = (x6_2 : Int).toNat then A0 else (A0 : Option Addr).map (·.add ((x6_2 : Int).toNat * 1))) := ⟨_, rfl⟩
            obtain ⟨c63, hc63⟩ : ∃ c1, c1 = c0 - (x6_2 : Int).toNat := ⟨_, rfl⟩
            have hy63 : y112.length = ((ji28) : Int).toNat - (x6_2 : Int).toNat := (by rw [Ny112.out, List.length_drop, List.length_take] <;> omega)
            rw [show ((l0).take ((ji28) : Int).toNat).drop (x6_2 : Int).toNat = y112 from Ny112.out.symm] at hr63
            replace hr63 : Kd.F (Kd.int .u8) _ _ A63 y112.length y112 := (by rw [hA63]; exact hr63)
            rw [← hy63, ← hA63, ← hc63] at hcut63
            have HO116 := Aside0.mk (show Kd.V (Kd.int .u8) 5 _ w.heap.size _ (.slice A63 y112.length c63) y112 from Kd.V_mk (by rw [hy63, hc63]; exact Nat.sub_le_sub_right (Nat.le_trans (by omega) hroom63) _) hr63)
            have HC116 := Aside0.mk (show y112.length ≤ c63 from by rw [hy63, hc63]; exact Nat.sub_le_sub_right (Nat.le_trans (by omega) hroom63) _)
            clear hr63 hC63 hroom63 hi063 hsz63 hc63
            have KY63 := Aside0.mk hy63
            have KA63 := Aside0.mk hA63
            clear hy63 hA63
            replace q63 := eq_true q63
            go_wp2_with (first | ((with_reducible refine gate_callee (f := 24) rfl ?_); refine goesL_ (some 48) rfl rfl Tryd.func24 (by kernel_rfl) rfl #[.slice A63 y112.length c63] rfl (by (try simp only [List.map_toArray, List.map_cons, List.map_nil]); first | done | rfl | (simp only [List.length_drop, List.length_take]; rfl)) ?_; (with_reducible refine (spec_l5Int.calls k2 _ _ y112 t117 _ ?side1 ?side2 A24.out).mono ?_); (case side1 => repeat (first | exact (Kd.V_reads' HO116.out).2.2 | (with_reducible refine Kd.C_alloc ?_ _) | (with_reducible refine Kd.C_drewN ?_ _) | (with_reducible refine Kd.C_drew ?_))); (case side2 => exact (Kd.V_reads' HO116.out).2.1); rintro e w' ⟨rfl, ⟨nd, rfl⟩⟩; refine ⟨_, rfl, ?_⟩; (try (rw [drewN_self wr]; generalize hq_ : World.drewN wr _ = wr; have n0_ : Aside0 (Kd.V (Kd.int .u8) 5 wr w.heap.size (fun k_ => (((P0_ k_ ∨ w.heap.size ≤ k_)) ∧ (some k_ ≠ (u5 : Value).ownBlock ∧ k_ ≠ gb106))) (.slice A63 y112.length c63) y112) := ⟨by rw [← hq_]; exact (by (with_reducible repeat (first | apply Kd.V_alloc | apply Kd.V_drewN | apply Kd.V_drew)); exact HO116.out)⟩; have n1_ : Aside0 (Kd.V (Kd.int .u8) 5 wr w.heap.size (fun k_ => (((P0_ k_ ∨ w.heap.size ≤ k_)) ∧ (some k_ ≠ (u5 : Value).ownBlock ∧ k_ ≠ gb106))) (.slice A0 l0.length c0) l0) := ⟨by rw [← hq_]; exact (by (with_reducible repeat (first | apply Kd.V_alloc | apply Kd.V_drewN | apply Kd.V_drew)); exact HO_0.out)⟩; have n2_ : Aside0 (Kd.S k46 46 wr w.heap.size (fun k_ => ((w.heap.size ≤ k_))) u5 x5_2) := ⟨by rw [← hq_]; exact (by (with_reducible repeat (first | apply Kd.S_alloc | apply Kd.S_drewN | apply Kd.S_drew)); exact HO_5.out)⟩; have n3_ : Aside0 (wr.heap[gb106]? = some (.cells #[.int .i64 x107000_2, .slice none 0 0] 25 (0, 0))) := ⟨by rw [← hq_]; exact (by (with_reducible repeat (first | refine blk_drewN ?_ _ | refine blk_drew ?_ | refine blk_alloc ?_ _)); exact BK106.out)⟩; have n4_ : Aside0 (Below w.heap.size w wr) := ⟨by rw [← hq_]; exact (by repeat (first | (with_reducible first | exact HB.out | apply below_alloc | apply pw_below_drewN | apply below_drew1 | refine below_set ?_ GE106.out) | exact HB.out))⟩; clear HO116 HO_0 HO_5 BK106 HB hq_; have HO116 := n0_; have HO_0 := n1_; have HO_5 := n2_; have BK106 := n3_; have HB := n4_; clear n0_ n1_ n2_ n3_ n4_)); have q64 : ((wrap64 ((wrap64 (x6_2 + 8)) + t117)) : Int) ≤ ((l0.length : Int) : Int) := of_decide_eq_true (by first | (with_reducible assumption) | assumption); obtain ⟨i064, hi064, _, hsz64, _⟩ := info_parts info5; have hroom64 : l0.length ≤ c0 := (Kd.V_reads' HO_0.out).2.1; have hC64 : Kd.F (Kd.int .u8) _ _ A0 l0.length l0 := (Kd.V_at (base := w.heap.size) HO_0.out).2.2; have ql64 : ((ji28) : Int) ≤ ((wrap64 ((wrap64 (x6_2 + 8)) + t117)) : Int) := of_decide_eq_true (by first | (with_reducible assumption) | assumption); have q064 : (0 : Int) ≤ ((ji28) : Int) := of_decide_eq_true (by first | (with_reducible assumption) | assumption); have hcut64 := cut_mid (P := Tryd.prog) 22 5 .i64 .i64 Tryd.underlying22 hi064 1 hsz64 A0 l0.length c0 (ji28) (wrap64 ((wrap64 (x6_2 + 8)) + t117)) q064 ql64 q64 hroom64; have hr64 := Kd.F_mid (lo := ((ji28) : Int).toNat) (hi := ((wrap64 ((wrap64 (x6_2 + 8)) + t117)) : Int).toNat) (c := c0) hC64 (by omega) (by omega) hroom64; obtain ⟨A64, hA64⟩ : ∃ A1, A1 = (if c0 = ((ji28) : Int).toNat then A0 else (A0 : Option Addr).map (·.add (((ji28) : Int).toNat * 1))) := ⟨_, rfl⟩; obtain ⟨c64, hc64⟩ : ∃ c1, c1 = c0 - ((ji28) : Int).toNat := ⟨_, rfl⟩; have hy64 : y118.length = ((wrap64 ((wrap64 (x6_2 + 8)) + t117)) : Int).toNat - ((ji28) : Int).toNat := (by rw [Ny118.out, List.length_drop, List.length_take] <;> omega); rw [show ((l0).take ((wrap64 ((wrap64 (x6_2 + 8)) + t117)) : Int).toNat).drop ((ji28) : Int).toNat = y118 from Ny118.out.symm] at hr64; replace hr64 : Kd.F (Kd.int .u8) _ _ A64 y118.length y118 := (by rw [hA64]; exact hr64); rw [← hy64, ← hA64, ← hc64] at hcut64; have HO122 := Aside0.mk (show Kd.V (Kd.int .u8) 5 _ w.heap.size _ (.slice A64 y118.length c64) y118 from Kd.V_mk (by rw [hy64, hc64]; exact Nat.sub_le_sub_right (Nat.le_trans (by omega) hroom64) _) hr64); have HC122 := Aside0.mk (show y118.length ≤ c64 from by rw [hy64, hc64]; exact Nat.sub_le_sub_right (Nat.le_trans (by omega) hroom64) _); clear hr64 hC64 hroom64 hi064 hsz64 hc64; have KY64 := Aside0.mk hy64; have KA64 := Aside0.mk hA64; clear hy64 hA64; replace q64 := eq_true q64; have q65 : (4 : Int) ≤ ((y118.length : Int) : Int) := of_decide_eq_true (by first | (with_reducible assumption) | assumption); obtain ⟨i065, hi065, _, hsz65, _⟩ := info_parts info5; have hroom65 : y118.length ≤ c64 := (Kd.V_reads' HO122.out).2.1; have hC65 : Kd.F (Kd.int .u8) _ _ A64 y118.length y118 := (Kd.V_at (base := w.heap.size) HO122.out).2.2; have hcut65 := cut_to (P := Tryd.prog) 22 5 .i64 Tryd.underlying22 hi065 A64 y118.length c64 4 (by omega) q65 hroom65; have hr65 := Kd.F_take (m := 4) hC65 (by omega); have hy65 : y123.length = (4 : Int).toNat := (by rw [Ny123.out, List.length_take]; omega); rw [← Ny123.out] at hr65; rw [← hy65] at hcut65; have HO127 := Aside0.mk (show Kd.V (Kd.int .u8) 5 _ w.heap.size _ (.slice A64 y123.length c64) y123 from Kd.V_mk (by omega) hr65); have HC127 := Aside0.mk (show y123.length ≤ c64 from by omega); clear hr65 hC65 hroom65 hi065 hsz65; have KY65 := Aside0.mk hy65; clear hy65; replace q65 := eq_true q65; have hcv66 := V_string (P := Tryd.prog) Tryd.underlying22 Tryd.underlying5 Tryd.underlying9 HO127.out; have hcw66 := fun m => V_string (P := Tryd.prog) Tryd.underlying22 Tryd.underlying5 Tryd.underlying9 (Kd.V_drewN HO127.out m)) | ((with_reducible refine gate_callee (f := 25) rfl ?_); refine goesL_ (some 68) rfl rfl Tryd.func25 (by kernel_rfl) rfl #[.string (strOfNums y123)] rfl (by (try simp only [List.map_toArray, List.map_cons, List.map_nil]); first | done | rfl | (simp only [List.length_drop, List.length_take]; rfl)) ?_; (with_reducible refine (spec_l5Name.calls k2 (strOfNums y123) false _ A33.out).mono ?_); rintro e w' ⟨rfl, ⟨nd, rfl⟩⟩; refine ⟨_, rfl, ?_⟩; (try (rw [drewN_self wr]; generalize hq_ : World.drewN wr _ = wr; have n0_ : Aside0 (Kd.V (Kd.int .u8) 5 wr w.heap.size (fun k_ => (((P0_ k_ ∨ w.heap.size ≤ k_)) ∧ (some k_ ≠ (u5 : Value).ownBlock ∧ k_ ≠ gb106))) (.slice A63 y112.length c63) y112) := ⟨by rw [← hq_]; exact (by (with_reducible repeat (first | apply Kd.V_alloc | apply Kd.V_drewN | apply Kd.V_drew)); exact HO116.out)⟩; have n1_ : Aside0 (Kd.V (Kd.int .u8) 5 wr w.heap.size (fun k_ => (((P0_ k_ ∨ w.heap.size ≤ k_)) ∧ (some k_ ≠ (u5 : Value).ownBlock ∧ k_ ≠ gb106))) (.slice A64 y118.length c64) y118) := ⟨by rw [← hq_]; exact (by (with_reducible repeat (first | apply Kd.V_alloc | apply Kd.V_drewN | apply Kd.V_drew)); exact HO122.out)⟩; have n2_ : Aside0 (Kd.V (Kd.int .u8) 5 wr w.heap.size (fun k_ => (((P0_ k_ ∨ w.heap.size ≤ k_)) ∧ (some k_ ≠ (u5 : Value).ownBlock ∧ k_ ≠ gb106))) (.slice A64 y123.length c64) y123) := ⟨by rw [← hq_]; exact (by (with_reducible repeat (first | apply Kd.V_alloc | apply Kd.V_drewN | apply Kd.V_drew)); exact HO127.out)⟩; have n3_ : Aside0 (Kd.V (Kd.int .u8) 5 wr w.heap.size (fun k_ => (((P0_ k_ ∨ w.heap.size ≤ k_)) ∧ (some k_ ≠ (u5 : Value).ownBlock ∧ k_ ≠ gb106))) (.slice A0 l0.length c0) l0) := ⟨by rw [← hq_]; exact (by (with_reducible repeat (first | apply Kd.V_alloc | apply Kd.V_drewN | apply Kd.V_drew)); exact HO_0.out)⟩; have n4_ : Aside0 (Kd.S k46 46 wr w.heap.size (fun k_ => ((w.heap.size ≤ k_))) u5 x5_2) := ⟨by rw [← hq_]; exact (by (with_reducible repeat (first | apply Kd.S_alloc | apply Kd.S_drewN | apply Kd.S_drew)); exact HO_5.out)⟩; have n5_ : Aside0 (wr.heap[gb106]? = some (.cells #[.int .i64 x107000_2, .slice none 0 0] 25 (0, 0))) := ⟨by rw [← hq_]; exact (by (with_reducible repeat (first | refine blk_drewN ?_ _ | refine blk_drew ?_ | refine blk_alloc ?_ _)); exact BK106.out)⟩; have n6_ : Aside0 (Below w.heap.size w wr) := ⟨by rw [← hq_]; exact (by repeat (first | (with_reducible first | exact HB.out | apply below_alloc | apply pw_below_drewN | apply below_drew1 | refine below_set ?_ GE106.out) | exact HB.out))⟩; clear HO116 HO122 HO127 HO_0 HO_5 BK106 HB hq_; have HO116 := n0_; have HO122 := n1_; have HO127 := n2_; have HO_0 := n3_; have HO_5 := n4_; have BK106 := n5_; have HB := n6_; clear n0_ n1_ n2_ n3_ n4_ n5_ n6_)); have hcz67_0 : wr.cell? ⟨gb106, 0, none⟩ = some (.int .i64 x107000_2) := (blk_cell BK106.out 0).trans rfl; have hcz67_1 : wr.cell? ⟨gb106, 1, none⟩ = some (.slice none 0 0) := (blk_cell BK106.out 1).trans rfl; have hfz67_0 := blk_frozen BK106.out 0; have hfz67_1 := blk_frozen BK106.out 1))
            refine bodyPost_ret (results_cell_row rfl _ _ gb106 25 #[.int .i64 4, .slice none 0 0] (0, 0) _ rfl (by (with_reducible repeat (first | refine blk_drewN ?_ _ | refine blk_drew ?_ | refine blk_alloc ?_ _)); refine blk_put (cs := #[.int .i64 4, .slice none 0 0]) ?_ 1 _ rfl; (with_reducible repeat (first | refine blk_drewN ?_ _ | refine blk_drew ?_ | refine blk_alloc ?_ _)); refine blk_put (cs := #[.int .i64 x107000_2, .slice none 0 0]) ?_ 0 _ rfl; (with_reducible repeat (first | refine blk_drewN ?_ _ | refine blk_drew ?_ | refine blk_alloc ?_ _)); exact BK106.out) Tryd.underlying25 rfl (by kernel_rfl)) rfl ?_
            exact ⟨_, by first | rfl | (simp [errW_none, errW_some] <;> rfl) | (simp only [← hji28]; first | rfl | (simp [errW_none, errW_some] <;> rfl)) | (simp [*, errW_none, errW_some] <;> rfl), by first | exact Kd.S_nil _ _ _ _ _ | exact Kd.N_nil _ _ _ _ _ | exact Kd.V_nil _ _ _ _ _ | exact Kd.Q_nil _ _ _ _ _ | exact Kd.R_nil _ _ _ _ _, by repeat (first | (with_reducible first | exact HB.out | apply below_alloc | apply pw_below_drewN | apply below_drew1 | refine below_set ?_ GE106.out) | exact HB.out)⟩
          subst c34
          have H1 : (if 0 ≤ (wrap64 ((wrap64 (x6_2 + 8)) + t117)) then (if (wrap64 ((wrap64 (x6_2 + 8)) + t117)) ≤ (wrap64 ((wrap64 (x6_2 + 12)) + t117)) then (if (wrap64 ((wrap64 (x6_2 + 12)) + t117)) ≤ (l0.length : Int) then ((spec_l5Int.f k2 ((l0.take ((wrap64 ((wrap64 (x6_2 + 12)) + t117)) : Int).toNat).drop ((wrap64 ((wrap64 (x6_2 + 8)) + t117)) : Int).toNat)).bind fun t134 => ((spec_Crc.f k2 y118).bind fun t135 => (if ((t134) % 4294967296) = t135 then ((some (y118.drop 4 : List Int)).bind fun y136 => (if ([] : List Int).length + y136.length < 140737488355328 then (if x5_2.length < 3518437208883 then (spec_ReadChunks.l1 k2 l0 (x5_2 ++ [(⟨strOfNums (y118.take 4), (([] : List Int) ++ y136)⟩ : S46)]) (wrap64 (x6_2 + (wrap64 (12 + t117))))) else (none)) else (none))) else (some (3, ([] : List (S46))))))) else (none)) else (none)) else (none)) = some (r1, r2) := by rw [if_pos rfl] at H; exact H
          clear H
          have H := H1
          clear H1
          obtain ⟨ji35, hji35⟩ : ∃ j_ : Int, (wrap64 ((wrap64 (x6_2 + 8)) + t117)) = j_ := ⟨_, rfl⟩
          replace H : (if 0 ≤ (ji35) then (if (ji35) ≤ (wrap64 ((wrap64 (x6_2 + 12)) + t117)) then (if (wrap64 ((wrap64 (x6_2 + 12)) + t117)) ≤ (l0.length : Int) then ((spec_l5Int.f k2 ((l0.take ((wrap64 ((wrap64 (x6_2 + 12)) + t117)) : Int).toNat).drop ((ji35) : Int).toNat)).bind fun t134 => ((spec_Crc.f k2 y118).bind fun t135 => (if ((t134) % 4294967296) = t135 then ((some (y118.drop 4 : List Int)).bind fun y136 => (if ([] : List Int).length + y136.length < 140737488355328 then (if x5_2.length < 3518437208883 then (spec_ReadChunks.l1 k2 l0 (x5_2 ++ [(⟨strOfNums (y118.take 4), (([] : List Int) ++ y136)⟩ : S46)]) (wrap64 (x6_2 + (wrap64 (12 + t117))))) else (none)) else (none))) else (some (3, ([] : List (S46))))))) else (none)) else (none)) else (none)) = some (r1, r2) := by first | (rw [hji35] at H; exact H) | (simp only [hji35] at H ⊢; exact H)
          (try rw [hji35] at c30b0)
          (try rw [hji35] at c30b1)
          (try rw [hji35] at c30)
          (try rw [hji35] at c31b0)
          (try rw [hji35] at c31b1)
          (try rw [hji35] at c31)
          (try rw [hji35] at A24)
          (try rw [hji35] at Ny118)
          (try rw [hji35] at Ny118)
          (try rw [hji35] at A33)
          have hji35w : (IntKind.i64.wrap ((wrap64 (x6_2 + 8)) + t117)) = ji35 := (i64_w _).trans hji35
          by_cases c36 : 0 ≤ (ji35)
          rotate_left
          · rw [if_neg c36] at H
            exact absurd H (by simp)
          rw [if_pos c36] at H
          have c36b0 := eq_true c36
          have c36b1 : decide (0 ≤ (ji35)) = true := decide_eq_true c36
          clear c36
          by_cases c37 : (ji35) ≤ (wrap64 ((wrap64 (x6_2 + 12)) + t117))
          rotate_left
          · rw [if_neg c37] at H
            exact absurd H (by simp)
          rw [if_pos c37] at H
          have c37b0 := eq_true c37
          have c37b1 : decide ((ji35) ≤ (wrap64 ((wrap64 (x6_2 + 12)) + t117))) = true := decide_eq_true c37
          by_cases c38 : (wrap64 ((wrap64 (x6_2 + 12)) + t117)) ≤ (l0.length : Int)
          rotate_left
          · rw [if_neg c38] at H
            exact absurd H (by simp)
          rw [if_pos c38] at H
          have c38b0 := eq_true c38
          have c38b1 : decide ((wrap64 ((wrap64 (x6_2 + 12)) + t117)) ≤ (l0.length : Int)) = true := decide_eq_true c38
          obtain ⟨y129, hy129⟩ : ∃ y_ : List Int, y_ = ((l0.take ((wrap64 ((wrap64 (x6_2 + 12)) + t117)) : Int).toNat).drop ((ji35) : Int).toNat) := ⟨_, rfl⟩
          replace H : ((spec_l5Int.f k2 y129).bind fun t134 => ((spec_Crc.f k2 y118).bind fun t135 => (if ((t134) % 4294967296) = t135 then ((some (y118.drop 4 : List Int)).bind fun y136 => (if ([] : List Int).length + y136.length < 140737488355328 then (if x5_2.length < 3518437208883 then (spec_ReadChunks.l1 k2 l0 (x5_2 ++ [(⟨strOfNums (y118.take 4), (([] : List Int) ++ y136)⟩ : S46)]) (wrap64 (x6_2 + (wrap64 (12 + t117))))) else (none)) else (none))) else (some (3, ([] : List (S46))))))) = some (r1, r2) := by first | (rw [hy129]; with_reducible exact H) | (have H2_ := (Option.bind_some _ _).symm.trans H; rw [hy129]; with_reducible exact H2_) | (have H2_ := (Option.bind_some _ _).symm.trans H; with_reducible exact H2_) | with_reducible exact H | (rw [hy129]; exact H) | exact H
          have Ny129 := Aside0.mk hy129
          clear hy129
          replace H := Option.bind_eq_some_iff.mp H
          obtain ⟨t134, A390, H⟩ := H
          replace H : ((spec_Crc.f k2 y118).bind fun t135 => (if ((t134) % 4294967296) = t135 then ((some (y118.drop 4 : List Int)).bind fun y136 => (if ([] : List Int).length + y136.length < 140737488355328 then (if x5_2.length < 3518437208883 then (spec_ReadChunks.l1 k2 l0 (x5_2 ++ [(⟨strOfNums (y118.take 4), (([] : List Int) ++ y136)⟩ : S46)]) (wrap64 (x6_2 + (wrap64 (12 + t117))))) else (none)) else (none))) else (some (3, ([] : List (S46)))))) = some (r1, r2) := H
          have A39 := Aside0.mk A390
          clear A390
          replace H := Option.bind_eq_some_iff.mp H
          obtain ⟨t135, A400, H⟩ := H
          replace H : (if ((t134) % 4294967296) = t135 then ((some (y118.drop 4 : List Int)).bind fun y136 => (if ([] : List Int).length + y136.length < 140737488355328 then (if x5_2.length < 3518437208883 then (spec_ReadChunks.l1 k2 l0 (x5_2 ++ [(⟨strOfNums (y118.take 4), (([] : List Int) ++ y136)⟩ : S46)]) (wrap64 (x6_2 + (wrap64 (12 + t117))))) else (none)) else (none))) else (some (3, ([] : List (S46))))) = some (r1, r2) := H
          have A40 := Aside0.mk A400
          clear A400
          by_cases c41 : ((t134) % 4294967296) = t135
          rotate_left
          · rw [if_neg c41] at H
            have c41b0 : (((t134) % 4294967296) == t135) = false := beq_eq_false_iff_ne.mpr c41
            have c41b1 : (((t134) % 4294967296) != t135) = true := bne_iff_ne.mpr c41
            simp only [Option.some.injEq, Prod.mk.injEq] at H
            obtain ⟨rfl, rfl⟩ := H
            have q57 : ((ji28) : Int) ≤ ((l0.length : Int) : Int) := of_decide_eq_true (by first | (with_reducible assumption) | assumption)
            obtain ⟨i057, hi057, _, hsz57, _⟩ := info_parts info5
            have hroom57 : l0.length ≤ c0 := (Kd.V_reads' HO_0.out).2.1
            have hC57 : Kd.F (Kd.int .u8) _ _ A0 l0.length l0 := (Kd.V_at (base := w.heap.size) HO_0.out).2.2
            have ql57 : (x6_2 : Int) ≤ ((ji28) : Int) := of_decide_eq_true (by first | (with_reducible assumption) | assumption)
            have q057 : (0 : Int) ≤ (x6_2 : Int) := of_decide_eq_true (by first | (with_reducible assumption) | assumption)
            have hcut57 := cut_mid (P := Tryd.prog) 22 5 .i64 .i64 Tryd.underlying22 hi057 1 hsz57 A0 l0.length c0 x6_2 (ji28) q057 ql57 q57 hroom57
            have hr57 := Kd.F_mid (lo := (x6_2 : Int).toNat) (hi := ((ji28) : Int).toNat) (c := c0) hC57 (by omega) (by omega) hroom57
            obtain ⟨A57, hA57⟩ : ∃ A1, A1 = (if c0 = (x6_2 : Int).toNat then A0 else (A0 : Option Addr).map (·.add ((x6_2 : Int).toNat * 1))) := ⟨_, rfl⟩
            obtain ⟨c57, hc57⟩ : ∃ c1, c1 = c0 - (x6_2 : Int).toNat := ⟨_, rfl⟩
            have hy57 : y112.length = ((ji28) : Int).toNat - (x6_2 : Int).toNat := (by rw [Ny112.out, List.length_drop, List.length_take] <;> omega)
            rw [show ((l0).take ((ji28) : Int).toNat).drop (x6_2 : Int).toNat = y112 from Ny112.out.symm] at hr57
            replace hr57 : Kd.F (Kd.int .u8) _ _ A57 y112.length y112 := (by rw [hA57]; exact hr57)
            rw [← hy57, ← hA57, ← hc57] at hcut57
            have HO116 := Aside0.mk (show Kd.V (Kd.int .u8) 5 _ w.heap.size _ (.slice A57 y112.length c57) y112 from Kd.V_mk (by rw [hy57, hc57]; exact Nat.sub_le_sub_right (Nat.le_trans (by omega) hroom57) _) hr57)
            have HC116 := Aside0.mk (show y112.length ≤ c57 from by rw [hy57, hc57]; exact Nat.sub_le_sub_right (Nat.le_trans (by omega) hroom57) _)
            clear hr57 hC57 hroom57 hi057 hsz57 hc57
            have KY57 := Aside0.mk hy57
            have KA57 := Aside0.mk hA57
            clear hy57 hA57
            replace q57 := eq_true q57
            go_wp2_with (first | ((with_reducible refine gate_callee (f := 24) rfl ?_); refine goesL_ (some 48) rfl rfl Tryd.func24 (by kernel_rfl) rfl #[.slice A57 y112.length c57] rfl (by (try simp only [List.map_toArray, List.map_cons, List.map_nil]); first | done | rfl | (simp only [List.length_drop, List.length_take]; rfl)) ?_; (with_reducible refine (spec_l5Int.calls k2 _ _ y112 t117 _ ?side1 ?side2 A24.out).mono ?_); (case side1 => repeat (first | exact (Kd.V_reads' HO116.out).2.2 | (with_reducible refine Kd.C_alloc ?_ _) | (with_reducible refine Kd.C_drewN ?_ _) | (with_reducible refine Kd.C_drew ?_))); (case side2 => exact (Kd.V_reads' HO116.out).2.1); rintro e w' ⟨rfl, ⟨nd, rfl⟩⟩; refine ⟨_, rfl, ?_⟩; (try (rw [drewN_self wr]; generalize hq_ : World.drewN wr _ = wr; have n0_ : Aside0 (Kd.V (Kd.int .u8) 5 wr w.heap.size (fun k_ => (((P0_ k_ ∨ w.heap.size ≤ k_)) ∧ (some k_ ≠ (u5 : Value).ownBlock ∧ k_ ≠ gb106))) (.slice A57 y112.length c57) y112) := ⟨by rw [← hq_]; exact (by (with_reducible repeat (first | apply Kd.V_alloc | apply Kd.V_drewN | apply Kd.V_drew)); exact HO116.out)⟩; have n1_ : Aside0 (Kd.V (Kd.int .u8) 5 wr w.heap.size (fun k_ => (((P0_ k_ ∨ w.heap.size ≤ k_)) ∧ (some k_ ≠ (u5 : Value).ownBlock ∧ k_ ≠ gb106))) (.slice A0 l0.length c0) l0) := ⟨by rw [← hq_]; exact (by (with_reducible repeat (first | apply Kd.V_alloc | apply Kd.V_drewN | apply Kd.V_drew)); exact HO_0.out)⟩; have n2_ : Aside0 (Kd.S k46 46 wr w.heap.size (fun k_ => ((w.heap.size ≤ k_))) u5 x5_2) := ⟨by rw [← hq_]; exact (by (with_reducible repeat (first | apply Kd.S_alloc | apply Kd.S_drewN | apply Kd.S_drew)); exact HO_5.out)⟩; have n3_ : Aside0 (wr.heap[gb106]? = some (.cells #[.int .i64 x107000_2, .slice none 0 0] 25 (0, 0))) := ⟨by rw [← hq_]; exact (by (with_reducible repeat (first | refine blk_drewN ?_ _ | refine blk_drew ?_ | refine blk_alloc ?_ _)); exact BK106.out)⟩; have n4_ : Aside0 (Below w.heap.size w wr) := ⟨by rw [← hq_]; exact (by repeat (first | (with_reducible first | exact HB.out | apply below_alloc | apply pw_below_drewN | apply below_drew1 | refine below_set ?_ GE106.out) | exact HB.out))⟩; clear HO116 HO_0 HO_5 BK106 HB hq_; have HO116 := n0_; have HO_0 := n1_; have HO_5 := n2_; have BK106 := n3_; have HB := n4_; clear n0_ n1_ n2_ n3_ n4_)); have q58 : ((ji35) : Int) ≤ ((l0.length : Int) : Int) := of_decide_eq_true (by first | (with_reducible assumption) | assumption); obtain ⟨i058, hi058, _, hsz58, _⟩ := info_parts info5; have hroom58 : l0.length ≤ c0 := (Kd.V_reads' HO_0.out).2.1; have hC58 : Kd.F (Kd.int .u8) _ _ A0 l0.length l0 := (Kd.V_at (base := w.heap.size) HO_0.out).2.2; have ql58 : ((ji28) : Int) ≤ ((ji35) : Int) := of_decide_eq_true (by first | (with_reducible assumption) | assumption); have q058 : (0 : Int) ≤ ((ji28) : Int) := of_decide_eq_true (by first | (with_reducible assumption) | assumption); have hcut58 := cut_mid (P := Tryd.prog) 22 5 .i64 .i64 Tryd.underlying22 hi058 1 hsz58 A0 l0.length c0 (ji28) (ji35) q058 ql58 q58 hroom58; have hr58 := Kd.F_mid (lo := ((ji28) : Int).toNat) (hi := ((ji35) : Int).toNat) (c := c0) hC58 (by omega) (by omega) hroom58; obtain ⟨A58, hA58⟩ : ∃ A1, A1 = (if c0 = ((ji28) : Int).toNat then A0 else (A0 : Option Addr).map (·.add (((ji28) : Int).toNat * 1))) := ⟨_, rfl⟩; obtain ⟨c58, hc58⟩ : ∃ c1, c1 = c0 - ((ji28) : Int).toNat := ⟨_, rfl⟩; have hy58 : y118.length = ((ji35) : Int).toNat - ((ji28) : Int).toNat := (by rw [Ny118.out, List.length_drop, List.length_take] <;> omega); rw [show ((l0).take ((ji35) : Int).toNat).drop ((ji28) : Int).toNat = y118 from Ny118.out.symm] at hr58; replace hr58 : Kd.F (Kd.int .u8) _ _ A58 y118.length y118 := (by rw [hA58]; exact hr58); rw [← hy58, ← hA58, ← hc58] at hcut58; have HO122 := Aside0.mk (show Kd.V (Kd.int .u8) 5 _ w.heap.size _ (.slice A58 y118.length c58) y118 from Kd.V_mk (by rw [hy58, hc58]; exact Nat.sub_le_sub_right (Nat.le_trans (by omega) hroom58) _) hr58); have HC122 := Aside0.mk (show y118.length ≤ c58 from by rw [hy58, hc58]; exact Nat.sub_le_sub_right (Nat.le_trans (by omega) hroom58) _); clear hr58 hC58 hroom58 hi058 hsz58 hc58; have KY58 := Aside0.mk hy58; have KA58 := Aside0.mk hA58; clear hy58 hA58; replace q58 := eq_true q58; have q59 : (4 : Int) ≤ ((y118.length : Int) : Int) := of_decide_eq_true (by first | (with_reducible assumption) | assumption); obtain ⟨i059, hi059, _, hsz59, _⟩ := info_parts info5; have hroom59 : y118.length ≤ c58 := (Kd.V_reads' HO122.out).2.1; have hC59 : Kd.F (Kd.int .u8) _ _ A58 y118.length y118 := (Kd.V_at (base := w.heap.size) HO122.out).2.2; have hcut59 := cut_to (P := Tryd.prog) 22 5 .i64 Tryd.underlying22 hi059 A58 y118.length c58 4 (by omega) q59 hroom59; have hr59 := Kd.F_take (m := 4) hC59 (by omega); have hy59 : y123.length = (4 : Int).toNat := (by rw [Ny123.out, List.length_take]; omega); rw [← Ny123.out] at hr59; rw [← hy59] at hcut59; have HO127 := Aside0.mk (show Kd.V (Kd.int .u8) 5 _ w.heap.size _ (.slice A58 y123.length c58) y123 from Kd.V_mk (by omega) hr59); have HC127 := Aside0.mk (show y123.length ≤ c58 from by omega); clear hr59 hC59 hroom59 hi059 hsz59; have KY59 := Aside0.mk hy59; clear hy59; replace q59 := eq_true q59; have hcv60 := V_string (P := Tryd.prog) Tryd.underlying22 Tryd.underlying5 Tryd.underlying9 HO127.out; have hcw60 := fun m => V_string (P := Tryd.prog) Tryd.underlying22 Tryd.underlying5 Tryd.underlying9 (Kd.V_drewN HO127.out m)) | ((with_reducible refine gate_callee (f := 25) rfl ?_); refine goesL_ (some 68) rfl rfl Tryd.func25 (by kernel_rfl) rfl #[.string (strOfNums y123)] rfl (by (try simp only [List.map_toArray, List.map_cons, List.map_nil]); first | done | rfl | (simp only [List.length_drop, List.length_take]; rfl)) ?_; (with_reducible refine (spec_l5Name.calls k2 (strOfNums y123) true _ A33.out).mono ?_); rintro e w' ⟨rfl, ⟨nd, rfl⟩⟩; refine ⟨_, rfl, ?_⟩; (try (rw [drewN_self wr]; generalize hq_ : World.drewN wr _ = wr; have n0_ : Aside0 (Kd.V (Kd.int .u8) 5 wr w.heap.size (fun k_ => (((P0_ k_ ∨ w.heap.size ≤ k_)) ∧ (some k_ ≠ (u5 : Value).ownBlock ∧ k_ ≠ gb106))) (.slice A57 y112.length c57) y112) := ⟨by rw [← hq_]; exact (by (with_reducible repeat (first | apply Kd.V_alloc | apply Kd.V_drewN | apply Kd.V_drew)); exact HO116.out)⟩; have n1_ : Aside0 (Kd.V (Kd.int .u8) 5 wr w.heap.size (fun k_ => (((P0_ k_ ∨ w.heap.size ≤ k_)) ∧ (some k_ ≠ (u5 : Value).ownBlock ∧ k_ ≠ gb106))) (.slice A58 y118.length c58) y118) := ⟨by rw [← hq_]; exact (by (with_reducible repeat (first | apply Kd.V_alloc | apply Kd.V_drewN | apply Kd.V_drew)); exact HO122.out)⟩; have n2_ : Aside0 (Kd.V (Kd.int .u8) 5 wr w.heap.size (fun k_ => (((P0_ k_ ∨ w.heap.size ≤ k_)) ∧ (some k_ ≠ (u5 : Value).ownBlock ∧ k_ ≠ gb106))) (.slice A58 y123.length c58) y123) := ⟨by rw [← hq_]; exact (by (with_reducible repeat (first | apply Kd.V_alloc | apply Kd.V_drewN | apply Kd.V_drew)); exact HO127.out)⟩; have n3_ : Aside0 (Kd.V (Kd.int .u8) 5 wr w.heap.size (fun k_ => (((P0_ k_ ∨ w.heap.size ≤ k_)) ∧ (some k_ ≠ (u5 : Value).ownBlock ∧ k_ ≠ gb106))) (.slice A0 l0.length c0) l0) := ⟨by rw [← hq_]; exact (by (with_reducible repeat (first | apply Kd.V_alloc | apply Kd.V_drewN | apply Kd.V_drew)); exact HO_0.out)⟩; have n4_ : Aside0 (Kd.S k46 46 wr w.heap.size (fun k_ => ((w.heap.size ≤ k_))) u5 x5_2) := ⟨by rw [← hq_]; exact (by (with_reducible repeat (first | apply Kd.S_alloc | apply Kd.S_drewN | apply Kd.S_drew)); exact HO_5.out)⟩; have n5_ : Aside0 (wr.heap[gb106]? = some (.cells #[.int .i64 x107000_2, .slice none 0 0] 25 (0, 0))) := ⟨by rw [← hq_]; exact (by (with_reducible repeat (first | refine blk_drewN ?_ _ | refine blk_drew ?_ | refine blk_alloc ?_ _)); exact BK106.out)⟩; have n6_ : Aside0 (Below w.heap.size w wr) := ⟨by rw [← hq_]; exact (by repeat (first | (with_reducible first | exact HB.out | apply below_alloc | apply pw_below_drewN | apply below_drew1 | refine below_set ?_ GE106.out) | exact HB.out))⟩; clear HO116 HO122 HO127 HO_0 HO_5 BK106 HB hq_; have HO116 := n0_; have HO122 := n1_; have HO127 := n2_; have HO_0 := n3_; have HO_5 := n4_; have BK106 := n5_; have HB := n6_; clear n0_ n1_ n2_ n3_ n4_ n5_ n6_)); have q61 : ((wrap64 ((wrap64 (x6_2 + 12)) + t117)) : Int) ≤ ((l0.length : Int) : Int) := of_decide_eq_true (by first | (with_reducible assumption) | assumption); obtain ⟨i061, hi061, _, hsz61, _⟩ := info_parts info5; have hroom61 : l0.length ≤ c0 := (Kd.V_reads' HO_0.out).2.1; have hC61 : Kd.F (Kd.int .u8) _ _ A0 l0.length l0 := (Kd.V_at (base := w.heap.size) HO_0.out).2.2; have ql61 : ((ji35) : Int) ≤ ((wrap64 ((wrap64 (x6_2 + 12)) + t117)) : Int) := of_decide_eq_true (by first | (with_reducible assumption) | assumption); have q061 : (0 : Int) ≤ ((ji35) : Int) := of_decide_eq_true (by first | (with_reducible assumption) | assumption); have hcut61 := cut_mid (P := Tryd.prog) 22 5 .i64 .i64 Tryd.underlying22 hi061 1 hsz61 A0 l0.length c0 (ji35) (wrap64 ((wrap64 (x6_2 + 12)) + t117)) q061 ql61 q61 hroom61; have hr61 := Kd.F_mid (lo := ((ji35) : Int).toNat) (hi := ((wrap64 ((wrap64 (x6_2 + 12)) + t117)) : Int).toNat) (c := c0) hC61 (by omega) (by omega) hroom61; obtain ⟨A61, hA61⟩ : ∃ A1, A1 = (if c0 = ((ji35) : Int).toNat then A0 else (A0 : Option Addr).map (·.add (((ji35) : Int).toNat * 1))) := ⟨_, rfl⟩; obtain ⟨c61, hc61⟩ : ∃ c1, c1 = c0 - ((ji35) : Int).toNat := ⟨_, rfl⟩; have hy61 : y129.length = ((wrap64 ((wrap64 (x6_2 + 12)) + t117)) : Int).toNat - ((ji35) : Int).toNat := (by rw [Ny129.out, List.length_drop, List.length_take] <;> omega); rw [show ((l0).take ((wrap64 ((wrap64 (x6_2 + 12)) + t117)) : Int).toNat).drop ((ji35) : Int).toNat = y129 from Ny129.out.symm] at hr61; replace hr61 : Kd.F (Kd.int .u8) _ _ A61 y129.length y129 := (by rw [hA61]; exact hr61); rw [← hy61, ← hA61, ← hc61] at hcut61; have HO133 := Aside0.mk (show Kd.V (Kd.int .u8) 5 _ w.heap.size _ (.slice A61 y129.length c61) y129 from Kd.V_mk (by rw [hy61, hc61]; exact Nat.sub_le_sub_right (Nat.le_trans (by omega) hroom61) _) hr61); have HC133 := Aside0.mk (show y129.length ≤ c61 from by rw [hy61, hc61]; exact Nat.sub_le_sub_right (Nat.le_trans (by omega) hroom61) _); clear hr61 hC61 hroom61 hi061 hsz61 hc61; have KY61 := Aside0.mk hy61; have KA61 := Aside0.mk hA61; clear hy61 hA61; replace q61 := eq_true q61) | ((with_reducible refine gate_callee (f := 24) rfl ?_); refine goesL_ (some 81) rfl rfl Tryd.func24 (by kernel_rfl) rfl #[.slice A61 y129.length c61] rfl (by (try simp only [List.map_toArray, List.map_cons, List.map_nil]); first | done | rfl | (simp only [List.length_drop, List.length_take]; rfl)) ?_; (with_reducible refine (spec_l5Int.calls k2 _ _ y129 t134 _ ?side1 ?side2 A39.out).mono ?_); (case side1 => repeat (first | exact (Kd.V_reads' HO133.out).2.2 | (with_reducible refine Kd.C_alloc ?_ _) | (with_reducible refine Kd.C_drewN ?_ _) | (with_reducible refine Kd.C_drew ?_))); (case side2 => exact (Kd.V_reads' HO133.out).2.1); rintro e w' ⟨rfl, ⟨nd, rfl⟩⟩; refine ⟨_, rfl, ?_⟩; (try (rw [drewN_self wr]; generalize hq_ : World.drewN wr _ = wr; have n0_ : Aside0 (Kd.V (Kd.int .u8) 5 wr w.heap.size (fun k_ => (((P0_ k_ ∨ w.heap.size ≤ k_)) ∧ (some k_ ≠ (u5 : Value).ownBlock ∧ k_ ≠ gb106))) (.slice A57 y112.length c57) y112) := ⟨by rw [← hq_]; exact (by (with_reducible repeat (first | apply Kd.V_alloc | apply Kd.V_drewN | apply Kd.V_drew)); exact HO116.out)⟩; have n1_ : Aside0 (Kd.V (Kd.int .u8) 5 wr w.heap.size (fun k_ => (((P0_ k_ ∨ w.heap.size ≤ k_)) ∧ (some k_ ≠ (u5 : Value).ownBlock ∧ k_ ≠ gb106))) (.slice A58 y118.length c58) y118) := ⟨by rw [← hq_]; exact (by (with_reducible repeat (first | apply Kd.V_alloc | apply Kd.V_drewN | apply Kd.V_drew)); exact HO122.out)⟩; have n2_ : Aside0 (Kd.V (Kd.int .u8) 5 wr w.heap.size (fun k_ => (((P0_ k_ ∨ w.heap.size ≤ k_)) ∧ (some k_ ≠ (u5 : Value).ownBlock ∧ k_ ≠ gb106))) (.slice A58 y123.length c58) y123) := ⟨by rw [← hq_]; exact (by (with_reducible repeat (first | apply Kd.V_alloc | apply Kd.V_drewN | apply Kd.V_drew)); exact HO127.out)⟩; have n3_ : Aside0 (Kd.V (Kd.int .u8) 5 wr w.heap.size (fun k_ => (((P0_ k_ ∨ w.heap.size ≤ k_)) ∧ (some k_ ≠ (u5 : Value).ownBlock ∧ k_ ≠ gb106))) (.slice A61 y129.length c61) y129) := ⟨by rw [← hq_]; exact (by (with_reducible repeat (first | apply Kd.V_alloc | apply Kd.V_drewN | apply Kd.V_drew)); exact HO133.out)⟩; have n4_ : Aside0 (Kd.V (Kd.int .u8) 5 wr w.heap.size (fun k_ => (((P0_ k_ ∨ w.heap.size ≤ k_)) ∧ (some k_ ≠ (u5 : Value).ownBlock ∧ k_ ≠ gb106))) (.slice A0 l0.length c0) l0) := ⟨by rw [← hq_]; exact (by (with_reducible repeat (first | apply Kd.V_alloc | apply Kd.V_drewN | apply Kd.V_drew)); exact HO_0.out)⟩; have n5_ : Aside0 (Kd.S k46 46 wr w.heap.size (fun k_ => ((w.heap.size ≤ k_))) u5 x5_2) := ⟨by rw [← hq_]; exact (by (with_reducible repeat (first | apply Kd.S_alloc | apply Kd.S_drewN | apply Kd.S_drew)); exact HO_5.out)⟩; have n6_ : Aside0 (wr.heap[gb106]? = some (.cells #[.int .i64 x107000_2, .slice none 0 0] 25 (0, 0))) := ⟨by rw [← hq_]; exact (by (with_reducible repeat (first | refine blk_drewN ?_ _ | refine blk_drew ?_ | refine blk_alloc ?_ _)); exact BK106.out)⟩; have n7_ : Aside0 (Below w.heap.size w wr) := ⟨by rw [← hq_]; exact (by repeat (first | (with_reducible first | exact HB.out | apply below_alloc | apply pw_below_drewN | apply below_drew1 | refine below_set ?_ GE106.out) | exact HB.out))⟩; clear HO116 HO122 HO127 HO133 HO_0 HO_5 BK106 HB hq_; have HO116 := n0_; have HO122 := n1_; have HO127 := n2_; have HO133 := n3_; have HO_0 := n4_; have HO_5 := n5_; have BK106 := n6_; have HB := n7_; clear n0_ n1_ n2_ n3_ n4_ n5_ n6_ n7_))) | ((with_reducible refine gate_callee (f := 26) rfl ?_); refine goesL_ (some 84) rfl rfl Tryd.func26 (by kernel_rfl) rfl #[.slice A58 y118.length c58] rfl (by (try simp only [List.map_toArray, List.map_cons, List.map_nil]); first | done | rfl | (simp only [List.length_drop, List.length_take]; rfl)) ?_; (with_reducible refine (spec_Crc.calls k2 _ _ y118 t135 _ ?side1 ?side2 A40.out).mono ?_); (case side1 => repeat (first | exact (Kd.V_reads' HO122.out).2.2 | (with_reducible refine Kd.C_alloc ?_ _) | (with_reducible refine Kd.C_drewN ?_ _) | (with_reducible refine Kd.C_drew ?_))); (case side2 => exact (Kd.V_reads' HO122.out).2.1); rintro e w' ⟨rfl, ⟨nd, rfl⟩⟩; refine ⟨_, rfl, ?_⟩; (try (rw [drewN_self wr]; generalize hq_ : World.drewN wr _ = wr; have n0_ : Aside0 (Kd.V (Kd.int .u8) 5 wr w.heap.size (fun k_ => (((P0_ k_ ∨ w.heap.size ≤ k_)) ∧ (some k_ ≠ (u5 : Value).ownBlock ∧ k_ ≠ gb106))) (.slice A57 y112.length c57) y112) := ⟨by rw [← hq_]; exact (by (with_reducible repeat (first | apply Kd.V_alloc | apply Kd.V_drewN | apply Kd.V_drew)); exact HO116.out)⟩; have n1_ : Aside0 (Kd.V (Kd.int .u8) 5 wr w.heap.size (fun k_ => (((P0_ k_ ∨ w.heap.size ≤ k_)) ∧ (some k_ ≠ (u5 : Value).ownBlock ∧ k_ ≠ gb106))) (.slice A58 y118.length c58) y118) := ⟨by rw [← hq_]; exact (by (with_reducible repeat (first | apply Kd.V_alloc | apply Kd.V_drewN | apply Kd.V_drew)); exact HO122.out)⟩; have n2_ : Aside0 (Kd.V (Kd.int .u8) 5 wr w.heap.size (fun k_ => (((P0_ k_ ∨ w.heap.size ≤ k_)) ∧ (some k_ ≠ (u5 : Value).ownBlock ∧ k_ ≠ gb106))) (.slice A58 y123.length c58) y123) := ⟨by rw [← hq_]; exact (by (with_reducible repeat (first | apply Kd.V_alloc | apply Kd.V_drewN | apply Kd.V_drew)); exact HO127.out)⟩; have n3_ : Aside0 (Kd.V (Kd.int .u8) 5 wr w.heap.size (fun k_ => (((P0_ k_ ∨ w.heap.size ≤ k_)) ∧ (some k_ ≠ (u5 : Value).ownBlock ∧ k_ ≠ gb106))) (.slice A61 y129.length c61) y129) := ⟨by rw [← hq_]; exact (by (with_reducible repeat (first | apply Kd.V_alloc | apply Kd.V_drewN | apply Kd.V_drew)); exact HO133.out)⟩; have n4_ : Aside0 (Kd.V (Kd.int .u8) 5 wr w.heap.size (fun k_ => (((P0_ k_ ∨ w.heap.size ≤ k_)) ∧ (some k_ ≠ (u5 : Value).ownBlock ∧ k_ ≠ gb106))) (.slice A0 l0.length c0) l0) := ⟨by rw [← hq_]; exact (by (with_reducible repeat (first | apply Kd.V_alloc | apply Kd.V_drewN | apply Kd.V_drew)); exact HO_0.out)⟩; have n5_ : Aside0 (Kd.S k46 46 wr w.heap.size (fun k_ => ((w.heap.size ≤ k_))) u5 x5_2) := ⟨by rw [← hq_]; exact (by (with_reducible repeat (first | apply Kd.S_alloc | apply Kd.S_drewN | apply Kd.S_drew)); exact HO_5.out)⟩; have n6_ : Aside0 (wr.heap[gb106]? = some (.cells #[.int .i64 x107000_2, .slice none 0 0] 25 (0, 0))) := ⟨by rw [← hq_]; exact (by (with_reducible repeat (first | refine blk_drewN ?_ _ | refine blk_drew ?_ | refine blk_alloc ?_ _)); exact BK106.out)⟩; have n7_ : Aside0 (Below w.heap.size w wr) := ⟨by rw [← hq_]; exact (by repeat (first | (with_reducible first | exact HB.out | apply below_alloc | apply pw_below_drewN | apply below_drew1 | refine below_set ?_ GE106.out) | exact HB.out))⟩; clear HO116 HO122 HO127 HO133 HO_0 HO_5 BK106 HB hq_; have HO116 := n0_; have HO122 := n1_; have HO127 := n2_; have HO133 := n3_; have HO_0 := n4_; have HO_5 := n5_; have BK106 := n6_; have HB := n7_; clear n0_ n1_ n2_ n3_ n4_ n5_ n6_ n7_)); have hcz62_0 : wr.cell? ⟨gb106, 0, none⟩ = some (.int .i64 x107000_2) := (blk_cell BK106.out 0).trans rfl; have hcz62_1 : wr.cell? ⟨gb106, 1, none⟩ = some (.slice none 0 0) := (blk_cell BK106.out 1).trans rfl; have hfz62_0 := blk_frozen BK106.out 0; have hfz62_1 := blk_frozen BK106.out 1))
            refine bodyPost_ret (results_cell_row rfl _ _ gb106 25 #[.int .i64 3, .slice none 0 0] (0, 0) _ rfl (by (with_reducible repeat (first | refine blk_drewN ?_ _ | refine blk_drew ?_ | refine blk_alloc ?_ _)); refine blk_put (cs := #[.int .i64 3, .slice none 0 0]) ?_ 1 _ rfl; (with_reducible repeat (first | refine blk_drewN ?_ _ | refine blk_drew ?_ | refine blk_alloc ?_ _)); refine blk_put (cs := #[.int .i64 x107000_2, .slice none 0 0]) ?_ 0 _ rfl; (with_reducible repeat (first | refine blk_drewN ?_ _ | refine blk_drew ?_ | refine blk_alloc ?_ _)); exact BK106.out) Tryd.underlying25 rfl (by kernel_rfl)) rfl ?_
            exact ⟨_, by first | rfl | (simp [errW_none, errW_some] <;> rfl) | (simp only [← hji28, ← hji35]; first | rfl | (simp [errW_none, errW_some] <;> rfl)) | (simp [*, errW_none, errW_some] <;> rfl), by first | exact Kd.S_nil _ _ _ _ _ | exact Kd.N_nil _ _ _ _ _ | exact Kd.V_nil _ _ _ _ _ | exact Kd.Q_nil _ _ _ _ _ | exact Kd.R_nil _ _ _ _ _, by repeat (first | (with_reducible first | exact HB.out | apply below_alloc | apply pw_below_drewN | apply below_drew1 | refine below_set ?_ GE106.out) | exact HB.out)⟩
          rw [if_pos c41] at H
          have c41b0 : (((t134) % 4294967296) == t135) = true := beq_iff_eq.mpr c41
          have c41b1 : (((t134) % 4294967296) != t135) = false := bne_eq_false_iff_eq.mpr c41
          clear c41
          have c42b0 := eq_true (of_decide_eq_true (by first | (with_reducible assumption) | assumption) : 4 ≤ (y118.length : Int))
          obtain ⟨y136, hy136⟩ : ∃ y_ : List Int, y_ = (y118.drop 4) := ⟨_, rfl⟩
          replace H : (if ([] : List Int).length + y136.length < 140737488355328 then (if x5_2.length < 3518437208883 then (spec_ReadChunks.l1 k2 l0 (x5_2 ++ [(⟨strOfNums (y118.take 4), (([] : List Int) ++ y136)⟩ : S46)]) (wrap64 (x6_2 + (wrap64 (12 + t117))))) else (none)) else (none)) = some (r1, r2) := by first | (rw [hy136]; with_reducible exact H) | (have H2_ := (Option.bind_some _ _).symm.trans H; rw [hy136]; with_reducible exact H2_) | (have H2_ := (Option.bind_some _ _).symm.trans H; with_reducible exact H2_) | with_reducible exact H | (rw [hy136]; exact H) | exact H
          have Ny136 := Aside0.mk hy136
          clear hy136
          by_cases c43 : ([] : List Int).length + y136.length < 140737488355328
          rotate_left
          · rw [if_neg c43] at H
            exact absurd H (by simp)
          rw [if_pos c43] at H
          have LMc43 := Aside0.mk c43
          clear c43
          obtain ⟨y141, hy141⟩ : ∃ y_ : List Int, y_ = (([] : List Int) ++ y136) := ⟨_, rfl⟩
          replace H : (if x5_2.length < 3518437208883 then (spec_ReadChunks.l1 k2 l0 (x5_2 ++ [(⟨strOfNums (y118.take 4), y141⟩ : S46)]) (wrap64 (x6_2 + (wrap64 (12 + t117))))) else (none)) = some (r1, r2) := by first | (rw [hy141]; with_reducible exact H) | (have H2_ := (Option.bind_some _ _).symm.trans H; rw [hy141]; with_reducible exact H2_) | (have H2_ := (Option.bind_some _ _).symm.trans H; with_reducible exact H2_) | with_reducible exact H | (rw [hy141]; exact H) | exact H
          have Ny141 := Aside0.mk hy141
          clear hy141
          have c44b0 := eq_true (of_decide_eq_true (by first | (with_reducible assumption) | assumption) : 4 ≤ (y118.length : Int))
          obtain ⟨y144, hy144⟩ : ∃ y_ : List Int, y_ = (y118.take 4) := ⟨_, rfl⟩
          replace H : (if x5_2.length < 3518437208883 then (spec_ReadChunks.l1 k2 l0 (x5_2 ++ [(⟨strOfNums y144, y141⟩ : S46)]) (wrap64 (x6_2 + (wrap64 (12 + t117))))) else (none)) = some (r1, r2) := by first | (rw [hy144]; with_reducible exact H) | (have H2_ := (Option.bind_some _ _).symm.trans H; rw [hy144]; with_reducible exact H2_) | (have H2_ := (Option.bind_some _ _).symm.trans H; with_reducible exact H2_) | with_reducible exact H | (rw [hy144]; exact H) | exact H
          have Ny144 := Aside0.mk hy144
          clear hy144
          by_cases c45 : x5_2.length < 3518437208883
          rotate_left
          · rw [if_neg c45] at H
            exact absurd H (by simp)
          rw [if_pos c45] at H
          have LMc45 := Aside0.mk c45
          clear c45
          obtain ⟨y149, hy149⟩ : ∃ y_ : List (S46), y_ = (x5_2 ++ [(⟨strOfNums y144, y141⟩ : S46)]) := ⟨_, rfl⟩
          replace H : (spec_ReadChunks.l1 k2 l0 y149 (wrap64 (x6_2 + (wrap64 (12 + t117))))) = some (r1, r2) := by first | (rw [hy149]; with_reducible exact H) | (have H2_ := (Option.bind_some _ _).symm.trans H; rw [hy149]; with_reducible exact H2_) | (have H2_ := (Option.bind_some _ _).symm.trans H; with_reducible exact H2_) | with_reducible exact H | (rw [hy149]; exact H) | exact H
          have Ny149 := Aside0.mk hy149
          clear hy149
          have H' := Aside0.mk H
          clear H
          have q46 : ((ji28) : Int) ≤ ((l0.length : Int) : Int) := of_decide_eq_true (by first | (with_reducible assumption) | assumption)
          obtain ⟨i046, hi046, _, hsz46, _⟩ := info_parts info5
          have hroom46 : l0.length ≤ c0 := (Kd.V_reads' HO_0.out).2.1
          have hC46 : Kd.F (Kd.int .u8) _ _ A0 l0.length l0 := (Kd.V_at (base := w.heap.size) HO_0.out).2.2
          have ql46 : (x6_2 : Int) ≤ ((ji28) : Int) := of_decide_eq_true (by first | (with_reducible assumption) | assumption)
          have q046 : (0 : Int) ≤ (x6_2 : Int) := of_decide_eq_true (by first | (with_reducible assumption) | assumption)
          have hcut46 := cut_mid (P := Tryd.prog) 22 5 .i64 .i64 Tryd.underlying22 hi046 1 hsz46 A0 l0.length c0 x6_2 (ji28) q046 ql46 q46 hroom46
          have hr46 := Kd.F_mid (lo := (x6_2 : Int).toNat) (hi := ((ji28) : Int).toNat) (c := c0) hC46 (by omega) (by omega) hroom46
          obtain ⟨A46, hA46⟩ : ∃ A1, A1 = (if c0 = (x6_2 : Int).toNat then A0 else (A0 : Option Addr).map (·.add ((x6_2 : Int).toNat * 1))) := ⟨_, rfl⟩
          obtain ⟨c46, hc46⟩ : ∃ c1, c1 = c0 - (x6_2 : Int).toNat := ⟨_, rfl⟩
          have hy46 : y112.length = ((ji28) : Int).toNat - (x6_2 : Int).toNat := (by rw [Ny112.out, List.length_drop, List.length_take] <;> omega)
          rw [show ((l0).take ((ji28) : Int).toNat).drop (x6_2 : Int).toNat = y112 from Ny112.out.symm] at hr46
          replace hr46 : Kd.F (Kd.int .u8) _ _ A46 y112.length y112 := (by rw [hA46]; exact hr46)
          rw [← hy46, ← hA46, ← hc46] at hcut46
          have HO116 := Aside0.mk (show Kd.V (Kd.int .u8) 5 _ w.heap.size _ (.slice A46 y112.length c46) y112 from Kd.V_mk (by rw [hy46, hc46]; exact Nat.sub_le_sub_right (Nat.le_trans (by omega) hroom46) _) hr46)
          have HC116 := Aside0.mk (show y112.length ≤ c46 from by rw [hy46, hc46]; exact Nat.sub_le_sub_right (Nat.le_trans (by omega) hroom46) _)
          clear hr46 hC46 hroom46 hi046 hsz46 hc46
          have KY46 := Aside0.mk hy46
          have KA46 := Aside0.mk hA46
          clear hy46 hA46
          replace q46 := eq_true q46
          go_wp2_with (first | ((with_reducible refine gate_callee (f := 24) rfl ?_); refine goesL_ (some 48) rfl rfl Tryd.func24 (by kernel_rfl) rfl #[.slice A46 y112.length c46] rfl (by (try simp only [List.map_toArray, List.map_cons, List.map_nil]); first | done | rfl | (simp only [List.length_drop, List.length_take]; rfl)) ?_; (with_reducible refine (spec_l5Int.calls k2 _ _ y112 t117 _ ?side1 ?side2 A24.out).mono ?_); (case side1 => repeat (first | exact (Kd.V_reads' HO116.out).2.2 | (with_reducible refine Kd.C_alloc ?_ _) | (with_reducible refine Kd.C_drewN ?_ _) | (with_reducible refine Kd.C_drew ?_))); (case side2 => exact (Kd.V_reads' HO116.out).2.1); rintro e w' ⟨rfl, ⟨nd, rfl⟩⟩; refine ⟨_, rfl, ?_⟩; have q47 : ((ji35) : Int) ≤ ((l0.length : Int) : Int) := of_decide_eq_true (by first | (with_reducible assumption) | assumption); obtain ⟨i047, hi047, _, hsz47, _⟩ := info_parts info5; have hroom47 : l0.length ≤ c0 := (Kd.V_reads' HO_0.out).2.1; have hC47 : Kd.F (Kd.int .u8) _ _ A0 l0.length l0 := (Kd.V_at (base := w.heap.size) HO_0.out).2.2; have ql47 : ((ji28) : Int) ≤ ((ji35) : Int) := of_decide_eq_true (by first | (with_reducible assumption) | assumption); have q047 : (0 : Int) ≤ ((ji28) : Int) := of_decide_eq_true (by first | (with_reducible assumption) | assumption); have hcut47 := cut_mid (P := Tryd.prog) 22 5 .i64 .i64 Tryd.underlying22 hi047 1 hsz47 A0 l0.length c0 (ji28) (ji35) q047 ql47 q47 hroom47; have hr47 := Kd.F_mid (lo := ((ji28) : Int).toNat) (hi := ((ji35) : Int).toNat) (c := c0) hC47 (by omega) (by omega) hroom47; obtain ⟨A47, hA47⟩ : ∃ A1, A1 = (if c0 = ((ji28) : Int).toNat then A0 else (A0 : Option Addr).map (·.add (((ji28) : Int).toNat * 1))) := ⟨_, rfl⟩; obtain ⟨c47, hc47⟩ : ∃ c1, c1 = c0 - ((ji28) : Int).toNat := ⟨_, rfl⟩; have hy47 : y118.length = ((ji35) : Int).toNat - ((ji28) : Int).toNat := (by rw [Ny118.out, List.length_drop, List.length_take] <;> omega); rw [show ((l0).take ((ji35) : Int).toNat).drop ((ji28) : Int).toNat = y118 from Ny118.out.symm] at hr47; replace hr47 : Kd.F (Kd.int .u8) _ _ A47 y118.length y118 := (by rw [hA47]; exact hr47); rw [← hy47, ← hA47, ← hc47] at hcut47; have HO122 := Aside0.mk (show Kd.V (Kd.int .u8) 5 _ w.heap.size _ (.slice A47 y118.length c47) y118 from Kd.V_mk (by rw [hy47, hc47]; exact Nat.sub_le_sub_right (Nat.le_trans (by omega) hroom47) _) hr47); have HC122 := Aside0.mk (show y118.length ≤ c47 from by rw [hy47, hc47]; exact Nat.sub_le_sub_right (Nat.le_trans (by omega) hroom47) _); clear hr47 hC47 hroom47 hi047 hsz47 hc47; have KY47 := Aside0.mk hy47; have KA47 := Aside0.mk hA47; clear hy47 hA47; replace q47 := eq_true q47; have q48 : (4 : Int) ≤ ((y118.length : Int) : Int) := of_decide_eq_true (by first | (with_reducible assumption) | assumption); obtain ⟨i048, hi048, _, hsz48, _⟩ := info_parts info5; have hroom48 : y118.length ≤ c47 := (Kd.V_reads' HO122.out).2.1; have hC48 : Kd.F (Kd.int .u8) _ _ A47 y118.length y118 := (Kd.V_at (base := w.heap.size) HO122.out).2.2; have hcut48 := cut_to (P := Tryd.prog) 22 5 .i64 Tryd.underlying22 hi048 A47 y118.length c47 4 (by omega) q48 hroom48; have hr48 := Kd.F_take (m := 4) hC48 (by omega); have hy48 : y123.length = (4 : Int).toNat := (by rw [Ny123.out, List.length_take]; omega); rw [← Ny123.out] at hr48; rw [← hy48] at hcut48; have HO127 := Aside0.mk (show Kd.V (Kd.int .u8) 5 _ w.heap.size _ (.slice A47 y123.length c47) y123 from Kd.V_mk (by omega) hr48); have HC127 := Aside0.mk (show y123.length ≤ c47 from by omega); clear hr48 hC48 hroom48 hi048 hsz48; have KY48 := Aside0.mk hy48; clear hy48; replace q48 := eq_true q48; have hcv49 := V_string (P := Tryd.prog) Tryd.underlying22 Tryd.underlying5 Tryd.underlying9 HO127.out; have hcw49 := fun m => V_string (P := Tryd.prog) Tryd.underlying22 Tryd.underlying5 Tryd.underlying9 (Kd.V_drewN HO127.out m)) | ((with_reducible refine gate_callee (f := 25) rfl ?_); refine goesL_ (some 68) rfl rfl Tryd.func25 (by kernel_rfl) rfl #[.string (strOfNums y123)] rfl (by (try simp only [List.map_toArray, List.map_cons, List.map_nil]); first | done | rfl | (simp only [List.length_drop, List.length_take]; rfl)) ?_; (with_reducible refine (spec_l5Name.calls k2 (strOfNums y123) true _ A33.out).mono ?_); rintro e w' ⟨rfl, ⟨nd, rfl⟩⟩; refine ⟨_, rfl, ?_⟩; have q50 : ((wrap64 ((wrap64 (x6_2 + 12)) + t117)) : Int) ≤ ((l0.length : Int) : Int) := of_decide_eq_true (by first | (with_reducible assumption) | assumption); obtain ⟨i050, hi050, _, hsz50, _⟩ := info_parts info5; have hroom50 : l0.length ≤ c0 := (Kd.V_reads' HO_0.out).2.1; have hC50 : Kd.F (Kd.int .u8) _ _ A0 l0.length l0 := (Kd.V_at (base := w.heap.size) HO_0.out).2.2; have ql50 : ((ji35) : Int) ≤ ((wrap64 ((wrap64 (x6_2 + 12)) + t117)) : Int) := of_decide_eq_true (by first | (with_reducible assumption) | assumption); have q050 : (0 : Int) ≤ ((ji35) : Int) := of_decide_eq_true (by first | (with_reducible assumption) | assumption); have hcut50 := cut_mid (P := Tryd.prog) 22 5 .i64 .i64 Tryd.underlying22 hi050 1 hsz50 A0 l0.length c0 (ji35) (wrap64 ((wrap64 (x6_2 + 12)) + t117)) q050 ql50 q50 hroom50; have hr50 := Kd.F_mid (lo := ((ji35) : Int).toNat) (hi := ((wrap64 ((wrap64 (x6_2 + 12)) + t117)) : Int).toNat) (c := c0) hC50 (by omega) (by omega) hroom50; obtain ⟨A50, hA50⟩ : ∃ A1, A1 = (if c0 = ((ji35) : Int).toNat then A0 else (A0 : Option Addr).map (·.add (((ji35) : Int).toNat * 1))) := ⟨_, rfl⟩; obtain ⟨c50, hc50⟩ : ∃ c1, c1 = c0 - ((ji35) : Int).toNat := ⟨_, rfl⟩; have hy50 : y129.length = ((wrap64 ((wrap64 (x6_2 + 12)) + t117)) : Int).toNat - ((ji35) : Int).toNat := (by rw [Ny129.out, List.length_drop, List.length_take] <;> omega); rw [show ((l0).take ((wrap64 ((wrap64 (x6_2 + 12)) + t117)) : Int).toNat).drop ((ji35) : Int).toNat = y129 from Ny129.out.symm] at hr50; replace hr50 : Kd.F (Kd.int .u8) _ _ A50 y129.length y129 := (by rw [hA50]; exact hr50); rw [← hy50, ← hA50, ← hc50] at hcut50; have HO133 := Aside0.mk (show Kd.V (Kd.int .u8) 5 _ w.heap.size _ (.slice A50 y129.length c50) y129 from Kd.V_mk (by rw [hy50, hc50]; exact Nat.sub_le_sub_right (Nat.le_trans (by omega) hroom50) _) hr50); have HC133 := Aside0.mk (show y129.length ≤ c50 from by rw [hy50, hc50]; exact Nat.sub_le_sub_right (Nat.le_trans (by omega) hroom50) _); clear hr50 hC50 hroom50 hi050 hsz50 hc50; have KY50 := Aside0.mk hy50; have KA50 := Aside0.mk hA50; clear hy50 hA50; replace q50 := eq_true q50) | ((with_reducible refine gate_callee (f := 24) rfl ?_); refine goesL_ (some 81) rfl rfl Tryd.func24 (by kernel_rfl) rfl #[.slice A50 y129.length c50] rfl (by (try simp only [List.map_toArray, List.map_cons, List.map_nil]); first | done | rfl | (simp only [List.length_drop, List.length_take]; rfl)) ?_; (with_reducible refine (spec_l5Int.calls k2 _ _ y129 t134 _ ?side1 ?side2 A39.out).mono ?_); (case side1 => repeat (first | exact (Kd.V_reads' HO133.out).2.2 | (with_reducible refine Kd.C_alloc ?_ _) | (with_reducible refine Kd.C_drewN ?_ _) | (with_reducible refine Kd.C_drew ?_))); (case side2 => exact (Kd.V_reads' HO133.out).2.1); rintro e w' ⟨rfl, ⟨nd, rfl⟩⟩; refine ⟨_, rfl, ?_⟩) | ((with_reducible refine gate_callee (f := 26) rfl ?_); refine goesL_ (some 84) rfl rfl Tryd.func26 (by kernel_rfl) rfl #[.slice A47 y118.length c47] rfl (by (try simp only [List.map_toArray, List.map_cons, List.map_nil]); first | done | rfl | (simp only [List.length_drop, List.length_take]; rfl)) ?_; (with_reducible refine (spec_Crc.calls k2 _ _ y118 t135 _ ?side1 ?side2 A40.out).mono ?_); (case side1 => repeat (first | exact (Kd.V_reads' HO122.out).2.2 | (with_reducible refine Kd.C_alloc ?_ _) | (with_reducible refine Kd.C_drewN ?_ _) | (with_reducible refine Kd.C_drew ?_))); (case side2 => exact (Kd.V_reads' HO122.out).2.1); rintro e w' ⟨rfl, ⟨nd, rfl⟩⟩; refine ⟨_, rfl, ?_⟩; have q51 : (4 : Int) ≤ ((y118.length : Int) : Int) := of_decide_eq_true (by first | (with_reducible assumption) | assumption); obtain ⟨i051, hi051, _, hsz51, _⟩ := info_parts info5; have hroom51 : y118.length ≤ c47 := (Kd.V_reads' HO122.out).2.1; have hC51 : Kd.F (Kd.int .u8) _ _ A47 y118.length y118 := (Kd.V_at (base := w.heap.size) HO122.out).2.2; have hcut51 := cut_from (P := Tryd.prog) 22 5 .i64 Tryd.underlying22 hi051 1 hsz51 A47 y118.length c47 4 (by omega) q51; have hr51 := Kd.F_cut (m := (4 : Int).toNat) (c := c47) hC51 (by omega) hroom51; obtain ⟨A51, hA51⟩ : ∃ A1, A1 = (if c47 = (4 : Int).toNat then A47 else (A47 : Option Addr).map (·.add ((4 : Int).toNat * 1))) := ⟨_, rfl⟩; obtain ⟨c51, hc51⟩ : ∃ c1, c1 = c47 - (4 : Int).toNat := ⟨_, rfl⟩; have hy51 : y136.length = y118.length - (4 : Int).toNat := (by rw [Ny136.out, List.length_drop] <;> omega); rw [show (y118).drop (4 : Int).toNat = y136 from Ny136.out.symm] at hr51; replace hr51 : Kd.F (Kd.int .u8) _ _ A51 y136.length y136 := (by rw [hA51]; exact hr51); rw [← hy51, ← hA51, ← hc51] at hcut51; have HO140 := Aside0.mk (show Kd.V (Kd.int .u8) 5 _ w.heap.size _ (.slice A51 y136.length c51) y136 from Kd.V_mk (by rw [hy51, hc51]; exact Nat.sub_le_sub_right hroom51 _) hr51); have HC140 := Aside0.mk (show y136.length ≤ c51 from by rw [hy51, hc51]; exact Nat.sub_le_sub_right hroom51 _); clear hr51 hC51 hroom51 hi051 hsz51 hc51; have KY51 := Aside0.mk hy51; have KA51 := Aside0.mk hA51; clear hy51 hA51; replace q51 := eq_true q51) | ((with_reducible refine gate_builtin (b := .append) (xs := #[.tmp 87, .tmp 89]) rfl ?_); at_builtin; refine Kd.R_append_rows (Kd.int .u8) (w0 := w) w.heap.size rfl (.tmp 87) (.tmp 89) 22 5 (.int .u8 0) 1 rfl Tryd.underlying22 info5 rfl (by decide) (by omega) (.slice none 0 0) ([] : List Int) y136 _ _ _ (fun k_ => (w.heap.size ≤ k_)) (fun _ => False) rfl rfl ?aO ?aR (fun _ _ h => h) (fun _ h => h.elim) ?aF ?aB ?aS ?aL ?_; (case aR => repeat (first | exact (Kd.V_reads' HO140.out).2.2 | (with_reducible refine Kd.C_alloc ?_ _) | (with_reducible refine Kd.C_drewN ?_ _) | (with_reducible refine Kd.C_drew ?_))); (case aB => exact (by repeat (first | (with_reducible first | exact HB.out | apply below_alloc | apply pw_below_drewN | apply below_drew1 | refine below_set ?_ GE106.out) | exact HB.out))); (case aF => exact (fun k_ hk => (Nat.le_trans (below_size (by repeat (first | (with_reducible first | exact HB.out | apply below_alloc | apply pw_below_drewN | apply below_drew1 | refine below_set ?_ GE106.out) | exact HB.out))) hk))); (case aO => exact ((Kd.R_nil _ _ _ _ (fun k_ => (w.heap.size ≤ k_))))); (case aS => exact (below_size (by repeat (first | (with_reducible first | exact HB.out | apply below_alloc | apply pw_below_drewN | apply below_drew1 | refine below_set ?_ GE106.out) | exact HB.out)))); (case aL => have := LMc43.out; omega); intro v142 w52 ho hb hg hat; rw [← Ny141.out] at ho; have n0_ := Aside0.mk (Kd.V_afterv (Kd.V_apart_nil (by (with_reducible repeat (first | apply Kd.V_alloc | apply Kd.V_drewN | apply Kd.V_drew)); exact HO_0.out)) hg hat); have n1_ := Aside0.mk (Kd.S_after (Kd.S_apart_nil (by (with_reducible repeat (first | apply Kd.S_alloc | apply Kd.S_drewN | apply Kd.S_drew)); exact HO_5.out)) hg hat); have n2_ := Aside0.mk (blk_grown (g := gb106) (o := .cells #[.int .i64 x107000_2, .slice none 0 0] 25 (0, 0)) (by (with_reducible repeat (first | refine blk_drewN ?_ _ | refine blk_drew ?_ | refine blk_alloc ?_ _)); exact BK106.out) hg (by simp [Value.ownBlock])); have n3_ := Aside0.mk (Kd.V_afterv (Kd.V_apart_nil (by (with_reducible repeat (first | apply Kd.V_alloc | apply Kd.V_drewN | apply Kd.V_drew)); exact HO116.out)) hg hat); have n4_ := Aside0.mk (Kd.V_afterv (Kd.V_apart_nil (by (with_reducible repeat (first | apply Kd.V_alloc | apply Kd.V_drewN | apply Kd.V_drew)); exact HO122.out)) hg hat); have n5_ := Aside0.mk (Kd.V_afterv (Kd.V_apart_nil (by (with_reducible repeat (first | apply Kd.V_alloc | apply Kd.V_drewN | apply Kd.V_drew)); exact HO127.out)) hg hat); have n6_ := Aside0.mk (Kd.V_afterv (Kd.V_apart_nil (by (with_reducible repeat (first | apply Kd.V_alloc | apply Kd.V_drewN | apply Kd.V_drew)); exact HO133.out)) hg hat); have n7_ := Aside0.mk (Kd.V_afterv (Kd.V_apart_nil (by (with_reducible repeat (first | apply Kd.V_alloc | apply Kd.V_drewN | apply Kd.V_drew)); exact HO140.out)) hg hat); have n8_ := Aside0.mk (hb); have n9_ := Aside0.mk (ho); clear HO_0; clear HO_5; clear BK106; clear HO116; clear HO122; clear HO127; clear HO133; clear HO140; clear HB; have HO_0 := n0_; have HO_5 := n1_; have BK106 := n2_; have HO116 := n3_; have HO122 := n4_; have HO127 := n5_; have HO133 := n6_; have HO140 := n7_; have HB := n8_; have HO143 := n9_; clear n0_ n1_ n2_ n3_ n4_ n5_ n6_ n7_ n8_ n9_; clear ho hb hg hat; have q53 : (4 : Int) ≤ ((y118.length : Int) : Int) := of_decide_eq_true (by first | (with_reducible assumption) | assumption); obtain ⟨i053, hi053, _, hsz53, _⟩ := info_parts info5; have hroom53 : y118.length ≤ c47 := (Kd.V_reads' HO122.out).2.1; have hC53 : Kd.F (Kd.int .u8) _ _ A47 y118.length y118 := (Kd.V_at (base := w.heap.size) HO122.out).2.2; have hcut53 := cut_to (P := Tryd.prog) 22 5 .i64 Tryd.underlying22 hi053 A47 y118.length c47 4 (by omega) q53 hroom53; have hr53 := Kd.F_take (m := 4) hC53 (by omega); have hy53 : y144.length = (4 : Int).toNat := (by rw [Ny144.out, List.length_take]; omega); rw [← Ny144.out] at hr53; rw [← hy53] at hcut53; have HO148 := Aside0.mk (show Kd.V (Kd.int .u8) 5 _ w.heap.size _ (.slice A47 y144.length c47) y144 from Kd.V_mk (by omega) hr53); have HC148 := Aside0.mk (show y144.length ≤ c47 from by omega); clear hr53 hC53 hroom53 hi053 hsz53; have KY53 := Aside0.mk hy53; clear hy53; replace q53 := eq_true q53; have hcv54 := V_string (P := Tryd.prog) Tryd.underlying22 Tryd.underlying5 Tryd.underlying9 HO148.out; have hcx54 := hcv54; rw [show y144.length = y123.length from congrArg List.length (Ny144.out.trans Ny123.out.symm)] at hcx54; have hcw54 := fun m => V_string (P := Tryd.prog) Tryd.underlying22 Tryd.underlying5 Tryd.underlying9 (Kd.V_drewN HO148.out m); obtain ⟨Ao55, co55, eo55⟩ := Kd.R_slice HO143.out; subst eo55) | ((with_reducible refine gate_builtin (b := .append) (xs := #[.tmp 91, .tmp 97]) rfl ?_); at_builtin; refine Kd.S_append k46 (w0 := w) w.heap.size rfl (.tmp 91) (.tmp 97) 23 46 (.agg #[(.string ⟨#[]⟩), (.slice none 0 0)]) 40 rfl Tryd.underlying23 info46 rfl (by decide) (by omega) u5 x5_2 (⟨strOfNums y144, y141⟩ : S46) [.string (strOfNums y144), .slice Ao55 y141.length co55] (fun k_ => (w.heap.size ≤ k_)) (fun k_ => some k_ = (.slice Ao55 y141.length co55 : Value).ownBlock) rfl rfl ?aP (fun k_ hk_ => ((Kd.R_mono (ok' := fun k_ => ((fun k_ => (w.heap.size ≤ k_))) k_ ∧ some k_ ≠ (u5 : Value).ownBlock) (Kd.R_apart' (HO143.out) (Kd.S_typed HO_5.out) (by decide)) (fun k_ hk => ⟨hk.1, hk.2⟩))).1 k_ hk_.symm) ?aF ?aO ?aB ?aS ?aL ?_; (case aP => exact k46_mkM _ _ _ (⟨strOfNums y144, y141⟩ : S46) (Kd.R_mono (Kd.R_tight rfl (Kd.R_mono (ok' := fun k_ => ((fun k_ => (w.heap.size ≤ k_))) k_ ∧ some k_ ≠ (u5 : Value).ownBlock) (Kd.R_apart' (HO143.out) (Kd.S_typed HO_5.out) (by decide)) (fun k_ hk => ⟨hk.1, hk.2⟩))) (fun _ h_ => h_))); (case aB => exact (by repeat (first | (with_reducible first | exact HB.out | apply below_alloc | apply pw_below_drewN | apply below_drew1 | refine below_set ?_ GE106.out) | exact HB.out))); (case aF => exact (fun k_ hk => (Nat.le_trans (below_size (by repeat (first | (with_reducible first | exact HB.out | apply below_alloc | apply pw_below_drewN | apply below_drew1 | refine below_set ?_ GE106.out) | exact HB.out))) hk))); (case aO => exact (by (with_reducible repeat (first | apply Kd.S_alloc | apply Kd.S_drewN | apply Kd.S_drew)); exact Kd.S_mono HO_5.out (fun k_ hk => ⟨hk.1, fun e_ => hk.2 e_⟩))); (case aS => exact (below_size (by repeat (first | (with_reducible first | exact HB.out | apply below_alloc | apply pw_below_drewN | apply below_drew1 | refine below_set ?_ GE106.out) | exact HB.out)))); (case aL => have := LMc45.out; omega); intro v150 w56 ho hb hg hat; rw [← Ny149.out] at ho; have n0_ := Aside0.mk (Kd.V_afterv (ok := (fun k_ => (P0_ k_ ∨ w.heap.size ≤ k_) ∧ some k_ ≠ (.slice Ao55 y141.length co55 : Value).ownBlock ∧ k_ ≠ gb106)) (by (with_reducible repeat (first | apply Kd.V_alloc | apply Kd.V_drewN | apply Kd.V_drew)); exact Kd.V_mono HO_0.out (fun _ hk => ⟨⟨hk.1.1, ⟨hk.2, hk.1.2.2⟩⟩, hk.1.2.1⟩)) hg hat); have n1_ := Aside0.mk (blk_grown (g := gb106) (o := .cells #[.int .i64 x107000_2, .slice none 0 0] 25 (0, 0)) (by (with_reducible repeat (first | refine blk_drewN ?_ _ | refine blk_drew ?_ | refine blk_alloc ?_ _)); exact BK106.out) hg (Kd.S_ne HO_5.out BK106.out (by decide))); have n2_ := Aside0.mk (Kd.V_afterv (ok := (fun k_ => (P0_ k_ ∨ w.heap.size ≤ k_) ∧ some k_ ≠ (.slice Ao55 y141.length co55 : Value).ownBlock ∧ k_ ≠ gb106)) (by (with_reducible repeat (first | apply Kd.V_alloc | apply Kd.V_drewN | apply Kd.V_drew)); exact Kd.V_mono HO116.out (fun _ hk => ⟨⟨hk.1.1, ⟨hk.2, hk.1.2.2⟩⟩, hk.1.2.1⟩)) hg hat); have n3_ := Aside0.mk (Kd.V_afterv (ok := (fun k_ => (P0_ k_ ∨ w.heap.size ≤ k_) ∧ some k_ ≠ (.slice Ao55 y141.length co55 : Value).ownBlock ∧ k_ ≠ gb106)) (by (with_reducible repeat (first | apply Kd.V_alloc | apply Kd.V_drewN | apply Kd.V_drew)); exact Kd.V_mono HO122.out (fun _ hk => ⟨⟨hk.1.1, ⟨hk.2, hk.1.2.2⟩⟩, hk.1.2.1⟩)) hg hat); have n4_ := Aside0.mk (Kd.V_afterv (ok := (fun k_ => (P0_ k_ ∨ w.heap.size ≤ k_) ∧ some k_ ≠ (.slice Ao55 y141.length co55 : Value).ownBlock ∧ k_ ≠ gb106)) (by (with_reducible repeat (first | apply Kd.V_alloc | apply Kd.V_drewN | apply Kd.V_drew)); exact Kd.V_mono HO127.out (fun _ hk => ⟨⟨hk.1.1, ⟨hk.2, hk.1.2.2⟩⟩, hk.1.2.1⟩)) hg hat); have n5_ := Aside0.mk (Kd.V_afterv (ok := (fun k_ => (P0_ k_ ∨ w.heap.size ≤ k_) ∧ some k_ ≠ (.slice Ao55 y141.length co55 : Value).ownBlock ∧ k_ ≠ gb106)) (by (with_reducible repeat (first | apply Kd.V_alloc | apply Kd.V_drewN | apply Kd.V_drew)); exact Kd.V_mono HO133.out (fun _ hk => ⟨⟨hk.1.1, ⟨hk.2, hk.1.2.2⟩⟩, hk.1.2.1⟩)) hg hat); have n6_ := Aside0.mk (Kd.V_afterv (ok := (fun k_ => (P0_ k_ ∨ w.heap.size ≤ k_) ∧ some k_ ≠ (.slice Ao55 y141.length co55 : Value).ownBlock ∧ k_ ≠ gb106)) (by (with_reducible repeat (first | apply Kd.V_alloc | apply Kd.V_drewN | apply Kd.V_drew)); exact Kd.V_mono HO140.out (fun _ hk => ⟨⟨hk.1.1, ⟨hk.2, hk.1.2.2⟩⟩, hk.1.2.1⟩)) hg hat); have n7_ := Aside0.mk (Kd.V_afterv (ok := (fun k_ => (P0_ k_ ∨ w.heap.size ≤ k_) ∧ some k_ ≠ (.slice Ao55 y141.length co55 : Value).ownBlock ∧ k_ ≠ gb106)) (by (with_reducible repeat (first | apply Kd.V_alloc | apply Kd.V_drewN | apply Kd.V_drew)); exact Kd.V_mono HO148.out (fun _ hk => ⟨⟨hk.1.1, ⟨hk.2, hk.1.2.2⟩⟩, hk.1.2.1⟩)) hg hat); have n8_ := Aside0.mk (hb); have n9_ := Aside0.mk (ho); clear HO_0; clear BK106; clear HO116; clear HO122; clear HO127; clear HO133; clear HO140; clear HO148; clear HB; clear HO_5; clear HO143; have HO_0 := n0_; have BK106 := n1_; have HO116 := n2_; have HO122 := n3_; have HO127 := n4_; have HO133 := n5_; have HO140 := n6_; have HO148 := n7_; have HB := n8_; have HO151 := n9_; clear n0_ n1_ n2_ n3_ n4_ n5_ n6_ n7_ n8_ n9_; clear ho hb hg hat))
          go_roundg k2
          case measure => have := HK1.out; have := HK2.out; omega
          case rel => exact ⟨(y149), (wrap64 (x6_2 + (wrap64 (12 + t117)))), (x107000_2), (by first | rfl | (simp; done) | (simp [*]; done)), H', ⟨by have := HK1.out; have := HK2.out; omega⟩, ⟨by (with_reducible repeat (first | apply Kd.V_alloc | apply Kd.V_drewN | apply Kd.V_drew)); exact Kd.V_mono HO_0.out (fun _ hk => ⟨hk.1.1, ⟨hk.2, hk.1.2.2⟩⟩)⟩, ⟨by (with_reducible repeat (first | apply Kd.S_alloc | apply Kd.S_drewN | apply Kd.S_drew)); exact HO151.out⟩, ⟨by (with_reducible repeat (first | refine blk_drewN ?_ _ | refine blk_drew ?_ | refine blk_alloc ?_ _)); exact BK106.out⟩, ⟨by repeat (first | (with_reducible first | exact HB.out | apply below_alloc | apply pw_below_drewN | apply below_drew1 | refine below_set ?_ GE106.out) | exact HB.out)⟩⟩

/-! ### laws_toByteS: function 6 -/
def laws_toByteS.l0 : Nat → List Int → List Int → Int → Option (List Int)
  | 0, _, _, _ => none
  | k + 1, x0, x3, x4 => if x4 < (x0.length : Int) then (if 0 ≤ x4 then (if x4 < (x3.length : Int) then (laws_toByteS.l0 k x0 (x3.set (x4 : Int).toNat (rd x0 x4)) (wrap64 (x4 + 1))) else (none)) else (none)) else (some x3)
def laws_toByteS.f (k : Nat) (l0 : List Int) : Option (List Int) := if 0 ≤ (l0.length : Int) then (if ((l0.length : Int) : Int).toNat ≤ 281474976710656 then (laws_toByteS.l0 k l0 (List.replicate ((l0.length : Int) : Int).toNat 0) 0) else (none)) else (none)
theorem laws_toByteS.mono_l : ∀ k, (∀ y0 y1 y2, LeO (laws_toByteS.l0 k y0 y1 y2) (laws_toByteS.l0 (k + 1) y0 y1 y2))
  | 0 => fun _ _ _ r h => by simp [laws_toByteS.l0] at h
  | k + 1 => by
    have ih0 := laws_toByteS.mono_l k
    · intro y0 y1 y2
      unfold laws_toByteS.l0
      repeat' first
      | (with_reducible exact ih0 _ _ _)
      | (with_reducible exact LeO.refl _)
      | (with_reducible exact LeO.none _)
      | (with_reducible refine LeO.ite ?_ ?_)
      | (with_reducible refine LeO.bind ?_ (fun _ => ?_))
      | exact ih0 _ _ _
      | exact LeO.none _
      | refine LeO.ite ?_ ?_
      | refine LeO.bind ?_ (fun _ => ?_)
theorem laws_toByteS.mono : ∀ a0 k, LeO (laws_toByteS.f k a0) (laws_toByteS.f (k + 1) a0) := by
  intro a0 k
  have ih0 := laws_toByteS.mono_l k
  unfold laws_toByteS.f
  repeat' first
      | (with_reducible exact ih0 _ _ _)
      | (with_reducible exact LeO.refl _)
      | (with_reducible exact LeO.none _)
      | (with_reducible refine LeO.ite ?_ ?_)
      | (with_reducible refine LeO.bind ?_ (fun _ => ?_))
      | exact ih0 _ _ _
      | exact LeO.none _
      | refine LeO.ite ?_ ?_
      | refine LeO.bind ?_ (fun _ => ?_)
set_option maxHeartbeats 8000000 in
set_option maxRecDepth 100000 in
theorem laws_toByteS.calls (k : Nat) (A0 : Option Addr) (c0 : Nat) (l0 : List Int) (r : List Int) (w : World) (hr0 : Kd.C (Kd.int .u8) w A0 l0.length l0) (hc0 : l0.length ≤ c0) (h : laws_toByteS.f k l0 = some r) :
    Calls Tryd.prog 6 #[.slice A0 l0.length c0] w fun e w' => ∃ v0_ : Value, e = .returned (v0_) ∧ Kd.R (Kd.int .u8) 5 w' w.heap.size (fun _ => True) v0_ r ∧ Below w.heap.size w w' := by
  have HR0 := Aside0.mk hr0
  have HC0 := Aside0.mk hc0
  clear hr0 hc0
  have HB := Aside0.mk (Below.refl w.heap.size w)
  have H : (if 0 ≤ (l0.length : Int) then (if ((l0.length : Int) : Int).toNat ≤ 281474976710656 then (laws_toByteS.l0 k l0 (List.replicate ((l0.length : Int) : Int).toNat 0) 0) else (none)) else (none)) = some r := h
  clear h
  by_cases c2 : 0 ≤ (l0.length : Int)
  rotate_left
  · rw [if_neg c2] at H
    exact absurd H (by simp)
  rw [if_pos c2] at H
  have c2b0 := eq_true c2
  have c2b1 : decide (0 ≤ (l0.length : Int)) = true := decide_eq_true c2
  clear c2
  by_cases c3 : ((l0.length : Int) : Int).toNat ≤ 281474976710656
  rotate_left
  · rw [if_neg c3] at H
    exact absurd H (by simp)
  rw [if_pos c3] at H
  have c3b0 := eq_true c3
  have c3b1 : decide (((l0.length : Int) : Int).toNat ≤ 281474976710656) = true := decide_eq_true c3
  clear c3
  obtain ⟨y152, hy152⟩ : ∃ y_ : List Int, y_ = (List.replicate ((l0.length : Int) : Int).toNat 0) := ⟨_, rfl⟩
  replace H : (laws_toByteS.l0 k l0 y152 0) = some r := by first | (rw [hy152]; with_reducible exact H) | (have H2_ := (Option.bind_some _ _).symm.trans H; rw [hy152]; with_reducible exact H2_) | (have H2_ := (Option.bind_some _ _).symm.trans H; with_reducible exact H2_) | with_reducible exact H | (rw [hy152]; exact H) | exact H
  have Ny152 := Aside0.mk hy152
  clear hy152
  have H' := Aside0.mk H
  clear H
  go_enter Tryd.func6, Tryd.ntmps6
  go_wp2_with (first | ((with_reducible refine gate_dst (N := 7) rfl ?_); refine Kd.R_make (Kd.int .u8) _ 5 rfl (N := 7) rfl 22 _ _ rfl (l0.length : Int) rfl rfl Tryd.underlying22 (.int .u8 0) 1 info5 rfl (by decide) (by omega) 0 (ok := fun _ => True) (okp := fun _ => True) rfl (fun _ hk => hk) trivial (of_decide_eq_true (by first | (with_reducible assumption) | assumption)) (Nat.le_trans (Nat.mul_le_mul_right _ (of_decide_eq_true (by first | (with_reducible assumption) | assumption) : (l0.length : Int).toNat ≤ 281474976710656)) (by omega)) (Below.refl _ _) (Nat.le_refl _) ?_; intro v153 w4 ho5 hb hg_ hnew_; clear hg_ hnew_; (first | rw [← Ny152.out] at ho5 | (simp only [Int.reduceToNat] at ho5; rw [← Ny152.out] at ho5)); have n0_ := Aside0.mk (Kd.R_lower ho5 (below_size (by repeat (first | (with_reducible first | exact HB.out | apply below_alloc | apply pw_below_drewN | apply below_drew1) | exact HB.out)))); have n1_ := Aside0.mk (below_step (by repeat (first | (with_reducible first | exact HB.out | apply below_alloc | apply pw_below_drewN | apply below_drew1) | exact HB.out)) hb); clear HB; have HO154 := n0_; have HB := n1_; clear n0_ n1_; clear hb ho5))
  go_loopg [4] k (fun kq v4 w' => ∃ (x3_1 : List Int) (x4_1 : Int), v4 = .int .i64 x4_1 ∧ Aside0 (laws_toByteS.l0 kq l0 x3_1 x4_1 = some r) ∧ Aside0 (kq ≤ k) ∧ Aside0 (Kd.R (Kd.int .u8) 5 w' w.heap.size (fun _ => True) v153 x3_1) ∧ Aside0 (Below w.heap.size w w'))
  case atStart => exact ⟨(y152), (0), (by first | rfl | (simp; done) | (simp [*]; done)), H', ⟨Nat.le_refl _⟩, ⟨by (with_reducible repeat (first | apply Kd.R_alloc | apply Kd.R_drewN | apply Kd.R_drew)); exact HO154.out⟩, ⟨by repeat (first | (with_reducible first | exact HB.out | apply below_alloc | apply pw_below_drewN | apply below_drew1) | exact HB.out)⟩⟩
  case round =>
    clear H'
    try clear c2
    try clear c2b0
    try clear c2b1
    try clear p2
    try clear c3
    try clear c3b0
    try clear c3b1
    obtain ⟨x3_1, x4_1, rfl, HA, HK1, HO_3, HB⟩ := hrel
    cases gk with
    | zero => exact absurd HA.out (by simp [laws_toByteS.l0])
    | succ k1 =>
      have H := HA.out
      clear HA
      simp only [laws_toByteS.l0] at H
      by_cases c6 : x4_1 < (l0.length : Int)
      rotate_left
      · rw [if_neg c6] at H
        have c6b0 : decide (x4_1 < (l0.length : Int)) = false := decide_eq_false c6
        clear c6
        obtain rfl := Option.some.inj H
        go_wp2
        go_ret
        exact ⟨_, by first | rfl | (simp [errW_none, errW_some] <;> rfl) | (simp [*, errW_none, errW_some] <;> rfl), by (with_reducible repeat (first | apply Kd.R_alloc | apply Kd.R_drewN | apply Kd.R_drew)); exact HO_3.out, by repeat (first | (with_reducible first | exact HB.out | apply below_alloc | apply pw_below_drewN | apply below_drew1) | exact HB.out)⟩
      rw [if_pos c6] at H
      have c6b0 : decide (x4_1 < (l0.length : Int)) = true := decide_eq_true c6
      clear c6
      by_cases c7 : 0 ≤ x4_1
      rotate_left
      · rw [if_neg c7] at H
        exact absurd H (by simp)
      rw [if_pos c7] at H
      have c7b0 : decide (0 ≤ x4_1) = true := decide_eq_true c7
      clear c7
      by_cases c8 : x4_1 < (x3_1.length : Int)
      rotate_left
      · rw [if_neg c8] at H
        exact absurd H (by simp)
      rw [if_pos c8] at H
      have c8b0 : decide (x4_1 < (x3_1.length : Int)) = true := decide_eq_true c8
      clear c8
      obtain ⟨y156, hy156⟩ : ∃ y_ : List Int, y_ = (x3_1.set (x4_1 : Int).toNat (rd l0 x4_1)) := ⟨_, rfl⟩
      replace H : (laws_toByteS.l0 k1 l0 y156 (wrap64 (x4_1 + 1))) = some r := by first | (rw [hy156]; with_reducible exact H) | (have H2_ := (Option.bind_some _ _).symm.trans H; rw [hy156]; with_reducible exact H2_) | (have H2_ := (Option.bind_some _ _).symm.trans H; with_reducible exact H2_) | with_reducible exact H | (rw [hy156]; exact H) | exact H
      have Ny156 := Aside0.mk hy156
      clear hy156
      have H' := Aside0.mk H
      clear H
      have p155 : 0 ≤ (x4_1 : Int) := of_decide_eq_true (by first | (with_reducible assumption) | assumption)
      have q155 : x4_1 < (l0.length : Int) := of_decide_eq_true (by first | (with_reducible assumption) | assumption)
      obtain ⟨ad155, e155, hx155_0⟩ := Kd.at_int HR0.out x4_1 p155 q155
      cases e155
      replace hx155_0 := (HB.out.cell (World.block_lt_of_cell? w _ hx155_0)).trans hx155_0
      replace p155 := eq_true p155
      replace q155 := eq_true q155
      have p9 : 0 ≤ (x4_1 : Int) := of_decide_eq_true (by first | (with_reducible assumption) | assumption)
      have q9 : (x4_1 : Int) < ((x3_1.length : Int) : Int) := of_decide_eq_true (by first | (with_reducible assumption) | assumption)
      obtain ⟨go9, co9, eo9, gb9, gl9, cl9, HG9⟩ := Kd.R_form HO_3.out (by omega)
      (first | cases eo9 | (injection eo9 with ea_ en_ ec_; (first | subst ea_ | (injection ea_ with ea_; subst ea_)); subst ec_; clear en_))
      have GB9 := Aside0.mk gb9
      have GG9 := Aside0.mk HG9
      clear gb9 gl9 HG9
      obtain ⟨hx9_0, hf9_0⟩ := Kd.R_celln 0 HO_3.out (x4_1 : Int) p9 q9
      replace p9 := eq_true p9
      replace q9 := eq_true q9
      have HP10 := Kd.R_putg HO_3.out (x4_1 : Int) (rd l0 x4_1)
      go_wp2_with (first | ((with_reducible refine gate_store (t := 5) (p := 20) rfl ?_); refine store_event (t := 5) (p := 20) (v := ?vo_w11) (w1 := (wr.setCell ⟨go9, (x4_1 : Int).toNat, none⟩ (.int .u8 (rd l0 x4_1)))) ?hg ?ho ?hn ?hr ?_; (case ho => rfl); (case hg => rfl); (case hn => rfl); (case hr => first | (go_simp; done) | (go_simp; rfl)); intro w11 hw; have hg : wr.grownBy w11 (some go9) := (by rw [hw]; exact HP10.2); have hp_ : Kd.R (Kd.int .u8) 5 w11 w.heap.size (fun _ => True) (.slice (some ⟨go9, 0, none⟩) x3_1.length co9) y156 := (by rw [hw, Ny156.out]; exact HP10.1); clear HP10; have n0_ := Aside0.mk (hp_); have n1_ := Aside0.mk ((by rw [hw]; exact below_set (HB.out) GB9.out : Below w.heap.size w w11)); clear HO_3; clear HB; have HO_3 := n0_; have HB := n1_; clear n0_ n1_; clear hg hw hp_))
      go_roundg k1
      case measure => have := HK1.out; omega
      case rel => exact ⟨(y156), (wrap64 (x4_1 + 1)), (by first | rfl | (simp; done) | (simp [*]; done)), H', ⟨by have := HK1.out; omega⟩, ⟨by (with_reducible repeat (first | apply Kd.R_alloc | apply Kd.R_drewN | apply Kd.R_drew)); exact HO_3.out⟩, ⟨by repeat (first | (with_reducible first | exact HB.out | apply below_alloc | apply pw_below_drewN | apply below_drew1) | exact HB.out)⟩⟩

/-! ### bytes_Equal: function 27 -/
def bytes_Equal.f (l0 : List Int) (l1 : List Int) : Option (Bool) := some ((strOfNums l0).toList == (strOfNums l1).toList)
set_option maxHeartbeats 8000000 in
set_option maxRecDepth 100000 in
theorem bytes_Equal.calls (A0 : Option Addr) (c0 : Nat) (l0 : List Int) (A1 : Option Addr) (c1 : Nat) (l1 : List Int) (r : Bool) (w : World) (hr0 : Kd.C (Kd.int .u8) w A0 l0.length l0) (hc0 : l0.length ≤ c0) (hr1 : Kd.C (Kd.int .u8) w A1 l1.length l1) (hc1 : l1.length ≤ c1) (h : bytes_Equal.f l0 l1 = some r) :
    Calls Tryd.prog 27 #[.slice A0 l0.length c0, .slice A1 l1.length c1] w fun e w' => e = .returned (.bool r) ∧ Drawn0 w w' := by
  have HR0 := Aside0.mk hr0
  have HC0 := Aside0.mk hc0
  clear hr0 hc0
  have HR1 := Aside0.mk hr1
  have HC1 := Aside0.mk hc1
  clear hr1 hc1
  have H : (some ((strOfNums l0).toList == (strOfNums l1).toList)) = some r := h
  clear h
  obtain rfl := Option.some.inj H
  have hcv3 := Kd.C_string (P := Tryd.prog) (A := A0) (c := c0) Tryd.underlying22 Tryd.underlying5 Tryd.underlying9 HR0.out
  have hcv4 := Kd.C_string (P := Tryd.prog) (A := A1) (c := c1) Tryd.underlying22 Tryd.underlying5 Tryd.underlying9 HR1.out
  go_enter Tryd.func27, Tryd.ntmps27
  go_wp2
  go_ret
  exact ⟨by first | rfl | (simp; done) | (simp [*]; done), by repeat (first | exact Drawn0.refl _ | apply Drawn0.step)⟩

/-! ### impl_unbig: function 28 -/
def impl_unbig.l0 : Nat → Int → List Int → Int → Int → Option (Int)
  | 0, _, _, _, _ => none
  | k + 1, x3, x6, x7, x8 => if x8 < x7 then (if 0 ≤ x8 then (if x8 < (x6.length : Int) then (impl_unbig.l0 k (Go.bits .or .i64 (wrap64 (x3 * 256)) (wrap64 (rd x6 x8))) x6 x7 (wrap64 (x8 + 1))) else (none)) else (none)) else (some x3)
def impl_unbig.f (k : Nat) (l0 : List Int) : Option (Int) := impl_unbig.l0 k 0 l0 (l0.length : Int) 0
theorem impl_unbig.mono_l : ∀ k, (∀ y0 y1 y2 y3, LeO (impl_unbig.l0 k y0 y1 y2 y3) (impl_unbig.l0 (k + 1) y0 y1 y2 y3))
  | 0 => fun _ _ _ _ r h => by simp [impl_unbig.l0] at h
  | k + 1 => by
    have ih0 := impl_unbig.mono_l k
    · intro y0 y1 y2 y3
      unfold impl_unbig.l0
      repeat' first
      | (with_reducible exact ih0 _ _ _ _)
      | (with_reducible exact LeO.refl _)
      | (with_reducible exact LeO.none _)
      | (with_reducible refine LeO.ite ?_ ?_)
      | (with_reducible refine LeO.bind ?_ (fun _ => ?_))
      | exact ih0 _ _ _ _
      | exact LeO.none _
      | refine LeO.ite ?_ ?_
      | refine LeO.bind ?_ (fun _ => ?_)
theorem impl_unbig.mono : ∀ a0 k, LeO (impl_unbig.f k a0) (impl_unbig.f (k + 1) a0) := by
  intro a0 k
  have ih0 := impl_unbig.mono_l k
  unfold impl_unbig.f
  repeat' first
      | (with_reducible exact ih0 _ _ _ _)
      | (with_reducible exact LeO.refl _)
      | (with_reducible exact LeO.none _)
      | (with_reducible refine LeO.ite ?_ ?_)
      | (with_reducible refine LeO.bind ?_ (fun _ => ?_))
      | exact ih0 _ _ _ _
      | exact LeO.none _
      | refine LeO.ite ?_ ?_
      | refine LeO.bind ?_ (fun _ => ?_)
set_option maxHeartbeats 8000000 in
set_option maxRecDepth 100000 in
theorem impl_unbig.calls (k : Nat) (A0 : Option Addr) (c0 : Nat) (l0 : List Int) (r : Int) (w : World) (hr0 : Kd.C (Kd.int .u8) w A0 l0.length l0) (hc0 : l0.length ≤ c0) (h : impl_unbig.f k l0 = some r) :
    Calls Tryd.prog 28 #[.slice A0 l0.length c0] w fun e w' => e = .returned (.int .i64 r) ∧ Drawn0 w w' := by
  have HR0 := Aside0.mk hr0
  have HC0 := Aside0.mk hc0
  clear hr0 hc0
  have H : (impl_unbig.l0 k 0 l0 (l0.length : Int) 0) = some r := h
  clear h
  have H' := Aside0.mk H
  clear H
  go_enter Tryd.func28, Tryd.ntmps28
  go_wp2
  go_loopg [3, 8] k (fun kq v3 v8 w' => ∃ (x3_1 : Int) (x8_1 : Int), v3 = .int .i64 x3_1 ∧ v8 = .int .i64 x8_1 ∧ Aside0 (impl_unbig.l0 kq x3_1 l0 (l0.length : Int) x8_1 = some r) ∧ Aside0 (kq ≤ k) ∧ Drawn0 w w')
  case atStart => exact ⟨(0), (0), (by first | rfl | (simp; done) | (simp [*]; done)), (by first | rfl | (simp; done) | (simp [*]; done)), H', ⟨Nat.le_refl _⟩, by repeat (first | exact Drawn0.refl _ | apply Drawn0.step)⟩
  case round =>
    clear H'
    obtain ⟨x3_1, x8_1, rfl, rfl, HA, HK1, ⟨m1, rfl⟩⟩ := hrel
    cases gk with
    | zero => exact absurd HA.out (by simp [impl_unbig.l0])
    | succ k1 =>
      have H := HA.out
      clear HA
      simp only [impl_unbig.l0] at H
      by_cases c2 : x8_1 < (l0.length : Int)
      · rw [if_pos c2] at H
        have c2b0 : decide (x8_1 < (l0.length : Int)) = true := decide_eq_true c2
        clear c2
        by_cases c3 : 0 ≤ x8_1
        · rw [if_pos c3] at H
          have c3b0 : decide (0 ≤ x8_1) = true := decide_eq_true c3
          clear c3
          by_cases c4 : x8_1 < (l0.length : Int)
          · rw [if_pos c4] at H
            have c4b0 : decide (x8_1 < (l0.length : Int)) = true := decide_eq_true c4
            clear c4
            have H' := Aside0.mk H
            clear H
            have p157 : 0 ≤ (x8_1 : Int) := of_decide_eq_true (by first | (with_reducible assumption) | assumption)
            have q157 : x8_1 < (l0.length : Int) := of_decide_eq_true (by first | (with_reducible assumption) | assumption)
            obtain ⟨ad157, e157, hx157_0⟩ := Kd.at_int HR0.out x8_1 p157 q157
            cases e157
            replace p157 := eq_true p157
            replace q157 := eq_true q157
            go_wp2
            go_roundg k1
            case measure => have := HK1.out; omega
            case rel => exact ⟨(Go.bits .or .i64 (wrap64 (x3_1 * 256)) (wrap64 (rd l0 x8_1))), (wrap64 (x8_1 + 1)), (by first | rfl | (simp; done) | (simp [*]; done)), (by first | rfl | (simp; done) | (simp [*]; done)), H', ⟨by have := HK1.out; omega⟩, by repeat (first | exact Drawn0.refl _ | apply Drawn0.step)⟩
          · rw [if_neg c4] at H
            exact absurd H (by simp)
        · rw [if_neg c3] at H
          exact absurd H (by simp)
      · rw [if_neg c2] at H
        have c2b0 : decide (x8_1 < (l0.length : Int)) = false := decide_eq_false c2
        clear c2
        obtain rfl := Option.some.inj H
        go_wp2
        go_ret
        exact ⟨by first | rfl | (simp; done) | (simp [*]; done), by repeat (first | exact Drawn0.refl _ | apply Drawn0.step)⟩

end Go.Proofs.YtofkbjmbohgikaaDoor.PFnExactReadChunks

-- written by myprint.py (a program of this session's over the kit's print)
import Derived.Test.YtofkbjmbohgikaaDoorPFnExactReadChunksx0
import Derived.Test.YtofkbjmbohgikaaDoorPFnExactReadChunksx2
import Derived.Test.YtofkbjmbohgikaaDoorPFnExactReadChunksx3
namespace Go.Proofs.YtofkbjmbohgikaaDoor.PFnExactReadChunks
open Go.RowKit Go.Proofs.YtofkbjmbohgikaaDoorW.PrintWords Go.Proofs.YtofkbjmbohgikaaDoorW.PrintLast Go.Proofs.YtofkbjmbohgikaaDoorW.PrintMore
attribute [local go_sem] max2_int min2_int max_two min_two max_three min_three max_four min_four   -- for this text's walks alone
set_option linter.unusedVariables false
set_option linter.unusedSimpArgs false

/-! ### impl_ReadChunks: function 7 -/
theorem set2_blk {w : World} {g : Nat} {t : TypeId} {a0 a1 b0 b1 : Value} (h : w.heap[g]? = some (.cells #[a0, a1] t (0, 0))) : ((w.setCell ⟨g, 0, none⟩ b0).setCell ⟨g, 1, none⟩ b1).heap[g]? = some (.cells #[b0, b1] t (0, 0)) := (blk_put (blk_put h 0 b0 rfl) 1 b1 rfl)
theorem set2_R {α : Type} {d : Kd α} {e base : Nat} {ok : Nat → Prop} {v : Value} {xs : List α} {w : World} {g : Nat} {b0 b1 : Value} (h : d.R e w base ok v xs) (hk : ∀ k, ok k → k ≠ g) : d.R e ((w.setCell ⟨g, 0, none⟩ b0).setCell ⟨g, 1, none⟩ b1) base ok v xs := (Kd.R_far (p := ⟨g, 1, none⟩) (Kd.R_far (p := ⟨g, 0, none⟩) h hk b0) hk b1)
theorem set2_S {α : Type} {d : Kd α} {e base : Nat} {ok : Nat → Prop} {v : Value} {xs : List α} {w : World} {g : Nat} {b0 b1 : Value} (h : Kd.S d e w base ok v xs) (hk : ∀ k, ok k → k ≠ g) : Kd.S d e ((w.setCell ⟨g, 0, none⟩ b0).setCell ⟨g, 1, none⟩ b1) base ok v xs := (Kd.S_far (p := ⟨g, 1, none⟩) (Kd.S_far (p := ⟨g, 0, none⟩) h hk b0) hk b1)
mutual
def impl_ReadChunks.l0 : Nat → List (S46) → List Int → Option (Int × (List (S46)))
 | 0, _, _ => none
 | k + 1, x3, x4 => if (x4.length : Int) > 0 then (if (x4.length : Int) < 12 then (impl_ReadChunks.j1 k x3 x4 true) else (if 4 ≤ (x4.length : Int) then ((impl_unbig.f k (x4.take 4)).bind fun t152 => (impl_ReadChunks.j1 k x3 x4 (decide (t152 > (wrap64 ((x4.length : Int) - 12)))))) else (none))) else (some (0, x3))
def impl_ReadChunks.j1 : Nat → List (S46) → List Int → Bool → Option (Int × (List (S46)))
 | 0, _, _, _ => none
 | k + 1, x3, x4, x40 => if x40 = true then (some (2, ([] : List (S46)))) else (if 4 ≤ (x4.length : Int) then ((impl_unbig.f k (x4.take 4)).bind fun t158 => (if 4 ≤ 8 then (if 8 ≤ (x4.length : Int) then ((some ((x4.take 8).drop 4 : List Int)).bind fun y159 => (if 8 ≤ (wrap64 (8 + t158)) then (if (wrap64 (8 + t158)) ≤ (x4.length : Int) then ((some ((x4.take ((wrap64 (8 + t158)) : Int).toNat).drop 8 : List Int)).bind fun y164 => (if ([] : List Int).length + y164.length < 140737488355328 then ((impl_goodName.f k (strOfNums y159)).bind fun t173 => (if t173 = true then (if 0 ≤ (wrap64 (8 + t158)) then (if (wrap64 (8 + t158)) ≤ (wrap64 (12 + t158)) then (if (wrap64 (12 + t158)) ≤ (x4.length : Int) then ((impl_unbig.f k ((x4.take ((wrap64 (12 + t158)) : Int).toNat).drop ((wrap64 (8 + t158)) : Int).toNat)).bind fun t179 => (if 4 ≤ (wrap64 (8 + t158)) then ((impl_Crc.f k ((x4.take ((wrap64 (8 + t158)) : Int).toNat).drop 4)).bind fun t185 => (if t179 = (wrap64 (t185)) then (if x3.length < 3518437208883 then (if 0 ≤ (wrap64 (12 + t158)) then (impl_ReadChunks.l0 k (x3 ++ [(⟨strOfNums y159, (([] : List Int) ++ y164)⟩ : S46)]) (x4.drop ((wrap64 (12 + t158)) : Int).toNat)) else (none)) else (none)) else (some (3, ([] : List (S46)))))) else (none))) else (none)) else (none)) else (none)) else (some (4, ([] : List (S46)))))) else (none))) else (none)) else (none))) else (none)) else (none))) else (none))
end
def impl_ReadChunks.f (k : Nat) (l0 : List Int) : Option (Int × (List (S46))) := if (l0.length : Int) > 60000 then (some (1, ([] : List (S46)))) else (if (l0.length : Int) < 8 then (some (2, ([] : List (S46)))) else (if 8 ≤ (l0.length : Int) then ((bytes_Equal.f (l0.take 8) shL).bind fun t141 => (if t141 = true then (impl_ReadChunks.l0 k ([] : List (S46)) (l0.drop 8)) else (some (4, ([] : List (S46)))))) else (none)))
theorem impl_ReadChunks.mono_l : ∀ k, (∀ y0 y1, LeO (impl_ReadChunks.l0 k y0 y1) (impl_ReadChunks.l0 (k + 1) y0 y1)) ∧ (∀ y0 y1 y2, LeO (impl_ReadChunks.j1 k y0 y1 y2) (impl_ReadChunks.j1 (k + 1) y0 y1 y2))
 | 0 => ⟨fun _ _ r h => by simp [impl_ReadChunks.l0] at h, fun _ _ _ r h => by simp [impl_ReadChunks.j1] at h⟩
 | k + 1 => by
  obtain ⟨ih0, ih1⟩ := impl_ReadChunks.mono_l k
  refine ⟨?_, ?_⟩
  ·intro y0 y1
   unfold impl_ReadChunks.l0
   repeat' first
   | (with_reducible exact ih0 _ _)
   | (with_reducible exact ih1 _ _ _)
   | (with_reducible exact impl_Crc.mono _ _)
   | (with_reducible exact impl_goodName.mono _ _)
   | (with_reducible exact impl_unbig.mono _ _)
   | (with_reducible exact LeO.refl _)
   | (with_reducible exact LeO.none _)
   | (with_reducible refine LeO.ite ?_ ?_)
   | (with_reducible refine LeO.bind ?_ (fun _ => ?_))
   | exact ih0 _ _
   | exact ih1 _ _ _
   | exact impl_Crc.mono _ _
   | exact impl_goodName.mono _ _
   | exact impl_unbig.mono _ _
   | exact LeO.none _
   | refine LeO.ite ?_ ?_
   | refine LeO.bind ?_ (fun _ => ?_)
  ·intro y0 y1 y2
   unfold impl_ReadChunks.j1
   repeat' first
   | (with_reducible exact ih0 _ _)
   | (with_reducible exact ih1 _ _ _)
   | (with_reducible exact impl_Crc.mono _ _)
   | (with_reducible exact impl_goodName.mono _ _)
   | (with_reducible exact impl_unbig.mono _ _)
   | (with_reducible exact LeO.refl _)
   | (with_reducible exact LeO.none _)
   | (with_reducible refine LeO.ite ?_ ?_)
   | (with_reducible refine LeO.bind ?_ (fun _ => ?_))
   | exact ih0 _ _
   | exact ih1 _ _ _
   | exact impl_Crc.mono _ _
   | exact impl_goodName.mono _ _
   | exact impl_unbig.mono _ _
   | exact LeO.none _
   | refine LeO.ite ?_ ?_
   | refine LeO.bind ?_ (fun _ => ?_)
theorem impl_ReadChunks.mono : ∀ a0 k, LeO (impl_ReadChunks.f k a0) (impl_ReadChunks.f (k + 1) a0) := by
 intro a0 k
 obtain ⟨ih0, ih1⟩ := impl_ReadChunks.mono_l k
 unfold impl_ReadChunks.f
 repeat' first
   | (with_reducible exact ih0 _ _)
   | (with_reducible exact ih1 _ _ _)
   | (with_reducible exact impl_Crc.mono _ _)
   | (with_reducible exact impl_goodName.mono _ _)
   | (with_reducible exact impl_unbig.mono _ _)
   | (with_reducible exact LeO.refl _)
   | (with_reducible exact LeO.none _)
   | (with_reducible refine LeO.ite ?_ ?_)
   | (with_reducible refine LeO.bind ?_ (fun _ => ?_))
   | exact ih0 _ _
   | exact ih1 _ _ _
   | exact impl_Crc.mono _ _
   | exact impl_goodName.mono _ _
   | exact impl_unbig.mono _ _
   | exact LeO.none _
   | refine LeO.ite ?_ ?_
   | refine LeO.bind ?_ (fun _ => ?_)
def impl_ReadChunks.T13 : Bool × List (List Nat × List Nat) := (true, [([], []), ([0], [0]), ([1], [1]), ([], []), ([], []), ([4], [4]), ([3, 5], [3, 5]), ([6], [6]), ([2, 7], [2, 7]), ([], []), ([9, 8, 7, 0, 1, 2, 3, 4, 5, 6, 7, 8, 9], [8, 9])])
def impl_ReadChunks.B13 : List Nat := [0, 1, 3, 0, 0, 16, 56, 120, 255, 0, 1023]
theorem impl_ReadChunks.tab13 : rtab .any (opsOf Tryd.f7 13) = impl_ReadChunks.T13 := by kernel_rfl
theorem impl_ReadChunks.bits13 : waitsOk impl_ReadChunks.T13.2 impl_ReadChunks.B13 = true := by kernel_rfl
def impl_ReadChunks.T16 : Bool × List (List Nat × List Nat) := (true, [([], []), ([], []), ([1], [1]), ([], []), ([3], [3]), ([0, 2, 4], [0, 2, 4]), ([5], [5]), ([], []), ([], []), ([8], [8]), ([7, 9], [7, 9]), ([10, 6], [10]), ([11], [11]), ([6, 12], [6, 12]), ([13, 11], [13])])
def impl_ReadChunks.B16 : List Nat := [0, 0, 2, 0, 8, 31, 63, 0, 0, 256, 896, 2047, 4095, 8191, 16383]
theorem impl_ReadChunks.tab16 : rtab .any (opsOf Tryd.f7 16) = impl_ReadChunks.T16 := by kernel_rfl
theorem impl_ReadChunks.bits16 : waitsOk impl_ReadChunks.T16.2 impl_ReadChunks.B16 = true := by kernel_rfl
set_option maxHeartbeats 8000000 in
set_option maxRecDepth 100000 in
theorem impl_ReadChunks.calls (k : Nat) (P0_ : Nat → Prop) (A0 : Option Addr) (c0 : Nat) (l0 : List Int) (r1 : Int) (r2 : List (S46)) (w : World) (hM : MX w) (hs0 : Kd.V (Kd.int .u8) 5 w w.heap.size (fun k_ => P0_ k_) (.slice A0 l0.length c0) l0) (h : impl_ReadChunks.f k l0 = some (r1, r2)) :
  Calls Tryd.prog 7 #[.slice A0 l0.length c0] w fun e w' => ∃ v1_ : Value, e = .returned (.agg #[.int .i64 r1, v1_]) ∧ Kd.S k46 46 w' w.heap.size (fun k_ => (w.heap.size ≤ k_)) v1_ r2 ∧ Below w.heap.size w w' := by
 have hu25 := Tryd.underlying25
 have hu46 := Tryd.underlying46
 obtain ⟨AH, cH, hH1_, hH2_, hH3_⟩ := hM
 have hH1 := Aside0.mk hH1_
 have hH2 := Aside0.mk hH2_
 have hH3 := Aside0.mk hH3_
 clear hH1_ hH2_ hH3_
 have HO0 := Aside0.mk (show Kd.V (Kd.int .u8) 5 w w.heap.size (fun k_ => (P0_ k_ ∨ w.heap.size ≤ k_)) (.slice A0 l0.length c0) l0 from Kd.V_mono hs0 (fun k_ hk => .inl hk))
 have HB := Aside0.mk (Below.refl w.heap.size w)
 have H : (if (l0.length : Int) > 60000 then (some (1, ([] : List (S46)))) else (if (l0.length : Int) < 8 then (some (2, ([] : List (S46)))) else (if 8 ≤ (l0.length : Int) then ((bytes_Equal.f (l0.take 8) shL).bind fun t141 => (if t141 = true then (impl_ReadChunks.l0 k ([] : List (S46)) (l0.drop 8)) else (some (4, ([] : List (S46)))))) else (none)))) = some (r1, r2) := h
 clear h
 by_cases c2 : (l0.length : Int) > 60000
 ·rw [if_pos c2] at H
  have c2b0 : decide (60000 < (l0.length : Int)) = true := decide_eq_true c2
  have c2b1 : decide (60000 < l0.length) = true := decide_eq_true (by omega)
  have c2b2 : 60000 < l0.length := by omega
  clear c2
  simp only [Option.some.injEq, Prod.mk.injEq] at H
  obtain ⟨rfl, rfl⟩ := H
  go_enter Tryd.func7, Tryd.ntmps7
  go_wp2_with (first | ((with_reducible refine gate_dst (N := 2) rfl ?_); (try (refine gate_guard (by rfl) ?_; dsimp only)); refine box_event ?hg (N := 2) ?hd (cs := #[.int .i64 0, .slice none 0 0]) (t := 25) ?hr ?_; (case hd => rfl); (case hg => rfl); (case hr => first | (go_simp; done) | (go_simp; rfl)); intro gb135 hg w3 hbox hb; have n0_ := Aside0.mk (Kd.V_below (Kd.V_elderB (by (with_reducible repeat (first | apply Kd.V_alloc | apply Kd.V_drewN | apply Kd.V_drew)); exact HO0.out) gb135 (Nat.le_of_eq hg.symm)) hb); have n1_ := Aside0.mk (below_step (by repeat (first | (with_reducible first | exact HB.out | apply below_alloc | apply pw_below_drewN | apply below_drew1) | exact HB.out)) hb); have n2_ := Aside0.mk (hbox); have n3_ := Aside0.mk ((by rw [hg]; exact (below_size (by repeat (first | (with_reducible first | exact HB.out | apply below_alloc | apply pw_below_drewN | apply below_drew1) | exact HB.out))) : w.heap.size ≤ gb135)); have n4_ := n3_; clear HO0 HB; have HO0 := n0_; have HB := n1_; have BK135 := n2_; have GW135 := n3_; have GE135 := n4_; clear n0_ n1_ n2_ n3_ n4_; clear hb hbox hg; have hcz4_0 : w3.cell? ⟨gb135, 0, none⟩ = some (.int .i64 0) := (blk_cell BK135.out 0).trans rfl; have hcz4_1 : w3.cell? ⟨gb135, 1, none⟩ = some (.slice none 0 0) := (blk_cell BK135.out 1).trans rfl; have hfz4_0 := blk_frozen BK135.out 0; have hfz4_1 := blk_frozen BK135.out 1))
  refine bodyPost_ret (results_cell_row rfl _ _ gb135 25 #[.int .i64 1, .slice none 0 0] (0, 0) _ rfl (set2_blk BK135.out) Tryd.underlying25 rfl (by kernel_rfl)) rfl ?_
  exact ⟨_, by first | rfl | (simp [*, errW_none, errW_some] <;> rfl), by first | exact Kd.S_nil _ _ _ _ _ | exact Kd.N_nil _ _ _ _ _ | exact Kd.V_nil _ _ _ _ _ | exact Kd.Q_nil _ _ _ _ _ | exact Kd.R_nil _ _ _ _ _, by repeat (first | (with_reducible first | exact HB.out | apply below_alloc | apply pw_below_drewN | apply below_drew1 | refine below_set ?_ GE135.out) | exact HB.out)⟩
 rw [if_neg c2] at H
 have c2b0 : decide (60000 < (l0.length : Int)) = false := decide_eq_false c2
 have c2b1 : decide (60000 < l0.length) = false := decide_eq_false (by omega)
 have c2b2 : ¬ (60000 < l0.length) := by omega
 clear c2
 by_cases c5 : (l0.length : Int) < 8
 ·rw [if_pos c5] at H
  have c5b0 : decide ((l0.length : Int) < 8) = true := decide_eq_true c5
  have c5b1 : decide (l0.length < 8) = true := decide_eq_true (by omega)
  have c5b2 : l0.length < 8 := by omega
  clear c5
  simp only [Option.some.injEq, Prod.mk.injEq] at H
  obtain ⟨rfl, rfl⟩ := H
  go_enter Tryd.func7, Tryd.ntmps7
  go_wp2_with (first | ((with_reducible refine gate_dst (N := 2) rfl ?_); (try (refine gate_guard (by rfl) ?_; dsimp only)); refine box_event ?hg (N := 2) ?hd (cs := #[.int .i64 0, .slice none 0 0]) (t := 25) ?hr ?_; (case hd => rfl); (case hg => rfl); (case hr => first | (go_simp; done) | (go_simp; rfl)); intro gb135 hg w6 hbox hb; have n0_ := Aside0.mk (Kd.V_below (Kd.V_elderB (by (with_reducible repeat (first | apply Kd.V_alloc | apply Kd.V_drewN | apply Kd.V_drew)); exact HO0.out) gb135 (Nat.le_of_eq hg.symm)) hb); have n1_ := Aside0.mk (below_step (by repeat (first | (with_reducible first | exact HB.out | apply below_alloc | apply pw_below_drewN | apply below_drew1) | exact HB.out)) hb); have n2_ := Aside0.mk (hbox); have n3_ := Aside0.mk ((by rw [hg]; exact (below_size (by repeat (first | (with_reducible first | exact HB.out | apply below_alloc | apply pw_below_drewN | apply below_drew1) | exact HB.out))) : w.heap.size ≤ gb135)); have n4_ := n3_; clear HO0 HB; have HO0 := n0_; have HB := n1_; have BK135 := n2_; have GW135 := n3_; have GE135 := n4_; clear n0_ n1_ n2_ n3_ n4_; clear hb hbox hg; have hcz7_0 : w6.cell? ⟨gb135, 0, none⟩ = some (.int .i64 0) := (blk_cell BK135.out 0).trans rfl; have hcz7_1 : w6.cell? ⟨gb135, 1, none⟩ = some (.slice none 0 0) := (blk_cell BK135.out 1).trans rfl; have hfz7_0 := blk_frozen BK135.out 0; have hfz7_1 := blk_frozen BK135.out 1))
  refine bodyPost_ret (results_cell_row rfl _ _ gb135 25 #[.int .i64 2, .slice none 0 0] (0, 0) _ rfl (set2_blk BK135.out) Tryd.underlying25 rfl (by kernel_rfl)) rfl ?_
  exact ⟨_, by first | rfl | (simp [*, errW_none, errW_some] <;> rfl), by first | exact Kd.S_nil _ _ _ _ _ | exact Kd.N_nil _ _ _ _ _ | exact Kd.V_nil _ _ _ _ _ | exact Kd.Q_nil _ _ _ _ _ | exact Kd.R_nil _ _ _ _ _, by repeat (first | (with_reducible first | exact HB.out | apply below_alloc | apply pw_below_drewN | apply below_drew1 | refine below_set ?_ GE135.out) | exact HB.out)⟩
 rw [if_neg c5] at H
 have c5b0 : decide ((l0.length : Int) < 8) = false := decide_eq_false c5
 have c5b1 : decide (l0.length < 8) = false := decide_eq_false (by omega)
 have c5b2 : ¬ (l0.length < 8) := by omega
 clear c5
 by_cases c8 : 8 ≤ (l0.length : Int)
 rotate_left
 ·rw [if_neg c8] at H
  exact absurd H (by simp)
 rw [if_pos c8] at H
 have c8b0 := eq_true c8
 have c8b1 : decide (8 ≤ (l0.length : Int)) = true := decide_eq_true c8
 clear c8
 obtain ⟨y136, hy136⟩ : ∃ y_ : List Int, y_ = (l0.take 8) := ⟨_, rfl⟩
 replace H : ((bytes_Equal.f y136 shL).bind fun t141 => (if t141 = true then (impl_ReadChunks.l0 k ([] : List (S46)) (l0.drop 8)) else (some (4, ([] : List (S46)))))) = some (r1, r2) := by first | (rw [hy136]; with_reducible exact H) | (have H2_ := (Option.bind_some _ _).symm.trans H; rw [hy136]; with_reducible exact H2_) | (have H2_ := (Option.bind_some _ _).symm.trans H; with_reducible exact H2_) | with_reducible exact H | (rw [hy136]; exact H) | exact H
 have Ny136 := Aside0.mk hy136
 clear hy136
 replace H := Option.bind_eq_some_iff.mp H
 obtain ⟨t141, A90, H⟩ := H
 replace H : (if t141 = true then (impl_ReadChunks.l0 k ([] : List (S46)) (l0.drop 8)) else (some (4, ([] : List (S46))))) = some (r1, r2) := H
 have A9 := Aside0.mk A90
 clear A90
 by_cases c10 : t141 = true
 rotate_left
 ·replace c10 := Bool.eq_false_iff.mpr c10
  subst c10
  replace H : (some (4, ([] : List (S46)))) = some (r1, r2) := by rw [if_neg (show ¬ (false = true) by decide)] at H; exact H
  simp only [Option.some.injEq, Prod.mk.injEq] at H
  obtain ⟨rfl, rfl⟩ := H
  go_enter Tryd.func7, Tryd.ntmps7
  try go_wp2_with (first | ((with_reducible refine gate_dst (N := 2) rfl ?_); (try (refine gate_guard (by rfl) ?_; dsimp only)); refine box_event ?hg (N := 2) ?hd (cs := #[.int .i64 0, .slice none 0 0]) (t := 25) ?hr ?_; (case hd => rfl); (case hg => rfl); (case hr => first | (go_simp; done) | (go_simp; rfl)); intro gb135 hg w105 hbox hb; have n0_ := Aside0.mk (Kd.V_below (Kd.V_elderB (by (with_reducible repeat (first | apply Kd.V_alloc | apply Kd.V_drewN | apply Kd.V_drew)); exact HO0.out) gb135 (Nat.le_of_eq hg.symm)) hb); have n1_ := Aside0.mk (below_step (by repeat (first | (with_reducible first | exact HB.out | apply below_alloc | apply pw_below_drewN | apply below_drew1) | exact HB.out)) hb); have n2_ := Aside0.mk (hbox); have n3_ := Aside0.mk ((by rw [hg]; exact (below_size (by repeat (first | (with_reducible first | exact HB.out | apply below_alloc | apply pw_below_drewN | apply below_drew1) | exact HB.out))) : w.heap.size ≤ gb135)); have n4_ := n3_; clear HO0 HB; have HO0 := n0_; have HB := n1_; have BK135 := n2_; have GW135 := n3_; have GE135 := n4_; clear n0_ n1_ n2_ n3_ n4_; clear hb hbox hg))
  have n0_ := Aside0.mk (Kd.V_drew HO0.out)
  have n1_ := Aside0.mk (blk_drew BK135.out)
  have n2_ := Aside0.mk (below_drew1 HB.out)
  clear HO0
  clear BK135
  clear HB
  have HO0 := n0_
  have BK135 := n1_
  have HB := n2_
  clear n0_ n1_ n2_
  have q107 : (8 : Int) ≤ ((l0.length : Int) : Int) := of_decide_eq_true (by first | (with_reducible assumption) | assumption)
  obtain ⟨i0107, hi0107, _, hsz107, _⟩ := info_parts info5
  have hroom107 : l0.length ≤ c0 := (Kd.V_reads' HO0.out).2.1
  have hC107 : Kd.F (Kd.int .u8) _ _ A0 l0.length l0 := (Kd.V_at (base := w.heap.size) HO0.out).2.2
  have hcut107 := cut_to (P := Tryd.prog) 22 5 .i64 Tryd.underlying22 hi0107 A0 l0.length c0 8 (by omega) q107 hroom107
  have hr107 := Kd.F_take (m := 8) hC107 (by omega)
  have hy107 : y136.length = (8 : Int).toNat := (by rw [Ny136.out, List.length_take]; omega)
  rw [← Ny136.out] at hr107
  rw [← hy107] at hcut107
  have HO140 := Aside0.mk (show Kd.V (Kd.int .u8) 5 _ w.heap.size _ (.slice A0 y136.length c0) y136 from Kd.V_mk (by omega) hr107)
  have HC140 := Aside0.mk (show y136.length ≤ c0 from by omega)
  clear hr107 hC107 hroom107 hi0107 hsz107
  have KY107 := Aside0.mk hy107
  clear hy107
  replace q107 := eq_true q107
  have hsh : (w105.drew).cell? ⟨0, 0, none⟩ = some (.slice AH shL.length cH) := (HB.out.cell (World.block_lt_of_cell? w _ hH1.out)).trans hH1.out
  refine start_ (n := 6) (S := fun w' => w'.cell? ⟨0, 0, none⟩ = some (.slice AH shL.length cH)) (ds := []) #[false, false, false, false, false, false] (by kernel_rfl) rfl rfl hsh (fun hHeld => ?_)
  generalize w105.drew = w106 at HO0 BK135 HB HO140 hsh hHeld ⊢
  refine pure_ (i := 0) (N := some 18) (v := ?_) (a' := ?_) #[true, false, false, false, false, false] rfl rfl (by kernel_rfl) (fun _ _ _ h => h) (Or.inl ⟨by rfl, ?_⟩) ?_ ?_
  rotate_left
  ·intro w'
   go_simp
   with_reducible rfl
  rotate_left
  ·simp only [Act.put, List.setIfInBounds_toArray, List.set_cons_zero, List.set_cons_succ, i64_w, i32_w]
   rfl
  refine pure_ (i := 1) (N := some 19) (v := ?_) (a' := ?_) #[true, true, false, false, false, false] rfl rfl (by kernel_rfl) (fun _ _ _ h => h) (Or.inl ⟨by rfl, ?_⟩) ?_ ?_
  rotate_left
  ·intro w'
   go_simp
   with_reducible rfl
  rotate_left
  ·simp only [Act.put, List.setIfInBounds_toArray, List.set_cons_zero, List.set_cons_succ, i64_w, i32_w]
   rfl
  refine take_ (i := 2) (N := some 20) (v := ?_) (a' := ?_) #[true, true, true, false, false, false] rfl rfl (by kernel_rfl) (fun _ _ _ h => h) (Or.inl ⟨by rfl, ?_⟩) hHeld ?_ ?_
  rotate_left
  ·intro w' s0
   go_simp
   with_reducible rfl
  rotate_left
  ·simp only [Act.put, List.setIfInBounds_toArray, List.set_cons_zero, List.set_cons_succ, i64_w, i32_w]
   rfl
  refine one_ (i := 3) (N := some 21) #[true, true, true, true, false, false] rfl rfl (by kernel_rfl) (by decide) (fun K hK => ?_)
  refine goes_ Tryd.func27 (by kernel_rfl) rfl #[.slice A0 y136.length c0, .slice AH shL.length cH] (by rfl) rfl rfl (by (try simp only [List.map_toArray, List.map_cons, List.map_nil]); first | done | rfl | (simp only [List.length_drop, List.length_take]; rfl)) ?_
  with_reducible refine (bytes_Equal.calls _ _ y136 _ _ shL false _ ?side1 ?side2 ?side3 ?side4 A9.out).mono ?_
  (case side1 => repeat (first | exact (Kd.V_reads' HO140.out).2.2 | (with_reducible refine Kd.C_alloc ?_ _) | (with_reducible refine Kd.C_drewN ?_ _) | (with_reducible refine Kd.C_drew ?_)))
  (case side2 => exact (Kd.V_reads' HO140.out).2.1)
  (case side3 => exact Kd.C_below hH3.out HB.out)
  (case side4 => exact hH2.out)
  rintro e w' ⟨rfl, ⟨nd, rfl⟩⟩
  refine ⟨_, rfl, ?_⟩
  refine hK.out _ _ hsh (fun hHeld => ?_)
  clear hK K
  refine norm_ (a' := ?_) ?_ ?_
  rotate_left
  ·show Act.put _ (some 21) _ = _
   simp only [Act.put, List.setIfInBounds_toArray, List.set_cons_zero, List.set_cons_succ, i64_w, i32_w]
   rfl
  refine pure_ (i := 4) (N := some 22) (v := ?_) (a' := ?_) #[true, true, true, true, true, false] rfl rfl (by kernel_rfl) (fun _ _ _ h => h) (Or.inl ⟨by rfl, ?_⟩) ?_ ?_
  rotate_left
  ·intro w'
   go_simp
   with_reducible rfl
  rotate_left
  ·simp only [Act.put, List.setIfInBounds_toArray, List.set_cons_zero, List.set_cons_succ, i64_w, i32_w]
   rfl
  refine pure_ (i := 5) (N := some 17) (v := ?_) (a' := ?_) #[true, true, true, true, true, true] rfl rfl (by kernel_rfl) (fun _ _ _ h => h) (Or.inl ⟨by rfl, ?_⟩) ?_ ?_
  rotate_left
  ·intro w'
   go_simp
   with_reducible rfl
  rotate_left
  ·simp only [Act.put, List.setIfInBounds_toArray, List.set_cons_zero, List.set_cons_succ, i64_w, i32_w]
   rfl
  refine done_ (by kernel_rfl) ?_
  clear hsh hHeld
  have hcz108_0 : w106.cell? ⟨gb135, 0, none⟩ = some (.int .i64 0) := (blk_cell BK135.out 0).trans rfl
  have hcz108_1 : w106.cell? ⟨gb135, 1, none⟩ = some (.slice none 0 0) := (blk_cell BK135.out 1).trans rfl
  have hfz108_0 := blk_frozen BK135.out 0
  have hfz108_1 := blk_frozen BK135.out 1
  try go_wp2
  refine bodyPost_ret (results_cell_row rfl _ _ gb135 25 #[.int .i64 4, .slice none 0 0] (0, 0) _ rfl (set2_blk BK135.out) Tryd.underlying25 rfl (by kernel_rfl)) rfl ?_
  exact ⟨_, by first | rfl | (simp [*, errW_none, errW_some] <;> rfl), by first | exact Kd.S_nil _ _ _ _ _ | exact Kd.N_nil _ _ _ _ _ | exact Kd.V_nil _ _ _ _ _ | exact Kd.Q_nil _ _ _ _ _ | exact Kd.R_nil _ _ _ _ _, by repeat (first | (with_reducible first | exact HB.out | apply below_alloc | apply pw_below_drewN | apply below_drew1 | refine below_set ?_ GE135.out) | exact HB.out)⟩
 subst c10
 replace H : (impl_ReadChunks.l0 k ([] : List (S46)) (l0.drop 8)) = some (r1, r2) := by rw [if_pos rfl] at H; exact H
 have c11b0 := eq_true (of_decide_eq_true (by first | (with_reducible assumption) | assumption) : 8 ≤ (l0.length : Int))
 obtain ⟨y142, hy142⟩ : ∃ y_ : List Int, y_ = (l0.drop 8) := ⟨_, rfl⟩
 replace H : (impl_ReadChunks.l0 k ([] : List (S46)) y142) = some (r1, r2) := by first | (rw [hy142]; with_reducible exact H) | (have H2_ := (Option.bind_some _ _).symm.trans H; rw [hy142]; with_reducible exact H2_) | (have H2_ := (Option.bind_some _ _).symm.trans H; with_reducible exact H2_) | with_reducible exact H | (rw [hy142]; exact H) | exact H
 have Ny142 := Aside0.mk hy142
 clear hy142
 have H' := Aside0.mk H
 clear H
 go_enter Tryd.func7, Tryd.ntmps7
 try go_wp2_with (first | ((with_reducible refine gate_dst (N := 2) rfl ?_); (try (refine gate_guard (by rfl) ?_; dsimp only)); refine box_event ?hg (N := 2) ?hd (cs := #[.int .i64 0, .slice none 0 0]) (t := 25) ?hr ?_; (case hd => rfl); (case hg => rfl); (case hr => first | (go_simp; done) | (go_simp; rfl)); intro gb135 hg w12 hbox hb; have n0_ := Aside0.mk (Kd.V_below (Kd.V_elderB (by (with_reducible repeat (first | apply Kd.V_alloc | apply Kd.V_drewN | apply Kd.V_drew)); exact HO0.out) gb135 (Nat.le_of_eq hg.symm)) hb); have n1_ := Aside0.mk (below_step (by repeat (first | (with_reducible first | exact HB.out | apply below_alloc | apply pw_below_drewN | apply below_drew1) | exact HB.out)) hb); have n2_ := Aside0.mk (hbox); have n3_ := Aside0.mk ((by rw [hg]; exact (below_size (by repeat (first | (with_reducible first | exact HB.out | apply below_alloc | apply pw_below_drewN | apply below_drew1) | exact HB.out))) : w.heap.size ≤ gb135)); have n4_ := n3_; clear HO0 HB; have HO0 := n0_; have HB := n1_; have BK135 := n2_; have GW135 := n3_; have GE135 := n4_; clear n0_ n1_ n2_ n3_ n4_; clear hb hbox hg))
 have n0_ := Aside0.mk (Kd.V_drew HO0.out)
 have n1_ := Aside0.mk (blk_drew BK135.out)
 have n2_ := Aside0.mk (below_drew1 HB.out)
 clear HO0
 clear BK135
 clear HB
 have HO0 := n0_
 have BK135 := n1_
 have HB := n2_
 clear n0_ n1_ n2_
 have q14 : (8 : Int) ≤ ((l0.length : Int) : Int) := of_decide_eq_true (by first | (with_reducible assumption) | assumption)
 obtain ⟨i014, hi014, _, hsz14, _⟩ := info_parts info5
 have hroom14 : l0.length ≤ c0 := (Kd.V_reads' HO0.out).2.1
 have hC14 : Kd.F (Kd.int .u8) _ _ A0 l0.length l0 := (Kd.V_at (base := w.heap.size) HO0.out).2.2
 have hcut14 := cut_to (P := Tryd.prog) 22 5 .i64 Tryd.underlying22 hi014 A0 l0.length c0 8 (by omega) q14 hroom14
 have hr14 := Kd.F_take (m := 8) hC14 (by omega)
 have hy14 : y136.length = (8 : Int).toNat := (by rw [Ny136.out, List.length_take]; omega)
 rw [← Ny136.out] at hr14
 rw [← hy14] at hcut14
 have HO140 := Aside0.mk (show Kd.V (Kd.int .u8) 5 _ w.heap.size _ (.slice A0 y136.length c0) y136 from Kd.V_mk (by omega) hr14)
 have HC140 := Aside0.mk (show y136.length ≤ c0 from by omega)
 clear hr14 hC14 hroom14 hi014 hsz14
 have KY14 := Aside0.mk hy14
 clear hy14
 replace q14 := eq_true q14
 have hsh : (w12.drew).cell? ⟨0, 0, none⟩ = some (.slice AH shL.length cH) := (HB.out.cell (World.block_lt_of_cell? w _ hH1.out)).trans hH1.out
 refine start_ (n := 6) (S := fun w' => w'.cell? ⟨0, 0, none⟩ = some (.slice AH shL.length cH)) (ds := []) #[false, false, false, false, false, false] (by kernel_rfl) rfl rfl hsh (fun hHeld => ?_)
 generalize w12.drew = w13 at HO0 BK135 HB HO140 hsh hHeld ⊢
 refine pure_ (i := 0) (N := some 18) (v := ?_) (a' := ?_) #[true, false, false, false, false, false] rfl rfl (by kernel_rfl) (fun _ _ _ h => h) (Or.inl ⟨by rfl, ?_⟩) ?_ ?_
 rotate_left
 ·intro w'
  go_simp
  with_reducible rfl
 rotate_left
 ·simp only [Act.put, List.setIfInBounds_toArray, List.set_cons_zero, List.set_cons_succ, i64_w, i32_w]
  rfl
 refine pure_ (i := 1) (N := some 19) (v := ?_) (a' := ?_) #[true, true, false, false, false, false] rfl rfl (by kernel_rfl) (fun _ _ _ h => h) (Or.inl ⟨by rfl, ?_⟩) ?_ ?_
 rotate_left
 ·intro w'
  go_simp
  with_reducible rfl
 rotate_left
 ·simp only [Act.put, List.setIfInBounds_toArray, List.set_cons_zero, List.set_cons_succ, i64_w, i32_w]
  rfl
 refine take_ (i := 2) (N := some 20) (v := ?_) (a' := ?_) #[true, true, true, false, false, false] rfl rfl (by kernel_rfl) (fun _ _ _ h => h) (Or.inl ⟨by rfl, ?_⟩) hHeld ?_ ?_
 rotate_left
 ·intro w' s0
  go_simp
  with_reducible rfl
 rotate_left
 ·simp only [Act.put, List.setIfInBounds_toArray, List.set_cons_zero, List.set_cons_succ, i64_w, i32_w]
  rfl
 refine one_ (i := 3) (N := some 21) #[true, true, true, true, false, false] rfl rfl (by kernel_rfl) (by decide) (fun K hK => ?_)
 refine goes_ Tryd.func27 (by kernel_rfl) rfl #[.slice A0 y136.length c0, .slice AH shL.length cH] (by rfl) rfl rfl (by (try simp only [List.map_toArray, List.map_cons, List.map_nil]); first | done | rfl | (simp only [List.length_drop, List.length_take]; rfl)) ?_
 with_reducible refine (bytes_Equal.calls _ _ y136 _ _ shL true _ ?side1 ?side2 ?side3 ?side4 A9.out).mono ?_
 (case side1 => repeat (first | exact (Kd.V_reads' HO140.out).2.2 | (with_reducible refine Kd.C_alloc ?_ _) | (with_reducible refine Kd.C_drewN ?_ _) | (with_reducible refine Kd.C_drew ?_)))
 (case side2 => exact (Kd.V_reads' HO140.out).2.1)
 (case side3 => exact Kd.C_below hH3.out HB.out)
 (case side4 => exact hH2.out)
 rintro e w' ⟨rfl, ⟨nd, rfl⟩⟩
 refine ⟨_, rfl, ?_⟩
 refine hK.out _ _ hsh (fun hHeld => ?_)
 clear hK K
 refine norm_ (a' := ?_) ?_ ?_
 rotate_left
 ·show Act.put _ (some 21) _ = _
  simp only [Act.put, List.setIfInBounds_toArray, List.set_cons_zero, List.set_cons_succ, i64_w, i32_w]
  rfl
 refine pure_ (i := 4) (N := some 22) (v := ?_) (a' := ?_) #[true, true, true, true, true, false] rfl rfl (by kernel_rfl) (fun _ _ _ h => h) (Or.inl ⟨by rfl, ?_⟩) ?_ ?_
 rotate_left
 ·intro w'
  go_simp
  with_reducible rfl
 rotate_left
 ·simp only [Act.put, List.setIfInBounds_toArray, List.set_cons_zero, List.set_cons_succ, i64_w, i32_w]
  rfl
 refine pure_ (i := 5) (N := some 17) (v := ?_) (a' := ?_) #[true, true, true, true, true, true] rfl rfl (by kernel_rfl) (fun _ _ _ h => h) (Or.inl ⟨by rfl, ?_⟩) ?_ ?_
 rotate_left
 ·intro w'
  go_simp
  with_reducible rfl
 rotate_left
 ·simp only [Act.put, List.setIfInBounds_toArray, List.set_cons_zero, List.set_cons_succ, i64_w, i32_w]
  rfl
 refine done_ (by kernel_rfl) ?_
 clear hsh hHeld
 have q15 : (8 : Int) ≤ ((l0.length : Int) : Int) := of_decide_eq_true (by first | (with_reducible assumption) | assumption)
 obtain ⟨i015, hi015, _, hsz15, _⟩ := info_parts info5
 have hroom15 : l0.length ≤ c0 := (Kd.V_reads' HO0.out).2.1
 have hC15 : Kd.F (Kd.int .u8) _ _ A0 l0.length l0 := (Kd.V_at (base := w.heap.size) HO0.out).2.2
 have hcut15 := cut_from (P := Tryd.prog) 22 5 .i64 Tryd.underlying22 hi015 1 hsz15 A0 l0.length c0 8 (by omega) q15
 have hr15 := Kd.F_cut (m := (8 : Int).toNat) (c := c0) hC15 (by omega) hroom15
 obtain ⟨A15, hA15⟩ : ∃ A1, A1 = (if c0 = (8 : Int).toNat then A0 else (A0 : Option Addr).map (·.add ((8 : Int).toNat * 1))) := ⟨_, rfl⟩
 obtain ⟨c15, hc15⟩ : ∃ c1, c1 = c0 - (8 : Int).toNat := ⟨_, rfl⟩
 have hy15 : y142.length = l0.length - (8 : Int).toNat := (by rw [Ny142.out, List.length_drop] <;> omega)
 rw [show (l0).drop (8 : Int).toNat = y142 from Ny142.out.symm] at hr15
 replace hr15 : Kd.F (Kd.int .u8) _ _ A15 y142.length y142 := (by rw [hA15]; exact hr15)
 rw [← hy15, ← hA15, ← hc15] at hcut15
 have HO146 := Aside0.mk (show Kd.V (Kd.int .u8) 5 _ w.heap.size _ (.slice A15 y142.length c15) y142 from Kd.V_mk (by rw [hy15, hc15]; exact Nat.sub_le_sub_right hroom15 _) hr15)
 have HC146 := Aside0.mk (show y142.length ≤ c15 from by rw [hy15, hc15]; exact Nat.sub_le_sub_right hroom15 _)
 clear hr15 hC15 hroom15 hi015 hsz15 hc15
 have KY15 := Aside0.mk hy15
 have KA15 := Aside0.mk hA15
 clear hy15 hA15
 replace q15 := eq_true q15
 try go_wp2
 go_loopg [3, 4] k (fun kq v3 v4 w' => ∃ (x3_1 : List (S46)) (x4_1 : List Int) (x136000_1 : Int), Aside0 (impl_ReadChunks.l0 kq x3_1 x4_1 = some (r1, r2)) ∧ Aside0 (kq ≤ k) ∧ Aside0 (Kd.S k46 46 w' w.heap.size (fun k_ => (w.heap.size ≤ k_)) v3 x3_1) ∧ Aside0 (Kd.V (Kd.int .u8) 5 w' w.heap.size (fun k_ => (P0_ k_ ∨ w.heap.size ≤ k_) ∧ some k_ ≠ (v3 : Value).ownBlock ∧ k_ ≠ gb135) v4 x4_1) ∧ Aside0 (w'.heap[gb135]? = some (.cells #[.int .i64 x136000_1, (.slice none 0 0)] 25 (0, 0))) ∧ Aside0 (Below w.heap.size w w'))
 case atStart => exact ⟨(([] : List (S46))), (y142), (0), H', ⟨Nat.le_refl _⟩, ⟨by first | exact Kd.S_nil _ _ _ _ _ | exact Kd.N_nil _ _ _ _ _ | exact Kd.V_nil _ _ _ _ _ | exact Kd.Q_nil _ _ _ _ _ | exact Kd.R_nil _ _ _ _ _⟩, ⟨by (with_reducible repeat (first | apply Kd.V_alloc | apply Kd.V_drewN | apply Kd.V_drew)); exact Kd.V_mono HO146.out (fun _ hk => ⟨hk.1, ⟨(by simp [Value.ownBlock]), hk.2⟩⟩)⟩, ⟨by (with_reducible repeat (first | refine blk_drewN ?_ _ | refine blk_drew ?_ | refine blk_alloc ?_ _)); exact BK135.out⟩, ⟨by repeat (first | (with_reducible first | exact HB.out | apply below_alloc | apply pw_below_drewN | apply below_drew1 | refine below_set ?_ GE135.out) | exact HB.out)⟩⟩
 case round =>
  clear H'
  try clear c1
  try clear q1
  try clear c2
  try clear c2b0
  try clear c2b1
  try clear c2b2
  try clear p2
  try clear c5
  try clear c5b0
  try clear c5b1
  try clear c5b2
  try clear c7
  try clear c8
  try clear c8b0
  try clear c8b1
  try clear c10
  try clear c11
  try clear c11b0
  try clear q14
  try clear c15
  try clear q15
  try clear hcz4_0
  try clear hcz4_1
  try clear hcz7_0
  try clear hcz7_1
  try clear hfz4_0
  try clear hfz4_1
  try clear hfz7_0
  try clear hfz7_1
  try clear q14
  try clear q15
  obtain ⟨x3_1, x4_1, x136000_1, HA, HK1, HO_3, HO_4, BK135, HB⟩ := hrel
  cases gk with
  | zero => exact absurd HA.out (by simp [impl_ReadChunks.l0])
  | succ k1 =>
   have H := HA.out
   clear HA
   simp only [impl_ReadChunks.l0] at H
   by_cases c16 : (x4_1.length : Int) > 0
   rotate_left
   ·rw [if_neg c16] at H
    have c16b0 : decide (0 < (x4_1.length : Int)) = false := decide_eq_false c16
    have c16b1 : decide (0 < x4_1.length) = false := decide_eq_false (by omega)
    have c16b2 : ¬ (0 < x4_1.length) := by omega
    clear c16
    simp only [Option.some.injEq, Prod.mk.injEq] at H
    obtain ⟨rfl, rfl⟩ := H
    obtain ⟨Ao102, co102, eo102⟩ := Kd.V_slice HO_4.out
    subst eo102
    obtain ⟨Ao103, co103, eo103⟩ := Kd.S_slice HO_3.out
    subst eo103
    have hcz104_0 : wr.cell? ⟨gb135, 0, none⟩ = some (.int .i64 x136000_1) := (blk_cell BK135.out 0).trans rfl
    have hcz104_1 : wr.cell? ⟨gb135, 1, none⟩ = some (.slice none 0 0) := (blk_cell BK135.out 1).trans rfl
    have hfz104_0 := blk_frozen BK135.out 0
    have hfz104_1 := blk_frozen BK135.out 1
    go_wp2
    refine bodyPost_ret (results_cell_row rfl _ _ gb135 25 #[.int .i64 0, .slice Ao103 x3_1.length co103] (0, 0) _ rfl (set2_blk BK135.out) Tryd.underlying25 rfl (by kernel_rfl)) rfl ?_
    exact ⟨_, by first | rfl | (simp [*, errW_none, errW_some] <;> rfl), by (with_reducible repeat (first | apply Kd.S_alloc | apply Kd.S_drewN | apply Kd.S_drew)); exact Kd.S_mono (Kd.S_far (p := ⟨gb135, 1, none⟩) (Kd.S_far (p := ⟨gb135, 0, none⟩) (Kd.S_types HO_3.out BK135.out (by decide)) (fun _ hk => hk.2) (.int .i64 0)) (fun _ hk => hk.2) (.slice Ao103 x3_1.length co103)) (fun _ hk => hk.1), by repeat (first | (with_reducible first | exact HB.out | apply below_alloc | apply pw_below_drewN | apply below_drew1 | refine below_set ?_ GE135.out) | exact HB.out)⟩
   rw [if_pos c16] at H
   have c16b0 : decide (0 < (x4_1.length : Int)) = true := decide_eq_true c16
   have c16b1 : decide (0 < x4_1.length) = true := decide_eq_true (by omega)
   have c16b2 : 0 < x4_1.length := by omega
   clear c16
   have HC17 := Aside0.mk H
   clear H
   obtain ⟨Ao18, co18, eo18⟩ := Kd.V_slice HO_4.out
   subst eo18
   go_upto_region 10 with (fail)
   go_cut [40] (fun v40 wc => ∃ (kq : Nat) (x40_16 : Bool), v40 = .bool x40_16 ∧ Aside0 (impl_ReadChunks.j1 kq x3_1 x4_1 x40_16 = some (r1, r2)) ∧ Aside0 (kq ≤ k1) ∧ Aside0 (Kd.S k46 46 wc w.heap.size (fun k_ => (w.heap.size ≤ k_)) u3 x3_1) ∧ Aside0 (Kd.V (Kd.int .u8) 5 wc w.heap.size (fun k_ => (P0_ k_ ∨ w.heap.size ≤ k_) ∧ some k_ ≠ (u3 : Value).ownBlock ∧ k_ ≠ gb135) (.slice Ao18 x4_1.length co18) x4_1) ∧ Aside0 (wc.heap[gb135]? = some (.cells #[.int .i64 x136000_1, (.slice none 0 0)] 25 (0, 0))) ∧ Aside0 (Below w.heap.size w wc))
   case first =>
    have H := HC17.out
    clear HC17
    by_cases c19 : (x4_1.length : Int) < 12
    ·rw [if_pos c19] at H
     have c19b0 : decide ((x4_1.length : Int) < 12) = true := decide_eq_true c19
     have c19b1 : decide (x4_1.length < 12) = true := decide_eq_true (by omega)
     have c19b2 : x4_1.length < 12 := by omega
     clear c19
     (first | rw [c19b0] | (simp only [i64_w, i32_w]; rw [c19b0]) | skip)
     have H' := Aside0.mk H
     clear H
     go_wp2
     go_meet
     case rel => exact ⟨_, (true), (by first | rfl | (simp; done) | (simp [*]; done)), H', ⟨by have := HK1.out; first | omega | exact Nat.le_refl _⟩, ⟨by (with_reducible repeat (first | apply Kd.S_alloc | apply Kd.S_drewN | apply Kd.S_drew)); exact HO_3.out⟩, ⟨by (with_reducible repeat (first | apply Kd.V_alloc | apply Kd.V_drewN | apply Kd.V_drew)); exact HO_4.out⟩, ⟨by (with_reducible repeat (first | refine blk_drewN ?_ _ | refine blk_drew ?_ | refine blk_alloc ?_ _)); exact BK135.out⟩, ⟨by repeat (first | (with_reducible first | exact HB.out | apply below_alloc | apply pw_below_drewN | apply below_drew1 | refine below_set ?_ GE135.out) | exact HB.out)⟩⟩
    rw [if_neg c19] at H
    have c19b0 : decide ((x4_1.length : Int) < 12) = false := decide_eq_false c19
    have c19b1 : decide (x4_1.length < 12) = false := decide_eq_false (by omega)
    have c19b2 : ¬ (x4_1.length < 12) := by omega
    clear c19
    (first | rw [c19b0] | (simp only [i64_w, i32_w]; rw [c19b0]) | skip)
    by_cases c20 : 4 ≤ (x4_1.length : Int)
    rotate_left
    ·rw [if_neg c20] at H
     exact absurd H (by simp)
    rw [if_pos c20] at H
    have c20b0 := eq_true c20
    have c20b1 : decide (4 ≤ (x4_1.length : Int)) = true := decide_eq_true c20
    clear c20
    obtain ⟨y147, hy147⟩ : ∃ y_ : List Int, y_ = (x4_1.take 4) := ⟨_, rfl⟩
    replace H : ((impl_unbig.f k1 y147).bind fun t152 => (impl_ReadChunks.j1 k1 x3_1 x4_1 (decide (t152 > (wrap64 ((x4_1.length : Int) - 12)))))) = some (r1, r2) := by first | (rw [hy147]; with_reducible exact H) | (have H2_ := (Option.bind_some _ _).symm.trans H; rw [hy147]; with_reducible exact H2_) | (have H2_ := (Option.bind_some _ _).symm.trans H; with_reducible exact H2_) | with_reducible exact H | (rw [hy147]; exact H) | exact H
    have Ny147 := Aside0.mk hy147
    clear hy147
    replace H := Option.bind_eq_some_iff.mp H
    obtain ⟨t152, A210, H⟩ := H
    replace H : (impl_ReadChunks.j1 k1 x3_1 x4_1 (decide (t152 > (wrap64 ((x4_1.length : Int) - 12))))) = some (r1, r2) := H
    have A21 := Aside0.mk A210
    clear A210
    have H' := Aside0.mk H
    clear H
    have q22 : (4 : Int) ≤ ((x4_1.length : Int) : Int) := of_decide_eq_true (by first | (with_reducible assumption) | assumption)
    obtain ⟨i022, hi022, _, hsz22, _⟩ := info_parts info5
    have hroom22 : x4_1.length ≤ co18 := (Kd.V_reads' HO_4.out).2.1
    have hC22 : Kd.F (Kd.int .u8) _ _ Ao18 x4_1.length x4_1 := (Kd.V_at (base := w.heap.size) HO_4.out).2.2
    have hcut22 := cut_to (P := Tryd.prog) 22 5 .i64 Tryd.underlying22 hi022 Ao18 x4_1.length co18 4 (by omega) q22 hroom22
    have hr22 := Kd.F_take (m := 4) hC22 (by omega)
    have hy22 : y147.length = (4 : Int).toNat := (by rw [Ny147.out, List.length_take]; omega)
    rw [← Ny147.out] at hr22
    rw [← hy22] at hcut22
    have HO151 := Aside0.mk (show Kd.V (Kd.int .u8) 5 _ w.heap.size _ (.slice Ao18 y147.length co18) y147 from Kd.V_mk (by omega) hr22)
    have HC151 := Aside0.mk (show y147.length ≤ co18 from by omega)
    clear hr22 hC22 hroom22 hi022 hsz22
    have KY22 := Aside0.mk hy22
    clear hy22
    replace q22 := eq_true q22
    go_wp2_with (first | (go_at_call 28; (with_reducible refine (impl_unbig.calls k1 _ _ y147 t152 _ ?side1 ?side2 A21.out).mono ?_); (case side1 => repeat (first | exact (Kd.V_reads' HO151.out).2.2 | (with_reducible refine Kd.C_alloc ?_ _) | (with_reducible refine Kd.C_drewN ?_ _) | (with_reducible refine Kd.C_drew ?_))); (case side2 => exact (Kd.V_reads' HO151.out).2.1); rintro e w' ⟨rfl, ⟨nd, rfl⟩⟩))
    go_meet
    case rel => exact ⟨_, (decide (t152 > (wrap64 ((x4_1.length : Int) - 12)))), (by first | rfl | (simp; done) | (simp [*]; done)), H', ⟨by have := HK1.out; first | omega | exact Nat.le_refl _⟩, ⟨by (with_reducible repeat (first | apply Kd.S_alloc | apply Kd.S_drewN | apply Kd.S_drew)); exact HO_3.out⟩, ⟨by (with_reducible repeat (first | apply Kd.V_alloc | apply Kd.V_drewN | apply Kd.V_drew)); exact HO_4.out⟩, ⟨by (with_reducible repeat (first | refine blk_drewN ?_ _ | refine blk_drew ?_ | refine blk_alloc ?_ _)); exact BK135.out⟩, ⟨by repeat (first | (with_reducible first | exact HB.out | apply below_alloc | apply pw_below_drewN | apply below_drew1 | refine below_set ?_ GE135.out) | exact HB.out)⟩⟩
   case rest =>
    clear HC17
    try clear c1
    try clear q1
    try clear c2
    try clear c2b0
    try clear c2b1
    try clear c2b2
    try clear p2
    try clear q2
    try clear c5
    try clear c5b0
    try clear c5b1
    try clear c5b2
    try clear p6
    try clear c7
    try clear c8
    try clear c8b0
    try clear c8b1
    try clear c10
    try clear c11
    try clear c11b0
    try clear q14
    try clear c15
    try clear q15
    try clear c16
    try clear c16b0
    try clear c16b1
    try clear c16b2
    try clear c19
    try clear c19b0
    try clear c19b1
    try clear c19b2
    try clear c20
    try clear c20b0
    try clear c20b1
    try clear q22
    try clear hcz4_0
    try clear hcz4_1
    try clear hcz7_0
    try clear hcz7_1
    try clear hfz4_0
    try clear hfz4_1
    try clear hfz7_0
    try clear hfz7_1
    try clear p2
    try clear q1
    try clear q14
    try clear q15
    try clear q22
    obtain ⟨kq, x40_16, rfl, HA, HJ16, HO_3, HO_4, BK135, HB⟩ := hcut
    cases kq with
    | zero => exact absurd HA.out (by simp [impl_ReadChunks.j1])
    | succ kj16 =>
     have H := HA.out
     clear HA
     simp only [impl_ReadChunks.j1] at H
     by_cases c23 : x40_16 = true
     ·subst c23
      replace H : (some (2, ([] : List (S46)))) = some (r1, r2) := by rw [if_pos rfl] at H; exact H
      simp only [Option.some.injEq, Prod.mk.injEq] at H
      obtain ⟨rfl, rfl⟩ := H
      have hcz24_0 : wc.cell? ⟨gb135, 0, none⟩ = some (.int .i64 x136000_1) := (blk_cell BK135.out 0).trans rfl
      have hcz24_1 : wc.cell? ⟨gb135, 1, none⟩ = some (.slice none 0 0) := (blk_cell BK135.out 1).trans rfl
      have hfz24_0 := blk_frozen BK135.out 0
      have hfz24_1 := blk_frozen BK135.out 1
      go_wp2
      refine bodyPost_ret (results_cell_row rfl _ _ gb135 25 #[.int .i64 2, .slice none 0 0] (0, 0) _ rfl (set2_blk BK135.out) Tryd.underlying25 rfl (by kernel_rfl)) rfl ?_
      exact ⟨_, by first | rfl | (simp [*, errW_none, errW_some] <;> rfl), by first | exact Kd.S_nil _ _ _ _ _ | exact Kd.N_nil _ _ _ _ _ | exact Kd.V_nil _ _ _ _ _ | exact Kd.Q_nil _ _ _ _ _ | exact Kd.R_nil _ _ _ _ _, by repeat (first | (with_reducible first | exact HB.out | apply below_alloc | apply pw_below_drewN | apply below_drew1 | refine below_set ?_ GE135.out) | exact HB.out)⟩
     replace c23 := Bool.eq_false_iff.mpr c23
     subst c23
     replace H : (if 4 ≤ (x4_1.length : Int) then ((impl_unbig.f kj16 (x4_1.take 4)).bind fun t158 => (if 4 ≤ 8 then (if 8 ≤ (x4_1.length : Int) then ((some ((x4_1.take 8).drop 4 : List Int)).bind fun y159 => (if 8 ≤ (wrap64 (8 + t158)) then (if (wrap64 (8 + t158)) ≤ (x4_1.length : Int) then ((some ((x4_1.take ((wrap64 (8 + t158)) : Int).toNat).drop 8 : List Int)).bind fun y164 => (if ([] : List Int).length + y164.length < 140737488355328 then ((impl_goodName.f kj16 (strOfNums y159)).bind fun t173 => (if t173 = true then (if 0 ≤ (wrap64 (8 + t158)) then (if (wrap64 (8 + t158)) ≤ (wrap64 (12 + t158)) then (if (wrap64 (12 + t158)) ≤ (x4_1.length : Int) then ((impl_unbig.f kj16 ((x4_1.take ((wrap64 (12 + t158)) : Int).toNat).drop ((wrap64 (8 + t158)) : Int).toNat)).bind fun t179 => (if 4 ≤ (wrap64 (8 + t158)) then ((impl_Crc.f kj16 ((x4_1.take ((wrap64 (8 + t158)) : Int).toNat).drop 4)).bind fun t185 => (if t179 = (wrap64 (t185)) then (if x3_1.length < 3518437208883 then (if 0 ≤ (wrap64 (12 + t158)) then (impl_ReadChunks.l0 kj16 (x3_1 ++ [(⟨strOfNums y159, (([] : List Int) ++ y164)⟩ : S46)]) (x4_1.drop ((wrap64 (12 + t158)) : Int).toNat)) else (none)) else (none)) else (some (3, ([] : List (S46)))))) else (none))) else (none)) else (none)) else (none)) else (some (4, ([] : List (S46)))))) else (none))) else (none)) else (none))) else (none)) else (none))) else (none)) = some (r1, r2) := by rw [if_neg (show ¬ (false = true) by decide)] at H; exact H
     by_cases c25 : 4 ≤ (x4_1.length : Int)
     rotate_left
     ·rw [if_neg c25] at H
      exact absurd H (by simp)
     rw [if_pos c25] at H
     have c25b0 := eq_true c25
     have c25b1 : decide (4 ≤ (x4_1.length : Int)) = true := decide_eq_true c25
     clear c25
     obtain ⟨y153, hy153⟩ : ∃ y_ : List Int, y_ = (x4_1.take 4) := ⟨_, rfl⟩
     replace H : ((impl_unbig.f kj16 y153).bind fun t158 => (if 4 ≤ 8 then (if 8 ≤ (x4_1.length : Int) then ((some ((x4_1.take 8).drop 4 : List Int)).bind fun y159 => (if 8 ≤ (wrap64 (8 + t158)) then (if (wrap64 (8 + t158)) ≤ (x4_1.length : Int) then ((some ((x4_1.take ((wrap64 (8 + t158)) : Int).toNat).drop 8 : List Int)).bind fun y164 => (if ([] : List Int).length + y164.length < 140737488355328 then ((impl_goodName.f kj16 (strOfNums y159)).bind fun t173 => (if t173 = true then (if 0 ≤ (wrap64 (8 + t158)) then (if (wrap64 (8 + t158)) ≤ (wrap64 (12 + t158)) then (if (wrap64 (12 + t158)) ≤ (x4_1.length : Int) then ((impl_unbig.f kj16 ((x4_1.take ((wrap64 (12 + t158)) : Int).toNat).drop ((wrap64 (8 + t158)) : Int).toNat)).bind fun t179 => (if 4 ≤ (wrap64 (8 + t158)) then ((impl_Crc.f kj16 ((x4_1.take ((wrap64 (8 + t158)) : Int).toNat).drop 4)).bind fun t185 => (if t179 = (wrap64 (t185)) then (if x3_1.length < 3518437208883 then (if 0 ≤ (wrap64 (12 + t158)) then (impl_ReadChunks.l0 kj16 (x3_1 ++ [(⟨strOfNums y159, (([] : List Int) ++ y164)⟩ : S46)]) (x4_1.drop ((wrap64 (12 + t158)) : Int).toNat)) else (none)) else (none)) else (some (3, ([] : List (S46)))))) else (none))) else (none)) else (none)) else (none)) else (some (4, ([] : List (S46)))))) else (none))) else (none)) else (none))) else (none)) else (none))) = some (r1, r2) := by first | (rw [hy153]; with_reducible exact H) | (have H2_ := (Option.bind_some _ _).symm.trans H; rw [hy153]; with_reducible exact H2_) | (have H2_ := (Option.bind_some _ _).symm.trans H; with_reducible exact H2_) | with_reducible exact H | (rw [hy153]; exact H) | exact H
     have Ny153 := Aside0.mk hy153
     clear hy153
     replace H := Option.bind_eq_some_iff.mp H
     obtain ⟨t158, A260, H⟩ := H
     replace H : (if 4 ≤ 8 then (if 8 ≤ (x4_1.length : Int) then ((some ((x4_1.take 8).drop 4 : List Int)).bind fun y159 => (if 8 ≤ (wrap64 (8 + t158)) then (if (wrap64 (8 + t158)) ≤ (x4_1.length : Int) then ((some ((x4_1.take ((wrap64 (8 + t158)) : Int).toNat).drop 8 : List Int)).bind fun y164 => (if ([] : List Int).length + y164.length < 140737488355328 then ((impl_goodName.f kj16 (strOfNums y159)).bind fun t173 => (if t173 = true then (if 0 ≤ (wrap64 (8 + t158)) then (if (wrap64 (8 + t158)) ≤ (wrap64 (12 + t158)) then (if (wrap64 (12 + t158)) ≤ (x4_1.length : Int) then ((impl_unbig.f kj16 ((x4_1.take ((wrap64 (12 + t158)) : Int).toNat).drop ((wrap64 (8 + t158)) : Int).toNat)).bind fun t179 => (if 4 ≤ (wrap64 (8 + t158)) then ((impl_Crc.f kj16 ((x4_1.take ((wrap64 (8 + t158)) : Int).toNat).drop 4)).bind fun t185 => (if t179 = (wrap64 (t185)) then (if x3_1.length < 3518437208883 then (if 0 ≤ (wrap64 (12 + t158)) then (impl_ReadChunks.l0 kj16 (x3_1 ++ [(⟨strOfNums y159, (([] : List Int) ++ y164)⟩ : S46)]) (x4_1.drop ((wrap64 (12 + t158)) : Int).toNat)) else (none)) else (none)) else (some (3, ([] : List (S46)))))) else (none))) else (none)) else (none)) else (none)) else (some (4, ([] : List (S46)))))) else (none))) else (none)) else (none))) else (none)) else (none)) = some (r1, r2) := H
     have A26 := Aside0.mk A260
     clear A260
     by_cases c27 : 4 ≤ 8
     rotate_left
     ·rw [if_neg c27] at H
      exact absurd H (by simp)
     rw [if_pos c27] at H
     have c27b0 := eq_true c27
     have c27b1 : decide (4 ≤ 8) = true := decide_eq_true c27
     clear c27
     by_cases c28 : 8 ≤ (x4_1.length : Int)
     rotate_left
     ·rw [if_neg c28] at H
      exact absurd H (by simp)
     rw [if_pos c28] at H
     have c28b0 := eq_true c28
     have c28b1 : decide (8 ≤ (x4_1.length : Int)) = true := decide_eq_true c28
     clear c28
     obtain ⟨y159, hy159⟩ : ∃ y_ : List Int, y_ = ((x4_1.take 8).drop 4) := ⟨_, rfl⟩
     replace H : (if 8 ≤ (wrap64 (8 + t158)) then (if (wrap64 (8 + t158)) ≤ (x4_1.length : Int) then ((some ((x4_1.take ((wrap64 (8 + t158)) : Int).toNat).drop 8 : List Int)).bind fun y164 => (if ([] : List Int).length + y164.length < 140737488355328 then ((impl_goodName.f kj16 (strOfNums y159)).bind fun t173 => (if t173 = true then (if 0 ≤ (wrap64 (8 + t158)) then (if (wrap64 (8 + t158)) ≤ (wrap64 (12 + t158)) then (if (wrap64 (12 + t158)) ≤ (x4_1.length : Int) then ((impl_unbig.f kj16 ((x4_1.take ((wrap64 (12 + t158)) : Int).toNat).drop ((wrap64 (8 + t158)) : Int).toNat)).bind fun t179 => (if 4 ≤ (wrap64 (8 + t158)) then ((impl_Crc.f kj16 ((x4_1.take ((wrap64 (8 + t158)) : Int).toNat).drop 4)).bind fun t185 => (if t179 = (wrap64 (t185)) then (if x3_1.length < 3518437208883 then (if 0 ≤ (wrap64 (12 + t158)) then (impl_ReadChunks.l0 kj16 (x3_1 ++ [(⟨strOfNums y159, (([] : List Int) ++ y164)⟩ : S46)]) (x4_1.drop ((wrap64 (12 + t158)) : Int).toNat)) else (none)) else (none)) else (some (3, ([] : List (S46)))))) else (none))) else (none)) else (none)) else (none)) else (some (4, ([] : List (S46)))))) else (none))) else (none)) else (none)) = some (r1, r2) := by first | (rw [hy159]; with_reducible exact H) | (have H2_ := (Option.bind_some _ _).symm.trans H; rw [hy159]; with_reducible exact H2_) | (have H2_ := (Option.bind_some _ _).symm.trans H; with_reducible exact H2_) | with_reducible exact H | (rw [hy159]; exact H) | exact H
     have Ny159 := Aside0.mk hy159
     clear hy159
     by_cases c29 : 8 ≤ (wrap64 (8 + t158))
     rotate_left
     ·rw [if_neg c29] at H
      exact absurd H (by simp)
     rw [if_pos c29] at H
     have c29b0 := eq_true c29
     have c29b1 : decide (8 ≤ (wrap64 (8 + t158))) = true := decide_eq_true c29
     by_cases c30 : (wrap64 (8 + t158)) ≤ (x4_1.length : Int)
     rotate_left
     ·rw [if_neg c30] at H
      exact absurd H (by simp)
     rw [if_pos c30] at H
     have c30b0 := eq_true c30
     have c30b1 : decide ((wrap64 (8 + t158)) ≤ (x4_1.length : Int)) = true := decide_eq_true c30
     obtain ⟨y164, hy164⟩ : ∃ y_ : List Int, y_ = ((x4_1.take ((wrap64 (8 + t158)) : Int).toNat).drop 8) := ⟨_, rfl⟩
     replace H : (if ([] : List Int).length + y164.length < 140737488355328 then ((impl_goodName.f kj16 (strOfNums y159)).bind fun t173 => (if t173 = true then (if 0 ≤ (wrap64 (8 + t158)) then (if (wrap64 (8 + t158)) ≤ (wrap64 (12 + t158)) then (if (wrap64 (12 + t158)) ≤ (x4_1.length : Int) then ((impl_unbig.f kj16 ((x4_1.take ((wrap64 (12 + t158)) : Int).toNat).drop ((wrap64 (8 + t158)) : Int).toNat)).bind fun t179 => (if 4 ≤ (wrap64 (8 + t158)) then ((impl_Crc.f kj16 ((x4_1.take ((wrap64 (8 + t158)) : Int).toNat).drop 4)).bind fun t185 => (if t179 = (wrap64 (t185)) then (if x3_1.length < 3518437208883 then (if 0 ≤ (wrap64 (12 + t158)) then (impl_ReadChunks.l0 kj16 (x3_1 ++ [(⟨strOfNums y159, (([] : List Int) ++ y164)⟩ : S46)]) (x4_1.drop ((wrap64 (12 + t158)) : Int).toNat)) else (none)) else (none)) else (some (3, ([] : List (S46)))))) else (none))) else (none)) else (none)) else (none)) else (some (4, ([] : List (S46)))))) else (none)) = some (r1, r2) := by first | (rw [hy164]; with_reducible exact H) | (have H2_ := (Option.bind_some _ _).symm.trans H; rw [hy164]; with_reducible exact H2_) | (have H2_ := (Option.bind_some _ _).symm.trans H; with_reducible exact H2_) | with_reducible exact H | (rw [hy164]; exact H) | exact H
     have Ny164 := Aside0.mk hy164
     clear hy164
     by_cases c31 : ([] : List Int).length + y164.length < 140737488355328
     rotate_left
     ·rw [if_neg c31] at H
      exact absurd H (by simp)
     rw [if_pos c31] at H
     have LMc31 := Aside0.mk c31
     clear c31
     obtain ⟨y169, hy169⟩ : ∃ y_ : List Int, y_ = (([] : List Int) ++ y164) := ⟨_, rfl⟩
     replace H : ((impl_goodName.f kj16 (strOfNums y159)).bind fun t173 => (if t173 = true then (if 0 ≤ (wrap64 (8 + t158)) then (if (wrap64 (8 + t158)) ≤ (wrap64 (12 + t158)) then (if (wrap64 (12 + t158)) ≤ (x4_1.length : Int) then ((impl_unbig.f kj16 ((x4_1.take ((wrap64 (12 + t158)) : Int).toNat).drop ((wrap64 (8 + t158)) : Int).toNat)).bind fun t179 => (if 4 ≤ (wrap64 (8 + t158)) then ((impl_Crc.f kj16 ((x4_1.take ((wrap64 (8 + t158)) : Int).toNat).drop 4)).bind fun t185 => (if t179 = (wrap64 (t185)) then (if x3_1.length < 3518437208883 then (if 0 ≤ (wrap64 (12 + t158)) then (impl_ReadChunks.l0 kj16 (x3_1 ++ [(⟨strOfNums y159, y169⟩ : S46)]) (x4_1.drop ((wrap64 (12 + t158)) : Int).toNat)) else (none)) else (none)) else (some (3, ([] : List (S46)))))) else (none))) else (none)) else (none)) else (none)) else (some (4, ([] : List (S46)))))) = some (r1, r2) := by first | (rw [hy169]; with_reducible exact H) | (have H2_ := (Option.bind_some _ _).symm.trans H; rw [hy169]; with_reducible exact H2_) | (have H2_ := (Option.bind_some _ _).symm.trans H; with_reducible exact H2_) | with_reducible exact H | (rw [hy169]; exact H) | exact H
     have Ny169 := Aside0.mk hy169
     clear hy169
     replace H := Option.bind_eq_some_iff.mp H
     obtain ⟨t173, A320, H⟩ := H
     replace H : (if t173 = true then (if 0 ≤ (wrap64 (8 + t158)) then (if (wrap64 (8 + t158)) ≤ (wrap64 (12 + t158)) then (if (wrap64 (12 + t158)) ≤ (x4_1.length : Int) then ((impl_unbig.f kj16 ((x4_1.take ((wrap64 (12 + t158)) : Int).toNat).drop ((wrap64 (8 + t158)) : Int).toNat)).bind fun t179 => (if 4 ≤ (wrap64 (8 + t158)) then ((impl_Crc.f kj16 ((x4_1.take ((wrap64 (8 + t158)) : Int).toNat).drop 4)).bind fun t185 => (if t179 = (wrap64 (t185)) then (if x3_1.length < 3518437208883 then (if 0 ≤ (wrap64 (12 + t158)) then (impl_ReadChunks.l0 kj16 (x3_1 ++ [(⟨strOfNums y159, y169⟩ : S46)]) (x4_1.drop ((wrap64 (12 + t158)) : Int).toNat)) else (none)) else (none)) else (some (3, ([] : List (S46)))))) else (none))) else (none)) else (none)) else (none)) else (some (4, ([] : List (S46))))) = some (r1, r2) := H
     have A32 := Aside0.mk A320
     clear A320
     have HH_ := Aside0.mk H
     clear H
     have q87 : (4 : Int) ≤ ((x4_1.length : Int) : Int) := of_decide_eq_true (by first | (with_reducible assumption) | assumption)
     obtain ⟨i087, hi087, _, hsz87, _⟩ := info_parts info5
     have hroom87 : x4_1.length ≤ co18 := (Kd.V_reads' HO_4.out).2.1
     have hC87 : Kd.F (Kd.int .u8) _ _ Ao18 x4_1.length x4_1 := (Kd.V_at (base := w.heap.size) HO_4.out).2.2
     have hcut87 := cut_to (P := Tryd.prog) 22 5 .i64 Tryd.underlying22 hi087 Ao18 x4_1.length co18 4 (by omega) q87 hroom87
     have hr87 := Kd.F_take (m := 4) hC87 (by omega)
     have hy87 : y153.length = (4 : Int).toNat := (by rw [Ny153.out, List.length_take]; omega)
     rw [← Ny153.out] at hr87
     rw [← hy87] at hcut87
     have HO157 := Aside0.mk (show Kd.V (Kd.int .u8) 5 _ w.heap.size _ (.slice Ao18 y153.length co18) y153 from Kd.V_mk (by omega) hr87)
     have HC157 := Aside0.mk (show y153.length ≤ co18 from by omega)
     clear hr87 hC87 hroom87 hi087 hsz87
     have KY87 := Aside0.mk hy87
     clear hy87
     replace q87 := eq_true q87
     try go_wp2_with (first | ((with_reducible refine gate_callee (f := 28) rfl ?_); refine goesL_ (some 44) rfl rfl Tryd.func28 (by kernel_rfl) rfl #[.slice Ao18 y153.length co18] rfl (by (try simp only [List.map_toArray, List.map_cons, List.map_nil]); first | done | rfl | (simp only [List.length_drop, List.length_take]; rfl)) ?_; (with_reducible refine (impl_unbig.calls kj16 _ _ y153 t158 _ ?side1 ?side2 A26.out).mono ?_); (case side1 => repeat (first | exact (Kd.V_reads' HO157.out).2.2 | (with_reducible refine Kd.C_alloc ?_ _) | (with_reducible refine Kd.C_drewN ?_ _) | (with_reducible refine Kd.C_drew ?_))); (case side2 => exact (Kd.V_reads' HO157.out).2.1); rintro e w' ⟨rfl, ⟨nd, rfl⟩⟩; refine ⟨_, rfl, ?_⟩; (try (rw [drewN_self wc]; generalize hq_ : World.drewN wc _ = wc; have n0_ : Aside0 (Kd.V (Kd.int .u8) 5 wc w.heap.size (fun k_ => (((P0_ k_ ∨ w.heap.size ≤ k_)) ∧ (some k_ ≠ (u3 : Value).ownBlock ∧ k_ ≠ gb135))) (.slice Ao18 y153.length co18) y153) := ⟨by rw [← hq_]; exact (by (with_reducible repeat (first | apply Kd.V_alloc | apply Kd.V_drewN | apply Kd.V_drew)); exact HO157.out)⟩; have n1_ : Aside0 (Kd.S k46 46 wc w.heap.size (fun k_ => ((w.heap.size ≤ k_))) u3 x3_1) := ⟨by rw [← hq_]; exact (by (with_reducible repeat (first | apply Kd.S_alloc | apply Kd.S_drewN | apply Kd.S_drew)); exact HO_3.out)⟩; have n2_ : Aside0 (Kd.V (Kd.int .u8) 5 wc w.heap.size (fun k_ => (((P0_ k_ ∨ w.heap.size ≤ k_)) ∧ (some k_ ≠ (u3 : Value).ownBlock ∧ k_ ≠ gb135))) (.slice Ao18 x4_1.length co18) x4_1) := ⟨by rw [← hq_]; exact (by (with_reducible repeat (first | apply Kd.V_alloc | apply Kd.V_drewN | apply Kd.V_drew)); exact HO_4.out)⟩; have n3_ : Aside0 (wc.heap[gb135]? = some (.cells #[.int .i64 x136000_1, .slice none 0 0] 25 (0, 0))) := ⟨by rw [← hq_]; exact (by (with_reducible repeat (first | refine blk_drewN ?_ _ | refine blk_drew ?_ | refine blk_alloc ?_ _)); exact BK135.out)⟩; have n4_ : Aside0 (Below w.heap.size w wc) := ⟨by rw [← hq_]; exact (by repeat (first | (with_reducible first | exact HB.out | apply below_alloc | apply pw_below_drewN | apply below_drew1 | refine below_set ?_ GE135.out) | exact HB.out))⟩; clear HO157 HO_3 HO_4 BK135 HB hq_; have HO157 := n0_; have HO_3 := n1_; have HO_4 := n2_; have BK135 := n3_; have HB := n4_; clear n0_ n1_ n2_ n3_ n4_))))
     have n0_ := Aside0.mk (Kd.S_drew HO_3.out)
     have n1_ := Aside0.mk (Kd.V_drew HO_4.out)
     have n2_ := Aside0.mk (Kd.V_drew HO157.out)
     have n3_ := Aside0.mk (blk_drew BK135.out)
     have n4_ := Aside0.mk (below_drew1 HB.out)
     clear HO_3
     clear HO_4
     clear HO157
     clear BK135
     clear HB
     have HO_3 := n0_
     have HO_4 := n1_
     have HO157 := n2_
     have BK135 := n3_
     have HB := n4_
     clear n0_ n1_ n2_ n3_ n4_
     have q89 : (8 : Int) ≤ ((x4_1.length : Int) : Int) := of_decide_eq_true (by first | (with_reducible assumption) | assumption)
     obtain ⟨i089, hi089, _, hsz89, _⟩ := info_parts info5
     have hroom89 : x4_1.length ≤ co18 := (Kd.V_reads' HO_4.out).2.1
     have hC89 : Kd.F (Kd.int .u8) _ _ Ao18 x4_1.length x4_1 := (Kd.V_at (base := w.heap.size) HO_4.out).2.2
     have ql89 : (4 : Int) ≤ (8 : Int) := (by omega)
     have hcut89 := cut_mid (P := Tryd.prog) 22 5 .i64 .i64 Tryd.underlying22 hi089 1 hsz89 Ao18 x4_1.length co18 4 8 (by omega) ql89 q89 hroom89
     have hr89 := Kd.F_mid (lo := (4 : Int).toNat) (hi := (8 : Int).toNat) (c := co18) hC89 (by omega) (by omega) hroom89
     obtain ⟨A89, hA89⟩ : ∃ A1, A1 = (if co18 = (4 : Int).toNat then Ao18 else (Ao18 : Option Addr).map (·.add ((4 : Int).toNat * 1))) := ⟨_, rfl⟩
     obtain ⟨c89, hc89⟩ : ∃ c1, c1 = co18 - (4 : Int).toNat := ⟨_, rfl⟩
     have hy89 : y159.length = (8 : Int).toNat - (4 : Int).toNat := (by rw [Ny159.out, List.length_drop, List.length_take] <;> omega)
     rw [show ((x4_1).take (8 : Int).toNat).drop (4 : Int).toNat = y159 from Ny159.out.symm] at hr89
     replace hr89 : Kd.F (Kd.int .u8) _ _ A89 y159.length y159 := (by rw [hA89]; exact hr89)
     rw [← hy89, ← hA89, ← hc89] at hcut89
     have HO163 := Aside0.mk (show Kd.V (Kd.int .u8) 5 _ w.heap.size _ (.slice A89 y159.length c89) y159 from Kd.V_mk (by rw [hy89, hc89]; exact Nat.sub_le_sub_right (Nat.le_trans (by omega) hroom89) _) hr89)
     have HC163 := Aside0.mk (show y159.length ≤ c89 from by rw [hy89, hc89]; exact Nat.sub_le_sub_right (Nat.le_trans (by omega) hroom89) _)
     clear hr89 hC89 hroom89 hi089 hsz89 hc89
     have KY89 := Aside0.mk hy89
     have KA89 := Aside0.mk hA89
     clear hy89 hA89
     replace q89 := eq_true q89
     have q90 : ((wrap64 (8 + t158)) : Int) ≤ ((x4_1.length : Int) : Int) := of_decide_eq_true (by first | (with_reducible assumption) | assumption)
     obtain ⟨i090, hi090, _, hsz90, _⟩ := info_parts info5
     have hroom90 : x4_1.length ≤ co18 := (Kd.V_reads' HO_4.out).2.1
     have hC90 : Kd.F (Kd.int .u8) _ _ Ao18 x4_1.length x4_1 := (Kd.V_at (base := w.heap.size) HO_4.out).2.2
     have ql90 : (8 : Int) ≤ ((wrap64 (8 + t158)) : Int) := of_decide_eq_true (by first | (with_reducible assumption) | assumption)
     have hcut90 := cut_mid (P := Tryd.prog) 22 5 .i64 .i64 Tryd.underlying22 hi090 1 hsz90 Ao18 x4_1.length co18 8 (wrap64 (8 + t158)) (by omega) ql90 q90 hroom90
     have hr90 := Kd.F_mid (lo := (8 : Int).toNat) (hi := ((wrap64 (8 + t158)) : Int).toNat) (c := co18) hC90 (by omega) (by omega) hroom90
     obtain ⟨A90, hA90⟩ : ∃ A1, A1 = (if co18 = (8 : Int).toNat then Ao18 else (Ao18 : Option Addr).map (·.add ((8 : Int).toNat * 1))) := ⟨_, rfl⟩
     obtain ⟨c90, hc90⟩ : ∃ c1, c1 = co18 - (8 : Int).toNat := ⟨_, rfl⟩
     have hy90 : y164.length = ((wrap64 (8 + t158)) : Int).toNat - (8 : Int).toNat := (by rw [Ny164.out, List.length_drop, List.length_take] <;> omega)
     rw [show ((x4_1).take ((wrap64 (8 + t158)) : Int).toNat).drop (8 : Int).toNat = y164 from Ny164.out.symm] at hr90
     replace hr90 : Kd.F (Kd.int .u8) _ _ A90 y164.length y164 := (by rw [hA90]; exact hr90)
     rw [← hy90, ← hA90, ← hc90] at hcut90
     have HO168 := Aside0.mk (show Kd.V (Kd.int .u8) 5 _ w.heap.size _ (.slice A90 y164.length c90) y164 from Kd.V_mk (by rw [hy90, hc90]; exact Nat.sub_le_sub_right (Nat.le_trans (by omega) hroom90) _) hr90)
     have HC168 := Aside0.mk (show y164.length ≤ c90 from by rw [hy90, hc90]; exact Nat.sub_le_sub_right (Nat.le_trans (by omega) hroom90) _)
     clear hr90 hC90 hroom90 hi090 hsz90 hc90
     have KY90 := Aside0.mk hy90
     have KA90 := Aside0.mk hA90
     clear hy90 hA90
     replace q90 := eq_true q90
     refine start_ (n := 11) (S := fun w' => True) (ds := []) #[false, false, false, false, false, false, false, false, false, false, false] (by kernel_rfl) rfl rfl trivial (fun hHeld => ?_); refine with_tabW impl_ReadChunks.tab13 impl_ReadChunks.bits13 (fun HT_ HW_ => ?_)
     generalize wc.drew = w88 at HO_3 HO_4 HO157 BK135 HB HO163 HO168 hHeld ⊢
     refine pure_ (i := 0) (N := some 45) (v := ?_) (a' := ?_) #[true, false, false, false, false, false, false, false, false, false, false] rfl rfl (any_of HT_.out (by kernel_rfl)) (fun _ _ _ h => h) (Or.inl ⟨by rfl, ?_⟩) ?_ ?_
     rotate_left
     ·intro w'
      go_simp
      with_reducible rfl
     rotate_left
     ·simp only [Act.put, List.setIfInBounds_toArray, List.set_cons_zero, List.set_cons_succ, i64_w, i32_w]
      rfl
     refine pure_ (i := 1) (N := some 46) (v := ?_) (a' := ?_) #[true, true, false, false, false, false, false, false, false, false, false] rfl rfl (any_of HT_.out (by kernel_rfl)) (fun _ _ _ h => h) (Or.inl ⟨by rfl, ?_⟩) ?_ ?_
     rotate_left
     ·intro w'
      go_simp
      with_reducible rfl
     rotate_left
     ·simp only [Act.put, List.setIfInBounds_toArray, List.set_cons_zero, List.set_cons_succ, i64_w, i32_w]
      rfl
     refine pure_ (i := 3) (N := some 48) (v := ?_) (a' := ?_) #[true, true, false, true, false, false, false, false, false, false, false] rfl rfl (any_of HT_.out (by kernel_rfl)) (fun _ _ _ h => h) (Or.inl ⟨by rfl, ?_⟩) ?_ ?_
     rotate_left
     ·intro w'
      go_simp
      with_reducible rfl
     rotate_left
     ·simp only [Act.put, List.setIfInBounds_toArray, List.set_cons_zero, List.set_cons_succ, i64_w, i32_w]
      rfl
     refine pure_ (i := 4) (N := some 49) (v := ?_) (a' := ?_) #[true, true, false, true, true, false, false, false, false, false, false] rfl rfl (any_of HT_.out (by kernel_rfl)) (fun _ _ _ h => h) (Or.inl ⟨by rfl, ?_⟩) ?_ ?_
     rotate_left
     ·intro w'
      go_simp
      with_reducible rfl
     rotate_left
     ·simp only [Act.put, List.setIfInBounds_toArray, List.set_cons_zero, List.set_cons_succ, i64_w, i32_w]
      rfl
     refine pure_ (i := 5) (N := some 50) (v := ?_) (a' := ?_) #[true, true, false, true, true, true, false, false, false, false, false] rfl rfl (any_of HT_.out (by kernel_rfl)) (fun _ _ _ h => h) (Or.inl ⟨by rfl, ?_⟩) ?_ ?_
     rotate_left
     ·intro w'
      go_simp
      with_reducible rfl
     rotate_left
     ·simp only [Act.put, List.setIfInBounds_toArray, List.set_cons_zero, List.set_cons_succ, i64_w, i32_w]
      rfl
     refine pure_ (i := 6) (N := some 51) (v := ?_) (a' := ?_) #[true, true, false, true, true, true, true, false, false, false, false] rfl rfl (any_of HT_.out (by kernel_rfl)) (fun _ _ _ h => h) (Or.inl ⟨by rfl, ?_⟩) ?_ ?_
     rotate_left
     ·intro w'
      go_simp
      with_reducible rfl
     rotate_left
     ·simp only [Act.put, List.setIfInBounds_toArray, List.set_cons_zero, List.set_cons_succ, i64_w, i32_w]
      rfl
     refine join_ (σ := Value × Nat) 1 #[true, true, true, true, true, true, true, true, true, true, false] (fun s_ => [(47, .string (strOfNums y159)), (52, s_.1), (6, .pointer (some ⟨s_.2, 0, none⟩)), (53, .agg #[.string (strOfNums y159), s_.1])]) (fun s_ w' => (Kd.V (Kd.int .u8) 5 w' w.heap.size (fun k_ => (P0_ k_ ∨ w.heap.size ≤ k_) ∧ some k_ ≠ (s_.1 : Value).ownBlock ∧ some k_ ≠ (u3 : Value).ownBlock ∧ k_ ≠ gb135 ∧ k_ ≠ s_.2) (.slice Ao18 y153.length co18) y153) ∧ (Kd.V (Kd.int .u8) 5 w' w.heap.size (fun k_ => (P0_ k_ ∨ w.heap.size ≤ k_) ∧ some k_ ≠ (s_.1 : Value).ownBlock ∧ some k_ ≠ (u3 : Value).ownBlock ∧ k_ ≠ gb135 ∧ k_ ≠ s_.2) (.slice A89 y159.length c89) y159) ∧ (Kd.V (Kd.int .u8) 5 w' w.heap.size (fun k_ => (P0_ k_ ∨ w.heap.size ≤ k_) ∧ some k_ ≠ (s_.1 : Value).ownBlock ∧ some k_ ≠ (u3 : Value).ownBlock ∧ k_ ≠ gb135 ∧ k_ ≠ s_.2) (.slice A90 y164.length c90) y164) ∧ (Kd.R (Kd.int .u8) 5 w' w.heap.size (fun k_ => (w.heap.size ≤ k_)) s_.1 y169) ∧ (Kd.S k46 46 w' w.heap.size (fun k_ => (w.heap.size ≤ k_) ∧ some k_ ≠ (s_.1 : Value).ownBlock ∧ k_ ≠ s_.2) u3 x3_1) ∧ (Kd.V (Kd.int .u8) 5 w' w.heap.size (fun k_ => (P0_ k_ ∨ w.heap.size ≤ k_) ∧ some k_ ≠ (s_.1 : Value).ownBlock ∧ some k_ ≠ (u3 : Value).ownBlock ∧ k_ ≠ gb135 ∧ k_ ≠ s_.2) (.slice Ao18 x4_1.length co18) x4_1) ∧ (w'.heap[gb135]? = some (.cells #[.int .i64 x136000_1, .slice none 0 0] 25 (0, 0))) ∧ (w'.heap[s_.2]? = some (.cells #[.string (⟨#[]⟩ : ByteArray), .slice none 0 0] 46 (0, 0))) ∧ (w.heap.size ≤ s_.2) ∧ (w.heap.size ≤ s_.2) ∧ (gb135 ≠ s_.2) ∧ (s_.2 ≠ gb135) ∧ (Below w.heap.size w w')) ?_ ?_
     rotate_left
     ·intro hJ2_7_9
      refine join_ (σ := Value) 2 #[true, true, true, true, true, true, true, true, true, false, false] (fun s_ => [(47, .string (strOfNums y159)), (52, s_), (53, .agg #[.string (strOfNums y159), s_])]) (fun s_ w' => (Kd.V (Kd.int .u8) 5 w' w.heap.size (fun k_ => (P0_ k_ ∨ w.heap.size ≤ k_) ∧ some k_ ≠ (s_ : Value).ownBlock ∧ some k_ ≠ (u3 : Value).ownBlock ∧ k_ ≠ gb135) (.slice Ao18 y153.length co18) y153) ∧ (Kd.V (Kd.int .u8) 5 w' w.heap.size (fun k_ => (P0_ k_ ∨ w.heap.size ≤ k_) ∧ some k_ ≠ (s_ : Value).ownBlock ∧ some k_ ≠ (u3 : Value).ownBlock ∧ k_ ≠ gb135) (.slice A89 y159.length c89) y159) ∧ (Kd.V (Kd.int .u8) 5 w' w.heap.size (fun k_ => (P0_ k_ ∨ w.heap.size ≤ k_) ∧ some k_ ≠ (s_ : Value).ownBlock ∧ some k_ ≠ (u3 : Value).ownBlock ∧ k_ ≠ gb135) (.slice A90 y164.length c90) y164) ∧ (Kd.R (Kd.int .u8) 5 w' w.heap.size (fun k_ => (w.heap.size ≤ k_)) s_ y169) ∧ (Kd.S k46 46 w' w.heap.size (fun k_ => (w.heap.size ≤ k_) ∧ some k_ ≠ (s_ : Value).ownBlock) u3 x3_1) ∧ (Kd.V (Kd.int .u8) 5 w' w.heap.size (fun k_ => (P0_ k_ ∨ w.heap.size ≤ k_) ∧ some k_ ≠ (s_ : Value).ownBlock ∧ some k_ ≠ (u3 : Value).ownBlock ∧ k_ ≠ gb135) (.slice Ao18 x4_1.length co18) x4_1) ∧ (w'.heap[gb135]? = some (.cells #[.int .i64 x136000_1, .slice none 0 0] 25 (0, 0))) ∧ (Below w.heap.size w w')) ?_ ?_
      rotate_left
      ·intro hJ2_7
       refine join_ (σ := Nat) 3 #[true, true, true, true, true, true, true, false, false, true, false] (fun s_ => [(47, .string (strOfNums y159)), (6, .pointer (some ⟨s_, 0, none⟩))]) (fun s_ w' => (Kd.V (Kd.int .u8) 5 w' w.heap.size (fun k_ => (P0_ k_ ∨ w.heap.size ≤ k_) ∧ some k_ ≠ (u3 : Value).ownBlock ∧ k_ ≠ gb135 ∧ k_ ≠ s_) (.slice Ao18 y153.length co18) y153) ∧ (Kd.V (Kd.int .u8) 5 w' w.heap.size (fun k_ => (P0_ k_ ∨ w.heap.size ≤ k_) ∧ some k_ ≠ (u3 : Value).ownBlock ∧ k_ ≠ gb135 ∧ k_ ≠ s_) (.slice A89 y159.length c89) y159) ∧ (Kd.V (Kd.int .u8) 5 w' w.heap.size (fun k_ => (P0_ k_ ∨ w.heap.size ≤ k_) ∧ some k_ ≠ (u3 : Value).ownBlock ∧ k_ ≠ gb135 ∧ k_ ≠ s_) (.slice A90 y164.length c90) y164) ∧ (Kd.S k46 46 w' w.heap.size (fun k_ => (w.heap.size ≤ k_) ∧ k_ ≠ s_) u3 x3_1) ∧ (Kd.V (Kd.int .u8) 5 w' w.heap.size (fun k_ => (P0_ k_ ∨ w.heap.size ≤ k_) ∧ some k_ ≠ (u3 : Value).ownBlock ∧ k_ ≠ gb135 ∧ k_ ≠ s_) (.slice Ao18 x4_1.length co18) x4_1) ∧ (w'.heap[gb135]? = some (.cells #[.int .i64 x136000_1, .slice none 0 0] 25 (0, 0))) ∧ (w'.heap[s_]? = some (.cells #[.string (⟨#[]⟩ : ByteArray), .slice none 0 0] 46 (0, 0))) ∧ (w.heap.size ≤ s_) ∧ (w.heap.size ≤ s_) ∧ (gb135 ≠ s_) ∧ (s_ ≠ gb135) ∧ (Below w.heap.size w w')) ?_ ?_
       rotate_left
       ·intro hJ2_9
        refine join_ (σ := Value × Nat) 3 #[true, true, false, true, true, true, true, true, false, true, false] (fun s_ => [(52, s_.1), (6, .pointer (some ⟨s_.2, 0, none⟩))]) (fun s_ w' => (Kd.V (Kd.int .u8) 5 w' w.heap.size (fun k_ => (P0_ k_ ∨ w.heap.size ≤ k_) ∧ some k_ ≠ (s_.1 : Value).ownBlock ∧ some k_ ≠ (u3 : Value).ownBlock ∧ k_ ≠ gb135 ∧ k_ ≠ s_.2) (.slice Ao18 y153.length co18) y153) ∧ (Kd.V (Kd.int .u8) 5 w' w.heap.size (fun k_ => (P0_ k_ ∨ w.heap.size ≤ k_) ∧ some k_ ≠ (s_.1 : Value).ownBlock ∧ some k_ ≠ (u3 : Value).ownBlock ∧ k_ ≠ gb135 ∧ k_ ≠ s_.2) (.slice A89 y159.length c89) y159) ∧ (Kd.V (Kd.int .u8) 5 w' w.heap.size (fun k_ => (P0_ k_ ∨ w.heap.size ≤ k_) ∧ some k_ ≠ (s_.1 : Value).ownBlock ∧ some k_ ≠ (u3 : Value).ownBlock ∧ k_ ≠ gb135 ∧ k_ ≠ s_.2) (.slice A90 y164.length c90) y164) ∧ (Kd.R (Kd.int .u8) 5 w' w.heap.size (fun k_ => (w.heap.size ≤ k_)) s_.1 y169) ∧ (Kd.S k46 46 w' w.heap.size (fun k_ => (w.heap.size ≤ k_) ∧ some k_ ≠ (s_.1 : Value).ownBlock ∧ k_ ≠ s_.2) u3 x3_1) ∧ (Kd.V (Kd.int .u8) 5 w' w.heap.size (fun k_ => (P0_ k_ ∨ w.heap.size ≤ k_) ∧ some k_ ≠ (s_.1 : Value).ownBlock ∧ some k_ ≠ (u3 : Value).ownBlock ∧ k_ ≠ gb135 ∧ k_ ≠ s_.2) (.slice Ao18 x4_1.length co18) x4_1) ∧ (w'.heap[gb135]? = some (.cells #[.int .i64 x136000_1, .slice none 0 0] 25 (0, 0))) ∧ (w'.heap[s_.2]? = some (.cells #[.string (⟨#[]⟩ : ByteArray), .slice none 0 0] 46 (0, 0))) ∧ (w.heap.size ≤ s_.2) ∧ (w.heap.size ≤ s_.2) ∧ (gb135 ≠ s_.2) ∧ (s_.2 ≠ gb135) ∧ (Below w.heap.size w w')) ?_ ?_
        rotate_left
        ·intro hJ7_9
         refine join_ (σ := Unit) 4 #[true, true, true, true, true, true, true, false, false, false, false] (fun s_ => [(47, .string (strOfNums y159))]) (fun s_ w' => (Kd.V (Kd.int .u8) 5 w' w.heap.size (fun k_ => (P0_ k_ ∨ w.heap.size ≤ k_) ∧ some k_ ≠ (u3 : Value).ownBlock ∧ k_ ≠ gb135) (.slice Ao18 y153.length co18) y153) ∧ (Kd.V (Kd.int .u8) 5 w' w.heap.size (fun k_ => (P0_ k_ ∨ w.heap.size ≤ k_) ∧ some k_ ≠ (u3 : Value).ownBlock ∧ k_ ≠ gb135) (.slice A89 y159.length c89) y159) ∧ (Kd.V (Kd.int .u8) 5 w' w.heap.size (fun k_ => (P0_ k_ ∨ w.heap.size ≤ k_) ∧ some k_ ≠ (u3 : Value).ownBlock ∧ k_ ≠ gb135) (.slice A90 y164.length c90) y164) ∧ (Kd.S k46 46 w' w.heap.size (fun k_ => (w.heap.size ≤ k_)) u3 x3_1) ∧ (Kd.V (Kd.int .u8) 5 w' w.heap.size (fun k_ => (P0_ k_ ∨ w.heap.size ≤ k_) ∧ some k_ ≠ (u3 : Value).ownBlock ∧ k_ ≠ gb135) (.slice Ao18 x4_1.length co18) x4_1) ∧ (w'.heap[gb135]? = some (.cells #[.int .i64 x136000_1, .slice none 0 0] 25 (0, 0))) ∧ (Below w.heap.size w w')) ?_ ?_
         rotate_left
         ·intro hJ2
          refine join_ (σ := Value) 4 #[true, true, false, true, true, true, true, true, false, false, false] (fun s_ => [(52, s_)]) (fun s_ w' => (Kd.V (Kd.int .u8) 5 w' w.heap.size (fun k_ => (P0_ k_ ∨ w.heap.size ≤ k_) ∧ some k_ ≠ (s_ : Value).ownBlock ∧ some k_ ≠ (u3 : Value).ownBlock ∧ k_ ≠ gb135) (.slice Ao18 y153.length co18) y153) ∧ (Kd.V (Kd.int .u8) 5 w' w.heap.size (fun k_ => (P0_ k_ ∨ w.heap.size ≤ k_) ∧ some k_ ≠ (s_ : Value).ownBlock ∧ some k_ ≠ (u3 : Value).ownBlock ∧ k_ ≠ gb135) (.slice A89 y159.length c89) y159) ∧ (Kd.V (Kd.int .u8) 5 w' w.heap.size (fun k_ => (P0_ k_ ∨ w.heap.size ≤ k_) ∧ some k_ ≠ (s_ : Value).ownBlock ∧ some k_ ≠ (u3 : Value).ownBlock ∧ k_ ≠ gb135) (.slice A90 y164.length c90) y164) ∧ (Kd.R (Kd.int .u8) 5 w' w.heap.size (fun k_ => (w.heap.size ≤ k_)) s_ y169) ∧ (Kd.S k46 46 w' w.heap.size (fun k_ => (w.heap.size ≤ k_) ∧ some k_ ≠ (s_ : Value).ownBlock) u3 x3_1) ∧ (Kd.V (Kd.int .u8) 5 w' w.heap.size (fun k_ => (P0_ k_ ∨ w.heap.size ≤ k_) ∧ some k_ ≠ (s_ : Value).ownBlock ∧ some k_ ≠ (u3 : Value).ownBlock ∧ k_ ≠ gb135) (.slice Ao18 x4_1.length co18) x4_1) ∧ (w'.heap[gb135]? = some (.cells #[.int .i64 x136000_1, .slice none 0 0] 25 (0, 0))) ∧ (Below w.heap.size w w')) ?_ ?_
          rotate_left
          ·intro hJ7
           refine join_ (σ := Nat) 4 #[true, true, false, true, true, true, true, false, false, true, false] (fun s_ => [(6, .pointer (some ⟨s_, 0, none⟩))]) (fun s_ w' => (Kd.V (Kd.int .u8) 5 w' w.heap.size (fun k_ => (P0_ k_ ∨ w.heap.size ≤ k_) ∧ some k_ ≠ (u3 : Value).ownBlock ∧ k_ ≠ gb135 ∧ k_ ≠ s_) (.slice Ao18 y153.length co18) y153) ∧ (Kd.V (Kd.int .u8) 5 w' w.heap.size (fun k_ => (P0_ k_ ∨ w.heap.size ≤ k_) ∧ some k_ ≠ (u3 : Value).ownBlock ∧ k_ ≠ gb135 ∧ k_ ≠ s_) (.slice A89 y159.length c89) y159) ∧ (Kd.V (Kd.int .u8) 5 w' w.heap.size (fun k_ => (P0_ k_ ∨ w.heap.size ≤ k_) ∧ some k_ ≠ (u3 : Value).ownBlock ∧ k_ ≠ gb135 ∧ k_ ≠ s_) (.slice A90 y164.length c90) y164) ∧ (Kd.S k46 46 w' w.heap.size (fun k_ => (w.heap.size ≤ k_) ∧ k_ ≠ s_) u3 x3_1) ∧ (Kd.V (Kd.int .u8) 5 w' w.heap.size (fun k_ => (P0_ k_ ∨ w.heap.size ≤ k_) ∧ some k_ ≠ (u3 : Value).ownBlock ∧ k_ ≠ gb135 ∧ k_ ≠ s_) (.slice Ao18 x4_1.length co18) x4_1) ∧ (w'.heap[gb135]? = some (.cells #[.int .i64 x136000_1, .slice none 0 0] 25 (0, 0))) ∧ (w'.heap[s_]? = some (.cells #[.string (⟨#[]⟩ : ByteArray), .slice none 0 0] 46 (0, 0))) ∧ (w.heap.size ≤ s_) ∧ (w.heap.size ≤ s_) ∧ (gb135 ≠ s_) ∧ (s_ ≠ gb135) ∧ (Below w.heap.size w w')) ?_ ?_
           rotate_left
           ·intro hJ9
            refine three_ (i := 2) (j := 7) (k := 9) (Ni := some 47) (Nj := some 52) (Nk := some 6) #[true, true, true, true, true, true, true, false, false, false, false] #[true, true, false, true, true, true, true, true, false, false, false] #[true, true, false, true, true, true, true, false, false, true, false] rfl rfl rfl rfl rfl rfl (three_of HT_.out (by kernel_rfl)) (by decide) (by decide) (by decide) (fun K hK => ?_) (fun K hK => ?_) (fun K hK => ?_)
            ·skip
             have hcv91 := V_string (P := Tryd.prog) Tryd.underlying22 Tryd.underlying5 Tryd.underlying9 HO163.out; have hcw91 := fun m => V_string (P := Tryd.prog) Tryd.underlying22 Tryd.underlying5 Tryd.underlying9 (Kd.V_drewN HO163.out m)
             refine value_ (w1 := ?_) (v := ?_) (by rfl) rfl ?_ ?_
             rotate_left 2
             ·go_simp
              constructor
              ·rfl
              ·rfl
             clear hcv91
             refine hK.out _ _ trivial (fun hHeld => ?_)
             clear hK K
             refine norm_ (a' := ?_) ?_ ?_
             rotate_left
             ·show Act.put _ (some 47) _ = _
              simp only [Act.put, List.setIfInBounds_toArray, List.set_cons_zero, List.set_cons_succ, i64_w, i32_w]
              rfl
             exact norm_ (by first | (simp only [putAll, Act.put, List.setIfInBounds_toArray, List.set_cons_zero, List.set_cons_succ]; done) | (simp only [putAll, Act.put, List.setIfInBounds_toArray, List.set_cons_zero, List.set_cons_succ]; rfl)) (hJ2 () _ ⟨(by (with_reducible repeat (first | apply Kd.V_alloc | apply Kd.V_drewN | apply Kd.V_drew)); exact HO157.out), (by (with_reducible repeat (first | apply Kd.V_alloc | apply Kd.V_drewN | apply Kd.V_drew)); exact HO163.out), (by (with_reducible repeat (first | apply Kd.V_alloc | apply Kd.V_drewN | apply Kd.V_drew)); exact HO168.out), (by (with_reducible repeat (first | apply Kd.S_alloc | apply Kd.S_drewN | apply Kd.S_drew)); exact HO_3.out), (by (with_reducible repeat (first | apply Kd.V_alloc | apply Kd.V_drewN | apply Kd.V_drew)); exact HO_4.out), (by (with_reducible repeat (first | refine blk_drewN ?_ _ | refine blk_drew ?_ | refine blk_alloc ?_ _)); exact BK135.out), (by repeat (first | (with_reducible first | exact HB.out | apply below_alloc | apply pw_below_drewN | apply below_drew1 | refine below_set ?_ GE135.out) | exact HB.out))⟩)
            ·skip
             refine Kd.R_append_rows_step (Kd.int .u8) (w0 := w) w.heap.size (by rfl) (.const (.slice none 0 0)) (.tmp 51) 22 5 (.int .u8 0) 1 rfl Tryd.underlying22 info5 rfl (by decide) (by omega) (.slice none 0 0) ([] : List Int) y164 _ _ _ (fun k_ => (w.heap.size ≤ k_)) (fun _ => False) rfl rfl ?aO ?aR (fun _ _ h => h) (fun _ h => h.elim) ?aF ?aB ?aS ?aL ?_
             (case aR => repeat (first | exact (Kd.V_reads' HO168.out).2.2 | (with_reducible refine Kd.C_alloc ?_ _) | (with_reducible refine Kd.C_drewN ?_ _) | (with_reducible refine Kd.C_drew ?_)))
             (case aB => exact (by repeat (first | (with_reducible first | exact HB.out | apply below_alloc | apply pw_below_drewN | apply below_drew1 | refine below_set ?_ GE135.out) | exact HB.out)))
             (case aF => exact (fun k_ hk => (Nat.le_trans (below_size (by repeat (first | (with_reducible first | exact HB.out | apply below_alloc | apply pw_below_drewN | apply below_drew1 | refine below_set ?_ GE135.out) | exact HB.out))) hk)))
             (case aO => exact ((Kd.R_nil _ _ _ _ (fun k_ => (w.heap.size ≤ k_)))))
             (case aS => exact (below_size (by repeat (first | (with_reducible first | exact HB.out | apply below_alloc | apply pw_below_drewN | apply below_drew1 | refine below_set ?_ GE135.out) | exact HB.out))))
             (case aL => have := LMc31.out; omega)
             intro v170 w91 ho hb hg hat
             rw [← Ny169.out] at ho
             have n0_ := Aside0.mk (Kd.S_after (Kd.S_apart_nil (by (with_reducible repeat (first | apply Kd.S_alloc | apply Kd.S_drewN | apply Kd.S_drew)); exact HO_3.out)) hg hat)
             have n1_ := Aside0.mk (Kd.V_afterv (Kd.V_apart_nil (by (with_reducible repeat (first | apply Kd.V_alloc | apply Kd.V_drewN | apply Kd.V_drew)); exact HO_4.out)) hg hat)
             have n2_ := Aside0.mk (blk_grown (g := gb135) (o := .cells #[.int .i64 x136000_1, .slice none 0 0] 25 (0, 0)) (by (with_reducible repeat (first | refine blk_drewN ?_ _ | refine blk_drew ?_ | refine blk_alloc ?_ _)); exact BK135.out) hg (by simp [Value.ownBlock]))
             have n3_ := Aside0.mk (Kd.V_afterv (Kd.V_apart_nil (by (with_reducible repeat (first | apply Kd.V_alloc | apply Kd.V_drewN | apply Kd.V_drew)); exact HO157.out)) hg hat)
             have n4_ := Aside0.mk (Kd.V_afterv (Kd.V_apart_nil (by (with_reducible repeat (first | apply Kd.V_alloc | apply Kd.V_drewN | apply Kd.V_drew)); exact HO163.out)) hg hat)
             have n5_ := Aside0.mk (Kd.V_afterv (Kd.V_apart_nil (by (with_reducible repeat (first | apply Kd.V_alloc | apply Kd.V_drewN | apply Kd.V_drew)); exact HO168.out)) hg hat)
             have n6_ := Aside0.mk (hb)
             have n7_ := Aside0.mk (ho)
             clear HO_3
             clear HO_4
             clear BK135
             clear HO157
             clear HO163
             clear HO168
             clear HB
             have HO_3 := n0_
             have HO_4 := n1_
             have BK135 := n2_
             have HO157 := n3_
             have HO163 := n4_
             have HO168 := n5_
             have HB := n6_
             have HO171 := n7_
             clear n0_ n1_ n2_ n3_ n4_ n5_ n6_ n7_
             clear ho hb hg hat
             refine hK.out _ _ trivial (fun hHeld => ?_)
             clear hK K
             refine norm_ (a' := ?_) ?_ ?_
             rotate_left
             ·show Act.put _ (some 52) _ = _
              simp only [Act.put, List.setIfInBounds_toArray, List.set_cons_zero, List.set_cons_succ, i64_w, i32_w]
              rfl
             exact norm_ (by first | (simp only [putAll, Act.put, List.setIfInBounds_toArray, List.set_cons_zero, List.set_cons_succ]; done) | (simp only [putAll, Act.put, List.setIfInBounds_toArray, List.set_cons_zero, List.set_cons_succ]; rfl)) (hJ7 (v170) _ ⟨(by (with_reducible repeat (first | apply Kd.V_alloc | apply Kd.V_drewN | apply Kd.V_drew)); exact Kd.V_mono HO157.out (fun _ hk => ⟨hk.1.1, ⟨hk.2, ⟨hk.1.2.1, hk.1.2.2⟩⟩⟩)), (by (with_reducible repeat (first | apply Kd.V_alloc | apply Kd.V_drewN | apply Kd.V_drew)); exact Kd.V_mono HO163.out (fun _ hk => ⟨hk.1.1, ⟨hk.2, ⟨hk.1.2.1, hk.1.2.2⟩⟩⟩)), (by (with_reducible repeat (first | apply Kd.V_alloc | apply Kd.V_drewN | apply Kd.V_drew)); exact Kd.V_mono HO168.out (fun _ hk => ⟨hk.1.1, ⟨hk.2, ⟨hk.1.2.1, hk.1.2.2⟩⟩⟩)), (by (with_reducible repeat (first | apply Kd.R_alloc | apply Kd.R_drewN | apply Kd.R_drew)); exact HO171.out), (by (with_reducible repeat (first | apply Kd.S_alloc | apply Kd.S_drewN | apply Kd.S_drew)); exact HO_3.out), (by (with_reducible repeat (first | apply Kd.V_alloc | apply Kd.V_drewN | apply Kd.V_drew)); exact Kd.V_mono HO_4.out (fun _ hk => ⟨hk.1.1, ⟨hk.2, ⟨hk.1.2.1, hk.1.2.2⟩⟩⟩)), (by (with_reducible repeat (first | refine blk_drewN ?_ _ | refine blk_drew ?_ | refine blk_alloc ?_ _)); exact BK135.out), (by repeat (first | (with_reducible first | exact HB.out | apply below_alloc | apply pw_below_drewN | apply below_drew1 | refine below_set ?_ GE135.out) | exact HB.out))⟩)
            ·skip
             refine box_step ?hg (N := 6) ?hd (cs := #[.string (⟨#[]⟩ : ByteArray), .slice none 0 0]) (t := 46) ?hr ?_; (case hd => rfl); (case hg => rfl); (case hr => first | (go_simp; done) | (go_simp; rfl))
             intro gb172 hg w91 hbox hb
             have n0_ := Aside0.mk (Kd.S_below (Kd.S_elderB (by (with_reducible repeat (first | apply Kd.S_alloc | apply Kd.S_drewN | apply Kd.S_drew)); exact HO_3.out) gb172 (Nat.le_of_eq hg.symm)) hb)
             have n1_ := Aside0.mk (Kd.V_below (Kd.V_elderB (by (with_reducible repeat (first | apply Kd.V_alloc | apply Kd.V_drewN | apply Kd.V_drew)); exact HO_4.out) gb172 (Nat.le_of_eq hg.symm)) hb)
             have n2_ := Aside0.mk (Kd.V_below (Kd.V_elderB (by (with_reducible repeat (first | apply Kd.V_alloc | apply Kd.V_drewN | apply Kd.V_drew)); exact HO157.out) gb172 (Nat.le_of_eq hg.symm)) hb)
             have n3_ := Aside0.mk (Kd.V_below (Kd.V_elderB (by (with_reducible repeat (first | apply Kd.V_alloc | apply Kd.V_drewN | apply Kd.V_drew)); exact HO163.out) gb172 (Nat.le_of_eq hg.symm)) hb)
             have n4_ := Aside0.mk (Kd.V_below (Kd.V_elderB (by (with_reducible repeat (first | apply Kd.V_alloc | apply Kd.V_drewN | apply Kd.V_drew)); exact HO168.out) gb172 (Nat.le_of_eq hg.symm)) hb)
             have n5_ := Aside0.mk (blk_below (g := gb135) (o := .cells #[.int .i64 x136000_1, .slice none 0 0] 25 (0, 0)) (by (with_reducible repeat (first | refine blk_drewN ?_ _ | refine blk_drew ?_ | refine blk_alloc ?_ _)); exact BK135.out) hb)
             have n6_ := Aside0.mk (below_step (by repeat (first | (with_reducible first | exact HB.out | apply below_alloc | apply pw_below_drewN | apply below_drew1 | refine below_set ?_ GE135.out) | exact HB.out)) hb)
             have n7_ := Aside0.mk (hbox)
             have n8_ := Aside0.mk ((by rw [hg]; exact (below_size (by repeat (first | (with_reducible first | exact HB.out | apply below_alloc | apply pw_below_drewN | apply below_drew1 | refine below_set ?_ GE135.out) | exact HB.out))) : w.heap.size ≤ gb172))
             have n9_ := Aside0.mk ((by rw [hg]; exact (below_size (by repeat (first | (with_reducible first | exact HB.out | apply below_alloc | apply pw_below_drewN | apply below_drew1 | refine below_set ?_ GE135.out) | exact HB.out))) : w.heap.size ≤ gb172))
             have n10_ := Aside0.mk ((by rw [hg]; exact Nat.ne_of_lt (blk_lt (g := gb135) (o := .cells #[.int .i64 x136000_1, .slice none 0 0] 25 (0, 0)) (by (with_reducible repeat (first | refine blk_drewN ?_ _ | refine blk_drew ?_ | refine blk_alloc ?_ _)); exact BK135.out)) : gb135 ≠ gb172))
             have n11_ := Aside0.mk ((by rw [hg]; exact Nat.ne_of_gt (blk_lt (g := gb135) (o := .cells #[.int .i64 x136000_1, .slice none 0 0] 25 (0, 0)) (by (with_reducible repeat (first | refine blk_drewN ?_ _ | refine blk_drew ?_ | refine blk_alloc ?_ _)); exact BK135.out)) : gb172 ≠ gb135))
             clear HO_3
             clear HO_4
             clear HO157
             clear HO163
             clear HO168
             clear BK135
             clear HB
             have HO_3 := n0_
             have HO_4 := n1_
             have HO157 := n2_
             have HO163 := n3_
             have HO168 := n4_
             have BK135 := n5_
             have HB := n6_
             have BK172 := n7_
             have GW172 := n8_
             have GE172 := n9_
             have NB135_172 := n10_
             have NB172_135 := n11_
             clear n0_ n1_ n2_ n3_ n4_ n5_ n6_ n7_ n8_ n9_ n10_ n11_
             clear hb hbox hg
             refine hK.out _ _ trivial (fun hHeld => ?_)
             clear hK K
             refine norm_ (a' := ?_) ?_ ?_
             rotate_left
             ·show Act.put _ (some 6) _ = _
              simp only [Act.put, List.setIfInBounds_toArray, List.set_cons_zero, List.set_cons_succ, i64_w, i32_w]
              rfl
             exact norm_ (by first | (simp only [putAll, Act.put, List.setIfInBounds_toArray, List.set_cons_zero, List.set_cons_succ]; done) | (simp only [putAll, Act.put, List.setIfInBounds_toArray, List.set_cons_zero, List.set_cons_succ]; rfl)) (hJ9 (gb172) _ ⟨(by (with_reducible repeat (first | apply Kd.V_alloc | apply Kd.V_drewN | apply Kd.V_drew)); exact Kd.V_mono HO157.out (fun _ hk => ⟨hk.1.1, ⟨hk.1.2.1, ⟨hk.1.2.2, hk.2⟩⟩⟩)), (by (with_reducible repeat (first | apply Kd.V_alloc | apply Kd.V_drewN | apply Kd.V_drew)); exact Kd.V_mono HO163.out (fun _ hk => ⟨hk.1.1, ⟨hk.1.2.1, ⟨hk.1.2.2, hk.2⟩⟩⟩)), (by (with_reducible repeat (first | apply Kd.V_alloc | apply Kd.V_drewN | apply Kd.V_drew)); exact Kd.V_mono HO168.out (fun _ hk => ⟨hk.1.1, ⟨hk.1.2.1, ⟨hk.1.2.2, hk.2⟩⟩⟩)), (by (with_reducible repeat (first | apply Kd.S_alloc | apply Kd.S_drewN | apply Kd.S_drew)); exact HO_3.out), (by (with_reducible repeat (first | apply Kd.V_alloc | apply Kd.V_drewN | apply Kd.V_drew)); exact Kd.V_mono HO_4.out (fun _ hk => ⟨hk.1.1, ⟨hk.1.2.1, ⟨hk.1.2.2, hk.2⟩⟩⟩)), (by (with_reducible repeat (first | refine blk_drewN ?_ _ | refine blk_drew ?_ | refine blk_alloc ?_ _)); exact BK135.out), (by (with_reducible repeat (first | refine blk_drewN ?_ _ | refine blk_drew ?_ | refine blk_alloc ?_ _)); exact BK172.out), GW172.out, GE172.out, NB135_172.out, NB172_135.out, (by repeat (first | (with_reducible first | exact HB.out | apply below_alloc | apply pw_below_drewN | apply below_drew1 | refine below_set ?_ GE135.out | refine below_set ?_ GE172.out) | exact HB.out))⟩)
           ·skip
            rintro gb172 w92 ⟨h0_, h1_, h2_, h3_, h4_, h5_, h6_, h7_, h8_, h9_, h10_, h11_⟩
            have n0_ : Aside0 (Kd.V (Kd.int .u8) 5 w92 w.heap.size (fun k_ => (P0_ k_ ∨ w.heap.size ≤ k_) ∧ some k_ ≠ (u3 : Value).ownBlock ∧ k_ ≠ gb135 ∧ k_ ≠ gb172) (.slice Ao18 y153.length co18) y153) := ⟨h0_⟩
            have n1_ : Aside0 (Kd.V (Kd.int .u8) 5 w92 w.heap.size (fun k_ => (P0_ k_ ∨ w.heap.size ≤ k_) ∧ some k_ ≠ (u3 : Value).ownBlock ∧ k_ ≠ gb135 ∧ k_ ≠ gb172) (.slice A89 y159.length c89) y159) := ⟨h1_⟩
            have n2_ : Aside0 (Kd.V (Kd.int .u8) 5 w92 w.heap.size (fun k_ => (P0_ k_ ∨ w.heap.size ≤ k_) ∧ some k_ ≠ (u3 : Value).ownBlock ∧ k_ ≠ gb135 ∧ k_ ≠ gb172) (.slice A90 y164.length c90) y164) := ⟨h2_⟩
            have n3_ : Aside0 (Kd.S k46 46 w92 w.heap.size (fun k_ => (w.heap.size ≤ k_) ∧ k_ ≠ gb172) u3 x3_1) := ⟨h3_⟩
            have n4_ : Aside0 (Kd.V (Kd.int .u8) 5 w92 w.heap.size (fun k_ => (P0_ k_ ∨ w.heap.size ≤ k_) ∧ some k_ ≠ (u3 : Value).ownBlock ∧ k_ ≠ gb135 ∧ k_ ≠ gb172) (.slice Ao18 x4_1.length co18) x4_1) := ⟨h4_⟩
            have n5_ : Aside0 (w92.heap[gb135]? = some (.cells #[.int .i64 x136000_1, .slice none 0 0] 25 (0, 0))) := ⟨h5_⟩
            have n6_ : Aside0 (w92.heap[gb172]? = some (.cells #[.string (⟨#[]⟩ : ByteArray), .slice none 0 0] 46 (0, 0))) := ⟨h6_⟩
            have n7_ : Aside0 (w.heap.size ≤ gb172) := ⟨h7_⟩
            have n8_ : Aside0 (w.heap.size ≤ gb172) := ⟨h8_⟩
            have n9_ : Aside0 (gb135 ≠ gb172) := ⟨h9_⟩
            have n10_ : Aside0 (gb172 ≠ gb135) := ⟨h10_⟩
            have n11_ : Aside0 (Below w.heap.size w w92) := ⟨h11_⟩
            clear HO_3
            clear HO_4
            clear HO157
            clear BK135
            clear HB
            clear h0_ h1_ h2_ h3_ h4_ h5_ h6_ h7_ h8_ h9_ h10_ h11_
            have HO157 := n0_
            have HO163 := n1_
            have HO168 := n2_
            have HO_3 := n3_
            have HO_4 := n4_
            have BK135 := n5_
            have BK172 := n6_
            have GW172 := n7_
            have GE172 := n8_
            have NB135_172 := n9_
            have NB172_135 := n10_
            have HB := n11_
            clear n0_ n1_ n2_ n3_ n4_ n5_ n6_ n7_ n8_ n9_ n10_ n11_
            have hHeld := trivial
            refine norm_ (a' := ?_) ?_ ?_
            rotate_left
            ·simp only [putAll, Act.put, List.setIfInBounds_toArray, List.set_cons_zero, List.set_cons_succ]
             rfl
            refine two_ (i := 2) (j := 7) (Ni := some 47) (Nj := some 52) #[true, true, true, true, true, true, true, false, false, true, false] #[true, true, false, true, true, true, true, true, false, true, false] rfl rfl rfl rfl (two_of HT_.out (by kernel_rfl)) (by decide) (by decide) (fun K hK => ?_) (fun K hK => ?_)
            ·skip
             have hcv93 := V_string (P := Tryd.prog) Tryd.underlying22 Tryd.underlying5 Tryd.underlying9 HO163.out; have hcw93 := fun m => V_string (P := Tryd.prog) Tryd.underlying22 Tryd.underlying5 Tryd.underlying9 (Kd.V_drewN HO163.out m)
             refine value_ (w1 := ?_) (v := ?_) (by rfl) rfl ?_ ?_
             rotate_left 2
             ·go_simp
              constructor
              ·rfl
              ·rfl
             clear hcv93
             refine hK.out _ _ trivial (fun hHeld => ?_)
             clear hK K
             refine norm_ (a' := ?_) ?_ ?_
             rotate_left
             ·show Act.put _ (some 47) _ = _
              simp only [Act.put, List.setIfInBounds_toArray, List.set_cons_zero, List.set_cons_succ, i64_w, i32_w]
              rfl
             exact norm_ (by first | (simp only [putAll, Act.put, List.setIfInBounds_toArray, List.set_cons_zero, List.set_cons_succ]; done) | (simp only [putAll, Act.put, List.setIfInBounds_toArray, List.set_cons_zero, List.set_cons_succ]; rfl)) (hJ2_9 (gb172) _ ⟨(by (with_reducible repeat (first | apply Kd.V_alloc | apply Kd.V_drewN | apply Kd.V_drew)); exact HO157.out), (by (with_reducible repeat (first | apply Kd.V_alloc | apply Kd.V_drewN | apply Kd.V_drew)); exact HO163.out), (by (with_reducible repeat (first | apply Kd.V_alloc | apply Kd.V_drewN | apply Kd.V_drew)); exact HO168.out), (by (with_reducible repeat (first | apply Kd.S_alloc | apply Kd.S_drewN | apply Kd.S_drew)); exact HO_3.out), (by (with_reducible repeat (first | apply Kd.V_alloc | apply Kd.V_drewN | apply Kd.V_drew)); exact HO_4.out), (by (with_reducible repeat (first | refine blk_drewN ?_ _ | refine blk_drew ?_ | refine blk_alloc ?_ _)); exact BK135.out), (by (with_reducible repeat (first | refine blk_drewN ?_ _ | refine blk_drew ?_ | refine blk_alloc ?_ _)); exact BK172.out), GW172.out, GE172.out, NB135_172.out, NB172_135.out, (by repeat (first | (with_reducible first | exact HB.out | apply below_alloc | apply pw_below_drewN | apply below_drew1 | refine below_set ?_ GE135.out | refine below_set ?_ GE172.out) | exact HB.out))⟩)
            ·skip
             refine Kd.R_append_rows_step (Kd.int .u8) (w0 := w) w.heap.size (by rfl) (.const (.slice none 0 0)) (.tmp 51) 22 5 (.int .u8 0) 1 rfl Tryd.underlying22 info5 rfl (by decide) (by omega) (.slice none 0 0) ([] : List Int) y164 _ _ _ (fun k_ => (w.heap.size ≤ k_)) (fun _ => False) rfl rfl ?aO ?aR (fun _ _ h => h) (fun _ h => h.elim) ?aF ?aB ?aS ?aL ?_
             (case aR => repeat (first | exact (Kd.V_reads' HO168.out).2.2 | (with_reducible refine Kd.C_alloc ?_ _) | (with_reducible refine Kd.C_drewN ?_ _) | (with_reducible refine Kd.C_drew ?_)))
             (case aB => exact (by repeat (first | (with_reducible first | exact HB.out | apply below_alloc | apply pw_below_drewN | apply below_drew1 | refine below_set ?_ GE135.out | refine below_set ?_ GE172.out) | exact HB.out)))
             (case aF => exact (fun k_ hk => (Nat.le_trans (below_size (by repeat (first | (with_reducible first | exact HB.out | apply below_alloc | apply pw_below_drewN | apply below_drew1 | refine below_set ?_ GE135.out | refine below_set ?_ GE172.out) | exact HB.out))) hk)))
             (case aO => exact ((Kd.R_nil _ _ _ _ (fun k_ => (w.heap.size ≤ k_)))))
             (case aS => exact (below_size (by repeat (first | (with_reducible first | exact HB.out | apply below_alloc | apply pw_below_drewN | apply below_drew1 | refine below_set ?_ GE135.out | refine below_set ?_ GE172.out) | exact HB.out))))
             (case aL => have := LMc31.out; omega)
             intro v170 w93 ho hb hg hat
             rw [← Ny169.out] at ho
             have n0_ := Aside0.mk (Kd.S_after (Kd.S_apart_nil (by (with_reducible repeat (first | apply Kd.S_alloc | apply Kd.S_drewN | apply Kd.S_drew)); exact HO_3.out)) hg hat)
             have n1_ := Aside0.mk (Kd.V_afterv (Kd.V_apart_nil (by (with_reducible repeat (first | apply Kd.V_alloc | apply Kd.V_drewN | apply Kd.V_drew)); exact HO_4.out)) hg hat)
             have n2_ := Aside0.mk (blk_grown (g := gb135) (o := .cells #[.int .i64 x136000_1, .slice none 0 0] 25 (0, 0)) (by (with_reducible repeat (first | refine blk_drewN ?_ _ | refine blk_drew ?_ | refine blk_alloc ?_ _)); exact BK135.out) hg (by simp [Value.ownBlock]))
             have n3_ := Aside0.mk (Kd.V_afterv (Kd.V_apart_nil (by (with_reducible repeat (first | apply Kd.V_alloc | apply Kd.V_drewN | apply Kd.V_drew)); exact HO157.out)) hg hat)
             have n4_ := Aside0.mk (Kd.V_afterv (Kd.V_apart_nil (by (with_reducible repeat (first | apply Kd.V_alloc | apply Kd.V_drewN | apply Kd.V_drew)); exact HO163.out)) hg hat)
             have n5_ := Aside0.mk (Kd.V_afterv (Kd.V_apart_nil (by (with_reducible repeat (first | apply Kd.V_alloc | apply Kd.V_drewN | apply Kd.V_drew)); exact HO168.out)) hg hat)
             have n6_ := Aside0.mk (blk_grown (g := gb172) (o := .cells #[.string (⟨#[]⟩ : ByteArray), .slice none 0 0] 46 (0, 0)) (by (with_reducible repeat (first | refine blk_drewN ?_ _ | refine blk_drew ?_ | refine blk_alloc ?_ _)); exact BK172.out) hg (by simp [Value.ownBlock]))
             have n7_ := Aside0.mk (hb)
             have n8_ := Aside0.mk (ho)
             clear HO_3
             clear HO_4
             clear BK135
             clear HO157
             clear HO163
             clear HO168
             clear BK172
             clear HB
             have HO_3 := n0_
             have HO_4 := n1_
             have BK135 := n2_
             have HO157 := n3_
             have HO163 := n4_
             have HO168 := n5_
             have BK172 := n6_
             have HB := n7_
             have HO171 := n8_
             clear n0_ n1_ n2_ n3_ n4_ n5_ n6_ n7_ n8_
             clear ho hb hg hat
             refine hK.out _ _ trivial (fun hHeld => ?_)
             clear hK K
             refine norm_ (a' := ?_) ?_ ?_
             rotate_left
             ·show Act.put _ (some 52) _ = _
              simp only [Act.put, List.setIfInBounds_toArray, List.set_cons_zero, List.set_cons_succ, i64_w, i32_w]
              rfl
             exact norm_ (by first | (simp only [putAll, Act.put, List.setIfInBounds_toArray, List.set_cons_zero, List.set_cons_succ]; done) | (simp only [putAll, Act.put, List.setIfInBounds_toArray, List.set_cons_zero, List.set_cons_succ]; rfl)) (hJ7_9 (v170, gb172) _ ⟨(by (with_reducible repeat (first | apply Kd.V_alloc | apply Kd.V_drewN | apply Kd.V_drew)); exact Kd.V_mono HO157.out (fun _ hk => ⟨hk.1.1, ⟨hk.2, ⟨hk.1.2.1, ⟨hk.1.2.2.1, hk.1.2.2.2⟩⟩⟩⟩)), (by (with_reducible repeat (first | apply Kd.V_alloc | apply Kd.V_drewN | apply Kd.V_drew)); exact Kd.V_mono HO163.out (fun _ hk => ⟨hk.1.1, ⟨hk.2, ⟨hk.1.2.1, ⟨hk.1.2.2.1, hk.1.2.2.2⟩⟩⟩⟩)), (by (with_reducible repeat (first | apply Kd.V_alloc | apply Kd.V_drewN | apply Kd.V_drew)); exact Kd.V_mono HO168.out (fun _ hk => ⟨hk.1.1, ⟨hk.2, ⟨hk.1.2.1, ⟨hk.1.2.2.1, hk.1.2.2.2⟩⟩⟩⟩)), (by (with_reducible repeat (first | apply Kd.R_alloc | apply Kd.R_drewN | apply Kd.R_drew)); exact HO171.out), (by (with_reducible repeat (first | apply Kd.S_alloc | apply Kd.S_drewN | apply Kd.S_drew)); exact Kd.S_mono HO_3.out (fun _ hk => ⟨hk.1.1, ⟨hk.2, hk.1.2⟩⟩)), (by (with_reducible repeat (first | apply Kd.V_alloc | apply Kd.V_drewN | apply Kd.V_drew)); exact Kd.V_mono HO_4.out (fun _ hk => ⟨hk.1.1, ⟨hk.2, ⟨hk.1.2.1, ⟨hk.1.2.2.1, hk.1.2.2.2⟩⟩⟩⟩)), (by (with_reducible repeat (first | refine blk_drewN ?_ _ | refine blk_drew ?_ | refine blk_alloc ?_ _)); exact BK135.out), (by (with_reducible repeat (first | refine blk_drewN ?_ _ | refine blk_drew ?_ | refine blk_alloc ?_ _)); exact BK172.out), GW172.out, GE172.out, NB135_172.out, NB172_135.out, (by repeat (first | (with_reducible first | exact HB.out | apply below_alloc | apply pw_below_drewN | apply below_drew1 | refine below_set ?_ GE135.out | refine below_set ?_ GE172.out) | exact HB.out))⟩)
          ·skip
           rintro v170 w92 ⟨h0_, h1_, h2_, h3_, h4_, h5_, h6_, h7_⟩
           have n0_ : Aside0 (Kd.V (Kd.int .u8) 5 w92 w.heap.size (fun k_ => (P0_ k_ ∨ w.heap.size ≤ k_) ∧ some k_ ≠ (v170 : Value).ownBlock ∧ some k_ ≠ (u3 : Value).ownBlock ∧ k_ ≠ gb135) (.slice Ao18 y153.length co18) y153) := ⟨h0_⟩
           have n1_ : Aside0 (Kd.V (Kd.int .u8) 5 w92 w.heap.size (fun k_ => (P0_ k_ ∨ w.heap.size ≤ k_) ∧ some k_ ≠ (v170 : Value).ownBlock ∧ some k_ ≠ (u3 : Value).ownBlock ∧ k_ ≠ gb135) (.slice A89 y159.length c89) y159) := ⟨h1_⟩
           have n2_ : Aside0 (Kd.V (Kd.int .u8) 5 w92 w.heap.size (fun k_ => (P0_ k_ ∨ w.heap.size ≤ k_) ∧ some k_ ≠ (v170 : Value).ownBlock ∧ some k_ ≠ (u3 : Value).ownBlock ∧ k_ ≠ gb135) (.slice A90 y164.length c90) y164) := ⟨h2_⟩
           have n3_ : Aside0 (Kd.R (Kd.int .u8) 5 w92 w.heap.size (fun k_ => (w.heap.size ≤ k_)) v170 y169) := ⟨h3_⟩
           have n4_ : Aside0 (Kd.S k46 46 w92 w.heap.size (fun k_ => (w.heap.size ≤ k_) ∧ some k_ ≠ (v170 : Value).ownBlock) u3 x3_1) := ⟨h4_⟩
           have n5_ : Aside0 (Kd.V (Kd.int .u8) 5 w92 w.heap.size (fun k_ => (P0_ k_ ∨ w.heap.size ≤ k_) ∧ some k_ ≠ (v170 : Value).ownBlock ∧ some k_ ≠ (u3 : Value).ownBlock ∧ k_ ≠ gb135) (.slice Ao18 x4_1.length co18) x4_1) := ⟨h5_⟩
           have n6_ : Aside0 (w92.heap[gb135]? = some (.cells #[.int .i64 x136000_1, .slice none 0 0] 25 (0, 0))) := ⟨h6_⟩
           have n7_ : Aside0 (Below w.heap.size w w92) := ⟨h7_⟩
           clear HO_3
           clear HO_4
           clear HO157
           clear BK135
           clear HB
           clear h0_ h1_ h2_ h3_ h4_ h5_ h6_ h7_
           have HO157 := n0_
           have HO163 := n1_
           have HO168 := n2_
           have HO171 := n3_
           have HO_3 := n4_
           have HO_4 := n5_
           have BK135 := n6_
           have HB := n7_
           clear n0_ n1_ n2_ n3_ n4_ n5_ n6_ n7_
           have hHeld := trivial
           obtain ⟨Ao94, co94, eo94⟩ := Kd.R_slice HO171.out
           (first | subst eo94 | (injection eo94 with f1_ f2_ f3_; have f4_ := f1_.symm; have f5_ := f3_.symm; clear f1_ f2_ f3_; subst f4_; subst f5_))
           refine norm_ (a' := ?_) ?_ ?_
           rotate_left
           ·simp only [putAll, Act.put, List.setIfInBounds_toArray, List.set_cons_zero, List.set_cons_succ]
            rfl
           refine two_ (i := 2) (j := 9) (Ni := some 47) (Nj := some 6) #[true, true, true, true, true, true, true, true, false, false, false] #[true, true, false, true, true, true, true, true, false, true, false] rfl rfl rfl rfl (two_of HT_.out (by kernel_rfl)) (by decide) (by decide) (fun K hK => ?_) (fun K hK => ?_)
           ·skip
            have hcv93 := V_string (P := Tryd.prog) Tryd.underlying22 Tryd.underlying5 Tryd.underlying9 HO163.out; have hcw93 := fun m => V_string (P := Tryd.prog) Tryd.underlying22 Tryd.underlying5 Tryd.underlying9 (Kd.V_drewN HO163.out m)
            refine value_ (w1 := ?_) (v := ?_) (by rfl) rfl ?_ ?_
            rotate_left 2
            ·go_simp
             constructor
             ·rfl
             ·rfl
            clear hcv93
            refine hK.out _ _ trivial (fun hHeld => ?_)
            clear hK K
            refine norm_ (a' := ?_) ?_ ?_
            rotate_left
            ·show Act.put _ (some 47) _ = _
             simp only [Act.put, List.setIfInBounds_toArray, List.set_cons_zero, List.set_cons_succ, i64_w, i32_w]
             rfl
            refine pure_ (i := 8) (N := some 53) (v := ?_) (a' := ?_) #[true, true, true, true, true, true, true, true, true, false, false] rfl rfl (any_of HT_.out (by kernel_rfl)) (fun _ _ _ h => h) (Or.inl ⟨by rfl, ?_⟩) ?_ ?_
            rotate_left
            ·intro w'
             go_simp
             with_reducible rfl
            rotate_left
            ·simp only [Act.put, List.setIfInBounds_toArray, List.set_cons_zero, List.set_cons_succ, i64_w, i32_w]
             rfl
            exact norm_ (by first | (simp only [putAll, Act.put, List.setIfInBounds_toArray, List.set_cons_zero, List.set_cons_succ]; done) | (simp only [putAll, Act.put, List.setIfInBounds_toArray, List.set_cons_zero, List.set_cons_succ]; rfl)) (hJ2_7 (.slice Ao94 y169.length co94) _ ⟨(by (with_reducible repeat (first | apply Kd.V_alloc | apply Kd.V_drewN | apply Kd.V_drew)); exact HO157.out), (by (with_reducible repeat (first | apply Kd.V_alloc | apply Kd.V_drewN | apply Kd.V_drew)); exact HO163.out), (by (with_reducible repeat (first | apply Kd.V_alloc | apply Kd.V_drewN | apply Kd.V_drew)); exact HO168.out), (by (with_reducible repeat (first | apply Kd.R_alloc | apply Kd.R_drewN | apply Kd.R_drew)); exact HO171.out), (by (with_reducible repeat (first | apply Kd.S_alloc | apply Kd.S_drewN | apply Kd.S_drew)); exact HO_3.out), (by (with_reducible repeat (first | apply Kd.V_alloc | apply Kd.V_drewN | apply Kd.V_drew)); exact HO_4.out), (by (with_reducible repeat (first | refine blk_drewN ?_ _ | refine blk_drew ?_ | refine blk_alloc ?_ _)); exact BK135.out), (by repeat (first | (with_reducible first | exact HB.out | apply below_alloc | apply pw_below_drewN | apply below_drew1 | refine below_set ?_ GE135.out) | exact HB.out))⟩)
           ·skip
            refine box_step ?hg (N := 6) ?hd (cs := #[.string (⟨#[]⟩ : ByteArray), .slice none 0 0]) (t := 46) ?hr ?_; (case hd => rfl); (case hg => rfl); (case hr => first | (go_simp; done) | (go_simp; rfl))
            intro gb172 hg w93 hbox hb
            have n0_ := Aside0.mk (Kd.S_below (Kd.S_elderB (by (with_reducible repeat (first | apply Kd.S_alloc | apply Kd.S_drewN | apply Kd.S_drew)); exact HO_3.out) gb172 (Nat.le_of_eq hg.symm)) hb)
            have n1_ := Aside0.mk (Kd.V_below (Kd.V_elderB (by (with_reducible repeat (first | apply Kd.V_alloc | apply Kd.V_drewN | apply Kd.V_drew)); exact HO_4.out) gb172 (Nat.le_of_eq hg.symm)) hb)
            have n2_ := Aside0.mk (Kd.V_below (Kd.V_elderB (by (with_reducible repeat (first | apply Kd.V_alloc | apply Kd.V_drewN | apply Kd.V_drew)); exact HO157.out) gb172 (Nat.le_of_eq hg.symm)) hb)
            have n3_ := Aside0.mk (Kd.V_below (Kd.V_elderB (by (with_reducible repeat (first | apply Kd.V_alloc | apply Kd.V_drewN | apply Kd.V_drew)); exact HO163.out) gb172 (Nat.le_of_eq hg.symm)) hb)
            have n4_ := Aside0.mk (Kd.V_below (Kd.V_elderB (by (with_reducible repeat (first | apply Kd.V_alloc | apply Kd.V_drewN | apply Kd.V_drew)); exact HO168.out) gb172 (Nat.le_of_eq hg.symm)) hb)
            have n5_ := Aside0.mk (Kd.R_below (by (with_reducible repeat (first | apply Kd.R_alloc | apply Kd.R_drewN | apply Kd.R_drew)); exact HO171.out) hb)
            have n6_ := Aside0.mk (blk_below (g := gb135) (o := .cells #[.int .i64 x136000_1, .slice none 0 0] 25 (0, 0)) (by (with_reducible repeat (first | refine blk_drewN ?_ _ | refine blk_drew ?_ | refine blk_alloc ?_ _)); exact BK135.out) hb)
            have n7_ := Aside0.mk (below_step (by repeat (first | (with_reducible first | exact HB.out | apply below_alloc | apply pw_below_drewN | apply below_drew1 | refine below_set ?_ GE135.out) | exact HB.out)) hb)
            have n8_ := Aside0.mk (hbox)
            have n9_ := Aside0.mk ((by rw [hg]; exact (below_size (by repeat (first | (with_reducible first | exact HB.out | apply below_alloc | apply pw_below_drewN | apply below_drew1 | refine below_set ?_ GE135.out) | exact HB.out))) : w.heap.size ≤ gb172))
            have n10_ := Aside0.mk ((by rw [hg]; exact (below_size (by repeat (first | (with_reducible first | exact HB.out | apply below_alloc | apply pw_below_drewN | apply below_drew1 | refine below_set ?_ GE135.out) | exact HB.out))) : w.heap.size ≤ gb172))
            have n11_ := Aside0.mk ((by rw [hg]; exact Nat.ne_of_lt (blk_lt (g := gb135) (o := .cells #[.int .i64 x136000_1, .slice none 0 0] 25 (0, 0)) (by (with_reducible repeat (first | refine blk_drewN ?_ _ | refine blk_drew ?_ | refine blk_alloc ?_ _)); exact BK135.out)) : gb135 ≠ gb172))
            have n12_ := Aside0.mk ((by rw [hg]; exact Nat.ne_of_gt (blk_lt (g := gb135) (o := .cells #[.int .i64 x136000_1, .slice none 0 0] 25 (0, 0)) (by (with_reducible repeat (first | refine blk_drewN ?_ _ | refine blk_drew ?_ | refine blk_alloc ?_ _)); exact BK135.out)) : gb172 ≠ gb135))
            clear HO_3
            clear HO_4
            clear HO157
            clear HO163
            clear HO168
            clear HO171
            clear BK135
            clear HB
            have HO_3 := n0_
            have HO_4 := n1_
            have HO157 := n2_
            have HO163 := n3_
            have HO168 := n4_
            have HO171 := n5_
            have BK135 := n6_
            have HB := n7_
            have BK172 := n8_
            have GW172 := n9_
            have GE172 := n10_
            have NB135_172 := n11_
            have NB172_135 := n12_
            clear n0_ n1_ n2_ n3_ n4_ n5_ n6_ n7_ n8_ n9_ n10_ n11_ n12_
            clear hb hbox hg
            refine hK.out _ _ trivial (fun hHeld => ?_)
            clear hK K
            refine norm_ (a' := ?_) ?_ ?_
            rotate_left
            ·show Act.put _ (some 6) _ = _
             simp only [Act.put, List.setIfInBounds_toArray, List.set_cons_zero, List.set_cons_succ, i64_w, i32_w]
             rfl
            exact norm_ (by first | (simp only [putAll, Act.put, List.setIfInBounds_toArray, List.set_cons_zero, List.set_cons_succ]; done) | (simp only [putAll, Act.put, List.setIfInBounds_toArray, List.set_cons_zero, List.set_cons_succ]; rfl)) (hJ7_9 (.slice Ao94 y169.length co94, gb172) _ ⟨(by (with_reducible repeat (first | apply Kd.V_alloc | apply Kd.V_drewN | apply Kd.V_drew)); exact Kd.V_mono HO157.out (fun _ hk => ⟨hk.1.1, ⟨hk.1.2.1, ⟨hk.1.2.2.1, ⟨hk.1.2.2.2, hk.2⟩⟩⟩⟩)), (by (with_reducible repeat (first | apply Kd.V_alloc | apply Kd.V_drewN | apply Kd.V_drew)); exact Kd.V_mono HO163.out (fun _ hk => ⟨hk.1.1, ⟨hk.1.2.1, ⟨hk.1.2.2.1, ⟨hk.1.2.2.2, hk.2⟩⟩⟩⟩)), (by (with_reducible repeat (first | apply Kd.V_alloc | apply Kd.V_drewN | apply Kd.V_drew)); exact Kd.V_mono HO168.out (fun _ hk => ⟨hk.1.1, ⟨hk.1.2.1, ⟨hk.1.2.2.1, ⟨hk.1.2.2.2, hk.2⟩⟩⟩⟩)), (by (with_reducible repeat (first | apply Kd.R_alloc | apply Kd.R_drewN | apply Kd.R_drew)); exact HO171.out), (by (with_reducible repeat (first | apply Kd.S_alloc | apply Kd.S_drewN | apply Kd.S_drew)); exact Kd.S_mono HO_3.out (fun _ hk => ⟨hk.1.1, ⟨hk.1.2, hk.2⟩⟩)), (by (with_reducible repeat (first | apply Kd.V_alloc | apply Kd.V_drewN | apply Kd.V_drew)); exact Kd.V_mono HO_4.out (fun _ hk => ⟨hk.1.1, ⟨hk.1.2.1, ⟨hk.1.2.2.1, ⟨hk.1.2.2.2, hk.2⟩⟩⟩⟩)), (by (with_reducible repeat (first | refine blk_drewN ?_ _ | refine blk_drew ?_ | refine blk_alloc ?_ _)); exact BK135.out), (by (with_reducible repeat (first | refine blk_drewN ?_ _ | refine blk_drew ?_ | refine blk_alloc ?_ _)); exact BK172.out), GW172.out, GE172.out, NB135_172.out, NB172_135.out, (by repeat (first | (with_reducible first | exact HB.out | apply below_alloc | apply pw_below_drewN | apply below_drew1 | refine below_set ?_ GE135.out | refine below_set ?_ GE172.out) | exact HB.out))⟩)
         ·skip
          rintro _ w92 ⟨h0_, h1_, h2_, h3_, h4_, h5_, h6_⟩
          have n0_ : Aside0 (Kd.V (Kd.int .u8) 5 w92 w.heap.size (fun k_ => (P0_ k_ ∨ w.heap.size ≤ k_) ∧ some k_ ≠ (u3 : Value).ownBlock ∧ k_ ≠ gb135) (.slice Ao18 y153.length co18) y153) := ⟨h0_⟩
          have n1_ : Aside0 (Kd.V (Kd.int .u8) 5 w92 w.heap.size (fun k_ => (P0_ k_ ∨ w.heap.size ≤ k_) ∧ some k_ ≠ (u3 : Value).ownBlock ∧ k_ ≠ gb135) (.slice A89 y159.length c89) y159) := ⟨h1_⟩
          have n2_ : Aside0 (Kd.V (Kd.int .u8) 5 w92 w.heap.size (fun k_ => (P0_ k_ ∨ w.heap.size ≤ k_) ∧ some k_ ≠ (u3 : Value).ownBlock ∧ k_ ≠ gb135) (.slice A90 y164.length c90) y164) := ⟨h2_⟩
          have n3_ : Aside0 (Kd.S k46 46 w92 w.heap.size (fun k_ => (w.heap.size ≤ k_)) u3 x3_1) := ⟨h3_⟩
          have n4_ : Aside0 (Kd.V (Kd.int .u8) 5 w92 w.heap.size (fun k_ => (P0_ k_ ∨ w.heap.size ≤ k_) ∧ some k_ ≠ (u3 : Value).ownBlock ∧ k_ ≠ gb135) (.slice Ao18 x4_1.length co18) x4_1) := ⟨h4_⟩
          have n5_ : Aside0 (w92.heap[gb135]? = some (.cells #[.int .i64 x136000_1, .slice none 0 0] 25 (0, 0))) := ⟨h5_⟩
          have n6_ : Aside0 (Below w.heap.size w w92) := ⟨h6_⟩
          clear HO_3
          clear HO_4
          clear HO157
          clear BK135
          clear HB
          clear h0_ h1_ h2_ h3_ h4_ h5_ h6_
          have HO157 := n0_
          have HO163 := n1_
          have HO168 := n2_
          have HO_3 := n3_
          have HO_4 := n4_
          have BK135 := n5_
          have HB := n6_
          clear n0_ n1_ n2_ n3_ n4_ n5_ n6_
          have hHeld := trivial
          refine norm_ (a' := ?_) ?_ ?_
          rotate_left
          ·simp only [putAll, Act.put, List.setIfInBounds_toArray, List.set_cons_zero, List.set_cons_succ]
           rfl
          refine two_ (i := 7) (j := 9) (Ni := some 52) (Nj := some 6) #[true, true, true, true, true, true, true, true, false, false, false] #[true, true, true, true, true, true, true, false, false, true, false] rfl rfl rfl rfl (two_of HT_.out (by kernel_rfl)) (by decide) (by decide) (fun K hK => ?_) (fun K hK => ?_)
          ·skip
           refine Kd.R_append_rows_step (Kd.int .u8) (w0 := w) w.heap.size (by rfl) (.const (.slice none 0 0)) (.tmp 51) 22 5 (.int .u8 0) 1 rfl Tryd.underlying22 info5 rfl (by decide) (by omega) (.slice none 0 0) ([] : List Int) y164 _ _ _ (fun k_ => (w.heap.size ≤ k_)) (fun _ => False) rfl rfl ?aO ?aR (fun _ _ h => h) (fun _ h => h.elim) ?aF ?aB ?aS ?aL ?_
           (case aR => repeat (first | exact (Kd.V_reads' HO168.out).2.2 | (with_reducible refine Kd.C_alloc ?_ _) | (with_reducible refine Kd.C_drewN ?_ _) | (with_reducible refine Kd.C_drew ?_)))
           (case aB => exact (by repeat (first | (with_reducible first | exact HB.out | apply below_alloc | apply pw_below_drewN | apply below_drew1 | refine below_set ?_ GE135.out) | exact HB.out)))
           (case aF => exact (fun k_ hk => (Nat.le_trans (below_size (by repeat (first | (with_reducible first | exact HB.out | apply below_alloc | apply pw_below_drewN | apply below_drew1 | refine below_set ?_ GE135.out) | exact HB.out))) hk)))
           (case aO => exact ((Kd.R_nil _ _ _ _ (fun k_ => (w.heap.size ≤ k_)))))
           (case aS => exact (below_size (by repeat (first | (with_reducible first | exact HB.out | apply below_alloc | apply pw_below_drewN | apply below_drew1 | refine below_set ?_ GE135.out) | exact HB.out))))
           (case aL => have := LMc31.out; omega)
           intro v170 w93 ho hb hg hat
           rw [← Ny169.out] at ho
           have n0_ := Aside0.mk (Kd.S_after (Kd.S_apart_nil (by (with_reducible repeat (first | apply Kd.S_alloc | apply Kd.S_drewN | apply Kd.S_drew)); exact HO_3.out)) hg hat)
           have n1_ := Aside0.mk (Kd.V_afterv (Kd.V_apart_nil (by (with_reducible repeat (first | apply Kd.V_alloc | apply Kd.V_drewN | apply Kd.V_drew)); exact HO_4.out)) hg hat)
           have n2_ := Aside0.mk (blk_grown (g := gb135) (o := .cells #[.int .i64 x136000_1, .slice none 0 0] 25 (0, 0)) (by (with_reducible repeat (first | refine blk_drewN ?_ _ | refine blk_drew ?_ | refine blk_alloc ?_ _)); exact BK135.out) hg (by simp [Value.ownBlock]))
           have n3_ := Aside0.mk (Kd.V_afterv (Kd.V_apart_nil (by (with_reducible repeat (first | apply Kd.V_alloc | apply Kd.V_drewN | apply Kd.V_drew)); exact HO157.out)) hg hat)
           have n4_ := Aside0.mk (Kd.V_afterv (Kd.V_apart_nil (by (with_reducible repeat (first | apply Kd.V_alloc | apply Kd.V_drewN | apply Kd.V_drew)); exact HO163.out)) hg hat)
           have n5_ := Aside0.mk (Kd.V_afterv (Kd.V_apart_nil (by (with_reducible repeat (first | apply Kd.V_alloc | apply Kd.V_drewN | apply Kd.V_drew)); exact HO168.out)) hg hat)
           have n6_ := Aside0.mk (hb)
           have n7_ := Aside0.mk (ho)
           clear HO_3
           clear HO_4
           clear BK135
           clear HO157
           clear HO163
           clear HO168
           clear HB
           have HO_3 := n0_
           have HO_4 := n1_
           have BK135 := n2_
           have HO157 := n3_
           have HO163 := n4_
           have HO168 := n5_
           have HB := n6_
           have HO171 := n7_
           clear n0_ n1_ n2_ n3_ n4_ n5_ n6_ n7_
           clear ho hb hg hat
           obtain ⟨Ao94, co94, eo94⟩ := Kd.R_slice HO171.out
           (first | subst eo94 | (injection eo94 with f1_ f2_ f3_; have f4_ := f1_.symm; have f5_ := f3_.symm; clear f1_ f2_ f3_; subst f4_; subst f5_))
           refine hK.out _ _ trivial (fun hHeld => ?_)
           clear hK K
           refine norm_ (a' := ?_) ?_ ?_
           rotate_left
           ·show Act.put _ (some 52) _ = _
            simp only [Act.put, List.setIfInBounds_toArray, List.set_cons_zero, List.set_cons_succ, i64_w, i32_w]
            rfl
           refine pure_ (i := 8) (N := some 53) (v := ?_) (a' := ?_) #[true, true, true, true, true, true, true, true, true, false, false] rfl rfl (any_of HT_.out (by kernel_rfl)) (fun _ _ _ h => h) (Or.inl ⟨by rfl, ?_⟩) ?_ ?_
           rotate_left
           ·intro w'
            go_simp
            with_reducible rfl
           rotate_left
           ·simp only [Act.put, List.setIfInBounds_toArray, List.set_cons_zero, List.set_cons_succ, i64_w, i32_w]
            rfl
           exact norm_ (by first | (simp only [putAll, Act.put, List.setIfInBounds_toArray, List.set_cons_zero, List.set_cons_succ]; done) | (simp only [putAll, Act.put, List.setIfInBounds_toArray, List.set_cons_zero, List.set_cons_succ]; rfl)) (hJ2_7 (.slice Ao94 y169.length co94) _ ⟨(by (with_reducible repeat (first | apply Kd.V_alloc | apply Kd.V_drewN | apply Kd.V_drew)); exact Kd.V_mono HO157.out (fun _ hk => ⟨hk.1.1, ⟨hk.2, ⟨hk.1.2.1, hk.1.2.2⟩⟩⟩)), (by (with_reducible repeat (first | apply Kd.V_alloc | apply Kd.V_drewN | apply Kd.V_drew)); exact Kd.V_mono HO163.out (fun _ hk => ⟨hk.1.1, ⟨hk.2, ⟨hk.1.2.1, hk.1.2.2⟩⟩⟩)), (by (with_reducible repeat (first | apply Kd.V_alloc | apply Kd.V_drewN | apply Kd.V_drew)); exact Kd.V_mono HO168.out (fun _ hk => ⟨hk.1.1, ⟨hk.2, ⟨hk.1.2.1, hk.1.2.2⟩⟩⟩)), (by (with_reducible repeat (first | apply Kd.R_alloc | apply Kd.R_drewN | apply Kd.R_drew)); exact HO171.out), (by (with_reducible repeat (first | apply Kd.S_alloc | apply Kd.S_drewN | apply Kd.S_drew)); exact HO_3.out), (by (with_reducible repeat (first | apply Kd.V_alloc | apply Kd.V_drewN | apply Kd.V_drew)); exact Kd.V_mono HO_4.out (fun _ hk => ⟨hk.1.1, ⟨hk.2, ⟨hk.1.2.1, hk.1.2.2⟩⟩⟩)), (by (with_reducible repeat (first | refine blk_drewN ?_ _ | refine blk_drew ?_ | refine blk_alloc ?_ _)); exact BK135.out), (by repeat (first | (with_reducible first | exact HB.out | apply below_alloc | apply pw_below_drewN | apply below_drew1 | refine below_set ?_ GE135.out) | exact HB.out))⟩)
          ·skip
           refine box_step ?hg (N := 6) ?hd (cs := #[.string (⟨#[]⟩ : ByteArray), .slice none 0 0]) (t := 46) ?hr ?_; (case hd => rfl); (case hg => rfl); (case hr => first | (go_simp; done) | (go_simp; rfl))
           intro gb172 hg w93 hbox hb
           have n0_ := Aside0.mk (Kd.S_below (Kd.S_elderB (by (with_reducible repeat (first | apply Kd.S_alloc | apply Kd.S_drewN | apply Kd.S_drew)); exact HO_3.out) gb172 (Nat.le_of_eq hg.symm)) hb)
           have n1_ := Aside0.mk (Kd.V_below (Kd.V_elderB (by (with_reducible repeat (first | apply Kd.V_alloc | apply Kd.V_drewN | apply Kd.V_drew)); exact HO_4.out) gb172 (Nat.le_of_eq hg.symm)) hb)
           have n2_ := Aside0.mk (Kd.V_below (Kd.V_elderB (by (with_reducible repeat (first | apply Kd.V_alloc | apply Kd.V_drewN | apply Kd.V_drew)); exact HO157.out) gb172 (Nat.le_of_eq hg.symm)) hb)
           have n3_ := Aside0.mk (Kd.V_below (Kd.V_elderB (by (with_reducible repeat (first | apply Kd.V_alloc | apply Kd.V_drewN | apply Kd.V_drew)); exact HO163.out) gb172 (Nat.le_of_eq hg.symm)) hb)
           have n4_ := Aside0.mk (Kd.V_below (Kd.V_elderB (by (with_reducible repeat (first | apply Kd.V_alloc | apply Kd.V_drewN | apply Kd.V_drew)); exact HO168.out) gb172 (Nat.le_of_eq hg.symm)) hb)
           have n5_ := Aside0.mk (blk_below (g := gb135) (o := .cells #[.int .i64 x136000_1, .slice none 0 0] 25 (0, 0)) (by (with_reducible repeat (first | refine blk_drewN ?_ _ | refine blk_drew ?_ | refine blk_alloc ?_ _)); exact BK135.out) hb)
           have n6_ := Aside0.mk (below_step (by repeat (first | (with_reducible first | exact HB.out | apply below_alloc | apply pw_below_drewN | apply below_drew1 | refine below_set ?_ GE135.out) | exact HB.out)) hb)
           have n7_ := Aside0.mk (hbox)
           have n8_ := Aside0.mk ((by rw [hg]; exact (below_size (by repeat (first | (with_reducible first | exact HB.out | apply below_alloc | apply pw_below_drewN | apply below_drew1 | refine below_set ?_ GE135.out) | exact HB.out))) : w.heap.size ≤ gb172))
           have n9_ := Aside0.mk ((by rw [hg]; exact (below_size (by repeat (first | (with_reducible first | exact HB.out | apply below_alloc | apply pw_below_drewN | apply below_drew1 | refine below_set ?_ GE135.out) | exact HB.out))) : w.heap.size ≤ gb172))
           have n10_ := Aside0.mk ((by rw [hg]; exact Nat.ne_of_lt (blk_lt (g := gb135) (o := .cells #[.int .i64 x136000_1, .slice none 0 0] 25 (0, 0)) (by (with_reducible repeat (first | refine blk_drewN ?_ _ | refine blk_drew ?_ | refine blk_alloc ?_ _)); exact BK135.out)) : gb135 ≠ gb172))
           have n11_ := Aside0.mk ((by rw [hg]; exact Nat.ne_of_gt (blk_lt (g := gb135) (o := .cells #[.int .i64 x136000_1, .slice none 0 0] 25 (0, 0)) (by (with_reducible repeat (first | refine blk_drewN ?_ _ | refine blk_drew ?_ | refine blk_alloc ?_ _)); exact BK135.out)) : gb172 ≠ gb135))
           clear HO_3
           clear HO_4
           clear HO157
           clear HO163
           clear HO168
           clear BK135
           clear HB
           have HO_3 := n0_
           have HO_4 := n1_
           have HO157 := n2_
           have HO163 := n3_
           have HO168 := n4_
           have BK135 := n5_
           have HB := n6_
           have BK172 := n7_
           have GW172 := n8_
           have GE172 := n9_
           have NB135_172 := n10_
           have NB172_135 := n11_
           clear n0_ n1_ n2_ n3_ n4_ n5_ n6_ n7_ n8_ n9_ n10_ n11_
           clear hb hbox hg
           refine hK.out _ _ trivial (fun hHeld => ?_)
           clear hK K
           refine norm_ (a' := ?_) ?_ ?_
           rotate_left
           ·show Act.put _ (some 6) _ = _
            simp only [Act.put, List.setIfInBounds_toArray, List.set_cons_zero, List.set_cons_succ, i64_w, i32_w]
            rfl
           exact norm_ (by first | (simp only [putAll, Act.put, List.setIfInBounds_toArray, List.set_cons_zero, List.set_cons_succ]; done) | (simp only [putAll, Act.put, List.setIfInBounds_toArray, List.set_cons_zero, List.set_cons_succ]; rfl)) (hJ2_9 (gb172) _ ⟨(by (with_reducible repeat (first | apply Kd.V_alloc | apply Kd.V_drewN | apply Kd.V_drew)); exact Kd.V_mono HO157.out (fun _ hk => ⟨hk.1.1, ⟨hk.1.2.1, ⟨hk.1.2.2, hk.2⟩⟩⟩)), (by (with_reducible repeat (first | apply Kd.V_alloc | apply Kd.V_drewN | apply Kd.V_drew)); exact Kd.V_mono HO163.out (fun _ hk => ⟨hk.1.1, ⟨hk.1.2.1, ⟨hk.1.2.2, hk.2⟩⟩⟩)), (by (with_reducible repeat (first | apply Kd.V_alloc | apply Kd.V_drewN | apply Kd.V_drew)); exact Kd.V_mono HO168.out (fun _ hk => ⟨hk.1.1, ⟨hk.1.2.1, ⟨hk.1.2.2, hk.2⟩⟩⟩)), (by (with_reducible repeat (first | apply Kd.S_alloc | apply Kd.S_drewN | apply Kd.S_drew)); exact HO_3.out), (by (with_reducible repeat (first | apply Kd.V_alloc | apply Kd.V_drewN | apply Kd.V_drew)); exact Kd.V_mono HO_4.out (fun _ hk => ⟨hk.1.1, ⟨hk.1.2.1, ⟨hk.1.2.2, hk.2⟩⟩⟩)), (by (with_reducible repeat (first | refine blk_drewN ?_ _ | refine blk_drew ?_ | refine blk_alloc ?_ _)); exact BK135.out), (by (with_reducible repeat (first | refine blk_drewN ?_ _ | refine blk_drew ?_ | refine blk_alloc ?_ _)); exact BK172.out), GW172.out, GE172.out, NB135_172.out, NB172_135.out, (by repeat (first | (with_reducible first | exact HB.out | apply below_alloc | apply pw_below_drewN | apply below_drew1 | refine below_set ?_ GE135.out | refine below_set ?_ GE172.out) | exact HB.out))⟩)
        ·skip
         rintro ⟨v170, gb172⟩ w93 ⟨h0_, h1_, h2_, h3_, h4_, h5_, h6_, h7_, h8_, h9_, h10_, h11_, h12_⟩
         have n0_ : Aside0 (Kd.V (Kd.int .u8) 5 w93 w.heap.size (fun k_ => (P0_ k_ ∨ w.heap.size ≤ k_) ∧ some k_ ≠ (v170 : Value).ownBlock ∧ some k_ ≠ (u3 : Value).ownBlock ∧ k_ ≠ gb135 ∧ k_ ≠ gb172) (.slice Ao18 y153.length co18) y153) := ⟨h0_⟩
         have n1_ : Aside0 (Kd.V (Kd.int .u8) 5 w93 w.heap.size (fun k_ => (P0_ k_ ∨ w.heap.size ≤ k_) ∧ some k_ ≠ (v170 : Value).ownBlock ∧ some k_ ≠ (u3 : Value).ownBlock ∧ k_ ≠ gb135 ∧ k_ ≠ gb172) (.slice A89 y159.length c89) y159) := ⟨h1_⟩
         have n2_ : Aside0 (Kd.V (Kd.int .u8) 5 w93 w.heap.size (fun k_ => (P0_ k_ ∨ w.heap.size ≤ k_) ∧ some k_ ≠ (v170 : Value).ownBlock ∧ some k_ ≠ (u3 : Value).ownBlock ∧ k_ ≠ gb135 ∧ k_ ≠ gb172) (.slice A90 y164.length c90) y164) := ⟨h2_⟩
         have n3_ : Aside0 (Kd.R (Kd.int .u8) 5 w93 w.heap.size (fun k_ => (w.heap.size ≤ k_)) v170 y169) := ⟨h3_⟩
         have n4_ : Aside0 (Kd.S k46 46 w93 w.heap.size (fun k_ => (w.heap.size ≤ k_) ∧ some k_ ≠ (v170 : Value).ownBlock ∧ k_ ≠ gb172) u3 x3_1) := ⟨h4_⟩
         have n5_ : Aside0 (Kd.V (Kd.int .u8) 5 w93 w.heap.size (fun k_ => (P0_ k_ ∨ w.heap.size ≤ k_) ∧ some k_ ≠ (v170 : Value).ownBlock ∧ some k_ ≠ (u3 : Value).ownBlock ∧ k_ ≠ gb135 ∧ k_ ≠ gb172) (.slice Ao18 x4_1.length co18) x4_1) := ⟨h5_⟩
         have n6_ : Aside0 (w93.heap[gb135]? = some (.cells #[.int .i64 x136000_1, .slice none 0 0] 25 (0, 0))) := ⟨h6_⟩
         have n7_ : Aside0 (w93.heap[gb172]? = some (.cells #[.string (⟨#[]⟩ : ByteArray), .slice none 0 0] 46 (0, 0))) := ⟨h7_⟩
         have n8_ : Aside0 (w.heap.size ≤ gb172) := ⟨h8_⟩
         have n9_ : Aside0 (w.heap.size ≤ gb172) := ⟨h9_⟩
         have n10_ : Aside0 (gb135 ≠ gb172) := ⟨h10_⟩
         have n11_ : Aside0 (gb172 ≠ gb135) := ⟨h11_⟩
         have n12_ : Aside0 (Below w.heap.size w w93) := ⟨h12_⟩
         clear HO_3
         clear HO_4
         clear HO157
         clear BK135
         clear HB
         clear h0_ h1_ h2_ h3_ h4_ h5_ h6_ h7_ h8_ h9_ h10_ h11_ h12_
         have HO157 := n0_
         have HO163 := n1_
         have HO168 := n2_
         have HO171 := n3_
         have HO_3 := n4_
         have HO_4 := n5_
         have BK135 := n6_
         have BK172 := n7_
         have GW172 := n8_
         have GE172 := n9_
         have NB135_172 := n10_
         have NB172_135 := n11_
         have HB := n12_
         clear n0_ n1_ n2_ n3_ n4_ n5_ n6_ n7_ n8_ n9_ n10_ n11_ n12_
         have hHeld := trivial
         obtain ⟨Ao95, co95, eo95⟩ := Kd.R_slice HO171.out
         (first | subst eo95 | (injection eo95 with f1_ f2_ f3_; have f4_ := f1_.symm; have f5_ := f3_.symm; clear f1_ f2_ f3_; subst f4_; subst f5_))
         refine norm_ (a' := ?_) ?_ ?_
         rotate_left
         ·simp only [putAll, Act.put, List.setIfInBounds_toArray, List.set_cons_zero, List.set_cons_succ]
          rfl
         refine one_ (i := 2) (N := some 47) #[true, true, true, true, true, true, true, true, false, true, false] rfl rfl (one_of HT_.out (by kernel_rfl)) (by decide) (fun K hK => ?_)
         have hcv94 := V_string (P := Tryd.prog) Tryd.underlying22 Tryd.underlying5 Tryd.underlying9 HO163.out; have hcw94 := fun m => V_string (P := Tryd.prog) Tryd.underlying22 Tryd.underlying5 Tryd.underlying9 (Kd.V_drewN HO163.out m)
         refine value_ (w1 := ?_) (v := ?_) (by rfl) rfl ?_ ?_
         rotate_left 2
         ·go_simp
          constructor
          ·rfl
          ·rfl
         clear hcv94
         refine hK.out _ _ trivial (fun hHeld => ?_)
         clear hK K
         refine norm_ (a' := ?_) ?_ ?_
         rotate_left
         ·show Act.put _ (some 47) _ = _
          simp only [Act.put, List.setIfInBounds_toArray, List.set_cons_zero, List.set_cons_succ, i64_w, i32_w]
          rfl
         refine pure_ (i := 8) (N := some 53) (v := ?_) (a' := ?_) #[true, true, true, true, true, true, true, true, true, true, false] rfl rfl (any_of HT_.out (by kernel_rfl)) (fun _ _ _ h => h) (Or.inl ⟨by rfl, ?_⟩) ?_ ?_
         rotate_left
         ·intro w'
          go_simp
          with_reducible rfl
         rotate_left
         ·simp only [Act.put, List.setIfInBounds_toArray, List.set_cons_zero, List.set_cons_succ, i64_w, i32_w]
          rfl
         exact norm_ (by first | (simp only [putAll, Act.put, List.setIfInBounds_toArray, List.set_cons_zero, List.set_cons_succ]; done) | (simp only [putAll, Act.put, List.setIfInBounds_toArray, List.set_cons_zero, List.set_cons_succ]; rfl)) (hJ2_7_9 (.slice Ao95 y169.length co95, gb172) _ ⟨(by (with_reducible repeat (first | apply Kd.V_alloc | apply Kd.V_drewN | apply Kd.V_drew)); exact HO157.out), (by (with_reducible repeat (first | apply Kd.V_alloc | apply Kd.V_drewN | apply Kd.V_drew)); exact HO163.out), (by (with_reducible repeat (first | apply Kd.V_alloc | apply Kd.V_drewN | apply Kd.V_drew)); exact HO168.out), (by (with_reducible repeat (first | apply Kd.R_alloc | apply Kd.R_drewN | apply Kd.R_drew)); exact HO171.out), (by (with_reducible repeat (first | apply Kd.S_alloc | apply Kd.S_drewN | apply Kd.S_drew)); exact HO_3.out), (by (with_reducible repeat (first | apply Kd.V_alloc | apply Kd.V_drewN | apply Kd.V_drew)); exact HO_4.out), (by (with_reducible repeat (first | refine blk_drewN ?_ _ | refine blk_drew ?_ | refine blk_alloc ?_ _)); exact BK135.out), (by (with_reducible repeat (first | refine blk_drewN ?_ _ | refine blk_drew ?_ | refine blk_alloc ?_ _)); exact BK172.out), GW172.out, GE172.out, NB135_172.out, NB172_135.out, (by repeat (first | (with_reducible first | exact HB.out | apply below_alloc | apply pw_below_drewN | apply below_drew1 | refine below_set ?_ GE135.out | refine below_set ?_ GE172.out) | exact HB.out))⟩)
       ·skip
        rintro gb172 w93 ⟨h0_, h1_, h2_, h3_, h4_, h5_, h6_, h7_, h8_, h9_, h10_, h11_⟩
        have n0_ : Aside0 (Kd.V (Kd.int .u8) 5 w93 w.heap.size (fun k_ => (P0_ k_ ∨ w.heap.size ≤ k_) ∧ some k_ ≠ (u3 : Value).ownBlock ∧ k_ ≠ gb135 ∧ k_ ≠ gb172) (.slice Ao18 y153.length co18) y153) := ⟨h0_⟩
        have n1_ : Aside0 (Kd.V (Kd.int .u8) 5 w93 w.heap.size (fun k_ => (P0_ k_ ∨ w.heap.size ≤ k_) ∧ some k_ ≠ (u3 : Value).ownBlock ∧ k_ ≠ gb135 ∧ k_ ≠ gb172) (.slice A89 y159.length c89) y159) := ⟨h1_⟩
        have n2_ : Aside0 (Kd.V (Kd.int .u8) 5 w93 w.heap.size (fun k_ => (P0_ k_ ∨ w.heap.size ≤ k_) ∧ some k_ ≠ (u3 : Value).ownBlock ∧ k_ ≠ gb135 ∧ k_ ≠ gb172) (.slice A90 y164.length c90) y164) := ⟨h2_⟩
        have n3_ : Aside0 (Kd.S k46 46 w93 w.heap.size (fun k_ => (w.heap.size ≤ k_) ∧ k_ ≠ gb172) u3 x3_1) := ⟨h3_⟩
        have n4_ : Aside0 (Kd.V (Kd.int .u8) 5 w93 w.heap.size (fun k_ => (P0_ k_ ∨ w.heap.size ≤ k_) ∧ some k_ ≠ (u3 : Value).ownBlock ∧ k_ ≠ gb135 ∧ k_ ≠ gb172) (.slice Ao18 x4_1.length co18) x4_1) := ⟨h4_⟩
        have n5_ : Aside0 (w93.heap[gb135]? = some (.cells #[.int .i64 x136000_1, .slice none 0 0] 25 (0, 0))) := ⟨h5_⟩
        have n6_ : Aside0 (w93.heap[gb172]? = some (.cells #[.string (⟨#[]⟩ : ByteArray), .slice none 0 0] 46 (0, 0))) := ⟨h6_⟩
        have n7_ : Aside0 (w.heap.size ≤ gb172) := ⟨h7_⟩
        have n8_ : Aside0 (w.heap.size ≤ gb172) := ⟨h8_⟩
        have n9_ : Aside0 (gb135 ≠ gb172) := ⟨h9_⟩
        have n10_ : Aside0 (gb172 ≠ gb135) := ⟨h10_⟩
        have n11_ : Aside0 (Below w.heap.size w w93) := ⟨h11_⟩
        clear HO_3
        clear HO_4
        clear HO157
        clear BK135
        clear HB
        clear h0_ h1_ h2_ h3_ h4_ h5_ h6_ h7_ h8_ h9_ h10_ h11_
        have HO157 := n0_
        have HO163 := n1_
        have HO168 := n2_
        have HO_3 := n3_
        have HO_4 := n4_
        have BK135 := n5_
        have BK172 := n6_
        have GW172 := n7_
        have GE172 := n8_
        have NB135_172 := n9_
        have NB172_135 := n10_
        have HB := n11_
        clear n0_ n1_ n2_ n3_ n4_ n5_ n6_ n7_ n8_ n9_ n10_ n11_
        have hHeld := trivial
        refine norm_ (a' := ?_) ?_ ?_
        rotate_left
        ·simp only [putAll, Act.put, List.setIfInBounds_toArray, List.set_cons_zero, List.set_cons_succ]
         rfl
        refine one_ (i := 7) (N := some 52) #[true, true, true, true, true, true, true, true, false, true, false] rfl rfl (one_of HT_.out (by kernel_rfl)) (by decide) (fun K hK => ?_)
        refine Kd.R_append_rows_step (Kd.int .u8) (w0 := w) w.heap.size (by rfl) (.const (.slice none 0 0)) (.tmp 51) 22 5 (.int .u8 0) 1 rfl Tryd.underlying22 info5 rfl (by decide) (by omega) (.slice none 0 0) ([] : List Int) y164 _ _ _ (fun k_ => (w.heap.size ≤ k_)) (fun _ => False) rfl rfl ?aO ?aR (fun _ _ h => h) (fun _ h => h.elim) ?aF ?aB ?aS ?aL ?_
        (case aR => repeat (first | exact (Kd.V_reads' HO168.out).2.2 | (with_reducible refine Kd.C_alloc ?_ _) | (with_reducible refine Kd.C_drewN ?_ _) | (with_reducible refine Kd.C_drew ?_)))
        (case aB => exact (by repeat (first | (with_reducible first | exact HB.out | apply below_alloc | apply pw_below_drewN | apply below_drew1 | refine below_set ?_ GE135.out | refine below_set ?_ GE172.out) | exact HB.out)))
        (case aF => exact (fun k_ hk => (Nat.le_trans (below_size (by repeat (first | (with_reducible first | exact HB.out | apply below_alloc | apply pw_below_drewN | apply below_drew1 | refine below_set ?_ GE135.out | refine below_set ?_ GE172.out) | exact HB.out))) hk)))
        (case aO => exact ((Kd.R_nil _ _ _ _ (fun k_ => (w.heap.size ≤ k_)))))
        (case aS => exact (below_size (by repeat (first | (with_reducible first | exact HB.out | apply below_alloc | apply pw_below_drewN | apply below_drew1 | refine below_set ?_ GE135.out | refine below_set ?_ GE172.out) | exact HB.out))))
        (case aL => have := LMc31.out; omega)
        intro v170 w94 ho hb hg hat
        rw [← Ny169.out] at ho
        have n0_ := Aside0.mk (Kd.S_after (Kd.S_apart_nil (by (with_reducible repeat (first | apply Kd.S_alloc | apply Kd.S_drewN | apply Kd.S_drew)); exact HO_3.out)) hg hat)
        have n1_ := Aside0.mk (Kd.V_afterv (Kd.V_apart_nil (by (with_reducible repeat (first | apply Kd.V_alloc | apply Kd.V_drewN | apply Kd.V_drew)); exact HO_4.out)) hg hat)
        have n2_ := Aside0.mk (blk_grown (g := gb135) (o := .cells #[.int .i64 x136000_1, .slice none 0 0] 25 (0, 0)) (by (with_reducible repeat (first | refine blk_drewN ?_ _ | refine blk_drew ?_ | refine blk_alloc ?_ _)); exact BK135.out) hg (by simp [Value.ownBlock]))
        have n3_ := Aside0.mk (Kd.V_afterv (Kd.V_apart_nil (by (with_reducible repeat (first | apply Kd.V_alloc | apply Kd.V_drewN | apply Kd.V_drew)); exact HO157.out)) hg hat)
        have n4_ := Aside0.mk (Kd.V_afterv (Kd.V_apart_nil (by (with_reducible repeat (first | apply Kd.V_alloc | apply Kd.V_drewN | apply Kd.V_drew)); exact HO163.out)) hg hat)
        have n5_ := Aside0.mk (Kd.V_afterv (Kd.V_apart_nil (by (with_reducible repeat (first | apply Kd.V_alloc | apply Kd.V_drewN | apply Kd.V_drew)); exact HO168.out)) hg hat)
        have n6_ := Aside0.mk (blk_grown (g := gb172) (o := .cells #[.string (⟨#[]⟩ : ByteArray), .slice none 0 0] 46 (0, 0)) (by (with_reducible repeat (first | refine blk_drewN ?_ _ | refine blk_drew ?_ | refine blk_alloc ?_ _)); exact BK172.out) hg (by simp [Value.ownBlock]))
        have n7_ := Aside0.mk (hb)
        have n8_ := Aside0.mk (ho)
        clear HO_3
        clear HO_4
        clear BK135
        clear HO157
        clear HO163
        clear HO168
        clear BK172
        clear HB
        have HO_3 := n0_
        have HO_4 := n1_
        have BK135 := n2_
        have HO157 := n3_
        have HO163 := n4_
        have HO168 := n5_
        have BK172 := n6_
        have HB := n7_
        have HO171 := n8_
        clear n0_ n1_ n2_ n3_ n4_ n5_ n6_ n7_ n8_
        clear ho hb hg hat
        obtain ⟨Ao95, co95, eo95⟩ := Kd.R_slice HO171.out
        (first | subst eo95 | (injection eo95 with f1_ f2_ f3_; have f4_ := f1_.symm; have f5_ := f3_.symm; clear f1_ f2_ f3_; subst f4_; subst f5_))
        refine hK.out _ _ trivial (fun hHeld => ?_)
        clear hK K
        refine norm_ (a' := ?_) ?_ ?_
        rotate_left
        ·show Act.put _ (some 52) _ = _
         simp only [Act.put, List.setIfInBounds_toArray, List.set_cons_zero, List.set_cons_succ, i64_w, i32_w]
         rfl
        refine pure_ (i := 8) (N := some 53) (v := ?_) (a' := ?_) #[true, true, true, true, true, true, true, true, true, true, false] rfl rfl (any_of HT_.out (by kernel_rfl)) (fun _ _ _ h => h) (Or.inl ⟨by rfl, ?_⟩) ?_ ?_
        rotate_left
        ·intro w'
         go_simp
         with_reducible rfl
        rotate_left
        ·simp only [Act.put, List.setIfInBounds_toArray, List.set_cons_zero, List.set_cons_succ, i64_w, i32_w]
         rfl
        exact norm_ (by first | (simp only [putAll, Act.put, List.setIfInBounds_toArray, List.set_cons_zero, List.set_cons_succ]; done) | (simp only [putAll, Act.put, List.setIfInBounds_toArray, List.set_cons_zero, List.set_cons_succ]; rfl)) (hJ2_7_9 (.slice Ao95 y169.length co95, gb172) _ ⟨(by (with_reducible repeat (first | apply Kd.V_alloc | apply Kd.V_drewN | apply Kd.V_drew)); exact Kd.V_mono HO157.out (fun _ hk => ⟨hk.1.1, ⟨hk.2, ⟨hk.1.2.1, ⟨hk.1.2.2.1, hk.1.2.2.2⟩⟩⟩⟩)), (by (with_reducible repeat (first | apply Kd.V_alloc | apply Kd.V_drewN | apply Kd.V_drew)); exact Kd.V_mono HO163.out (fun _ hk => ⟨hk.1.1, ⟨hk.2, ⟨hk.1.2.1, ⟨hk.1.2.2.1, hk.1.2.2.2⟩⟩⟩⟩)), (by (with_reducible repeat (first | apply Kd.V_alloc | apply Kd.V_drewN | apply Kd.V_drew)); exact Kd.V_mono HO168.out (fun _ hk => ⟨hk.1.1, ⟨hk.2, ⟨hk.1.2.1, ⟨hk.1.2.2.1, hk.1.2.2.2⟩⟩⟩⟩)), (by (with_reducible repeat (first | apply Kd.R_alloc | apply Kd.R_drewN | apply Kd.R_drew)); exact HO171.out), (by (with_reducible repeat (first | apply Kd.S_alloc | apply Kd.S_drewN | apply Kd.S_drew)); exact Kd.S_mono HO_3.out (fun _ hk => ⟨hk.1.1, ⟨hk.2, hk.1.2⟩⟩)), (by (with_reducible repeat (first | apply Kd.V_alloc | apply Kd.V_drewN | apply Kd.V_drew)); exact Kd.V_mono HO_4.out (fun _ hk => ⟨hk.1.1, ⟨hk.2, ⟨hk.1.2.1, ⟨hk.1.2.2.1, hk.1.2.2.2⟩⟩⟩⟩)), (by (with_reducible repeat (first | refine blk_drewN ?_ _ | refine blk_drew ?_ | refine blk_alloc ?_ _)); exact BK135.out), (by (with_reducible repeat (first | refine blk_drewN ?_ _ | refine blk_drew ?_ | refine blk_alloc ?_ _)); exact BK172.out), GW172.out, GE172.out, NB135_172.out, NB172_135.out, (by repeat (first | (with_reducible first | exact HB.out | apply below_alloc | apply pw_below_drewN | apply below_drew1 | refine below_set ?_ GE135.out | refine below_set ?_ GE172.out) | exact HB.out))⟩)
      ·skip
       rintro v170 w94 ⟨h0_, h1_, h2_, h3_, h4_, h5_, h6_, h7_⟩
       have n0_ : Aside0 (Kd.V (Kd.int .u8) 5 w94 w.heap.size (fun k_ => (P0_ k_ ∨ w.heap.size ≤ k_) ∧ some k_ ≠ (v170 : Value).ownBlock ∧ some k_ ≠ (u3 : Value).ownBlock ∧ k_ ≠ gb135) (.slice Ao18 y153.length co18) y153) := ⟨h0_⟩
       have n1_ : Aside0 (Kd.V (Kd.int .u8) 5 w94 w.heap.size (fun k_ => (P0_ k_ ∨ w.heap.size ≤ k_) ∧ some k_ ≠ (v170 : Value).ownBlock ∧ some k_ ≠ (u3 : Value).ownBlock ∧ k_ ≠ gb135) (.slice A89 y159.length c89) y159) := ⟨h1_⟩
       have n2_ : Aside0 (Kd.V (Kd.int .u8) 5 w94 w.heap.size (fun k_ => (P0_ k_ ∨ w.heap.size ≤ k_) ∧ some k_ ≠ (v170 : Value).ownBlock ∧ some k_ ≠ (u3 : Value).ownBlock ∧ k_ ≠ gb135) (.slice A90 y164.length c90) y164) := ⟨h2_⟩
       have n3_ : Aside0 (Kd.R (Kd.int .u8) 5 w94 w.heap.size (fun k_ => (w.heap.size ≤ k_)) v170 y169) := ⟨h3_⟩
       have n4_ : Aside0 (Kd.S k46 46 w94 w.heap.size (fun k_ => (w.heap.size ≤ k_) ∧ some k_ ≠ (v170 : Value).ownBlock) u3 x3_1) := ⟨h4_⟩
       have n5_ : Aside0 (Kd.V (Kd.int .u8) 5 w94 w.heap.size (fun k_ => (P0_ k_ ∨ w.heap.size ≤ k_) ∧ some k_ ≠ (v170 : Value).ownBlock ∧ some k_ ≠ (u3 : Value).ownBlock ∧ k_ ≠ gb135) (.slice Ao18 x4_1.length co18) x4_1) := ⟨h5_⟩
       have n6_ : Aside0 (w94.heap[gb135]? = some (.cells #[.int .i64 x136000_1, .slice none 0 0] 25 (0, 0))) := ⟨h6_⟩
       have n7_ : Aside0 (Below w.heap.size w w94) := ⟨h7_⟩
       clear HO_3
       clear HO_4
       clear HO157
       clear BK135
       clear HB
       clear h0_ h1_ h2_ h3_ h4_ h5_ h6_ h7_
       have HO157 := n0_
       have HO163 := n1_
       have HO168 := n2_
       have HO171 := n3_
       have HO_3 := n4_
       have HO_4 := n5_
       have BK135 := n6_
       have HB := n7_
       clear n0_ n1_ n2_ n3_ n4_ n5_ n6_ n7_
       have hHeld := trivial
       obtain ⟨Ao95, co95, eo95⟩ := Kd.R_slice HO171.out
       (first | subst eo95 | (injection eo95 with f1_ f2_ f3_; have f4_ := f1_.symm; have f5_ := f3_.symm; clear f1_ f2_ f3_; subst f4_; subst f5_))
       refine norm_ (a' := ?_) ?_ ?_
       rotate_left
       ·simp only [putAll, Act.put, List.setIfInBounds_toArray, List.set_cons_zero, List.set_cons_succ]
        rfl
       refine one_ (i := 9) (N := some 6) #[true, true, true, true, true, true, true, true, true, true, false] rfl rfl (one_of HT_.out (by kernel_rfl)) (by decide) (fun K hK => ?_)
       refine box_step ?hg (N := 6) ?hd (cs := #[.string (⟨#[]⟩ : ByteArray), .slice none 0 0]) (t := 46) ?hr ?_; (case hd => rfl); (case hg => rfl); (case hr => first | (go_simp; done) | (go_simp; rfl))
       intro gb172 hg w96 hbox hb
       have n0_ := Aside0.mk (Kd.S_below (Kd.S_elderB (by (with_reducible repeat (first | apply Kd.S_alloc | apply Kd.S_drewN | apply Kd.S_drew)); exact HO_3.out) gb172 (Nat.le_of_eq hg.symm)) hb)
       have n1_ := Aside0.mk (Kd.V_below (Kd.V_elderB (by (with_reducible repeat (first | apply Kd.V_alloc | apply Kd.V_drewN | apply Kd.V_drew)); exact HO_4.out) gb172 (Nat.le_of_eq hg.symm)) hb)
       have n2_ := Aside0.mk (Kd.V_below (Kd.V_elderB (by (with_reducible repeat (first | apply Kd.V_alloc | apply Kd.V_drewN | apply Kd.V_drew)); exact HO157.out) gb172 (Nat.le_of_eq hg.symm)) hb)
       have n3_ := Aside0.mk (Kd.V_below (Kd.V_elderB (by (with_reducible repeat (first | apply Kd.V_alloc | apply Kd.V_drewN | apply Kd.V_drew)); exact HO163.out) gb172 (Nat.le_of_eq hg.symm)) hb)
       have n4_ := Aside0.mk (Kd.V_below (Kd.V_elderB (by (with_reducible repeat (first | apply Kd.V_alloc | apply Kd.V_drewN | apply Kd.V_drew)); exact HO168.out) gb172 (Nat.le_of_eq hg.symm)) hb)
       have n5_ := Aside0.mk (Kd.R_below (by (with_reducible repeat (first | apply Kd.R_alloc | apply Kd.R_drewN | apply Kd.R_drew)); exact HO171.out) hb)
       have n6_ := Aside0.mk (blk_below (g := gb135) (o := .cells #[.int .i64 x136000_1, .slice none 0 0] 25 (0, 0)) (by (with_reducible repeat (first | refine blk_drewN ?_ _ | refine blk_drew ?_ | refine blk_alloc ?_ _)); exact BK135.out) hb)
       have n7_ := Aside0.mk (below_step (by repeat (first | (with_reducible first | exact HB.out | apply below_alloc | apply pw_below_drewN | apply below_drew1 | refine below_set ?_ GE135.out) | exact HB.out)) hb)
       have n8_ := Aside0.mk (hbox)
       have n9_ := Aside0.mk ((by rw [hg]; exact (below_size (by repeat (first | (with_reducible first | exact HB.out | apply below_alloc | apply pw_below_drewN | apply below_drew1 | refine below_set ?_ GE135.out) | exact HB.out))) : w.heap.size ≤ gb172))
       have n10_ := Aside0.mk ((by rw [hg]; exact (below_size (by repeat (first | (with_reducible first | exact HB.out | apply below_alloc | apply pw_below_drewN | apply below_drew1 | refine below_set ?_ GE135.out) | exact HB.out))) : w.heap.size ≤ gb172))
       have n11_ := Aside0.mk ((by rw [hg]; exact Nat.ne_of_lt (blk_lt (g := gb135) (o := .cells #[.int .i64 x136000_1, .slice none 0 0] 25 (0, 0)) (by (with_reducible repeat (first | refine blk_drewN ?_ _ | refine blk_drew ?_ | refine blk_alloc ?_ _)); exact BK135.out)) : gb135 ≠ gb172))
       have n12_ := Aside0.mk ((by rw [hg]; exact Nat.ne_of_gt (blk_lt (g := gb135) (o := .cells #[.int .i64 x136000_1, .slice none 0 0] 25 (0, 0)) (by (with_reducible repeat (first | refine blk_drewN ?_ _ | refine blk_drew ?_ | refine blk_alloc ?_ _)); exact BK135.out)) : gb172 ≠ gb135))
       clear HO_3
       clear HO_4
       clear HO157
       clear HO163
       clear HO168
       clear HO171
       clear BK135
       clear HB
       have HO_3 := n0_
       have HO_4 := n1_
       have HO157 := n2_
       have HO163 := n3_
       have HO168 := n4_
       have HO171 := n5_
       have BK135 := n6_
       have HB := n7_
       have BK172 := n8_
       have GW172 := n9_
       have GE172 := n10_
       have NB135_172 := n11_
       have NB172_135 := n12_
       clear n0_ n1_ n2_ n3_ n4_ n5_ n6_ n7_ n8_ n9_ n10_ n11_ n12_
       clear hb hbox hg
       refine hK.out _ _ trivial (fun hHeld => ?_)
       clear hK K
       refine norm_ (a' := ?_) ?_ ?_
       rotate_left
       ·show Act.put _ (some 6) _ = _
        simp only [Act.put, List.setIfInBounds_toArray, List.set_cons_zero, List.set_cons_succ, i64_w, i32_w]
        rfl
       exact norm_ (by first | (simp only [putAll, Act.put, List.setIfInBounds_toArray, List.set_cons_zero, List.set_cons_succ]; done) | (simp only [putAll, Act.put, List.setIfInBounds_toArray, List.set_cons_zero, List.set_cons_succ]; rfl)) (hJ2_7_9 (.slice Ao95 y169.length co95, gb172) _ ⟨(by (with_reducible repeat (first | apply Kd.V_alloc | apply Kd.V_drewN | apply Kd.V_drew)); exact Kd.V_mono HO157.out (fun _ hk => ⟨hk.1.1, ⟨hk.1.2.1, ⟨hk.1.2.2.1, ⟨hk.1.2.2.2, hk.2⟩⟩⟩⟩)), (by (with_reducible repeat (first | apply Kd.V_alloc | apply Kd.V_drewN | apply Kd.V_drew)); exact Kd.V_mono HO163.out (fun _ hk => ⟨hk.1.1, ⟨hk.1.2.1, ⟨hk.1.2.2.1, ⟨hk.1.2.2.2, hk.2⟩⟩⟩⟩)), (by (with_reducible repeat (first | apply Kd.V_alloc | apply Kd.V_drewN | apply Kd.V_drew)); exact Kd.V_mono HO168.out (fun _ hk => ⟨hk.1.1, ⟨hk.1.2.1, ⟨hk.1.2.2.1, ⟨hk.1.2.2.2, hk.2⟩⟩⟩⟩)), (by (with_reducible repeat (first | apply Kd.R_alloc | apply Kd.R_drewN | apply Kd.R_drew)); exact HO171.out), (by (with_reducible repeat (first | apply Kd.S_alloc | apply Kd.S_drewN | apply Kd.S_drew)); exact Kd.S_mono HO_3.out (fun _ hk => ⟨hk.1.1, ⟨hk.1.2, hk.2⟩⟩)), (by (with_reducible repeat (first | apply Kd.V_alloc | apply Kd.V_drewN | apply Kd.V_drew)); exact Kd.V_mono HO_4.out (fun _ hk => ⟨hk.1.1, ⟨hk.1.2.1, ⟨hk.1.2.2.1, ⟨hk.1.2.2.2, hk.2⟩⟩⟩⟩)), (by (with_reducible repeat (first | refine blk_drewN ?_ _ | refine blk_drew ?_ | refine blk_alloc ?_ _)); exact BK135.out), (by (with_reducible repeat (first | refine blk_drewN ?_ _ | refine blk_drew ?_ | refine blk_alloc ?_ _)); exact BK172.out), GW172.out, GE172.out, NB135_172.out, NB172_135.out, (by repeat (first | (with_reducible first | exact HB.out | apply below_alloc | apply pw_below_drewN | apply below_drew1 | refine below_set ?_ GE135.out | refine below_set ?_ GE172.out) | exact HB.out))⟩)
     rintro ⟨v170, gb172⟩ w95 ⟨h0_, h1_, h2_, h3_, h4_, h5_, h6_, h7_, h8_, h9_, h10_, h11_, h12_⟩
     have n0_ : Aside0 (Kd.V (Kd.int .u8) 5 w95 w.heap.size (fun k_ => (P0_ k_ ∨ w.heap.size ≤ k_) ∧ some k_ ≠ (v170 : Value).ownBlock ∧ some k_ ≠ (u3 : Value).ownBlock ∧ k_ ≠ gb135 ∧ k_ ≠ gb172) (.slice Ao18 y153.length co18) y153) := ⟨h0_⟩
     have n1_ : Aside0 (Kd.V (Kd.int .u8) 5 w95 w.heap.size (fun k_ => (P0_ k_ ∨ w.heap.size ≤ k_) ∧ some k_ ≠ (v170 : Value).ownBlock ∧ some k_ ≠ (u3 : Value).ownBlock ∧ k_ ≠ gb135 ∧ k_ ≠ gb172) (.slice A89 y159.length c89) y159) := ⟨h1_⟩
     have n2_ : Aside0 (Kd.V (Kd.int .u8) 5 w95 w.heap.size (fun k_ => (P0_ k_ ∨ w.heap.size ≤ k_) ∧ some k_ ≠ (v170 : Value).ownBlock ∧ some k_ ≠ (u3 : Value).ownBlock ∧ k_ ≠ gb135 ∧ k_ ≠ gb172) (.slice A90 y164.length c90) y164) := ⟨h2_⟩
     have n3_ : Aside0 (Kd.R (Kd.int .u8) 5 w95 w.heap.size (fun k_ => (w.heap.size ≤ k_)) v170 y169) := ⟨h3_⟩
     have n4_ : Aside0 (Kd.S k46 46 w95 w.heap.size (fun k_ => (w.heap.size ≤ k_) ∧ some k_ ≠ (v170 : Value).ownBlock ∧ k_ ≠ gb172) u3 x3_1) := ⟨h4_⟩
     have n5_ : Aside0 (Kd.V (Kd.int .u8) 5 w95 w.heap.size (fun k_ => (P0_ k_ ∨ w.heap.size ≤ k_) ∧ some k_ ≠ (v170 : Value).ownBlock ∧ some k_ ≠ (u3 : Value).ownBlock ∧ k_ ≠ gb135 ∧ k_ ≠ gb172) (.slice Ao18 x4_1.length co18) x4_1) := ⟨h5_⟩
     have n6_ : Aside0 (w95.heap[gb135]? = some (.cells #[.int .i64 x136000_1, .slice none 0 0] 25 (0, 0))) := ⟨h6_⟩
     have n7_ : Aside0 (w95.heap[gb172]? = some (.cells #[.string (⟨#[]⟩ : ByteArray), .slice none 0 0] 46 (0, 0))) := ⟨h7_⟩
     have n8_ : Aside0 (w.heap.size ≤ gb172) := ⟨h8_⟩
     have n9_ : Aside0 (w.heap.size ≤ gb172) := ⟨h9_⟩
     have n10_ : Aside0 (gb135 ≠ gb172) := ⟨h10_⟩
     have n11_ : Aside0 (gb172 ≠ gb135) := ⟨h11_⟩
     have n12_ : Aside0 (Below w.heap.size w w95) := ⟨h12_⟩
     clear HO_3
     clear HO_4
     clear HO157
     clear BK135
     clear HB
     clear h0_ h1_ h2_ h3_ h4_ h5_ h6_ h7_ h8_ h9_ h10_ h11_ h12_
     have HO157 := n0_
     have HO163 := n1_
     have HO168 := n2_
     have HO171 := n3_
     have HO_3 := n4_
     have HO_4 := n5_
     have BK135 := n6_
     have BK172 := n7_
     have GW172 := n8_
     have GE172 := n9_
     have NB135_172 := n10_
     have NB172_135 := n11_
     have HB := n12_
     clear n0_ n1_ n2_ n3_ n4_ n5_ n6_ n7_ n8_ n9_ n10_ n11_ n12_
     have hHeld := trivial
     obtain ⟨Ao96, co96, eo96⟩ := Kd.R_slice HO171.out
     (first | subst eo96 | (injection eo96 with f1_ f2_ f3_; have f4_ := f1_.symm; have f5_ := f3_.symm; clear f1_ f2_ f3_; subst f4_; subst f5_))
     refine norm_ (a' := ?_) ?_ ?_
     rotate_left
     ·simp only [putAll, Act.put, List.setIfInBounds_toArray, List.set_cons_zero, List.set_cons_succ]
      rfl
     refine one_ (i := 10) (N := none) #[true, true, true, true, true, true, true, true, true, true, true] rfl rfl (one_of HT_.out (by kernel_rfl)) (by decide) (fun K hK => ?_)
     have hs97 : w95.cell? ⟨gb172, 0, none⟩ = some (.string (⟨#[]⟩ : ByteArray)) := (blk_cell BK172.out 0).trans rfl
     have hfs97 := blk_frozen BK172.out 0
     have hns97_0 := NB135_172.out
     have hms97_0 := NB172_135.out
     have hs98 : w95.cell? ⟨gb172, 1, none⟩ = some (.slice none 0 0) := (blk_cell BK172.out 1).trans rfl
     have hfs98 := blk_frozen BK172.out 1
     have hns98_0 := NB135_172.out
     have hms98_0 := NB172_135.out
     refine skip_ (w1 := ?_) (by rfl) rfl ?_ ?_
     rotate_left
     ·go_simp
      rfl
     refine hK.out _ _ trivial (fun hHeld => ?_)
     clear hK K
     refine done_ (done_of HT_.out (by kernel_rfl)) ?_
     have hnb99 := NB172_135.out
     have hnc99 := NB135_172.out
     have hcz100_0 : w95.cell? ⟨gb172, 0, none⟩ = some (.string (⟨#[]⟩ : ByteArray)) := (blk_cell BK172.out 0).trans rfl
     have hcz100_1 : w95.cell? ⟨gb172, 1, none⟩ = some (.slice none 0 0) := (blk_cell BK172.out 1).trans rfl
     have hfz100_0 := blk_frozen BK172.out 0
     have hfz100_1 := blk_frozen BK172.out 1
     have H := HH_.out
     clear HH_
     by_cases c33 : t173 = true
     rotate_left
     ·replace c33 := Bool.eq_false_iff.mpr c33
      subst c33
      replace H : (some (4, ([] : List (S46)))) = some (r1, r2) := by rw [if_neg (show ¬ (false = true) by decide)] at H; exact H
      simp only [Option.some.injEq, Prod.mk.injEq] at H
      obtain ⟨rfl, rfl⟩ := H
      try go_wp2_with (first | ((with_reducible refine gate_callee (f := 29) rfl ?_); refine goesL_ (some 57) rfl rfl Tryd.func29 (by kernel_rfl) rfl #[.string (strOfNums y159)] rfl (by (try simp only [List.map_toArray, List.map_cons, List.map_nil]); first | done | rfl | (simp only [List.length_drop, List.length_take]; rfl)) ?_; (with_reducible refine (impl_goodName.calls kj16 (strOfNums y159) false _ A32.out).mono ?_); rintro e w' ⟨rfl, ⟨nd, rfl⟩⟩; refine ⟨_, rfl, ?_⟩; have hcz101_0 : w95.cell? ⟨gb135, 0, none⟩ = some (.int .i64 x136000_1) := (blk_cell BK135.out 0).trans rfl; have hcz101_1 : w95.cell? ⟨gb135, 1, none⟩ = some (.slice none 0 0) := (blk_cell BK135.out 1).trans rfl; have hfz101_0 := blk_frozen BK135.out 0; have hfz101_1 := blk_frozen BK135.out 1))
      refine bodyPost_ret (results_cell_row rfl _ _ gb135 25 #[.int .i64 4, .slice none 0 0] (0, 0) _ rfl (by (with_reducible repeat (first | refine blk_drewN ?_ _ | refine blk_drew ?_ | refine blk_alloc ?_ _)); refine blk_put (cs := #[.int .i64 4, .slice none 0 0]) ?_ 1 _ rfl; (with_reducible repeat (first | refine blk_drewN ?_ _ | refine blk_drew ?_ | refine blk_alloc ?_ _)); refine blk_put (cs := #[.int .i64 x136000_1, .slice none 0 0]) ?_ 0 _ rfl; (with_reducible repeat (first | refine blk_drewN ?_ _ | refine blk_drew ?_ | refine blk_alloc ?_ _)); refine blk_far ?_ NB135_172.out _; (with_reducible repeat (first | refine blk_drewN ?_ _ | refine blk_drew ?_ | refine blk_alloc ?_ _)); refine blk_far ?_ NB135_172.out _; (with_reducible repeat (first | refine blk_drewN ?_ _ | refine blk_drew ?_ | refine blk_alloc ?_ _)); exact BK135.out) Tryd.underlying25 rfl (by kernel_rfl)) rfl ?_
      exact ⟨_, by first | rfl | (simp [*, errW_none, errW_some] <;> rfl), by first | exact Kd.S_nil _ _ _ _ _ | exact Kd.N_nil _ _ _ _ _ | exact Kd.V_nil _ _ _ _ _ | exact Kd.Q_nil _ _ _ _ _ | exact Kd.R_nil _ _ _ _ _, by repeat (first | (with_reducible first | exact HB.out | apply below_alloc | apply pw_below_drewN | apply below_drew1 | refine below_set ?_ GE135.out | refine below_set ?_ GE172.out) | exact HB.out)⟩
     subst c33
     replace H : (if 0 ≤ (wrap64 (8 + t158)) then (if (wrap64 (8 + t158)) ≤ (wrap64 (12 + t158)) then (if (wrap64 (12 + t158)) ≤ (x4_1.length : Int) then ((impl_unbig.f kj16 ((x4_1.take ((wrap64 (12 + t158)) : Int).toNat).drop ((wrap64 (8 + t158)) : Int).toNat)).bind fun t179 => (if 4 ≤ (wrap64 (8 + t158)) then ((impl_Crc.f kj16 ((x4_1.take ((wrap64 (8 + t158)) : Int).toNat).drop 4)).bind fun t185 => (if t179 = (wrap64 (t185)) then (if x3_1.length < 3518437208883 then (if 0 ≤ (wrap64 (12 + t158)) then (impl_ReadChunks.l0 kj16 (x3_1 ++ [(⟨strOfNums y159, y169⟩ : S46)]) (x4_1.drop ((wrap64 (12 + t158)) : Int).toNat)) else (none)) else (none)) else (some (3, ([] : List (S46)))))) else (none))) else (none)) else (none)) else (none)) = some (r1, r2) := by rw [if_pos rfl] at H; exact H
     obtain ⟨ji34, hji34⟩ : ∃ j_ : Int, (wrap64 (8 + t158)) = j_ := ⟨_, rfl⟩
     replace H : (if 0 ≤ (ji34) then (if (ji34) ≤ (wrap64 (12 + t158)) then (if (wrap64 (12 + t158)) ≤ (x4_1.length : Int) then ((impl_unbig.f kj16 ((x4_1.take ((wrap64 (12 + t158)) : Int).toNat).drop ((ji34) : Int).toNat)).bind fun t179 => (if 4 ≤ (ji34) then ((impl_Crc.f kj16 ((x4_1.take ((ji34) : Int).toNat).drop 4)).bind fun t185 => (if t179 = (wrap64 (t185)) then (if x3_1.length < 3518437208883 then (if 0 ≤ (wrap64 (12 + t158)) then (impl_ReadChunks.l0 kj16 (x3_1 ++ [(⟨strOfNums y159, y169⟩ : S46)]) (x4_1.drop ((wrap64 (12 + t158)) : Int).toNat)) else (none)) else (none)) else (some (3, ([] : List (S46)))))) else (none))) else (none)) else (none)) else (none)) = some (r1, r2) := by first | (rw [hji34] at H; exact H) | (simp only [hji34] at H ⊢; exact H)
     (try rw [hji34] at c29b0)
     (try rw [hji34] at c29b1)
     (try rw [hji34] at c29)
     (try rw [hji34] at c30b0)
     (try rw [hji34] at c30b1)
     (try rw [hji34] at c30)
     (try rw [hji34] at A26)
     (try rw [hji34] at Ny164)
     (try rw [hji34] at Ny164)
     (try rw [hji34] at A32)
     have hji34w : (IntKind.i64.wrap (8 + t158)) = ji34 := (i64_w _).trans hji34
     by_cases c35 : 0 ≤ (ji34)
     rotate_left
     ·rw [if_neg c35] at H
      exact absurd H (by simp)
     rw [if_pos c35] at H
     have c35b0 := eq_true c35
     have c35b1 : decide (0 ≤ (ji34)) = true := decide_eq_true c35
     clear c35
     by_cases c36 : (ji34) ≤ (wrap64 (12 + t158))
     rotate_left
     ·rw [if_neg c36] at H
      exact absurd H (by simp)
     rw [if_pos c36] at H
     have c36b0 := eq_true c36
     have c36b1 : decide ((ji34) ≤ (wrap64 (12 + t158))) = true := decide_eq_true c36
     by_cases c37 : (wrap64 (12 + t158)) ≤ (x4_1.length : Int)
     rotate_left
     ·rw [if_neg c37] at H
      exact absurd H (by simp)
     rw [if_pos c37] at H
     have c37b0 := eq_true c37
     have c37b1 : decide ((wrap64 (12 + t158)) ≤ (x4_1.length : Int)) = true := decide_eq_true c37
     obtain ⟨y174, hy174⟩ : ∃ y_ : List Int, y_ = ((x4_1.take ((wrap64 (12 + t158)) : Int).toNat).drop ((ji34) : Int).toNat) := ⟨_, rfl⟩
     replace H : ((impl_unbig.f kj16 y174).bind fun t179 => (if 4 ≤ (ji34) then ((impl_Crc.f kj16 ((x4_1.take ((ji34) : Int).toNat).drop 4)).bind fun t185 => (if t179 = (wrap64 (t185)) then (if x3_1.length < 3518437208883 then (if 0 ≤ (wrap64 (12 + t158)) then (impl_ReadChunks.l0 kj16 (x3_1 ++ [(⟨strOfNums y159, y169⟩ : S46)]) (x4_1.drop ((wrap64 (12 + t158)) : Int).toNat)) else (none)) else (none)) else (some (3, ([] : List (S46)))))) else (none))) = some (r1, r2) := by first | (rw [hy174]; with_reducible exact H) | (have H2_ := (Option.bind_some _ _).symm.trans H; rw [hy174]; with_reducible exact H2_) | (have H2_ := (Option.bind_some _ _).symm.trans H; with_reducible exact H2_) | with_reducible exact H | (rw [hy174]; exact H) | exact H
     have Ny174 := Aside0.mk hy174
     clear hy174
     replace H := Option.bind_eq_some_iff.mp H
     obtain ⟨t179, A380, H⟩ := H
     replace H : (if 4 ≤ (ji34) then ((impl_Crc.f kj16 ((x4_1.take ((ji34) : Int).toNat).drop 4)).bind fun t185 => (if t179 = (wrap64 (t185)) then (if x3_1.length < 3518437208883 then (if 0 ≤ (wrap64 (12 + t158)) then (impl_ReadChunks.l0 kj16 (x3_1 ++ [(⟨strOfNums y159, y169⟩ : S46)]) (x4_1.drop ((wrap64 (12 + t158)) : Int).toNat)) else (none)) else (none)) else (some (3, ([] : List (S46)))))) else (none)) = some (r1, r2) := H
     have A38 := Aside0.mk A380
     clear A380
     by_cases c39 : 4 ≤ (ji34)
     rotate_left
     ·rw [if_neg c39] at H
      exact absurd H (by simp)
     rw [if_pos c39] at H
     have c39b0 := eq_true c39
     have c39b1 : decide (4 ≤ (ji34)) = true := decide_eq_true c39
     clear c39
     have c40b0 := eq_true (of_decide_eq_true (by first | (with_reducible assumption) | assumption) : (ji34) ≤ (x4_1.length : Int))
     obtain ⟨y180, hy180⟩ : ∃ y_ : List Int, y_ = ((x4_1.take ((ji34) : Int).toNat).drop 4) := ⟨_, rfl⟩
     replace H : ((impl_Crc.f kj16 y180).bind fun t185 => (if t179 = (wrap64 (t185)) then (if x3_1.length < 3518437208883 then (if 0 ≤ (wrap64 (12 + t158)) then (impl_ReadChunks.l0 kj16 (x3_1 ++ [(⟨strOfNums y159, y169⟩ : S46)]) (x4_1.drop ((wrap64 (12 + t158)) : Int).toNat)) else (none)) else (none)) else (some (3, ([] : List (S46)))))) = some (r1, r2) := by first | (rw [hy180]; with_reducible exact H) | (have H2_ := (Option.bind_some _ _).symm.trans H; rw [hy180]; with_reducible exact H2_) | (have H2_ := (Option.bind_some _ _).symm.trans H; with_reducible exact H2_) | with_reducible exact H | (rw [hy180]; exact H) | exact H
     have Ny180 := Aside0.mk hy180
     clear hy180
     replace H := Option.bind_eq_some_iff.mp H
     obtain ⟨t185, A410, H⟩ := H
     replace H : (if t179 = (wrap64 (t185)) then (if x3_1.length < 3518437208883 then (if 0 ≤ (wrap64 (12 + t158)) then (impl_ReadChunks.l0 kj16 (x3_1 ++ [(⟨strOfNums y159, y169⟩ : S46)]) (x4_1.drop ((wrap64 (12 + t158)) : Int).toNat)) else (none)) else (none)) else (some (3, ([] : List (S46))))) = some (r1, r2) := H
     have A41 := Aside0.mk A410
     clear A410
     by_cases c42 : t179 = (wrap64 (t185))
     rotate_left
     ·rw [if_neg c42] at H
      have c42b0 : (t179 == (wrap64 (t185))) = false := beq_eq_false_iff_ne.mpr c42
      have c42b1 : (t179 != (wrap64 (t185))) = true := bne_iff_ne.mpr c42
      simp only [Option.some.injEq, Prod.mk.injEq] at H
      obtain ⟨rfl, rfl⟩ := H
      try go_wp2_with (first | ((with_reducible refine gate_callee (f := 29) rfl ?_); refine goesL_ (some 57) rfl rfl Tryd.func29 (by kernel_rfl) rfl #[.string (strOfNums y159)] rfl (by (try simp only [List.map_toArray, List.map_cons, List.map_nil]); first | done | rfl | (simp only [List.length_drop, List.length_take]; rfl)) ?_; (with_reducible refine (impl_goodName.calls kj16 (strOfNums y159) true _ A32.out).mono ?_); rintro e w' ⟨rfl, ⟨nd, rfl⟩⟩; refine ⟨_, rfl, ?_⟩))
      have n0_ : Aside0 (Kd.S k46 46 ((w95.setCell ⟨gb172, 0, none⟩ (.string (strOfNums y159))).setCell ⟨gb172, 1, none⟩ (.slice Ao96 y169.length co96)) w.heap.size (fun k_ => (w.heap.size ≤ k_) ∧ some k_ ≠ (.slice Ao96 y169.length co96 : Value).ownBlock ∧ k_ ≠ gb172) u3 x3_1) := ⟨by (with_reducible repeat (first | apply Kd.S_alloc | apply Kd.S_drewN | apply Kd.S_drew)); exact Kd.S_mono (Kd.S_far (p := ⟨gb172, 1, none⟩) (Kd.S_far (p := ⟨gb172, 0, none⟩) (Kd.S_mono HO_3.out (fun k_ hk => (⟨hk, hk.2.2⟩ : _ ∧ k_ ≠ gb172))) (fun _ hk => hk.2) (.string (strOfNums y159))) (fun _ hk => hk.2) (.slice Ao96 y169.length co96)) (fun _ hk => ⟨hk.1.1, ⟨hk.1.2.1, hk.1.2.2⟩⟩)⟩
      have n1_ : Aside0 (Kd.V (Kd.int .u8) 5 ((w95.setCell ⟨gb172, 0, none⟩ (.string (strOfNums y159))).setCell ⟨gb172, 1, none⟩ (.slice Ao96 y169.length co96)) w.heap.size (fun k_ => (P0_ k_ ∨ w.heap.size ≤ k_) ∧ some k_ ≠ (u3 : Value).ownBlock ∧ some k_ ≠ (.slice Ao96 y169.length co96 : Value).ownBlock ∧ k_ ≠ gb135 ∧ k_ ≠ gb172) (.slice Ao18 x4_1.length co18) x4_1) := ⟨by (with_reducible repeat (first | apply Kd.V_alloc | apply Kd.V_drewN | apply Kd.V_drew)); exact Kd.V_mono (Kd.V_far (p := ⟨gb172, 1, none⟩) (Kd.V_far (p := ⟨gb172, 0, none⟩) (Kd.V_mono HO_4.out (fun k_ hk => (⟨hk, hk.2.2.2.2⟩ : _ ∧ k_ ≠ gb172))) (fun _ hk => hk.2) (.string (strOfNums y159))) (fun _ hk => hk.2) (.slice Ao96 y169.length co96)) (fun _ hk => ⟨hk.1.1, ⟨hk.1.2.2.1, ⟨hk.1.2.1, ⟨hk.1.2.2.2.1, hk.1.2.2.2.2⟩⟩⟩⟩)⟩
      have n2_ : Aside0 (Kd.V (Kd.int .u8) 5 ((w95.setCell ⟨gb172, 0, none⟩ (.string (strOfNums y159))).setCell ⟨gb172, 1, none⟩ (.slice Ao96 y169.length co96)) w.heap.size (fun k_ => (P0_ k_ ∨ w.heap.size ≤ k_) ∧ some k_ ≠ (u3 : Value).ownBlock ∧ some k_ ≠ (.slice Ao96 y169.length co96 : Value).ownBlock ∧ k_ ≠ gb135 ∧ k_ ≠ gb172) (.slice Ao18 y153.length co18) y153) := ⟨by (with_reducible repeat (first | apply Kd.V_alloc | apply Kd.V_drewN | apply Kd.V_drew)); exact Kd.V_mono (Kd.V_far (p := ⟨gb172, 1, none⟩) (Kd.V_far (p := ⟨gb172, 0, none⟩) (Kd.V_mono HO157.out (fun k_ hk => (⟨hk, hk.2.2.2.2⟩ : _ ∧ k_ ≠ gb172))) (fun _ hk => hk.2) (.string (strOfNums y159))) (fun _ hk => hk.2) (.slice Ao96 y169.length co96)) (fun _ hk => ⟨hk.1.1, ⟨hk.1.2.2.1, ⟨hk.1.2.1, ⟨hk.1.2.2.2.1, hk.1.2.2.2.2⟩⟩⟩⟩)⟩
      have n3_ : Aside0 (Kd.V (Kd.int .u8) 5 ((w95.setCell ⟨gb172, 0, none⟩ (.string (strOfNums y159))).setCell ⟨gb172, 1, none⟩ (.slice Ao96 y169.length co96)) w.heap.size (fun k_ => (P0_ k_ ∨ w.heap.size ≤ k_) ∧ some k_ ≠ (u3 : Value).ownBlock ∧ some k_ ≠ (.slice Ao96 y169.length co96 : Value).ownBlock ∧ k_ ≠ gb135 ∧ k_ ≠ gb172) (.slice A89 y159.length c89) y159) := ⟨by (with_reducible repeat (first | apply Kd.V_alloc | apply Kd.V_drewN | apply Kd.V_drew)); exact Kd.V_mono (Kd.V_far (p := ⟨gb172, 1, none⟩) (Kd.V_far (p := ⟨gb172, 0, none⟩) (Kd.V_mono HO163.out (fun k_ hk => (⟨hk, hk.2.2.2.2⟩ : _ ∧ k_ ≠ gb172))) (fun _ hk => hk.2) (.string (strOfNums y159))) (fun _ hk => hk.2) (.slice Ao96 y169.length co96)) (fun _ hk => ⟨hk.1.1, ⟨hk.1.2.2.1, ⟨hk.1.2.1, ⟨hk.1.2.2.2.1, hk.1.2.2.2.2⟩⟩⟩⟩)⟩
      have n4_ : Aside0 (Kd.V (Kd.int .u8) 5 ((w95.setCell ⟨gb172, 0, none⟩ (.string (strOfNums y159))).setCell ⟨gb172, 1, none⟩ (.slice Ao96 y169.length co96)) w.heap.size (fun k_ => (P0_ k_ ∨ w.heap.size ≤ k_) ∧ some k_ ≠ (u3 : Value).ownBlock ∧ some k_ ≠ (.slice Ao96 y169.length co96 : Value).ownBlock ∧ k_ ≠ gb135 ∧ k_ ≠ gb172) (.slice A90 y164.length c90) y164) := ⟨by (with_reducible repeat (first | apply Kd.V_alloc | apply Kd.V_drewN | apply Kd.V_drew)); exact Kd.V_mono (Kd.V_far (p := ⟨gb172, 1, none⟩) (Kd.V_far (p := ⟨gb172, 0, none⟩) (Kd.V_mono HO168.out (fun k_ hk => (⟨hk, hk.2.2.2.2⟩ : _ ∧ k_ ≠ gb172))) (fun _ hk => hk.2) (.string (strOfNums y159))) (fun _ hk => hk.2) (.slice Ao96 y169.length co96)) (fun _ hk => ⟨hk.1.1, ⟨hk.1.2.2.1, ⟨hk.1.2.1, ⟨hk.1.2.2.2.1, hk.1.2.2.2.2⟩⟩⟩⟩)⟩
      have n5_ : Aside0 (Kd.R (Kd.int .u8) 5 ((w95.setCell ⟨gb172, 0, none⟩ (.string (strOfNums y159))).setCell ⟨gb172, 1, none⟩ (.slice Ao96 y169.length co96)) w.heap.size (fun k_ => (w.heap.size ≤ k_)) (.slice Ao96 y169.length co96) y169) := ⟨by (with_reducible repeat (first | apply Kd.R_alloc | apply Kd.R_drewN | apply Kd.R_drew)); exact Kd.R_mono (Kd.R_far (p := ⟨gb172, 1, none⟩) (Kd.R_far (p := ⟨gb172, 0, none⟩) (Kd.R_types HO171.out BK172.out (by decide)) (fun _ hk => hk.2) (.string (strOfNums y159))) (fun _ hk => hk.2) (.slice Ao96 y169.length co96)) (fun _ hk => hk.1)⟩
      have n6_ : Aside0 (((w95.setCell ⟨gb172, 0, none⟩ (.string (strOfNums y159))).setCell ⟨gb172, 1, none⟩ (.slice Ao96 y169.length co96)).heap[gb135]? = some (.cells #[.int .i64 x136000_1, .slice none 0 0] 25 (0, 0))) := ⟨by (with_reducible repeat (first | refine blk_drewN ?_ _ | refine blk_drew ?_ | refine blk_alloc ?_ _)); refine blk_far ?_ NB135_172.out _; (with_reducible repeat (first | refine blk_drewN ?_ _ | refine blk_drew ?_ | refine blk_alloc ?_ _)); refine blk_far ?_ NB135_172.out _; (with_reducible repeat (first | refine blk_drewN ?_ _ | refine blk_drew ?_ | refine blk_alloc ?_ _)); exact BK135.out⟩
      have n7_ : Aside0 (((w95.setCell ⟨gb172, 0, none⟩ (.string (strOfNums y159))).setCell ⟨gb172, 1, none⟩ (.slice Ao96 y169.length co96)).heap[gb172]? = some (.cells #[.string (strOfNums y159), .slice Ao96 y169.length co96] 46 (0, 0))) := ⟨by (with_reducible repeat (first | refine blk_drewN ?_ _ | refine blk_drew ?_ | refine blk_alloc ?_ _)); refine blk_put (cs := #[.string (strOfNums y159), .slice none 0 0]) ?_ 1 _ rfl; (with_reducible repeat (first | refine blk_drewN ?_ _ | refine blk_drew ?_ | refine blk_alloc ?_ _)); refine blk_put (cs := #[.string (⟨#[]⟩ : ByteArray), .slice none 0 0]) ?_ 0 _ rfl; (with_reducible repeat (first | refine blk_drewN ?_ _ | refine blk_drew ?_ | refine blk_alloc ?_ _)); exact BK172.out⟩
      have n8_ : Aside0 (Below w.heap.size w ((w95.setCell ⟨gb172, 0, none⟩ (.string (strOfNums y159))).setCell ⟨gb172, 1, none⟩ (.slice Ao96 y169.length co96))) := ⟨by repeat (first | (with_reducible first | exact HB.out | apply below_alloc | apply pw_below_drewN | apply below_drew1 | refine below_set ?_ GE135.out | refine below_set ?_ GE172.out) | exact HB.out)⟩
      (try clear HO_3)
      (try clear HO_4)
      (try clear HO157)
      (try clear HO163)
      (try clear HO168)
      (try clear HO171)
      (try clear BK135)
      (try clear BK172)
      (try clear HB)
      generalize ((w95.setCell ⟨gb172, 0, none⟩ (.string (strOfNums y159))).setCell ⟨gb172, 1, none⟩ (.slice Ao96 y169.length co96)) = w82 at n0_ n1_ n2_ n3_ n4_ n5_ n6_ n7_ n8_ ⊢
      have HO_3 := n0_
      have HO_4 := n1_
      have HO157 := n2_
      have HO163 := n3_
      have HO168 := n4_
      have HO171 := n5_
      have BK135 := n6_
      have BK172 := n7_
      have HB := n8_
      clear n0_ n1_ n2_ n3_ n4_ n5_ n6_ n7_ n8_
      (try (rw [drewN_self w82]; generalize hq_ : World.drewN w82 _ = w82; have n0_ : Aside0 (Kd.V (Kd.int .u8) 5 w82 w.heap.size (fun k_ => (P0_ k_ ∨ w.heap.size ≤ k_) ∧ some k_ ≠ (u3 : Value).ownBlock ∧ some k_ ≠ (.slice Ao96 y169.length co96 : Value).ownBlock ∧ k_ ≠ gb135 ∧ k_ ≠ gb172) (.slice Ao18 y153.length co18) y153) := ⟨by rw [← hq_]; exact (by (with_reducible repeat (first | apply Kd.V_alloc | apply Kd.V_drewN | apply Kd.V_drew)); exact Kd.V_mono HO157.out (fun _ hk => ⟨hk.1, ⟨hk.2.1, ⟨hk.2.2.1, ⟨hk.2.2.2.1, hk.2.2.2.2⟩⟩⟩⟩))⟩; have n1_ : Aside0 (Kd.V (Kd.int .u8) 5 w82 w.heap.size (fun k_ => (P0_ k_ ∨ w.heap.size ≤ k_) ∧ some k_ ≠ (u3 : Value).ownBlock ∧ some k_ ≠ (.slice Ao96 y169.length co96 : Value).ownBlock ∧ k_ ≠ gb135 ∧ k_ ≠ gb172) (.slice A89 y159.length c89) y159) := ⟨by rw [← hq_]; exact (by (with_reducible repeat (first | apply Kd.V_alloc | apply Kd.V_drewN | apply Kd.V_drew)); exact Kd.V_mono HO163.out (fun _ hk => ⟨hk.1, ⟨hk.2.1, ⟨hk.2.2.1, ⟨hk.2.2.2.1, hk.2.2.2.2⟩⟩⟩⟩))⟩; have n2_ : Aside0 (Kd.V (Kd.int .u8) 5 w82 w.heap.size (fun k_ => (P0_ k_ ∨ w.heap.size ≤ k_) ∧ some k_ ≠ (u3 : Value).ownBlock ∧ some k_ ≠ (.slice Ao96 y169.length co96 : Value).ownBlock ∧ k_ ≠ gb135 ∧ k_ ≠ gb172) (.slice A90 y164.length c90) y164) := ⟨by rw [← hq_]; exact (by (with_reducible repeat (first | apply Kd.V_alloc | apply Kd.V_drewN | apply Kd.V_drew)); exact Kd.V_mono HO168.out (fun _ hk => ⟨hk.1, ⟨hk.2.1, ⟨hk.2.2.1, ⟨hk.2.2.2.1, hk.2.2.2.2⟩⟩⟩⟩))⟩; have n3_ : Aside0 (Kd.R (Kd.int .u8) 5 w82 w.heap.size (fun k_ => ((w.heap.size ≤ k_))) (.slice Ao96 y169.length co96) y169) := ⟨by rw [← hq_]; exact (by (with_reducible repeat (first | apply Kd.R_alloc | apply Kd.R_drewN | apply Kd.R_drew)); exact HO171.out)⟩; have n4_ : Aside0 (Kd.S k46 46 w82 w.heap.size (fun k_ => (((w.heap.size ≤ k_)) ∧ (some k_ ≠ (.slice Ao96 y169.length co96 : Value).ownBlock ∧ k_ ≠ gb172))) u3 x3_1) := ⟨by rw [← hq_]; exact (by (with_reducible repeat (first | apply Kd.S_alloc | apply Kd.S_drewN | apply Kd.S_drew)); exact HO_3.out)⟩; have n5_ : Aside0 (Kd.V (Kd.int .u8) 5 w82 w.heap.size (fun k_ => (P0_ k_ ∨ w.heap.size ≤ k_) ∧ some k_ ≠ (u3 : Value).ownBlock ∧ some k_ ≠ (.slice Ao96 y169.length co96 : Value).ownBlock ∧ k_ ≠ gb135 ∧ k_ ≠ gb172) (.slice Ao18 x4_1.length co18) x4_1) := ⟨by rw [← hq_]; exact (by (with_reducible repeat (first | apply Kd.V_alloc | apply Kd.V_drewN | apply Kd.V_drew)); exact Kd.V_mono HO_4.out (fun _ hk => ⟨hk.1, ⟨hk.2.1, ⟨hk.2.2.1, ⟨hk.2.2.2.1, hk.2.2.2.2⟩⟩⟩⟩))⟩; have n6_ : Aside0 (w82.heap[gb135]? = some (.cells #[.int .i64 x136000_1, .slice none 0 0] 25 (0, 0))) := ⟨by rw [← hq_]; exact (by (with_reducible repeat (first | refine blk_drewN ?_ _ | refine blk_drew ?_ | refine blk_alloc ?_ _)); exact BK135.out)⟩; have n7_ : Aside0 (w82.heap[gb172]? = some (.cells #[.string (strOfNums y159), .slice Ao96 y169.length co96] 46 (0, 0))) := ⟨by rw [← hq_]; exact (by (with_reducible repeat (first | refine blk_drewN ?_ _ | refine blk_drew ?_ | refine blk_alloc ?_ _)); exact BK172.out)⟩; have n8_ : Aside0 (Below w.heap.size w w82) := ⟨by rw [← hq_]; exact (by repeat (first | (with_reducible first | exact HB.out | apply below_alloc | apply pw_below_drewN | apply below_drew1 | refine below_set ?_ GE135.out | refine below_set ?_ GE172.out) | exact HB.out))⟩; clear HO157 HO163 HO168 HO171 HO_3 HO_4 BK135 BK172 HB hq_; have HO157 := n0_; have HO163 := n1_; have HO168 := n2_; have HO171 := n3_; have HO_3 := n4_; have HO_4 := n5_; have BK135 := n6_; have BK172 := n7_; have HB := n8_; clear n0_ n1_ n2_ n3_ n4_ n5_ n6_ n7_ n8_))
      have n0_ := Aside0.mk (Kd.S_drew HO_3.out)
      have n1_ := Aside0.mk (Kd.V_drew HO_4.out)
      have n2_ := Aside0.mk (Kd.V_drew HO157.out)
      have n3_ := Aside0.mk (Kd.V_drew HO163.out)
      have n4_ := Aside0.mk (Kd.V_drew HO168.out)
      have n5_ := Aside0.mk (Kd.R_drew HO171.out)
      have n6_ := Aside0.mk (blk_drew BK135.out)
      have n7_ := Aside0.mk (blk_drew BK172.out)
      have n8_ := Aside0.mk (below_drew1 HB.out)
      clear HO_3
      clear HO_4
      clear HO157
      clear HO163
      clear HO168
      clear HO171
      clear BK135
      clear BK172
      clear HB
      have HO_3 := n0_
      have HO_4 := n1_
      have HO157 := n2_
      have HO163 := n3_
      have HO168 := n4_
      have HO171 := n5_
      have BK135 := n6_
      have BK172 := n7_
      have HB := n8_
      clear n0_ n1_ n2_ n3_ n4_ n5_ n6_ n7_ n8_
      have q84 : ((wrap64 (12 + t158)) : Int) ≤ ((x4_1.length : Int) : Int) := of_decide_eq_true (by first | (with_reducible assumption) | assumption)
      obtain ⟨i084, hi084, _, hsz84, _⟩ := info_parts info5
      have hroom84 : x4_1.length ≤ co18 := (Kd.V_reads' HO_4.out).2.1
      have hC84 : Kd.F (Kd.int .u8) _ _ Ao18 x4_1.length x4_1 := (Kd.V_at (base := w.heap.size) HO_4.out).2.2
      have ql84 : ((ji34) : Int) ≤ ((wrap64 (12 + t158)) : Int) := of_decide_eq_true (by first | (with_reducible assumption) | assumption)
      have q084 : (0 : Int) ≤ ((ji34) : Int) := of_decide_eq_true (by first | (with_reducible assumption) | assumption)
      have hcut84 := cut_mid (P := Tryd.prog) 22 5 .i64 .i64 Tryd.underlying22 hi084 1 hsz84 Ao18 x4_1.length co18 (ji34) (wrap64 (12 + t158)) q084 ql84 q84 hroom84
      have hr84 := Kd.F_mid (lo := ((ji34) : Int).toNat) (hi := ((wrap64 (12 + t158)) : Int).toNat) (c := co18) hC84 (by omega) (by omega) hroom84
      obtain ⟨A84, hA84⟩ : ∃ A1, A1 = (if co18 = ((ji34) : Int).toNat then Ao18 else (Ao18 : Option Addr).map (·.add (((ji34) : Int).toNat * 1))) := ⟨_, rfl⟩
      obtain ⟨c84, hc84⟩ : ∃ c1, c1 = co18 - ((ji34) : Int).toNat := ⟨_, rfl⟩
      have hy84 : y174.length = ((wrap64 (12 + t158)) : Int).toNat - ((ji34) : Int).toNat := (by rw [Ny174.out, List.length_drop, List.length_take] <;> omega)
      rw [show ((x4_1).take ((wrap64 (12 + t158)) : Int).toNat).drop ((ji34) : Int).toNat = y174 from Ny174.out.symm] at hr84
      replace hr84 : Kd.F (Kd.int .u8) _ _ A84 y174.length y174 := (by rw [hA84]; exact hr84)
      rw [← hy84, ← hA84, ← hc84] at hcut84
      have HO178 := Aside0.mk (show Kd.V (Kd.int .u8) 5 _ w.heap.size _ (.slice A84 y174.length c84) y174 from Kd.V_mk (by rw [hy84, hc84]; exact Nat.sub_le_sub_right (Nat.le_trans (by omega) hroom84) _) hr84)
      have HC178 := Aside0.mk (show y174.length ≤ c84 from by rw [hy84, hc84]; exact Nat.sub_le_sub_right (Nat.le_trans (by omega) hroom84) _)
      clear hr84 hC84 hroom84 hi084 hsz84 hc84
      have KY84 := Aside0.mk hy84
      have KA84 := Aside0.mk hA84
      clear hy84 hA84
      replace q84 := eq_true q84
      have q85 : ((ji34) : Int) ≤ ((x4_1.length : Int) : Int) := of_decide_eq_true (by first | (with_reducible assumption) | assumption)
      obtain ⟨i085, hi085, _, hsz85, _⟩ := info_parts info5
      have hroom85 : x4_1.length ≤ co18 := (Kd.V_reads' HO_4.out).2.1
      have hC85 : Kd.F (Kd.int .u8) _ _ Ao18 x4_1.length x4_1 := (Kd.V_at (base := w.heap.size) HO_4.out).2.2
      have ql85 : (4 : Int) ≤ ((ji34) : Int) := of_decide_eq_true (by first | (with_reducible assumption) | assumption)
      have hcut85 := cut_mid (P := Tryd.prog) 22 5 .i64 .i64 Tryd.underlying22 hi085 1 hsz85 Ao18 x4_1.length co18 4 (ji34) (by omega) ql85 q85 hroom85
      have hr85 := Kd.F_mid (lo := (4 : Int).toNat) (hi := ((ji34) : Int).toNat) (c := co18) hC85 (by omega) (by omega) hroom85
      obtain ⟨A85, hA85⟩ : ∃ A1, A1 = (if co18 = (4 : Int).toNat then Ao18 else (Ao18 : Option Addr).map (·.add ((4 : Int).toNat * 1))) := ⟨_, rfl⟩
      obtain ⟨c85, hc85⟩ : ∃ c1, c1 = co18 - (4 : Int).toNat := ⟨_, rfl⟩
      have hy85 : y180.length = ((ji34) : Int).toNat - (4 : Int).toNat := (by rw [Ny180.out, List.length_drop, List.length_take] <;> omega)
      rw [show ((x4_1).take ((ji34) : Int).toNat).drop (4 : Int).toNat = y180 from Ny180.out.symm] at hr85
      replace hr85 : Kd.F (Kd.int .u8) _ _ A85 y180.length y180 := (by rw [hA85]; exact hr85)
      rw [← hy85, ← hA85, ← hc85] at hcut85
      have HO184 := Aside0.mk (show Kd.V (Kd.int .u8) 5 _ w.heap.size _ (.slice A85 y180.length c85) y180 from Kd.V_mk (by rw [hy85, hc85]; exact Nat.sub_le_sub_right (Nat.le_trans (by omega) hroom85) _) hr85)
      have HC184 := Aside0.mk (show y180.length ≤ c85 from by rw [hy85, hc85]; exact Nat.sub_le_sub_right (Nat.le_trans (by omega) hroom85) _)
      clear hr85 hC85 hroom85 hi085 hsz85 hc85
      have KY85 := Aside0.mk hy85
      have KA85 := Aside0.mk hA85
      clear hy85 hA85
      replace q85 := eq_true q85
      refine start_ (n := 15) (S := fun w' => True) (ds := []) #[false, false, false, false, false, false, false, false, false, false, false, false, false, false, false] (by kernel_rfl) rfl rfl trivial (fun hHeld => ?_); refine with_tabW impl_ReadChunks.tab16 impl_ReadChunks.bits16 (fun HT_ HW_ => ?_)
      generalize w82.drew = w83 at HO_3 HO_4 HO157 HO163 HO168 HO171 BK135 BK172 HB HO178 HO184 hHeld ⊢
      refine pure_ (i := 0) (N := some 61) (v := ?_) (a' := ?_) #[true, false, false, false, false, false, false, false, false, false, false, false, false, false, false] rfl rfl (any_of HT_.out (by kernel_rfl)) (fun _ _ _ h => h) (Or.inl ⟨by rfl, ?_⟩) ?_ ?_
      rotate_left
      ·intro w'
       go_simp
       with_reducible rfl
      rotate_left
      ·simp only [Act.put, List.setIfInBounds_toArray, List.set_cons_zero, List.set_cons_succ, i64_w, i32_w]
       rfl
      refine pure_ (i := 1) (N := some 62) (v := ?_) (a' := ?_) #[true, true, false, false, false, false, false, false, false, false, false, false, false, false, false] rfl rfl (any_of HT_.out (by kernel_rfl)) (fun _ _ _ h => h) (Or.inl ⟨by rfl, ?_⟩) ?_ ?_
      rotate_left
      ·intro w'
       go_simp
       with_reducible rfl
      rotate_left
      ·simp only [Act.put, List.setIfInBounds_toArray, List.set_cons_zero, List.set_cons_succ, i64_w, i32_w]
       rfl
      refine pure_ (i := 2) (N := some 63) (v := ?_) (a' := ?_) #[true, true, true, false, false, false, false, false, false, false, false, false, false, false, false] rfl rfl (any_of HT_.out (by kernel_rfl)) (fun _ _ _ h => h) (Or.inl ⟨by rfl, ?_⟩) ?_ ?_
      rotate_left
      ·intro w'
       go_simp
       with_reducible rfl
      rotate_left
      ·simp only [Act.put, List.setIfInBounds_toArray, List.set_cons_zero, List.set_cons_succ, i64_w, i32_w]
       rfl
      refine pure_ (i := 3) (N := some 64) (v := ?_) (a' := ?_) #[true, true, true, true, false, false, false, false, false, false, false, false, false, false, false] rfl rfl (any_of HT_.out (by kernel_rfl)) (fun _ _ _ h => h) (Or.inl ⟨by rfl, ?_⟩) ?_ ?_
      rotate_left
      ·intro w'
       go_simp
       with_reducible rfl
      rotate_left
      ·simp only [Act.put, List.setIfInBounds_toArray, List.set_cons_zero, List.set_cons_succ, i64_w, i32_w]
       rfl
      refine pure_ (i := 4) (N := some 65) (v := ?_) (a' := ?_) #[true, true, true, true, true, false, false, false, false, false, false, false, false, false, false] rfl rfl (any_of HT_.out (by kernel_rfl)) (fun _ _ _ h => h) (Or.inl ⟨by rfl, ?_⟩) ?_ ?_
      rotate_left
      ·intro w'
       go_simp
       with_reducible rfl
      rotate_left
      ·simp only [Act.put, List.setIfInBounds_toArray, List.set_cons_zero, List.set_cons_succ, i64_w, i32_w]
       rfl
      refine pure_ (i := 5) (N := some 66) (v := ?_) (a' := ?_) #[true, true, true, true, true, true, false, false, false, false, false, false, false, false, false] rfl rfl (any_of HT_.out (by kernel_rfl)) (fun _ _ _ h => h) (Or.inl ⟨by rfl, ?_⟩) ?_ ?_
      rotate_left
      ·intro w'
       go_simp
       with_reducible rfl
      rotate_left
      ·simp only [Act.put, List.setIfInBounds_toArray, List.set_cons_zero, List.set_cons_succ, i64_w, i32_w]
       rfl
      refine pure_ (i := 7) (N := some 68) (v := ?_) (a' := ?_) #[true, true, true, true, true, true, false, true, false, false, false, false, false, false, false] rfl rfl (any_of HT_.out (by kernel_rfl)) (fun _ _ _ h => h) (Or.inl ⟨by rfl, ?_⟩) ?_ ?_
      rotate_left
      ·intro w'
       go_simp
       with_reducible rfl
      rotate_left
      ·simp only [Act.put, List.setIfInBounds_toArray, List.set_cons_zero, List.set_cons_succ, i64_w, i32_w]
       rfl
      refine pure_ (i := 8) (N := some 69) (v := ?_) (a' := ?_) #[true, true, true, true, true, true, false, true, true, false, false, false, false, false, false] rfl rfl (any_of HT_.out (by kernel_rfl)) (fun _ _ _ h => h) (Or.inl ⟨by rfl, ?_⟩) ?_ ?_
      rotate_left
      ·intro w'
       go_simp
       with_reducible rfl
      rotate_left
      ·simp only [Act.put, List.setIfInBounds_toArray, List.set_cons_zero, List.set_cons_succ, i64_w, i32_w]
       rfl
      refine pure_ (i := 9) (N := some 70) (v := ?_) (a' := ?_) #[true, true, true, true, true, true, false, true, true, true, false, false, false, false, false] rfl rfl (any_of HT_.out (by kernel_rfl)) (fun _ _ _ h => h) (Or.inl ⟨by rfl, ?_⟩) ?_ ?_
      rotate_left
      ·intro w'
       go_simp
       with_reducible rfl
      rotate_left
      ·simp only [Act.put, List.setIfInBounds_toArray, List.set_cons_zero, List.set_cons_succ, i64_w, i32_w]
       rfl
      refine pure_ (i := 10) (N := some 71) (v := ?_) (a' := ?_) #[true, true, true, true, true, true, false, true, true, true, true, false, false, false, false] rfl rfl (any_of HT_.out (by kernel_rfl)) (fun _ _ _ h => h) (Or.inl ⟨by rfl, ?_⟩) ?_ ?_
      rotate_left
      ·intro w'
       go_simp
       with_reducible rfl
      rotate_left
      ·simp only [Act.put, List.setIfInBounds_toArray, List.set_cons_zero, List.set_cons_succ, i64_w, i32_w]
       rfl
      refine one_ (i := 6) (N := some 67) #[true, true, true, true, true, true, true, true, true, true, true, false, false, false, false] rfl rfl (one_of HT_.out (by kernel_rfl)) (by decide) (fun K hK => ?_)
      refine goes_ Tryd.func28 (by kernel_rfl) rfl #[.slice A84 y174.length c84] (by rfl) rfl rfl (by (try simp only [List.map_toArray, List.map_cons, List.map_nil]); first | done | rfl | (simp only [List.length_drop, List.length_take]; rfl)) ?_
      with_reducible refine (impl_unbig.calls kj16 _ _ y174 t179 _ ?side1 ?side2 A38.out).mono ?_
      (case side1 => repeat (first | exact (Kd.V_reads' HO178.out).2.2 | (with_reducible refine Kd.C_alloc ?_ _) | (with_reducible refine Kd.C_drewN ?_ _) | (with_reducible refine Kd.C_drew ?_)))
      (case side2 => exact (Kd.V_reads' HO178.out).2.1)
      rintro e w' ⟨rfl, ⟨nd, rfl⟩⟩
      refine ⟨_, rfl, ?_⟩
      refine hK.out _ _ trivial (fun hHeld => ?_)
      clear hK K
      refine norm_ (a' := ?_) ?_ ?_
      rotate_left
      ·show Act.put _ (some 67) _ = _
       simp only [Act.put, List.setIfInBounds_toArray, List.set_cons_zero, List.set_cons_succ, i64_w, i32_w]
       rfl
      refine one_ (i := 11) (N := some 72) #[true, true, true, true, true, true, true, true, true, true, true, true, false, false, false] rfl rfl (one_of HT_.out (by kernel_rfl)) (by decide) (fun K hK => ?_)
      refine goes_ Tryd.func30 (by kernel_rfl) rfl #[.slice A85 y180.length c85] (by rfl) rfl rfl (by (try simp only [List.map_toArray, List.map_cons, List.map_nil]); first | done | rfl | (simp only [List.length_drop, List.length_take]; rfl)) ?_
      with_reducible refine (impl_Crc.calls kj16 _ _ y180 t185 _ ?side1 ?side2 A41.out).mono ?_
      (case side1 => repeat (first | exact (Kd.V_reads' HO184.out).2.2 | (with_reducible refine Kd.C_alloc ?_ _) | (with_reducible refine Kd.C_drewN ?_ _) | (with_reducible refine Kd.C_drew ?_)))
      (case side2 => exact (Kd.V_reads' HO184.out).2.1)
      rintro e w' ⟨rfl, ⟨nd, rfl⟩⟩
      refine ⟨_, rfl, ?_⟩
      refine hK.out _ _ trivial (fun hHeld => ?_)
      clear hK K
      refine norm_ (a' := ?_) ?_ ?_
      rotate_left
      ·show Act.put _ (some 72) _ = _
       simp only [Act.put, List.setIfInBounds_toArray, List.set_cons_zero, List.set_cons_succ, i64_w, i32_w]
       rfl
      refine pure_ (i := 12) (N := some 73) (v := ?_) (a' := ?_) #[true, true, true, true, true, true, true, true, true, true, true, true, true, false, false] rfl rfl (any_of HT_.out (by kernel_rfl)) (fun _ _ _ h => h) (Or.inl ⟨by rfl, ?_⟩) ?_ ?_
      rotate_left
      ·intro w'
       go_simp
       with_reducible rfl
      rotate_left
      ·simp only [Act.put, List.setIfInBounds_toArray, List.set_cons_zero, List.set_cons_succ, i64_w, i32_w]
       rfl
      refine pure_ (i := 13) (N := some 74) (v := ?_) (a' := ?_) #[true, true, true, true, true, true, true, true, true, true, true, true, true, true, false] rfl rfl (any_of HT_.out (by kernel_rfl)) (fun _ _ _ h => h) (Or.inl ⟨by rfl, ?_⟩) ?_ ?_
      rotate_left
      ·intro w'
       go_simp
       with_reducible rfl
      rotate_left
      ·simp only [Act.put, List.setIfInBounds_toArray, List.set_cons_zero, List.set_cons_succ, i64_w, i32_w]
       rfl
      refine pure_ (i := 14) (N := some 60) (v := ?_) (a' := ?_) #[true, true, true, true, true, true, true, true, true, true, true, true, true, true, true] rfl rfl (any_of HT_.out (by kernel_rfl)) (fun _ _ _ h => h) (Or.inl ⟨by rfl, ?_⟩) ?_ ?_
      rotate_left
      ·intro w'
       go_simp
       with_reducible rfl
      rotate_left
      ·simp only [Act.put, List.setIfInBounds_toArray, List.set_cons_zero, List.set_cons_succ, i64_w, i32_w]
       rfl
      refine done_ (done_of HT_.out (by kernel_rfl)) ?_
      have hcz86_0 : w83.cell? ⟨gb135, 0, none⟩ = some (.int .i64 x136000_1) := (blk_cell BK135.out 0).trans rfl
      have hcz86_1 : w83.cell? ⟨gb135, 1, none⟩ = some (.slice none 0 0) := (blk_cell BK135.out 1).trans rfl
      have hfz86_0 := blk_frozen BK135.out 0
      have hfz86_1 := blk_frozen BK135.out 1
      try go_wp2
      refine bodyPost_ret (results_cell_row rfl _ _ gb135 25 #[.int .i64 3, .slice none 0 0] (0, 0) _ rfl (set2_blk BK135.out) Tryd.underlying25 rfl (by kernel_rfl)) rfl ?_
      exact ⟨_, by first | rfl | (simp [*, errW_none, errW_some] <;> rfl), by first | exact Kd.S_nil _ _ _ _ _ | exact Kd.N_nil _ _ _ _ _ | exact Kd.V_nil _ _ _ _ _ | exact Kd.Q_nil _ _ _ _ _ | exact Kd.R_nil _ _ _ _ _, by repeat (first | (with_reducible first | exact HB.out | apply below_alloc | apply pw_below_drewN | apply below_drew1 | refine below_set ?_ GE135.out | refine below_set ?_ GE172.out) | exact HB.out)⟩
     rw [if_pos c42] at H
     have c42b0 : (t179 == (wrap64 (t185))) = true := beq_iff_eq.mpr c42
     have c42b1 : (t179 != (wrap64 (t185))) = false := bne_eq_false_iff_eq.mpr c42
     clear c42
     by_cases c43 : x3_1.length < 3518437208883
     rotate_left
     ·rw [if_neg c43] at H
      exact absurd H (by simp)
     rw [if_pos c43] at H
     have LMc43 := Aside0.mk c43
     clear c43
     obtain ⟨y186, hy186⟩ : ∃ y_ : List (S46), y_ = (x3_1 ++ [(⟨strOfNums y159, y169⟩ : S46)]) := ⟨_, rfl⟩
     replace H : (if 0 ≤ (wrap64 (12 + t158)) then (impl_ReadChunks.l0 kj16 y186 (x4_1.drop ((wrap64 (12 + t158)) : Int).toNat)) else (none)) = some (r1, r2) := by first | (rw [hy186]; with_reducible exact H) | (have H2_ := (Option.bind_some _ _).symm.trans H; rw [hy186]; with_reducible exact H2_) | (have H2_ := (Option.bind_some _ _).symm.trans H; with_reducible exact H2_) | with_reducible exact H | (rw [hy186]; exact H) | exact H
     have Ny186 := Aside0.mk hy186
     clear hy186
     obtain ⟨ji44, hji44⟩ : ∃ j_ : Int, (wrap64 (12 + t158)) = j_ := ⟨_, rfl⟩
     replace H : (if 0 ≤ (ji44) then (impl_ReadChunks.l0 kj16 y186 (x4_1.drop ((ji44) : Int).toNat)) else (none)) = some (r1, r2) := by first | (rw [hji44] at H; exact H) | (simp only [hji44] at H ⊢; exact H)
     (try rw [hji44] at c36b0)
     (try rw [hji44] at c36b1)
     (try rw [hji44] at c36)
     (try rw [hji44] at c37b0)
     (try rw [hji44] at c37b1)
     (try rw [hji44] at c37)
     (try rw [hji44] at A26)
     (try rw [hji44] at A32)
     (try rw [hji44] at Ny174)
     (try rw [hji44] at A38)
     (try rw [hji44] at A41)
     have hji44w : (IntKind.i64.wrap (12 + t158)) = ji44 := (i64_w _).trans hji44
     by_cases c45 : 0 ≤ (ji44)
     rotate_left
     ·rw [if_neg c45] at H
      exact absurd H (by simp)
     rw [if_pos c45] at H
     have c45b0 := eq_true c45
     have c45b1 : decide (0 ≤ (ji44)) = true := decide_eq_true c45
     clear c45
     have c46b0 := eq_true (of_decide_eq_true (by first | (with_reducible assumption) | assumption) : (ji44) ≤ (x4_1.length : Int))
     obtain ⟨y189, hy189⟩ : ∃ y_ : List Int, y_ = (x4_1.drop ((ji44) : Int).toNat) := ⟨_, rfl⟩
     replace H : (impl_ReadChunks.l0 kj16 y186 y189) = some (r1, r2) := by first | (rw [hy189]; with_reducible exact H) | (have H2_ := (Option.bind_some _ _).symm.trans H; rw [hy189]; with_reducible exact H2_) | (have H2_ := (Option.bind_some _ _).symm.trans H; with_reducible exact H2_) | with_reducible exact H | (rw [hy189]; exact H) | exact H
     have Ny189 := Aside0.mk hy189
     clear hy189
     have H' := Aside0.mk H
     clear H
     try go_wp2_with (first | ((with_reducible refine gate_callee (f := 29) rfl ?_); refine goesL_ (some 57) rfl rfl Tryd.func29 (by kernel_rfl) rfl #[.string (strOfNums y159)] rfl (by (try simp only [List.map_toArray, List.map_cons, List.map_nil]); first | done | rfl | (simp only [List.length_drop, List.length_take]; rfl)) ?_; (with_reducible refine (impl_goodName.calls kj16 (strOfNums y159) true _ A32.out).mono ?_); rintro e w' ⟨rfl, ⟨nd, rfl⟩⟩; refine ⟨_, rfl, ?_⟩))
     have n0_ : Aside0 (Kd.S k46 46 ((w95.setCell ⟨gb172, 0, none⟩ (.string (strOfNums y159))).setCell ⟨gb172, 1, none⟩ (.slice Ao96 y169.length co96)) w.heap.size (fun k_ => (w.heap.size ≤ k_) ∧ some k_ ≠ (.slice Ao96 y169.length co96 : Value).ownBlock ∧ k_ ≠ gb172) u3 x3_1) := ⟨by (with_reducible repeat (first | apply Kd.S_alloc | apply Kd.S_drewN | apply Kd.S_drew)); exact Kd.S_mono (Kd.S_far (p := ⟨gb172, 1, none⟩) (Kd.S_far (p := ⟨gb172, 0, none⟩) (Kd.S_mono HO_3.out (fun k_ hk => (⟨hk, hk.2.2⟩ : _ ∧ k_ ≠ gb172))) (fun _ hk => hk.2) (.string (strOfNums y159))) (fun _ hk => hk.2) (.slice Ao96 y169.length co96)) (fun _ hk => ⟨hk.1.1, ⟨hk.1.2.1, hk.1.2.2⟩⟩)⟩
     have n1_ : Aside0 (Kd.V (Kd.int .u8) 5 ((w95.setCell ⟨gb172, 0, none⟩ (.string (strOfNums y159))).setCell ⟨gb172, 1, none⟩ (.slice Ao96 y169.length co96)) w.heap.size (fun k_ => (P0_ k_ ∨ w.heap.size ≤ k_) ∧ some k_ ≠ (u3 : Value).ownBlock ∧ some k_ ≠ (.slice Ao96 y169.length co96 : Value).ownBlock ∧ k_ ≠ gb135 ∧ k_ ≠ gb172) (.slice Ao18 x4_1.length co18) x4_1) := ⟨by (with_reducible repeat (first | apply Kd.V_alloc | apply Kd.V_drewN | apply Kd.V_drew)); exact Kd.V_mono (Kd.V_far (p := ⟨gb172, 1, none⟩) (Kd.V_far (p := ⟨gb172, 0, none⟩) (Kd.V_mono HO_4.out (fun k_ hk => (⟨hk, hk.2.2.2.2⟩ : _ ∧ k_ ≠ gb172))) (fun _ hk => hk.2) (.string (strOfNums y159))) (fun _ hk => hk.2) (.slice Ao96 y169.length co96)) (fun _ hk => ⟨hk.1.1, ⟨hk.1.2.2.1, ⟨hk.1.2.1, ⟨hk.1.2.2.2.1, hk.1.2.2.2.2⟩⟩⟩⟩)⟩
     have n2_ : Aside0 (Kd.V (Kd.int .u8) 5 ((w95.setCell ⟨gb172, 0, none⟩ (.string (strOfNums y159))).setCell ⟨gb172, 1, none⟩ (.slice Ao96 y169.length co96)) w.heap.size (fun k_ => (P0_ k_ ∨ w.heap.size ≤ k_) ∧ some k_ ≠ (u3 : Value).ownBlock ∧ some k_ ≠ (.slice Ao96 y169.length co96 : Value).ownBlock ∧ k_ ≠ gb135 ∧ k_ ≠ gb172) (.slice Ao18 y153.length co18) y153) := ⟨by (with_reducible repeat (first | apply Kd.V_alloc | apply Kd.V_drewN | apply Kd.V_drew)); exact Kd.V_mono (Kd.V_far (p := ⟨gb172, 1, none⟩) (Kd.V_far (p := ⟨gb172, 0, none⟩) (Kd.V_mono HO157.out (fun k_ hk => (⟨hk, hk.2.2.2.2⟩ : _ ∧ k_ ≠ gb172))) (fun _ hk => hk.2) (.string (strOfNums y159))) (fun _ hk => hk.2) (.slice Ao96 y169.length co96)) (fun _ hk => ⟨hk.1.1, ⟨hk.1.2.2.1, ⟨hk.1.2.1, ⟨hk.1.2.2.2.1, hk.1.2.2.2.2⟩⟩⟩⟩)⟩
     have n3_ : Aside0 (Kd.V (Kd.int .u8) 5 ((w95.setCell ⟨gb172, 0, none⟩ (.string (strOfNums y159))).setCell ⟨gb172, 1, none⟩ (.slice Ao96 y169.length co96)) w.heap.size (fun k_ => (P0_ k_ ∨ w.heap.size ≤ k_) ∧ some k_ ≠ (u3 : Value).ownBlock ∧ some k_ ≠ (.slice Ao96 y169.length co96 : Value).ownBlock ∧ k_ ≠ gb135 ∧ k_ ≠ gb172) (.slice A89 y159.length c89) y159) := ⟨by (with_reducible repeat (first | apply Kd.V_alloc | apply Kd.V_drewN | apply Kd.V_drew)); exact Kd.V_mono (Kd.V_far (p := ⟨gb172, 1, none⟩) (Kd.V_far (p := ⟨gb172, 0, none⟩) (Kd.V_mono HO163.out (fun k_ hk => (⟨hk, hk.2.2.2.2⟩ : _ ∧ k_ ≠ gb172))) (fun _ hk => hk.2) (.string (strOfNums y159))) (fun _ hk => hk.2) (.slice Ao96 y169.length co96)) (fun _ hk => ⟨hk.1.1, ⟨hk.1.2.2.1, ⟨hk.1.2.1, ⟨hk.1.2.2.2.1, hk.1.2.2.2.2⟩⟩⟩⟩)⟩
     have n4_ : Aside0 (Kd.V (Kd.int .u8) 5 ((w95.setCell ⟨gb172, 0, none⟩ (.string (strOfNums y159))).setCell ⟨gb172, 1, none⟩ (.slice Ao96 y169.length co96)) w.heap.size (fun k_ => (P0_ k_ ∨ w.heap.size ≤ k_) ∧ some k_ ≠ (u3 : Value).ownBlock ∧ some k_ ≠ (.slice Ao96 y169.length co96 : Value).ownBlock ∧ k_ ≠ gb135 ∧ k_ ≠ gb172) (.slice A90 y164.length c90) y164) := ⟨by (with_reducible repeat (first | apply Kd.V_alloc | apply Kd.V_drewN | apply Kd.V_drew)); exact Kd.V_mono (Kd.V_far (p := ⟨gb172, 1, none⟩) (Kd.V_far (p := ⟨gb172, 0, none⟩) (Kd.V_mono HO168.out (fun k_ hk => (⟨hk, hk.2.2.2.2⟩ : _ ∧ k_ ≠ gb172))) (fun _ hk => hk.2) (.string (strOfNums y159))) (fun _ hk => hk.2) (.slice Ao96 y169.length co96)) (fun _ hk => ⟨hk.1.1, ⟨hk.1.2.2.1, ⟨hk.1.2.1, ⟨hk.1.2.2.2.1, hk.1.2.2.2.2⟩⟩⟩⟩)⟩
     have n5_ : Aside0 (Kd.R (Kd.int .u8) 5 ((w95.setCell ⟨gb172, 0, none⟩ (.string (strOfNums y159))).setCell ⟨gb172, 1, none⟩ (.slice Ao96 y169.length co96)) w.heap.size (fun k_ => (w.heap.size ≤ k_)) (.slice Ao96 y169.length co96) y169) := ⟨by (with_reducible repeat (first | apply Kd.R_alloc | apply Kd.R_drewN | apply Kd.R_drew)); exact Kd.R_mono (Kd.R_far (p := ⟨gb172, 1, none⟩) (Kd.R_far (p := ⟨gb172, 0, none⟩) (Kd.R_types HO171.out BK172.out (by decide)) (fun _ hk => hk.2) (.string (strOfNums y159))) (fun _ hk => hk.2) (.slice Ao96 y169.length co96)) (fun _ hk => hk.1)⟩
     have n6_ : Aside0 (((w95.setCell ⟨gb172, 0, none⟩ (.string (strOfNums y159))).setCell ⟨gb172, 1, none⟩ (.slice Ao96 y169.length co96)).heap[gb135]? = some (.cells #[.int .i64 x136000_1, .slice none 0 0] 25 (0, 0))) := ⟨by (with_reducible repeat (first | refine blk_drewN ?_ _ | refine blk_drew ?_ | refine blk_alloc ?_ _)); refine blk_far ?_ NB135_172.out _; (with_reducible repeat (first | refine blk_drewN ?_ _ | refine blk_drew ?_ | refine blk_alloc ?_ _)); refine blk_far ?_ NB135_172.out _; (with_reducible repeat (first | refine blk_drewN ?_ _ | refine blk_drew ?_ | refine blk_alloc ?_ _)); exact BK135.out⟩
     have n7_ : Aside0 (((w95.setCell ⟨gb172, 0, none⟩ (.string (strOfNums y159))).setCell ⟨gb172, 1, none⟩ (.slice Ao96 y169.length co96)).heap[gb172]? = some (.cells #[.string (strOfNums y159), .slice Ao96 y169.length co96] 46 (0, 0))) := ⟨by (with_reducible repeat (first | refine blk_drewN ?_ _ | refine blk_drew ?_ | refine blk_alloc ?_ _)); refine blk_put (cs := #[.string (strOfNums y159), .slice none 0 0]) ?_ 1 _ rfl; (with_reducible repeat (first | refine blk_drewN ?_ _ | refine blk_drew ?_ | refine blk_alloc ?_ _)); refine blk_put (cs := #[.string (⟨#[]⟩ : ByteArray), .slice none 0 0]) ?_ 0 _ rfl; (with_reducible repeat (first | refine blk_drewN ?_ _ | refine blk_drew ?_ | refine blk_alloc ?_ _)); exact BK172.out⟩
     have n8_ : Aside0 (Below w.heap.size w ((w95.setCell ⟨gb172, 0, none⟩ (.string (strOfNums y159))).setCell ⟨gb172, 1, none⟩ (.slice Ao96 y169.length co96))) := ⟨by repeat (first | (with_reducible first | exact HB.out | apply below_alloc | apply pw_below_drewN | apply below_drew1 | refine below_set ?_ GE135.out | refine below_set ?_ GE172.out) | exact HB.out)⟩
     (try clear HO_3)
     (try clear HO_4)
     (try clear HO157)
     (try clear HO163)
     (try clear HO168)
     (try clear HO171)
     (try clear BK135)
     (try clear BK172)
     (try clear HB)
     generalize ((w95.setCell ⟨gb172, 0, none⟩ (.string (strOfNums y159))).setCell ⟨gb172, 1, none⟩ (.slice Ao96 y169.length co96)) = w61 at n0_ n1_ n2_ n3_ n4_ n5_ n6_ n7_ n8_ ⊢
     have HO_3 := n0_
     have HO_4 := n1_
     have HO157 := n2_
     have HO163 := n3_
     have HO168 := n4_
     have HO171 := n5_
     have BK135 := n6_
     have BK172 := n7_
     have HB := n8_
     clear n0_ n1_ n2_ n3_ n4_ n5_ n6_ n7_ n8_
     (try (rw [drewN_self w61]; generalize hq_ : World.drewN w61 _ = w61; have n0_ : Aside0 (Kd.V (Kd.int .u8) 5 w61 w.heap.size (fun k_ => (P0_ k_ ∨ w.heap.size ≤ k_) ∧ some k_ ≠ (u3 : Value).ownBlock ∧ some k_ ≠ (.slice Ao96 y169.length co96 : Value).ownBlock ∧ k_ ≠ gb135 ∧ k_ ≠ gb172) (.slice Ao18 y153.length co18) y153) := ⟨by rw [← hq_]; exact (by (with_reducible repeat (first | apply Kd.V_alloc | apply Kd.V_drewN | apply Kd.V_drew)); exact Kd.V_mono HO157.out (fun _ hk => ⟨hk.1, ⟨hk.2.1, ⟨hk.2.2.1, ⟨hk.2.2.2.1, hk.2.2.2.2⟩⟩⟩⟩))⟩; have n1_ : Aside0 (Kd.V (Kd.int .u8) 5 w61 w.heap.size (fun k_ => (P0_ k_ ∨ w.heap.size ≤ k_) ∧ some k_ ≠ (u3 : Value).ownBlock ∧ some k_ ≠ (.slice Ao96 y169.length co96 : Value).ownBlock ∧ k_ ≠ gb135 ∧ k_ ≠ gb172) (.slice A89 y159.length c89) y159) := ⟨by rw [← hq_]; exact (by (with_reducible repeat (first | apply Kd.V_alloc | apply Kd.V_drewN | apply Kd.V_drew)); exact Kd.V_mono HO163.out (fun _ hk => ⟨hk.1, ⟨hk.2.1, ⟨hk.2.2.1, ⟨hk.2.2.2.1, hk.2.2.2.2⟩⟩⟩⟩))⟩; have n2_ : Aside0 (Kd.V (Kd.int .u8) 5 w61 w.heap.size (fun k_ => (P0_ k_ ∨ w.heap.size ≤ k_) ∧ some k_ ≠ (u3 : Value).ownBlock ∧ some k_ ≠ (.slice Ao96 y169.length co96 : Value).ownBlock ∧ k_ ≠ gb135 ∧ k_ ≠ gb172) (.slice A90 y164.length c90) y164) := ⟨by rw [← hq_]; exact (by (with_reducible repeat (first | apply Kd.V_alloc | apply Kd.V_drewN | apply Kd.V_drew)); exact Kd.V_mono HO168.out (fun _ hk => ⟨hk.1, ⟨hk.2.1, ⟨hk.2.2.1, ⟨hk.2.2.2.1, hk.2.2.2.2⟩⟩⟩⟩))⟩; have n3_ : Aside0 (Kd.R (Kd.int .u8) 5 w61 w.heap.size (fun k_ => ((w.heap.size ≤ k_))) (.slice Ao96 y169.length co96) y169) := ⟨by rw [← hq_]; exact (by (with_reducible repeat (first | apply Kd.R_alloc | apply Kd.R_drewN | apply Kd.R_drew)); exact HO171.out)⟩; have n4_ : Aside0 (Kd.S k46 46 w61 w.heap.size (fun k_ => (((w.heap.size ≤ k_)) ∧ (some k_ ≠ (.slice Ao96 y169.length co96 : Value).ownBlock ∧ k_ ≠ gb172))) u3 x3_1) := ⟨by rw [← hq_]; exact (by (with_reducible repeat (first | apply Kd.S_alloc | apply Kd.S_drewN | apply Kd.S_drew)); exact HO_3.out)⟩; have n5_ : Aside0 (Kd.V (Kd.int .u8) 5 w61 w.heap.size (fun k_ => (P0_ k_ ∨ w.heap.size ≤ k_) ∧ some k_ ≠ (u3 : Value).ownBlock ∧ some k_ ≠ (.slice Ao96 y169.length co96 : Value).ownBlock ∧ k_ ≠ gb135 ∧ k_ ≠ gb172) (.slice Ao18 x4_1.length co18) x4_1) := ⟨by rw [← hq_]; exact (by (with_reducible repeat (first | apply Kd.V_alloc | apply Kd.V_drewN | apply Kd.V_drew)); exact Kd.V_mono HO_4.out (fun _ hk => ⟨hk.1, ⟨hk.2.1, ⟨hk.2.2.1, ⟨hk.2.2.2.1, hk.2.2.2.2⟩⟩⟩⟩))⟩; have n6_ : Aside0 (w61.heap[gb135]? = some (.cells #[.int .i64 x136000_1, .slice none 0 0] 25 (0, 0))) := ⟨by rw [← hq_]; exact (by (with_reducible repeat (first | refine blk_drewN ?_ _ | refine blk_drew ?_ | refine blk_alloc ?_ _)); exact BK135.out)⟩; have n7_ : Aside0 (w61.heap[gb172]? = some (.cells #[.string (strOfNums y159), .slice Ao96 y169.length co96] 46 (0, 0))) := ⟨by rw [← hq_]; exact (by (with_reducible repeat (first | refine blk_drewN ?_ _ | refine blk_drew ?_ | refine blk_alloc ?_ _)); exact BK172.out)⟩; have n8_ : Aside0 (Below w.heap.size w w61) := ⟨by rw [← hq_]; exact (by repeat (first | (with_reducible first | exact HB.out | apply below_alloc | apply pw_below_drewN | apply below_drew1 | refine below_set ?_ GE135.out | refine below_set ?_ GE172.out) | exact HB.out))⟩; clear HO157 HO163 HO168 HO171 HO_3 HO_4 BK135 BK172 HB hq_; have HO157 := n0_; have HO163 := n1_; have HO168 := n2_; have HO171 := n3_; have HO_3 := n4_; have HO_4 := n5_; have BK135 := n6_; have BK172 := n7_; have HB := n8_; clear n0_ n1_ n2_ n3_ n4_ n5_ n6_ n7_ n8_))
     have n0_ := Aside0.mk (Kd.S_drew HO_3.out)
     have n1_ := Aside0.mk (Kd.V_drew HO_4.out)
     have n2_ := Aside0.mk (Kd.V_drew HO157.out)
     have n3_ := Aside0.mk (Kd.V_drew HO163.out)
     have n4_ := Aside0.mk (Kd.V_drew HO168.out)
     have n5_ := Aside0.mk (Kd.R_drew HO171.out)
     have n6_ := Aside0.mk (blk_drew BK135.out)
     have n7_ := Aside0.mk (blk_drew BK172.out)
     have n8_ := Aside0.mk (below_drew1 HB.out)
     clear HO_3
     clear HO_4
     clear HO157
     clear HO163
     clear HO168
     clear HO171
     clear BK135
     clear BK172
     clear HB
     have HO_3 := n0_
     have HO_4 := n1_
     have HO157 := n2_
     have HO163 := n3_
     have HO168 := n4_
     have HO171 := n5_
     have BK135 := n6_
     have BK172 := n7_
     have HB := n8_
     clear n0_ n1_ n2_ n3_ n4_ n5_ n6_ n7_ n8_
     have q63 : ((ji44) : Int) ≤ ((x4_1.length : Int) : Int) := of_decide_eq_true (by first | (with_reducible assumption) | assumption)
     obtain ⟨i063, hi063, _, hsz63, _⟩ := info_parts info5
     have hroom63 : x4_1.length ≤ co18 := (Kd.V_reads' HO_4.out).2.1
     have hC63 : Kd.F (Kd.int .u8) _ _ Ao18 x4_1.length x4_1 := (Kd.V_at (base := w.heap.size) HO_4.out).2.2
     have ql63 : ((ji34) : Int) ≤ ((ji44) : Int) := of_decide_eq_true (by first | (with_reducible assumption) | assumption)
     have q063 : (0 : Int) ≤ ((ji34) : Int) := of_decide_eq_true (by first | (with_reducible assumption) | assumption)
     have hcut63 := cut_mid (P := Tryd.prog) 22 5 .i64 .i64 Tryd.underlying22 hi063 1 hsz63 Ao18 x4_1.length co18 (ji34) (ji44) q063 ql63 q63 hroom63
     have hr63 := Kd.F_mid (lo := ((ji34) : Int).toNat) (hi := ((ji44) : Int).toNat) (c := co18) hC63 (by omega) (by omega) hroom63
     obtain ⟨A63, hA63⟩ : ∃ A1, A1 = (if co18 = ((ji34) : Int).toNat then Ao18 else (Ao18 : Option Addr).map (·.add (((ji34) : Int).toNat * 1))) := ⟨_, rfl⟩
     obtain ⟨c63, hc63⟩ : ∃ c1, c1 = co18 - ((ji34) : Int).toNat := ⟨_, rfl⟩
     have hy63 : y174.length = ((ji44) : Int).toNat - ((ji34) : Int).toNat := (by rw [Ny174.out, List.length_drop, List.length_take] <;> omega)
     rw [show ((x4_1).take ((ji44) : Int).toNat).drop ((ji34) : Int).toNat = y174 from Ny174.out.symm] at hr63
     replace hr63 : Kd.F (Kd.int .u8) _ _ A63 y174.length y174 := (by rw [hA63]; exact hr63)
     rw [← hy63, ← hA63, ← hc63] at hcut63
     have HO178 := Aside0.mk (show Kd.V (Kd.int .u8) 5 _ w.heap.size _ (.slice A63 y174.length c63) y174 from Kd.V_mk (by rw [hy63, hc63]; exact Nat.sub_le_sub_right (Nat.le_trans (by omega) hroom63) _) hr63)
     have HC178 := Aside0.mk (show y174.length ≤ c63 from by rw [hy63, hc63]; exact Nat.sub_le_sub_right (Nat.le_trans (by omega) hroom63) _)
     clear hr63 hC63 hroom63 hi063 hsz63 hc63
     have KY63 := Aside0.mk hy63
     have KA63 := Aside0.mk hA63
     clear hy63 hA63
     replace q63 := eq_true q63
     have q64 : ((ji34) : Int) ≤ ((x4_1.length : Int) : Int) := of_decide_eq_true (by first | (with_reducible assumption) | assumption)
     obtain ⟨i064, hi064, _, hsz64, _⟩ := info_parts info5
     have hroom64 : x4_1.length ≤ co18 := (Kd.V_reads' HO_4.out).2.1
     have hC64 : Kd.F (Kd.int .u8) _ _ Ao18 x4_1.length x4_1 := (Kd.V_at (base := w.heap.size) HO_4.out).2.2
     have ql64 : (4 : Int) ≤ ((ji34) : Int) := of_decide_eq_true (by first | (with_reducible assumption) | assumption)
     have hcut64 := cut_mid (P := Tryd.prog) 22 5 .i64 .i64 Tryd.underlying22 hi064 1 hsz64 Ao18 x4_1.length co18 4 (ji34) (by omega) ql64 q64 hroom64
     have hr64 := Kd.F_mid (lo := (4 : Int).toNat) (hi := ((ji34) : Int).toNat) (c := co18) hC64 (by omega) (by omega) hroom64
     obtain ⟨A64, hA64⟩ : ∃ A1, A1 = (if co18 = (4 : Int).toNat then Ao18 else (Ao18 : Option Addr).map (·.add ((4 : Int).toNat * 1))) := ⟨_, rfl⟩
     obtain ⟨c64, hc64⟩ : ∃ c1, c1 = co18 - (4 : Int).toNat := ⟨_, rfl⟩
     have hy64 : y180.length = ((ji34) : Int).toNat - (4 : Int).toNat := (by rw [Ny180.out, List.length_drop, List.length_take] <;> omega)
     rw [show ((x4_1).take ((ji34) : Int).toNat).drop (4 : Int).toNat = y180 from Ny180.out.symm] at hr64
     replace hr64 : Kd.F (Kd.int .u8) _ _ A64 y180.length y180 := (by rw [hA64]; exact hr64)
     rw [← hy64, ← hA64, ← hc64] at hcut64
     have HO184 := Aside0.mk (show Kd.V (Kd.int .u8) 5 _ w.heap.size _ (.slice A64 y180.length c64) y180 from Kd.V_mk (by rw [hy64, hc64]; exact Nat.sub_le_sub_right (Nat.le_trans (by omega) hroom64) _) hr64)
     have HC184 := Aside0.mk (show y180.length ≤ c64 from by rw [hy64, hc64]; exact Nat.sub_le_sub_right (Nat.le_trans (by omega) hroom64) _)
     clear hr64 hC64 hroom64 hi064 hsz64 hc64
     have KY64 := Aside0.mk hy64
     have KA64 := Aside0.mk hA64
     clear hy64 hA64
     replace q64 := eq_true q64
     refine start_ (n := 15) (S := fun w' => True) (ds := []) #[false, false, false, false, false, false, false, false, false, false, false, false, false, false, false] (by kernel_rfl) rfl rfl trivial (fun hHeld => ?_); refine with_tabW impl_ReadChunks.tab16 impl_ReadChunks.bits16 (fun HT_ HW_ => ?_)
     generalize w61.drew = w62 at HO_3 HO_4 HO157 HO163 HO168 HO171 BK135 BK172 HB HO178 HO184 hHeld ⊢
     refine pure_ (i := 0) (N := some 61) (v := ?_) (a' := ?_) #[true, false, false, false, false, false, false, false, false, false, false, false, false, false, false] rfl rfl (any_of HT_.out (by kernel_rfl)) (fun _ _ _ h => h) (Or.inl ⟨by rfl, ?_⟩) ?_ ?_
     rotate_left
     ·intro w'
      go_simp
      with_reducible rfl
     rotate_left
     ·simp only [Act.put, List.setIfInBounds_toArray, List.set_cons_zero, List.set_cons_succ, i64_w, i32_w]
      rfl
     refine pure_ (i := 1) (N := some 62) (v := ?_) (a' := ?_) #[true, true, false, false, false, false, false, false, false, false, false, false, false, false, false] rfl rfl (any_of HT_.out (by kernel_rfl)) (fun _ _ _ h => h) (Or.inl ⟨by rfl, ?_⟩) ?_ ?_
     rotate_left
     ·intro w'
      go_simp
      with_reducible rfl
     rotate_left
     ·simp only [Act.put, List.setIfInBounds_toArray, List.set_cons_zero, List.set_cons_succ, i64_w, i32_w]
      rfl
     refine pure_ (i := 2) (N := some 63) (v := ?_) (a' := ?_) #[true, true, true, false, false, false, false, false, false, false, false, false, false, false, false] rfl rfl (any_of HT_.out (by kernel_rfl)) (fun _ _ _ h => h) (Or.inl ⟨by rfl, ?_⟩) ?_ ?_
     rotate_left
     ·intro w'
      go_simp
      with_reducible rfl
     rotate_left
     ·simp only [Act.put, List.setIfInBounds_toArray, List.set_cons_zero, List.set_cons_succ, i64_w, i32_w]
      rfl
     refine pure_ (i := 3) (N := some 64) (v := ?_) (a' := ?_) #[true, true, true, true, false, false, false, false, false, false, false, false, false, false, false] rfl rfl (any_of HT_.out (by kernel_rfl)) (fun _ _ _ h => h) (Or.inl ⟨by rfl, ?_⟩) ?_ ?_
     rotate_left
     ·intro w'
      go_simp
      with_reducible rfl
     rotate_left
     ·simp only [Act.put, List.setIfInBounds_toArray, List.set_cons_zero, List.set_cons_succ, i64_w, i32_w]
      rfl
     refine pure_ (i := 4) (N := some 65) (v := ?_) (a' := ?_) #[true, true, true, true, true, false, false, false, false, false, false, false, false, false, false] rfl rfl (any_of HT_.out (by kernel_rfl)) (fun _ _ _ h => h) (Or.inl ⟨by rfl, ?_⟩) ?_ ?_
     rotate_left
     ·intro w'
      go_simp
      with_reducible rfl
     rotate_left
     ·simp only [Act.put, List.setIfInBounds_toArray, List.set_cons_zero, List.set_cons_succ, i64_w, i32_w]
      rfl
     refine pure_ (i := 5) (N := some 66) (v := ?_) (a' := ?_) #[true, true, true, true, true, true, false, false, false, false, false, false, false, false, false] rfl rfl (any_of HT_.out (by kernel_rfl)) (fun _ _ _ h => h) (Or.inl ⟨by rfl, ?_⟩) ?_ ?_
     rotate_left
     ·intro w'
      go_simp
      with_reducible rfl
     rotate_left
     ·simp only [Act.put, List.setIfInBounds_toArray, List.set_cons_zero, List.set_cons_succ, i64_w, i32_w]
      rfl
     refine pure_ (i := 7) (N := some 68) (v := ?_) (a' := ?_) #[true, true, true, true, true, true, false, true, false, false, false, false, false, false, false] rfl rfl (any_of HT_.out (by kernel_rfl)) (fun _ _ _ h => h) (Or.inl ⟨by rfl, ?_⟩) ?_ ?_
     rotate_left
     ·intro w'
      go_simp
      with_reducible rfl
     rotate_left
     ·simp only [Act.put, List.setIfInBounds_toArray, List.set_cons_zero, List.set_cons_succ, i64_w, i32_w]
      rfl
     refine pure_ (i := 8) (N := some 69) (v := ?_) (a' := ?_) #[true, true, true, true, true, true, false, true, true, false, false, false, false, false, false] rfl rfl (any_of HT_.out (by kernel_rfl)) (fun _ _ _ h => h) (Or.inl ⟨by rfl, ?_⟩) ?_ ?_
     rotate_left
     ·intro w'
      go_simp
      with_reducible rfl
     rotate_left
     ·simp only [Act.put, List.setIfInBounds_toArray, List.set_cons_zero, List.set_cons_succ, i64_w, i32_w]
      rfl
     refine pure_ (i := 9) (N := some 70) (v := ?_) (a' := ?_) #[true, true, true, true, true, true, false, true, true, true, false, false, false, false, false] rfl rfl (any_of HT_.out (by kernel_rfl)) (fun _ _ _ h => h) (Or.inl ⟨by rfl, ?_⟩) ?_ ?_
     rotate_left
     ·intro w'
      go_simp
      with_reducible rfl
     rotate_left
     ·simp only [Act.put, List.setIfInBounds_toArray, List.set_cons_zero, List.set_cons_succ, i64_w, i32_w]
      rfl
     refine pure_ (i := 10) (N := some 71) (v := ?_) (a' := ?_) #[true, true, true, true, true, true, false, true, true, true, true, false, false, false, false] rfl rfl (any_of HT_.out (by kernel_rfl)) (fun _ _ _ h => h) (Or.inl ⟨by rfl, ?_⟩) ?_ ?_
     rotate_left
     ·intro w'
      go_simp
      with_reducible rfl
     rotate_left
     ·simp only [Act.put, List.setIfInBounds_toArray, List.set_cons_zero, List.set_cons_succ, i64_w, i32_w]
      rfl
     refine one_ (i := 6) (N := some 67) #[true, true, true, true, true, true, true, true, true, true, true, false, false, false, false] rfl rfl (one_of HT_.out (by kernel_rfl)) (by decide) (fun K hK => ?_)
     refine goes_ Tryd.func28 (by kernel_rfl) rfl #[.slice A63 y174.length c63] (by rfl) rfl rfl (by (try simp only [List.map_toArray, List.map_cons, List.map_nil]); first | done | rfl | (simp only [List.length_drop, List.length_take]; rfl)) ?_
     with_reducible refine (impl_unbig.calls kj16 _ _ y174 t179 _ ?side1 ?side2 A38.out).mono ?_
     (case side1 => repeat (first | exact (Kd.V_reads' HO178.out).2.2 | (with_reducible refine Kd.C_alloc ?_ _) | (with_reducible refine Kd.C_drewN ?_ _) | (with_reducible refine Kd.C_drew ?_)))
     (case side2 => exact (Kd.V_reads' HO178.out).2.1)
     rintro e w' ⟨rfl, ⟨nd, rfl⟩⟩
     refine ⟨_, rfl, ?_⟩
     refine hK.out _ _ trivial (fun hHeld => ?_)
     clear hK K
     refine norm_ (a' := ?_) ?_ ?_
     rotate_left
     ·show Act.put _ (some 67) _ = _
      simp only [Act.put, List.setIfInBounds_toArray, List.set_cons_zero, List.set_cons_succ, i64_w, i32_w]
      rfl
     refine one_ (i := 11) (N := some 72) #[true, true, true, true, true, true, true, true, true, true, true, true, false, false, false] rfl rfl (one_of HT_.out (by kernel_rfl)) (by decide) (fun K hK => ?_)
     refine goes_ Tryd.func30 (by kernel_rfl) rfl #[.slice A64 y180.length c64] (by rfl) rfl rfl (by (try simp only [List.map_toArray, List.map_cons, List.map_nil]); first | done | rfl | (simp only [List.length_drop, List.length_take]; rfl)) ?_
     with_reducible refine (impl_Crc.calls kj16 _ _ y180 t185 _ ?side1 ?side2 A41.out).mono ?_
     (case side1 => repeat (first | exact (Kd.V_reads' HO184.out).2.2 | (with_reducible refine Kd.C_alloc ?_ _) | (with_reducible refine Kd.C_drewN ?_ _) | (with_reducible refine Kd.C_drew ?_)))
     (case side2 => exact (Kd.V_reads' HO184.out).2.1)
     rintro e w' ⟨rfl, ⟨nd, rfl⟩⟩
     refine ⟨_, rfl, ?_⟩
     refine hK.out _ _ trivial (fun hHeld => ?_)
     clear hK K
     refine norm_ (a' := ?_) ?_ ?_
     rotate_left
     ·show Act.put _ (some 72) _ = _
      simp only [Act.put, List.setIfInBounds_toArray, List.set_cons_zero, List.set_cons_succ, i64_w, i32_w]
      rfl
     refine pure_ (i := 12) (N := some 73) (v := ?_) (a' := ?_) #[true, true, true, true, true, true, true, true, true, true, true, true, true, false, false] rfl rfl (any_of HT_.out (by kernel_rfl)) (fun _ _ _ h => h) (Or.inl ⟨by rfl, ?_⟩) ?_ ?_
     rotate_left
     ·intro w'
      go_simp
      with_reducible rfl
     rotate_left
     ·simp only [Act.put, List.setIfInBounds_toArray, List.set_cons_zero, List.set_cons_succ, i64_w, i32_w]
      rfl
     refine pure_ (i := 13) (N := some 74) (v := ?_) (a' := ?_) #[true, true, true, true, true, true, true, true, true, true, true, true, true, true, false] rfl rfl (any_of HT_.out (by kernel_rfl)) (fun _ _ _ h => h) (Or.inl ⟨by rfl, ?_⟩) ?_ ?_
     rotate_left
     ·intro w'
      go_simp
      with_reducible rfl
     rotate_left
     ·simp only [Act.put, List.setIfInBounds_toArray, List.set_cons_zero, List.set_cons_succ, i64_w, i32_w]
      rfl
     refine pure_ (i := 14) (N := some 60) (v := ?_) (a' := ?_) #[true, true, true, true, true, true, true, true, true, true, true, true, true, true, true] rfl rfl (any_of HT_.out (by kernel_rfl)) (fun _ _ _ h => h) (Or.inl ⟨by rfl, ?_⟩) ?_ ?_
     rotate_left
     ·intro w'
      go_simp
      with_reducible rfl
     rotate_left
     ·simp only [Act.put, List.setIfInBounds_toArray, List.set_cons_zero, List.set_cons_succ, i64_w, i32_w]
      rfl
     refine done_ (done_of HT_.out (by kernel_rfl)) ?_
     have hcz65_0 : w62.cell? ⟨gb172, 0, none⟩ = some (.string (strOfNums y159)) := (blk_cell BK172.out 0).trans rfl
     have hcz65_1 : w62.cell? ⟨gb172, 1, none⟩ = some (.slice Ao96 y169.length co96) := (blk_cell BK172.out 1).trans rfl
     have hfz65_0 := blk_frozen BK172.out 0
     have hfz65_1 := blk_frozen BK172.out 1
     try go_wp2_with (first | ((with_reducible refine gate_builtin (b := .append) (xs := #[.tmp 76, .tmp 78]) rfl ?_); (try (refine gate_guard (by rfl) ?_; dsimp only)); at_builtin; refine Kd.S_append k46 (w0 := w) w.heap.size rfl (.tmp 76) (.tmp 78) 23 46 (.agg #[(.string ⟨#[]⟩), (.slice none 0 0)]) 40 rfl Tryd.underlying23 info46 rfl (by decide) (by omega) u3 x3_1 (⟨strOfNums y159, y169⟩ : S46) [.string (strOfNums y159), .slice Ao96 y169.length co96] (fun k_ => (w.heap.size ≤ k_) ∧ k_ ≠ gb172) (fun k_ => some k_ = (.slice Ao96 y169.length co96 : Value).ownBlock) rfl rfl ?aP (fun k_ hk_ => ((Kd.R_mono (ok' := fun k_ => ((fun k_ => (w.heap.size ≤ k_) ∧ k_ ≠ gb172)) k_ ∧ some k_ ≠ (u3 : Value).ownBlock) (Kd.R_types (Kd.R_apart' (HO171.out) (Kd.S_typed HO_3.out) (by decide)) BK172.out (by decide)) (fun k_ hk => ⟨⟨hk.1.1, hk.2⟩, hk.1.2⟩))).1 k_ hk_.symm) ?aF ?aO ?aB ?aS ?aL ?_; (case aP => exact k46_mkM _ _ _ (⟨strOfNums y159, y169⟩ : S46) (Kd.R_mono (Kd.R_tight rfl (Kd.R_mono (ok' := fun k_ => ((fun k_ => (w.heap.size ≤ k_) ∧ k_ ≠ gb172)) k_ ∧ some k_ ≠ (u3 : Value).ownBlock) (Kd.R_types (Kd.R_apart' (HO171.out) (Kd.S_typed HO_3.out) (by decide)) BK172.out (by decide)) (fun k_ hk => ⟨⟨hk.1.1, hk.2⟩, hk.1.2⟩))) (fun _ h_ => h_))); (case aB => exact (by repeat (first | (with_reducible first | exact HB.out | apply below_alloc | apply pw_below_drewN | apply below_drew1 | refine below_set ?_ GE135.out | refine below_set ?_ GE172.out) | exact HB.out))); (case aF => exact (fun k_ hk => ⟨(Nat.le_trans (below_size (by repeat (first | (with_reducible first | exact HB.out | apply below_alloc | apply pw_below_drewN | apply below_drew1 | refine below_set ?_ GE135.out | refine below_set ?_ GE172.out) | exact HB.out))) hk), Kd.freshB (g := gb172) (o := .cells #[.string (strOfNums y159), .slice Ao96 y169.length co96] 46 (0, 0)) (by (with_reducible repeat (first | refine blk_drewN ?_ _ | refine blk_drew ?_ | refine blk_alloc ?_ _)); exact BK172.out) k_ hk⟩)); (case aO => exact (by (with_reducible repeat (first | apply Kd.S_alloc | apply Kd.S_drewN | apply Kd.S_drew)); exact Kd.S_mono HO_3.out (fun k_ hk => ⟨⟨hk.1, hk.2.2⟩, fun e_ => hk.2.1 e_⟩))); (case aS => exact (below_size (by repeat (first | (with_reducible first | exact HB.out | apply below_alloc | apply pw_below_drewN | apply below_drew1 | refine below_set ?_ GE135.out | refine below_set ?_ GE172.out) | exact HB.out)))); (case aL => have := LMc43.out; omega); intro v187 w66 ho hb hg hat; rw [← Ny186.out] at ho; have n0_ := Aside0.mk (Kd.V_afterv (ok := (fun k_ => (P0_ k_ ∨ w.heap.size ≤ k_) ∧ some k_ ≠ (.slice Ao96 y169.length co96 : Value).ownBlock ∧ k_ ≠ gb135 ∧ k_ ≠ gb172)) (by (with_reducible repeat (first | apply Kd.V_alloc | apply Kd.V_drewN | apply Kd.V_drew)); exact Kd.V_mono HO_4.out (fun _ hk => ⟨⟨hk.1, ⟨hk.2.2.1, ⟨hk.2.2.2.1, hk.2.2.2.2⟩⟩⟩, hk.2.1⟩)) hg hat); have n1_ := Aside0.mk (blk_grown (g := gb135) (o := .cells #[.int .i64 x136000_1, .slice none 0 0] 25 (0, 0)) (by (with_reducible repeat (first | refine blk_drewN ?_ _ | refine blk_drew ?_ | refine blk_alloc ?_ _)); exact BK135.out) hg (Kd.S_ne HO_3.out BK135.out (by decide))); have n2_ := Aside0.mk (Kd.V_afterv (ok := (fun k_ => (P0_ k_ ∨ w.heap.size ≤ k_) ∧ some k_ ≠ (.slice Ao96 y169.length co96 : Value).ownBlock ∧ k_ ≠ gb135 ∧ k_ ≠ gb172)) (by (with_reducible repeat (first | apply Kd.V_alloc | apply Kd.V_drewN | apply Kd.V_drew)); exact Kd.V_mono HO157.out (fun _ hk => ⟨⟨hk.1, ⟨hk.2.2.1, ⟨hk.2.2.2.1, hk.2.2.2.2⟩⟩⟩, hk.2.1⟩)) hg hat); have n3_ := Aside0.mk (Kd.V_afterv (ok := (fun k_ => (P0_ k_ ∨ w.heap.size ≤ k_) ∧ some k_ ≠ (.slice Ao96 y169.length co96 : Value).ownBlock ∧ k_ ≠ gb135 ∧ k_ ≠ gb172)) (by (with_reducible repeat (first | apply Kd.V_alloc | apply Kd.V_drewN | apply Kd.V_drew)); exact Kd.V_mono HO163.out (fun _ hk => ⟨⟨hk.1, ⟨hk.2.2.1, ⟨hk.2.2.2.1, hk.2.2.2.2⟩⟩⟩, hk.2.1⟩)) hg hat); have n4_ := Aside0.mk (Kd.V_afterv (ok := (fun k_ => (P0_ k_ ∨ w.heap.size ≤ k_) ∧ some k_ ≠ (.slice Ao96 y169.length co96 : Value).ownBlock ∧ k_ ≠ gb135 ∧ k_ ≠ gb172)) (by (with_reducible repeat (first | apply Kd.V_alloc | apply Kd.V_drewN | apply Kd.V_drew)); exact Kd.V_mono HO168.out (fun _ hk => ⟨⟨hk.1, ⟨hk.2.2.1, ⟨hk.2.2.2.1, hk.2.2.2.2⟩⟩⟩, hk.2.1⟩)) hg hat); have n5_ := Aside0.mk (blk_grown (g := gb172) (o := .cells #[.string (strOfNums y159), .slice Ao96 y169.length co96] 46 (0, 0)) (by (with_reducible repeat (first | refine blk_drewN ?_ _ | refine blk_drew ?_ | refine blk_alloc ?_ _)); exact BK172.out) hg (Kd.S_away HO_3.out (fun _ hk => hk.2.2))); have n6_ := Aside0.mk (Kd.V_afterv (ok := (fun k_ => (P0_ k_ ∨ w.heap.size ≤ k_) ∧ some k_ ≠ (.slice Ao96 y169.length co96 : Value).ownBlock ∧ k_ ≠ gb135 ∧ k_ ≠ gb172)) (by (with_reducible repeat (first | apply Kd.V_alloc | apply Kd.V_drewN | apply Kd.V_drew)); exact Kd.V_mono HO178.out (fun _ hk => ⟨⟨hk.1, ⟨hk.2.2.1, ⟨hk.2.2.2.1, hk.2.2.2.2⟩⟩⟩, hk.2.1⟩)) hg hat); have n7_ := Aside0.mk (Kd.V_afterv (ok := (fun k_ => (P0_ k_ ∨ w.heap.size ≤ k_) ∧ some k_ ≠ (.slice Ao96 y169.length co96 : Value).ownBlock ∧ k_ ≠ gb135 ∧ k_ ≠ gb172)) (by (with_reducible repeat (first | apply Kd.V_alloc | apply Kd.V_drewN | apply Kd.V_drew)); exact Kd.V_mono HO184.out (fun _ hk => ⟨⟨hk.1, ⟨hk.2.2.1, ⟨hk.2.2.2.1, hk.2.2.2.2⟩⟩⟩, hk.2.1⟩)) hg hat); have n8_ := Aside0.mk (hb); have n9_ := Aside0.mk (ho); clear HO_4 BK135 HO157 HO163 HO168 BK172 HO178 HO184 HB HO_3 HO171; have HO_4 := n0_; have BK135 := n1_; have HO157 := n2_; have HO163 := n3_; have HO168 := n4_; have BK172 := n5_; have HO178 := n6_; have HO184 := n7_; have HB := n8_; have HO188 := n9_; clear n0_ n1_ n2_ n3_ n4_ n5_ n6_ n7_ n8_ n9_; clear ho hb hg hat; have q67 : ((ji44) : Int) ≤ ((x4_1.length : Int) : Int) := of_decide_eq_true (by first | (with_reducible assumption) | assumption); obtain ⟨i067, hi067, _, hsz67, _⟩ := info_parts info5; have hroom67 : x4_1.length ≤ co18 := (Kd.V_reads' HO_4.out).2.1; have hC67 : Kd.F (Kd.int .u8) _ _ Ao18 x4_1.length x4_1 := (Kd.V_at (base := w.heap.size) HO_4.out).2.2; have q067 : (0 : Int) ≤ ((ji44) : Int) := of_decide_eq_true (by first | (with_reducible assumption) | assumption); have hcut67 := cut_from (P := Tryd.prog) 22 5 .i64 Tryd.underlying22 hi067 1 hsz67 Ao18 x4_1.length co18 (ji44) q067 q67; have hr67 := Kd.F_cut (m := ((ji44) : Int).toNat) (c := co18) hC67 (by omega) hroom67; obtain ⟨A67, hA67⟩ : ∃ A1, A1 = (if co18 = ((ji44) : Int).toNat then Ao18 else (Ao18 : Option Addr).map (·.add (((ji44) : Int).toNat * 1))) := ⟨_, rfl⟩; obtain ⟨c67, hc67⟩ : ∃ c1, c1 = co18 - ((ji44) : Int).toNat := ⟨_, rfl⟩; have hy67 : y189.length = x4_1.length - ((ji44) : Int).toNat := (by rw [Ny189.out, List.length_drop] <;> omega); rw [show (x4_1).drop ((ji44) : Int).toNat = y189 from Ny189.out.symm] at hr67; replace hr67 : Kd.F (Kd.int .u8) _ _ A67 y189.length y189 := (by rw [hA67]; exact hr67); rw [← hy67, ← hA67, ← hc67] at hcut67; have HO193 := Aside0.mk (show Kd.V (Kd.int .u8) 5 _ w.heap.size _ (.slice A67 y189.length c67) y189 from Kd.V_mk (by rw [hy67, hc67]; exact Nat.sub_le_sub_right hroom67 _) hr67); have HC193 := Aside0.mk (show y189.length ≤ c67 from by rw [hy67, hc67]; exact Nat.sub_le_sub_right hroom67 _); clear hr67 hC67 hroom67 hi067 hsz67 hc67; have KY67 := Aside0.mk hy67; have KA67 := Aside0.mk hA67; clear hy67 hA67; replace q67 := eq_true q67))
     go_roundg kj16
     case measure => have := HK1.out; have := HJ16.out; omega
     case rel => exact ⟨(y186), (y189), (x136000_1), H', ⟨by have := HK1.out; have := HJ16.out; omega⟩, ⟨by (with_reducible repeat (first | apply Kd.S_alloc | apply Kd.S_drewN | apply Kd.S_drew)); exact Kd.S_mono HO188.out (fun _ hk => hk.1)⟩, ⟨by (with_reducible repeat (first | apply Kd.V_alloc | apply Kd.V_drewN | apply Kd.V_drew)); exact Kd.V_mono HO193.out (fun _ hk => ⟨hk.1.1, ⟨hk.2, hk.1.2.2.1⟩⟩)⟩, ⟨by (with_reducible repeat (first | refine blk_drewN ?_ _ | refine blk_drew ?_ | refine blk_alloc ?_ _)); exact BK135.out⟩, ⟨by repeat (first | (with_reducible first | exact HB.out | apply below_alloc | apply pw_below_drewN | apply below_drew1 | refine below_set ?_ GE135.out | refine below_set ?_ GE172.out) | exact HB.out)⟩⟩

end Go.Proofs.YtofkbjmbohgikaaDoor.PFnExactReadChunks

-- written by myprint.py (a program of this session's over the kit's print)
import Derived.Test.YtggokppfhkebkaaPFnPassesx0
import Derived.Test.YtggokppfhkebkaaPFnPassesx4
import Derived.Test.YtggokppfhkebkaaPFnPassesx5
import Derived.Test.YtggokppfhkebkaaPFnPassesx6
import Derived.Test.YtggokppfhkebkaaPFnPassesx7
import Derived.Test.YtggokppfhkebkaaPFnPassesx8
namespace Go.Proofs.Ytggokppfhkebkaa.PFnPasses
open Go.RowKit Go.Proofs.YtggokppfhkebkaaW.PrintWords Go.Proofs.YtggokppfhkebkaaW.PrintLast Go.Proofs.YtggokppfhkebkaaW.PrintMore
attribute [local go_sem] max2_int min2_int max_two min_two max_three min_three max_four min_four   -- for this text's walks alone
set_option linter.unusedVariables false
set_option linter.unusedSimpArgs false

/-! ### laws_FnPasses: function 4 -/
def laws_FnPasses.l0 : Nat → List (S31) → Int → List (S39) → Int → Int → Int → Int → Int → Int → List Int → Option (Bool)
  | 0, _, _, _, _, _, _, _, _, _, _ => none
  | k + 1, x4, x5, x25, x26, x27, x295000, x295001, x295002, x295003, x295004 => if x27 < x26 then (if 0 ≤ x27 then (if x27 < (x25.length : Int) then (if x27 ≥ (x4.length : Int) then (some false) else (if x27 < (x4.length : Int) then (if ((rd_T31 x4 x27).f0) = ((rd_T39 x25 x27).f4) then (if ((rd_T31 x4 x27).f1) = ((rd_T39 x25 x27).f5) then (laws_FnPasses.l0 k x4 (wrap64 (x5 + (wrap64 (((rd_T39 x25 x27).f4) * ((rd_T39 x25 x27).f5))))) x25 x26 (wrap64 (x27 + 1)) x295000 x295001 x295002 x295003 x295004) else (some false)) else (some false)) else (none))) else (none)) else (none)) else (if x5 = (wrap64 (x295000 * x295001)) then ((impl_Merge.f k x295000 x295001 x4).bind fun bt306 => ((laws_wImage.f k bt306.1 bt306.2.1 bt306.2.2.1 bt306.2.2.2.1 bt306.2.2.2.2 x295000 x295001 x295002 x295003 x295004).bind fun t313 => (some t313))) else (some false))
def laws_FnPasses.f (k : Nat) (l0 : List Int) : Option (Bool) := if (l0.length : Int) > 1048576 then (some true) else ((spec_DrawSplit.f k l0).bind fun bt287 => ((impl_Split.f k bt287.1 bt287.2.1 bt287.2.2.1 bt287.2.2.2.1 bt287.2.2.2.2).bind fun t295 => ((spec_GoodImage.f k bt287.1 bt287.2.1 bt287.2.2.1 bt287.2.2.2.1 bt287.2.2.2.2).bind fun t298 => (if t298 = true then ((impl_Passes.f k bt287.1 bt287.2.1).bind fun t299 => (laws_FnPasses.l0 k t295 0 t299 (t299.length : Int) 0 bt287.1 bt287.2.1 bt287.2.2.1 bt287.2.2.2.1 bt287.2.2.2.2)) else (some ((t295.length : Int) == 0))))))
theorem laws_FnPasses.mono_l : ∀ k, (∀ y0 y1 y2 y3 y4 y5 y6 y7 y8 y9, LeO (laws_FnPasses.l0 k y0 y1 y2 y3 y4 y5 y6 y7 y8 y9) (laws_FnPasses.l0 (k + 1) y0 y1 y2 y3 y4 y5 y6 y7 y8 y9))
  | 0 => fun _ _ _ _ _ _ _ _ _ _ r h => by simp [laws_FnPasses.l0] at h
  | k + 1 => by
    have ih0 := laws_FnPasses.mono_l k
    · intro y0 y1 y2 y3 y4 y5 y6 y7 y8 y9
      unfold laws_FnPasses.l0
      repeat' first
      | (with_reducible exact ih0 _ _ _ _ _ _ _ _ _ _)
      | (with_reducible exact impl_Merge.mono _ _ _ _)
      | (with_reducible exact impl_Passes.mono _ _ _)
      | (with_reducible exact impl_Split.mono _ _ _ _ _ _)
      | (with_reducible exact laws_wImage.mono _ _ _ _ _ _ _ _ _ _ _)
      | (with_reducible exact spec_DrawSplit.mono _ _)
      | (with_reducible exact spec_GoodImage.mono _ _ _ _ _ _)
      | (with_reducible exact LeO.refl _)
      | (with_reducible exact LeO.none _)
      | (with_reducible refine LeO.ite ?_ ?_)
      | (with_reducible refine LeO.bind ?_ (fun _ => ?_))
      | exact ih0 _ _ _ _ _ _ _ _ _ _
      | exact impl_Merge.mono _ _ _ _
      | exact impl_Passes.mono _ _ _
      | exact impl_Split.mono _ _ _ _ _ _
      | exact laws_wImage.mono _ _ _ _ _ _ _ _ _ _ _
      | exact spec_DrawSplit.mono _ _
      | exact spec_GoodImage.mono _ _ _ _ _ _
      | exact LeO.none _
      | refine LeO.ite ?_ ?_
      | refine LeO.bind ?_ (fun _ => ?_)
theorem laws_FnPasses.mono : ∀ a0 k, LeO (laws_FnPasses.f k a0) (laws_FnPasses.f (k + 1) a0) := by
  intro a0 k
  have ih0 := laws_FnPasses.mono_l k
  unfold laws_FnPasses.f
  repeat' first
      | (with_reducible exact ih0 _ _ _ _ _ _ _ _ _ _)
      | (with_reducible exact impl_Merge.mono _ _ _ _)
      | (with_reducible exact impl_Passes.mono _ _ _)
      | (with_reducible exact impl_Split.mono _ _ _ _ _ _)
      | (with_reducible exact laws_wImage.mono _ _ _ _ _ _ _ _ _ _ _)
      | (with_reducible exact spec_DrawSplit.mono _ _)
      | (with_reducible exact spec_GoodImage.mono _ _ _ _ _ _)
      | (with_reducible exact LeO.refl _)
      | (with_reducible exact LeO.none _)
      | (with_reducible refine LeO.ite ?_ ?_)
      | (with_reducible refine LeO.bind ?_ (fun _ => ?_))
      | exact ih0 _ _ _ _ _ _ _ _ _ _
      | exact impl_Merge.mono _ _ _ _
      | exact impl_Passes.mono _ _ _
      | exact impl_Split.mono _ _ _ _ _ _
      | exact laws_wImage.mono _ _ _ _ _ _ _ _ _ _ _
      | exact spec_DrawSplit.mono _ _
      | exact spec_GoodImage.mono _ _ _ _ _ _
      | exact LeO.none _
      | refine LeO.ite ?_ ?_
      | refine LeO.bind ?_ (fun _ => ?_)
def laws_FnPasses.T11 : Bool × List (List Nat × List Nat) := (true, [([], []), ([], []), ([1], [1]), ([0, 2], [0, 2]), ([3], [3]), ([4], [4]), ([4], [4]), ([5, 6, 4], [4, 5, 6]), ([7, 4], [4, 7]), ([8, 4], [4, 8]), ([4], [4]), ([10, 4], [4, 10]), ([9, 11, 4], [4, 9, 11]), ([4, 12], [4, 12]), ([13, 4], [13]), ([14], [14]), ([14], [14]), ([15, 16, 14], [14, 15, 16]), ([17, 14], [14, 17]), ([18, 14], [14, 18]), ([14], [14]), ([20, 14], [14, 20]), ([19, 21, 14], [14, 19, 21]), ([14, 22], [14, 22])])
def laws_FnPasses.B11 : List Nat := [0, 0, 2, 7, 15, 31, 31, 127, 255, 511, 31, 1055, 4095, 8191, 16383, 32767, 32767, 131071, 262143, 524287, 32767, 1081343, 4194303, 8388607]
theorem laws_FnPasses.tab11 : rtab .any (opsOf Try.f4 11) = laws_FnPasses.T11 := by kernel_rfl
theorem laws_FnPasses.bits11 : waitsOk laws_FnPasses.T11.2 laws_FnPasses.B11 = true := by kernel_rfl
def laws_FnPasses.T15 : Bool × List (List Nat × List Nat) := (true, [([], []), ([], []), ([1], [1]), ([], []), ([3], [3]), ([2, 4], [2, 4]), ([0, 5], [0, 5]), ([6], [6]), ([7], [7]), ([8, 7], [7, 8]), ([7], [7]), ([10, 7], [7, 10]), ([7], [7]), ([9, 11, 12, 7, 7], [7, 9, 11, 12]), ([7], [7]), ([13, 14, 13, 7], [7, 13, 14]), ([7, 15], [7, 15]), ([16, 15, 0, 1, 2, 3, 4, 5, 6, 7, 8, 9, 10, 11, 12, 13, 14, 15, 16], [16])])
def laws_FnPasses.B15 : List Nat := [0, 0, 2, 0, 8, 30, 63, 127, 255, 511, 255, 1279, 255, 8191, 255, 32767, 65535, 131071]
theorem laws_FnPasses.tab15 : rtab .any (opsOf Try.f4 15) = laws_FnPasses.T15 := by kernel_rfl
theorem laws_FnPasses.bits15 : waitsOk laws_FnPasses.T15.2 laws_FnPasses.B15 = true := by kernel_rfl
set_option maxHeartbeats 8000000 in
set_option maxRecDepth 100000 in
theorem laws_FnPasses.calls (k : Nat) (A0 : Option Addr) (c0 : Nat) (l0 : List Int) (r : Bool) (w : World) (hr0 : Kd.C (Kd.int .u8) w A0 l0.length l0) (hc0 : l0.length ≤ c0) (h : laws_FnPasses.f k l0 = some r) :
    Calls Try.prog 4 #[.slice A0 l0.length c0] w fun e w' => e = .returned (.bool r) ∧ Below w.heap.size w w' := by
  have hu31 := Try.underlying31
  have hu39 := Try.underlying39
  have HR0 := Aside0.mk hr0
  have HC0 := Aside0.mk hc0
  clear hr0 hc0
  have HB := Aside0.mk (Below.refl w.heap.size w)
  have H : (if (l0.length : Int) > 1048576 then (some true) else ((spec_DrawSplit.f k l0).bind fun bt287 => ((impl_Split.f k bt287.1 bt287.2.1 bt287.2.2.1 bt287.2.2.2.1 bt287.2.2.2.2).bind fun t295 => ((spec_GoodImage.f k bt287.1 bt287.2.1 bt287.2.2.1 bt287.2.2.2.1 bt287.2.2.2.2).bind fun t298 => (if t298 = true then ((impl_Passes.f k bt287.1 bt287.2.1).bind fun t299 => (laws_FnPasses.l0 k t295 0 t299 (t299.length : Int) 0 bt287.1 bt287.2.1 bt287.2.2.1 bt287.2.2.2.1 bt287.2.2.2.2)) else (some ((t295.length : Int) == 0))))))) = some r := h
  clear h
  by_cases c2 : (l0.length : Int) > 1048576
  · rw [if_pos c2] at H
    have c2b0 : decide (1048576 < (l0.length : Int)) = true := decide_eq_true c2
    have c2b1 : decide (1048576 < l0.length) = true := decide_eq_true (by omega)
    have c2b2 : 1048576 < l0.length := by omega
    clear c2
    obtain rfl := Option.some.inj H
    go_enter Try.func4, Try.ntmps4
    go_wp2
    go_ret
    exact ⟨by first | rfl | (simp [errW_none, errW_some] <;> rfl) | (simp [*, errW_none, errW_some] <;> rfl), by repeat (first | (with_reducible first | exact HB.out | apply below_alloc | apply pw_below_drewN | apply below_drew1) | exact HB.out)⟩
  rw [if_neg c2] at H
  have c2b0 : decide (1048576 < (l0.length : Int)) = false := decide_eq_false c2
  have c2b1 : decide (1048576 < l0.length) = false := decide_eq_false (by omega)
  have c2b2 : ¬ (1048576 < l0.length) := by omega
  clear c2
  replace H := Option.bind_eq_some_iff.mp H
  obtain ⟨⟨t287, t288, t289, t290, t291⟩, A30, H⟩ := H
  replace H : ((impl_Split.f k t287 t288 t289 t290 t291).bind fun t295 => ((spec_GoodImage.f k t287 t288 t289 t290 t291).bind fun t298 => (if t298 = true then ((impl_Passes.f k t287 t288).bind fun t299 => (laws_FnPasses.l0 k t295 0 t299 (t299.length : Int) 0 t287 t288 t289 t290 t291)) else (some ((t295.length : Int) == 0))))) = some r := H
  have A3 := Aside0.mk A30
  clear A30
  replace H := Option.bind_eq_some_iff.mp H
  obtain ⟨t295, A40, H⟩ := H
  replace H : ((spec_GoodImage.f k t287 t288 t289 t290 t291).bind fun t298 => (if t298 = true then ((impl_Passes.f k t287 t288).bind fun t299 => (laws_FnPasses.l0 k t295 0 t299 (t299.length : Int) 0 t287 t288 t289 t290 t291)) else (some ((t295.length : Int) == 0)))) = some r := H
  have A4 := Aside0.mk A40
  clear A40
  replace H := Option.bind_eq_some_iff.mp H
  obtain ⟨t298, A50, H⟩ := H
  replace H : (if t298 = true then ((impl_Passes.f k t287 t288).bind fun t299 => (laws_FnPasses.l0 k t295 0 t299 (t299.length : Int) 0 t287 t288 t289 t290 t291)) else (some ((t295.length : Int) == 0))) = some r := H
  have A5 := Aside0.mk A50
  clear A50
  by_cases c6 : t298 = true
  rotate_left
  · replace c6 := Bool.eq_false_iff.mpr c6
    subst c6
    have H1 : (some ((t295.length : Int) == 0)) = some r := by rw [if_neg (show ¬ (false = true) by decide)] at H; exact H
    clear H
    have H := H1
    clear H1
    obtain rfl := Option.some.inj H
    go_enter Try.func4, Try.ntmps4
    go_wp2_with (first | ((with_reducible refine gate_callee (f := 21) rfl ?_); refine goesL_ (some 12) rfl rfl Try.func21 (by kernel_rfl) rfl #[.slice A0 l0.length c0] rfl (by (try simp only [List.map_toArray, List.map_cons, List.map_nil]); first | done | rfl | (simp only [List.length_drop, List.length_take]; rfl)) ?_; (with_reducible refine (spec_DrawSplit.calls k _ _ l0 t287 t288 t289 t290 t291 _ ?side1 ?side2 A3.out).mono ?_); (case side1 => repeat (first | exact HR0.out | (with_reducible refine Kd.C_alloc ?_ _) | (with_reducible refine Kd.C_drewN ?_ _) | (with_reducible refine Kd.C_drew ?_))); (case side2 => exact HC0.out); rintro e w59 ⟨v292, rfl, ho0, hb⟩; refine ⟨_, rfl, ?_⟩; have n0_ := Aside0.mk (Kd.R_lower ho0 (below_size (by repeat (first | (with_reducible first | exact HB.out | apply below_alloc | apply pw_below_drewN | apply below_drew1) | exact HB.out)))); have n1_ := Aside0.mk (below_step (by repeat (first | (with_reducible first | exact HB.out | apply below_alloc | apply pw_below_drewN | apply below_drew1) | exact HB.out)) hb); clear HB; have HO293 := n0_; have HB := n1_; clear n0_ n1_; (try clear hb); (try clear hb2); (try clear hk); (try clear hi); (try clear ho0)) | ((with_reducible refine gate_dst (N := 3) rfl ?_); refine box_event ?hg (N := 3) ?hd (cs := #[.int .i64 0, .int .i64 0, .int .i64 0, .int .i64 0, .slice none 0 0]) (t := 31) ?hr ?_; (case hd => rfl); (case hg => rfl); (case hr => first | (go_simp; done) | (go_simp; rfl)); intro gb294 hg w60 hbox hb; have n0_ := Aside0.mk (Kd.R_below (by (with_reducible repeat (first | apply Kd.R_alloc | apply Kd.R_drewN | apply Kd.R_drew)); exact HO293.out) hb); have n1_ := Aside0.mk (below_step (by repeat (first | (with_reducible first | exact HB.out | apply below_alloc | apply pw_below_drewN | apply below_drew1) | exact HB.out)) hb); have n2_ := Aside0.mk (hbox); have n3_ := Aside0.mk ((by rw [hg]; exact (below_size (by repeat (first | (with_reducible first | exact HB.out | apply below_alloc | apply pw_below_drewN | apply below_drew1) | exact HB.out))) : w.heap.size ≤ gb294)); have n4_ := n3_; clear HO293; clear HB; have HO293 := n0_; have HB := n1_; have BK294 := n2_; have GW294 := n3_; have GE294 := n4_; clear n0_ n1_ n2_ n3_ n4_; clear hb hbox hg; have hcz61_0 : w60.cell? ⟨gb294, 0, none⟩ = some (.int .i64 0) := (blk_cell BK294.out 0).trans rfl; have hcz61_1 : w60.cell? ⟨gb294, 1, none⟩ = some (.int .i64 0) := (blk_cell BK294.out 1).trans rfl; have hcz61_2 : w60.cell? ⟨gb294, 2, none⟩ = some (.int .i64 0) := (blk_cell BK294.out 2).trans rfl; have hcz61_3 : w60.cell? ⟨gb294, 3, none⟩ = some (.int .i64 0) := (blk_cell BK294.out 3).trans rfl; have hcz61_4 : w60.cell? ⟨gb294, 4, none⟩ = some (.slice none 0 0) := (blk_cell BK294.out 4).trans rfl; have hfz61_0 := blk_frozen BK294.out 0; have hfz61_1 := blk_frozen BK294.out 1; have hfz61_2 := blk_frozen BK294.out 2; have hfz61_3 := blk_frozen BK294.out 3; have hfz61_4 := blk_frozen BK294.out 4; obtain ⟨Ao62, co62, eo62⟩ := Kd.R_slice HO293.out; subst eo62) | ((with_reducible refine gate_callee (f := 22) rfl ?_); refine goesL_ (some 14) rfl rfl Try.func22 (by kernel_rfl) rfl #[.agg #[.int .i64 t287, .int .i64 t288, .int .i64 t289, .int .i64 t290, .slice Ao62 t291.length co62]] rfl (by (try simp only [List.map_toArray, List.map_cons, List.map_nil]); first | done | rfl | (simp only [List.length_drop, List.length_take]; rfl)) ?_; (with_reducible refine (impl_Split.calls k t287 t288 t289 t290 _ _ t291 t295 _ ?side1 ?side2 A4.out).mono ?_); (case side1 => refine (Kd.R_reads' (e := 3) (base := w.heap.size) (ok := fun k_ => True) (n := t291.length) (c := co62) ?_).2.2; exact (by (with_reducible repeat (first | apply Kd.R_alloc | apply Kd.R_drewN | apply Kd.R_drew)); exact (Kd.R_mono (Kd.R_far (p := ⟨gb294, 4, none⟩) (Kd.R_far (p := ⟨gb294, 3, none⟩) (Kd.R_far (p := ⟨gb294, 2, none⟩) (Kd.R_far (p := ⟨gb294, 1, none⟩) (Kd.R_far (p := ⟨gb294, 0, none⟩) (Kd.R_types HO293.out BK294.out (by decide)) (fun _ hk => hk.2) (.int .i64 t287)) (fun _ hk => hk.2) (.int .i64 t288)) (fun _ hk => hk.2) (.int .i64 t289)) (fun _ hk => hk.2) (.int .i64 t290)) (fun _ hk => hk.2) (.slice Ao62 t291.length co62)) (fun _ h_ => h_.1)))); (case side2 => exact (Kd.R_reads' HO293.out).2.1); rintro e w63 ⟨v296, rfl, ho0, hb⟩; refine ⟨_, rfl, ?_⟩; have n0_ := Aside0.mk (Kd.R_below (by (with_reducible repeat (first | apply Kd.R_alloc | apply Kd.R_drewN | apply Kd.R_drew)); exact (Kd.R_mono (Kd.R_far (p := ⟨gb294, 4, none⟩) (Kd.R_far (p := ⟨gb294, 3, none⟩) (Kd.R_far (p := ⟨gb294, 2, none⟩) (Kd.R_far (p := ⟨gb294, 1, none⟩) (Kd.R_far (p := ⟨gb294, 0, none⟩) (Kd.R_types HO293.out BK294.out (by decide)) (fun _ hk => hk.2) (.int .i64 t287)) (fun _ hk => hk.2) (.int .i64 t288)) (fun _ hk => hk.2) (.int .i64 t289)) (fun _ hk => hk.2) (.int .i64 t290)) (fun _ hk => hk.2) (.slice Ao62 t291.length co62)) (fun _ h_ => h_.1))) hb); have n1_ := Aside0.mk (Kd.S_lower (Kd.S_newB (Kd.S_new' ho0 (Kd.R_lt (by (with_reducible repeat (first | apply Kd.R_alloc | apply Kd.R_drewN | apply Kd.R_drew)); exact (Kd.R_mono (Kd.R_far (p := ⟨gb294, 4, none⟩) (Kd.R_far (p := ⟨gb294, 3, none⟩) (Kd.R_far (p := ⟨gb294, 2, none⟩) (Kd.R_far (p := ⟨gb294, 1, none⟩) (Kd.R_far (p := ⟨gb294, 0, none⟩) (Kd.R_types HO293.out BK294.out (by decide)) (fun _ hk => hk.2) (.int .i64 t287)) (fun _ hk => hk.2) (.int .i64 t288)) (fun _ hk => hk.2) (.int .i64 t289)) (fun _ hk => hk.2) (.int .i64 t290)) (fun _ hk => hk.2) (.slice Ao62 t291.length co62)) (fun _ h_ => h_.1))))) (g := gb294) (o := .cells #[.int .i64 t287, .int .i64 t288, .int .i64 t289, .int .i64 t290, .slice Ao62 t291.length co62] 31 (0, 0)) (by (with_reducible repeat (first | refine blk_drewN ?_ _ | refine blk_drew ?_ | refine blk_alloc ?_ _)); refine blk_put (cs := #[.int .i64 t287, .int .i64 t288, .int .i64 t289, .int .i64 t290, .slice none 0 0]) ?_ 4 _ rfl; (with_reducible repeat (first | refine blk_drewN ?_ _ | refine blk_drew ?_ | refine blk_alloc ?_ _)); refine blk_put (cs := #[.int .i64 t287, .int .i64 t288, .int .i64 t289, .int .i64 0, .slice none 0 0]) ?_ 3 _ rfl; (with_reducible repeat (first | refine blk_drewN ?_ _ | refine blk_drew ?_ | refine blk_alloc ?_ _)); refine blk_put (cs := #[.int .i64 t287, .int .i64 t288, .int .i64 0, .int .i64 0, .slice none 0 0]) ?_ 2 _ rfl; (with_reducible repeat (first | refine blk_drewN ?_ _ | refine blk_drew ?_ | refine blk_alloc ?_ _)); refine blk_put (cs := #[.int .i64 t287, .int .i64 0, .int .i64 0, .int .i64 0, .slice none 0 0]) ?_ 1 _ rfl; (with_reducible repeat (first | refine blk_drewN ?_ _ | refine blk_drew ?_ | refine blk_alloc ?_ _)); refine blk_put (cs := #[.int .i64 0, .int .i64 0, .int .i64 0, .int .i64 0, .slice none 0 0]) ?_ 0 _ rfl; (with_reducible repeat (first | refine blk_drewN ?_ _ | refine blk_drew ?_ | refine blk_alloc ?_ _)); exact BK294.out)) (below_size (by repeat (first | (with_reducible first | exact HB.out | apply below_alloc | apply pw_below_drewN | apply below_drew1 | refine below_set ?_ GE294.out) | exact HB.out)))); have n2_ := Aside0.mk (blk_below (g := gb294) (o := .cells #[.int .i64 t287, .int .i64 t288, .int .i64 t289, .int .i64 t290, .slice Ao62 t291.length co62] 31 (0, 0)) (by (with_reducible repeat (first | refine blk_drewN ?_ _ | refine blk_drew ?_ | refine blk_alloc ?_ _)); refine blk_put (cs := #[.int .i64 t287, .int .i64 t288, .int .i64 t289, .int .i64 t290, .slice none 0 0]) ?_ 4 _ rfl; (with_reducible repeat (first | refine blk_drewN ?_ _ | refine blk_drew ?_ | refine blk_alloc ?_ _)); refine blk_put (cs := #[.int .i64 t287, .int .i64 t288, .int .i64 t289, .int .i64 0, .slice none 0 0]) ?_ 3 _ rfl; (with_reducible repeat (first | refine blk_drewN ?_ _ | refine blk_drew ?_ | refine blk_alloc ?_ _)); refine blk_put (cs := #[.int .i64 t287, .int .i64 t288, .int .i64 0, .int .i64 0, .slice none 0 0]) ?_ 2 _ rfl; (with_reducible repeat (first | refine blk_drewN ?_ _ | refine blk_drew ?_ | refine blk_alloc ?_ _)); refine blk_put (cs := #[.int .i64 t287, .int .i64 0, .int .i64 0, .int .i64 0, .slice none 0 0]) ?_ 1 _ rfl; (with_reducible repeat (first | refine blk_drewN ?_ _ | refine blk_drew ?_ | refine blk_alloc ?_ _)); refine blk_put (cs := #[.int .i64 0, .int .i64 0, .int .i64 0, .int .i64 0, .slice none 0 0]) ?_ 0 _ rfl; (with_reducible repeat (first | refine blk_drewN ?_ _ | refine blk_drew ?_ | refine blk_alloc ?_ _)); exact BK294.out) hb); have n3_ := Aside0.mk (below_step (by repeat (first | (with_reducible first | exact HB.out | apply below_alloc | apply pw_below_drewN | apply below_drew1 | refine below_set ?_ GE294.out) | exact HB.out)) hb); clear HO293; clear BK294; clear HB; have HO293 := n0_; have HO297 := n1_; have BK294 := n2_; have HB := n3_; clear n0_ n1_ n2_ n3_; (try clear hb); (try clear hb2); (try clear hk); (try clear hi); (try clear ho0); have hcz64_0 : w63.cell? ⟨gb294, 0, none⟩ = some (.int .i64 t287) := (blk_cell BK294.out 0).trans rfl; have hcz64_1 : w63.cell? ⟨gb294, 1, none⟩ = some (.int .i64 t288) := (blk_cell BK294.out 1).trans rfl; have hcz64_2 : w63.cell? ⟨gb294, 2, none⟩ = some (.int .i64 t289) := (blk_cell BK294.out 2).trans rfl; have hcz64_3 : w63.cell? ⟨gb294, 3, none⟩ = some (.int .i64 t290) := (blk_cell BK294.out 3).trans rfl; have hcz64_4 : w63.cell? ⟨gb294, 4, none⟩ = some (.slice Ao62 t291.length co62) := (blk_cell BK294.out 4).trans rfl; have hfz64_0 := blk_frozen BK294.out 0; have hfz64_1 := blk_frozen BK294.out 1; have hfz64_2 := blk_frozen BK294.out 2; have hfz64_3 := blk_frozen BK294.out 3; have hfz64_4 := blk_frozen BK294.out 4) | ((with_reducible refine gate_callee (f := 23) rfl ?_); refine goesL_ (some 16) rfl rfl Try.func23 (by kernel_rfl) rfl #[.agg #[.int .i64 t287, .int .i64 t288, .int .i64 t289, .int .i64 t290, .slice Ao62 t291.length co62]] rfl (by (try simp only [List.map_toArray, List.map_cons, List.map_nil]); first | done | rfl | (simp only [List.length_drop, List.length_take]; rfl)) ?_; (with_reducible refine (spec_GoodImage.calls k t287 t288 t289 t290 _ _ t291 false _ ?side1 ?side2 A5.out).mono ?_); (case side1 => repeat (first | exact (Kd.R_reads' HO293.out).2.2 | (with_reducible refine Kd.C_alloc ?_ _) | (with_reducible refine Kd.C_drewN ?_ _) | (with_reducible refine Kd.C_drew ?_))); (case side2 => exact (Kd.R_reads' HO293.out).2.1); rintro e w65 ⟨rfl, hb⟩; refine ⟨_, rfl, ?_⟩; have n0_ := Aside0.mk (Kd.R_below (by (with_reducible repeat (first | apply Kd.R_alloc | apply Kd.R_drewN | apply Kd.R_drew)); exact HO293.out) hb); have n1_ := Aside0.mk (Kd.S_below (by (with_reducible repeat (first | apply Kd.S_alloc | apply Kd.S_drewN | apply Kd.S_drew)); exact HO297.out) hb); have n2_ := Aside0.mk (blk_below (g := gb294) (o := .cells #[.int .i64 t287, .int .i64 t288, .int .i64 t289, .int .i64 t290, .slice Ao62 t291.length co62] 31 (0, 0)) (by (with_reducible repeat (first | refine blk_drewN ?_ _ | refine blk_drew ?_ | refine blk_alloc ?_ _)); exact BK294.out) hb); have n3_ := Aside0.mk (below_step (by repeat (first | (with_reducible first | exact HB.out | apply below_alloc | apply pw_below_drewN | apply below_drew1 | refine below_set ?_ GE294.out) | exact HB.out)) hb); clear HO293; clear HO297; clear BK294; clear HB; have HO293 := n0_; have HO297 := n1_; have BK294 := n2_; have HB := n3_; clear n0_ n1_ n2_ n3_; (try clear hb); (try clear hb2); (try clear hk); (try clear hi); obtain ⟨Ao66, co66, eo66⟩ := Kd.S_slice HO297.out; subst eo66))
    go_ret
    exact ⟨by first | rfl | (simp [errW_none, errW_some] <;> rfl) | (simp [*, errW_none, errW_some] <;> rfl), by repeat (first | (with_reducible first | exact HB.out | apply below_alloc | apply pw_below_drewN | apply below_drew1 | refine below_set ?_ GE294.out) | exact HB.out)⟩
  subst c6
  have H1 : ((impl_Passes.f k t287 t288).bind fun t299 => (laws_FnPasses.l0 k t295 0 t299 (t299.length : Int) 0 t287 t288 t289 t290 t291)) = some r := by rw [if_pos rfl] at H; exact H
  clear H
  have H := H1
  clear H1
  replace H := Option.bind_eq_some_iff.mp H
  obtain ⟨t299, A70, H⟩ := H
  replace H : (laws_FnPasses.l0 k t295 0 t299 (t299.length : Int) 0 t287 t288 t289 t290 t291) = some r := H
  have A7 := Aside0.mk A70
  clear A70
  have H' := Aside0.mk H
  clear H
  go_enter Try.func4, Try.ntmps4
  go_wp2_with (first | ((with_reducible refine gate_callee (f := 21) rfl ?_); refine goesL_ (some 12) rfl rfl Try.func21 (by kernel_rfl) rfl #[.slice A0 l0.length c0] rfl (by (try simp only [List.map_toArray, List.map_cons, List.map_nil]); first | done | rfl | (simp only [List.length_drop, List.length_take]; rfl)) ?_; (with_reducible refine (spec_DrawSplit.calls k _ _ l0 t287 t288 t289 t290 t291 _ ?side1 ?side2 A3.out).mono ?_); (case side1 => repeat (first | exact HR0.out | (with_reducible refine Kd.C_alloc ?_ _) | (with_reducible refine Kd.C_drewN ?_ _) | (with_reducible refine Kd.C_drew ?_))); (case side2 => exact HC0.out); rintro e w8 ⟨v292, rfl, ho0, hb⟩; refine ⟨_, rfl, ?_⟩; have n0_ := Aside0.mk (Kd.R_lower ho0 (below_size (by repeat (first | (with_reducible first | exact HB.out | apply below_alloc | apply pw_below_drewN | apply below_drew1) | exact HB.out)))); have n1_ := Aside0.mk (below_step (by repeat (first | (with_reducible first | exact HB.out | apply below_alloc | apply pw_below_drewN | apply below_drew1) | exact HB.out)) hb); clear HB; have HO293 := n0_; have HB := n1_; clear n0_ n1_; (try clear hb); (try clear hb2); (try clear hk); (try clear hi); (try clear ho0)) | ((with_reducible refine gate_dst (N := 3) rfl ?_); refine box_event ?hg (N := 3) ?hd (cs := #[.int .i64 0, .int .i64 0, .int .i64 0, .int .i64 0, .slice none 0 0]) (t := 31) ?hr ?_; (case hd => rfl); (case hg => rfl); (case hr => first | (go_simp; done) | (go_simp; rfl)); intro gb294 hg w9 hbox hb; have n0_ := Aside0.mk (Kd.R_below (by (with_reducible repeat (first | apply Kd.R_alloc | apply Kd.R_drewN | apply Kd.R_drew)); exact HO293.out) hb); have n1_ := Aside0.mk (below_step (by repeat (first | (with_reducible first | exact HB.out | apply below_alloc | apply pw_below_drewN | apply below_drew1) | exact HB.out)) hb); have n2_ := Aside0.mk (hbox); have n3_ := Aside0.mk ((by rw [hg]; exact (below_size (by repeat (first | (with_reducible first | exact HB.out | apply below_alloc | apply pw_below_drewN | apply below_drew1) | exact HB.out))) : w.heap.size ≤ gb294)); have n4_ := n3_; clear HO293; clear HB; have HO293 := n0_; have HB := n1_; have BK294 := n2_; have GW294 := n3_; have GE294 := n4_; clear n0_ n1_ n2_ n3_ n4_; clear hb hbox hg; have hcz10_0 : w9.cell? ⟨gb294, 0, none⟩ = some (.int .i64 0) := (blk_cell BK294.out 0).trans rfl; have hcz10_1 : w9.cell? ⟨gb294, 1, none⟩ = some (.int .i64 0) := (blk_cell BK294.out 1).trans rfl; have hcz10_2 : w9.cell? ⟨gb294, 2, none⟩ = some (.int .i64 0) := (blk_cell BK294.out 2).trans rfl; have hcz10_3 : w9.cell? ⟨gb294, 3, none⟩ = some (.int .i64 0) := (blk_cell BK294.out 3).trans rfl; have hcz10_4 : w9.cell? ⟨gb294, 4, none⟩ = some (.slice none 0 0) := (blk_cell BK294.out 4).trans rfl; have hfz10_0 := blk_frozen BK294.out 0; have hfz10_1 := blk_frozen BK294.out 1; have hfz10_2 := blk_frozen BK294.out 2; have hfz10_3 := blk_frozen BK294.out 3; have hfz10_4 := blk_frozen BK294.out 4; obtain ⟨Ao11, co11, eo11⟩ := Kd.R_slice HO293.out; subst eo11) | ((with_reducible refine gate_callee (f := 22) rfl ?_); refine goesL_ (some 14) rfl rfl Try.func22 (by kernel_rfl) rfl #[.agg #[.int .i64 t287, .int .i64 t288, .int .i64 t289, .int .i64 t290, .slice Ao11 t291.length co11]] rfl (by (try simp only [List.map_toArray, List.map_cons, List.map_nil]); first | done | rfl | (simp only [List.length_drop, List.length_take]; rfl)) ?_; (with_reducible refine (impl_Split.calls k t287 t288 t289 t290 _ _ t291 t295 _ ?side1 ?side2 A4.out).mono ?_); (case side1 => refine (Kd.R_reads' (e := 3) (base := w.heap.size) (ok := fun k_ => True) (n := t291.length) (c := co11) ?_).2.2; exact (by (with_reducible repeat (first | apply Kd.R_alloc | apply Kd.R_drewN | apply Kd.R_drew)); exact (Kd.R_mono (Kd.R_far (p := ⟨gb294, 4, none⟩) (Kd.R_far (p := ⟨gb294, 3, none⟩) (Kd.R_far (p := ⟨gb294, 2, none⟩) (Kd.R_far (p := ⟨gb294, 1, none⟩) (Kd.R_far (p := ⟨gb294, 0, none⟩) (Kd.R_types HO293.out BK294.out (by decide)) (fun _ hk => hk.2) (.int .i64 t287)) (fun _ hk => hk.2) (.int .i64 t288)) (fun _ hk => hk.2) (.int .i64 t289)) (fun _ hk => hk.2) (.int .i64 t290)) (fun _ hk => hk.2) (.slice Ao11 t291.length co11)) (fun _ h_ => h_.1)))); (case side2 => exact (Kd.R_reads' HO293.out).2.1); rintro e w12 ⟨v296, rfl, ho0, hb⟩; refine ⟨_, rfl, ?_⟩; have n0_ := Aside0.mk (Kd.R_below (by (with_reducible repeat (first | apply Kd.R_alloc | apply Kd.R_drewN | apply Kd.R_drew)); exact (Kd.R_mono (Kd.R_far (p := ⟨gb294, 4, none⟩) (Kd.R_far (p := ⟨gb294, 3, none⟩) (Kd.R_far (p := ⟨gb294, 2, none⟩) (Kd.R_far (p := ⟨gb294, 1, none⟩) (Kd.R_far (p := ⟨gb294, 0, none⟩) (Kd.R_types HO293.out BK294.out (by decide)) (fun _ hk => hk.2) (.int .i64 t287)) (fun _ hk => hk.2) (.int .i64 t288)) (fun _ hk => hk.2) (.int .i64 t289)) (fun _ hk => hk.2) (.int .i64 t290)) (fun _ hk => hk.2) (.slice Ao11 t291.length co11)) (fun _ h_ => h_.1))) hb); have n1_ := Aside0.mk (Kd.S_lower (Kd.S_newB (Kd.S_new' ho0 (Kd.R_lt (by (with_reducible repeat (first | apply Kd.R_alloc | apply Kd.R_drewN | apply Kd.R_drew)); exact (Kd.R_mono (Kd.R_far (p := ⟨gb294, 4, none⟩) (Kd.R_far (p := ⟨gb294, 3, none⟩) (Kd.R_far (p := ⟨gb294, 2, none⟩) (Kd.R_far (p := ⟨gb294, 1, none⟩) (Kd.R_far (p := ⟨gb294, 0, none⟩) (Kd.R_types HO293.out BK294.out (by decide)) (fun _ hk => hk.2) (.int .i64 t287)) (fun _ hk => hk.2) (.int .i64 t288)) (fun _ hk => hk.2) (.int .i64 t289)) (fun _ hk => hk.2) (.int .i64 t290)) (fun _ hk => hk.2) (.slice Ao11 t291.length co11)) (fun _ h_ => h_.1))))) (g := gb294) (o := .cells #[.int .i64 t287, .int .i64 t288, .int .i64 t289, .int .i64 t290, .slice Ao11 t291.length co11] 31 (0, 0)) (by (with_reducible repeat (first | refine blk_drewN ?_ _ | refine blk_drew ?_ | refine blk_alloc ?_ _)); refine blk_put (cs := #[.int .i64 t287, .int .i64 t288, .int .i64 t289, .int .i64 t290, .slice none 0 0]) ?_ 4 _ rfl; (with_reducible repeat (first | refine blk_drewN ?_ _ | refine blk_drew ?_ | refine blk_alloc ?_ _)); refine blk_put (cs := #[.int .i64 t287, .int .i64 t288, .int .i64 t289, .int .i64 0, .slice none 0 0]) ?_ 3 _ rfl; (with_reducible repeat (first | refine blk_drewN ?_ _ | refine blk_drew ?_ | refine blk_alloc ?_ _)); refine blk_put (cs := #[.int .i64 t287, .int .i64 t288, .int .i64 0, .int .i64 0, .slice none 0 0]) ?_ 2 _ rfl; (with_reducible repeat (first | refine blk_drewN ?_ _ | refine blk_drew ?_ | refine blk_alloc ?_ _)); refine blk_put (cs := #[.int .i64 t287, .int .i64 0, .int .i64 0, .int .i64 0, .slice none 0 0]) ?_ 1 _ rfl; (with_reducible repeat (first | refine blk_drewN ?_ _ | refine blk_drew ?_ | refine blk_alloc ?_ _)); refine blk_put (cs := #[.int .i64 0, .int .i64 0, .int .i64 0, .int .i64 0, .slice none 0 0]) ?_ 0 _ rfl; (with_reducible repeat (first | refine blk_drewN ?_ _ | refine blk_drew ?_ | refine blk_alloc ?_ _)); exact BK294.out)) (below_size (by repeat (first | (with_reducible first | exact HB.out | apply below_alloc | apply pw_below_drewN | apply below_drew1 | refine below_set ?_ GE294.out) | exact HB.out)))); have n2_ := Aside0.mk (blk_below (g := gb294) (o := .cells #[.int .i64 t287, .int .i64 t288, .int .i64 t289, .int .i64 t290, .slice Ao11 t291.length co11] 31 (0, 0)) (by (with_reducible repeat (first | refine blk_drewN ?_ _ | refine blk_drew ?_ | refine blk_alloc ?_ _)); refine blk_put (cs := #[.int .i64 t287, .int .i64 t288, .int .i64 t289, .int .i64 t290, .slice none 0 0]) ?_ 4 _ rfl; (with_reducible repeat (first | refine blk_drewN ?_ _ | refine blk_drew ?_ | refine blk_alloc ?_ _)); refine blk_put (cs := #[.int .i64 t287, .int .i64 t288, .int .i64 t289, .int .i64 0, .slice none 0 0]) ?_ 3 _ rfl; (with_reducible repeat (first | refine blk_drewN ?_ _ | refine blk_drew ?_ | refine blk_alloc ?_ _)); refine blk_put (cs := #[.int .i64 t287, .int .i64 t288, .int .i64 0, .int .i64 0, .slice none 0 0]) ?_ 2 _ rfl; (with_reducible repeat (first | refine blk_drewN ?_ _ | refine blk_drew ?_ | refine blk_alloc ?_ _)); refine blk_put (cs := #[.int .i64 t287, .int .i64 0, .int .i64 0, .int .i64 0, .slice none 0 0]) ?_ 1 _ rfl; (with_reducible repeat (first | refine blk_drewN ?_ _ | refine blk_drew ?_ | refine blk_alloc ?_ _)); refine blk_put (cs := #[.int .i64 0, .int .i64 0, .int .i64 0, .int .i64 0, .slice none 0 0]) ?_ 0 _ rfl; (with_reducible repeat (first | refine blk_drewN ?_ _ | refine blk_drew ?_ | refine blk_alloc ?_ _)); exact BK294.out) hb); have n3_ := Aside0.mk (below_step (by repeat (first | (with_reducible first | exact HB.out | apply below_alloc | apply pw_below_drewN | apply below_drew1 | refine below_set ?_ GE294.out) | exact HB.out)) hb); clear HO293; clear BK294; clear HB; have HO293 := n0_; have HO297 := n1_; have BK294 := n2_; have HB := n3_; clear n0_ n1_ n2_ n3_; (try clear hb); (try clear hb2); (try clear hk); (try clear hi); (try clear ho0); have hcz13_0 : w12.cell? ⟨gb294, 0, none⟩ = some (.int .i64 t287) := (blk_cell BK294.out 0).trans rfl; have hcz13_1 : w12.cell? ⟨gb294, 1, none⟩ = some (.int .i64 t288) := (blk_cell BK294.out 1).trans rfl; have hcz13_2 : w12.cell? ⟨gb294, 2, none⟩ = some (.int .i64 t289) := (blk_cell BK294.out 2).trans rfl; have hcz13_3 : w12.cell? ⟨gb294, 3, none⟩ = some (.int .i64 t290) := (blk_cell BK294.out 3).trans rfl; have hcz13_4 : w12.cell? ⟨gb294, 4, none⟩ = some (.slice Ao11 t291.length co11) := (blk_cell BK294.out 4).trans rfl; have hfz13_0 := blk_frozen BK294.out 0; have hfz13_1 := blk_frozen BK294.out 1; have hfz13_2 := blk_frozen BK294.out 2; have hfz13_3 := blk_frozen BK294.out 3; have hfz13_4 := blk_frozen BK294.out 4) | ((with_reducible refine gate_callee (f := 23) rfl ?_); refine goesL_ (some 16) rfl rfl Try.func23 (by kernel_rfl) rfl #[.agg #[.int .i64 t287, .int .i64 t288, .int .i64 t289, .int .i64 t290, .slice Ao11 t291.length co11]] rfl (by (try simp only [List.map_toArray, List.map_cons, List.map_nil]); first | done | rfl | (simp only [List.length_drop, List.length_take]; rfl)) ?_; (with_reducible refine (spec_GoodImage.calls k t287 t288 t289 t290 _ _ t291 true _ ?side1 ?side2 A5.out).mono ?_); (case side1 => repeat (first | exact (Kd.R_reads' HO293.out).2.2 | (with_reducible refine Kd.C_alloc ?_ _) | (with_reducible refine Kd.C_drewN ?_ _) | (with_reducible refine Kd.C_drew ?_))); (case side2 => exact (Kd.R_reads' HO293.out).2.1); rintro e w14 ⟨rfl, hb⟩; refine ⟨_, rfl, ?_⟩; have n0_ := Aside0.mk (Kd.R_below (by (with_reducible repeat (first | apply Kd.R_alloc | apply Kd.R_drewN | apply Kd.R_drew)); exact HO293.out) hb); have n1_ := Aside0.mk (Kd.S_below (by (with_reducible repeat (first | apply Kd.S_alloc | apply Kd.S_drewN | apply Kd.S_drew)); exact HO297.out) hb); have n2_ := Aside0.mk (blk_below (g := gb294) (o := .cells #[.int .i64 t287, .int .i64 t288, .int .i64 t289, .int .i64 t290, .slice Ao11 t291.length co11] 31 (0, 0)) (by (with_reducible repeat (first | refine blk_drewN ?_ _ | refine blk_drew ?_ | refine blk_alloc ?_ _)); exact BK294.out) hb); have n3_ := Aside0.mk (below_step (by repeat (first | (with_reducible first | exact HB.out | apply below_alloc | apply pw_below_drewN | apply below_drew1 | refine below_set ?_ GE294.out) | exact HB.out)) hb); clear HO293; clear HO297; clear BK294; clear HB; have HO293 := n0_; have HO297 := n1_; have BK294 := n2_; have HB := n3_; clear n0_ n1_ n2_ n3_; (try clear hb); (try clear hb2); (try clear hk); (try clear hi); have hcz15_0 : w14.cell? ⟨gb294, 0, none⟩ = some (.int .i64 t287) := (blk_cell BK294.out 0).trans rfl; have hcz15_1 : w14.cell? ⟨gb294, 1, none⟩ = some (.int .i64 t288) := (blk_cell BK294.out 1).trans rfl; have hcz15_2 : w14.cell? ⟨gb294, 2, none⟩ = some (.int .i64 t289) := (blk_cell BK294.out 2).trans rfl; have hcz15_3 : w14.cell? ⟨gb294, 3, none⟩ = some (.int .i64 t290) := (blk_cell BK294.out 3).trans rfl; have hcz15_4 : w14.cell? ⟨gb294, 4, none⟩ = some (.slice Ao11 t291.length co11) := (blk_cell BK294.out 4).trans rfl; have hfz15_0 := blk_frozen BK294.out 0; have hfz15_1 := blk_frozen BK294.out 1; have hfz15_2 := blk_frozen BK294.out 2; have hfz15_3 := blk_frozen BK294.out 3; have hfz15_4 := blk_frozen BK294.out 4) | ((with_reducible refine gate_callee (f := 24) rfl ?_); refine goesL_ (some 25) rfl rfl Try.func24 (by kernel_rfl) rfl #[.int .i64 t287, .int .i64 t288] rfl (by (try simp only [List.map_toArray, List.map_cons, List.map_nil]); first | done | rfl | (simp only [List.length_drop, List.length_take]; rfl)) ?_; (with_reducible refine (impl_Passes.calls k t287 t288 t299 _ A7.out).mono ?_); rintro e w16 ⟨v300, rfl, ho0, hb⟩; refine ⟨_, rfl, ?_⟩; have n0_ := Aside0.mk (Kd.R_below (by (with_reducible repeat (first | apply Kd.R_alloc | apply Kd.R_drewN | apply Kd.R_drew)); exact HO293.out) hb); have n1_ := Aside0.mk (Kd.S_below (by (with_reducible repeat (first | apply Kd.S_alloc | apply Kd.S_drewN | apply Kd.S_drew)); exact HO297.out) hb); have n2_ := Aside0.mk (Kd.R_lower ho0 (below_size (by repeat (first | (with_reducible first | exact HB.out | apply below_alloc | apply pw_below_drewN | apply below_drew1 | refine below_set ?_ GE294.out) | exact HB.out)))); have n3_ := Aside0.mk (blk_below (g := gb294) (o := .cells #[.int .i64 t287, .int .i64 t288, .int .i64 t289, .int .i64 t290, .slice Ao11 t291.length co11] 31 (0, 0)) (by (with_reducible repeat (first | refine blk_drewN ?_ _ | refine blk_drew ?_ | refine blk_alloc ?_ _)); exact BK294.out) hb); have n4_ := Aside0.mk (below_step (by repeat (first | (with_reducible first | exact HB.out | apply below_alloc | apply pw_below_drewN | apply below_drew1 | refine below_set ?_ GE294.out) | exact HB.out)) hb); clear HO293; clear HO297; clear BK294; clear HB; have HO293 := n0_; have HO297 := n1_; have HO301 := n2_; have BK294 := n3_; have HB := n4_; clear n0_ n1_ n2_ n3_ n4_; (try clear hb); (try clear hb2); (try clear hk); (try clear hi); (try clear ho0); obtain ⟨Ao17, co17, eo17⟩ := Kd.R_slice HO301.out; subst eo17))
  go_loopg [5, 27] k (fun kq v5 v27 w' => ∃ (x5_1 : Int) (x27_1 : Int), v5 = .int .i64 x5_1 ∧ v27 = .int .i64 x27_1 ∧ Aside0 (laws_FnPasses.l0 kq t295 x5_1 t299 (t299.length : Int) x27_1 t287 t288 t289 t290 t291 = some r) ∧ Aside0 (kq ≤ k) ∧ Aside0 (Kd.S k31 31 w' w.heap.size (fun k_ => some k_ ≠ ((.slice Ao11 t291.length co11) : Value).ownBlock ∧ k_ ≠ gb294) v296 t295) ∧ Aside0 (Kd.R k39 39 w' w.heap.size (fun _ => True) (.slice Ao17 t299.length co17) t299) ∧ Aside0 (Kd.R (Kd.int .i64) 3 w' w.heap.size (fun _ => True) (.slice Ao11 t291.length co11) t291) ∧ Aside0 (w'.heap[gb294]? = some (.cells #[.int .i64 t287, .int .i64 t288, .int .i64 t289, .int .i64 t290, (.slice Ao11 t291.length co11)] 31 (0, 0))) ∧ Aside0 (Below w.heap.size w w'))
  case atStart => exact ⟨(0), (0), (by first | rfl | (simp; done) | (simp [*]; done)), (by first | rfl | (simp; done) | (simp [*]; done)), H', ⟨Nat.le_refl _⟩, ⟨by (with_reducible repeat (first | apply Kd.S_alloc | apply Kd.S_drewN | apply Kd.S_drew)); exact Kd.S_mono HO297.out (fun _ hk => ⟨hk.1.2, hk.2⟩)⟩, ⟨by (with_reducible repeat (first | apply Kd.R_alloc | apply Kd.R_drewN | apply Kd.R_drew)); exact HO301.out⟩, ⟨by (with_reducible repeat (first | apply Kd.R_alloc | apply Kd.R_drewN | apply Kd.R_drew)); exact HO293.out⟩, ⟨by (with_reducible repeat (first | refine blk_drewN ?_ _ | refine blk_drew ?_ | refine blk_alloc ?_ _)); exact BK294.out⟩, ⟨by repeat (first | (with_reducible first | exact HB.out | apply below_alloc | apply pw_below_drewN | apply below_drew1 | refine below_set ?_ GE294.out) | exact HB.out)⟩⟩
  case round =>
    clear H'
    try clear c2
    try clear c2b0
    try clear c2b1
    try clear c2b2
    try clear p2
    try clear c4
    try clear c6
    try clear hcz10_0
    try clear hcz10_1
    try clear hcz10_2
    try clear hcz10_3
    try clear hcz10_4
    try clear hcz13_0
    try clear hcz13_1
    try clear hcz13_2
    try clear hcz13_3
    try clear hcz13_4
    try clear hcz15_0
    try clear hcz15_1
    try clear hcz15_2
    try clear hcz15_3
    try clear hcz15_4
    try clear hfz10_0
    try clear hfz10_1
    try clear hfz10_2
    try clear hfz10_3
    try clear hfz10_4
    try clear hfz13_0
    try clear hfz13_1
    try clear hfz13_2
    try clear hfz13_3
    try clear hfz13_4
    try clear hfz15_0
    try clear hfz15_1
    try clear hfz15_2
    try clear hfz15_3
    try clear hfz15_4
    obtain ⟨x5_1, x27_1, rfl, rfl, HA, HK1, HO_4, HO_25, HO_295004, BK294, HB⟩ := hrel
    cases gk with
    | zero => exact absurd HA.out (by simp [laws_FnPasses.l0])
    | succ k1 =>
      have H := HA.out
      clear HA
      simp only [laws_FnPasses.l0] at H
      by_cases c18 : x27_1 < (t299.length : Int)
      rotate_left
      · rw [if_neg c18] at H
        have c18b0 : decide (x27_1 < (t299.length : Int)) = false := decide_eq_false c18
        clear c18
        by_cases c50 : x5_1 = (wrap64 (t287 * t288))
        rotate_left
        · rw [if_neg c50] at H
          have c50b0 : (x5_1 == (wrap64 (t287 * t288))) = false := beq_eq_false_iff_ne.mpr c50
          have c50b1 : (x5_1 != (wrap64 (t287 * t288))) = true := bne_iff_ne.mpr c50
          obtain rfl := Option.some.inj H
          try go_wp2
          have n0_ := Aside0.mk (Kd.S_drew HO_4.out)
          have n1_ := Aside0.mk (Kd.R_drew HO_25.out)
          have n2_ := Aside0.mk (Kd.R_drew HO_295004.out)
          have n3_ := Aside0.mk (blk_drew BK294.out)
          have n4_ := Aside0.mk (below_drew1 HB.out)
          clear HO_4
          clear HO_25
          clear HO_295004
          clear BK294
          clear HB
          have HO_4 := n0_
          have HO_25 := n1_
          have HO_295004 := n2_
          have BK294 := n3_
          have HB := n4_
          clear n0_ n1_ n2_ n3_ n4_
          refine start_ (n := 18) (S := fun w' => w'.cell? ⟨gb294, 0, none⟩ = some (.int .i64 t287) ∧ w'.cell? ⟨gb294, 1, none⟩ = some (.int .i64 t288) ∧ w'.cell? ⟨gb294, 2, none⟩ = some (.int .i64 t289) ∧ w'.cell? ⟨gb294, 3, none⟩ = some (.int .i64 t290) ∧ w'.cell? ⟨gb294, 4, none⟩ = some (.slice Ao11 t291.length co11)) (ds := []) #[false, false, false, false, false, false, false, false, false, false, false, false, false, false, false, false, false, false] (by kernel_rfl) rfl rfl ⟨(blk_cell BK294.out 0).trans rfl, (blk_cell BK294.out 1).trans rfl, (blk_cell BK294.out 2).trans rfl, (blk_cell BK294.out 3).trans rfl, (blk_cell BK294.out 4).trans rfl⟩ (fun hHeld => ?_); refine with_tabW laws_FnPasses.tab15 laws_FnPasses.bits15 (fun HT_ HW_ => ?_)
          generalize wr.drew = w58 at HO_4 HO_25 HO_295004 BK294 HB hHeld ⊢
          refine pure_ (i := 0) (N := some 64) (v := ?_) (a' := ?_) #[true, false, false, false, false, false, false, false, false, false, false, false, false, false, false, false, false, false] rfl rfl (any_of HT_.out (by kernel_rfl)) (fun _ _ _ h => h) (Or.inl ⟨by rfl, ?_⟩) ?_ ?_
          rotate_left
          · intro w'
            go_simp
            with_reducible rfl
          rotate_left
          · simp only [Act.put, List.setIfInBounds_toArray, List.set_cons_zero, List.set_cons_succ, i64_w, i32_w]
            rfl
          refine pure_ (i := 1) (N := some 65) (v := ?_) (a' := ?_) #[true, true, false, false, false, false, false, false, false, false, false, false, false, false, false, false, false, false] rfl rfl (any_of HT_.out (by kernel_rfl)) (fun _ _ _ h => h) (Or.inl ⟨by rfl, ?_⟩) ?_ ?_
          rotate_left
          · intro w'
            go_simp
            with_reducible rfl
          rotate_left
          · simp only [Act.put, List.setIfInBounds_toArray, List.set_cons_zero, List.set_cons_succ, i64_w, i32_w]
            rfl
          refine pure_ (i := 3) (N := some 67) (v := ?_) (a' := ?_) #[true, true, false, true, false, false, false, false, false, false, false, false, false, false, false, false, false, false] rfl rfl (any_of HT_.out (by kernel_rfl)) (fun _ _ _ h => h) (Or.inl ⟨by rfl, ?_⟩) ?_ ?_
          rotate_left
          · intro w'
            go_simp
            with_reducible rfl
          rotate_left
          · simp only [Act.put, List.setIfInBounds_toArray, List.set_cons_zero, List.set_cons_succ, i64_w, i32_w]
            rfl
          refine take_ (i := 2) (N := some 66) (v := ?_) (a' := ?_) #[true, true, true, true, false, false, false, false, false, false, false, false, false, false, false, false, false, false] rfl rfl (take_ofW HT_.out HW_.out (by kernel_rfl)) (fun _ _ _ h => h) (Or.inl ⟨by rfl, ?_⟩) hHeld ?_ ?_
          rotate_left
          · rintro w' ⟨s0, s1, s2, s3, s4⟩
            go_simp
            with_reducible rfl
          rotate_left
          · simp only [Act.put, List.setIfInBounds_toArray, List.set_cons_zero, List.set_cons_succ, i64_w, i32_w]
            rfl
          refine take_ (i := 4) (N := some 68) (v := ?_) (a' := ?_) #[true, true, true, true, true, false, false, false, false, false, false, false, false, false, false, false, false, false] rfl rfl (take_ofW HT_.out HW_.out (by kernel_rfl)) (fun _ _ _ h => h) (Or.inl ⟨by rfl, ?_⟩) hHeld ?_ ?_
          rotate_left
          · rintro w' ⟨s0, s1, s2, s3, s4⟩
            go_simp
            with_reducible rfl
          rotate_left
          · simp only [Act.put, List.setIfInBounds_toArray, List.set_cons_zero, List.set_cons_succ, i64_w, i32_w]
            rfl
          refine pure_ (i := 5) (N := some 69) (v := ?_) (a' := ?_) #[true, true, true, true, true, true, false, false, false, false, false, false, false, false, false, false, false, false] rfl rfl (any_of HT_.out (by kernel_rfl)) (fun _ _ _ h => h) (Or.inl ⟨by rfl, ?_⟩) ?_ ?_
          rotate_left
          · intro w'
            go_simp
            with_reducible rfl
          rotate_left
          · simp only [Act.put, List.setIfInBounds_toArray, List.set_cons_zero, List.set_cons_succ, i64_w, i32_w]
            rfl
          refine pure_ (i := 6) (N := some 70) (v := ?_) (a' := ?_) #[true, true, true, true, true, true, true, false, false, false, false, false, false, false, false, false, false, false] rfl rfl (any_of HT_.out (by kernel_rfl)) (fun _ _ _ h => h) (Or.inl ⟨by rfl, ?_⟩) ?_ ?_
          rotate_left
          · intro w'
            go_simp
            with_reducible rfl
          rotate_left
          · simp only [Act.put, List.setIfInBounds_toArray, List.set_cons_zero, List.set_cons_succ, i64_w, i32_w]
            rfl
          refine pure_ (i := 7) (N := some 71) (v := ?_) (a' := ?_) #[true, true, true, true, true, true, true, true, false, false, false, false, false, false, false, false, false, false] rfl rfl (any_of HT_.out (by kernel_rfl)) (fun _ _ _ h => h) (Or.inl ⟨by rfl, ?_⟩) ?_ ?_
          rotate_left
          · intro w'
            go_simp
            with_reducible rfl
          rotate_left
          · simp only [Act.put, List.setIfInBounds_toArray, List.set_cons_zero, List.set_cons_succ, i64_w, i32_w]
            rfl
          refine pure_ (i := 8) (N := some 72) (v := undef) (a' := ?_) #[true, true, true, true, true, true, true, true, true, false, false, false, false, false, false, false, false, false] rfl rfl (any_of HT_.out (by kernel_rfl)) (fun _ _ _ h => h) (Or.inr ⟨by rfl, rfl⟩) ?_ ?_
          rotate_left
          · simp only [Act.put, List.setIfInBounds_toArray, List.set_cons_zero, List.set_cons_succ, i64_w, i32_w]
            rfl
          refine pure_ (i := 9) (N := some 73) (v := undef) (a' := ?_) #[true, true, true, true, true, true, true, true, true, true, false, false, false, false, false, false, false, false] rfl rfl (any_of HT_.out (by kernel_rfl)) (fun _ _ _ h => h) (Or.inr ⟨by rfl, rfl⟩) ?_ ?_
          rotate_left
          · simp only [Act.put, List.setIfInBounds_toArray, List.set_cons_zero, List.set_cons_succ, i64_w, i32_w]
            rfl
          refine pure_ (i := 10) (N := some 74) (v := undef) (a' := ?_) #[true, true, true, true, true, true, true, true, true, true, true, false, false, false, false, false, false, false] rfl rfl (any_of HT_.out (by kernel_rfl)) (fun _ _ _ h => h) (Or.inr ⟨by rfl, rfl⟩) ?_ ?_
          rotate_left
          · simp only [Act.put, List.setIfInBounds_toArray, List.set_cons_zero, List.set_cons_succ, i64_w, i32_w]
            rfl
          refine pure_ (i := 11) (N := some 75) (v := undef) (a' := ?_) #[true, true, true, true, true, true, true, true, true, true, true, true, false, false, false, false, false, false] rfl rfl (any_of HT_.out (by kernel_rfl)) (fun _ _ _ h => h) (Or.inr ⟨by rfl, rfl⟩) ?_ ?_
          rotate_left
          · simp only [Act.put, List.setIfInBounds_toArray, List.set_cons_zero, List.set_cons_succ, i64_w, i32_w]
            rfl
          refine pure_ (i := 12) (N := some 76) (v := undef) (a' := ?_) #[true, true, true, true, true, true, true, true, true, true, true, true, true, false, false, false, false, false] rfl rfl (any_of HT_.out (by kernel_rfl)) (fun _ _ _ h => h) (Or.inr ⟨by rfl, rfl⟩) ?_ ?_
          rotate_left
          · simp only [Act.put, List.setIfInBounds_toArray, List.set_cons_zero, List.set_cons_succ, i64_w, i32_w]
            rfl
          refine pure_ (i := 13) (N := some 77) (v := undef) (a' := ?_) #[true, true, true, true, true, true, true, true, true, true, true, true, true, true, false, false, false, false] rfl rfl (any_of HT_.out (by kernel_rfl)) (fun _ _ _ h => h) (Or.inr ⟨by rfl, rfl⟩) ?_ ?_
          rotate_left
          · simp only [Act.put, List.setIfInBounds_toArray, List.set_cons_zero, List.set_cons_succ, i64_w, i32_w]
            rfl
          refine pure_ (i := 14) (N := some 78) (v := undef) (a' := ?_) #[true, true, true, true, true, true, true, true, true, true, true, true, true, true, true, false, false, false] rfl rfl (any_of HT_.out (by kernel_rfl)) (fun _ _ _ h => h) (Or.inr ⟨by rfl, rfl⟩) ?_ ?_
          rotate_left
          · simp only [Act.put, List.setIfInBounds_toArray, List.set_cons_zero, List.set_cons_succ, i64_w, i32_w]
            rfl
          refine pure_ (i := 15) (N := some 79) (v := undef) (a' := ?_) #[true, true, true, true, true, true, true, true, true, true, true, true, true, true, true, true, false, false] rfl rfl (any_of HT_.out (by kernel_rfl)) (fun _ _ _ h => h) (Or.inr ⟨by rfl, rfl⟩) ?_ ?_
          rotate_left
          · simp only [Act.put, List.setIfInBounds_toArray, List.set_cons_zero, List.set_cons_succ, i64_w, i32_w]
            rfl
          refine pure_ (i := 16) (N := some 80) (v := ?_) (a' := ?_) #[true, true, true, true, true, true, true, true, true, true, true, true, true, true, true, true, true, false] rfl rfl (any_of HT_.out (by kernel_rfl)) (fun _ _ _ h => h) (Or.inl ⟨by rfl, ?_⟩) ?_ ?_
          rotate_left
          · intro w'
            go_simp
            with_reducible rfl
          rotate_left
          · simp only [Act.put, List.setIfInBounds_toArray, List.set_cons_zero, List.set_cons_succ, i64_w, i32_w]
            rfl
          refine pure_ (i := 17) (N := some 2) (v := ?_) (a' := ?_) #[true, true, true, true, true, true, true, true, true, true, true, true, true, true, true, true, true, true] rfl rfl (any_of HT_.out (by kernel_rfl)) (fun _ _ _ h => h) (Or.inl ⟨by rfl, ?_⟩) ?_ ?_
          rotate_left
          · intro w'
            go_simp
            with_reducible rfl
          rotate_left
          · simp only [Act.put, List.setIfInBounds_toArray, List.set_cons_zero, List.set_cons_succ, i64_w, i32_w]
            rfl
          refine done_ (done_of HT_.out (by kernel_rfl)) ?_
          try go_wp2
          go_ret
          exact ⟨by first | rfl | (simp [errW_none, errW_some] <;> rfl) | (simp [*, errW_none, errW_some] <;> rfl), by repeat (first | (with_reducible first | exact HB.out | apply below_alloc | apply pw_below_drewN | apply below_drew1 | refine below_set ?_ GE294.out) | exact HB.out)⟩
        rw [if_pos c50] at H
        have c50b0 : (x5_1 == (wrap64 (t287 * t288))) = true := beq_iff_eq.mpr c50
        have c50b1 : (x5_1 != (wrap64 (t287 * t288))) = false := bne_eq_false_iff_eq.mpr c50
        clear c50
        replace H := Option.bind_eq_some_iff.mp H
        obtain ⟨⟨t306, t307, t308, t309, t310⟩, A510, H⟩ := H
        replace H : ((laws_wImage.f k1 t306 t307 t308 t309 t310 t287 t288 t289 t290 t291).bind fun t313 => (some t313)) = some r := H
        have A51 := Aside0.mk A510
        clear A510
        replace H := Option.bind_eq_some_iff.mp H
        obtain ⟨t313, A520, H⟩ := H
        replace H : (some t313) = some r := H
        have A52 := Aside0.mk A520
        clear A520
        obtain rfl := Option.some.inj H
        try go_wp2
        have n0_ := Aside0.mk (Kd.S_drew HO_4.out)
        have n1_ := Aside0.mk (Kd.R_drew HO_25.out)
        have n2_ := Aside0.mk (Kd.R_drew HO_295004.out)
        have n3_ := Aside0.mk (blk_drew BK294.out)
        have n4_ := Aside0.mk (below_drew1 HB.out)
        clear HO_4
        clear HO_25
        clear HO_295004
        clear BK294
        clear HB
        have HO_4 := n0_
        have HO_25 := n1_
        have HO_295004 := n2_
        have BK294 := n3_
        have HB := n4_
        clear n0_ n1_ n2_ n3_ n4_
        obtain ⟨Ao54, co54, eo54⟩ := Kd.S_slice HO_4.out
        (first | subst eo54 | (injection eo54 with f1_ f2_ f3_; have f4_ := f1_.symm; have f5_ := f3_.symm; clear f1_ f2_ f3_; subst f4_; subst f5_))
        refine start_ (n := 18) (S := fun w' => w'.cell? ⟨gb294, 0, none⟩ = some (.int .i64 t287) ∧ w'.cell? ⟨gb294, 1, none⟩ = some (.int .i64 t288) ∧ w'.cell? ⟨gb294, 2, none⟩ = some (.int .i64 t289) ∧ w'.cell? ⟨gb294, 3, none⟩ = some (.int .i64 t290) ∧ w'.cell? ⟨gb294, 4, none⟩ = some (.slice Ao11 t291.length co11)) (ds := []) #[false, false, false, false, false, false, false, false, false, false, false, false, false, false, false, false, false, false] (by kernel_rfl) rfl rfl ⟨(blk_cell BK294.out 0).trans rfl, (blk_cell BK294.out 1).trans rfl, (blk_cell BK294.out 2).trans rfl, (blk_cell BK294.out 3).trans rfl, (blk_cell BK294.out 4).trans rfl⟩ (fun hHeld => ?_); refine with_tabW laws_FnPasses.tab15 laws_FnPasses.bits15 (fun HT_ HW_ => ?_)
        generalize wr.drew = w53 at HO_4 HO_25 HO_295004 BK294 HB hHeld ⊢
        refine pure_ (i := 0) (N := some 64) (v := ?_) (a' := ?_) #[true, false, false, false, false, false, false, false, false, false, false, false, false, false, false, false, false, false] rfl rfl (any_of HT_.out (by kernel_rfl)) (fun _ _ _ h => h) (Or.inl ⟨by rfl, ?_⟩) ?_ ?_
        rotate_left
        · intro w'
          go_simp
          with_reducible rfl
        rotate_left
        · simp only [Act.put, List.setIfInBounds_toArray, List.set_cons_zero, List.set_cons_succ, i64_w, i32_w]
          rfl
        refine pure_ (i := 1) (N := some 65) (v := ?_) (a' := ?_) #[true, true, false, false, false, false, false, false, false, false, false, false, false, false, false, false, false, false] rfl rfl (any_of HT_.out (by kernel_rfl)) (fun _ _ _ h => h) (Or.inl ⟨by rfl, ?_⟩) ?_ ?_
        rotate_left
        · intro w'
          go_simp
          with_reducible rfl
        rotate_left
        · simp only [Act.put, List.setIfInBounds_toArray, List.set_cons_zero, List.set_cons_succ, i64_w, i32_w]
          rfl
        refine pure_ (i := 3) (N := some 67) (v := ?_) (a' := ?_) #[true, true, false, true, false, false, false, false, false, false, false, false, false, false, false, false, false, false] rfl rfl (any_of HT_.out (by kernel_rfl)) (fun _ _ _ h => h) (Or.inl ⟨by rfl, ?_⟩) ?_ ?_
        rotate_left
        · intro w'
          go_simp
          with_reducible rfl
        rotate_left
        · simp only [Act.put, List.setIfInBounds_toArray, List.set_cons_zero, List.set_cons_succ, i64_w, i32_w]
          rfl
        refine take_ (i := 2) (N := some 66) (v := ?_) (a' := ?_) #[true, true, true, true, false, false, false, false, false, false, false, false, false, false, false, false, false, false] rfl rfl (take_ofW HT_.out HW_.out (by kernel_rfl)) (fun _ _ _ h => h) (Or.inl ⟨by rfl, ?_⟩) hHeld ?_ ?_
        rotate_left
        · rintro w' ⟨s0, s1, s2, s3, s4⟩
          go_simp
          with_reducible rfl
        rotate_left
        · simp only [Act.put, List.setIfInBounds_toArray, List.set_cons_zero, List.set_cons_succ, i64_w, i32_w]
          rfl
        refine take_ (i := 4) (N := some 68) (v := ?_) (a' := ?_) #[true, true, true, true, true, false, false, false, false, false, false, false, false, false, false, false, false, false] rfl rfl (take_ofW HT_.out HW_.out (by kernel_rfl)) (fun _ _ _ h => h) (Or.inl ⟨by rfl, ?_⟩) hHeld ?_ ?_
        rotate_left
        · rintro w' ⟨s0, s1, s2, s3, s4⟩
          go_simp
          with_reducible rfl
        rotate_left
        · simp only [Act.put, List.setIfInBounds_toArray, List.set_cons_zero, List.set_cons_succ, i64_w, i32_w]
          rfl
        refine pure_ (i := 5) (N := some 69) (v := ?_) (a' := ?_) #[true, true, true, true, true, true, false, false, false, false, false, false, false, false, false, false, false, false] rfl rfl (any_of HT_.out (by kernel_rfl)) (fun _ _ _ h => h) (Or.inl ⟨by rfl, ?_⟩) ?_ ?_
        rotate_left
        · intro w'
          go_simp
          with_reducible rfl
        rotate_left
        · simp only [Act.put, List.setIfInBounds_toArray, List.set_cons_zero, List.set_cons_succ, i64_w, i32_w]
          rfl
        refine pure_ (i := 6) (N := some 70) (v := ?_) (a' := ?_) #[true, true, true, true, true, true, true, false, false, false, false, false, false, false, false, false, false, false] rfl rfl (any_of HT_.out (by kernel_rfl)) (fun _ _ _ h => h) (Or.inl ⟨by rfl, ?_⟩) ?_ ?_
        rotate_left
        · intro w'
          go_simp
          with_reducible rfl
        rotate_left
        · simp only [Act.put, List.setIfInBounds_toArray, List.set_cons_zero, List.set_cons_succ, i64_w, i32_w]
          rfl
        refine pure_ (i := 7) (N := some 71) (v := ?_) (a' := ?_) #[true, true, true, true, true, true, true, true, false, false, false, false, false, false, false, false, false, false] rfl rfl (any_of HT_.out (by kernel_rfl)) (fun _ _ _ h => h) (Or.inl ⟨by rfl, ?_⟩) ?_ ?_
        rotate_left
        · intro w'
          go_simp
          with_reducible rfl
        rotate_left
        · simp only [Act.put, List.setIfInBounds_toArray, List.set_cons_zero, List.set_cons_succ, i64_w, i32_w]
          rfl
        refine pure_ (i := 8) (N := some 72) (v := ?_) (a' := ?_) #[true, true, true, true, true, true, true, true, true, false, false, false, false, false, false, false, false, false] rfl rfl (any_of HT_.out (by kernel_rfl)) (fun _ _ _ h => h) (Or.inl ⟨by rfl, ?_⟩) ?_ ?_
        rotate_left
        · intro w'
          go_simp
          with_reducible rfl
        rotate_left
        · simp only [Act.put, List.setIfInBounds_toArray, List.set_cons_zero, List.set_cons_succ, i64_w, i32_w]
          rfl
        refine pure_ (i := 10) (N := some 74) (v := ?_) (a' := ?_) #[true, true, true, true, true, true, true, true, true, false, true, false, false, false, false, false, false, false] rfl rfl (any_of HT_.out (by kernel_rfl)) (fun _ _ _ h => h) (Or.inl ⟨by rfl, ?_⟩) ?_ ?_
        rotate_left
        · intro w'
          go_simp
          with_reducible rfl
        rotate_left
        · simp only [Act.put, List.setIfInBounds_toArray, List.set_cons_zero, List.set_cons_succ, i64_w, i32_w]
          rfl
        refine pure_ (i := 12) (N := some 76) (v := ?_) (a' := ?_) #[true, true, true, true, true, true, true, true, true, false, true, false, true, false, false, false, false, false] rfl rfl (any_of HT_.out (by kernel_rfl)) (fun _ _ _ h => h) (Or.inl ⟨by rfl, ?_⟩) ?_ ?_
        rotate_left
        · intro w'
          go_simp
          with_reducible rfl
        rotate_left
        · simp only [Act.put, List.setIfInBounds_toArray, List.set_cons_zero, List.set_cons_succ, i64_w, i32_w]
          rfl
        refine take_ (i := 9) (N := some 73) (v := ?_) (a' := ?_) #[true, true, true, true, true, true, true, true, true, true, true, false, true, false, false, false, false, false] rfl rfl (take_ofW HT_.out HW_.out (by kernel_rfl)) (fun _ _ _ h => h) (Or.inl ⟨by rfl, ?_⟩) hHeld ?_ ?_
        rotate_left
        · rintro w' ⟨s0, s1, s2, s3, s4⟩
          go_simp
          with_reducible rfl
        rotate_left
        · simp only [Act.put, List.setIfInBounds_toArray, List.set_cons_zero, List.set_cons_succ, i64_w, i32_w]
          rfl
        refine take_ (i := 11) (N := some 75) (v := ?_) (a' := ?_) #[true, true, true, true, true, true, true, true, true, true, true, true, true, false, false, false, false, false] rfl rfl (take_ofW HT_.out HW_.out (by kernel_rfl)) (fun _ _ _ h => h) (Or.inl ⟨by rfl, ?_⟩) hHeld ?_ ?_
        rotate_left
        · rintro w' ⟨s0, s1, s2, s3, s4⟩
          go_simp
          with_reducible rfl
        rotate_left
        · simp only [Act.put, List.setIfInBounds_toArray, List.set_cons_zero, List.set_cons_succ, i64_w, i32_w]
          rfl
        refine take_ (i := 14) (N := some 78) (v := ?_) (a' := ?_) #[true, true, true, true, true, true, true, true, true, true, true, true, true, false, true, false, false, false] rfl rfl (take_ofW HT_.out HW_.out (by kernel_rfl)) (fun _ _ _ h => h) (Or.inl ⟨by rfl, ?_⟩) hHeld ?_ ?_
        rotate_left
        · rintro w' ⟨s0, s1, s2, s3, s4⟩
          go_simp
          with_reducible rfl
        rotate_left
        · simp only [Act.put, List.setIfInBounds_toArray, List.set_cons_zero, List.set_cons_succ, i64_w, i32_w]
          rfl
        refine one_ (i := 13) (N := some 77) #[true, true, true, true, true, true, true, true, true, true, true, true, true, true, true, false, false, false] rfl rfl (one_of HT_.out (by kernel_rfl)) (by decide) (fun K hK => ?_)
        refine goes_ Try.func26 (by kernel_rfl) rfl #[.int .i64 t287, .int .i64 t288, .slice Ao54 t295.length co54] (by rfl) rfl rfl (by (try simp only [List.map_toArray, List.map_cons, List.map_nil]); first | done | rfl | (simp only [List.length_drop, List.length_take]; rfl)) ?_
        with_reducible refine (impl_Merge.calls k1 t287 t288 _ _ t295 t306 t307 t308 t309 t310 _ ?side1 ?side2 A51.out).mono ?_
        (case side1 => repeat (first | exact (Kd.S_reads' HO_4.out).2.2 | (with_reducible refine Kd.C_alloc ?_ _) | (with_reducible refine Kd.C_drewN ?_ _) | (with_reducible refine Kd.C_drew ?_)))
        (case side2 => exact (Kd.S_reads' HO_4.out).2.1)
        rintro e w55 ⟨v311, rfl, ho0, hb⟩
        refine ⟨_, rfl, ?_⟩
        have n0_ := Aside0.mk (Kd.S_elder' (by (with_reducible repeat (first | apply Kd.S_alloc | apply Kd.S_drewN | apply Kd.S_drew)); exact HO_4.out) (Kd.R_base ho0) hb)
        have n1_ := Aside0.mk (Kd.R_below (by (with_reducible repeat (first | apply Kd.R_alloc | apply Kd.R_drewN | apply Kd.R_drew)); exact HO_25.out) hb)
        have n2_ := Aside0.mk (Kd.R_elder' (by (with_reducible repeat (first | apply Kd.R_alloc | apply Kd.R_drewN | apply Kd.R_drew)); exact HO_295004.out) (Kd.R_base ho0) hb)
        have n3_ := Aside0.mk (Kd.R_lower (Kd.R_new' ho0 (Kd.R_lt (by (with_reducible repeat (first | apply Kd.R_alloc | apply Kd.R_drewN | apply Kd.R_drew)); exact HO_295004.out))) (below_size (by repeat (first | (with_reducible first | exact HB.out | apply below_alloc | apply pw_below_drewN | apply below_drew1 | refine below_set ?_ GE294.out) | exact HB.out))))
        have n4_ := Aside0.mk (blk_below (g := gb294) (o := .cells #[.int .i64 t287, .int .i64 t288, .int .i64 t289, .int .i64 t290, .slice Ao11 t291.length co11] 31 (0, 0)) (by (with_reducible repeat (first | refine blk_drewN ?_ _ | refine blk_drew ?_ | refine blk_alloc ?_ _)); exact BK294.out) hb)
        have n5_ := Aside0.mk (below_step (by repeat (first | (with_reducible first | exact HB.out | apply below_alloc | apply pw_below_drewN | apply below_drew1 | refine below_set ?_ GE294.out) | exact HB.out)) hb)
        clear HO_4
        clear HO_25
        clear HO_295004
        clear BK294
        clear HB
        have HO_4 := n0_
        have HO_25 := n1_
        have HO_295004 := n2_
        have HO312 := n3_
        have BK294 := n4_
        have HB := n5_
        clear n0_ n1_ n2_ n3_ n4_ n5_
        (try clear hb)
        (try clear hb2)
        (try clear hk)
        (try clear hi)
        (try clear ho0)
        obtain ⟨Ao56, co56, eo56⟩ := Kd.R_slice HO312.out
        (first | subst eo56 | (injection eo56 with f1_ f2_ f3_; have f4_ := f1_.symm; have f5_ := f3_.symm; clear f1_ f2_ f3_; subst f4_; subst f5_))
        refine hK.out _ _ ⟨(blk_cell BK294.out 0).trans rfl, (blk_cell BK294.out 1).trans rfl, (blk_cell BK294.out 2).trans rfl, (blk_cell BK294.out 3).trans rfl, (blk_cell BK294.out 4).trans rfl⟩ (fun hHeld => ?_)
        clear hK K
        refine norm_ (a' := ?_) ?_ ?_
        rotate_left
        · show Act.put _ (some 77) _ = _
          simp only [Act.put, List.setIfInBounds_toArray, List.set_cons_zero, List.set_cons_succ, i64_w, i32_w]
          rfl
        refine one_ (i := 15) (N := some 79) #[true, true, true, true, true, true, true, true, true, true, true, true, true, true, true, true, false, false] rfl rfl (one_of HT_.out (by kernel_rfl)) (by decide) (fun K hK => ?_)
        refine goes_ Try.func25 (by kernel_rfl) rfl #[.agg #[.int .i64 t306, .int .i64 t307, .int .i64 t308, .int .i64 t309, .slice Ao56 t310.length co56], .agg #[.int .i64 t287, .int .i64 t288, .int .i64 t289, .int .i64 t290, .slice Ao11 t291.length co11]] (by rfl) rfl rfl (by (try simp only [List.map_toArray, List.map_cons, List.map_nil]); first | done | rfl | (simp only [List.length_drop, List.length_take]; rfl)) ?_
        with_reducible refine (laws_wImage.calls k1 t306 t307 t308 t309 _ _ t310 t287 t288 t289 t290 _ _ t291 t313 _ ?side1 ?side2 ?side3 ?side4 A52.out).mono ?_
        (case side1 => repeat (first | exact (Kd.R_reads' HO312.out).2.2 | (with_reducible refine Kd.C_alloc ?_ _) | (with_reducible refine Kd.C_drewN ?_ _) | (with_reducible refine Kd.C_drew ?_)))
        (case side2 => exact (Kd.R_reads' HO312.out).2.1)
        (case side3 => repeat (first | exact (Kd.R_reads' HO_295004.out).2.2 | (with_reducible refine Kd.C_alloc ?_ _) | (with_reducible refine Kd.C_drewN ?_ _) | (with_reducible refine Kd.C_drew ?_)))
        (case side4 => exact (Kd.R_reads' HO_295004.out).2.1)
        rintro e w57 ⟨rfl, hb⟩
        refine ⟨_, rfl, ?_⟩
        have n0_ := Aside0.mk (Kd.S_below (by (with_reducible repeat (first | apply Kd.S_alloc | apply Kd.S_drewN | apply Kd.S_drew)); exact HO_4.out) hb)
        have n1_ := Aside0.mk (Kd.R_below (by (with_reducible repeat (first | apply Kd.R_alloc | apply Kd.R_drewN | apply Kd.R_drew)); exact HO_25.out) hb)
        have n2_ := Aside0.mk (Kd.R_below (by (with_reducible repeat (first | apply Kd.R_alloc | apply Kd.R_drewN | apply Kd.R_drew)); exact HO_295004.out) hb)
        have n3_ := Aside0.mk (Kd.R_below (by (with_reducible repeat (first | apply Kd.R_alloc | apply Kd.R_drewN | apply Kd.R_drew)); exact HO312.out) hb)
        have n4_ := Aside0.mk (blk_below (g := gb294) (o := .cells #[.int .i64 t287, .int .i64 t288, .int .i64 t289, .int .i64 t290, .slice Ao11 t291.length co11] 31 (0, 0)) (by (with_reducible repeat (first | refine blk_drewN ?_ _ | refine blk_drew ?_ | refine blk_alloc ?_ _)); exact BK294.out) hb)
        have n5_ := Aside0.mk (below_step (by repeat (first | (with_reducible first | exact HB.out | apply below_alloc | apply pw_below_drewN | apply below_drew1 | refine below_set ?_ GE294.out) | exact HB.out)) hb)
        clear HO_4
        clear HO_25
        clear HO_295004
        clear HO312
        clear BK294
        clear HB
        have HO_4 := n0_
        have HO_25 := n1_
        have HO_295004 := n2_
        have HO312 := n3_
        have BK294 := n4_
        have HB := n5_
        clear n0_ n1_ n2_ n3_ n4_ n5_
        (try clear hb)
        (try clear hb2)
        (try clear hk)
        (try clear hi)
        refine hK.out _ _ ⟨(blk_cell BK294.out 0).trans rfl, (blk_cell BK294.out 1).trans rfl, (blk_cell BK294.out 2).trans rfl, (blk_cell BK294.out 3).trans rfl, (blk_cell BK294.out 4).trans rfl⟩ (fun hHeld => ?_)
        clear hK K
        refine norm_ (a' := ?_) ?_ ?_
        rotate_left
        · show Act.put _ (some 79) _ = _
          simp only [Act.put, List.setIfInBounds_toArray, List.set_cons_zero, List.set_cons_succ, i64_w, i32_w]
          rfl
        refine pure_ (i := 16) (N := some 80) (v := ?_) (a' := ?_) #[true, true, true, true, true, true, true, true, true, true, true, true, true, true, true, true, true, false] rfl rfl (any_of HT_.out (by kernel_rfl)) (fun _ _ _ h => h) (Or.inl ⟨by rfl, ?_⟩) ?_ ?_
        rotate_left
        · intro w'
          go_simp
          with_reducible rfl
        rotate_left
        · simp only [Act.put, List.setIfInBounds_toArray, List.set_cons_zero, List.set_cons_succ, i64_w, i32_w]
          rfl
        refine pure_ (i := 17) (N := some 2) (v := ?_) (a' := ?_) #[true, true, true, true, true, true, true, true, true, true, true, true, true, true, true, true, true, true] rfl rfl (any_of HT_.out (by kernel_rfl)) (fun _ _ _ h => h) (Or.inl ⟨by rfl, ?_⟩) ?_ ?_
        rotate_left
        · intro w'
          go_simp
          with_reducible rfl
        rotate_left
        · simp only [Act.put, List.setIfInBounds_toArray, List.set_cons_zero, List.set_cons_succ, i64_w, i32_w]
          rfl
        refine done_ (done_of HT_.out (by kernel_rfl)) ?_
        try go_wp2
        go_ret
        exact ⟨by first | rfl | (simp [errW_none, errW_some] <;> rfl) | (simp [*, errW_none, errW_some] <;> rfl), by repeat (first | (with_reducible first | exact HB.out | apply below_alloc | apply pw_below_drewN | apply below_drew1 | refine below_set ?_ GE294.out) | exact HB.out)⟩
      rw [if_pos c18] at H
      have c18b0 : decide (x27_1 < (t299.length : Int)) = true := decide_eq_true c18
      clear c18
      by_cases c19 : 0 ≤ x27_1
      rotate_left
      · rw [if_neg c19] at H
        exact absurd H (by simp)
      rw [if_pos c19] at H
      have c19b0 : decide (0 ≤ x27_1) = true := decide_eq_true c19
      clear c19
      by_cases c20 : x27_1 < (t299.length : Int)
      rotate_left
      · rw [if_neg c20] at H
        exact absurd H (by simp)
      rw [if_pos c20] at H
      have c20b0 : decide (x27_1 < (t299.length : Int)) = true := decide_eq_true c20
      clear c20
      by_cases c21 : x27_1 ≥ (t295.length : Int)
      · rw [if_pos c21] at H
        have c21b0 : decide ((t295.length : Int) ≤ x27_1) = true := decide_eq_true c21
        clear c21
        obtain rfl := Option.some.inj H
        have p302 : 0 ≤ (x27_1 : Int) := of_decide_eq_true (by first | (with_reducible assumption) | assumption)
        have q302 : x27_1 < (t299.length : Int) := of_decide_eq_true (by first | (with_reducible assumption) | assumption)
        obtain ⟨ad302, e302, hx302_0, hx302_1, hx302_2, hx302_3, hx302_4, hx302_5⟩ := at_T39 (Kd.R_reads' HO_25.out).2.2 x27_1 p302 q302
        cases e302
        replace p302 := eq_true p302
        replace q302 := eq_true q302
        try go_wp2_with (first | ((with_reducible refine gate_dst (N := 7) rfl ?_); refine box_event ?hg (N := 7) ?hd (cs := #[.int .i64 0, .int .i64 0, .int .i64 0, .int .i64 0, .int .i64 0, .int .i64 0]) (t := 39) ?hr ?_; (case hd => rfl); (case hg => rfl); (case hr => first | (go_simp; done) | (go_simp; rfl)); intro gb303 hg w22 hbox hb; have n0_ := Aside0.mk (Kd.S_below (by (with_reducible repeat (first | apply Kd.S_alloc | apply Kd.S_drewN | apply Kd.S_drew)); exact HO_4.out) hb); have n1_ := Aside0.mk (Kd.R_below (Kd.R_elderB (by (with_reducible repeat (first | apply Kd.R_alloc | apply Kd.R_drewN | apply Kd.R_drew)); exact HO_25.out) gb303 (Nat.le_of_eq hg.symm)) hb); have n2_ := Aside0.mk (Kd.R_below (by (with_reducible repeat (first | apply Kd.R_alloc | apply Kd.R_drewN | apply Kd.R_drew)); exact HO_295004.out) hb); have n3_ := Aside0.mk (blk_below (g := gb294) (o := .cells #[.int .i64 t287, .int .i64 t288, .int .i64 t289, .int .i64 t290, .slice Ao11 t291.length co11] 31 (0, 0)) (by (with_reducible repeat (first | refine blk_drewN ?_ _ | refine blk_drew ?_ | refine blk_alloc ?_ _)); exact BK294.out) hb); have n4_ := Aside0.mk (below_step (by repeat (first | (with_reducible first | exact HB.out | apply below_alloc | apply pw_below_drewN | apply below_drew1 | refine below_set ?_ GE294.out) | exact HB.out)) hb); have n5_ := Aside0.mk (hbox); have n6_ := Aside0.mk ((by rw [hg]; exact (below_size (by repeat (first | (with_reducible first | exact HB.out | apply below_alloc | apply pw_below_drewN | apply below_drew1 | refine below_set ?_ GE294.out) | exact HB.out))) : w.heap.size ≤ gb303)); have n7_ := n6_; have n8_ := Aside0.mk ((by rw [hg]; exact Nat.ne_of_lt (blk_lt (g := gb294) (o := .cells #[.int .i64 t287, .int .i64 t288, .int .i64 t289, .int .i64 t290, .slice Ao11 t291.length co11] 31 (0, 0)) (by (with_reducible repeat (first | refine blk_drewN ?_ _ | refine blk_drew ?_ | refine blk_alloc ?_ _)); exact BK294.out)) : gb294 ≠ gb303)); have n9_ := Aside0.mk ((by rw [hg]; exact Nat.ne_of_gt (blk_lt (g := gb294) (o := .cells #[.int .i64 t287, .int .i64 t288, .int .i64 t289, .int .i64 t290, .slice Ao11 t291.length co11] 31 (0, 0)) (by (with_reducible repeat (first | refine blk_drewN ?_ _ | refine blk_drew ?_ | refine blk_alloc ?_ _)); exact BK294.out)) : gb303 ≠ gb294)); clear HO_4; clear HO_25; clear HO_295004; clear BK294; clear HB; have HO_4 := n0_; have HO_25 := n1_; have HO_295004 := n2_; have BK294 := n3_; have HB := n4_; have BK303 := n5_; have GW303 := n6_; have GE303 := n7_; have NB294_303 := n8_; have NB303_294 := n9_; clear n0_ n1_ n2_ n3_ n4_ n5_ n6_ n7_ n8_ n9_; clear hb hbox hg; have hnb23 := NB303_294.out; have hnc23 := NB294_303.out; have hcz24_0 : w22.cell? ⟨gb303, 0, none⟩ = some (.int .i64 0) := (blk_cell BK303.out 0).trans rfl; have hcz24_1 : w22.cell? ⟨gb303, 1, none⟩ = some (.int .i64 0) := (blk_cell BK303.out 1).trans rfl; have hcz24_2 : w22.cell? ⟨gb303, 2, none⟩ = some (.int .i64 0) := (blk_cell BK303.out 2).trans rfl; have hcz24_3 : w22.cell? ⟨gb303, 3, none⟩ = some (.int .i64 0) := (blk_cell BK303.out 3).trans rfl; have hcz24_4 : w22.cell? ⟨gb303, 4, none⟩ = some (.int .i64 0) := (blk_cell BK303.out 4).trans rfl; have hcz24_5 : w22.cell? ⟨gb303, 5, none⟩ = some (.int .i64 0) := (blk_cell BK303.out 5).trans rfl; have hfz24_0 := blk_frozen BK303.out 0; have hfz24_1 := blk_frozen BK303.out 1; have hfz24_2 := blk_frozen BK303.out 2; have hfz24_3 := blk_frozen BK303.out 3; have hfz24_4 := blk_frozen BK303.out 4; have hfz24_5 := blk_frozen BK303.out 5))
        have n0_ : Aside0 (Kd.S k31 31 ((((((w22.setCell ⟨gb303, 0, none⟩ (.int .i64 ((rd_T39 t299 x27_1).f0))).setCell ⟨gb303, 1, none⟩ (.int .i64 ((rd_T39 t299 x27_1).f1))).setCell ⟨gb303, 2, none⟩ (.int .i64 ((rd_T39 t299 x27_1).f2))).setCell ⟨gb303, 3, none⟩ (.int .i64 ((rd_T39 t299 x27_1).f3))).setCell ⟨gb303, 4, none⟩ (.int .i64 ((rd_T39 t299 x27_1).f4))).setCell ⟨gb303, 5, none⟩ (.int .i64 ((rd_T39 t299 x27_1).f5))) w.heap.size (fun k_ => some k_ ≠ (.slice Ao11 t291.length co11 : Value).ownBlock ∧ k_ ≠ gb294) v296 t295) := ⟨by (with_reducible repeat (first | apply Kd.S_alloc | apply Kd.S_drewN | apply Kd.S_drew)); exact Kd.S_mono (Kd.S_far (p := ⟨gb303, 5, none⟩) (Kd.S_far (p := ⟨gb303, 4, none⟩) (Kd.S_far (p := ⟨gb303, 3, none⟩) (Kd.S_far (p := ⟨gb303, 2, none⟩) (Kd.S_far (p := ⟨gb303, 1, none⟩) (Kd.S_far (p := ⟨gb303, 0, none⟩) (Kd.S_types HO_4.out BK303.out (by decide)) (fun _ hk => hk.2) (.int .i64 ((rd_T39 t299 x27_1).f0))) (fun _ hk => hk.2) (.int .i64 ((rd_T39 t299 x27_1).f1))) (fun _ hk => hk.2) (.int .i64 ((rd_T39 t299 x27_1).f2))) (fun _ hk => hk.2) (.int .i64 ((rd_T39 t299 x27_1).f3))) (fun _ hk => hk.2) (.int .i64 ((rd_T39 t299 x27_1).f4))) (fun _ hk => hk.2) (.int .i64 ((rd_T39 t299 x27_1).f5))) (fun _ hk => ⟨hk.1.1, hk.1.2⟩)⟩
        have n1_ : Aside0 (Kd.R k39 39 ((((((w22.setCell ⟨gb303, 0, none⟩ (.int .i64 ((rd_T39 t299 x27_1).f0))).setCell ⟨gb303, 1, none⟩ (.int .i64 ((rd_T39 t299 x27_1).f1))).setCell ⟨gb303, 2, none⟩ (.int .i64 ((rd_T39 t299 x27_1).f2))).setCell ⟨gb303, 3, none⟩ (.int .i64 ((rd_T39 t299 x27_1).f3))).setCell ⟨gb303, 4, none⟩ (.int .i64 ((rd_T39 t299 x27_1).f4))).setCell ⟨gb303, 5, none⟩ (.int .i64 ((rd_T39 t299 x27_1).f5))) w.heap.size (fun k_ => k_ ≠ gb303) (.slice (some ad302) t299.length co17) t299) := ⟨by (with_reducible repeat (first | apply Kd.R_alloc | apply Kd.R_drewN | apply Kd.R_drew)); exact Kd.R_mono (Kd.R_far (p := ⟨gb303, 5, none⟩) (Kd.R_far (p := ⟨gb303, 4, none⟩) (Kd.R_far (p := ⟨gb303, 3, none⟩) (Kd.R_far (p := ⟨gb303, 2, none⟩) (Kd.R_far (p := ⟨gb303, 1, none⟩) (Kd.R_far (p := ⟨gb303, 0, none⟩) (Kd.R_mono HO_25.out (fun k_ hk => (⟨hk, hk.2⟩ : _ ∧ k_ ≠ gb303))) (fun _ hk => hk.2) (.int .i64 ((rd_T39 t299 x27_1).f0))) (fun _ hk => hk.2) (.int .i64 ((rd_T39 t299 x27_1).f1))) (fun _ hk => hk.2) (.int .i64 ((rd_T39 t299 x27_1).f2))) (fun _ hk => hk.2) (.int .i64 ((rd_T39 t299 x27_1).f3))) (fun _ hk => hk.2) (.int .i64 ((rd_T39 t299 x27_1).f4))) (fun _ hk => hk.2) (.int .i64 ((rd_T39 t299 x27_1).f5))) (fun _ hk => hk.1.2)⟩
        have n2_ : Aside0 (Kd.R (Kd.int .i64) 3 ((((((w22.setCell ⟨gb303, 0, none⟩ (.int .i64 ((rd_T39 t299 x27_1).f0))).setCell ⟨gb303, 1, none⟩ (.int .i64 ((rd_T39 t299 x27_1).f1))).setCell ⟨gb303, 2, none⟩ (.int .i64 ((rd_T39 t299 x27_1).f2))).setCell ⟨gb303, 3, none⟩ (.int .i64 ((rd_T39 t299 x27_1).f3))).setCell ⟨gb303, 4, none⟩ (.int .i64 ((rd_T39 t299 x27_1).f4))).setCell ⟨gb303, 5, none⟩ (.int .i64 ((rd_T39 t299 x27_1).f5))) w.heap.size (fun _ => True) (.slice Ao11 t291.length co11) t291) := ⟨by (with_reducible repeat (first | apply Kd.R_alloc | apply Kd.R_drewN | apply Kd.R_drew)); exact Kd.R_mono (Kd.R_far (p := ⟨gb303, 5, none⟩) (Kd.R_far (p := ⟨gb303, 4, none⟩) (Kd.R_far (p := ⟨gb303, 3, none⟩) (Kd.R_far (p := ⟨gb303, 2, none⟩) (Kd.R_far (p := ⟨gb303, 1, none⟩) (Kd.R_far (p := ⟨gb303, 0, none⟩) (Kd.R_types HO_295004.out BK303.out (by decide)) (fun _ hk => hk.2) (.int .i64 ((rd_T39 t299 x27_1).f0))) (fun _ hk => hk.2) (.int .i64 ((rd_T39 t299 x27_1).f1))) (fun _ hk => hk.2) (.int .i64 ((rd_T39 t299 x27_1).f2))) (fun _ hk => hk.2) (.int .i64 ((rd_T39 t299 x27_1).f3))) (fun _ hk => hk.2) (.int .i64 ((rd_T39 t299 x27_1).f4))) (fun _ hk => hk.2) (.int .i64 ((rd_T39 t299 x27_1).f5))) (fun _ hk => trivial)⟩
        have n3_ : Aside0 (((((((w22.setCell ⟨gb303, 0, none⟩ (.int .i64 ((rd_T39 t299 x27_1).f0))).setCell ⟨gb303, 1, none⟩ (.int .i64 ((rd_T39 t299 x27_1).f1))).setCell ⟨gb303, 2, none⟩ (.int .i64 ((rd_T39 t299 x27_1).f2))).setCell ⟨gb303, 3, none⟩ (.int .i64 ((rd_T39 t299 x27_1).f3))).setCell ⟨gb303, 4, none⟩ (.int .i64 ((rd_T39 t299 x27_1).f4))).setCell ⟨gb303, 5, none⟩ (.int .i64 ((rd_T39 t299 x27_1).f5))).heap[gb294]? = some (.cells #[.int .i64 t287, .int .i64 t288, .int .i64 t289, .int .i64 t290, .slice Ao11 t291.length co11] 31 (0, 0))) := ⟨by (with_reducible repeat (first | refine blk_drewN ?_ _ | refine blk_drew ?_ | refine blk_alloc ?_ _)); refine blk_far ?_ NB294_303.out _; (with_reducible repeat (first | refine blk_drewN ?_ _ | refine blk_drew ?_ | refine blk_alloc ?_ _)); refine blk_far ?_ NB294_303.out _; (with_reducible repeat (first | refine blk_drewN ?_ _ | refine blk_drew ?_ | refine blk_alloc ?_ _)); refine blk_far ?_ NB294_303.out _; (with_reducible repeat (first | refine blk_drewN ?_ _ | refine blk_drew ?_ | refine blk_alloc ?_ _)); refine blk_far ?_ NB294_303.out _; (with_reducible repeat (first | refine blk_drewN ?_ _ | refine blk_drew ?_ | refine blk_alloc ?_ _)); refine blk_far ?_ NB294_303.out _; (with_reducible repeat (first | refine blk_drewN ?_ _ | refine blk_drew ?_ | refine blk_alloc ?_ _)); refine blk_far ?_ NB294_303.out _; (with_reducible repeat (first | refine blk_drewN ?_ _ | refine blk_drew ?_ | refine blk_alloc ?_ _)); exact BK294.out⟩
        have n4_ : Aside0 (((((((w22.setCell ⟨gb303, 0, none⟩ (.int .i64 ((rd_T39 t299 x27_1).f0))).setCell ⟨gb303, 1, none⟩ (.int .i64 ((rd_T39 t299 x27_1).f1))).setCell ⟨gb303, 2, none⟩ (.int .i64 ((rd_T39 t299 x27_1).f2))).setCell ⟨gb303, 3, none⟩ (.int .i64 ((rd_T39 t299 x27_1).f3))).setCell ⟨gb303, 4, none⟩ (.int .i64 ((rd_T39 t299 x27_1).f4))).setCell ⟨gb303, 5, none⟩ (.int .i64 ((rd_T39 t299 x27_1).f5))).heap[gb303]? = some (.cells #[.int .i64 ((rd_T39 t299 x27_1).f0), .int .i64 ((rd_T39 t299 x27_1).f1), .int .i64 ((rd_T39 t299 x27_1).f2), .int .i64 ((rd_T39 t299 x27_1).f3), .int .i64 ((rd_T39 t299 x27_1).f4), .int .i64 ((rd_T39 t299 x27_1).f5)] 39 (0, 0))) := ⟨by (with_reducible repeat (first | refine blk_drewN ?_ _ | refine blk_drew ?_ | refine blk_alloc ?_ _)); refine blk_put (cs := #[.int .i64 ((rd_T39 t299 x27_1).f0), .int .i64 ((rd_T39 t299 x27_1).f1), .int .i64 ((rd_T39 t299 x27_1).f2), .int .i64 ((rd_T39 t299 x27_1).f3), .int .i64 ((rd_T39 t299 x27_1).f4), .int .i64 0]) ?_ 5 _ rfl; (with_reducible repeat (first | refine blk_drewN ?_ _ | refine blk_drew ?_ | refine blk_alloc ?_ _)); refine blk_put (cs := #[.int .i64 ((rd_T39 t299 x27_1).f0), .int .i64 ((rd_T39 t299 x27_1).f1), .int .i64 ((rd_T39 t299 x27_1).f2), .int .i64 ((rd_T39 t299 x27_1).f3), .int .i64 0, .int .i64 0]) ?_ 4 _ rfl; (with_reducible repeat (first | refine blk_drewN ?_ _ | refine blk_drew ?_ | refine blk_alloc ?_ _)); refine blk_put (cs := #[.int .i64 ((rd_T39 t299 x27_1).f0), .int .i64 ((rd_T39 t299 x27_1).f1), .int .i64 ((rd_T39 t299 x27_1).f2), .int .i64 0, .int .i64 0, .int .i64 0]) ?_ 3 _ rfl; (with_reducible repeat (first | refine blk_drewN ?_ _ | refine blk_drew ?_ | refine blk_alloc ?_ _)); refine blk_put (cs := #[.int .i64 ((rd_T39 t299 x27_1).f0), .int .i64 ((rd_T39 t299 x27_1).f1), .int .i64 0, .int .i64 0, .int .i64 0, .int .i64 0]) ?_ 2 _ rfl; (with_reducible repeat (first | refine blk_drewN ?_ _ | refine blk_drew ?_ | refine blk_alloc ?_ _)); refine blk_put (cs := #[.int .i64 ((rd_T39 t299 x27_1).f0), .int .i64 0, .int .i64 0, .int .i64 0, .int .i64 0, .int .i64 0]) ?_ 1 _ rfl; (with_reducible repeat (first | refine blk_drewN ?_ _ | refine blk_drew ?_ | refine blk_alloc ?_ _)); refine blk_put (cs := #[.int .i64 0, .int .i64 0, .int .i64 0, .int .i64 0, .int .i64 0, .int .i64 0]) ?_ 0 _ rfl; (with_reducible repeat (first | refine blk_drewN ?_ _ | refine blk_drew ?_ | refine blk_alloc ?_ _)); exact BK303.out⟩
        have n5_ : Aside0 (Below w.heap.size w ((((((w22.setCell ⟨gb303, 0, none⟩ (.int .i64 ((rd_T39 t299 x27_1).f0))).setCell ⟨gb303, 1, none⟩ (.int .i64 ((rd_T39 t299 x27_1).f1))).setCell ⟨gb303, 2, none⟩ (.int .i64 ((rd_T39 t299 x27_1).f2))).setCell ⟨gb303, 3, none⟩ (.int .i64 ((rd_T39 t299 x27_1).f3))).setCell ⟨gb303, 4, none⟩ (.int .i64 ((rd_T39 t299 x27_1).f4))).setCell ⟨gb303, 5, none⟩ (.int .i64 ((rd_T39 t299 x27_1).f5)))) := ⟨by repeat (first | (with_reducible first | exact HB.out | apply below_alloc | apply pw_below_drewN | apply below_drew1 | refine below_set ?_ GE294.out | refine below_set ?_ GE303.out) | exact HB.out)⟩
        (try clear HO_4)
        (try clear HO_25)
        (try clear HO_295004)
        (try clear BK294)
        (try clear BK303)
        (try clear HB)
        generalize ((((((w22.setCell ⟨gb303, 0, none⟩ (.int .i64 ((rd_T39 t299 x27_1).f0))).setCell ⟨gb303, 1, none⟩ (.int .i64 ((rd_T39 t299 x27_1).f1))).setCell ⟨gb303, 2, none⟩ (.int .i64 ((rd_T39 t299 x27_1).f2))).setCell ⟨gb303, 3, none⟩ (.int .i64 ((rd_T39 t299 x27_1).f3))).setCell ⟨gb303, 4, none⟩ (.int .i64 ((rd_T39 t299 x27_1).f4))).setCell ⟨gb303, 5, none⟩ (.int .i64 ((rd_T39 t299 x27_1).f5))) = w25 at n0_ n1_ n2_ n3_ n4_ n5_ ⊢
        have HO_4 := n0_
        have HO_25 := n1_
        have HO_295004 := n2_
        have BK294 := n3_
        have BK303 := n4_
        have HB := n5_
        clear n0_ n1_ n2_ n3_ n4_ n5_
        have n0_ := Aside0.mk (Kd.S_drew HO_4.out)
        have n1_ := Aside0.mk (Kd.R_drew HO_25.out)
        have n2_ := Aside0.mk (Kd.R_drew HO_295004.out)
        have n3_ := Aside0.mk (blk_drew BK294.out)
        have n4_ := Aside0.mk (blk_drew BK303.out)
        have n5_ := Aside0.mk (below_drew1 HB.out)
        clear HO_4
        clear HO_25
        clear HO_295004
        clear BK294
        clear BK303
        clear HB
        have HO_4 := n0_
        have HO_25 := n1_
        have HO_295004 := n2_
        have BK294 := n3_
        have BK303 := n4_
        have HB := n5_
        clear n0_ n1_ n2_ n3_ n4_ n5_
        obtain ⟨Ao27, co27, eo27⟩ := Kd.S_slice HO_4.out
        (first | subst eo27 | (injection eo27 with f1_ f2_ f3_; have f4_ := f1_.symm; have f5_ := f3_.symm; clear f1_ f2_ f3_; subst f4_; subst f5_))
        refine start_ (n := 24) (S := fun w' => True) (ds := []) #[false, false, false, false, false, false, false, false, false, false, false, false, false, false, false, false, false, false, false, false, false, false, false, false] (by kernel_rfl) rfl rfl trivial (fun hHeld => ?_); refine with_tabW laws_FnPasses.tab11 laws_FnPasses.bits11 (fun HT_ HW_ => ?_)
        generalize w25.drew = w26 at HO_4 HO_25 HO_295004 BK294 BK303 HB hHeld ⊢
        refine pure_ (i := 0) (N := some 32) (v := ?_) (a' := ?_) #[true, false, false, false, false, false, false, false, false, false, false, false, false, false, false, false, false, false, false, false, false, false, false, false] rfl rfl (any_of HT_.out (by kernel_rfl)) (fun _ _ _ h => h) (Or.inl ⟨by rfl, ?_⟩) ?_ ?_
        rotate_left
        · intro w'
          go_simp
          with_reducible rfl
        rotate_left
        · simp only [Act.put, List.setIfInBounds_toArray, List.set_cons_zero, List.set_cons_succ, i64_w, i32_w]
          rfl
        refine pure_ (i := 1) (N := some 33) (v := ?_) (a' := ?_) #[true, true, false, false, false, false, false, false, false, false, false, false, false, false, false, false, false, false, false, false, false, false, false, false] rfl rfl (any_of HT_.out (by kernel_rfl)) (fun _ _ _ h => h) (Or.inl ⟨by rfl, ?_⟩) ?_ ?_
        rotate_left
        · intro w'
          go_simp
          with_reducible rfl
        rotate_left
        · simp only [Act.put, List.setIfInBounds_toArray, List.set_cons_zero, List.set_cons_succ, i64_w, i32_w]
          rfl
        refine pure_ (i := 2) (N := some 34) (v := ?_) (a' := ?_) #[true, true, true, false, false, false, false, false, false, false, false, false, false, false, false, false, false, false, false, false, false, false, false, false] rfl rfl (any_of HT_.out (by kernel_rfl)) (fun _ _ _ h => h) (Or.inl ⟨by rfl, ?_⟩) ?_ ?_
        rotate_left
        · intro w'
          go_simp
          with_reducible rfl
        rotate_left
        · simp only [Act.put, List.setIfInBounds_toArray, List.set_cons_zero, List.set_cons_succ, i64_w, i32_w]
          rfl
        refine pure_ (i := 3) (N := some 35) (v := ?_) (a' := ?_) #[true, true, true, true, false, false, false, false, false, false, false, false, false, false, false, false, false, false, false, false, false, false, false, false] rfl rfl (any_of HT_.out (by kernel_rfl)) (fun _ _ _ h => h) (Or.inl ⟨by rfl, ?_⟩) ?_ ?_
        rotate_left
        · intro w'
          go_simp
          with_reducible rfl
        rotate_left
        · simp only [Act.put, List.setIfInBounds_toArray, List.set_cons_zero, List.set_cons_succ, i64_w, i32_w]
          rfl
        refine pure_ (i := 4) (N := some 36) (v := ?_) (a' := ?_) #[true, true, true, true, true, false, false, false, false, false, false, false, false, false, false, false, false, false, false, false, false, false, false, false] rfl rfl (any_of HT_.out (by kernel_rfl)) (fun _ _ _ h => h) (Or.inl ⟨by rfl, ?_⟩) ?_ ?_
        rotate_left
        · intro w'
          go_simp
          with_reducible rfl
        rotate_left
        · simp only [Act.put, List.setIfInBounds_toArray, List.set_cons_zero, List.set_cons_succ, i64_w, i32_w]
          rfl
        refine pure_ (i := 5) (N := some 37) (v := undef) (a' := ?_) #[true, true, true, true, true, true, false, false, false, false, false, false, false, false, false, false, false, false, false, false, false, false, false, false] rfl rfl (any_of HT_.out (by kernel_rfl)) (fun _ _ _ h => h) (Or.inr ⟨by rfl, rfl⟩) ?_ ?_
        rotate_left
        · simp only [Act.put, List.setIfInBounds_toArray, List.set_cons_zero, List.set_cons_succ, i64_w, i32_w]
          rfl
        refine pure_ (i := 6) (N := some 38) (v := undef) (a' := ?_) #[true, true, true, true, true, true, true, false, false, false, false, false, false, false, false, false, false, false, false, false, false, false, false, false] rfl rfl (any_of HT_.out (by kernel_rfl)) (fun _ _ _ h => h) (Or.inr ⟨by rfl, rfl⟩) ?_ ?_
        rotate_left
        · simp only [Act.put, List.setIfInBounds_toArray, List.set_cons_zero, List.set_cons_succ, i64_w, i32_w]
          rfl
        refine pure_ (i := 7) (N := some 39) (v := undef) (a' := ?_) #[true, true, true, true, true, true, true, true, false, false, false, false, false, false, false, false, false, false, false, false, false, false, false, false] rfl rfl (any_of HT_.out (by kernel_rfl)) (fun _ _ _ h => h) (Or.inr ⟨by rfl, rfl⟩) ?_ ?_
        rotate_left
        · simp only [Act.put, List.setIfInBounds_toArray, List.set_cons_zero, List.set_cons_succ, i64_w, i32_w]
          rfl
        refine pure_ (i := 8) (N := some 40) (v := undef) (a' := ?_) #[true, true, true, true, true, true, true, true, true, false, false, false, false, false, false, false, false, false, false, false, false, false, false, false] rfl rfl (any_of HT_.out (by kernel_rfl)) (fun _ _ _ h => h) (Or.inr ⟨by rfl, rfl⟩) ?_ ?_
        rotate_left
        · simp only [Act.put, List.setIfInBounds_toArray, List.set_cons_zero, List.set_cons_succ, i64_w, i32_w]
          rfl
        refine pure_ (i := 9) (N := some 41) (v := undef) (a' := ?_) #[true, true, true, true, true, true, true, true, true, true, false, false, false, false, false, false, false, false, false, false, false, false, false, false] rfl rfl (any_of HT_.out (by kernel_rfl)) (fun _ _ _ h => h) (Or.inr ⟨by rfl, rfl⟩) ?_ ?_
        rotate_left
        · simp only [Act.put, List.setIfInBounds_toArray, List.set_cons_zero, List.set_cons_succ, i64_w, i32_w]
          rfl
        refine pure_ (i := 10) (N := some 42) (v := undef) (a' := ?_) #[true, true, true, true, true, true, true, true, true, true, true, false, false, false, false, false, false, false, false, false, false, false, false, false] rfl rfl (any_of HT_.out (by kernel_rfl)) (fun _ _ _ h => h) (Or.inr ⟨by rfl, rfl⟩) ?_ ?_
        rotate_left
        · simp only [Act.put, List.setIfInBounds_toArray, List.set_cons_zero, List.set_cons_succ, i64_w, i32_w]
          rfl
        refine pure_ (i := 11) (N := some 43) (v := undef) (a' := ?_) #[true, true, true, true, true, true, true, true, true, true, true, true, false, false, false, false, false, false, false, false, false, false, false, false] rfl rfl (any_of HT_.out (by kernel_rfl)) (fun _ _ _ h => h) (Or.inr ⟨by rfl, rfl⟩) ?_ ?_
        rotate_left
        · simp only [Act.put, List.setIfInBounds_toArray, List.set_cons_zero, List.set_cons_succ, i64_w, i32_w]
          rfl
        refine pure_ (i := 12) (N := some 44) (v := undef) (a' := ?_) #[true, true, true, true, true, true, true, true, true, true, true, true, true, false, false, false, false, false, false, false, false, false, false, false] rfl rfl (any_of HT_.out (by kernel_rfl)) (fun _ _ _ h => h) (Or.inr ⟨by rfl, rfl⟩) ?_ ?_
        rotate_left
        · simp only [Act.put, List.setIfInBounds_toArray, List.set_cons_zero, List.set_cons_succ, i64_w, i32_w]
          rfl
        refine pure_ (i := 13) (N := some 45) (v := ?_) (a' := ?_) #[true, true, true, true, true, true, true, true, true, true, true, true, true, true, false, false, false, false, false, false, false, false, false, false] rfl rfl (any_of HT_.out (by kernel_rfl)) (fun _ _ _ h => h) (Or.inl ⟨by rfl, ?_⟩) ?_ ?_
        rotate_left
        · intro w'
          go_simp
          with_reducible rfl
        rotate_left
        · simp only [Act.put, List.setIfInBounds_toArray, List.set_cons_zero, List.set_cons_succ, i64_w, i32_w]
          rfl
        refine pure_ (i := 14) (N := some 46) (v := ?_) (a' := ?_) #[true, true, true, true, true, true, true, true, true, true, true, true, true, true, true, false, false, false, false, false, false, false, false, false] rfl rfl (any_of HT_.out (by kernel_rfl)) (fun _ _ _ h => h) (Or.inl ⟨by rfl, ?_⟩) ?_ ?_
        rotate_left
        · intro w'
          go_simp
          with_reducible rfl
        rotate_left
        · simp only [Act.put, List.setIfInBounds_toArray, List.set_cons_zero, List.set_cons_succ, i64_w, i32_w]
          rfl
        refine pure_ (i := 15) (N := some 47) (v := undef) (a' := ?_) #[true, true, true, true, true, true, true, true, true, true, true, true, true, true, true, true, false, false, false, false, false, false, false, false] rfl rfl (any_of HT_.out (by kernel_rfl)) (fun _ _ _ h => h) (Or.inr ⟨by rfl, rfl⟩) ?_ ?_
        rotate_left
        · simp only [Act.put, List.setIfInBounds_toArray, List.set_cons_zero, List.set_cons_succ, i64_w, i32_w]
          rfl
        refine pure_ (i := 16) (N := some 48) (v := undef) (a' := ?_) #[true, true, true, true, true, true, true, true, true, true, true, true, true, true, true, true, true, false, false, false, false, false, false, false] rfl rfl (any_of HT_.out (by kernel_rfl)) (fun _ _ _ h => h) (Or.inr ⟨by rfl, rfl⟩) ?_ ?_
        rotate_left
        · simp only [Act.put, List.setIfInBounds_toArray, List.set_cons_zero, List.set_cons_succ, i64_w, i32_w]
          rfl
        refine pure_ (i := 17) (N := some 49) (v := undef) (a' := ?_) #[true, true, true, true, true, true, true, true, true, true, true, true, true, true, true, true, true, true, false, false, false, false, false, false] rfl rfl (any_of HT_.out (by kernel_rfl)) (fun _ _ _ h => h) (Or.inr ⟨by rfl, rfl⟩) ?_ ?_
        rotate_left
        · simp only [Act.put, List.setIfInBounds_toArray, List.set_cons_zero, List.set_cons_succ, i64_w, i32_w]
          rfl
        refine pure_ (i := 18) (N := some 50) (v := undef) (a' := ?_) #[true, true, true, true, true, true, true, true, true, true, true, true, true, true, true, true, true, true, true, false, false, false, false, false] rfl rfl (any_of HT_.out (by kernel_rfl)) (fun _ _ _ h => h) (Or.inr ⟨by rfl, rfl⟩) ?_ ?_
        rotate_left
        · simp only [Act.put, List.setIfInBounds_toArray, List.set_cons_zero, List.set_cons_succ, i64_w, i32_w]
          rfl
        refine pure_ (i := 19) (N := some 51) (v := undef) (a' := ?_) #[true, true, true, true, true, true, true, true, true, true, true, true, true, true, true, true, true, true, true, true, false, false, false, false] rfl rfl (any_of HT_.out (by kernel_rfl)) (fun _ _ _ h => h) (Or.inr ⟨by rfl, rfl⟩) ?_ ?_
        rotate_left
        · simp only [Act.put, List.setIfInBounds_toArray, List.set_cons_zero, List.set_cons_succ, i64_w, i32_w]
          rfl
        refine pure_ (i := 20) (N := some 52) (v := undef) (a' := ?_) #[true, true, true, true, true, true, true, true, true, true, true, true, true, true, true, true, true, true, true, true, true, false, false, false] rfl rfl (any_of HT_.out (by kernel_rfl)) (fun _ _ _ h => h) (Or.inr ⟨by rfl, rfl⟩) ?_ ?_
        rotate_left
        · simp only [Act.put, List.setIfInBounds_toArray, List.set_cons_zero, List.set_cons_succ, i64_w, i32_w]
          rfl
        refine pure_ (i := 21) (N := some 53) (v := undef) (a' := ?_) #[true, true, true, true, true, true, true, true, true, true, true, true, true, true, true, true, true, true, true, true, true, true, false, false] rfl rfl (any_of HT_.out (by kernel_rfl)) (fun _ _ _ h => h) (Or.inr ⟨by rfl, rfl⟩) ?_ ?_
        rotate_left
        · simp only [Act.put, List.setIfInBounds_toArray, List.set_cons_zero, List.set_cons_succ, i64_w, i32_w]
          rfl
        refine pure_ (i := 22) (N := some 54) (v := undef) (a' := ?_) #[true, true, true, true, true, true, true, true, true, true, true, true, true, true, true, true, true, true, true, true, true, true, true, false] rfl rfl (any_of HT_.out (by kernel_rfl)) (fun _ _ _ h => h) (Or.inr ⟨by rfl, rfl⟩) ?_ ?_
        rotate_left
        · simp only [Act.put, List.setIfInBounds_toArray, List.set_cons_zero, List.set_cons_succ, i64_w, i32_w]
          rfl
        refine pure_ (i := 23) (N := some 55) (v := ?_) (a' := ?_) #[true, true, true, true, true, true, true, true, true, true, true, true, true, true, true, true, true, true, true, true, true, true, true, true] rfl rfl (any_of HT_.out (by kernel_rfl)) (fun _ _ _ h => h) (Or.inl ⟨by rfl, ?_⟩) ?_ ?_
        rotate_left
        · intro w'
          go_simp
          with_reducible rfl
        rotate_left
        · simp only [Act.put, List.setIfInBounds_toArray, List.set_cons_zero, List.set_cons_succ, i64_w, i32_w]
          rfl
        refine done_ (done_of HT_.out (by kernel_rfl)) ?_
        try go_wp2
        go_ret
        exact ⟨by first | rfl | (simp [errW_none, errW_some] <;> rfl) | (simp [*, errW_none, errW_some] <;> rfl), by repeat (first | (with_reducible first | exact HB.out | apply below_alloc | apply pw_below_drewN | apply below_drew1 | refine below_set ?_ GE294.out | refine below_set ?_ GE303.out) | exact HB.out)⟩
      rw [if_neg c21] at H
      have c21b0 : decide ((t295.length : Int) ≤ x27_1) = false := decide_eq_false c21
      clear c21
      by_cases c28 : x27_1 < (t295.length : Int)
      rotate_left
      · rw [if_neg c28] at H
        exact absurd H (by simp)
      rw [if_pos c28] at H
      have c28b0 : decide (x27_1 < (t295.length : Int)) = true := decide_eq_true c28
      clear c28
      by_cases c29 : ((rd_T31 t295 x27_1).f0) = ((rd_T39 t299 x27_1).f4)
      rotate_left
      · rw [if_neg c29] at H
        have c29b0 : (((rd_T31 t295 x27_1).f0) == ((rd_T39 t299 x27_1).f4)) = false := beq_eq_false_iff_ne.mpr c29
        have c29b1 : (((rd_T31 t295 x27_1).f0) != ((rd_T39 t299 x27_1).f4)) = true := bne_iff_ne.mpr c29
        obtain rfl := Option.some.inj H
        have p302 : 0 ≤ (x27_1 : Int) := of_decide_eq_true (by first | (with_reducible assumption) | assumption)
        have q302 : x27_1 < (t299.length : Int) := of_decide_eq_true (by first | (with_reducible assumption) | assumption)
        obtain ⟨ad302, e302, hx302_0, hx302_1, hx302_2, hx302_3, hx302_4, hx302_5⟩ := at_T39 (Kd.R_reads' HO_25.out).2.2 x27_1 p302 q302
        cases e302
        replace p302 := eq_true p302
        replace q302 := eq_true q302
        try go_wp2_with (first | ((with_reducible refine gate_dst (N := 7) rfl ?_); refine box_event ?hg (N := 7) ?hd (cs := #[.int .i64 0, .int .i64 0, .int .i64 0, .int .i64 0, .int .i64 0, .int .i64 0]) (t := 39) ?hr ?_; (case hd => rfl); (case hg => rfl); (case hr => first | (go_simp; done) | (go_simp; rfl)); intro gb303 hg w44 hbox hb; have n0_ := Aside0.mk (Kd.S_below (by (with_reducible repeat (first | apply Kd.S_alloc | apply Kd.S_drewN | apply Kd.S_drew)); exact HO_4.out) hb); have n1_ := Aside0.mk (Kd.R_below (Kd.R_elderB (by (with_reducible repeat (first | apply Kd.R_alloc | apply Kd.R_drewN | apply Kd.R_drew)); exact HO_25.out) gb303 (Nat.le_of_eq hg.symm)) hb); have n2_ := Aside0.mk (Kd.R_below (by (with_reducible repeat (first | apply Kd.R_alloc | apply Kd.R_drewN | apply Kd.R_drew)); exact HO_295004.out) hb); have n3_ := Aside0.mk (blk_below (g := gb294) (o := .cells #[.int .i64 t287, .int .i64 t288, .int .i64 t289, .int .i64 t290, .slice Ao11 t291.length co11] 31 (0, 0)) (by (with_reducible repeat (first | refine blk_drewN ?_ _ | refine blk_drew ?_ | refine blk_alloc ?_ _)); exact BK294.out) hb); have n4_ := Aside0.mk (below_step (by repeat (first | (with_reducible first | exact HB.out | apply below_alloc | apply pw_below_drewN | apply below_drew1 | refine below_set ?_ GE294.out) | exact HB.out)) hb); have n5_ := Aside0.mk (hbox); have n6_ := Aside0.mk ((by rw [hg]; exact (below_size (by repeat (first | (with_reducible first | exact HB.out | apply below_alloc | apply pw_below_drewN | apply below_drew1 | refine below_set ?_ GE294.out) | exact HB.out))) : w.heap.size ≤ gb303)); have n7_ := n6_; have n8_ := Aside0.mk ((by rw [hg]; exact Nat.ne_of_lt (blk_lt (g := gb294) (o := .cells #[.int .i64 t287, .int .i64 t288, .int .i64 t289, .int .i64 t290, .slice Ao11 t291.length co11] 31 (0, 0)) (by (with_reducible repeat (first | refine blk_drewN ?_ _ | refine blk_drew ?_ | refine blk_alloc ?_ _)); exact BK294.out)) : gb294 ≠ gb303)); have n9_ := Aside0.mk ((by rw [hg]; exact Nat.ne_of_gt (blk_lt (g := gb294) (o := .cells #[.int .i64 t287, .int .i64 t288, .int .i64 t289, .int .i64 t290, .slice Ao11 t291.length co11] 31 (0, 0)) (by (with_reducible repeat (first | refine blk_drewN ?_ _ | refine blk_drew ?_ | refine blk_alloc ?_ _)); exact BK294.out)) : gb303 ≠ gb294)); clear HO_4; clear HO_25; clear HO_295004; clear BK294; clear HB; have HO_4 := n0_; have HO_25 := n1_; have HO_295004 := n2_; have BK294 := n3_; have HB := n4_; have BK303 := n5_; have GW303 := n6_; have GE303 := n7_; have NB294_303 := n8_; have NB303_294 := n9_; clear n0_ n1_ n2_ n3_ n4_ n5_ n6_ n7_ n8_ n9_; clear hb hbox hg; have hnb45 := NB303_294.out; have hnc45 := NB294_303.out; have hcz46_0 : w44.cell? ⟨gb303, 0, none⟩ = some (.int .i64 0) := (blk_cell BK303.out 0).trans rfl; have hcz46_1 : w44.cell? ⟨gb303, 1, none⟩ = some (.int .i64 0) := (blk_cell BK303.out 1).trans rfl; have hcz46_2 : w44.cell? ⟨gb303, 2, none⟩ = some (.int .i64 0) := (blk_cell BK303.out 2).trans rfl; have hcz46_3 : w44.cell? ⟨gb303, 3, none⟩ = some (.int .i64 0) := (blk_cell BK303.out 3).trans rfl; have hcz46_4 : w44.cell? ⟨gb303, 4, none⟩ = some (.int .i64 0) := (blk_cell BK303.out 4).trans rfl; have hcz46_5 : w44.cell? ⟨gb303, 5, none⟩ = some (.int .i64 0) := (blk_cell BK303.out 5).trans rfl; have hfz46_0 := blk_frozen BK303.out 0; have hfz46_1 := blk_frozen BK303.out 1; have hfz46_2 := blk_frozen BK303.out 2; have hfz46_3 := blk_frozen BK303.out 3; have hfz46_4 := blk_frozen BK303.out 4; have hfz46_5 := blk_frozen BK303.out 5))
        have n0_ : Aside0 (Kd.S k31 31 ((((((w44.setCell ⟨gb303, 0, none⟩ (.int .i64 ((rd_T39 t299 x27_1).f0))).setCell ⟨gb303, 1, none⟩ (.int .i64 ((rd_T39 t299 x27_1).f1))).setCell ⟨gb303, 2, none⟩ (.int .i64 ((rd_T39 t299 x27_1).f2))).setCell ⟨gb303, 3, none⟩ (.int .i64 ((rd_T39 t299 x27_1).f3))).setCell ⟨gb303, 4, none⟩ (.int .i64 ((rd_T39 t299 x27_1).f4))).setCell ⟨gb303, 5, none⟩ (.int .i64 ((rd_T39 t299 x27_1).f5))) w.heap.size (fun k_ => some k_ ≠ (.slice Ao11 t291.length co11 : Value).ownBlock ∧ k_ ≠ gb294) v296 t295) := ⟨by (with_reducible repeat (first | apply Kd.S_alloc | apply Kd.S_drewN | apply Kd.S_drew)); exact Kd.S_mono (Kd.S_far (p := ⟨gb303, 5, none⟩) (Kd.S_far (p := ⟨gb303, 4, none⟩) (Kd.S_far (p := ⟨gb303, 3, none⟩) (Kd.S_far (p := ⟨gb303, 2, none⟩) (Kd.S_far (p := ⟨gb303, 1, none⟩) (Kd.S_far (p := ⟨gb303, 0, none⟩) (Kd.S_types HO_4.out BK303.out (by decide)) (fun _ hk => hk.2) (.int .i64 ((rd_T39 t299 x27_1).f0))) (fun _ hk => hk.2) (.int .i64 ((rd_T39 t299 x27_1).f1))) (fun _ hk => hk.2) (.int .i64 ((rd_T39 t299 x27_1).f2))) (fun _ hk => hk.2) (.int .i64 ((rd_T39 t299 x27_1).f3))) (fun _ hk => hk.2) (.int .i64 ((rd_T39 t299 x27_1).f4))) (fun _ hk => hk.2) (.int .i64 ((rd_T39 t299 x27_1).f5))) (fun _ hk => ⟨hk.1.1, hk.1.2⟩)⟩
        have n1_ : Aside0 (Kd.R k39 39 ((((((w44.setCell ⟨gb303, 0, none⟩ (.int .i64 ((rd_T39 t299 x27_1).f0))).setCell ⟨gb303, 1, none⟩ (.int .i64 ((rd_T39 t299 x27_1).f1))).setCell ⟨gb303, 2, none⟩ (.int .i64 ((rd_T39 t299 x27_1).f2))).setCell ⟨gb303, 3, none⟩ (.int .i64 ((rd_T39 t299 x27_1).f3))).setCell ⟨gb303, 4, none⟩ (.int .i64 ((rd_T39 t299 x27_1).f4))).setCell ⟨gb303, 5, none⟩ (.int .i64 ((rd_T39 t299 x27_1).f5))) w.heap.size (fun k_ => k_ ≠ gb303) (.slice (some ad302) t299.length co17) t299) := ⟨by (with_reducible repeat (first | apply Kd.R_alloc | apply Kd.R_drewN | apply Kd.R_drew)); exact Kd.R_mono (Kd.R_far (p := ⟨gb303, 5, none⟩) (Kd.R_far (p := ⟨gb303, 4, none⟩) (Kd.R_far (p := ⟨gb303, 3, none⟩) (Kd.R_far (p := ⟨gb303, 2, none⟩) (Kd.R_far (p := ⟨gb303, 1, none⟩) (Kd.R_far (p := ⟨gb303, 0, none⟩) (Kd.R_mono HO_25.out (fun k_ hk => (⟨hk, hk.2⟩ : _ ∧ k_ ≠ gb303))) (fun _ hk => hk.2) (.int .i64 ((rd_T39 t299 x27_1).f0))) (fun _ hk => hk.2) (.int .i64 ((rd_T39 t299 x27_1).f1))) (fun _ hk => hk.2) (.int .i64 ((rd_T39 t299 x27_1).f2))) (fun _ hk => hk.2) (.int .i64 ((rd_T39 t299 x27_1).f3))) (fun _ hk => hk.2) (.int .i64 ((rd_T39 t299 x27_1).f4))) (fun _ hk => hk.2) (.int .i64 ((rd_T39 t299 x27_1).f5))) (fun _ hk => hk.1.2)⟩
        have n2_ : Aside0 (Kd.R (Kd.int .i64) 3 ((((((w44.setCell ⟨gb303, 0, none⟩ (.int .i64 ((rd_T39 t299 x27_1).f0))).setCell ⟨gb303, 1, none⟩ (.int .i64 ((rd_T39 t299 x27_1).f1))).setCell ⟨gb303, 2, none⟩ (.int .i64 ((rd_T39 t299 x27_1).f2))).setCell ⟨gb303, 3, none⟩ (.int .i64 ((rd_T39 t299 x27_1).f3))).setCell ⟨gb303, 4, none⟩ (.int .i64 ((rd_T39 t299 x27_1).f4))).setCell ⟨gb303, 5, none⟩ (.int .i64 ((rd_T39 t299 x27_1).f5))) w.heap.size (fun _ => True) (.slice Ao11 t291.length co11) t291) := ⟨by (with_reducible repeat (first | apply Kd.R_alloc | apply Kd.R_drewN | apply Kd.R_drew)); exact Kd.R_mono (Kd.R_far (p := ⟨gb303, 5, none⟩) (Kd.R_far (p := ⟨gb303, 4, none⟩) (Kd.R_far (p := ⟨gb303, 3, none⟩) (Kd.R_far (p := ⟨gb303, 2, none⟩) (Kd.R_far (p := ⟨gb303, 1, none⟩) (Kd.R_far (p := ⟨gb303, 0, none⟩) (Kd.R_types HO_295004.out BK303.out (by decide)) (fun _ hk => hk.2) (.int .i64 ((rd_T39 t299 x27_1).f0))) (fun _ hk => hk.2) (.int .i64 ((rd_T39 t299 x27_1).f1))) (fun _ hk => hk.2) (.int .i64 ((rd_T39 t299 x27_1).f2))) (fun _ hk => hk.2) (.int .i64 ((rd_T39 t299 x27_1).f3))) (fun _ hk => hk.2) (.int .i64 ((rd_T39 t299 x27_1).f4))) (fun _ hk => hk.2) (.int .i64 ((rd_T39 t299 x27_1).f5))) (fun _ hk => trivial)⟩
        have n3_ : Aside0 (((((((w44.setCell ⟨gb303, 0, none⟩ (.int .i64 ((rd_T39 t299 x27_1).f0))).setCell ⟨gb303, 1, none⟩ (.int .i64 ((rd_T39 t299 x27_1).f1))).setCell ⟨gb303, 2, none⟩ (.int .i64 ((rd_T39 t299 x27_1).f2))).setCell ⟨gb303, 3, none⟩ (.int .i64 ((rd_T39 t299 x27_1).f3))).setCell ⟨gb303, 4, none⟩ (.int .i64 ((rd_T39 t299 x27_1).f4))).setCell ⟨gb303, 5, none⟩ (.int .i64 ((rd_T39 t299 x27_1).f5))).heap[gb294]? = some (.cells #[.int .i64 t287, .int .i64 t288, .int .i64 t289, .int .i64 t290, .slice Ao11 t291.length co11] 31 (0, 0))) := ⟨by (with_reducible repeat (first | refine blk_drewN ?_ _ | refine blk_drew ?_ | refine blk_alloc ?_ _)); refine blk_far ?_ NB294_303.out _; (with_reducible repeat (first | refine blk_drewN ?_ _ | refine blk_drew ?_ | refine blk_alloc ?_ _)); refine blk_far ?_ NB294_303.out _; (with_reducible repeat (first | refine blk_drewN ?_ _ | refine blk_drew ?_ | refine blk_alloc ?_ _)); refine blk_far ?_ NB294_303.out _; (with_reducible repeat (first | refine blk_drewN ?_ _ | refine blk_drew ?_ | refine blk_alloc ?_ _)); refine blk_far ?_ NB294_303.out _; (with_reducible repeat (first | refine blk_drewN ?_ _ | refine blk_drew ?_ | refine blk_alloc ?_ _)); refine blk_far ?_ NB294_303.out _; (with_reducible repeat (first | refine blk_drewN ?_ _ | refine blk_drew ?_ | refine blk_alloc ?_ _)); refine blk_far ?_ NB294_303.out _; (with_reducible repeat (first | refine blk_drewN ?_ _ | refine blk_drew ?_ | refine blk_alloc ?_ _)); exact BK294.out⟩
        have n4_ : Aside0 (((((((w44.setCell ⟨gb303, 0, none⟩ (.int .i64 ((rd_T39 t299 x27_1).f0))).setCell ⟨gb303, 1, none⟩ (.int .i64 ((rd_T39 t299 x27_1).f1))).setCell ⟨gb303, 2, none⟩ (.int .i64 ((rd_T39 t299 x27_1).f2))).setCell ⟨gb303, 3, none⟩ (.int .i64 ((rd_T39 t299 x27_1).f3))).setCell ⟨gb303, 4, none⟩ (.int .i64 ((rd_T39 t299 x27_1).f4))).setCell ⟨gb303, 5, none⟩ (.int .i64 ((rd_T39 t299 x27_1).f5))).heap[gb303]? = some (.cells #[.int .i64 ((rd_T39 t299 x27_1).f0), .int .i64 ((rd_T39 t299 x27_1).f1), .int .i64 ((rd_T39 t299 x27_1).f2), .int .i64 ((rd_T39 t299 x27_1).f3), .int .i64 ((rd_T39 t299 x27_1).f4), .int .i64 ((rd_T39 t299 x27_1).f5)] 39 (0, 0))) := ⟨by (with_reducible repeat (first | refine blk_drewN ?_ _ | refine blk_drew ?_ | refine blk_alloc ?_ _)); refine blk_put (cs := #[.int .i64 ((rd_T39 t299 x27_1).f0), .int .i64 ((rd_T39 t299 x27_1).f1), .int .i64 ((rd_T39 t299 x27_1).f2), .int .i64 ((rd_T39 t299 x27_1).f3), .int .i64 ((rd_T39 t299 x27_1).f4), .int .i64 0]) ?_ 5 _ rfl; (with_reducible repeat (first | refine blk_drewN ?_ _ | refine blk_drew ?_ | refine blk_alloc ?_ _)); refine blk_put (cs := #[.int .i64 ((rd_T39 t299 x27_1).f0), .int .i64 ((rd_T39 t299 x27_1).f1), .int .i64 ((rd_T39 t299 x27_1).f2), .int .i64 ((rd_T39 t299 x27_1).f3), .int .i64 0, .int .i64 0]) ?_ 4 _ rfl; (with_reducible repeat (first | refine blk_drewN ?_ _ | refine blk_drew ?_ | refine blk_alloc ?_ _)); refine blk_put (cs := #[.int .i64 ((rd_T39 t299 x27_1).f0), .int .i64 ((rd_T39 t299 x27_1).f1), .int .i64 ((rd_T39 t299 x27_1).f2), .int .i64 0, .int .i64 0, .int .i64 0]) ?_ 3 _ rfl; (with_reducible repeat (first | refine blk_drewN ?_ _ | refine blk_drew ?_ | refine blk_alloc ?_ _)); refine blk_put (cs := #[.int .i64 ((rd_T39 t299 x27_1).f0), .int .i64 ((rd_T39 t299 x27_1).f1), .int .i64 0, .int .i64 0, .int .i64 0, .int .i64 0]) ?_ 2 _ rfl; (with_reducible repeat (first | refine blk_drewN ?_ _ | refine blk_drew ?_ | refine blk_alloc ?_ _)); refine blk_put (cs := #[.int .i64 ((rd_T39 t299 x27_1).f0), .int .i64 0, .int .i64 0, .int .i64 0, .int .i64 0, .int .i64 0]) ?_ 1 _ rfl; (with_reducible repeat (first | refine blk_drewN ?_ _ | refine blk_drew ?_ | refine blk_alloc ?_ _)); refine blk_put (cs := #[.int .i64 0, .int .i64 0, .int .i64 0, .int .i64 0, .int .i64 0, .int .i64 0]) ?_ 0 _ rfl; (with_reducible repeat (first | refine blk_drewN ?_ _ | refine blk_drew ?_ | refine blk_alloc ?_ _)); exact BK303.out⟩
        have n5_ : Aside0 (Below w.heap.size w ((((((w44.setCell ⟨gb303, 0, none⟩ (.int .i64 ((rd_T39 t299 x27_1).f0))).setCell ⟨gb303, 1, none⟩ (.int .i64 ((rd_T39 t299 x27_1).f1))).setCell ⟨gb303, 2, none⟩ (.int .i64 ((rd_T39 t299 x27_1).f2))).setCell ⟨gb303, 3, none⟩ (.int .i64 ((rd_T39 t299 x27_1).f3))).setCell ⟨gb303, 4, none⟩ (.int .i64 ((rd_T39 t299 x27_1).f4))).setCell ⟨gb303, 5, none⟩ (.int .i64 ((rd_T39 t299 x27_1).f5)))) := ⟨by repeat (first | (with_reducible first | exact HB.out | apply below_alloc | apply pw_below_drewN | apply below_drew1 | refine below_set ?_ GE294.out | refine below_set ?_ GE303.out) | exact HB.out)⟩
        (try clear HO_4)
        (try clear HO_25)
        (try clear HO_295004)
        (try clear BK294)
        (try clear BK303)
        (try clear HB)
        generalize ((((((w44.setCell ⟨gb303, 0, none⟩ (.int .i64 ((rd_T39 t299 x27_1).f0))).setCell ⟨gb303, 1, none⟩ (.int .i64 ((rd_T39 t299 x27_1).f1))).setCell ⟨gb303, 2, none⟩ (.int .i64 ((rd_T39 t299 x27_1).f2))).setCell ⟨gb303, 3, none⟩ (.int .i64 ((rd_T39 t299 x27_1).f3))).setCell ⟨gb303, 4, none⟩ (.int .i64 ((rd_T39 t299 x27_1).f4))).setCell ⟨gb303, 5, none⟩ (.int .i64 ((rd_T39 t299 x27_1).f5))) = w47 at n0_ n1_ n2_ n3_ n4_ n5_ ⊢
        have HO_4 := n0_
        have HO_25 := n1_
        have HO_295004 := n2_
        have BK294 := n3_
        have BK303 := n4_
        have HB := n5_
        clear n0_ n1_ n2_ n3_ n4_ n5_
        have n0_ := Aside0.mk (Kd.S_drew HO_4.out)
        have n1_ := Aside0.mk (Kd.R_drew HO_25.out)
        have n2_ := Aside0.mk (Kd.R_drew HO_295004.out)
        have n3_ := Aside0.mk (blk_drew BK294.out)
        have n4_ := Aside0.mk (blk_drew BK303.out)
        have n5_ := Aside0.mk (below_drew1 HB.out)
        clear HO_4
        clear HO_25
        clear HO_295004
        clear BK294
        clear BK303
        clear HB
        have HO_4 := n0_
        have HO_25 := n1_
        have HO_295004 := n2_
        have BK294 := n3_
        have BK303 := n4_
        have HB := n5_
        clear n0_ n1_ n2_ n3_ n4_ n5_
        obtain ⟨Ao49, co49, eo49⟩ := Kd.S_slice HO_4.out
        (first | subst eo49 | (injection eo49 with f1_ f2_ f3_; have f4_ := f1_.symm; have f5_ := f3_.symm; clear f1_ f2_ f3_; subst f4_; subst f5_))
        have p304 : 0 ≤ (x27_1 : Int) := of_decide_eq_true (by first | (with_reducible assumption) | assumption)
        have q304 : x27_1 < (t295.length : Int) := of_decide_eq_true (by first | (with_reducible assumption) | assumption)
        obtain ⟨ad304, A304_4, c304_4, e304, hx304_0, hx304_1, hx304_2, hx304_3, hx304_4, hl304_4, hi304_4⟩ := at_T31 (Kd.S_reads' HO_4.out).2.2 x27_1 p304 q304
        cases e304
        obtain ⟨ce304, hce304, hMe304, hcc304⟩ := Kd.S_get HO_4.out z31 x27_1 p304 (by first | exact q304 | exact of_decide_eq_true (by first | (with_reducible assumption) | assumption) | (have e_ := (Kd.S_reads' HO_4.out).1; omega))
        obtain ⟨ve304_4, rfl, ge304_4⟩ := k31_openM hMe304
        have hv304_4 := hcc304 4 _ rfl
        rw [add_field _ _ 4 (by omega)] at hv304_4
        replace hv304_4 := Option.some.inj (hv304_4.symm.trans hx304_4)
        rw [hv304_4] at ge304_4
        have HL304_4 := Aside0.mk (show Kd.R (Kd.int .i64) 3 _ _ _ _ ((rd_T31 t295 x27_1).f4) from ge304_4)
        clear hv304_4 ge304_4
        clear hcc304 hce304
        have HR304_4 := Aside0.mk hi304_4
        have HC304_4 := Aside0.mk hl304_4
        clear hi304_4 hl304_4
        replace p304 := eq_true p304
        replace q304 := eq_true q304
        refine start_ (n := 24) (S := fun w' => w'.cell? ⟨gb303, 0, none⟩ = some (.int .i64 ((rd_T39 t299 x27_1).f0)) ∧ w'.cell? ⟨gb303, 1, none⟩ = some (.int .i64 ((rd_T39 t299 x27_1).f1)) ∧ w'.cell? ⟨gb303, 2, none⟩ = some (.int .i64 ((rd_T39 t299 x27_1).f2)) ∧ w'.cell? ⟨gb303, 3, none⟩ = some (.int .i64 ((rd_T39 t299 x27_1).f3)) ∧ w'.cell? ⟨gb303, 4, none⟩ = some (.int .i64 ((rd_T39 t299 x27_1).f4)) ∧ w'.cell? ⟨gb303, 5, none⟩ = some (.int .i64 ((rd_T39 t299 x27_1).f5)) ∧ w'.cell? (ad304.add ((x27_1).toNat * 5)) = some (.int .i64 ((rd_T31 t295 x27_1).f0)) ∧ w'.cell? ⟨(ad304.add ((x27_1).toNat * 5)).block, (ad304.add ((x27_1).toNat * 5)).off + 1, none⟩ = some (.int .i64 ((rd_T31 t295 x27_1).f1)) ∧ w'.cell? ⟨(ad304.add ((x27_1).toNat * 5)).block, (ad304.add ((x27_1).toNat * 5)).off + 2, none⟩ = some (.int .i64 ((rd_T31 t295 x27_1).f2)) ∧ w'.cell? ⟨(ad304.add ((x27_1).toNat * 5)).block, (ad304.add ((x27_1).toNat * 5)).off + 3, none⟩ = some (.int .i64 ((rd_T31 t295 x27_1).f3)) ∧ w'.cell? ⟨(ad304.add ((x27_1).toNat * 5)).block, (ad304.add ((x27_1).toNat * 5)).off + 4, none⟩ = some (.slice A304_4 ((rd_T31 t295 x27_1).f4).length c304_4)) (ds := []) #[false, false, false, false, false, false, false, false, false, false, false, false, false, false, false, false, false, false, false, false, false, false, false, false] (by kernel_rfl) rfl rfl ⟨(blk_cell BK303.out 0).trans rfl, (blk_cell BK303.out 1).trans rfl, (blk_cell BK303.out 2).trans rfl, (blk_cell BK303.out 3).trans rfl, (blk_cell BK303.out 4).trans rfl, (blk_cell BK303.out 5).trans rfl, hx304_0, hx304_1, hx304_2, hx304_3, hx304_4⟩ (fun hHeld => ?_); refine with_tabW laws_FnPasses.tab11 laws_FnPasses.bits11 (fun HT_ HW_ => ?_)
        generalize w47.drew = w48 at HO_4 HO_25 HO_295004 BK294 BK303 HB HL304_4 HR304_4 hx304_0 hx304_1 hx304_2 hx304_3 hx304_4 hHeld ⊢
        refine pure_ (i := 0) (N := some 32) (v := ?_) (a' := ?_) #[true, false, false, false, false, false, false, false, false, false, false, false, false, false, false, false, false, false, false, false, false, false, false, false] rfl rfl (any_of HT_.out (by kernel_rfl)) (fun _ _ _ h => h) (Or.inl ⟨by rfl, ?_⟩) ?_ ?_
        rotate_left
        · intro w'
          go_simp
          with_reducible rfl
        rotate_left
        · simp only [Act.put, List.setIfInBounds_toArray, List.set_cons_zero, List.set_cons_succ, i64_w, i32_w]
          rfl
        refine pure_ (i := 1) (N := some 33) (v := ?_) (a' := ?_) #[true, true, false, false, false, false, false, false, false, false, false, false, false, false, false, false, false, false, false, false, false, false, false, false] rfl rfl (any_of HT_.out (by kernel_rfl)) (fun _ _ _ h => h) (Or.inl ⟨by rfl, ?_⟩) ?_ ?_
        rotate_left
        · intro w'
          go_simp
          with_reducible rfl
        rotate_left
        · simp only [Act.put, List.setIfInBounds_toArray, List.set_cons_zero, List.set_cons_succ, i64_w, i32_w]
          rfl
        refine pure_ (i := 2) (N := some 34) (v := ?_) (a' := ?_) #[true, true, true, false, false, false, false, false, false, false, false, false, false, false, false, false, false, false, false, false, false, false, false, false] rfl rfl (any_of HT_.out (by kernel_rfl)) (fun _ _ _ h => h) (Or.inl ⟨by rfl, ?_⟩) ?_ ?_
        rotate_left
        · intro w'
          go_simp
          with_reducible rfl
        rotate_left
        · simp only [Act.put, List.setIfInBounds_toArray, List.set_cons_zero, List.set_cons_succ, i64_w, i32_w]
          rfl
        refine pure_ (i := 3) (N := some 35) (v := ?_) (a' := ?_) #[true, true, true, true, false, false, false, false, false, false, false, false, false, false, false, false, false, false, false, false, false, false, false, false] rfl rfl (any_of HT_.out (by kernel_rfl)) (fun _ _ _ h => h) (Or.inl ⟨by rfl, ?_⟩) ?_ ?_
        rotate_left
        · intro w'
          go_simp
          with_reducible rfl
        rotate_left
        · simp only [Act.put, List.setIfInBounds_toArray, List.set_cons_zero, List.set_cons_succ, i64_w, i32_w]
          rfl
        refine pure_ (i := 4) (N := some 36) (v := ?_) (a' := ?_) #[true, true, true, true, true, false, false, false, false, false, false, false, false, false, false, false, false, false, false, false, false, false, false, false] rfl rfl (any_of HT_.out (by kernel_rfl)) (fun _ _ _ h => h) (Or.inl ⟨by rfl, ?_⟩) ?_ ?_
        rotate_left
        · intro w'
          go_simp
          with_reducible rfl
        rotate_left
        · simp only [Act.put, List.setIfInBounds_toArray, List.set_cons_zero, List.set_cons_succ, i64_w, i32_w]
          rfl
        refine pure_ (i := 5) (N := some 37) (v := ?_) (a' := ?_) #[true, true, true, true, true, true, false, false, false, false, false, false, false, false, false, false, false, false, false, false, false, false, false, false] rfl rfl (any_of HT_.out (by kernel_rfl)) (fun _ _ _ h => h) (Or.inl ⟨by rfl, ?_⟩) ?_ ?_
        rotate_left
        · intro w'
          go_simp
          with_reducible rfl
        rotate_left
        · simp only [Act.put, List.setIfInBounds_toArray, List.set_cons_zero, List.set_cons_succ, i64_w, i32_w]
          rfl
        refine pure_ (i := 6) (N := some 38) (v := ?_) (a' := ?_) #[true, true, true, true, true, true, true, false, false, false, false, false, false, false, false, false, false, false, false, false, false, false, false, false] rfl rfl (any_of HT_.out (by kernel_rfl)) (fun _ _ _ h => h) (Or.inl ⟨by rfl, ?_⟩) ?_ ?_
        rotate_left
        · intro w'
          go_simp
          with_reducible rfl
        rotate_left
        · simp only [Act.put, List.setIfInBounds_toArray, List.set_cons_zero, List.set_cons_succ, i64_w, i32_w]
          rfl
        refine pure_ (i := 7) (N := some 39) (v := ?_) (a' := ?_) #[true, true, true, true, true, true, true, true, false, false, false, false, false, false, false, false, false, false, false, false, false, false, false, false] rfl rfl (any_of HT_.out (by kernel_rfl)) (fun _ _ _ h => h) (Or.inl ⟨by rfl, ?_⟩) ?_ ?_
        rotate_left
        · intro w'
          go_simp
          with_reducible rfl
        rotate_left
        · simp only [Act.put, List.setIfInBounds_toArray, List.set_cons_zero, List.set_cons_succ, i64_w, i32_w]
          rfl
        refine pure_ (i := 8) (N := some 40) (v := ?_) (a' := ?_) #[true, true, true, true, true, true, true, true, true, false, false, false, false, false, false, false, false, false, false, false, false, false, false, false] rfl rfl (any_of HT_.out (by kernel_rfl)) (fun _ _ _ h => h) (Or.inl ⟨by rfl, ?_⟩) ?_ ?_
        rotate_left
        · intro w'
          go_simp
          with_reducible rfl
        rotate_left
        · simp only [Act.put, List.setIfInBounds_toArray, List.set_cons_zero, List.set_cons_succ, i64_w, i32_w]
          rfl
        refine pure_ (i := 10) (N := some 42) (v := ?_) (a' := ?_) #[true, true, true, true, true, true, true, true, true, false, true, false, false, false, false, false, false, false, false, false, false, false, false, false] rfl rfl (any_of HT_.out (by kernel_rfl)) (fun _ _ _ h => h) (Or.inl ⟨by rfl, ?_⟩) ?_ ?_
        rotate_left
        · intro w'
          go_simp
          with_reducible rfl
        rotate_left
        · simp only [Act.put, List.setIfInBounds_toArray, List.set_cons_zero, List.set_cons_succ, i64_w, i32_w]
          rfl
        refine take_ (i := 9) (N := some 41) (v := ?_) (a' := ?_) #[true, true, true, true, true, true, true, true, true, true, true, false, false, false, false, false, false, false, false, false, false, false, false, false] rfl rfl (take_ofW HT_.out HW_.out (by kernel_rfl)) (fun _ _ _ h => h) (Or.inl ⟨by rfl, ?_⟩) hHeld ?_ ?_
        rotate_left
        · rintro w' ⟨s0, s1, s2, s3, s4, s5, s6, s7, s8, s9, s10⟩
          go_simp
          with_reducible rfl
        rotate_left
        · simp only [Act.put, List.setIfInBounds_toArray, List.set_cons_zero, List.set_cons_succ, i64_w, i32_w]
          rfl
        refine take_ (i := 11) (N := some 43) (v := ?_) (a' := ?_) #[true, true, true, true, true, true, true, true, true, true, true, true, false, false, false, false, false, false, false, false, false, false, false, false] rfl rfl (take_ofW HT_.out HW_.out (by kernel_rfl)) (fun _ _ _ h => h) (Or.inl ⟨by rfl, ?_⟩) hHeld ?_ ?_
        rotate_left
        · rintro w' ⟨s0, s1, s2, s3, s4, s5, s6, s7, s8, s9, s10⟩
          go_simp
          with_reducible rfl
        rotate_left
        · simp only [Act.put, List.setIfInBounds_toArray, List.set_cons_zero, List.set_cons_succ, i64_w, i32_w]
          rfl
        refine pure_ (i := 12) (N := some 44) (v := ?_) (a' := ?_) #[true, true, true, true, true, true, true, true, true, true, true, true, true, false, false, false, false, false, false, false, false, false, false, false] rfl rfl (any_of HT_.out (by kernel_rfl)) (fun _ _ _ h => h) (Or.inl ⟨by rfl, ?_⟩) ?_ ?_
        rotate_left
        · intro w'
          go_simp
          with_reducible rfl
        rotate_left
        · simp only [Act.put, List.setIfInBounds_toArray, List.set_cons_zero, List.set_cons_succ, i64_w, i32_w]
          rfl
        refine pure_ (i := 13) (N := some 45) (v := ?_) (a' := ?_) #[true, true, true, true, true, true, true, true, true, true, true, true, true, true, false, false, false, false, false, false, false, false, false, false] rfl rfl (any_of HT_.out (by kernel_rfl)) (fun _ _ _ h => h) (Or.inl ⟨by rfl, ?_⟩) ?_ ?_
        rotate_left
        · intro w'
          go_simp
          with_reducible rfl
        rotate_left
        · simp only [Act.put, List.setIfInBounds_toArray, List.set_cons_zero, List.set_cons_succ, i64_w, i32_w]
          rfl
        refine pure_ (i := 14) (N := some 46) (v := ?_) (a' := ?_) #[true, true, true, true, true, true, true, true, true, true, true, true, true, true, true, false, false, false, false, false, false, false, false, false] rfl rfl (any_of HT_.out (by kernel_rfl)) (fun _ _ _ h => h) (Or.inl ⟨by rfl, ?_⟩) ?_ ?_
        rotate_left
        · intro w'
          go_simp
          with_reducible rfl
        rotate_left
        · simp only [Act.put, List.setIfInBounds_toArray, List.set_cons_zero, List.set_cons_succ, i64_w, i32_w]
          rfl
        refine pure_ (i := 15) (N := some 47) (v := undef) (a' := ?_) #[true, true, true, true, true, true, true, true, true, true, true, true, true, true, true, true, false, false, false, false, false, false, false, false] rfl rfl (any_of HT_.out (by kernel_rfl)) (fun _ _ _ h => h) (Or.inr ⟨by rfl, rfl⟩) ?_ ?_
        rotate_left
        · simp only [Act.put, List.setIfInBounds_toArray, List.set_cons_zero, List.set_cons_succ, i64_w, i32_w]
          rfl
        refine pure_ (i := 16) (N := some 48) (v := undef) (a' := ?_) #[true, true, true, true, true, true, true, true, true, true, true, true, true, true, true, true, true, false, false, false, false, false, false, false] rfl rfl (any_of HT_.out (by kernel_rfl)) (fun _ _ _ h => h) (Or.inr ⟨by rfl, rfl⟩) ?_ ?_
        rotate_left
        · simp only [Act.put, List.setIfInBounds_toArray, List.set_cons_zero, List.set_cons_succ, i64_w, i32_w]
          rfl
        refine pure_ (i := 17) (N := some 49) (v := undef) (a' := ?_) #[true, true, true, true, true, true, true, true, true, true, true, true, true, true, true, true, true, true, false, false, false, false, false, false] rfl rfl (any_of HT_.out (by kernel_rfl)) (fun _ _ _ h => h) (Or.inr ⟨by rfl, rfl⟩) ?_ ?_
        rotate_left
        · simp only [Act.put, List.setIfInBounds_toArray, List.set_cons_zero, List.set_cons_succ, i64_w, i32_w]
          rfl
        refine pure_ (i := 18) (N := some 50) (v := undef) (a' := ?_) #[true, true, true, true, true, true, true, true, true, true, true, true, true, true, true, true, true, true, true, false, false, false, false, false] rfl rfl (any_of HT_.out (by kernel_rfl)) (fun _ _ _ h => h) (Or.inr ⟨by rfl, rfl⟩) ?_ ?_
        rotate_left
        · simp only [Act.put, List.setIfInBounds_toArray, List.set_cons_zero, List.set_cons_succ, i64_w, i32_w]
          rfl
        refine pure_ (i := 19) (N := some 51) (v := undef) (a' := ?_) #[true, true, true, true, true, true, true, true, true, true, true, true, true, true, true, true, true, true, true, true, false, false, false, false] rfl rfl (any_of HT_.out (by kernel_rfl)) (fun _ _ _ h => h) (Or.inr ⟨by rfl, rfl⟩) ?_ ?_
        rotate_left
        · simp only [Act.put, List.setIfInBounds_toArray, List.set_cons_zero, List.set_cons_succ, i64_w, i32_w]
          rfl
        refine pure_ (i := 20) (N := some 52) (v := undef) (a' := ?_) #[true, true, true, true, true, true, true, true, true, true, true, true, true, true, true, true, true, true, true, true, true, false, false, false] rfl rfl (any_of HT_.out (by kernel_rfl)) (fun _ _ _ h => h) (Or.inr ⟨by rfl, rfl⟩) ?_ ?_
        rotate_left
        · simp only [Act.put, List.setIfInBounds_toArray, List.set_cons_zero, List.set_cons_succ, i64_w, i32_w]
          rfl
        refine pure_ (i := 21) (N := some 53) (v := undef) (a' := ?_) #[true, true, true, true, true, true, true, true, true, true, true, true, true, true, true, true, true, true, true, true, true, true, false, false] rfl rfl (any_of HT_.out (by kernel_rfl)) (fun _ _ _ h => h) (Or.inr ⟨by rfl, rfl⟩) ?_ ?_
        rotate_left
        · simp only [Act.put, List.setIfInBounds_toArray, List.set_cons_zero, List.set_cons_succ, i64_w, i32_w]
          rfl
        refine pure_ (i := 22) (N := some 54) (v := undef) (a' := ?_) #[true, true, true, true, true, true, true, true, true, true, true, true, true, true, true, true, true, true, true, true, true, true, true, false] rfl rfl (any_of HT_.out (by kernel_rfl)) (fun _ _ _ h => h) (Or.inr ⟨by rfl, rfl⟩) ?_ ?_
        rotate_left
        · simp only [Act.put, List.setIfInBounds_toArray, List.set_cons_zero, List.set_cons_succ, i64_w, i32_w]
          rfl
        refine pure_ (i := 23) (N := some 55) (v := ?_) (a' := ?_) #[true, true, true, true, true, true, true, true, true, true, true, true, true, true, true, true, true, true, true, true, true, true, true, true] rfl rfl (any_of HT_.out (by kernel_rfl)) (fun _ _ _ h => h) (Or.inl ⟨by rfl, ?_⟩) ?_ ?_
        rotate_left
        · intro w'
          go_simp
          with_reducible rfl
        rotate_left
        · simp only [Act.put, List.setIfInBounds_toArray, List.set_cons_zero, List.set_cons_succ, i64_w, i32_w]
          rfl
        refine done_ (done_of HT_.out (by kernel_rfl)) ?_
        try go_wp2
        go_ret
        exact ⟨by first | rfl | (simp [errW_none, errW_some] <;> rfl) | (simp [*, errW_none, errW_some] <;> rfl), by repeat (first | (with_reducible first | exact HB.out | apply below_alloc | apply pw_below_drewN | apply below_drew1 | refine below_set ?_ GE294.out | refine below_set ?_ GE303.out) | exact HB.out)⟩
      rw [if_pos c29] at H
      have c29b0 : (((rd_T31 t295 x27_1).f0) == ((rd_T39 t299 x27_1).f4)) = true := beq_iff_eq.mpr c29
      have c29b1 : (((rd_T31 t295 x27_1).f0) != ((rd_T39 t299 x27_1).f4)) = false := bne_eq_false_iff_eq.mpr c29
      clear c29
      by_cases c30 : ((rd_T31 t295 x27_1).f1) = ((rd_T39 t299 x27_1).f5)
      rw [if_pos c30] at H
      have c30b0 : (((rd_T31 t295 x27_1).f1) == ((rd_T39 t299 x27_1).f5)) = true := beq_iff_eq.mpr c30
      have c30b1 : (((rd_T31 t295 x27_1).f1) != ((rd_T39 t299 x27_1).f5)) = false := bne_eq_false_iff_eq.mpr c30
      clear c30
      have H' := Aside0.mk H
      clear H
      rotate_left
      rw [if_neg c30] at H
      have c30b0 : (((rd_T31 t295 x27_1).f1) == ((rd_T39 t299 x27_1).f5)) = false := beq_eq_false_iff_ne.mpr c30
      have c30b1 : (((rd_T31 t295 x27_1).f1) != ((rd_T39 t299 x27_1).f5)) = true := bne_iff_ne.mpr c30
      obtain rfl := Option.some.inj H
      all_goals
        have p302 : 0 ≤ (x27_1 : Int) := of_decide_eq_true (by first | (with_reducible assumption) | assumption)
        have q302 : x27_1 < (t299.length : Int) := of_decide_eq_true (by first | (with_reducible assumption) | assumption)
        obtain ⟨ad302, e302, hx302_0, hx302_1, hx302_2, hx302_3, hx302_4, hx302_5⟩ := at_T39 (Kd.R_reads' HO_25.out).2.2 x27_1 p302 q302
        cases e302
        replace p302 := eq_true p302
        replace q302 := eq_true q302
        try go_wp2_with (first | ((with_reducible refine gate_dst (N := 7) rfl ?_); refine box_event ?hg (N := 7) ?hd (cs := #[.int .i64 0, .int .i64 0, .int .i64 0, .int .i64 0, .int .i64 0, .int .i64 0]) (t := 39) ?hr ?_; (case hd => rfl); (case hg => rfl); (case hr => first | (go_simp; done) | (go_simp; rfl)); intro gb303 hg w31 hbox hb; have n0_ := Aside0.mk (Kd.S_below (by (with_reducible repeat (first | apply Kd.S_alloc | apply Kd.S_drewN | apply Kd.S_drew)); exact HO_4.out) hb); have n1_ := Aside0.mk (Kd.R_below (Kd.R_elderB (by (with_reducible repeat (first | apply Kd.R_alloc | apply Kd.R_drewN | apply Kd.R_drew)); exact HO_25.out) gb303 (Nat.le_of_eq hg.symm)) hb); have n2_ := Aside0.mk (Kd.R_below (by (with_reducible repeat (first | apply Kd.R_alloc | apply Kd.R_drewN | apply Kd.R_drew)); exact HO_295004.out) hb); have n3_ := Aside0.mk (blk_below (g := gb294) (o := .cells #[.int .i64 t287, .int .i64 t288, .int .i64 t289, .int .i64 t290, .slice Ao11 t291.length co11] 31 (0, 0)) (by (with_reducible repeat (first | refine blk_drewN ?_ _ | refine blk_drew ?_ | refine blk_alloc ?_ _)); exact BK294.out) hb); have n4_ := Aside0.mk (below_step (by repeat (first | (with_reducible first | exact HB.out | apply below_alloc | apply pw_below_drewN | apply below_drew1 | refine below_set ?_ GE294.out) | exact HB.out)) hb); have n5_ := Aside0.mk (hbox); have n6_ := Aside0.mk ((by rw [hg]; exact (below_size (by repeat (first | (with_reducible first | exact HB.out | apply below_alloc | apply pw_below_drewN | apply below_drew1 | refine below_set ?_ GE294.out) | exact HB.out))) : w.heap.size ≤ gb303)); have n7_ := n6_; have n8_ := Aside0.mk ((by rw [hg]; exact Nat.ne_of_lt (blk_lt (g := gb294) (o := .cells #[.int .i64 t287, .int .i64 t288, .int .i64 t289, .int .i64 t290, .slice Ao11 t291.length co11] 31 (0, 0)) (by (with_reducible repeat (first | refine blk_drewN ?_ _ | refine blk_drew ?_ | refine blk_alloc ?_ _)); exact BK294.out)) : gb294 ≠ gb303)); have n9_ := Aside0.mk ((by rw [hg]; exact Nat.ne_of_gt (blk_lt (g := gb294) (o := .cells #[.int .i64 t287, .int .i64 t288, .int .i64 t289, .int .i64 t290, .slice Ao11 t291.length co11] 31 (0, 0)) (by (with_reducible repeat (first | refine blk_drewN ?_ _ | refine blk_drew ?_ | refine blk_alloc ?_ _)); exact BK294.out)) : gb303 ≠ gb294)); clear HO_4; clear HO_25; clear HO_295004; clear BK294; clear HB; have HO_4 := n0_; have HO_25 := n1_; have HO_295004 := n2_; have BK294 := n3_; have HB := n4_; have BK303 := n5_; have GW303 := n6_; have GE303 := n7_; have NB294_303 := n8_; have NB303_294 := n9_; clear n0_ n1_ n2_ n3_ n4_ n5_ n6_ n7_ n8_ n9_; clear hb hbox hg; have hnb32 := NB303_294.out; have hnc32 := NB294_303.out; have hcz33_0 : w31.cell? ⟨gb303, 0, none⟩ = some (.int .i64 0) := (blk_cell BK303.out 0).trans rfl; have hcz33_1 : w31.cell? ⟨gb303, 1, none⟩ = some (.int .i64 0) := (blk_cell BK303.out 1).trans rfl; have hcz33_2 : w31.cell? ⟨gb303, 2, none⟩ = some (.int .i64 0) := (blk_cell BK303.out 2).trans rfl; have hcz33_3 : w31.cell? ⟨gb303, 3, none⟩ = some (.int .i64 0) := (blk_cell BK303.out 3).trans rfl; have hcz33_4 : w31.cell? ⟨gb303, 4, none⟩ = some (.int .i64 0) := (blk_cell BK303.out 4).trans rfl; have hcz33_5 : w31.cell? ⟨gb303, 5, none⟩ = some (.int .i64 0) := (blk_cell BK303.out 5).trans rfl; have hfz33_0 := blk_frozen BK303.out 0; have hfz33_1 := blk_frozen BK303.out 1; have hfz33_2 := blk_frozen BK303.out 2; have hfz33_3 := blk_frozen BK303.out 3; have hfz33_4 := blk_frozen BK303.out 4; have hfz33_5 := blk_frozen BK303.out 5))
        have n0_ : Aside0 (Kd.S k31 31 ((((((w31.setCell ⟨gb303, 0, none⟩ (.int .i64 ((rd_T39 t299 x27_1).f0))).setCell ⟨gb303, 1, none⟩ (.int .i64 ((rd_T39 t299 x27_1).f1))).setCell ⟨gb303, 2, none⟩ (.int .i64 ((rd_T39 t299 x27_1).f2))).setCell ⟨gb303, 3, none⟩ (.int .i64 ((rd_T39 t299 x27_1).f3))).setCell ⟨gb303, 4, none⟩ (.int .i64 ((rd_T39 t299 x27_1).f4))).setCell ⟨gb303, 5, none⟩ (.int .i64 ((rd_T39 t299 x27_1).f5))) w.heap.size (fun k_ => some k_ ≠ (.slice Ao11 t291.length co11 : Value).ownBlock ∧ k_ ≠ gb294) v296 t295) := ⟨by (with_reducible repeat (first | apply Kd.S_alloc | apply Kd.S_drewN | apply Kd.S_drew)); exact Kd.S_mono (Kd.S_far (p := ⟨gb303, 5, none⟩) (Kd.S_far (p := ⟨gb303, 4, none⟩) (Kd.S_far (p := ⟨gb303, 3, none⟩) (Kd.S_far (p := ⟨gb303, 2, none⟩) (Kd.S_far (p := ⟨gb303, 1, none⟩) (Kd.S_far (p := ⟨gb303, 0, none⟩) (Kd.S_types HO_4.out BK303.out (by decide)) (fun _ hk => hk.2) (.int .i64 ((rd_T39 t299 x27_1).f0))) (fun _ hk => hk.2) (.int .i64 ((rd_T39 t299 x27_1).f1))) (fun _ hk => hk.2) (.int .i64 ((rd_T39 t299 x27_1).f2))) (fun _ hk => hk.2) (.int .i64 ((rd_T39 t299 x27_1).f3))) (fun _ hk => hk.2) (.int .i64 ((rd_T39 t299 x27_1).f4))) (fun _ hk => hk.2) (.int .i64 ((rd_T39 t299 x27_1).f5))) (fun _ hk => ⟨hk.1.1, hk.1.2⟩)⟩
        have n1_ : Aside0 (Kd.R k39 39 ((((((w31.setCell ⟨gb303, 0, none⟩ (.int .i64 ((rd_T39 t299 x27_1).f0))).setCell ⟨gb303, 1, none⟩ (.int .i64 ((rd_T39 t299 x27_1).f1))).setCell ⟨gb303, 2, none⟩ (.int .i64 ((rd_T39 t299 x27_1).f2))).setCell ⟨gb303, 3, none⟩ (.int .i64 ((rd_T39 t299 x27_1).f3))).setCell ⟨gb303, 4, none⟩ (.int .i64 ((rd_T39 t299 x27_1).f4))).setCell ⟨gb303, 5, none⟩ (.int .i64 ((rd_T39 t299 x27_1).f5))) w.heap.size (fun k_ => k_ ≠ gb303) (.slice (some ad302) t299.length co17) t299) := ⟨by (with_reducible repeat (first | apply Kd.R_alloc | apply Kd.R_drewN | apply Kd.R_drew)); exact Kd.R_mono (Kd.R_far (p := ⟨gb303, 5, none⟩) (Kd.R_far (p := ⟨gb303, 4, none⟩) (Kd.R_far (p := ⟨gb303, 3, none⟩) (Kd.R_far (p := ⟨gb303, 2, none⟩) (Kd.R_far (p := ⟨gb303, 1, none⟩) (Kd.R_far (p := ⟨gb303, 0, none⟩) (Kd.R_mono HO_25.out (fun k_ hk => (⟨hk, hk.2⟩ : _ ∧ k_ ≠ gb303))) (fun _ hk => hk.2) (.int .i64 ((rd_T39 t299 x27_1).f0))) (fun _ hk => hk.2) (.int .i64 ((rd_T39 t299 x27_1).f1))) (fun _ hk => hk.2) (.int .i64 ((rd_T39 t299 x27_1).f2))) (fun _ hk => hk.2) (.int .i64 ((rd_T39 t299 x27_1).f3))) (fun _ hk => hk.2) (.int .i64 ((rd_T39 t299 x27_1).f4))) (fun _ hk => hk.2) (.int .i64 ((rd_T39 t299 x27_1).f5))) (fun _ hk => hk.1.2)⟩
        have n2_ : Aside0 (Kd.R (Kd.int .i64) 3 ((((((w31.setCell ⟨gb303, 0, none⟩ (.int .i64 ((rd_T39 t299 x27_1).f0))).setCell ⟨gb303, 1, none⟩ (.int .i64 ((rd_T39 t299 x27_1).f1))).setCell ⟨gb303, 2, none⟩ (.int .i64 ((rd_T39 t299 x27_1).f2))).setCell ⟨gb303, 3, none⟩ (.int .i64 ((rd_T39 t299 x27_1).f3))).setCell ⟨gb303, 4, none⟩ (.int .i64 ((rd_T39 t299 x27_1).f4))).setCell ⟨gb303, 5, none⟩ (.int .i64 ((rd_T39 t299 x27_1).f5))) w.heap.size (fun _ => True) (.slice Ao11 t291.length co11) t291) := ⟨by (with_reducible repeat (first | apply Kd.R_alloc | apply Kd.R_drewN | apply Kd.R_drew)); exact Kd.R_mono (Kd.R_far (p := ⟨gb303, 5, none⟩) (Kd.R_far (p := ⟨gb303, 4, none⟩) (Kd.R_far (p := ⟨gb303, 3, none⟩) (Kd.R_far (p := ⟨gb303, 2, none⟩) (Kd.R_far (p := ⟨gb303, 1, none⟩) (Kd.R_far (p := ⟨gb303, 0, none⟩) (Kd.R_types HO_295004.out BK303.out (by decide)) (fun _ hk => hk.2) (.int .i64 ((rd_T39 t299 x27_1).f0))) (fun _ hk => hk.2) (.int .i64 ((rd_T39 t299 x27_1).f1))) (fun _ hk => hk.2) (.int .i64 ((rd_T39 t299 x27_1).f2))) (fun _ hk => hk.2) (.int .i64 ((rd_T39 t299 x27_1).f3))) (fun _ hk => hk.2) (.int .i64 ((rd_T39 t299 x27_1).f4))) (fun _ hk => hk.2) (.int .i64 ((rd_T39 t299 x27_1).f5))) (fun _ hk => trivial)⟩
        have n3_ : Aside0 (((((((w31.setCell ⟨gb303, 0, none⟩ (.int .i64 ((rd_T39 t299 x27_1).f0))).setCell ⟨gb303, 1, none⟩ (.int .i64 ((rd_T39 t299 x27_1).f1))).setCell ⟨gb303, 2, none⟩ (.int .i64 ((rd_T39 t299 x27_1).f2))).setCell ⟨gb303, 3, none⟩ (.int .i64 ((rd_T39 t299 x27_1).f3))).setCell ⟨gb303, 4, none⟩ (.int .i64 ((rd_T39 t299 x27_1).f4))).setCell ⟨gb303, 5, none⟩ (.int .i64 ((rd_T39 t299 x27_1).f5))).heap[gb294]? = some (.cells #[.int .i64 t287, .int .i64 t288, .int .i64 t289, .int .i64 t290, .slice Ao11 t291.length co11] 31 (0, 0))) := ⟨by (with_reducible repeat (first | refine blk_drewN ?_ _ | refine blk_drew ?_ | refine blk_alloc ?_ _)); refine blk_far ?_ NB294_303.out _; (with_reducible repeat (first | refine blk_drewN ?_ _ | refine blk_drew ?_ | refine blk_alloc ?_ _)); refine blk_far ?_ NB294_303.out _; (with_reducible repeat (first | refine blk_drewN ?_ _ | refine blk_drew ?_ | refine blk_alloc ?_ _)); refine blk_far ?_ NB294_303.out _; (with_reducible repeat (first | refine blk_drewN ?_ _ | refine blk_drew ?_ | refine blk_alloc ?_ _)); refine blk_far ?_ NB294_303.out _; (with_reducible repeat (first | refine blk_drewN ?_ _ | refine blk_drew ?_ | refine blk_alloc ?_ _)); refine blk_far ?_ NB294_303.out _; (with_reducible repeat (first | refine blk_drewN ?_ _ | refine blk_drew ?_ | refine blk_alloc ?_ _)); refine blk_far ?_ NB294_303.out _; (with_reducible repeat (first | refine blk_drewN ?_ _ | refine blk_drew ?_ | refine blk_alloc ?_ _)); exact BK294.out⟩
        have n4_ : Aside0 (((((((w31.setCell ⟨gb303, 0, none⟩ (.int .i64 ((rd_T39 t299 x27_1).f0))).setCell ⟨gb303, 1, none⟩ (.int .i64 ((rd_T39 t299 x27_1).f1))).setCell ⟨gb303, 2, none⟩ (.int .i64 ((rd_T39 t299 x27_1).f2))).setCell ⟨gb303, 3, none⟩ (.int .i64 ((rd_T39 t299 x27_1).f3))).setCell ⟨gb303, 4, none⟩ (.int .i64 ((rd_T39 t299 x27_1).f4))).setCell ⟨gb303, 5, none⟩ (.int .i64 ((rd_T39 t299 x27_1).f5))).heap[gb303]? = some (.cells #[.int .i64 ((rd_T39 t299 x27_1).f0), .int .i64 ((rd_T39 t299 x27_1).f1), .int .i64 ((rd_T39 t299 x27_1).f2), .int .i64 ((rd_T39 t299 x27_1).f3), .int .i64 ((rd_T39 t299 x27_1).f4), .int .i64 ((rd_T39 t299 x27_1).f5)] 39 (0, 0))) := ⟨by (with_reducible repeat (first | refine blk_drewN ?_ _ | refine blk_drew ?_ | refine blk_alloc ?_ _)); refine blk_put (cs := #[.int .i64 ((rd_T39 t299 x27_1).f0), .int .i64 ((rd_T39 t299 x27_1).f1), .int .i64 ((rd_T39 t299 x27_1).f2), .int .i64 ((rd_T39 t299 x27_1).f3), .int .i64 ((rd_T39 t299 x27_1).f4), .int .i64 0]) ?_ 5 _ rfl; (with_reducible repeat (first | refine blk_drewN ?_ _ | refine blk_drew ?_ | refine blk_alloc ?_ _)); refine blk_put (cs := #[.int .i64 ((rd_T39 t299 x27_1).f0), .int .i64 ((rd_T39 t299 x27_1).f1), .int .i64 ((rd_T39 t299 x27_1).f2), .int .i64 ((rd_T39 t299 x27_1).f3), .int .i64 0, .int .i64 0]) ?_ 4 _ rfl; (with_reducible repeat (first | refine blk_drewN ?_ _ | refine blk_drew ?_ | refine blk_alloc ?_ _)); refine blk_put (cs := #[.int .i64 ((rd_T39 t299 x27_1).f0), .int .i64 ((rd_T39 t299 x27_1).f1), .int .i64 ((rd_T39 t299 x27_1).f2), .int .i64 0, .int .i64 0, .int .i64 0]) ?_ 3 _ rfl; (with_reducible repeat (first | refine blk_drewN ?_ _ | refine blk_drew ?_ | refine blk_alloc ?_ _)); refine blk_put (cs := #[.int .i64 ((rd_T39 t299 x27_1).f0), .int .i64 ((rd_T39 t299 x27_1).f1), .int .i64 0, .int .i64 0, .int .i64 0, .int .i64 0]) ?_ 2 _ rfl; (with_reducible repeat (first | refine blk_drewN ?_ _ | refine blk_drew ?_ | refine blk_alloc ?_ _)); refine blk_put (cs := #[.int .i64 ((rd_T39 t299 x27_1).f0), .int .i64 0, .int .i64 0, .int .i64 0, .int .i64 0, .int .i64 0]) ?_ 1 _ rfl; (with_reducible repeat (first | refine blk_drewN ?_ _ | refine blk_drew ?_ | refine blk_alloc ?_ _)); refine blk_put (cs := #[.int .i64 0, .int .i64 0, .int .i64 0, .int .i64 0, .int .i64 0, .int .i64 0]) ?_ 0 _ rfl; (with_reducible repeat (first | refine blk_drewN ?_ _ | refine blk_drew ?_ | refine blk_alloc ?_ _)); exact BK303.out⟩
        have n5_ : Aside0 (Below w.heap.size w ((((((w31.setCell ⟨gb303, 0, none⟩ (.int .i64 ((rd_T39 t299 x27_1).f0))).setCell ⟨gb303, 1, none⟩ (.int .i64 ((rd_T39 t299 x27_1).f1))).setCell ⟨gb303, 2, none⟩ (.int .i64 ((rd_T39 t299 x27_1).f2))).setCell ⟨gb303, 3, none⟩ (.int .i64 ((rd_T39 t299 x27_1).f3))).setCell ⟨gb303, 4, none⟩ (.int .i64 ((rd_T39 t299 x27_1).f4))).setCell ⟨gb303, 5, none⟩ (.int .i64 ((rd_T39 t299 x27_1).f5)))) := ⟨by repeat (first | (with_reducible first | exact HB.out | apply below_alloc | apply pw_below_drewN | apply below_drew1 | refine below_set ?_ GE294.out | refine below_set ?_ GE303.out) | exact HB.out)⟩
        (try clear HO_4)
        (try clear HO_25)
        (try clear HO_295004)
        (try clear BK294)
        (try clear BK303)
        (try clear HB)
        generalize ((((((w31.setCell ⟨gb303, 0, none⟩ (.int .i64 ((rd_T39 t299 x27_1).f0))).setCell ⟨gb303, 1, none⟩ (.int .i64 ((rd_T39 t299 x27_1).f1))).setCell ⟨gb303, 2, none⟩ (.int .i64 ((rd_T39 t299 x27_1).f2))).setCell ⟨gb303, 3, none⟩ (.int .i64 ((rd_T39 t299 x27_1).f3))).setCell ⟨gb303, 4, none⟩ (.int .i64 ((rd_T39 t299 x27_1).f4))).setCell ⟨gb303, 5, none⟩ (.int .i64 ((rd_T39 t299 x27_1).f5))) = w34 at n0_ n1_ n2_ n3_ n4_ n5_ ⊢
        have HO_4 := n0_
        have HO_25 := n1_
        have HO_295004 := n2_
        have BK294 := n3_
        have BK303 := n4_
        have HB := n5_
        clear n0_ n1_ n2_ n3_ n4_ n5_
        have n0_ := Aside0.mk (Kd.S_drew HO_4.out)
        have n1_ := Aside0.mk (Kd.R_drew HO_25.out)
        have n2_ := Aside0.mk (Kd.R_drew HO_295004.out)
        have n3_ := Aside0.mk (blk_drew BK294.out)
        have n4_ := Aside0.mk (blk_drew BK303.out)
        have n5_ := Aside0.mk (below_drew1 HB.out)
        clear HO_4
        clear HO_25
        clear HO_295004
        clear BK294
        clear BK303
        clear HB
        have HO_4 := n0_
        have HO_25 := n1_
        have HO_295004 := n2_
        have BK294 := n3_
        have BK303 := n4_
        have HB := n5_
        clear n0_ n1_ n2_ n3_ n4_ n5_
        obtain ⟨Ao36, co36, eo36⟩ := Kd.S_slice HO_4.out
        (first | subst eo36 | (injection eo36 with f1_ f2_ f3_; have f4_ := f1_.symm; have f5_ := f3_.symm; clear f1_ f2_ f3_; subst f4_; subst f5_))
        have p304 : 0 ≤ (x27_1 : Int) := of_decide_eq_true (by first | (with_reducible assumption) | assumption)
        have q304 : x27_1 < (t295.length : Int) := of_decide_eq_true (by first | (with_reducible assumption) | assumption)
        obtain ⟨ad304, A304_4, c304_4, e304, hx304_0, hx304_1, hx304_2, hx304_3, hx304_4, hl304_4, hi304_4⟩ := at_T31 (Kd.S_reads' HO_4.out).2.2 x27_1 p304 q304
        cases e304
        obtain ⟨ce304, hce304, hMe304, hcc304⟩ := Kd.S_get HO_4.out z31 x27_1 p304 (by first | exact q304 | exact of_decide_eq_true (by first | (with_reducible assumption) | assumption) | (have e_ := (Kd.S_reads' HO_4.out).1; omega))
        obtain ⟨ve304_4, rfl, ge304_4⟩ := k31_openM hMe304
        have hv304_4 := hcc304 4 _ rfl
        rw [add_field _ _ 4 (by omega)] at hv304_4
        replace hv304_4 := Option.some.inj (hv304_4.symm.trans hx304_4)
        rw [hv304_4] at ge304_4
        have HL304_4 := Aside0.mk (show Kd.R (Kd.int .i64) 3 _ _ _ _ ((rd_T31 t295 x27_1).f4) from ge304_4)
        clear hv304_4 ge304_4
        clear hcc304 hce304
        have HR304_4 := Aside0.mk hi304_4
        have HC304_4 := Aside0.mk hl304_4
        clear hi304_4 hl304_4
        replace p304 := eq_true p304
        replace q304 := eq_true q304
        have p305 : 0 ≤ (x27_1 : Int) := of_decide_eq_true (by first | (with_reducible assumption) | assumption)
        have q305 : x27_1 < (t295.length : Int) := of_decide_eq_true (by first | (with_reducible assumption) | assumption)
        obtain ⟨ad305, A305_4, c305_4, e305, hx305_0, hx305_1, hx305_2, hx305_3, hx305_4, hl305_4, hi305_4⟩ := at_T31 (Kd.S_reads' HO_4.out).2.2 x27_1 p305 q305
        obtain rfl : ad304 = ad305 := (by injection e305)
        obtain ⟨ce305, hce305, hMe305, hcc305⟩ := Kd.S_get HO_4.out z31 x27_1 p305 (by first | exact q305 | exact of_decide_eq_true (by first | (with_reducible assumption) | assumption) | (have e_ := (Kd.S_reads' HO_4.out).1; omega))
        obtain ⟨ve305_4, rfl, ge305_4⟩ := k31_openM hMe305
        have hv305_4 := hcc305 4 _ rfl
        rw [add_field _ _ 4 (by omega)] at hv305_4
        replace hv305_4 := Option.some.inj (hv305_4.symm.trans hx305_4)
        rw [hv305_4] at ge305_4
        have HL305_4 := Aside0.mk (show Kd.R (Kd.int .i64) 3 _ _ _ _ ((rd_T31 t295 x27_1).f4) from ge305_4)
        clear hv305_4 ge305_4
        clear hcc305 hce305
        have HR305_4 := Aside0.mk hi305_4
        have HC305_4 := Aside0.mk hl305_4
        clear hi305_4 hl305_4
        replace p305 := eq_true p305
        replace q305 := eq_true q305
        have ea_ := Option.some.inj (hx304_4.symm.trans hx305_4)
        injection ea_ with ea_ en_ ec_
        subst ea_
        subst ec_
        clear en_
        refine start_ (n := 24) (S := fun w' => w'.cell? ⟨gb303, 0, none⟩ = some (.int .i64 ((rd_T39 t299 x27_1).f0)) ∧ w'.cell? ⟨gb303, 1, none⟩ = some (.int .i64 ((rd_T39 t299 x27_1).f1)) ∧ w'.cell? ⟨gb303, 2, none⟩ = some (.int .i64 ((rd_T39 t299 x27_1).f2)) ∧ w'.cell? ⟨gb303, 3, none⟩ = some (.int .i64 ((rd_T39 t299 x27_1).f3)) ∧ w'.cell? ⟨gb303, 4, none⟩ = some (.int .i64 ((rd_T39 t299 x27_1).f4)) ∧ w'.cell? ⟨gb303, 5, none⟩ = some (.int .i64 ((rd_T39 t299 x27_1).f5)) ∧ w'.cell? (ad304.add ((x27_1).toNat * 5)) = some (.int .i64 ((rd_T31 t295 x27_1).f0)) ∧ w'.cell? ⟨(ad304.add ((x27_1).toNat * 5)).block, (ad304.add ((x27_1).toNat * 5)).off + 1, none⟩ = some (.int .i64 ((rd_T31 t295 x27_1).f1)) ∧ w'.cell? ⟨(ad304.add ((x27_1).toNat * 5)).block, (ad304.add ((x27_1).toNat * 5)).off + 2, none⟩ = some (.int .i64 ((rd_T31 t295 x27_1).f2)) ∧ w'.cell? ⟨(ad304.add ((x27_1).toNat * 5)).block, (ad304.add ((x27_1).toNat * 5)).off + 3, none⟩ = some (.int .i64 ((rd_T31 t295 x27_1).f3)) ∧ w'.cell? ⟨(ad304.add ((x27_1).toNat * 5)).block, (ad304.add ((x27_1).toNat * 5)).off + 4, none⟩ = some (.slice A304_4 ((rd_T31 t295 x27_1).f4).length c304_4) ∧ w'.cell? (ad304.add ((x27_1).toNat * 5)) = some (.int .i64 ((rd_T31 t295 x27_1).f0)) ∧ w'.cell? ⟨(ad304.add ((x27_1).toNat * 5)).block, (ad304.add ((x27_1).toNat * 5)).off + 1, none⟩ = some (.int .i64 ((rd_T31 t295 x27_1).f1)) ∧ w'.cell? ⟨(ad304.add ((x27_1).toNat * 5)).block, (ad304.add ((x27_1).toNat * 5)).off + 2, none⟩ = some (.int .i64 ((rd_T31 t295 x27_1).f2)) ∧ w'.cell? ⟨(ad304.add ((x27_1).toNat * 5)).block, (ad304.add ((x27_1).toNat * 5)).off + 3, none⟩ = some (.int .i64 ((rd_T31 t295 x27_1).f3)) ∧ w'.cell? ⟨(ad304.add ((x27_1).toNat * 5)).block, (ad304.add ((x27_1).toNat * 5)).off + 4, none⟩ = some (.slice A304_4 ((rd_T31 t295 x27_1).f4).length c304_4)) (ds := []) #[false, false, false, false, false, false, false, false, false, false, false, false, false, false, false, false, false, false, false, false, false, false, false, false] (by kernel_rfl) rfl rfl ⟨(blk_cell BK303.out 0).trans rfl, (blk_cell BK303.out 1).trans rfl, (blk_cell BK303.out 2).trans rfl, (blk_cell BK303.out 3).trans rfl, (blk_cell BK303.out 4).trans rfl, (blk_cell BK303.out 5).trans rfl, hx304_0, hx304_1, hx304_2, hx304_3, hx304_4, hx305_0, hx305_1, hx305_2, hx305_3, hx305_4⟩ (fun hHeld => ?_); refine with_tabW laws_FnPasses.tab11 laws_FnPasses.bits11 (fun HT_ HW_ => ?_)
        generalize w34.drew = w35 at HO_4 HO_25 HO_295004 BK294 BK303 HB HL304_4 HL305_4 HR304_4 HR305_4 hx304_0 hx304_1 hx304_2 hx304_3 hx304_4 hx305_0 hx305_1 hx305_2 hx305_3 hx305_4 hHeld ⊢
        refine pure_ (i := 0) (N := some 32) (v := ?_) (a' := ?_) #[true, false, false, false, false, false, false, false, false, false, false, false, false, false, false, false, false, false, false, false, false, false, false, false] rfl rfl (any_of HT_.out (by kernel_rfl)) (fun _ _ _ h => h) (Or.inl ⟨by rfl, ?_⟩) ?_ ?_
        rotate_left
        · intro w'
          go_simp
          with_reducible rfl
        rotate_left
        · simp only [Act.put, List.setIfInBounds_toArray, List.set_cons_zero, List.set_cons_succ, i64_w, i32_w]
          rfl
        refine pure_ (i := 1) (N := some 33) (v := ?_) (a' := ?_) #[true, true, false, false, false, false, false, false, false, false, false, false, false, false, false, false, false, false, false, false, false, false, false, false] rfl rfl (any_of HT_.out (by kernel_rfl)) (fun _ _ _ h => h) (Or.inl ⟨by rfl, ?_⟩) ?_ ?_
        rotate_left
        · intro w'
          go_simp
          with_reducible rfl
        rotate_left
        · simp only [Act.put, List.setIfInBounds_toArray, List.set_cons_zero, List.set_cons_succ, i64_w, i32_w]
          rfl
        refine pure_ (i := 2) (N := some 34) (v := ?_) (a' := ?_) #[true, true, true, false, false, false, false, false, false, false, false, false, false, false, false, false, false, false, false, false, false, false, false, false] rfl rfl (any_of HT_.out (by kernel_rfl)) (fun _ _ _ h => h) (Or.inl ⟨by rfl, ?_⟩) ?_ ?_
        rotate_left
        · intro w'
          go_simp
          with_reducible rfl
        rotate_left
        · simp only [Act.put, List.setIfInBounds_toArray, List.set_cons_zero, List.set_cons_succ, i64_w, i32_w]
          rfl
        refine pure_ (i := 3) (N := some 35) (v := ?_) (a' := ?_) #[true, true, true, true, false, false, false, false, false, false, false, false, false, false, false, false, false, false, false, false, false, false, false, false] rfl rfl (any_of HT_.out (by kernel_rfl)) (fun _ _ _ h => h) (Or.inl ⟨by rfl, ?_⟩) ?_ ?_
        rotate_left
        · intro w'
          go_simp
          with_reducible rfl
        rotate_left
        · simp only [Act.put, List.setIfInBounds_toArray, List.set_cons_zero, List.set_cons_succ, i64_w, i32_w]
          rfl
        refine pure_ (i := 4) (N := some 36) (v := ?_) (a' := ?_) #[true, true, true, true, true, false, false, false, false, false, false, false, false, false, false, false, false, false, false, false, false, false, false, false] rfl rfl (any_of HT_.out (by kernel_rfl)) (fun _ _ _ h => h) (Or.inl ⟨by rfl, ?_⟩) ?_ ?_
        rotate_left
        · intro w'
          go_simp
          with_reducible rfl
        rotate_left
        · simp only [Act.put, List.setIfInBounds_toArray, List.set_cons_zero, List.set_cons_succ, i64_w, i32_w]
          rfl
        refine pure_ (i := 5) (N := some 37) (v := ?_) (a' := ?_) #[true, true, true, true, true, true, false, false, false, false, false, false, false, false, false, false, false, false, false, false, false, false, false, false] rfl rfl (any_of HT_.out (by kernel_rfl)) (fun _ _ _ h => h) (Or.inl ⟨by rfl, ?_⟩) ?_ ?_
        rotate_left
        · intro w'
          go_simp
          with_reducible rfl
        rotate_left
        · simp only [Act.put, List.setIfInBounds_toArray, List.set_cons_zero, List.set_cons_succ, i64_w, i32_w]
          rfl
        refine pure_ (i := 6) (N := some 38) (v := ?_) (a' := ?_) #[true, true, true, true, true, true, true, false, false, false, false, false, false, false, false, false, false, false, false, false, false, false, false, false] rfl rfl (any_of HT_.out (by kernel_rfl)) (fun _ _ _ h => h) (Or.inl ⟨by rfl, ?_⟩) ?_ ?_
        rotate_left
        · intro w'
          go_simp
          with_reducible rfl
        rotate_left
        · simp only [Act.put, List.setIfInBounds_toArray, List.set_cons_zero, List.set_cons_succ, i64_w, i32_w]
          rfl
        refine pure_ (i := 7) (N := some 39) (v := ?_) (a' := ?_) #[true, true, true, true, true, true, true, true, false, false, false, false, false, false, false, false, false, false, false, false, false, false, false, false] rfl rfl (any_of HT_.out (by kernel_rfl)) (fun _ _ _ h => h) (Or.inl ⟨by rfl, ?_⟩) ?_ ?_
        rotate_left
        · intro w'
          go_simp
          with_reducible rfl
        rotate_left
        · simp only [Act.put, List.setIfInBounds_toArray, List.set_cons_zero, List.set_cons_succ, i64_w, i32_w]
          rfl
        refine pure_ (i := 8) (N := some 40) (v := ?_) (a' := ?_) #[true, true, true, true, true, true, true, true, true, false, false, false, false, false, false, false, false, false, false, false, false, false, false, false] rfl rfl (any_of HT_.out (by kernel_rfl)) (fun _ _ _ h => h) (Or.inl ⟨by rfl, ?_⟩) ?_ ?_
        rotate_left
        · intro w'
          go_simp
          with_reducible rfl
        rotate_left
        · simp only [Act.put, List.setIfInBounds_toArray, List.set_cons_zero, List.set_cons_succ, i64_w, i32_w]
          rfl
        refine pure_ (i := 10) (N := some 42) (v := ?_) (a' := ?_) #[true, true, true, true, true, true, true, true, true, false, true, false, false, false, false, false, false, false, false, false, false, false, false, false] rfl rfl (any_of HT_.out (by kernel_rfl)) (fun _ _ _ h => h) (Or.inl ⟨by rfl, ?_⟩) ?_ ?_
        rotate_left
        · intro w'
          go_simp
          with_reducible rfl
        rotate_left
        · simp only [Act.put, List.setIfInBounds_toArray, List.set_cons_zero, List.set_cons_succ, i64_w, i32_w]
          rfl
        refine take_ (i := 9) (N := some 41) (v := ?_) (a' := ?_) #[true, true, true, true, true, true, true, true, true, true, true, false, false, false, false, false, false, false, false, false, false, false, false, false] rfl rfl (take_ofW HT_.out HW_.out (by kernel_rfl)) (fun _ _ _ h => h) (Or.inl ⟨by rfl, ?_⟩) hHeld ?_ ?_
        rotate_left
        · rintro w' ⟨s0, s1, s2, s3, s4, s5, s6, s7, s8, s9, s10, s11, s12, s13, s14, s15⟩
          go_simp
          with_reducible rfl
        rotate_left
        · simp only [Act.put, List.setIfInBounds_toArray, List.set_cons_zero, List.set_cons_succ, i64_w, i32_w]
          rfl
        refine take_ (i := 11) (N := some 43) (v := ?_) (a' := ?_) #[true, true, true, true, true, true, true, true, true, true, true, true, false, false, false, false, false, false, false, false, false, false, false, false] rfl rfl (take_ofW HT_.out HW_.out (by kernel_rfl)) (fun _ _ _ h => h) (Or.inl ⟨by rfl, ?_⟩) hHeld ?_ ?_
        rotate_left
        · rintro w' ⟨s0, s1, s2, s3, s4, s5, s6, s7, s8, s9, s10, s11, s12, s13, s14, s15⟩
          go_simp
          with_reducible rfl
        rotate_left
        · simp only [Act.put, List.setIfInBounds_toArray, List.set_cons_zero, List.set_cons_succ, i64_w, i32_w]
          rfl
        refine pure_ (i := 12) (N := some 44) (v := ?_) (a' := ?_) #[true, true, true, true, true, true, true, true, true, true, true, true, true, false, false, false, false, false, false, false, false, false, false, false] rfl rfl (any_of HT_.out (by kernel_rfl)) (fun _ _ _ h => h) (Or.inl ⟨by rfl, ?_⟩) ?_ ?_
        rotate_left
        · intro w'
          go_simp
          with_reducible rfl
        rotate_left
        · simp only [Act.put, List.setIfInBounds_toArray, List.set_cons_zero, List.set_cons_succ, i64_w, i32_w]
          rfl
        refine pure_ (i := 13) (N := some 45) (v := ?_) (a' := ?_) #[true, true, true, true, true, true, true, true, true, true, true, true, true, true, false, false, false, false, false, false, false, false, false, false] rfl rfl (any_of HT_.out (by kernel_rfl)) (fun _ _ _ h => h) (Or.inl ⟨by rfl, ?_⟩) ?_ ?_
        rotate_left
        · intro w'
          go_simp
          with_reducible rfl
        rotate_left
        · simp only [Act.put, List.setIfInBounds_toArray, List.set_cons_zero, List.set_cons_succ, i64_w, i32_w]
          rfl
        refine pure_ (i := 14) (N := some 46) (v := ?_) (a' := ?_) #[true, true, true, true, true, true, true, true, true, true, true, true, true, true, true, false, false, false, false, false, false, false, false, false] rfl rfl (any_of HT_.out (by kernel_rfl)) (fun _ _ _ h => h) (Or.inl ⟨by rfl, ?_⟩) ?_ ?_
        rotate_left
        · intro w'
          go_simp
          with_reducible rfl
        rotate_left
        · simp only [Act.put, List.setIfInBounds_toArray, List.set_cons_zero, List.set_cons_succ, i64_w, i32_w]
          rfl
        refine pure_ (i := 15) (N := some 47) (v := ?_) (a' := ?_) #[true, true, true, true, true, true, true, true, true, true, true, true, true, true, true, true, false, false, false, false, false, false, false, false] rfl rfl (any_of HT_.out (by kernel_rfl)) (fun _ _ _ h => h) (Or.inl ⟨by rfl, ?_⟩) ?_ ?_
        rotate_left
        · intro w'
          go_simp
          with_reducible rfl
        rotate_left
        · simp only [Act.put, List.setIfInBounds_toArray, List.set_cons_zero, List.set_cons_succ, i64_w, i32_w]
          rfl
        refine pure_ (i := 16) (N := some 48) (v := ?_) (a' := ?_) #[true, true, true, true, true, true, true, true, true, true, true, true, true, true, true, true, true, false, false, false, false, false, false, false] rfl rfl (any_of HT_.out (by kernel_rfl)) (fun _ _ _ h => h) (Or.inl ⟨by rfl, ?_⟩) ?_ ?_
        rotate_left
        · intro w'
          go_simp
          with_reducible rfl
        rotate_left
        · simp only [Act.put, List.setIfInBounds_toArray, List.set_cons_zero, List.set_cons_succ, i64_w, i32_w]
          rfl
        refine pure_ (i := 17) (N := some 49) (v := ?_) (a' := ?_) #[true, true, true, true, true, true, true, true, true, true, true, true, true, true, true, true, true, true, false, false, false, false, false, false] rfl rfl (any_of HT_.out (by kernel_rfl)) (fun _ _ _ h => h) (Or.inl ⟨by rfl, ?_⟩) ?_ ?_
        rotate_left
        · intro w'
          go_simp
          with_reducible rfl
        rotate_left
        · simp only [Act.put, List.setIfInBounds_toArray, List.set_cons_zero, List.set_cons_succ, i64_w, i32_w]
          rfl
        refine pure_ (i := 18) (N := some 50) (v := ?_) (a' := ?_) #[true, true, true, true, true, true, true, true, true, true, true, true, true, true, true, true, true, true, true, false, false, false, false, false] rfl rfl (any_of HT_.out (by kernel_rfl)) (fun _ _ _ h => h) (Or.inl ⟨by rfl, ?_⟩) ?_ ?_
        rotate_left
        · intro w'
          go_simp
          with_reducible rfl
        rotate_left
        · simp only [Act.put, List.setIfInBounds_toArray, List.set_cons_zero, List.set_cons_succ, i64_w, i32_w]
          rfl
        refine pure_ (i := 20) (N := some 52) (v := ?_) (a' := ?_) #[true, true, true, true, true, true, true, true, true, true, true, true, true, true, true, true, true, true, true, false, true, false, false, false] rfl rfl (any_of HT_.out (by kernel_rfl)) (fun _ _ _ h => h) (Or.inl ⟨by rfl, ?_⟩) ?_ ?_
        rotate_left
        · intro w'
          go_simp
          with_reducible rfl
        rotate_left
        · simp only [Act.put, List.setIfInBounds_toArray, List.set_cons_zero, List.set_cons_succ, i64_w, i32_w]
          rfl
        refine take_ (i := 19) (N := some 51) (v := ?_) (a' := ?_) #[true, true, true, true, true, true, true, true, true, true, true, true, true, true, true, true, true, true, true, true, true, false, false, false] rfl rfl (take_ofW HT_.out HW_.out (by kernel_rfl)) (fun _ _ _ h => h) (Or.inl ⟨by rfl, ?_⟩) hHeld ?_ ?_
        rotate_left
        · rintro w' ⟨s0, s1, s2, s3, s4, s5, s6, s7, s8, s9, s10, s11, s12, s13, s14, s15⟩
          go_simp
          with_reducible rfl
        rotate_left
        · simp only [Act.put, List.setIfInBounds_toArray, List.set_cons_zero, List.set_cons_succ, i64_w, i32_w]
          rfl
        refine take_ (i := 21) (N := some 53) (v := ?_) (a' := ?_) #[true, true, true, true, true, true, true, true, true, true, true, true, true, true, true, true, true, true, true, true, true, true, false, false] rfl rfl (take_ofW HT_.out HW_.out (by kernel_rfl)) (fun _ _ _ h => h) (Or.inl ⟨by rfl, ?_⟩) hHeld ?_ ?_
        rotate_left
        · rintro w' ⟨s0, s1, s2, s3, s4, s5, s6, s7, s8, s9, s10, s11, s12, s13, s14, s15⟩
          go_simp
          with_reducible rfl
        rotate_left
        · simp only [Act.put, List.setIfInBounds_toArray, List.set_cons_zero, List.set_cons_succ, i64_w, i32_w]
          rfl
        refine pure_ (i := 22) (N := some 54) (v := ?_) (a' := ?_) #[true, true, true, true, true, true, true, true, true, true, true, true, true, true, true, true, true, true, true, true, true, true, true, false] rfl rfl (any_of HT_.out (by kernel_rfl)) (fun _ _ _ h => h) (Or.inl ⟨by rfl, ?_⟩) ?_ ?_
        rotate_left
        · intro w'
          go_simp
          with_reducible rfl
        rotate_left
        · simp only [Act.put, List.setIfInBounds_toArray, List.set_cons_zero, List.set_cons_succ, i64_w, i32_w]
          rfl
        refine pure_ (i := 23) (N := some 55) (v := ?_) (a' := ?_) #[true, true, true, true, true, true, true, true, true, true, true, true, true, true, true, true, true, true, true, true, true, true, true, true] rfl rfl (any_of HT_.out (by kernel_rfl)) (fun _ _ _ h => h) (Or.inl ⟨by rfl, ?_⟩) ?_ ?_
        rotate_left
        · intro w'
          go_simp
          with_reducible rfl
        rotate_left
        · simp only [Act.put, List.setIfInBounds_toArray, List.set_cons_zero, List.set_cons_succ, i64_w, i32_w]
          rfl
        refine done_ (done_of HT_.out (by kernel_rfl)) ?_
      · try go_wp2
        go_ret
        exact ⟨by first | rfl | (simp [errW_none, errW_some] <;> rfl) | (simp [*, errW_none, errW_some] <;> rfl), by repeat (first | (with_reducible first | exact HB.out | apply below_alloc | apply pw_below_drewN | apply below_drew1 | refine below_set ?_ GE294.out | refine below_set ?_ GE303.out) | exact HB.out)⟩
      · have hcz37_0 : w35.cell? ⟨gb303, 0, none⟩ = some (.int .i64 ((rd_T39 t299 x27_1).f0)) := (blk_cell BK303.out 0).trans rfl
        have hcz37_1 : w35.cell? ⟨gb303, 1, none⟩ = some (.int .i64 ((rd_T39 t299 x27_1).f1)) := (blk_cell BK303.out 1).trans rfl
        have hcz37_2 : w35.cell? ⟨gb303, 2, none⟩ = some (.int .i64 ((rd_T39 t299 x27_1).f2)) := (blk_cell BK303.out 2).trans rfl
        have hcz37_3 : w35.cell? ⟨gb303, 3, none⟩ = some (.int .i64 ((rd_T39 t299 x27_1).f3)) := (blk_cell BK303.out 3).trans rfl
        have hcz37_4 : w35.cell? ⟨gb303, 4, none⟩ = some (.int .i64 ((rd_T39 t299 x27_1).f4)) := (blk_cell BK303.out 4).trans rfl
        have hcz37_5 : w35.cell? ⟨gb303, 5, none⟩ = some (.int .i64 ((rd_T39 t299 x27_1).f5)) := (blk_cell BK303.out 5).trans rfl
        have hfz37_0 := blk_frozen BK303.out 0
        have hfz37_1 := blk_frozen BK303.out 1
        have hfz37_2 := blk_frozen BK303.out 2
        have hfz37_3 := blk_frozen BK303.out 3
        have hfz37_4 := blk_frozen BK303.out 4
        have hfz37_5 := blk_frozen BK303.out 5
        try go_wp2
        go_roundg k1
        case measure => have := HK1.out; omega
        case rel => exact ⟨(wrap64 (x5_1 + (wrap64 (((rd_T39 t299 x27_1).f4) * ((rd_T39 t299 x27_1).f5))))), (wrap64 (x27_1 + 1)), (by first | rfl | (simp; done) | (simp [*]; done)), (by first | rfl | (simp; done) | (simp [*]; done)), H', ⟨by have := HK1.out; omega⟩, ⟨by (with_reducible repeat (first | apply Kd.S_alloc | apply Kd.S_drewN | apply Kd.S_drew)); exact HO_4.out⟩, ⟨by (with_reducible repeat (first | apply Kd.R_alloc | apply Kd.R_drewN | apply Kd.R_drew)); exact Kd.R_mono HO_25.out (fun _ hk => trivial)⟩, ⟨by (with_reducible repeat (first | apply Kd.R_alloc | apply Kd.R_drewN | apply Kd.R_drew)); exact HO_295004.out⟩, ⟨by (with_reducible repeat (first | refine blk_drewN ?_ _ | refine blk_drew ?_ | refine blk_alloc ?_ _)); exact BK294.out⟩, ⟨by repeat (first | (with_reducible first | exact HB.out | apply below_alloc | apply pw_below_drewN | apply below_drew1 | refine below_set ?_ GE294.out | refine below_set ?_ GE303.out) | exact HB.out)⟩⟩

/-- THE ONE PURE STATEMENT of laws_FnPasses: yours. -/
def laws_FnPasses.Pure : Prop := ∀ (l0 : List Int), l0.length ≤ maxLen → l0.length * 1 ≤ 140737488351232 → (∀ x ∈ l0, (Lit.int .u8 x).wf = true) → ∃ k, laws_FnPasses.f k l0 = some true
theorem laws_FnPasses.walk (P : laws_FnPasses.Pure) (a0 : Option Addr) (len0 cap0 : Nat) (z0 : List Int) (w : World) (w0 : (a0 = none ∧ len0 = 0 ∧ cap0 = 0 ∧ z0 = []) ∨ ∃ x, a0 = some x ∧ len0 ≤ cap0 ∧ cap0 ≤ maxLen ∧ z0.length = cap0 ∧ (∀ i, i < z0.length → w.cell? (x.add i) = some (.int .u8 (z0.getD i 0))) ∧ ∀ n ∈ z0, (Lit.int .u8 n).wf = true) (y0 : len0 * 1 ≤ 140737488351232) :
    Calls Try.prog 4 #[.slice a0 len0 cap0] w fun e w' => e = .returned (.bool true) ∧ Below w.heap.size w w' := by
  obtain ⟨l0, rfl, hr0, hm0, hw0, hc0⟩ := ReadsInt.ofRowC w0
  obtain ⟨k, h⟩ := P l0 hm0 y0 hw0
  refine (laws_FnPasses.calls k _ _ l0 true w (Kd.C_of_reads (d := (0 : Int)) (h1 := fun _ => rfl) hr0) hc0 h).mono ?_
  rintro e w' ⟨rfl, hd⟩
  exact ⟨rfl, hd⟩

end Go.Proofs.Ytggokppfhkebkaa.PFnPasses

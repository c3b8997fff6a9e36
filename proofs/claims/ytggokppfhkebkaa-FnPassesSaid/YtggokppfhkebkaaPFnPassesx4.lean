-- written by myprint.py (a program of this session's over the kit's print)
import Derived.Test.YtggokppfhkebkaaPFnPassesx0
import Derived.Test.YtggokppfhkebkaaPFnPassesx1
import Derived.Test.YtggokppfhkebkaaPFnPassesx2
import Derived.Test.YtggokppfhkebkaaPFnPassesx3
namespace Go.Proofs.Ytggokppfhkebkaa.PFnPasses
open Go.RowKit Go.Proofs.YtggokppfhkebkaaW.PrintWords Go.Proofs.YtggokppfhkebkaaW.PrintLast Go.Proofs.YtggokppfhkebkaaW.PrintMore
attribute [local go_sem] max2_int min2_int max_two min_two max_three min_three max_four min_four   -- for this text's walks alone
set_option linter.unusedVariables false
set_option linter.unusedSimpArgs false

/-! ### spec_DrawGoodImage: function 75 -/
def spec_DrawGoodImage.f (k : Nat) (l0 : List Int) : Option (Int × Int × Int × Int × List Int) := (spec_l1Cur_image.f k l0 0 0 9).bind fun bt216 => ((spec_l1Cur_one.f l0 bt216.2.2.2.2.2.1 bt216.2.2.2.2.2.2 12).bind fun bt226 => (if bt226.1 = true then ((spec_l1Cur_pick.f l0 bt226.2.1 bt226.2.2 3).bind fun bt229 => (if 0 ≤ (wrap64 ((wrap64 (511 + bt229.1)) * 8)) then (if (wrap64 ((wrap64 (511 + bt229.1)) * 8) : Int).toNat ≤ 35184372088832 then (some (wrap64 (511 + bt229.1), 8, 1, 1, (List.replicate (wrap64 ((wrap64 (511 + bt229.1)) * 8) : Int).toNat 0))) else (none)) else (none))) else ((spec_l1Cur_one.f l0 bt226.2.1 bt226.2.2 3).bind fun bt235 => (if bt235.1 = true then ((spec_l1Cur_oddImage.f l0 bt235.2.1 bt235.2.2 bt216.1 bt216.2.1 bt216.2.2.1 bt216.2.2.2.1 bt216.2.2.2.2.1).bind fun bt238 => (some (bt238.1, bt238.2.1, bt238.2.2.1, bt238.2.2.2.1, bt238.2.2.2.2.1))) else (some (bt216.1, bt216.2.1, bt216.2.2.1, bt216.2.2.2.1, bt216.2.2.2.2.1))))))
theorem spec_DrawGoodImage.mono : ∀ a0 k, LeO (spec_DrawGoodImage.f k a0) (spec_DrawGoodImage.f (k + 1) a0) := by
  intro a0 k
  unfold spec_DrawGoodImage.f
  repeat' first
      | (with_reducible exact spec_l1Cur_image.mono _ _ _ _ _)
      | (with_reducible exact LeO.refl _)
      | (with_reducible exact LeO.none _)
      | (with_reducible refine LeO.ite ?_ ?_)
      | (with_reducible refine LeO.bind ?_ (fun _ => ?_))
      | exact spec_l1Cur_image.mono _ _ _ _ _
      | exact LeO.none _
      | refine LeO.ite ?_ ?_
      | refine LeO.bind ?_ (fun _ => ?_)
set_option maxHeartbeats 8000000 in
set_option maxRecDepth 100000 in
theorem spec_DrawGoodImage.calls (k : Nat) (A0 : Option Addr) (c0 : Nat) (l0 : List Int) (r1 : Int) (r2 : Int) (r3 : Int) (r4 : Int) (r5 : List Int) (w : World) (hr0 : Kd.C (Kd.int .u8) w A0 l0.length l0) (hc0 : l0.length ≤ c0) (h : spec_DrawGoodImage.f k l0 = some (r1, r2, r3, r4, r5)) :
    Calls Try.prog 75 #[.slice A0 l0.length c0] w fun e w' => ∃ v4_ : Value, e = .returned (.agg #[.int .i64 r1, .int .i64 r2, .int .i64 r3, .int .i64 r4, v4_]) ∧ Kd.R (Kd.int .i64) 3 w' w.heap.size (fun _ => True) v4_ r5 ∧ Below w.heap.size w w' := by
  have hu31 := Try.underlying31
  have hu123 := Try.underlying123
  have HR0 := Aside0.mk hr0
  have HC0 := Aside0.mk hc0
  clear hr0 hc0
  have HB := Aside0.mk (Below.refl w.heap.size w)
  have H : ((spec_l1Cur_image.f k l0 0 0 9).bind fun bt216 => ((spec_l1Cur_one.f l0 bt216.2.2.2.2.2.1 bt216.2.2.2.2.2.2 12).bind fun bt226 => (if bt226.1 = true then ((spec_l1Cur_pick.f l0 bt226.2.1 bt226.2.2 3).bind fun bt229 => (if 0 ≤ (wrap64 ((wrap64 (511 + bt229.1)) * 8)) then (if (wrap64 ((wrap64 (511 + bt229.1)) * 8) : Int).toNat ≤ 35184372088832 then (some (wrap64 (511 + bt229.1), 8, 1, 1, (List.replicate (wrap64 ((wrap64 (511 + bt229.1)) * 8) : Int).toNat 0))) else (none)) else (none))) else ((spec_l1Cur_one.f l0 bt226.2.1 bt226.2.2 3).bind fun bt235 => (if bt235.1 = true then ((spec_l1Cur_oddImage.f l0 bt235.2.1 bt235.2.2 bt216.1 bt216.2.1 bt216.2.2.1 bt216.2.2.2.1 bt216.2.2.2.2.1).bind fun bt238 => (some (bt238.1, bt238.2.1, bt238.2.2.1, bt238.2.2.2.1, bt238.2.2.2.2.1))) else (some (bt216.1, bt216.2.1, bt216.2.2.1, bt216.2.2.2.1, bt216.2.2.2.2.1))))))) = some (r1, r2, r3, r4, r5) := h
  clear h
  replace H := Option.bind_eq_some_iff.mp H
  obtain ⟨⟨t216, t217, t218, t219, t220, t223, t224⟩, A20, H⟩ := H
  replace H : ((spec_l1Cur_one.f l0 t223 t224 12).bind fun bt226 => (if bt226.1 = true then ((spec_l1Cur_pick.f l0 bt226.2.1 bt226.2.2 3).bind fun bt229 => (if 0 ≤ (wrap64 ((wrap64 (511 + bt229.1)) * 8)) then (if (wrap64 ((wrap64 (511 + bt229.1)) * 8) : Int).toNat ≤ 35184372088832 then (some (wrap64 (511 + bt229.1), 8, 1, 1, (List.replicate (wrap64 ((wrap64 (511 + bt229.1)) * 8) : Int).toNat 0))) else (none)) else (none))) else ((spec_l1Cur_one.f l0 bt226.2.1 bt226.2.2 3).bind fun bt235 => (if bt235.1 = true then ((spec_l1Cur_oddImage.f l0 bt235.2.1 bt235.2.2 t216 t217 t218 t219 t220).bind fun bt238 => (some (bt238.1, bt238.2.1, bt238.2.2.1, bt238.2.2.2.1, bt238.2.2.2.2.1))) else (some (t216, t217, t218, t219, t220)))))) = some (r1, r2, r3, r4, r5) := H
  have A2 := Aside0.mk A20
  clear A20
  replace H := Option.bind_eq_some_iff.mp H
  obtain ⟨⟨t226, t227, t228⟩, A30, H⟩ := H
  replace H : (if t226 = true then ((spec_l1Cur_pick.f l0 t227 t228 3).bind fun bt229 => (if 0 ≤ (wrap64 ((wrap64 (511 + bt229.1)) * 8)) then (if (wrap64 ((wrap64 (511 + bt229.1)) * 8) : Int).toNat ≤ 35184372088832 then (some (wrap64 (511 + bt229.1), 8, 1, 1, (List.replicate (wrap64 ((wrap64 (511 + bt229.1)) * 8) : Int).toNat 0))) else (none)) else (none))) else ((spec_l1Cur_one.f l0 t227 t228 3).bind fun bt235 => (if bt235.1 = true then ((spec_l1Cur_oddImage.f l0 bt235.2.1 bt235.2.2 t216 t217 t218 t219 t220).bind fun bt238 => (some (bt238.1, bt238.2.1, bt238.2.2.1, bt238.2.2.2.1, bt238.2.2.2.2.1))) else (some (t216, t217, t218, t219, t220))))) = some (r1, r2, r3, r4, r5) := H
  have A3 := Aside0.mk A30
  clear A30
  by_cases c4 : t226 = true
  · subst c4
    have H1 : ((spec_l1Cur_pick.f l0 t227 t228 3).bind fun bt229 => (if 0 ≤ (wrap64 ((wrap64 (511 + bt229.1)) * 8)) then (if (wrap64 ((wrap64 (511 + bt229.1)) * 8) : Int).toNat ≤ 35184372088832 then (some (wrap64 (511 + bt229.1), 8, 1, 1, (List.replicate (wrap64 ((wrap64 (511 + bt229.1)) * 8) : Int).toNat 0))) else (none)) else (none))) = some (r1, r2, r3, r4, r5) := by rw [if_pos rfl] at H; exact H
    clear H
    have H := H1
    clear H1
    replace H := Option.bind_eq_some_iff.mp H
    obtain ⟨⟨t229, t230, t231⟩, A50, H⟩ := H
    replace H : (if 0 ≤ (wrap64 ((wrap64 (511 + t229)) * 8)) then (if (wrap64 ((wrap64 (511 + t229)) * 8) : Int).toNat ≤ 35184372088832 then (some (wrap64 (511 + t229), 8, 1, 1, (List.replicate (wrap64 ((wrap64 (511 + t229)) * 8) : Int).toNat 0))) else (none)) else (none)) = some (r1, r2, r3, r4, r5) := H
    have A5 := Aside0.mk A50
    clear A50
    obtain ⟨ji6, hji6⟩ : ∃ j_ : Int, (wrap64 ((wrap64 (511 + t229)) * 8)) = j_ := ⟨_, rfl⟩
    replace H : (if 0 ≤ (ji6) then (if (ji6 : Int).toNat ≤ 35184372088832 then (some (wrap64 (511 + t229), 8, 1, 1, (List.replicate (ji6 : Int).toNat 0))) else (none)) else (none)) = some (r1, r2, r3, r4, r5) := by first | (rw [hji6] at H; exact H) | (simp only [hji6] at H ⊢; exact H)
    (try rw [hji6] at A2)
    (try rw [hji6] at A3)
    (try rw [hji6] at A5)
    have hji6w : (IntKind.i64.wrap ((wrap64 (511 + t229)) * 8)) = ji6 := (i64_w _).trans hji6
    by_cases c7 : 0 ≤ (ji6)
    rotate_left
    · rw [if_neg c7] at H
      exact absurd H (by simp)
    rw [if_pos c7] at H
    have c7b0 := eq_true c7
    have c7b1 : decide (0 ≤ (ji6)) = true := decide_eq_true c7
    clear c7
    by_cases c8 : (ji6 : Int).toNat ≤ 35184372088832
    rotate_left
    · rw [if_neg c8] at H
      exact absurd H (by simp)
    rw [if_pos c8] at H
    have c8b0 := eq_true c8
    have c8b1 : decide ((ji6 : Int).toNat ≤ 35184372088832) = true := decide_eq_true c8
    clear c8
    obtain ⟨y232, hy232⟩ : ∃ y_ : List Int, y_ = (List.replicate (ji6 : Int).toNat 0) := ⟨_, rfl⟩
    replace H : (some (wrap64 (511 + t229), 8, 1, 1, y232)) = some (r1, r2, r3, r4, r5) := by first | (rw [hy232]; with_reducible exact H) | (have H2_ := (Option.bind_some _ _).symm.trans H; rw [hy232]; with_reducible exact H2_) | (have H2_ := (Option.bind_some _ _).symm.trans H; with_reducible exact H2_) | with_reducible exact H | (rw [hy232]; exact H) | exact H
    have Ny232 := Aside0.mk hy232
    clear hy232
    simp only [Option.some.injEq, Prod.mk.injEq] at H
    obtain ⟨rfl, rfl, rfl, rfl, rfl⟩ := H
    go_enter Try.func75, Try.ntmps75
    go_wp2_with (first | ((with_reducible refine gate_dst (N := 2) rfl ?_); refine box_event ?hg (N := 2) ?hd (cs := #[.int .i64 0, .int .i64 0, .int .i64 0, .int .i64 0, .slice none 0 0]) (t := 31) ?hr ?_; (case hd => rfl); (case hg => rfl); (case hr => first | (go_simp; done) | (go_simp; rfl)); intro gb214 hg w9 hbox hb; have n0_ := Aside0.mk (below_step (by repeat (first | (with_reducible first | exact HB.out | apply below_alloc | apply pw_below_drewN | apply below_drew1) | exact HB.out)) hb); have n1_ := Aside0.mk (hbox); have n2_ := Aside0.mk ((by rw [hg]; exact (below_size (by repeat (first | (with_reducible first | exact HB.out | apply below_alloc | apply pw_below_drewN | apply below_drew1) | exact HB.out))) : w.heap.size ≤ gb214)); have n3_ := n2_; clear HB; have HB := n0_; have BK214 := n1_; have GW214 := n2_; have GE214 := n3_; clear n0_ n1_ n2_ n3_; clear hb hbox hg) | ((with_reducible refine gate_dst (N := 7) rfl ?_); refine box_event ?hg (N := 7) ?hd (cs := #[.slice A0 l0.length c0, .int .i64 0, .int .u64 0]) (t := 123) ?hr ?_; (case hd => rfl); (case hg => rfl); (case hr => first | (go_simp; done) | (go_simp; rfl)); intro gb215 hg w10 hbox hb; have n0_ := Aside0.mk (blk_below (g := gb214) (o := .cells #[.int .i64 0, .int .i64 0, .int .i64 0, .int .i64 0, .slice none 0 0] 31 (0, 0)) (by (with_reducible repeat (first | refine blk_drewN ?_ _ | refine blk_drew ?_ | refine blk_alloc ?_ _)); exact BK214.out) hb); have n1_ := Aside0.mk (below_step (by repeat (first | (with_reducible first | exact HB.out | apply below_alloc | apply pw_below_drewN | apply below_drew1 | refine below_set ?_ GE214.out) | exact HB.out)) hb); have n2_ := Aside0.mk ((by rw [hg]; exact (below_size (by repeat (first | (with_reducible first | exact HB.out | apply below_alloc | apply pw_below_drewN | apply below_drew1 | refine below_set ?_ GE214.out) | exact HB.out))) : w.heap.size ≤ gb215)); have n3_ := Aside0.mk ((show IsS123 w w10 gb215 l0 0 0 from ⟨_, _, hbox, (by rw [hg]; exact (below_size (by repeat (first | (with_reducible first | exact HB.out | apply below_alloc | apply pw_below_drewN | apply below_drew1 | refine below_set ?_ GE214.out) | exact HB.out)))), HR0.out⟩)); have n4_ := Aside0.mk ((by rw [hg]; exact Nat.ne_of_lt (blk_lt (g := gb214) (o := .cells #[.int .i64 0, .int .i64 0, .int .i64 0, .int .i64 0, .slice none 0 0] 31 (0, 0)) (by (with_reducible repeat (first | refine blk_drewN ?_ _ | refine blk_drew ?_ | refine blk_alloc ?_ _)); exact BK214.out)) : gb214 ≠ gb215)); have n5_ := Aside0.mk ((by rw [hg]; exact Nat.ne_of_gt (blk_lt (g := gb214) (o := .cells #[.int .i64 0, .int .i64 0, .int .i64 0, .int .i64 0, .slice none 0 0] 31 (0, 0)) (by (with_reducible repeat (first | refine blk_drewN ?_ _ | refine blk_drew ?_ | refine blk_alloc ?_ _)); exact BK214.out)) : gb215 ≠ gb214)); clear BK214; clear HB; have BK214 := n0_; have HB := n1_; have GW215 := n2_; have HI215 := n3_; have NB214_215 := n4_; have NB215_214 := n5_; clear n0_ n1_ n2_ n3_ n4_ n5_; clear hb hbox hg) | ((with_reducible refine gate_callee (f := 133) rfl ?_); refine goesL_ (some 9) rfl rfl Try.func133 (by kernel_rfl) rfl #[.pointer (some ⟨gb215, 0, none⟩), .int .i64 9] rfl (by (try simp only [List.map_toArray, List.map_cons, List.map_nil]); first | done | rfl | (simp only [List.length_drop, List.length_take]; rfl)) ?_; (with_reducible refine (spec_l1Cur_image.calls k gb215 l0 0 0 9 t216 t217 t218 t219 t220 t223 t224 w _ ?side1 ?side2 A2.out).mono ?_); (case side1 => repeat (first | (with_reducible first | exact HI215.out | apply IsS123.alloc | apply IsS123.drewN | apply IsS123.drew | apply IsS123.set_1 | apply IsS123.set_2 | refine IsS123.far ?_ NB215_214.out _) | exact HI215.out)); (case side2 => repeat (first | (with_reducible first | exact HB.out | apply below_alloc | apply pw_below_drewN | apply below_drew1 | refine below_set ?_ (IsS123.ge HI215.out) | refine below_set ?_ GE214.out) | exact HB.out)); rintro e w11 ⟨v221, rfl, ho0, hi, hb, hk⟩; refine ⟨_, rfl, ?_⟩; have n0_ := Aside0.mk (KeepBut.blk hk (g' := gb214) (o := .cells #[.int .i64 0, .int .i64 0, .int .i64 0, .int .i64 0, .slice none 0 0] 31 (0, 0)) (by (with_reducible repeat (first | refine blk_drewN ?_ _ | refine blk_drew ?_ | refine blk_alloc ?_ _)); exact BK214.out) NB214_215.out (by simp)); have n1_ := Aside0.mk (Kd.R_lower ho0 (below_size (by repeat (first | (with_reducible first | exact HB.out | apply below_alloc | apply pw_below_drewN | apply below_drew1 | refine below_set ?_ (IsS123.ge HI215.out) | refine below_set ?_ GE214.out) | exact HB.out)))); have n2_ := Aside0.mk (hb); have n3_ := Aside0.mk (hi); clear BK214; clear HB; clear HI215; have BK214 := n0_; have HO222 := n1_; have HB := n2_; have HI215 := n3_; clear n0_ n1_ n2_ n3_; (try clear hb); (try clear hb2); (try clear hk); (try clear hi); (try clear ho0)) | ((with_reducible refine gate_dst (N := 4) rfl ?_); refine box_event ?hg (N := 4) ?hd (cs := #[.int .i64 0, .int .i64 0, .int .i64 0, .int .i64 0, .slice none 0 0]) (t := 31) ?hr ?_; (case hd => rfl); (case hg => rfl); (case hr => first | (go_simp; done) | (go_simp; rfl)); intro gb225 hg w12 hbox hb; have n0_ := Aside0.mk (Kd.R_below (by (with_reducible repeat (first | apply Kd.R_alloc | apply Kd.R_drewN | apply Kd.R_drew)); exact HO222.out) hb); have n1_ := Aside0.mk (blk_below (g := gb214) (o := .cells #[.int .i64 0, .int .i64 0, .int .i64 0, .int .i64 0, .slice none 0 0] 31 (0, 0)) (by (with_reducible repeat (first | refine blk_drewN ?_ _ | refine blk_drew ?_ | refine blk_alloc ?_ _)); exact BK214.out) hb); have n2_ := Aside0.mk (IsS123.below (by repeat (first | (with_reducible first | exact HI215.out | apply IsS123.alloc | apply IsS123.drewN | apply IsS123.drew | apply IsS123.set_1 | apply IsS123.set_2 | refine IsS123.far ?_ NB215_214.out _) | exact HI215.out)) hb); have n3_ := Aside0.mk (below_step (by repeat (first | (with_reducible first | exact HB.out | apply below_alloc | apply pw_below_drewN | apply below_drew1 | refine below_set ?_ (IsS123.ge HI215.out) | refine below_set ?_ GE214.out) | exact HB.out)) hb); have n4_ := Aside0.mk (hbox); have n5_ := Aside0.mk ((by rw [hg]; exact (below_size (by repeat (first | (with_reducible first | exact HB.out | apply below_alloc | apply pw_below_drewN | apply below_drew1 | refine below_set ?_ (IsS123.ge HI215.out) | refine below_set ?_ GE214.out) | exact HB.out))) : w.heap.size ≤ gb225)); have n6_ := n5_; have n7_ := Aside0.mk ((by rw [hg]; exact Nat.ne_of_lt (blk_lt (g := gb214) (o := .cells #[.int .i64 0, .int .i64 0, .int .i64 0, .int .i64 0, .slice none 0 0] 31 (0, 0)) (by (with_reducible repeat (first | refine blk_drewN ?_ _ | refine blk_drew ?_ | refine blk_alloc ?_ _)); exact BK214.out)) : gb214 ≠ gb225)); have n8_ := Aside0.mk ((by rw [hg]; exact Nat.ne_of_gt (blk_lt (g := gb214) (o := .cells #[.int .i64 0, .int .i64 0, .int .i64 0, .int .i64 0, .slice none 0 0] 31 (0, 0)) (by (with_reducible repeat (first | refine blk_drewN ?_ _ | refine blk_drew ?_ | refine blk_alloc ?_ _)); exact BK214.out)) : gb225 ≠ gb214)); have n9_ := Aside0.mk ((by rw [hg]; exact Nat.ne_of_lt (IsS123.lt (show IsS123 w _ gb215 l0 t223 t224 from by repeat (first | (with_reducible first | exact HI215.out | apply IsS123.alloc | apply IsS123.drewN | apply IsS123.drew | apply IsS123.set_1 | apply IsS123.set_2 | refine IsS123.far ?_ NB215_214.out _) | exact HI215.out))) : gb215 ≠ gb225)); have n10_ := Aside0.mk ((by rw [hg]; exact Nat.ne_of_gt (IsS123.lt (show IsS123 w _ gb215 l0 t223 t224 from by repeat (first | (with_reducible first | exact HI215.out | apply IsS123.alloc | apply IsS123.drewN | apply IsS123.drew | apply IsS123.set_1 | apply IsS123.set_2 | refine IsS123.far ?_ NB215_214.out _) | exact HI215.out))) : gb225 ≠ gb215)); clear HO222; clear BK214; clear HI215; clear HB; have HO222 := n0_; have BK214 := n1_; have HI215 := n2_; have HB := n3_; have BK225 := n4_; have GW225 := n5_; have GE225 := n6_; have NB214_225 := n7_; have NB225_214 := n8_; have NB215_225 := n9_; have NB225_215 := n10_; clear n0_ n1_ n2_ n3_ n4_ n5_ n6_ n7_ n8_ n9_ n10_; clear hb hbox hg; have hnb13 := NB225_214.out; have hnc13 := NB214_225.out; have hnb14 := NB225_215.out; have hnc14 := NB215_225.out; have hcz15_0 : w12.cell? ⟨gb225, 0, none⟩ = some (.int .i64 0) := (blk_cell BK225.out 0).trans rfl; have hcz15_1 : w12.cell? ⟨gb225, 1, none⟩ = some (.int .i64 0) := (blk_cell BK225.out 1).trans rfl; have hcz15_2 : w12.cell? ⟨gb225, 2, none⟩ = some (.int .i64 0) := (blk_cell BK225.out 2).trans rfl; have hcz15_3 : w12.cell? ⟨gb225, 3, none⟩ = some (.int .i64 0) := (blk_cell BK225.out 3).trans rfl; have hcz15_4 : w12.cell? ⟨gb225, 4, none⟩ = some (.slice none 0 0) := (blk_cell BK225.out 4).trans rfl; have hfz15_0 := blk_frozen BK225.out 0; have hfz15_1 := blk_frozen BK225.out 1; have hfz15_2 := blk_frozen BK225.out 2; have hfz15_3 := blk_frozen BK225.out 3; have hfz15_4 := blk_frozen BK225.out 4; obtain ⟨Ao16, co16, eo16⟩ := Kd.R_slice HO222.out; subst eo16) | ((with_reducible refine gate_callee (f := 104) rfl ?_); refine goesL_ (some 11) rfl rfl Try.func104 (by kernel_rfl) rfl #[.pointer (some ⟨gb215, 0, none⟩), .int .i64 12] rfl (by (try simp only [List.map_toArray, List.map_cons, List.map_nil]); first | done | rfl | (simp only [List.length_drop, List.length_take]; rfl)) ?_; (with_reducible refine (spec_l1Cur_one.calls gb215 l0 t223 t224 12 true t227 t228 w _ ?side1 ?side2 A3.out).mono ?_); (case side1 => repeat (first | (with_reducible first | exact HI215.out | apply IsS123.alloc | apply IsS123.drewN | apply IsS123.drew | apply IsS123.set_1 | apply IsS123.set_2 | refine IsS123.far ?_ NB215_214.out _ | refine IsS123.far ?_ NB215_225.out _) | exact HI215.out)); (case side2 => repeat (first | (with_reducible first | exact HB.out | apply below_alloc | apply pw_below_drewN | apply below_drew1 | refine below_set ?_ (IsS123.ge HI215.out) | refine below_set ?_ GE214.out | refine below_set ?_ GE225.out) | exact HB.out)); rintro e w17 ⟨rfl, hi, hb, hk⟩; refine ⟨_, rfl, ?_⟩; have n0_ := Aside0.mk (KeepBut.blk hk (g' := gb214) (o := .cells #[.int .i64 0, .int .i64 0, .int .i64 0, .int .i64 0, .slice none 0 0] 31 (0, 0)) (by (with_reducible repeat (first | refine blk_drewN ?_ _ | refine blk_drew ?_ | refine blk_alloc ?_ _)); refine blk_far ?_ NB214_225.out _; (with_reducible repeat (first | refine blk_drewN ?_ _ | refine blk_drew ?_ | refine blk_alloc ?_ _)); refine blk_far ?_ NB214_225.out _; (with_reducible repeat (first | refine blk_drewN ?_ _ | refine blk_drew ?_ | refine blk_alloc ?_ _)); refine blk_far ?_ NB214_225.out _; (with_reducible repeat (first | refine blk_drewN ?_ _ | refine blk_drew ?_ | refine blk_alloc ?_ _)); refine blk_far ?_ NB214_225.out _; (with_reducible repeat (first | refine blk_drewN ?_ _ | refine blk_drew ?_ | refine blk_alloc ?_ _)); refine blk_far ?_ NB214_225.out _; (with_reducible repeat (first | refine blk_drewN ?_ _ | refine blk_drew ?_ | refine blk_alloc ?_ _)); exact BK214.out) NB214_215.out (by simp)); have n1_ := Aside0.mk (Kd.R_mono (Kd.R_keep (IsS123.apart (show IsS123 w _ gb215 l0 t223 t224 from by repeat (first | (with_reducible first | exact HI215.out | apply IsS123.alloc | apply IsS123.drewN | apply IsS123.drew | apply IsS123.set_1 | apply IsS123.set_2 | refine IsS123.far ?_ NB215_214.out _ | refine IsS123.far ?_ NB215_225.out _) | exact HI215.out)) (by (with_reducible repeat (first | apply Kd.R_alloc | apply Kd.R_drewN | apply Kd.R_drew)); exact (Kd.R_mono (Kd.R_far (p := ⟨gb225, 4, none⟩) (Kd.R_far (p := ⟨gb225, 3, none⟩) (Kd.R_far (p := ⟨gb225, 2, none⟩) (Kd.R_far (p := ⟨gb225, 1, none⟩) (Kd.R_far (p := ⟨gb225, 0, none⟩) (Kd.R_types HO222.out BK225.out (by decide)) (fun _ hk => hk.2) (.int .i64 t216)) (fun _ hk => hk.2) (.int .i64 t217)) (fun _ hk => hk.2) (.int .i64 t218)) (fun _ hk => hk.2) (.int .i64 t219)) (fun _ hk => hk.2) (.slice Ao16 t220.length co16)) (fun _ h_ => h_.1))) (by decide)) hk (fun _ h => h.2)) (fun _ h => h.1)); have n2_ := Aside0.mk (KeepBut.blk hk (g' := gb225) (o := .cells #[.int .i64 t216, .int .i64 t217, .int .i64 t218, .int .i64 t219, .slice Ao16 t220.length co16] 31 (0, 0)) (by (with_reducible repeat (first | refine blk_drewN ?_ _ | refine blk_drew ?_ | refine blk_alloc ?_ _)); refine blk_put (cs := #[.int .i64 t216, .int .i64 t217, .int .i64 t218, .int .i64 t219, .slice none 0 0]) ?_ 4 _ rfl; (with_reducible repeat (first | refine blk_drewN ?_ _ | refine blk_drew ?_ | refine blk_alloc ?_ _)); refine blk_put (cs := #[.int .i64 t216, .int .i64 t217, .int .i64 t218, .int .i64 0, .slice none 0 0]) ?_ 3 _ rfl; (with_reducible repeat (first | refine blk_drewN ?_ _ | refine blk_drew ?_ | refine blk_alloc ?_ _)); refine blk_put (cs := #[.int .i64 t216, .int .i64 t217, .int .i64 0, .int .i64 0, .slice none 0 0]) ?_ 2 _ rfl; (with_reducible repeat (first | refine blk_drewN ?_ _ | refine blk_drew ?_ | refine blk_alloc ?_ _)); refine blk_put (cs := #[.int .i64 t216, .int .i64 0, .int .i64 0, .int .i64 0, .slice none 0 0]) ?_ 1 _ rfl; (with_reducible repeat (first | refine blk_drewN ?_ _ | refine blk_drew ?_ | refine blk_alloc ?_ _)); refine blk_put (cs := #[.int .i64 0, .int .i64 0, .int .i64 0, .int .i64 0, .slice none 0 0]) ?_ 0 _ rfl; (with_reducible repeat (first | refine blk_drewN ?_ _ | refine blk_drew ?_ | refine blk_alloc ?_ _)); exact BK225.out) NB225_215.out (by simp)); have n3_ := Aside0.mk (hb); have n4_ := Aside0.mk (hi); clear BK214; clear HO222; clear BK225; clear HB; clear HI215; have BK214 := n0_; have HO222 := n1_; have BK225 := n2_; have HB := n3_; have HI215 := n4_; clear n0_ n1_ n2_ n3_ n4_; (try clear hb); (try clear hb2); (try clear hk); (try clear hi)) | ((with_reducible refine gate_callee (f := 105) rfl ?_); refine goesL_ (some 13) rfl rfl Try.func105 (by kernel_rfl) rfl #[.pointer (some ⟨gb215, 0, none⟩), .int .i64 3] rfl (by (try simp only [List.map_toArray, List.map_cons, List.map_nil]); first | done | rfl | (simp only [List.length_drop, List.length_take]; rfl)) ?_; (with_reducible refine (spec_l1Cur_pick.calls gb215 l0 t227 t228 3 t229 t230 t231 w _ ?side1 ?side2 A5.out).mono ?_); (case side1 => repeat (first | (with_reducible first | exact HI215.out | apply IsS123.alloc | apply IsS123.drewN | apply IsS123.drew | apply IsS123.set_1 | apply IsS123.set_2 | refine IsS123.far ?_ NB215_214.out _ | refine IsS123.far ?_ NB215_225.out _) | exact HI215.out)); (case side2 => repeat (first | (with_reducible first | exact HB.out | apply below_alloc | apply pw_below_drewN | apply below_drew1 | refine below_set ?_ (IsS123.ge HI215.out) | refine below_set ?_ GE214.out | refine below_set ?_ GE225.out) | exact HB.out)); rintro e w18 ⟨rfl, hi, hb, hk⟩; refine ⟨_, rfl, ?_⟩; have n0_ := Aside0.mk (KeepBut.blk hk (g' := gb214) (o := .cells #[.int .i64 0, .int .i64 0, .int .i64 0, .int .i64 0, .slice none 0 0] 31 (0, 0)) (by (with_reducible repeat (first | refine blk_drewN ?_ _ | refine blk_drew ?_ | refine blk_alloc ?_ _)); exact BK214.out) NB214_215.out (by simp)); have n1_ := Aside0.mk (Kd.R_mono (Kd.R_keep (IsS123.apart (show IsS123 w _ gb215 l0 t227 t228 from by repeat (first | (with_reducible first | exact HI215.out | apply IsS123.alloc | apply IsS123.drewN | apply IsS123.drew | apply IsS123.set_1 | apply IsS123.set_2 | refine IsS123.far ?_ NB215_214.out _ | refine IsS123.far ?_ NB215_225.out _) | exact HI215.out)) (by (with_reducible repeat (first | apply Kd.R_alloc | apply Kd.R_drewN | apply Kd.R_drew)); exact HO222.out) (by decide)) hk (fun _ h => h.2)) (fun _ h => h.1)); have n2_ := Aside0.mk (KeepBut.blk hk (g' := gb225) (o := .cells #[.int .i64 t216, .int .i64 t217, .int .i64 t218, .int .i64 t219, .slice Ao16 t220.length co16] 31 (0, 0)) (by (with_reducible repeat (first | refine blk_drewN ?_ _ | refine blk_drew ?_ | refine blk_alloc ?_ _)); exact BK225.out) NB225_215.out (by simp)); have n3_ := Aside0.mk (hb); have n4_ := Aside0.mk (hi); clear BK214; clear HO222; clear BK225; clear HB; clear HI215; have BK214 := n0_; have HO222 := n1_; have BK225 := n2_; have HB := n3_; have HI215 := n4_; clear n0_ n1_ n2_ n3_ n4_; (try clear hb); (try clear hb2); (try clear hk); (try clear hi); have hcz19_0 : w18.cell? ⟨gb225, 0, none⟩ = some (.int .i64 t216) := (blk_cell BK225.out 0).trans rfl; have hcz19_1 : w18.cell? ⟨gb225, 1, none⟩ = some (.int .i64 t217) := (blk_cell BK225.out 1).trans rfl; have hcz19_2 : w18.cell? ⟨gb225, 2, none⟩ = some (.int .i64 t218) := (blk_cell BK225.out 2).trans rfl; have hcz19_3 : w18.cell? ⟨gb225, 3, none⟩ = some (.int .i64 t219) := (blk_cell BK225.out 3).trans rfl; have hcz19_4 : w18.cell? ⟨gb225, 4, none⟩ = some (.slice Ao16 t220.length co16) := (blk_cell BK225.out 4).trans rfl; have hfz19_0 := blk_frozen BK225.out 0; have hfz19_1 := blk_frozen BK225.out 1; have hfz19_2 := blk_frozen BK225.out 2; have hfz19_3 := blk_frozen BK225.out 3; have hfz19_4 := blk_frozen BK225.out 4) | ((with_reducible refine gate_dst (N := 21) rfl ?_); refine Kd.R_make (Kd.int .i64) _ 3 rfl (N := 21) rfl 22 _ _ rfl ji6 rfl rfl Try.underlying22 (.int .i64 0) 8 info3 rfl (by decide) (by omega) 0 (ok := fun _ => True) (okp := fun _ => True) rfl (fun _ hk => hk) trivial (of_decide_eq_true (by first | (with_reducible assumption) | assumption)) (Nat.le_trans (Nat.mul_le_mul_right _ (of_decide_eq_true (by first | (with_reducible assumption) | assumption) : ji6.toNat ≤ 35184372088832)) (by omega)) (Below.refl _ _) (Nat.le_refl _) ?_; intro v233 w20 ho21 hb hg_ hnew_; clear hg_ hnew_; (first | rw [← Ny232.out] at ho21 | (simp only [Int.reduceToNat] at ho21; rw [← Ny232.out] at ho21)); have n0_ := Aside0.mk (Kd.R_elder' (by (with_reducible repeat (first | apply Kd.R_alloc | apply Kd.R_drewN | apply Kd.R_drew)); exact (Kd.R_mono (Kd.R_far (p := ⟨gb225, 4, none⟩) (Kd.R_far (p := ⟨gb225, 3, none⟩) (Kd.R_far (p := ⟨gb225, 2, none⟩) (Kd.R_far (p := ⟨gb225, 1, none⟩) (Kd.R_far (p := ⟨gb225, 0, none⟩) (Kd.R_types HO222.out BK225.out (by decide)) (fun _ hk => hk.2) (.int .i64 (wrap64 (511 + t229)))) (fun _ hk => hk.2) (.int .i64 8)) (fun _ hk => hk.2) (.int .i64 1)) (fun _ hk => hk.2) (.int .i64 1)) (fun _ hk => hk.2) (.slice none 0 0)) (fun _ h_ => h_.1))) (Kd.R_base ho21) hb); have n1_ := Aside0.mk (Kd.R_lower (Kd.R_new' ho21 (Kd.R_lt (by (with_reducible repeat (first | apply Kd.R_alloc | apply Kd.R_drewN | apply Kd.R_drew)); exact (Kd.R_mono (Kd.R_far (p := ⟨gb225, 4, none⟩) (Kd.R_far (p := ⟨gb225, 3, none⟩) (Kd.R_far (p := ⟨gb225, 2, none⟩) (Kd.R_far (p := ⟨gb225, 1, none⟩) (Kd.R_far (p := ⟨gb225, 0, none⟩) (Kd.R_types HO222.out BK225.out (by decide)) (fun _ hk => hk.2) (.int .i64 (wrap64 (511 + t229)))) (fun _ hk => hk.2) (.int .i64 8)) (fun _ hk => hk.2) (.int .i64 1)) (fun _ hk => hk.2) (.int .i64 1)) (fun _ hk => hk.2) (.slice none 0 0)) (fun _ h_ => h_.1))))) (below_size (by repeat (first | (with_reducible first | exact HB.out | apply below_alloc | apply pw_below_drewN | apply below_drew1 | refine below_set ?_ (IsS123.ge HI215.out) | refine below_set ?_ GE214.out | refine below_set ?_ GE225.out) | exact HB.out)))); have n2_ := Aside0.mk (blk_below (g := gb214) (o := .cells #[.int .i64 0, .int .i64 0, .int .i64 0, .int .i64 0, .slice none 0 0] 31 (0, 0)) (by (with_reducible repeat (first | refine blk_drewN ?_ _ | refine blk_drew ?_ | refine blk_alloc ?_ _)); refine blk_far ?_ NB214_225.out _; (with_reducible repeat (first | refine blk_drewN ?_ _ | refine blk_drew ?_ | refine blk_alloc ?_ _)); refine blk_far ?_ NB214_225.out _; (with_reducible repeat (first | refine blk_drewN ?_ _ | refine blk_drew ?_ | refine blk_alloc ?_ _)); refine blk_far ?_ NB214_225.out _; (with_reducible repeat (first | refine blk_drewN ?_ _ | refine blk_drew ?_ | refine blk_alloc ?_ _)); refine blk_far ?_ NB214_225.out _; (with_reducible repeat (first | refine blk_drewN ?_ _ | refine blk_drew ?_ | refine blk_alloc ?_ _)); refine blk_far ?_ NB214_225.out _; (with_reducible repeat (first | refine blk_drewN ?_ _ | refine blk_drew ?_ | refine blk_alloc ?_ _)); exact BK214.out) hb); have n3_ := Aside0.mk (IsS123.below (show IsS123 w (((((w18.setCell ⟨gb225, 0, none⟩ (.int .i64 (wrap64 (511 + t229)))).setCell ⟨gb225, 1, none⟩ (.int .i64 8)).setCell ⟨gb225, 2, none⟩ (.int .i64 1)).setCell ⟨gb225, 3, none⟩ (.int .i64 1)).setCell ⟨gb225, 4, none⟩ (.slice none 0 0)) gb215 l0 t230 t231 from by repeat (first | (with_reducible first | exact HI215.out | apply IsS123.alloc | apply IsS123.drewN | apply IsS123.drew | apply IsS123.set_1 | apply IsS123.set_2 | refine IsS123.far ?_ NB215_214.out _ | refine IsS123.far ?_ NB215_225.out _) | exact HI215.out)) hb); have n4_ := Aside0.mk (blk_below (g := gb225) (o := .cells #[.int .i64 (wrap64 (511 + t229)), .int .i64 8, .int .i64 1, .int .i64 1, .slice none 0 0] 31 (0, 0)) (by (with_reducible repeat (first | refine blk_drewN ?_ _ | refine blk_drew ?_ | refine blk_alloc ?_ _)); refine blk_put (cs := #[.int .i64 (wrap64 (511 + t229)), .int .i64 8, .int .i64 1, .int .i64 1, .slice Ao16 t220.length co16]) ?_ 4 _ rfl; (with_reducible repeat (first | refine blk_drewN ?_ _ | refine blk_drew ?_ | refine blk_alloc ?_ _)); refine blk_put (cs := #[.int .i64 (wrap64 (511 + t229)), .int .i64 8, .int .i64 1, .int .i64 t219, .slice Ao16 t220.length co16]) ?_ 3 _ rfl; (with_reducible repeat (first | refine blk_drewN ?_ _ | refine blk_drew ?_ | refine blk_alloc ?_ _)); refine blk_put (cs := #[.int .i64 (wrap64 (511 + t229)), .int .i64 8, .int .i64 t218, .int .i64 t219, .slice Ao16 t220.length co16]) ?_ 2 _ rfl; (with_reducible repeat (first | refine blk_drewN ?_ _ | refine blk_drew ?_ | refine blk_alloc ?_ _)); refine blk_put (cs := #[.int .i64 (wrap64 (511 + t229)), .int .i64 t217, .int .i64 t218, .int .i64 t219, .slice Ao16 t220.length co16]) ?_ 1 _ rfl; (with_reducible repeat (first | refine blk_drewN ?_ _ | refine blk_drew ?_ | refine blk_alloc ?_ _)); refine blk_put (cs := #[.int .i64 t216, .int .i64 t217, .int .i64 t218, .int .i64 t219, .slice Ao16 t220.length co16]) ?_ 0 _ rfl; (with_reducible repeat (first | refine blk_drewN ?_ _ | refine blk_drew ?_ | refine blk_alloc ?_ _)); exact BK225.out) hb); have n5_ := Aside0.mk (below_step (by repeat (first | (with_reducible first | exact HB.out | apply below_alloc | apply pw_below_drewN | apply below_drew1 | refine below_set ?_ (IsS123.ge HI215.out) | refine below_set ?_ GE214.out | refine below_set ?_ GE225.out) | exact HB.out)) hb); clear HO222; clear BK214; clear HI215; clear BK225; clear HB; have HO222 := n0_; have HO234 := n1_; have BK214 := n2_; have HI215 := n3_; have BK225 := n4_; have HB := n5_; clear n0_ n1_ n2_ n3_ n4_ n5_; clear hb ho21; obtain ⟨Ao22, co22, eo22⟩ := Kd.R_slice HO234.out; subst eo22; have hcz23_0 : w20.cell? ⟨gb225, 0, none⟩ = some (.int .i64 (wrap64 (511 + t229))) := (blk_cell BK225.out 0).trans rfl; have hcz23_1 : w20.cell? ⟨gb225, 1, none⟩ = some (.int .i64 8) := (blk_cell BK225.out 1).trans rfl; have hcz23_2 : w20.cell? ⟨gb225, 2, none⟩ = some (.int .i64 1) := (blk_cell BK225.out 2).trans rfl; have hcz23_3 : w20.cell? ⟨gb225, 3, none⟩ = some (.int .i64 1) := (blk_cell BK225.out 3).trans rfl; have hcz23_4 : w20.cell? ⟨gb225, 4, none⟩ = some (.slice none 0 0) := (blk_cell BK225.out 4).trans rfl; have hfz23_0 := blk_frozen BK225.out 0; have hfz23_1 := blk_frozen BK225.out 1; have hfz23_2 := blk_frozen BK225.out 2; have hfz23_3 := blk_frozen BK225.out 3; have hfz23_4 := blk_frozen BK225.out 4; have hnb24 := NB214_215.out; have hnc24 := NB215_214.out; have hcz25_0 : w20.cell? ⟨gb214, 0, none⟩ = some (.int .i64 0) := (blk_cell BK214.out 0).trans rfl; have hcz25_1 : w20.cell? ⟨gb214, 1, none⟩ = some (.int .i64 0) := (blk_cell BK214.out 1).trans rfl; have hcz25_2 : w20.cell? ⟨gb214, 2, none⟩ = some (.int .i64 0) := (blk_cell BK214.out 2).trans rfl; have hcz25_3 : w20.cell? ⟨gb214, 3, none⟩ = some (.int .i64 0) := (blk_cell BK214.out 3).trans rfl; have hcz25_4 : w20.cell? ⟨gb214, 4, none⟩ = some (.slice none 0 0) := (blk_cell BK214.out 4).trans rfl; have hfz25_0 := blk_frozen BK214.out 0; have hfz25_1 := blk_frozen BK214.out 1; have hfz25_2 := blk_frozen BK214.out 2; have hfz25_3 := blk_frozen BK214.out 3; have hfz25_4 := blk_frozen BK214.out 4))
    refine bodyPost_ret (results_cell_row rfl _ _ gb214 31 #[.int .i64 (wrap64 (511 + t229)), .int .i64 8, .int .i64 1, .int .i64 1, .slice Ao22 y232.length co22] (0, 0) _ rfl (by (with_reducible repeat (first | refine blk_drewN ?_ _ | refine blk_drew ?_ | refine blk_alloc ?_ _)); refine blk_put (cs := #[.int .i64 (wrap64 (511 + t229)), .int .i64 8, .int .i64 1, .int .i64 1, .slice none 0 0]) ?_ 4 _ rfl; (with_reducible repeat (first | refine blk_drewN ?_ _ | refine blk_drew ?_ | refine blk_alloc ?_ _)); refine blk_put (cs := #[.int .i64 (wrap64 (511 + t229)), .int .i64 8, .int .i64 1, .int .i64 0, .slice none 0 0]) ?_ 3 _ rfl; (with_reducible repeat (first | refine blk_drewN ?_ _ | refine blk_drew ?_ | refine blk_alloc ?_ _)); refine blk_put (cs := #[.int .i64 (wrap64 (511 + t229)), .int .i64 8, .int .i64 0, .int .i64 0, .slice none 0 0]) ?_ 2 _ rfl; (with_reducible repeat (first | refine blk_drewN ?_ _ | refine blk_drew ?_ | refine blk_alloc ?_ _)); refine blk_put (cs := #[.int .i64 (wrap64 (511 + t229)), .int .i64 0, .int .i64 0, .int .i64 0, .slice none 0 0]) ?_ 1 _ rfl; (with_reducible repeat (first | refine blk_drewN ?_ _ | refine blk_drew ?_ | refine blk_alloc ?_ _)); refine blk_put (cs := #[.int .i64 0, .int .i64 0, .int .i64 0, .int .i64 0, .slice none 0 0]) ?_ 0 _ rfl; (with_reducible repeat (first | refine blk_drewN ?_ _ | refine blk_drew ?_ | refine blk_alloc ?_ _)); refine blk_far ?_ NB214_225.out _; (with_reducible repeat (first | refine blk_drewN ?_ _ | refine blk_drew ?_ | refine blk_alloc ?_ _)); exact BK214.out) Try.underlying31 rfl (by kernel_rfl)) rfl ?_
    exact ⟨_, by first | rfl | (simp [errW_none, errW_some] <;> rfl) | (simp only [← hji6]; first | rfl | (simp [errW_none, errW_some] <;> rfl)) | (simp [*, errW_none, errW_some] <;> rfl), by (with_reducible repeat (first | apply Kd.R_alloc | apply Kd.R_drewN | apply Kd.R_drew)); exact Kd.R_mono (Kd.R_far (p := ⟨gb214, 4, none⟩) (Kd.R_far (p := ⟨gb214, 3, none⟩) (Kd.R_far (p := ⟨gb214, 2, none⟩) (Kd.R_far (p := ⟨gb214, 1, none⟩) (Kd.R_far (p := ⟨gb214, 0, none⟩) (Kd.R_far (p := ⟨gb225, 4, none⟩) (Kd.R_types (Kd.R_types HO234.out BK225.out (by decide)) BK214.out (by decide)) (fun _ hk => hk.1.2) (.slice Ao22 y232.length co22)) (fun _ hk => hk.2) (.int .i64 (wrap64 (511 + t229)))) (fun _ hk => hk.2) (.int .i64 8)) (fun _ hk => hk.2) (.int .i64 1)) (fun _ hk => hk.2) (.int .i64 1)) (fun _ hk => hk.2) (.slice Ao22 y232.length co22)) (fun _ hk => trivial), by repeat (first | (with_reducible first | exact HB.out | apply below_alloc | apply pw_below_drewN | apply below_drew1 | refine below_set ?_ (IsS123.ge HI215.out) | refine below_set ?_ GE214.out | refine below_set ?_ GE225.out) | exact HB.out)⟩
  replace c4 := Bool.eq_false_iff.mpr c4
  subst c4
  have H1 : ((spec_l1Cur_one.f l0 t227 t228 3).bind fun bt235 => (if bt235.1 = true then ((spec_l1Cur_oddImage.f l0 bt235.2.1 bt235.2.2 t216 t217 t218 t219 t220).bind fun bt238 => (some (bt238.1, bt238.2.1, bt238.2.2.1, bt238.2.2.2.1, bt238.2.2.2.2.1))) else (some (t216, t217, t218, t219, t220)))) = some (r1, r2, r3, r4, r5) := by rw [if_neg (show ¬ (false = true) by decide)] at H; exact H
  clear H
  have H := H1
  clear H1
  replace H := Option.bind_eq_some_iff.mp H
  obtain ⟨⟨t235, t236, t237⟩, A260, H⟩ := H
  replace H : (if t235 = true then ((spec_l1Cur_oddImage.f l0 t236 t237 t216 t217 t218 t219 t220).bind fun bt238 => (some (bt238.1, bt238.2.1, bt238.2.2.1, bt238.2.2.2.1, bt238.2.2.2.2.1))) else (some (t216, t217, t218, t219, t220))) = some (r1, r2, r3, r4, r5) := H
  have A26 := Aside0.mk A260
  clear A260
  by_cases c27 : t235 = true
  rotate_left
  · replace c27 := Bool.eq_false_iff.mpr c27
    subst c27
    have H1 : (some (t216, t217, t218, t219, t220)) = some (r1, r2, r3, r4, r5) := by rw [if_neg (show ¬ (false = true) by decide)] at H; exact H
    clear H
    have H := H1
    clear H1
    simp only [Option.some.injEq, Prod.mk.injEq] at H
    obtain ⟨rfl, rfl, rfl, rfl, rfl⟩ := H
    go_enter Try.func75, Try.ntmps75
    go_wp2_with (first | ((with_reducible refine gate_dst (N := 2) rfl ?_); refine box_event ?hg (N := 2) ?hd (cs := #[.int .i64 0, .int .i64 0, .int .i64 0, .int .i64 0, .slice none 0 0]) (t := 31) ?hr ?_; (case hd => rfl); (case hg => rfl); (case hr => first | (go_simp; done) | (go_simp; rfl)); intro gb214 hg w45 hbox hb; have n0_ := Aside0.mk (below_step (by repeat (first | (with_reducible first | exact HB.out | apply below_alloc | apply pw_below_drewN | apply below_drew1) | exact HB.out)) hb); have n1_ := Aside0.mk (hbox); have n2_ := Aside0.mk ((by rw [hg]; exact (below_size (by repeat (first | (with_reducible first | exact HB.out | apply below_alloc | apply pw_below_drewN | apply below_drew1) | exact HB.out))) : w.heap.size ≤ gb214)); have n3_ := n2_; clear HB; have HB := n0_; have BK214 := n1_; have GW214 := n2_; have GE214 := n3_; clear n0_ n1_ n2_ n3_; clear hb hbox hg) | ((with_reducible refine gate_dst (N := 7) rfl ?_); refine box_event ?hg (N := 7) ?hd (cs := #[.slice A0 l0.length c0, .int .i64 0, .int .u64 0]) (t := 123) ?hr ?_; (case hd => rfl); (case hg => rfl); (case hr => first | (go_simp; done) | (go_simp; rfl)); intro gb215 hg w46 hbox hb; have n0_ := Aside0.mk (blk_below (g := gb214) (o := .cells #[.int .i64 0, .int .i64 0, .int .i64 0, .int .i64 0, .slice none 0 0] 31 (0, 0)) (by (with_reducible repeat (first | refine blk_drewN ?_ _ | refine blk_drew ?_ | refine blk_alloc ?_ _)); exact BK214.out) hb); have n1_ := Aside0.mk (below_step (by repeat (first | (with_reducible first | exact HB.out | apply below_alloc | apply pw_below_drewN | apply below_drew1 | refine below_set ?_ GE214.out) | exact HB.out)) hb); have n2_ := Aside0.mk ((by rw [hg]; exact (below_size (by repeat (first | (with_reducible first | exact HB.out | apply below_alloc | apply pw_below_drewN | apply below_drew1 | refine below_set ?_ GE214.out) | exact HB.out))) : w.heap.size ≤ gb215)); have n3_ := Aside0.mk ((show IsS123 w w46 gb215 l0 0 0 from ⟨_, _, hbox, (by rw [hg]; exact (below_size (by repeat (first | (with_reducible first | exact HB.out | apply below_alloc | apply pw_below_drewN | apply below_drew1 | refine below_set ?_ GE214.out) | exact HB.out)))), HR0.out⟩)); have n4_ := Aside0.mk ((by rw [hg]; exact Nat.ne_of_lt (blk_lt (g := gb214) (o := .cells #[.int .i64 0, .int .i64 0, .int .i64 0, .int .i64 0, .slice none 0 0] 31 (0, 0)) (by (with_reducible repeat (first | refine blk_drewN ?_ _ | refine blk_drew ?_ | refine blk_alloc ?_ _)); exact BK214.out)) : gb214 ≠ gb215)); have n5_ := Aside0.mk ((by rw [hg]; exact Nat.ne_of_gt (blk_lt (g := gb214) (o := .cells #[.int .i64 0, .int .i64 0, .int .i64 0, .int .i64 0, .slice none 0 0] 31 (0, 0)) (by (with_reducible repeat (first | refine blk_drewN ?_ _ | refine blk_drew ?_ | refine blk_alloc ?_ _)); exact BK214.out)) : gb215 ≠ gb214)); clear BK214; clear HB; have BK214 := n0_; have HB := n1_; have GW215 := n2_; have HI215 := n3_; have NB214_215 := n4_; have NB215_214 := n5_; clear n0_ n1_ n2_ n3_ n4_ n5_; clear hb hbox hg) | ((with_reducible refine gate_callee (f := 133) rfl ?_); refine goesL_ (some 9) rfl rfl Try.func133 (by kernel_rfl) rfl #[.pointer (some ⟨gb215, 0, none⟩), .int .i64 9] rfl (by (try simp only [List.map_toArray, List.map_cons, List.map_nil]); first | done | rfl | (simp only [List.length_drop, List.length_take]; rfl)) ?_; (with_reducible refine (spec_l1Cur_image.calls k gb215 l0 0 0 9 t216 t217 t218 t219 t220 t223 t224 w _ ?side1 ?side2 A2.out).mono ?_); (case side1 => repeat (first | (with_reducible first | exact HI215.out | apply IsS123.alloc | apply IsS123.drewN | apply IsS123.drew | apply IsS123.set_1 | apply IsS123.set_2 | refine IsS123.far ?_ NB215_214.out _) | exact HI215.out)); (case side2 => repeat (first | (with_reducible first | exact HB.out | apply below_alloc | apply pw_below_drewN | apply below_drew1 | refine below_set ?_ (IsS123.ge HI215.out) | refine below_set ?_ GE214.out) | exact HB.out)); rintro e w47 ⟨v221, rfl, ho0, hi, hb, hk⟩; refine ⟨_, rfl, ?_⟩; have n0_ := Aside0.mk (KeepBut.blk hk (g' := gb214) (o := .cells #[.int .i64 0, .int .i64 0, .int .i64 0, .int .i64 0, .slice none 0 0] 31 (0, 0)) (by (with_reducible repeat (first | refine blk_drewN ?_ _ | refine blk_drew ?_ | refine blk_alloc ?_ _)); exact BK214.out) NB214_215.out (by simp)); have n1_ := Aside0.mk (Kd.R_lower ho0 (below_size (by repeat (first | (with_reducible first | exact HB.out | apply below_alloc | apply pw_below_drewN | apply below_drew1 | refine below_set ?_ (IsS123.ge HI215.out) | refine below_set ?_ GE214.out) | exact HB.out)))); have n2_ := Aside0.mk (hb); have n3_ := Aside0.mk (hi); clear BK214; clear HB; clear HI215; have BK214 := n0_; have HO222 := n1_; have HB := n2_; have HI215 := n3_; clear n0_ n1_ n2_ n3_; (try clear hb); (try clear hb2); (try clear hk); (try clear hi); (try clear ho0)) | ((with_reducible refine gate_dst (N := 4) rfl ?_); refine box_event ?hg (N := 4) ?hd (cs := #[.int .i64 0, .int .i64 0, .int .i64 0, .int .i64 0, .slice none 0 0]) (t := 31) ?hr ?_; (case hd => rfl); (case hg => rfl); (case hr => first | (go_simp; done) | (go_simp; rfl)); intro gb225 hg w48 hbox hb; have n0_ := Aside0.mk (Kd.R_below (by (with_reducible repeat (first | apply Kd.R_alloc | apply Kd.R_drewN | apply Kd.R_drew)); exact HO222.out) hb); have n1_ := Aside0.mk (blk_below (g := gb214) (o := .cells #[.int .i64 0, .int .i64 0, .int .i64 0, .int .i64 0, .slice none 0 0] 31 (0, 0)) (by (with_reducible repeat (first | refine blk_drewN ?_ _ | refine blk_drew ?_ | refine blk_alloc ?_ _)); exact BK214.out) hb); have n2_ := Aside0.mk (IsS123.below (by repeat (first | (with_reducible first | exact HI215.out | apply IsS123.alloc | apply IsS123.drewN | apply IsS123.drew | apply IsS123.set_1 | apply IsS123.set_2 | refine IsS123.far ?_ NB215_214.out _) | exact HI215.out)) hb); have n3_ := Aside0.mk (below_step (by repeat (first | (with_reducible first | exact HB.out | apply below_alloc | apply pw_below_drewN | apply below_drew1 | refine below_set ?_ (IsS123.ge HI215.out) | refine below_set ?_ GE214.out) | exact HB.out)) hb); have n4_ := Aside0.mk (hbox); have n5_ := Aside0.mk ((by rw [hg]; exact (below_size (by repeat (first | (with_reducible first | exact HB.out | apply below_alloc | apply pw_below_drewN | apply below_drew1 | refine below_set ?_ (IsS123.ge HI215.out) | refine below_set ?_ GE214.out) | exact HB.out))) : w.heap.size ≤ gb225)); have n6_ := n5_; have n7_ := Aside0.mk ((by rw [hg]; exact Nat.ne_of_lt (blk_lt (g := gb214) (o := .cells #[.int .i64 0, .int .i64 0, .int .i64 0, .int .i64 0, .slice none 0 0] 31 (0, 0)) (by (with_reducible repeat (first | refine blk_drewN ?_ _ | refine blk_drew ?_ | refine blk_alloc ?_ _)); exact BK214.out)) : gb214 ≠ gb225)); have n8_ := Aside0.mk ((by rw [hg]; exact Nat.ne_of_gt (blk_lt (g := gb214) (o := .cells #[.int .i64 0, .int .i64 0, .int .i64 0, .int .i64 0, .slice none 0 0] 31 (0, 0)) (by (with_reducible repeat (first | refine blk_drewN ?_ _ | refine blk_drew ?_ | refine blk_alloc ?_ _)); exact BK214.out)) : gb225 ≠ gb214)); have n9_ := Aside0.mk ((by rw [hg]; exact Nat.ne_of_lt (IsS123.lt (show IsS123 w _ gb215 l0 t223 t224 from by repeat (first | (with_reducible first | exact HI215.out | apply IsS123.alloc | apply IsS123.drewN | apply IsS123.drew | apply IsS123.set_1 | apply IsS123.set_2 | refine IsS123.far ?_ NB215_214.out _) | exact HI215.out))) : gb215 ≠ gb225)); have n10_ := Aside0.mk ((by rw [hg]; exact Nat.ne_of_gt (IsS123.lt (show IsS123 w _ gb215 l0 t223 t224 from by repeat (first | (with_reducible first | exact HI215.out | apply IsS123.alloc | apply IsS123.drewN | apply IsS123.drew | apply IsS123.set_1 | apply IsS123.set_2 | refine IsS123.far ?_ NB215_214.out _) | exact HI215.out))) : gb225 ≠ gb215)); clear HO222; clear BK214; clear HI215; clear HB; have HO222 := n0_; have BK214 := n1_; have HI215 := n2_; have HB := n3_; have BK225 := n4_; have GW225 := n5_; have GE225 := n6_; have NB214_225 := n7_; have NB225_214 := n8_; have NB215_225 := n9_; have NB225_215 := n10_; clear n0_ n1_ n2_ n3_ n4_ n5_ n6_ n7_ n8_ n9_ n10_; clear hb hbox hg; have hnb49 := NB225_214.out; have hnc49 := NB214_225.out; have hnb50 := NB225_215.out; have hnc50 := NB215_225.out; have hcz51_0 : w48.cell? ⟨gb225, 0, none⟩ = some (.int .i64 0) := (blk_cell BK225.out 0).trans rfl; have hcz51_1 : w48.cell? ⟨gb225, 1, none⟩ = some (.int .i64 0) := (blk_cell BK225.out 1).trans rfl; have hcz51_2 : w48.cell? ⟨gb225, 2, none⟩ = some (.int .i64 0) := (blk_cell BK225.out 2).trans rfl; have hcz51_3 : w48.cell? ⟨gb225, 3, none⟩ = some (.int .i64 0) := (blk_cell BK225.out 3).trans rfl; have hcz51_4 : w48.cell? ⟨gb225, 4, none⟩ = some (.slice none 0 0) := (blk_cell BK225.out 4).trans rfl; have hfz51_0 := blk_frozen BK225.out 0; have hfz51_1 := blk_frozen BK225.out 1; have hfz51_2 := blk_frozen BK225.out 2; have hfz51_3 := blk_frozen BK225.out 3; have hfz51_4 := blk_frozen BK225.out 4; obtain ⟨Ao52, co52, eo52⟩ := Kd.R_slice HO222.out; subst eo52) | ((with_reducible refine gate_callee (f := 104) rfl ?_); refine goesL_ (some 11) rfl rfl Try.func104 (by kernel_rfl) rfl #[.pointer (some ⟨gb215, 0, none⟩), .int .i64 12] rfl (by (try simp only [List.map_toArray, List.map_cons, List.map_nil]); first | done | rfl | (simp only [List.length_drop, List.length_take]; rfl)) ?_; (with_reducible refine (spec_l1Cur_one.calls gb215 l0 t223 t224 12 false t227 t228 w _ ?side1 ?side2 A3.out).mono ?_); (case side1 => repeat (first | (with_reducible first | exact HI215.out | apply IsS123.alloc | apply IsS123.drewN | apply IsS123.drew | apply IsS123.set_1 | apply IsS123.set_2 | refine IsS123.far ?_ NB215_214.out _ | refine IsS123.far ?_ NB215_225.out _) | exact HI215.out)); (case side2 => repeat (first | (with_reducible first | exact HB.out | apply below_alloc | apply pw_below_drewN | apply below_drew1 | refine below_set ?_ (IsS123.ge HI215.out) | refine below_set ?_ GE214.out | refine below_set ?_ GE225.out) | exact HB.out)); rintro e w53 ⟨rfl, hi, hb, hk⟩; refine ⟨_, rfl, ?_⟩; have n0_ := Aside0.mk (KeepBut.blk hk (g' := gb214) (o := .cells #[.int .i64 0, .int .i64 0, .int .i64 0, .int .i64 0, .slice none 0 0] 31 (0, 0)) (by (with_reducible repeat (first | refine blk_drewN ?_ _ | refine blk_drew ?_ | refine blk_alloc ?_ _)); refine blk_far ?_ NB214_225.out _; (with_reducible repeat (first | refine blk_drewN ?_ _ | refine blk_drew ?_ | refine blk_alloc ?_ _)); refine blk_far ?_ NB214_225.out _; (with_reducible repeat (first | refine blk_drewN ?_ _ | refine blk_drew ?_ | refine blk_alloc ?_ _)); refine blk_far ?_ NB214_225.out _; (with_reducible repeat (first | refine blk_drewN ?_ _ | refine blk_drew ?_ | refine blk_alloc ?_ _)); refine blk_far ?_ NB214_225.out _; (with_reducible repeat (first | refine blk_drewN ?_ _ | refine blk_drew ?_ | refine blk_alloc ?_ _)); refine blk_far ?_ NB214_225.out _; (with_reducible repeat (first | refine blk_drewN ?_ _ | refine blk_drew ?_ | refine blk_alloc ?_ _)); exact BK214.out) NB214_215.out (by simp)); have n1_ := Aside0.mk (Kd.R_mono (Kd.R_keep (IsS123.apart (show IsS123 w _ gb215 l0 t223 t224 from by repeat (first | (with_reducible first | exact HI215.out | apply IsS123.alloc | apply IsS123.drewN | apply IsS123.drew | apply IsS123.set_1 | apply IsS123.set_2 | refine IsS123.far ?_ NB215_214.out _ | refine IsS123.far ?_ NB215_225.out _) | exact HI215.out)) (by (with_reducible repeat (first | apply Kd.R_alloc | apply Kd.R_drewN | apply Kd.R_drew)); exact (Kd.R_mono (Kd.R_far (p := ⟨gb225, 4, none⟩) (Kd.R_far (p := ⟨gb225, 3, none⟩) (Kd.R_far (p := ⟨gb225, 2, none⟩) (Kd.R_far (p := ⟨gb225, 1, none⟩) (Kd.R_far (p := ⟨gb225, 0, none⟩) (Kd.R_types HO222.out BK225.out (by decide)) (fun _ hk => hk.2) (.int .i64 t216)) (fun _ hk => hk.2) (.int .i64 t217)) (fun _ hk => hk.2) (.int .i64 t218)) (fun _ hk => hk.2) (.int .i64 t219)) (fun _ hk => hk.2) (.slice Ao52 t220.length co52)) (fun _ h_ => h_.1))) (by decide)) hk (fun _ h => h.2)) (fun _ h => h.1)); have n2_ := Aside0.mk (KeepBut.blk hk (g' := gb225) (o := .cells #[.int .i64 t216, .int .i64 t217, .int .i64 t218, .int .i64 t219, .slice Ao52 t220.length co52] 31 (0, 0)) (by (with_reducible repeat (first | refine blk_drewN ?_ _ | refine blk_drew ?_ | refine blk_alloc ?_ _)); refine blk_put (cs := #[.int .i64 t216, .int .i64 t217, .int .i64 t218, .int .i64 t219, .slice none 0 0]) ?_ 4 _ rfl; (with_reducible repeat (first | refine blk_drewN ?_ _ | refine blk_drew ?_ | refine blk_alloc ?_ _)); refine blk_put (cs := #[.int .i64 t216, .int .i64 t217, .int .i64 t218, .int .i64 0, .slice none 0 0]) ?_ 3 _ rfl; (with_reducible repeat (first | refine blk_drewN ?_ _ | refine blk_drew ?_ | refine blk_alloc ?_ _)); refine blk_put (cs := #[.int .i64 t216, .int .i64 t217, .int .i64 0, .int .i64 0, .slice none 0 0]) ?_ 2 _ rfl; (with_reducible repeat (first | refine blk_drewN ?_ _ | refine blk_drew ?_ | refine blk_alloc ?_ _)); refine blk_put (cs := #[.int .i64 t216, .int .i64 0, .int .i64 0, .int .i64 0, .slice none 0 0]) ?_ 1 _ rfl; (with_reducible repeat (first | refine blk_drewN ?_ _ | refine blk_drew ?_ | refine blk_alloc ?_ _)); refine blk_put (cs := #[.int .i64 0, .int .i64 0, .int .i64 0, .int .i64 0, .slice none 0 0]) ?_ 0 _ rfl; (with_reducible repeat (first | refine blk_drewN ?_ _ | refine blk_drew ?_ | refine blk_alloc ?_ _)); exact BK225.out) NB225_215.out (by simp)); have n3_ := Aside0.mk (hb); have n4_ := Aside0.mk (hi); clear BK214; clear HO222; clear BK225; clear HB; clear HI215; have BK214 := n0_; have HO222 := n1_; have BK225 := n2_; have HB := n3_; have HI215 := n4_; clear n0_ n1_ n2_ n3_ n4_; (try clear hb); (try clear hb2); (try clear hk); (try clear hi)) | ((with_reducible refine gate_callee (f := 104) rfl ?_); refine goesL_ (some 25) rfl rfl Try.func104 (by kernel_rfl) rfl #[.pointer (some ⟨gb215, 0, none⟩), .int .i64 3] rfl (by (try simp only [List.map_toArray, List.map_cons, List.map_nil]); first | done | rfl | (simp only [List.length_drop, List.length_take]; rfl)) ?_; (with_reducible refine (spec_l1Cur_one.calls gb215 l0 t227 t228 3 false t236 t237 w _ ?side1 ?side2 A26.out).mono ?_); (case side1 => repeat (first | (with_reducible first | exact HI215.out | apply IsS123.alloc | apply IsS123.drewN | apply IsS123.drew | apply IsS123.set_1 | apply IsS123.set_2 | refine IsS123.far ?_ NB215_214.out _ | refine IsS123.far ?_ NB215_225.out _) | exact HI215.out)); (case side2 => repeat (first | (with_reducible first | exact HB.out | apply below_alloc | apply pw_below_drewN | apply below_drew1 | refine below_set ?_ (IsS123.ge HI215.out) | refine below_set ?_ GE214.out | refine below_set ?_ GE225.out) | exact HB.out)); rintro e w54 ⟨rfl, hi, hb, hk⟩; refine ⟨_, rfl, ?_⟩; have n0_ := Aside0.mk (KeepBut.blk hk (g' := gb214) (o := .cells #[.int .i64 0, .int .i64 0, .int .i64 0, .int .i64 0, .slice none 0 0] 31 (0, 0)) (by (with_reducible repeat (first | refine blk_drewN ?_ _ | refine blk_drew ?_ | refine blk_alloc ?_ _)); exact BK214.out) NB214_215.out (by simp)); have n1_ := Aside0.mk (Kd.R_mono (Kd.R_keep (IsS123.apart (show IsS123 w _ gb215 l0 t227 t228 from by repeat (first | (with_reducible first | exact HI215.out | apply IsS123.alloc | apply IsS123.drewN | apply IsS123.drew | apply IsS123.set_1 | apply IsS123.set_2 | refine IsS123.far ?_ NB215_214.out _ | refine IsS123.far ?_ NB215_225.out _) | exact HI215.out)) (by (with_reducible repeat (first | apply Kd.R_alloc | apply Kd.R_drewN | apply Kd.R_drew)); exact HO222.out) (by decide)) hk (fun _ h => h.2)) (fun _ h => h.1)); have n2_ := Aside0.mk (KeepBut.blk hk (g' := gb225) (o := .cells #[.int .i64 t216, .int .i64 t217, .int .i64 t218, .int .i64 t219, .slice Ao52 t220.length co52] 31 (0, 0)) (by (with_reducible repeat (first | refine blk_drewN ?_ _ | refine blk_drew ?_ | refine blk_alloc ?_ _)); exact BK225.out) NB225_215.out (by simp)); have n3_ := Aside0.mk (hb); have n4_ := Aside0.mk (hi); clear BK214; clear HO222; clear BK225; clear HB; clear HI215; have BK214 := n0_; have HO222 := n1_; have BK225 := n2_; have HB := n3_; have HI215 := n4_; clear n0_ n1_ n2_ n3_ n4_; (try clear hb); (try clear hb2); (try clear hk); (try clear hi); have hcz55_0 : w54.cell? ⟨gb225, 0, none⟩ = some (.int .i64 t216) := (blk_cell BK225.out 0).trans rfl; have hcz55_1 : w54.cell? ⟨gb225, 1, none⟩ = some (.int .i64 t217) := (blk_cell BK225.out 1).trans rfl; have hcz55_2 : w54.cell? ⟨gb225, 2, none⟩ = some (.int .i64 t218) := (blk_cell BK225.out 2).trans rfl; have hcz55_3 : w54.cell? ⟨gb225, 3, none⟩ = some (.int .i64 t219) := (blk_cell BK225.out 3).trans rfl; have hcz55_4 : w54.cell? ⟨gb225, 4, none⟩ = some (.slice Ao52 t220.length co52) := (blk_cell BK225.out 4).trans rfl; have hfz55_0 := blk_frozen BK225.out 0; have hfz55_1 := blk_frozen BK225.out 1; have hfz55_2 := blk_frozen BK225.out 2; have hfz55_3 := blk_frozen BK225.out 3; have hfz55_4 := blk_frozen BK225.out 4; have hnb56 := NB214_215.out; have hnc56 := NB215_214.out; have hcz57_0 : w54.cell? ⟨gb214, 0, none⟩ = some (.int .i64 0) := (blk_cell BK214.out 0).trans rfl; have hcz57_1 : w54.cell? ⟨gb214, 1, none⟩ = some (.int .i64 0) := (blk_cell BK214.out 1).trans rfl; have hcz57_2 : w54.cell? ⟨gb214, 2, none⟩ = some (.int .i64 0) := (blk_cell BK214.out 2).trans rfl; have hcz57_3 : w54.cell? ⟨gb214, 3, none⟩ = some (.int .i64 0) := (blk_cell BK214.out 3).trans rfl; have hcz57_4 : w54.cell? ⟨gb214, 4, none⟩ = some (.slice none 0 0) := (blk_cell BK214.out 4).trans rfl; have hfz57_0 := blk_frozen BK214.out 0; have hfz57_1 := blk_frozen BK214.out 1; have hfz57_2 := blk_frozen BK214.out 2; have hfz57_3 := blk_frozen BK214.out 3; have hfz57_4 := blk_frozen BK214.out 4))
    refine bodyPost_ret (results_cell_row rfl _ _ gb214 31 #[.int .i64 t216, .int .i64 t217, .int .i64 t218, .int .i64 t219, .slice Ao52 t220.length co52] (0, 0) _ rfl (by (with_reducible repeat (first | refine blk_drewN ?_ _ | refine blk_drew ?_ | refine blk_alloc ?_ _)); refine blk_put (cs := #[.int .i64 t216, .int .i64 t217, .int .i64 t218, .int .i64 t219, .slice none 0 0]) ?_ 4 _ rfl; (with_reducible repeat (first | refine blk_drewN ?_ _ | refine blk_drew ?_ | refine blk_alloc ?_ _)); refine blk_put (cs := #[.int .i64 t216, .int .i64 t217, .int .i64 t218, .int .i64 0, .slice none 0 0]) ?_ 3 _ rfl; (with_reducible repeat (first | refine blk_drewN ?_ _ | refine blk_drew ?_ | refine blk_alloc ?_ _)); refine blk_put (cs := #[.int .i64 t216, .int .i64 t217, .int .i64 0, .int .i64 0, .slice none 0 0]) ?_ 2 _ rfl; (with_reducible repeat (first | refine blk_drewN ?_ _ | refine blk_drew ?_ | refine blk_alloc ?_ _)); refine blk_put (cs := #[.int .i64 t216, .int .i64 0, .int .i64 0, .int .i64 0, .slice none 0 0]) ?_ 1 _ rfl; (with_reducible repeat (first | refine blk_drewN ?_ _ | refine blk_drew ?_ | refine blk_alloc ?_ _)); refine blk_put (cs := #[.int .i64 0, .int .i64 0, .int .i64 0, .int .i64 0, .slice none 0 0]) ?_ 0 _ rfl; (with_reducible repeat (first | refine blk_drewN ?_ _ | refine blk_drew ?_ | refine blk_alloc ?_ _)); exact BK214.out) Try.underlying31 rfl (by kernel_rfl)) rfl ?_
    exact ⟨_, by first | rfl | (simp [errW_none, errW_some] <;> rfl) | (simp [*, errW_none, errW_some] <;> rfl), by (with_reducible repeat (first | apply Kd.R_alloc | apply Kd.R_drewN | apply Kd.R_drew)); exact Kd.R_mono (Kd.R_far (p := ⟨gb214, 4, none⟩) (Kd.R_far (p := ⟨gb214, 3, none⟩) (Kd.R_far (p := ⟨gb214, 2, none⟩) (Kd.R_far (p := ⟨gb214, 1, none⟩) (Kd.R_far (p := ⟨gb214, 0, none⟩) (Kd.R_types HO222.out BK214.out (by decide)) (fun _ hk => hk.2) (.int .i64 t216)) (fun _ hk => hk.2) (.int .i64 t217)) (fun _ hk => hk.2) (.int .i64 t218)) (fun _ hk => hk.2) (.int .i64 t219)) (fun _ hk => hk.2) (.slice Ao52 t220.length co52)) (fun _ hk => trivial), by repeat (first | (with_reducible first | exact HB.out | apply below_alloc | apply pw_below_drewN | apply below_drew1 | refine below_set ?_ (IsS123.ge HI215.out) | refine below_set ?_ GE214.out | refine below_set ?_ GE225.out) | exact HB.out)⟩
  subst c27
  have H1 : ((spec_l1Cur_oddImage.f l0 t236 t237 t216 t217 t218 t219 t220).bind fun bt238 => (some (bt238.1, bt238.2.1, bt238.2.2.1, bt238.2.2.2.1, bt238.2.2.2.2.1))) = some (r1, r2, r3, r4, r5) := by rw [if_pos rfl] at H; exact H
  clear H
  have H := H1
  clear H1
  replace H := Option.bind_eq_some_iff.mp H
  obtain ⟨⟨t238, t239, t240, t241, t242, t245, t246⟩, A280, H⟩ := H
  replace H : (some (t238, t239, t240, t241, t242)) = some (r1, r2, r3, r4, r5) := H
  have A28 := Aside0.mk A280
  clear A280
  simp only [Option.some.injEq, Prod.mk.injEq] at H
  obtain ⟨rfl, rfl, rfl, rfl, rfl⟩ := H
  go_enter Try.func75, Try.ntmps75
  go_wp2_with (first | ((with_reducible refine gate_dst (N := 2) rfl ?_); refine box_event ?hg (N := 2) ?hd (cs := #[.int .i64 0, .int .i64 0, .int .i64 0, .int .i64 0, .slice none 0 0]) (t := 31) ?hr ?_; (case hd => rfl); (case hg => rfl); (case hr => first | (go_simp; done) | (go_simp; rfl)); intro gb214 hg w29 hbox hb; have n0_ := Aside0.mk (below_step (by repeat (first | (with_reducible first | exact HB.out | apply below_alloc | apply pw_below_drewN | apply below_drew1) | exact HB.out)) hb); have n1_ := Aside0.mk (hbox); have n2_ := Aside0.mk ((by rw [hg]; exact (below_size (by repeat (first | (with_reducible first | exact HB.out | apply below_alloc | apply pw_below_drewN | apply below_drew1) | exact HB.out))) : w.heap.size ≤ gb214)); have n3_ := n2_; clear HB; have HB := n0_; have BK214 := n1_; have GW214 := n2_; have GE214 := n3_; clear n0_ n1_ n2_ n3_; clear hb hbox hg) | ((with_reducible refine gate_dst (N := 7) rfl ?_); refine box_event ?hg (N := 7) ?hd (cs := #[.slice A0 l0.length c0, .int .i64 0, .int .u64 0]) (t := 123) ?hr ?_; (case hd => rfl); (case hg => rfl); (case hr => first | (go_simp; done) | (go_simp; rfl)); intro gb215 hg w30 hbox hb; have n0_ := Aside0.mk (blk_below (g := gb214) (o := .cells #[.int .i64 0, .int .i64 0, .int .i64 0, .int .i64 0, .slice none 0 0] 31 (0, 0)) (by (with_reducible repeat (first | refine blk_drewN ?_ _ | refine blk_drew ?_ | refine blk_alloc ?_ _)); exact BK214.out) hb); have n1_ := Aside0.mk (below_step (by repeat (first | (with_reducible first | exact HB.out | apply below_alloc | apply pw_below_drewN | apply below_drew1 | refine below_set ?_ GE214.out) | exact HB.out)) hb); have n2_ := Aside0.mk ((by rw [hg]; exact (below_size (by repeat (first | (with_reducible first | exact HB.out | apply below_alloc | apply pw_below_drewN | apply below_drew1 | refine below_set ?_ GE214.out) | exact HB.out))) : w.heap.size ≤ gb215)); have n3_ := Aside0.mk ((show IsS123 w w30 gb215 l0 0 0 from ⟨_, _, hbox, (by rw [hg]; exact (below_size (by repeat (first | (with_reducible first | exact HB.out | apply below_alloc | apply pw_below_drewN | apply below_drew1 | refine below_set ?_ GE214.out) | exact HB.out)))), HR0.out⟩)); have n4_ := Aside0.mk ((by rw [hg]; exact Nat.ne_of_lt (blk_lt (g := gb214) (o := .cells #[.int .i64 0, .int .i64 0, .int .i64 0, .int .i64 0, .slice none 0 0] 31 (0, 0)) (by (with_reducible repeat (first | refine blk_drewN ?_ _ | refine blk_drew ?_ | refine blk_alloc ?_ _)); exact BK214.out)) : gb214 ≠ gb215)); have n5_ := Aside0.mk ((by rw [hg]; exact Nat.ne_of_gt (blk_lt (g := gb214) (o := .cells #[.int .i64 0, .int .i64 0, .int .i64 0, .int .i64 0, .slice none 0 0] 31 (0, 0)) (by (with_reducible repeat (first | refine blk_drewN ?_ _ | refine blk_drew ?_ | refine blk_alloc ?_ _)); exact BK214.out)) : gb215 ≠ gb214)); clear BK214; clear HB; have BK214 := n0_; have HB := n1_; have GW215 := n2_; have HI215 := n3_; have NB214_215 := n4_; have NB215_214 := n5_; clear n0_ n1_ n2_ n3_ n4_ n5_; clear hb hbox hg) | ((with_reducible refine gate_callee (f := 133) rfl ?_); refine goesL_ (some 9) rfl rfl Try.func133 (by kernel_rfl) rfl #[.pointer (some ⟨gb215, 0, none⟩), .int .i64 9] rfl (by (try simp only [List.map_toArray, List.map_cons, List.map_nil]); first | done | rfl | (simp only [List.length_drop, List.length_take]; rfl)) ?_; (with_reducible refine (spec_l1Cur_image.calls k gb215 l0 0 0 9 t216 t217 t218 t219 t220 t223 t224 w _ ?side1 ?side2 A2.out).mono ?_); (case side1 => repeat (first | (with_reducible first | exact HI215.out | apply IsS123.alloc | apply IsS123.drewN | apply IsS123.drew | apply IsS123.set_1 | apply IsS123.set_2 | refine IsS123.far ?_ NB215_214.out _) | exact HI215.out)); (case side2 => repeat (first | (with_reducible first | exact HB.out | apply below_alloc | apply pw_below_drewN | apply below_drew1 | refine below_set ?_ (IsS123.ge HI215.out) | refine below_set ?_ GE214.out) | exact HB.out)); rintro e w31 ⟨v221, rfl, ho0, hi, hb, hk⟩; refine ⟨_, rfl, ?_⟩; have n0_ := Aside0.mk (KeepBut.blk hk (g' := gb214) (o := .cells #[.int .i64 0, .int .i64 0, .int .i64 0, .int .i64 0, .slice none 0 0] 31 (0, 0)) (by (with_reducible repeat (first | refine blk_drewN ?_ _ | refine blk_drew ?_ | refine blk_alloc ?_ _)); exact BK214.out) NB214_215.out (by simp)); have n1_ := Aside0.mk (Kd.R_lower ho0 (below_size (by repeat (first | (with_reducible first | exact HB.out | apply below_alloc | apply pw_below_drewN | apply below_drew1 | refine below_set ?_ (IsS123.ge HI215.out) | refine below_set ?_ GE214.out) | exact HB.out)))); have n2_ := Aside0.mk (hb); have n3_ := Aside0.mk (hi); clear BK214; clear HB; clear HI215; have BK214 := n0_; have HO222 := n1_; have HB := n2_; have HI215 := n3_; clear n0_ n1_ n2_ n3_; (try clear hb); (try clear hb2); (try clear hk); (try clear hi); (try clear ho0)) | ((with_reducible refine gate_dst (N := 4) rfl ?_); refine box_event ?hg (N := 4) ?hd (cs := #[.int .i64 0, .int .i64 0, .int .i64 0, .int .i64 0, .slice none 0 0]) (t := 31) ?hr ?_; (case hd => rfl); (case hg => rfl); (case hr => first | (go_simp; done) | (go_simp; rfl)); intro gb225 hg w32 hbox hb; have n0_ := Aside0.mk (Kd.R_below (by (with_reducible repeat (first | apply Kd.R_alloc | apply Kd.R_drewN | apply Kd.R_drew)); exact HO222.out) hb); have n1_ := Aside0.mk (blk_below (g := gb214) (o := .cells #[.int .i64 0, .int .i64 0, .int .i64 0, .int .i64 0, .slice none 0 0] 31 (0, 0)) (by (with_reducible repeat (first | refine blk_drewN ?_ _ | refine blk_drew ?_ | refine blk_alloc ?_ _)); exact BK214.out) hb); have n2_ := Aside0.mk (IsS123.below (by repeat (first | (with_reducible first | exact HI215.out | apply IsS123.alloc | apply IsS123.drewN | apply IsS123.drew | apply IsS123.set_1 | apply IsS123.set_2 | refine IsS123.far ?_ NB215_214.out _) | exact HI215.out)) hb); have n3_ := Aside0.mk (below_step (by repeat (first | (with_reducible first | exact HB.out | apply below_alloc | apply pw_below_drewN | apply below_drew1 | refine below_set ?_ (IsS123.ge HI215.out) | refine below_set ?_ GE214.out) | exact HB.out)) hb); have n4_ := Aside0.mk (hbox); have n5_ := Aside0.mk ((by rw [hg]; exact (below_size (by repeat (first | (with_reducible first | exact HB.out | apply below_alloc | apply pw_below_drewN | apply below_drew1 | refine below_set ?_ (IsS123.ge HI215.out) | refine below_set ?_ GE214.out) | exact HB.out))) : w.heap.size ≤ gb225)); have n6_ := n5_; have n7_ := Aside0.mk ((by rw [hg]; exact Nat.ne_of_lt (blk_lt (g := gb214) (o := .cells #[.int .i64 0, .int .i64 0, .int .i64 0, .int .i64 0, .slice none 0 0] 31 (0, 0)) (by (with_reducible repeat (first | refine blk_drewN ?_ _ | refine blk_drew ?_ | refine blk_alloc ?_ _)); exact BK214.out)) : gb214 ≠ gb225)); have n8_ := Aside0.mk ((by rw [hg]; exact Nat.ne_of_gt (blk_lt (g := gb214) (o := .cells #[.int .i64 0, .int .i64 0, .int .i64 0, .int .i64 0, .slice none 0 0] 31 (0, 0)) (by (with_reducible repeat (first | refine blk_drewN ?_ _ | refine blk_drew ?_ | refine blk_alloc ?_ _)); exact BK214.out)) : gb225 ≠ gb214)); have n9_ := Aside0.mk ((by rw [hg]; exact Nat.ne_of_lt (IsS123.lt (show IsS123 w _ gb215 l0 t223 t224 from by repeat (first | (with_reducible first | exact HI215.out | apply IsS123.alloc | apply IsS123.drewN | apply IsS123.drew | apply IsS123.set_1 | apply IsS123.set_2 | refine IsS123.far ?_ NB215_214.out _) | exact HI215.out))) : gb215 ≠ gb225)); have n10_ := Aside0.mk ((by rw [hg]; exact Nat.ne_of_gt (IsS123.lt (show IsS123 w _ gb215 l0 t223 t224 from by repeat (first | (with_reducible first | exact HI215.out | apply IsS123.alloc | apply IsS123.drewN | apply IsS123.drew | apply IsS123.set_1 | apply IsS123.set_2 | refine IsS123.far ?_ NB215_214.out _) | exact HI215.out))) : gb225 ≠ gb215)); clear HO222; clear BK214; clear HI215; clear HB; have HO222 := n0_; have BK214 := n1_; have HI215 := n2_; have HB := n3_; have BK225 := n4_; have GW225 := n5_; have GE225 := n6_; have NB214_225 := n7_; have NB225_214 := n8_; have NB215_225 := n9_; have NB225_215 := n10_; clear n0_ n1_ n2_ n3_ n4_ n5_ n6_ n7_ n8_ n9_ n10_; clear hb hbox hg; have hnb33 := NB225_214.out; have hnc33 := NB214_225.out; have hnb34 := NB225_215.out; have hnc34 := NB215_225.out; have hcz35_0 : w32.cell? ⟨gb225, 0, none⟩ = some (.int .i64 0) := (blk_cell BK225.out 0).trans rfl; have hcz35_1 : w32.cell? ⟨gb225, 1, none⟩ = some (.int .i64 0) := (blk_cell BK225.out 1).trans rfl; have hcz35_2 : w32.cell? ⟨gb225, 2, none⟩ = some (.int .i64 0) := (blk_cell BK225.out 2).trans rfl; have hcz35_3 : w32.cell? ⟨gb225, 3, none⟩ = some (.int .i64 0) := (blk_cell BK225.out 3).trans rfl; have hcz35_4 : w32.cell? ⟨gb225, 4, none⟩ = some (.slice none 0 0) := (blk_cell BK225.out 4).trans rfl; have hfz35_0 := blk_frozen BK225.out 0; have hfz35_1 := blk_frozen BK225.out 1; have hfz35_2 := blk_frozen BK225.out 2; have hfz35_3 := blk_frozen BK225.out 3; have hfz35_4 := blk_frozen BK225.out 4; obtain ⟨Ao36, co36, eo36⟩ := Kd.R_slice HO222.out; subst eo36) | ((with_reducible refine gate_callee (f := 104) rfl ?_); refine goesL_ (some 11) rfl rfl Try.func104 (by kernel_rfl) rfl #[.pointer (some ⟨gb215, 0, none⟩), .int .i64 12] rfl (by (try simp only [List.map_toArray, List.map_cons, List.map_nil]); first | done | rfl | (simp only [List.length_drop, List.length_take]; rfl)) ?_; (with_reducible refine (spec_l1Cur_one.calls gb215 l0 t223 t224 12 false t227 t228 w _ ?side1 ?side2 A3.out).mono ?_); (case side1 => repeat (first | (with_reducible first | exact HI215.out | apply IsS123.alloc | apply IsS123.drewN | apply IsS123.drew | apply IsS123.set_1 | apply IsS123.set_2 | refine IsS123.far ?_ NB215_214.out _ | refine IsS123.far ?_ NB215_225.out _) | exact HI215.out)); (case side2 => repeat (first | (with_reducible first | exact HB.out | apply below_alloc | apply pw_below_drewN | apply below_drew1 | refine below_set ?_ (IsS123.ge HI215.out) | refine below_set ?_ GE214.out | refine below_set ?_ GE225.out) | exact HB.out)); rintro e w37 ⟨rfl, hi, hb, hk⟩; refine ⟨_, rfl, ?_⟩; have n0_ := Aside0.mk (KeepBut.blk hk (g' := gb214) (o := .cells #[.int .i64 0, .int .i64 0, .int .i64 0, .int .i64 0, .slice none 0 0] 31 (0, 0)) (by (with_reducible repeat (first | refine blk_drewN ?_ _ | refine blk_drew ?_ | refine blk_alloc ?_ _)); refine blk_far ?_ NB214_225.out _; (with_reducible repeat (first | refine blk_drewN ?_ _ | refine blk_drew ?_ | refine blk_alloc ?_ _)); refine blk_far ?_ NB214_225.out _; (with_reducible repeat (first | refine blk_drewN ?_ _ | refine blk_drew ?_ | refine blk_alloc ?_ _)); refine blk_far ?_ NB214_225.out _; (with_reducible repeat (first | refine blk_drewN ?_ _ | refine blk_drew ?_ | refine blk_alloc ?_ _)); refine blk_far ?_ NB214_225.out _; (with_reducible repeat (first | refine blk_drewN ?_ _ | refine blk_drew ?_ | refine blk_alloc ?_ _)); refine blk_far ?_ NB214_225.out _; (with_reducible repeat (first | refine blk_drewN ?_ _ | refine blk_drew ?_ | refine blk_alloc ?_ _)); exact BK214.out) NB214_215.out (by simp)); have n1_ := Aside0.mk (Kd.R_mono (Kd.R_keep (IsS123.apart (show IsS123 w _ gb215 l0 t223 t224 from by repeat (first | (with_reducible first | exact HI215.out | apply IsS123.alloc | apply IsS123.drewN | apply IsS123.drew | apply IsS123.set_1 | apply IsS123.set_2 | refine IsS123.far ?_ NB215_214.out _ | refine IsS123.far ?_ NB215_225.out _) | exact HI215.out)) (by (with_reducible repeat (first | apply Kd.R_alloc | apply Kd.R_drewN | apply Kd.R_drew)); exact (Kd.R_mono (Kd.R_far (p := ⟨gb225, 4, none⟩) (Kd.R_far (p := ⟨gb225, 3, none⟩) (Kd.R_far (p := ⟨gb225, 2, none⟩) (Kd.R_far (p := ⟨gb225, 1, none⟩) (Kd.R_far (p := ⟨gb225, 0, none⟩) (Kd.R_types HO222.out BK225.out (by decide)) (fun _ hk => hk.2) (.int .i64 t216)) (fun _ hk => hk.2) (.int .i64 t217)) (fun _ hk => hk.2) (.int .i64 t218)) (fun _ hk => hk.2) (.int .i64 t219)) (fun _ hk => hk.2) (.slice Ao36 t220.length co36)) (fun _ h_ => h_.1))) (by decide)) hk (fun _ h => h.2)) (fun _ h => h.1)); have n2_ := Aside0.mk (KeepBut.blk hk (g' := gb225) (o := .cells #[.int .i64 t216, .int .i64 t217, .int .i64 t218, .int .i64 t219, .slice Ao36 t220.length co36] 31 (0, 0)) (by (with_reducible repeat (first | refine blk_drewN ?_ _ | refine blk_drew ?_ | refine blk_alloc ?_ _)); refine blk_put (cs := #[.int .i64 t216, .int .i64 t217, .int .i64 t218, .int .i64 t219, .slice none 0 0]) ?_ 4 _ rfl; (with_reducible repeat (first | refine blk_drewN ?_ _ | refine blk_drew ?_ | refine blk_alloc ?_ _)); refine blk_put (cs := #[.int .i64 t216, .int .i64 t217, .int .i64 t218, .int .i64 0, .slice none 0 0]) ?_ 3 _ rfl; (with_reducible repeat (first | refine blk_drewN ?_ _ | refine blk_drew ?_ | refine blk_alloc ?_ _)); refine blk_put (cs := #[.int .i64 t216, .int .i64 t217, .int .i64 0, .int .i64 0, .slice none 0 0]) ?_ 2 _ rfl; (with_reducible repeat (first | refine blk_drewN ?_ _ | refine blk_drew ?_ | refine blk_alloc ?_ _)); refine blk_put (cs := #[.int .i64 t216, .int .i64 0, .int .i64 0, .int .i64 0, .slice none 0 0]) ?_ 1 _ rfl; (with_reducible repeat (first | refine blk_drewN ?_ _ | refine blk_drew ?_ | refine blk_alloc ?_ _)); refine blk_put (cs := #[.int .i64 0, .int .i64 0, .int .i64 0, .int .i64 0, .slice none 0 0]) ?_ 0 _ rfl; (with_reducible repeat (first | refine blk_drewN ?_ _ | refine blk_drew ?_ | refine blk_alloc ?_ _)); exact BK225.out) NB225_215.out (by simp)); have n3_ := Aside0.mk (hb); have n4_ := Aside0.mk (hi); clear BK214; clear HO222; clear BK225; clear HB; clear HI215; have BK214 := n0_; have HO222 := n1_; have BK225 := n2_; have HB := n3_; have HI215 := n4_; clear n0_ n1_ n2_ n3_ n4_; (try clear hb); (try clear hb2); (try clear hk); (try clear hi)) | ((with_reducible refine gate_callee (f := 104) rfl ?_); refine goesL_ (some 25) rfl rfl Try.func104 (by kernel_rfl) rfl #[.pointer (some ⟨gb215, 0, none⟩), .int .i64 3] rfl (by (try simp only [List.map_toArray, List.map_cons, List.map_nil]); first | done | rfl | (simp only [List.length_drop, List.length_take]; rfl)) ?_; (with_reducible refine (spec_l1Cur_one.calls gb215 l0 t227 t228 3 true t236 t237 w _ ?side1 ?side2 A26.out).mono ?_); (case side1 => repeat (first | (with_reducible first | exact HI215.out | apply IsS123.alloc | apply IsS123.drewN | apply IsS123.drew | apply IsS123.set_1 | apply IsS123.set_2 | refine IsS123.far ?_ NB215_214.out _ | refine IsS123.far ?_ NB215_225.out _) | exact HI215.out)); (case side2 => repeat (first | (with_reducible first | exact HB.out | apply below_alloc | apply pw_below_drewN | apply below_drew1 | refine below_set ?_ (IsS123.ge HI215.out) | refine below_set ?_ GE214.out | refine below_set ?_ GE225.out) | exact HB.out)); rintro e w38 ⟨rfl, hi, hb, hk⟩; refine ⟨_, rfl, ?_⟩; have n0_ := Aside0.mk (KeepBut.blk hk (g' := gb214) (o := .cells #[.int .i64 0, .int .i64 0, .int .i64 0, .int .i64 0, .slice none 0 0] 31 (0, 0)) (by (with_reducible repeat (first | refine blk_drewN ?_ _ | refine blk_drew ?_ | refine blk_alloc ?_ _)); exact BK214.out) NB214_215.out (by simp)); have n1_ := Aside0.mk (Kd.R_mono (Kd.R_keep (IsS123.apart (show IsS123 w _ gb215 l0 t227 t228 from by repeat (first | (with_reducible first | exact HI215.out | apply IsS123.alloc | apply IsS123.drewN | apply IsS123.drew | apply IsS123.set_1 | apply IsS123.set_2 | refine IsS123.far ?_ NB215_214.out _ | refine IsS123.far ?_ NB215_225.out _) | exact HI215.out)) (by (with_reducible repeat (first | apply Kd.R_alloc | apply Kd.R_drewN | apply Kd.R_drew)); exact HO222.out) (by decide)) hk (fun _ h => h.2)) (fun _ h => h.1)); have n2_ := Aside0.mk (KeepBut.blk hk (g' := gb225) (o := .cells #[.int .i64 t216, .int .i64 t217, .int .i64 t218, .int .i64 t219, .slice Ao36 t220.length co36] 31 (0, 0)) (by (with_reducible repeat (first | refine blk_drewN ?_ _ | refine blk_drew ?_ | refine blk_alloc ?_ _)); exact BK225.out) NB225_215.out (by simp)); have n3_ := Aside0.mk (hb); have n4_ := Aside0.mk (hi); clear BK214; clear HO222; clear BK225; clear HB; clear HI215; have BK214 := n0_; have HO222 := n1_; have BK225 := n2_; have HB := n3_; have HI215 := n4_; clear n0_ n1_ n2_ n3_ n4_; (try clear hb); (try clear hb2); (try clear hk); (try clear hi); have hcz39_0 : w38.cell? ⟨gb225, 0, none⟩ = some (.int .i64 t216) := (blk_cell BK225.out 0).trans rfl; have hcz39_1 : w38.cell? ⟨gb225, 1, none⟩ = some (.int .i64 t217) := (blk_cell BK225.out 1).trans rfl; have hcz39_2 : w38.cell? ⟨gb225, 2, none⟩ = some (.int .i64 t218) := (blk_cell BK225.out 2).trans rfl; have hcz39_3 : w38.cell? ⟨gb225, 3, none⟩ = some (.int .i64 t219) := (blk_cell BK225.out 3).trans rfl; have hcz39_4 : w38.cell? ⟨gb225, 4, none⟩ = some (.slice Ao36 t220.length co36) := (blk_cell BK225.out 4).trans rfl; have hfz39_0 := blk_frozen BK225.out 0; have hfz39_1 := blk_frozen BK225.out 1; have hfz39_2 := blk_frozen BK225.out 2; have hfz39_3 := blk_frozen BK225.out 3; have hfz39_4 := blk_frozen BK225.out 4) | ((with_reducible refine gate_callee (f := 134) rfl ?_); refine goesL_ (some 28) rfl rfl Try.func134 (by kernel_rfl) rfl #[.pointer (some ⟨gb215, 0, none⟩), .agg #[.int .i64 t216, .int .i64 t217, .int .i64 t218, .int .i64 t219, .slice Ao36 t220.length co36]] rfl (by (try simp only [List.map_toArray, List.map_cons, List.map_nil]); first | done | rfl | (simp only [List.length_drop, List.length_take]; rfl)) ?_; (with_reducible refine (spec_l1Cur_oddImage.calls gb215 l0 t236 t237 t216 t217 t218 t219 (fun k_ => some k_ = (.slice Ao36 t220.length co36 : Value).ownBlock) (.slice Ao36 t220.length co36) t220 t238 t239 t240 t241 t242 t245 t246 w _ ?side1 ?side2 ?side3 A28.out).mono ?_); (case side1 => repeat (first | (with_reducible first | exact HI215.out | apply IsS123.alloc | apply IsS123.drewN | apply IsS123.drew | apply IsS123.set_1 | apply IsS123.set_2 | refine IsS123.far ?_ NB215_214.out _ | refine IsS123.far ?_ NB215_225.out _) | exact HI215.out)); (case side2 => repeat (first | (with_reducible first | exact HB.out | apply below_alloc | apply pw_below_drewN | apply below_drew1 | refine below_set ?_ (IsS123.ge HI215.out) | refine below_set ?_ GE214.out | refine below_set ?_ GE225.out) | exact HB.out)); (case side3 => exact Kd.R_tight rfl HO222.out); rintro e w40 ⟨v243, rfl, ho0, hi, hb, hkp⟩; refine ⟨_, rfl, ?_⟩; have n0_ := Aside0.mk (blk_kept (by (with_reducible repeat (first | refine blk_drewN ?_ _ | refine blk_drew ?_ | refine blk_alloc ?_ _)); exact BK214.out) hkp (fun hs_ => Or.elim hs_ (fun hs_ => (fun e_ => (Kd.R_ne HO222.out BK214.out (by decide)) e_) hs_) (fun e_ => NB214_215.out e_))); have n1_ := Aside0.mk (hi); have n2_ := Aside0.mk (blk_kept (by (with_reducible repeat (first | refine blk_drewN ?_ _ | refine blk_drew ?_ | refine blk_alloc ?_ _)); exact BK225.out) hkp (fun hs_ => Or.elim hs_ (fun hs_ => (fun e_ => (Kd.R_ne HO222.out BK225.out (by decide)) e_) hs_) (fun e_ => NB225_215.out e_))); have n3_ := Aside0.mk (Kd.R_mono (ok' := fun k_ => True) ho0 (fun k_ hk_ => trivial)); have n4_ := Aside0.mk (hb); clear BK214; clear HI215; clear BK225; clear HB; clear HO222; have BK214 := n0_; have HI215 := n1_; have BK225 := n2_; have HO244 := n3_; have HB := n4_; clear n0_ n1_ n2_ n3_ n4_; (try clear hb); (try clear hkp); (try clear ho0); have hcz41_0 : w40.cell? ⟨gb225, 0, none⟩ = some (.int .i64 t216) := (blk_cell BK225.out 0).trans rfl; have hcz41_1 : w40.cell? ⟨gb225, 1, none⟩ = some (.int .i64 t217) := (blk_cell BK225.out 1).trans rfl; have hcz41_2 : w40.cell? ⟨gb225, 2, none⟩ = some (.int .i64 t218) := (blk_cell BK225.out 2).trans rfl; have hcz41_3 : w40.cell? ⟨gb225, 3, none⟩ = some (.int .i64 t219) := (blk_cell BK225.out 3).trans rfl; have hcz41_4 : w40.cell? ⟨gb225, 4, none⟩ = some (.slice Ao36 t220.length co36) := (blk_cell BK225.out 4).trans rfl; have hfz41_0 := blk_frozen BK225.out 0; have hfz41_1 := blk_frozen BK225.out 1; have hfz41_2 := blk_frozen BK225.out 2; have hfz41_3 := blk_frozen BK225.out 3; have hfz41_4 := blk_frozen BK225.out 4; obtain ⟨Ao42, co42, eo42⟩ := Kd.R_slice HO244.out; subst eo42; have hnb43 := NB214_215.out; have hnc43 := NB215_214.out; have hcz44_0 : w40.cell? ⟨gb214, 0, none⟩ = some (.int .i64 0) := (blk_cell BK214.out 0).trans rfl; have hcz44_1 : w40.cell? ⟨gb214, 1, none⟩ = some (.int .i64 0) := (blk_cell BK214.out 1).trans rfl; have hcz44_2 : w40.cell? ⟨gb214, 2, none⟩ = some (.int .i64 0) := (blk_cell BK214.out 2).trans rfl; have hcz44_3 : w40.cell? ⟨gb214, 3, none⟩ = some (.int .i64 0) := (blk_cell BK214.out 3).trans rfl; have hcz44_4 : w40.cell? ⟨gb214, 4, none⟩ = some (.slice none 0 0) := (blk_cell BK214.out 4).trans rfl; have hfz44_0 := blk_frozen BK214.out 0; have hfz44_1 := blk_frozen BK214.out 1; have hfz44_2 := blk_frozen BK214.out 2; have hfz44_3 := blk_frozen BK214.out 3; have hfz44_4 := blk_frozen BK214.out 4))
  refine bodyPost_ret (results_cell_row rfl _ _ gb214 31 #[.int .i64 t238, .int .i64 t239, .int .i64 t240, .int .i64 t241, .slice Ao42 t242.length co42] (0, 0) _ rfl (by (with_reducible repeat (first | refine blk_drewN ?_ _ | refine blk_drew ?_ | refine blk_alloc ?_ _)); refine blk_put (cs := #[.int .i64 t238, .int .i64 t239, .int .i64 t240, .int .i64 t241, .slice none 0 0]) ?_ 4 _ rfl; (with_reducible repeat (first | refine blk_drewN ?_ _ | refine blk_drew ?_ | refine blk_alloc ?_ _)); refine blk_put (cs := #[.int .i64 t238, .int .i64 t239, .int .i64 t240, .int .i64 0, .slice none 0 0]) ?_ 3 _ rfl; (with_reducible repeat (first | refine blk_drewN ?_ _ | refine blk_drew ?_ | refine blk_alloc ?_ _)); refine blk_put (cs := #[.int .i64 t238, .int .i64 t239, .int .i64 0, .int .i64 0, .slice none 0 0]) ?_ 2 _ rfl; (with_reducible repeat (first | refine blk_drewN ?_ _ | refine blk_drew ?_ | refine blk_alloc ?_ _)); refine blk_put (cs := #[.int .i64 t238, .int .i64 0, .int .i64 0, .int .i64 0, .slice none 0 0]) ?_ 1 _ rfl; (with_reducible repeat (first | refine blk_drewN ?_ _ | refine blk_drew ?_ | refine blk_alloc ?_ _)); refine blk_put (cs := #[.int .i64 0, .int .i64 0, .int .i64 0, .int .i64 0, .slice none 0 0]) ?_ 0 _ rfl; (with_reducible repeat (first | refine blk_drewN ?_ _ | refine blk_drew ?_ | refine blk_alloc ?_ _)); refine blk_far ?_ NB214_225.out _; (with_reducible repeat (first | refine blk_drewN ?_ _ | refine blk_drew ?_ | refine blk_alloc ?_ _)); refine blk_far ?_ NB214_225.out _; (with_reducible repeat (first | refine blk_drewN ?_ _ | refine blk_drew ?_ | refine blk_alloc ?_ _)); refine blk_far ?_ NB214_225.out _; (with_reducible repeat (first | refine blk_drewN ?_ _ | refine blk_drew ?_ | refine blk_alloc ?_ _)); refine blk_far ?_ NB214_225.out _; (with_reducible repeat (first | refine blk_drewN ?_ _ | refine blk_drew ?_ | refine blk_alloc ?_ _)); refine blk_far ?_ NB214_225.out _; (with_reducible repeat (first | refine blk_drewN ?_ _ | refine blk_drew ?_ | refine blk_alloc ?_ _)); exact BK214.out) Try.underlying31 rfl (by kernel_rfl)) rfl ?_
  exact ⟨_, by first | rfl | (simp [errW_none, errW_some] <;> rfl) | (simp [*, errW_none, errW_some] <;> rfl), by (with_reducible repeat (first | apply Kd.R_alloc | apply Kd.R_drewN | apply Kd.R_drew)); exact Kd.R_mono (Kd.R_far (p := ⟨gb214, 4, none⟩) (Kd.R_far (p := ⟨gb214, 3, none⟩) (Kd.R_far (p := ⟨gb214, 2, none⟩) (Kd.R_far (p := ⟨gb214, 1, none⟩) (Kd.R_far (p := ⟨gb214, 0, none⟩) (Kd.R_far (p := ⟨gb225, 4, none⟩) (Kd.R_far (p := ⟨gb225, 3, none⟩) (Kd.R_far (p := ⟨gb225, 2, none⟩) (Kd.R_far (p := ⟨gb225, 1, none⟩) (Kd.R_far (p := ⟨gb225, 0, none⟩) (Kd.R_types (Kd.R_types HO244.out BK225.out (by decide)) BK214.out (by decide)) (fun _ hk => hk.1.2) (.int .i64 t238)) (fun _ hk => hk.1.2) (.int .i64 t239)) (fun _ hk => hk.1.2) (.int .i64 t240)) (fun _ hk => hk.1.2) (.int .i64 t241)) (fun _ hk => hk.1.2) (.slice Ao42 t242.length co42)) (fun _ hk => hk.2) (.int .i64 t238)) (fun _ hk => hk.2) (.int .i64 t239)) (fun _ hk => hk.2) (.int .i64 t240)) (fun _ hk => hk.2) (.int .i64 t241)) (fun _ hk => hk.2) (.slice Ao42 t242.length co42)) (fun _ hk => trivial), by repeat (first | (with_reducible first | exact HB.out | apply below_alloc | apply pw_below_drewN | apply below_drew1 | refine below_set ?_ (IsS123.ge HI215.out) | refine below_set ?_ GE214.out | refine below_set ?_ GE225.out) | exact HB.out)⟩

/-! ### spec_DrawSplit: function 21 -/
def spec_DrawSplit.f (k : Nat) (l0 : List Int) : Option (Int × Int × Int × Int × List Int) := (spec_DrawGoodImage.f k l0).bind fun bt248 => (some (bt248.1, bt248.2.1, bt248.2.2.1, bt248.2.2.2.1, bt248.2.2.2.2))
theorem spec_DrawSplit.mono : ∀ a0 k, LeO (spec_DrawSplit.f k a0) (spec_DrawSplit.f (k + 1) a0) := by
  intro a0 k
  unfold spec_DrawSplit.f
  repeat' first
      | (with_reducible exact spec_DrawGoodImage.mono _ _)
      | (with_reducible exact LeO.refl _)
      | (with_reducible exact LeO.none _)
      | (with_reducible refine LeO.ite ?_ ?_)
      | (with_reducible refine LeO.bind ?_ (fun _ => ?_))
      | exact spec_DrawGoodImage.mono _ _
      | exact LeO.none _
      | refine LeO.ite ?_ ?_
      | refine LeO.bind ?_ (fun _ => ?_)
set_option maxHeartbeats 8000000 in
set_option maxRecDepth 100000 in
theorem spec_DrawSplit.calls (k : Nat) (A0 : Option Addr) (c0 : Nat) (l0 : List Int) (r1 : Int) (r2 : Int) (r3 : Int) (r4 : Int) (r5 : List Int) (w : World) (hr0 : Kd.C (Kd.int .u8) w A0 l0.length l0) (hc0 : l0.length ≤ c0) (h : spec_DrawSplit.f k l0 = some (r1, r2, r3, r4, r5)) :
    Calls Try.prog 21 #[.slice A0 l0.length c0] w fun e w' => ∃ v4_ : Value, e = .returned (.agg #[.int .i64 r1, .int .i64 r2, .int .i64 r3, .int .i64 r4, v4_]) ∧ Kd.R (Kd.int .i64) 3 w' w.heap.size (fun _ => True) v4_ r5 ∧ Below w.heap.size w w' := by
  have hu31 := Try.underlying31
  have HR0 := Aside0.mk hr0
  have HC0 := Aside0.mk hc0
  clear hr0 hc0
  have HB := Aside0.mk (Below.refl w.heap.size w)
  have H : ((spec_DrawGoodImage.f k l0).bind fun bt248 => (some (bt248.1, bt248.2.1, bt248.2.2.1, bt248.2.2.2.1, bt248.2.2.2.2))) = some (r1, r2, r3, r4, r5) := h
  clear h
  replace H := Option.bind_eq_some_iff.mp H
  obtain ⟨⟨t248, t249, t250, t251, t252⟩, A20, H⟩ := H
  replace H : (some (t248, t249, t250, t251, t252)) = some (r1, r2, r3, r4, r5) := H
  have A2 := Aside0.mk A20
  clear A20
  simp only [Option.some.injEq, Prod.mk.injEq] at H
  obtain ⟨rfl, rfl, rfl, rfl, rfl⟩ := H
  go_enter Try.func21, Try.ntmps21
  go_wp2_with (first | ((with_reducible refine gate_dst (N := 2) rfl ?_); refine box_event ?hg (N := 2) ?hd (cs := #[.int .i64 0, .int .i64 0, .int .i64 0, .int .i64 0, .slice none 0 0]) (t := 31) ?hr ?_; (case hd => rfl); (case hg => rfl); (case hr => first | (go_simp; done) | (go_simp; rfl)); intro gb247 hg w3 hbox hb; have n0_ := Aside0.mk (below_step (by repeat (first | (with_reducible first | exact HB.out | apply below_alloc | apply pw_below_drewN | apply below_drew1) | exact HB.out)) hb); have n1_ := Aside0.mk (hbox); have n2_ := Aside0.mk ((by rw [hg]; exact (below_size (by repeat (first | (with_reducible first | exact HB.out | apply below_alloc | apply pw_below_drewN | apply below_drew1) | exact HB.out))) : w.heap.size ≤ gb247)); have n3_ := n2_; clear HB; have HB := n0_; have BK247 := n1_; have GW247 := n2_; have GE247 := n3_; clear n0_ n1_ n2_ n3_; clear hb hbox hg) | ((with_reducible refine gate_callee (f := 75) rfl ?_); refine goesL_ (some 4) rfl rfl Try.func75 (by kernel_rfl) rfl #[.slice A0 l0.length c0] rfl (by (try simp only [List.map_toArray, List.map_cons, List.map_nil]); first | done | rfl | (simp only [List.length_drop, List.length_take]; rfl)) ?_; (with_reducible refine (spec_DrawGoodImage.calls k _ _ l0 t248 t249 t250 t251 t252 _ ?side1 ?side2 A2.out).mono ?_); (case side1 => repeat (first | exact (Kd.C_below HR0.out HB.out) | (with_reducible refine Kd.C_alloc ?_ _) | (with_reducible refine Kd.C_drewN ?_ _) | (with_reducible refine Kd.C_drew ?_))); (case side2 => exact HC0.out); rintro e w4 ⟨v253, rfl, ho0, hb⟩; refine ⟨_, rfl, ?_⟩; have n0_ := Aside0.mk (Kd.R_lower ho0 (below_size (by repeat (first | (with_reducible first | exact HB.out | apply below_alloc | apply pw_below_drewN | apply below_drew1 | refine below_set ?_ GE247.out) | exact HB.out)))); have n1_ := Aside0.mk (blk_below (g := gb247) (o := .cells #[.int .i64 0, .int .i64 0, .int .i64 0, .int .i64 0, .slice none 0 0] 31 (0, 0)) (by (with_reducible repeat (first | refine blk_drewN ?_ _ | refine blk_drew ?_ | refine blk_alloc ?_ _)); exact BK247.out) hb); have n2_ := Aside0.mk (below_step (by repeat (first | (with_reducible first | exact HB.out | apply below_alloc | apply pw_below_drewN | apply below_drew1 | refine below_set ?_ GE247.out) | exact HB.out)) hb); clear BK247; clear HB; have HO254 := n0_; have BK247 := n1_; have HB := n2_; clear n0_ n1_ n2_; (try clear hb); (try clear hb2); (try clear hk); (try clear hi); (try clear ho0); have hcz5_0 : w4.cell? ⟨gb247, 0, none⟩ = some (.int .i64 0) := (blk_cell BK247.out 0).trans rfl; have hcz5_1 : w4.cell? ⟨gb247, 1, none⟩ = some (.int .i64 0) := (blk_cell BK247.out 1).trans rfl; have hcz5_2 : w4.cell? ⟨gb247, 2, none⟩ = some (.int .i64 0) := (blk_cell BK247.out 2).trans rfl; have hcz5_3 : w4.cell? ⟨gb247, 3, none⟩ = some (.int .i64 0) := (blk_cell BK247.out 3).trans rfl; have hcz5_4 : w4.cell? ⟨gb247, 4, none⟩ = some (.slice none 0 0) := (blk_cell BK247.out 4).trans rfl; have hfz5_0 := blk_frozen BK247.out 0; have hfz5_1 := blk_frozen BK247.out 1; have hfz5_2 := blk_frozen BK247.out 2; have hfz5_3 := blk_frozen BK247.out 3; have hfz5_4 := blk_frozen BK247.out 4; obtain ⟨Ao6, co6, eo6⟩ := Kd.R_slice HO254.out; subst eo6))
  refine bodyPost_ret (results_cell_row rfl _ _ gb247 31 #[.int .i64 t248, .int .i64 t249, .int .i64 t250, .int .i64 t251, .slice Ao6 t252.length co6] (0, 0) _ rfl (by (with_reducible repeat (first | refine blk_drewN ?_ _ | refine blk_drew ?_ | refine blk_alloc ?_ _)); refine blk_put (cs := #[.int .i64 t248, .int .i64 t249, .int .i64 t250, .int .i64 t251, .slice none 0 0]) ?_ 4 _ rfl; (with_reducible repeat (first | refine blk_drewN ?_ _ | refine blk_drew ?_ | refine blk_alloc ?_ _)); refine blk_put (cs := #[.int .i64 t248, .int .i64 t249, .int .i64 t250, .int .i64 0, .slice none 0 0]) ?_ 3 _ rfl; (with_reducible repeat (first | refine blk_drewN ?_ _ | refine blk_drew ?_ | refine blk_alloc ?_ _)); refine blk_put (cs := #[.int .i64 t248, .int .i64 t249, .int .i64 0, .int .i64 0, .slice none 0 0]) ?_ 2 _ rfl; (with_reducible repeat (first | refine blk_drewN ?_ _ | refine blk_drew ?_ | refine blk_alloc ?_ _)); refine blk_put (cs := #[.int .i64 t248, .int .i64 0, .int .i64 0, .int .i64 0, .slice none 0 0]) ?_ 1 _ rfl; (with_reducible repeat (first | refine blk_drewN ?_ _ | refine blk_drew ?_ | refine blk_alloc ?_ _)); refine blk_put (cs := #[.int .i64 0, .int .i64 0, .int .i64 0, .int .i64 0, .slice none 0 0]) ?_ 0 _ rfl; (with_reducible repeat (first | refine blk_drewN ?_ _ | refine blk_drew ?_ | refine blk_alloc ?_ _)); exact BK247.out) Try.underlying31 rfl (by kernel_rfl)) rfl ?_
  exact ⟨_, by first | rfl | (simp [errW_none, errW_some] <;> rfl) | (simp [*, errW_none, errW_some] <;> rfl), by (with_reducible repeat (first | apply Kd.R_alloc | apply Kd.R_drewN | apply Kd.R_drew)); exact Kd.R_mono (Kd.R_far (p := ⟨gb247, 4, none⟩) (Kd.R_far (p := ⟨gb247, 3, none⟩) (Kd.R_far (p := ⟨gb247, 2, none⟩) (Kd.R_far (p := ⟨gb247, 1, none⟩) (Kd.R_far (p := ⟨gb247, 0, none⟩) (Kd.R_types HO254.out BK247.out (by decide)) (fun _ hk => hk.2) (.int .i64 t248)) (fun _ hk => hk.2) (.int .i64 t249)) (fun _ hk => hk.2) (.int .i64 t250)) (fun _ hk => hk.2) (.int .i64 t251)) (fun _ hk => hk.2) (.slice Ao6 t252.length co6)) (fun _ hk => trivial), by repeat (first | (with_reducible first | exact HB.out | apply below_alloc | apply pw_below_drewN | apply below_drew1 | refine below_set ?_ GE247.out) | exact HB.out)⟩

/-! ### impl_goodSide: function 79 -/
def impl_goodSide.f (a0 : Int) : Option (Bool) := if a0 ≥ 1 then (some (decide (a0 ≤ 512))) else (some false)
set_option maxHeartbeats 8000000 in
set_option maxRecDepth 100000 in
theorem impl_goodSide.calls (a0 : Int) (r : Bool) (w : World) (h : impl_goodSide.f a0 = some r) :
    Calls Try.prog 79 #[.int .i64 a0] w fun e w' => e = .returned (.bool r) ∧ Drawn0 w w' := by
  have H : (if a0 ≥ 1 then (some (decide (a0 ≤ 512))) else (some false)) = some r := h
  clear h
  by_cases c2 : a0 ≥ 1
  · rw [if_pos c2] at H
    have c2b0 : decide (1 ≤ a0) = true := decide_eq_true c2
    clear c2
    obtain rfl := Option.some.inj H
    go_enter Try.func79, Try.ntmps79
    go_wp2
    go_ret
    exact ⟨by first | rfl | (simp; done) | (simp [*]; done), by repeat (first | exact Drawn0.refl _ | apply Drawn0.step)⟩
  · rw [if_neg c2] at H
    have c2b0 : decide (1 ≤ a0) = false := decide_eq_false c2
    clear c2
    obtain rfl := Option.some.inj H
    go_enter Try.func79, Try.ntmps79
    go_wp2
    go_ret
    exact ⟨by first | rfl | (simp; done) | (simp [*]; done), by repeat (first | exact Drawn0.refl _ | apply Drawn0.step)⟩

/-! ### impl_Passes: function 24 -/
mutual
def impl_Passes.j0 : Nat → Int → Int → Bool → Option ((List (S39)))
  | 0, _, _, _ => none
  | k + 1, x0, x1, x15 => if x15 = true then (some ([] : List (S39))) else ((some (([(⟨0, 0, 8, 8, 0, 0⟩ : S39), (⟨4, 0, 8, 8, 0, 0⟩ : S39), (⟨0, 4, 4, 8, 0, 0⟩ : S39), (⟨2, 0, 4, 4, 0, 0⟩ : S39), (⟨0, 2, 2, 4, 0, 0⟩ : S39), (⟨1, 0, 2, 2, 0, 0⟩ : S39), (⟨0, 1, 1, 2, 0, 0⟩ : S39)] : List (S39)) : List (S39))).bind fun y103 => (impl_Passes.l0 k x0 x1 ([] : List (S39)) y103 (y103.length : Int) 0))
def impl_Passes.l0 : Nat → Int → Int → List (S39) → List (S39) → Int → Int → Option ((List (S39)))
  | 0, _, _, _, _, _, _ => none
  | k + 1, x0, x1, x5, x23, x24, x25 => if x25 < x24 then (if 0 ≤ x25 then (if x25 < (x23.length : Int) then (if ((rd_T39 x23 x25).f2) = 0 then (none) else (if ((rd_T39 x23 x25).f3) = 0 then (none) else (if (wrap64 (Int.tdiv (wrap64 ((wrap64 ((wrap64 (x0 - ((rd_T39 x23 x25).f0))) + ((rd_T39 x23 x25).f2))) - 1)) ((rd_T39 x23 x25).f2))) > 0 then (if (wrap64 (Int.tdiv (wrap64 ((wrap64 ((wrap64 (x1 - ((rd_T39 x23 x25).f1))) + ((rd_T39 x23 x25).f3))) - 1)) ((rd_T39 x23 x25).f3))) > 0 then (if x5.length < 2932031007402 then (impl_Passes.l0 k x0 x1 (x5 ++ [(⟨(rd_T39 x23 x25).f0, (rd_T39 x23 x25).f1, (rd_T39 x23 x25).f2, (rd_T39 x23 x25).f3, wrap64 (Int.tdiv (wrap64 ((wrap64 ((wrap64 (x0 - ((rd_T39 x23 x25).f0))) + ((rd_T39 x23 x25).f2))) - 1)) ((rd_T39 x23 x25).f2)), wrap64 (Int.tdiv (wrap64 ((wrap64 ((wrap64 (x1 - ((rd_T39 x23 x25).f1))) + ((rd_T39 x23 x25).f3))) - 1)) ((rd_T39 x23 x25).f3))⟩ : S39)]) x23 x24 (wrap64 (x25 + 1))) else (none)) else (impl_Passes.l0 k x0 x1 x5 x23 x24 (wrap64 (x25 + 1)))) else (impl_Passes.l0 k x0 x1 x5 x23 x24 (wrap64 (x25 + 1)))))) else (none)) else (none)) else (some x5)
end
def impl_Passes.f (k : Nat) (a0 : Int) (a1 : Int) : Option ((List (S39))) := (impl_goodSide.f a0).bind fun t101 => (if t101 = true then ((impl_goodSide.f a1).bind fun t102 => (impl_Passes.j0 k a0 a1 (!t102))) else (impl_Passes.j0 k a0 a1 true))
theorem impl_Passes.mono_l : ∀ k, (∀ y0 y1 y2, LeO (impl_Passes.j0 k y0 y1 y2) (impl_Passes.j0 (k + 1) y0 y1 y2)) ∧ (∀ y0 y1 y2 y3 y4 y5, LeO (impl_Passes.l0 k y0 y1 y2 y3 y4 y5) (impl_Passes.l0 (k + 1) y0 y1 y2 y3 y4 y5))
  | 0 => ⟨fun _ _ _ r h => by simp [impl_Passes.j0] at h, fun _ _ _ _ _ _ r h => by simp [impl_Passes.l0] at h⟩
  | k + 1 => by
    obtain ⟨ih0, ih1⟩ := impl_Passes.mono_l k
    refine ⟨?_, ?_⟩
    · intro y0 y1 y2
      unfold impl_Passes.j0
      repeat' first
      | (with_reducible exact ih0 _ _ _)
      | (with_reducible exact ih1 _ _ _ _ _ _)
      | (with_reducible exact LeO.refl _)
      | (with_reducible exact LeO.none _)
      | (with_reducible refine LeO.ite ?_ ?_)
      | (with_reducible refine LeO.bind ?_ (fun _ => ?_))
      | exact ih0 _ _ _
      | exact ih1 _ _ _ _ _ _
      | exact LeO.none _
      | refine LeO.ite ?_ ?_
      | refine LeO.bind ?_ (fun _ => ?_)
    · intro y0 y1 y2 y3 y4 y5
      unfold impl_Passes.l0
      repeat' first
      | (with_reducible exact ih0 _ _ _)
      | (with_reducible exact ih1 _ _ _ _ _ _)
      | (with_reducible exact LeO.refl _)
      | (with_reducible exact LeO.none _)
      | (with_reducible refine LeO.ite ?_ ?_)
      | (with_reducible refine LeO.bind ?_ (fun _ => ?_))
      | exact ih0 _ _ _
      | exact ih1 _ _ _ _ _ _
      | exact LeO.none _
      | refine LeO.ite ?_ ?_
      | refine LeO.bind ?_ (fun _ => ?_)
theorem impl_Passes.mono : ∀ a0 a1 k, LeO (impl_Passes.f k a0 a1) (impl_Passes.f (k + 1) a0 a1) := by
  intro a0 a1 k
  obtain ⟨ih0, ih1⟩ := impl_Passes.mono_l k
  unfold impl_Passes.f
  repeat' first
      | (with_reducible exact ih0 _ _ _)
      | (with_reducible exact ih1 _ _ _ _ _ _)
      | (with_reducible exact LeO.refl _)
      | (with_reducible exact LeO.none _)
      | (with_reducible refine LeO.ite ?_ ?_)
      | (with_reducible refine LeO.bind ?_ (fun _ => ?_))
      | exact ih0 _ _ _
      | exact ih1 _ _ _ _ _ _
      | exact LeO.none _
      | refine LeO.ite ?_ ?_
      | refine LeO.bind ?_ (fun _ => ?_)
set_option maxHeartbeats 8000000 in
set_option maxRecDepth 100000 in
theorem impl_Passes.calls (k : Nat) (a0 : Int) (a1 : Int) (r : List (S39)) (w : World) (h : impl_Passes.f k a0 a1 = some r) :
    Calls Try.prog 24 #[.int .i64 a0, .int .i64 a1] w fun e w' => ∃ v0_ : Value, e = .returned (v0_) ∧ Kd.R k39 39 w' w.heap.size (fun _ => True) v0_ r ∧ Below w.heap.size w w' := by
  have hu39 := Try.underlying39
  have HB := Aside0.mk (Below.refl w.heap.size w)
  have H : ((impl_goodSide.f a0).bind fun t101 => (if t101 = true then ((impl_goodSide.f a1).bind fun t102 => (impl_Passes.j0 k a0 a1 (!t102))) else (impl_Passes.j0 k a0 a1 true))) = some r := h
  clear h
  have HC3 := Aside0.mk H
  clear H
  go_enter Try.func24, Try.ntmps24
  go_upto_region 1 with (fail)
  go_cut [15] (fun v15 wc => ∃ (kq : Nat) (x15_2 : Bool), v15 = .bool x15_2 ∧ Aside0 (impl_Passes.j0 kq a0 a1 x15_2 = some r) ∧ Aside0 (kq ≤ k) ∧ Aside0 (Below w.heap.size w wc))
  case first =>
    have H := HC3.out
    clear HC3
    replace H := Option.bind_eq_some_iff.mp H
    obtain ⟨t101, A40, H⟩ := H
    replace H : (if t101 = true then ((impl_goodSide.f a1).bind fun t102 => (impl_Passes.j0 k a0 a1 (!t102))) else (impl_Passes.j0 k a0 a1 true)) = some r := H
    have A4 := Aside0.mk A40
    clear A40
    by_cases c5 : t101 = true
    rotate_left
    · replace c5 := Bool.eq_false_iff.mpr c5
      subst c5
      have H1 : (impl_Passes.j0 k a0 a1 true) = some r := by rw [if_neg (show ¬ (false = true) by decide)] at H; exact H
      clear H
      have H := H1
      clear H1
      have H' := Aside0.mk H
      clear H
      go_wp2_with (first | ((with_reducible refine gate_callee (f := 79) rfl ?_); refine goesL_ (some 9) rfl rfl Try.func79 (by kernel_rfl) rfl #[.int .i64 a0] rfl (by (try simp only [List.map_toArray, List.map_cons, List.map_nil]); first | done | rfl | (simp only [List.length_drop, List.length_take]; rfl)) ?_; (with_reducible refine (impl_goodSide.calls a0 false _ A4.out).mono ?_); rintro e w' ⟨rfl, ⟨nd, rfl⟩⟩; refine ⟨_, rfl, ?_⟩))
      go_meet
      case rel => exact ⟨_, (true), (by first | rfl | (simp; done) | (simp [*]; done)), H', ⟨by first | omega | exact Nat.le_refl _⟩, ⟨by repeat (first | (with_reducible first | exact HB.out | apply below_alloc | apply pw_below_drewN | apply below_drew1) | exact HB.out)⟩⟩
    subst c5
    have H1 : ((impl_goodSide.f a1).bind fun t102 => (impl_Passes.j0 k a0 a1 (!t102))) = some r := by rw [if_pos rfl] at H; exact H
    clear H
    have H := H1
    clear H1
    replace H := Option.bind_eq_some_iff.mp H
    obtain ⟨t102, A60, H⟩ := H
    replace H : (impl_Passes.j0 k a0 a1 (!t102)) = some r := H
    have A6 := Aside0.mk A60
    clear A60
    have H' := Aside0.mk H
    clear H
    go_wp2_with (first | ((with_reducible refine gate_callee (f := 79) rfl ?_); refine goesL_ (some 9) rfl rfl Try.func79 (by kernel_rfl) rfl #[.int .i64 a0] rfl (by (try simp only [List.map_toArray, List.map_cons, List.map_nil]); first | done | rfl | (simp only [List.length_drop, List.length_take]; rfl)) ?_; (with_reducible refine (impl_goodSide.calls a0 true _ A4.out).mono ?_); rintro e w' ⟨rfl, ⟨nd, rfl⟩⟩; refine ⟨_, rfl, ?_⟩) | (go_at_call 79; (with_reducible refine (impl_goodSide.calls a1 t102 _ A6.out).mono ?_); rintro e w' ⟨rfl, ⟨nd, rfl⟩⟩))
    go_meet
    case rel => exact ⟨_, (!t102), (by first | rfl | (simp; done) | (simp [*]; done)), H', ⟨by first | omega | exact Nat.le_refl _⟩, ⟨by repeat (first | (with_reducible first | exact HB.out | apply below_alloc | apply pw_below_drewN | apply below_drew1) | exact HB.out)⟩⟩
  case rest =>
    clear HC3
    try clear c2
    try clear p2
    try clear c5
    obtain ⟨kq, x15_2, rfl, HA, HJ2, HB⟩ := hcut
    cases kq with
    | zero => exact absurd HA.out (by simp [impl_Passes.j0])
    | succ kj2 =>
      have H := HA.out
      clear HA
      simp only [impl_Passes.j0] at H
      by_cases c7 : x15_2 = true
      · subst c7
        have H1 : (some ([] : List (S39))) = some r := by rw [if_pos rfl] at H; exact H
        clear H
        have H := H1
        clear H1
        obtain rfl := Option.some.inj H
        go_wp2
        go_ret
        exact ⟨_, by first | rfl | (simp [errW_none, errW_some] <;> rfl) | (simp [*, errW_none, errW_some] <;> rfl), by first | exact Kd.R_nil _ _ _ _ _ | exact Kd.N_nil _ _ _ _ _ | exact Kd.V_nil _ _ _ _ _ | exact Kd.Q_nil _ _ _ _ _ | exact Kd.S_nil _ _ _ _ _, by repeat (first | (with_reducible first | exact HB.out | apply below_alloc | apply pw_below_drewN | apply below_drew1) | exact HB.out)⟩
      replace c7 := Bool.eq_false_iff.mpr c7
      subst c7
      have H1 : ((some (([(⟨0, 0, 8, 8, 0, 0⟩ : S39), (⟨4, 0, 8, 8, 0, 0⟩ : S39), (⟨0, 4, 4, 8, 0, 0⟩ : S39), (⟨2, 0, 4, 4, 0, 0⟩ : S39), (⟨0, 2, 2, 4, 0, 0⟩ : S39), (⟨1, 0, 2, 2, 0, 0⟩ : S39), (⟨0, 1, 1, 2, 0, 0⟩ : S39)] : List (S39)) : List (S39))).bind fun y103 => (impl_Passes.l0 kj2 a0 a1 ([] : List (S39)) y103 (y103.length : Int) 0)) = some r := by rw [if_neg (show ¬ (false = true) by decide)] at H; exact H
      clear H
      have H := H1
      clear H1
      obtain ⟨y103, hy103⟩ : ∃ y_ : List (S39), y_ = (([(⟨0, 0, 8, 8, 0, 0⟩ : S39), (⟨4, 0, 8, 8, 0, 0⟩ : S39), (⟨0, 4, 4, 8, 0, 0⟩ : S39), (⟨2, 0, 4, 4, 0, 0⟩ : S39), (⟨0, 2, 2, 4, 0, 0⟩ : S39), (⟨1, 0, 2, 2, 0, 0⟩ : S39), (⟨0, 1, 1, 2, 0, 0⟩ : S39)] : List (S39))) := ⟨_, rfl⟩
      replace H : (impl_Passes.l0 kj2 a0 a1 ([] : List (S39)) y103 (y103.length : Int) 0) = some r := by first | (rw [hy103]; with_reducible exact H) | (have H2_ := (Option.bind_some _ _).symm.trans H; rw [hy103]; with_reducible exact H2_) | (have H2_ := (Option.bind_some _ _).symm.trans H; with_reducible exact H2_) | with_reducible exact H | (rw [hy103]; exact H) | exact H
      have Ny103 := Aside0.mk hy103
      clear hy103
      have H' := Aside0.mk H
      clear H
      go_wp2_with (first | ((with_reducible refine gate_dst (N := 23) rfl ?_); refine Kd.R_lit k39 _ 39 ?hg (N := 23) ?hd (xs := ([(⟨0, 0, 8, 8, 0, 0⟩ : S39), (⟨4, 0, 8, 8, 0, 0⟩ : S39), (⟨0, 4, 4, 8, 0, 0⟩ : S39), (⟨2, 0, 4, 4, 0, 0⟩ : S39), (⟨0, 2, 2, 4, 0, 0⟩ : S39), (⟨1, 0, 2, 2, 0, 0⟩ : S39), (⟨0, 1, 1, 2, 0, 0⟩ : S39)] : List (S39))) (inner := [.int .i64 0, .int .i64 0, .int .i64 8, .int .i64 8, .int .i64 0, .int .i64 0, .int .i64 4, .int .i64 0, .int .i64 8, .int .i64 8, .int .i64 0, .int .i64 0, .int .i64 0, .int .i64 4, .int .i64 4, .int .i64 8, .int .i64 0, .int .i64 0, .int .i64 2, .int .i64 0, .int .i64 4, .int .i64 4, .int .i64 0, .int .i64 0, .int .i64 0, .int .i64 2, .int .i64 2, .int .i64 4, .int .i64 0, .int .i64 0, .int .i64 1, .int .i64 0, .int .i64 2, .int .i64 2, .int .i64 0, .int .i64 0, .int .i64 0, .int .i64 1, .int .i64 1, .int .i64 2, .int .i64 0, .int .i64 0]) (ok := fun _ => True) (okp := fun _ => True) ?hr ?hp (fun _ hk => hk) trivial (Below.refl _ _) (Nat.le_refl _) (by simp) ?_; (case hd => rfl); (case hg => rfl); (case hr => first | (go_simp; done) | (go_simp; rfl)); (case hp => exact (Reps.c6 (show Kd.M k39 _ _ _ (⟨0, 0, 8, 8, 0, 0⟩ : S39) [.int .i64 0, .int .i64 0, .int .i64 8, .int .i64 8, .int .i64 0, .int .i64 0] from (k39_mkM _ _ _ (⟨0, 0, 8, 8, 0, 0⟩ : S39) )) (Reps.c6 (show Kd.M k39 _ _ _ (⟨4, 0, 8, 8, 0, 0⟩ : S39) [.int .i64 4, .int .i64 0, .int .i64 8, .int .i64 8, .int .i64 0, .int .i64 0] from (k39_mkM _ _ _ (⟨4, 0, 8, 8, 0, 0⟩ : S39) )) (Reps.c6 (show Kd.M k39 _ _ _ (⟨0, 4, 4, 8, 0, 0⟩ : S39) [.int .i64 0, .int .i64 4, .int .i64 4, .int .i64 8, .int .i64 0, .int .i64 0] from (k39_mkM _ _ _ (⟨0, 4, 4, 8, 0, 0⟩ : S39) )) (Reps.c6 (show Kd.M k39 _ _ _ (⟨2, 0, 4, 4, 0, 0⟩ : S39) [.int .i64 2, .int .i64 0, .int .i64 4, .int .i64 4, .int .i64 0, .int .i64 0] from (k39_mkM _ _ _ (⟨2, 0, 4, 4, 0, 0⟩ : S39) )) (Reps.c6 (show Kd.M k39 _ _ _ (⟨0, 2, 2, 4, 0, 0⟩ : S39) [.int .i64 0, .int .i64 2, .int .i64 2, .int .i64 4, .int .i64 0, .int .i64 0] from (k39_mkM _ _ _ (⟨0, 2, 2, 4, 0, 0⟩ : S39) )) (Reps.c6 (show Kd.M k39 _ _ _ (⟨1, 0, 2, 2, 0, 0⟩ : S39) [.int .i64 1, .int .i64 0, .int .i64 2, .int .i64 2, .int .i64 0, .int .i64 0] from (k39_mkM _ _ _ (⟨1, 0, 2, 2, 0, 0⟩ : S39) )) (Reps.c6 (show Kd.M k39 _ _ _ (⟨0, 1, 1, 2, 0, 0⟩ : S39) [.int .i64 0, .int .i64 1, .int .i64 1, .int .i64 2, .int .i64 0, .int .i64 0] from (k39_mkM _ _ _ (⟨0, 1, 1, 2, 0, 0⟩ : S39) )) (Reps.none _ _))))))))); intro v104 w8 ho9 hb hg_ hnew_; clear hg_ hnew_; (first | rw [← Ny103.out] at ho9 | (simp only [Int.reduceToNat] at ho9; rw [← Ny103.out] at ho9)); have n0_ := Aside0.mk (Kd.R_lower ho9 (below_size (by repeat (first | (with_reducible first | exact HB.out | apply below_alloc | apply pw_below_drewN | apply below_drew1) | exact HB.out)))); have n1_ := Aside0.mk (below_step (by repeat (first | (with_reducible first | exact HB.out | apply below_alloc | apply pw_below_drewN | apply below_drew1) | exact HB.out)) hb); clear HB; have HO105 := n0_; have HB := n1_; clear n0_ n1_; clear hb ho9; obtain ⟨Ao10, co10, eo10⟩ := Kd.R_slice HO105.out; subst eo10))
      go_loopg [5, 25] kj2 (fun kq v5 v25 w' => ∃ (x5_2 : List (S39)) (x25_2 : Int), v25 = .int .i64 x25_2 ∧ Aside0 (impl_Passes.l0 kq a0 a1 x5_2 y103 (y103.length : Int) x25_2 = some r) ∧ Aside0 (kq ≤ kj2) ∧ Aside0 (Kd.R k39 39 w' w.heap.size (fun k_ => some k_ ≠ ((.slice Ao10 y103.length co10) : Value).ownBlock) v5 x5_2) ∧ Aside0 (Kd.R k39 39 w' w.heap.size (fun k_ => some k_ ≠ (v5 : Value).ownBlock) (.slice Ao10 y103.length co10) y103) ∧ Aside0 (Below w.heap.size w w'))
      case atStart => exact ⟨(([] : List (S39))), (0), (by first | rfl | (simp; done) | (simp [*]; done)), H', ⟨Nat.le_refl _⟩, ⟨by first | exact Kd.R_nil _ _ _ _ _ | exact Kd.N_nil _ _ _ _ _ | exact Kd.V_nil _ _ _ _ _ | exact Kd.Q_nil _ _ _ _ _ | exact Kd.S_nil _ _ _ _ _⟩, ⟨by (with_reducible repeat (first | apply Kd.R_alloc | apply Kd.R_drewN | apply Kd.R_drew)); exact Kd.R_mono HO105.out (fun _ hk => (by simp [Value.ownBlock]))⟩, ⟨by repeat (first | (with_reducible first | exact HB.out | apply below_alloc | apply pw_below_drewN | apply below_drew1) | exact HB.out)⟩⟩
      case round =>
        clear H'
        try clear c2
        try clear p2
        try clear c5
        try clear c6
        try clear c7
        try clear p2
        obtain ⟨x5_2, x25_2, rfl, HA, HK2, HO_5, HO_23, HB⟩ := hrel
        cases gk with
        | zero => exact absurd HA.out (by simp [impl_Passes.l0])
        | succ k2 =>
          have H := HA.out
          clear HA
          simp only [impl_Passes.l0] at H
          obtain ⟨e, he⟩ : ∃ e_ : S39, rd_T39 y103 x25_2 = e_ := ⟨_, rfl⟩
          rw [he] at H
          by_cases c11 : x25_2 < (y103.length : Int)
          rotate_left
          · rw [if_neg c11] at H
            have c11b0 : decide (x25_2 < (y103.length : Int)) = false := decide_eq_false c11
            clear c11
            obtain rfl := Option.some.inj H
            go_wp2
            go_ret
            exact ⟨_, rfl, Kd.R_mono HO_5.out (fun _ _ => trivial), HB.out⟩
          rw [if_pos c11] at H
          have c11b0 : decide (x25_2 < (y103.length : Int)) = true := decide_eq_true c11
          by_cases c12 : 0 ≤ x25_2
          rotate_left
          · rw [if_neg c12] at H
            exact absurd H (by simp)
          rw [if_pos c12, if_pos c11] at H
          have c12b0 : decide (0 ≤ x25_2) = true := decide_eq_true c12
          by_cases c14 : e.f2 = 0
          · rw [if_pos c14] at H
            exact absurd H (by simp)
          rw [if_neg c14] at H
          have c14b0 : (e.f2 == 0) = false := beq_eq_false_iff_ne.mpr c14
          have c14b1 : (e.f2 != 0) = true := bne_iff_ne.mpr c14
          by_cases c15 : e.f3 = 0
          · rw [if_pos c15] at H
            exact absurd H (by simp)
          rw [if_neg c15] at H
          have c15b0 : (e.f3 == 0) = false := beq_eq_false_iff_ne.mpr c15
          have c15b1 : (e.f3 != 0) = true := bne_iff_ne.mpr c15
          obtain ⟨v1, hv1⟩ : ∃ v_ : Int, wrap64 (Int.tdiv (wrap64 ((wrap64 ((wrap64 (a0 - (e.f0))) + (e.f2))) - 1)) (e.f2)) = v_ := ⟨_, rfl⟩
          obtain ⟨v2, hv2⟩ : ∃ v_ : Int, wrap64 (Int.tdiv (wrap64 ((wrap64 ((wrap64 (a1 - (e.f1))) + (e.f3))) - 1)) (e.f3)) = v_ := ⟨_, rfl⟩
          rw [hv1, hv2] at H
          have HV1 := Aside0.mk hv1
          have HV2 := Aside0.mk hv2
          clear hv1 hv2
          have HH := Aside0.mk H
          clear H
          obtain ⟨ad, ead, hx0, hx1, hx2, hx3, hx4, hx5⟩ := at_T39 (Kd.R_reads' HO_23.out).2.2 x25_2 c12 c11
          cases ead
          rw [he] at hx0 hx1 hx2 hx3 hx4 hx5
          clear he
          replace c11 := eq_true c11
          replace c12 := eq_true c12
          go_upto_region 7 with (first | ((with_reducible refine gate_dst (N := 7) rfl ?_); refine box_event ?hg (N := 7) ?hd (cs := #[.int .i64 0, .int .i64 0, .int .i64 0, .int .i64 0, .int .i64 0, .int .i64 0]) (t := 39) ?hr ?_; (case hd => rfl); (case hg => rfl); (case hr => first | (go_simp; done) | (go_simp; rfl)); intro gb hg w1 hbox hb; have BK := Aside0.mk hbox; have GL := Aside0.mk (show wr.heap.size ≤ gb from Nat.le_of_eq hg.symm); have HV := Aside0.mk hb; clear hg hb; have hcz_0 : w1.cell? ⟨gb, 0, none⟩ = some (.int .i64 0) := (blk_cell hbox 0).trans rfl; have hcz_1 : w1.cell? ⟨gb, 1, none⟩ = some (.int .i64 0) := (blk_cell hbox 1).trans rfl; have hcz_2 : w1.cell? ⟨gb, 2, none⟩ = some (.int .i64 0) := (blk_cell hbox 2).trans rfl; have hcz_3 : w1.cell? ⟨gb, 3, none⟩ = some (.int .i64 0) := (blk_cell hbox 3).trans rfl; have hcz_4 : w1.cell? ⟨gb, 4, none⟩ = some (.int .i64 0) := (blk_cell hbox 4).trans rfl; have hcz_5 : w1.cell? ⟨gb, 5, none⟩ = some (.int .i64 0) := (blk_cell hbox 5).trans rfl; have hfz_0 := blk_frozen hbox 0; have hfz_1 := blk_frozen hbox 1; have hfz_2 := blk_frozen hbox 2; have hfz_3 := blk_frozen hbox 3; have hfz_4 := blk_frozen hbox 4; have hfz_5 := blk_frozen hbox 5; clear hbox))
          have hb : Below wr.heap.size wr (World.setCell (World.setCell (World.setCell (World.setCell (World.setCell (World.setCell w1 ⟨gb, 0, none⟩ (.int .i64 e.f0)) ⟨gb, 1, none⟩ (.int .i64 e.f1)) ⟨gb, 2, none⟩ (.int .i64 e.f2)) ⟨gb, 3, none⟩ (.int .i64 e.f3)) ⟨gb, 4, none⟩ (.int .i64 e.f4)) ⟨gb, 5, none⟩ (.int .i64 e.f5)) := by repeat (first | exact HV.out | refine below_set ?_ GL.out)
          have hbox : (World.setCell (World.setCell (World.setCell (World.setCell (World.setCell (World.setCell w1 ⟨gb, 0, none⟩ (.int .i64 e.f0)) ⟨gb, 1, none⟩ (.int .i64 e.f1)) ⟨gb, 2, none⟩ (.int .i64 e.f2)) ⟨gb, 3, none⟩ (.int .i64 e.f3)) ⟨gb, 4, none⟩ (.int .i64 e.f4)) ⟨gb, 5, none⟩ (.int .i64 e.f5)).heap[gb]? = some (.cells #[.int .i64 e.f0, .int .i64 e.f1, .int .i64 e.f2, .int .i64 e.f3, .int .i64 e.f4, .int .i64 e.f5] 39 (0, 0)) := (blk_set (blk_set (blk_set (blk_set (blk_set (blk_set BK.out 0 (.int .i64 e.f0)) 1 (.int .i64 e.f1)) 2 (.int .i64 e.f2)) 3 (.int .i64 e.f3)) 4 (.int .i64 e.f4)) 5 (.int .i64 e.f5))
          generalize (World.setCell (World.setCell (World.setCell (World.setCell (World.setCell (World.setCell w1 ⟨gb, 0, none⟩ (.int .i64 e.f0)) ⟨gb, 1, none⟩ (.int .i64 e.f1)) ⟨gb, 2, none⟩ (.int .i64 e.f2)) ⟨gb, 3, none⟩ (.int .i64 e.f3)) ⟨gb, 4, none⟩ (.int .i64 e.f4)) ⟨gb, 5, none⟩ (.int .i64 e.f5)) = w2 at hb hbox ⊢
          have n5_ := Aside0.mk (Kd.R_below (Kd.R_elderB HO_5.out gb GL.out) hb)
          have n23_ := Aside0.mk (Kd.R_below (Kd.R_elderB HO_23.out gb GL.out) hb)
          have nB_ := Aside0.mk (below_step HB.out hb)
          have GE := Aside0.mk (show w.heap.size ≤ gb from Nat.le_trans (below_size HB.out) GL.out)
          clear HO_5 HO_23 HB HV BK hb hx0 hx1 hx2 hx3 hx4 hx5 hcz_0 hfz_0 hcz_1 hfz_1 hcz_2 hfz_2 hcz_3 hfz_3 hcz_4 hfz_4 hcz_5 hfz_5
          have HO_5 := n5_
          have HO_23 := n23_
          have HB := nB_
          have BK := Aside0.mk hbox
          clear n5_ n23_ nB_ hbox
          have hcz_0 : w2.cell? ⟨gb, 0, none⟩ = some (.int .i64 e.f0) := (blk_cell BK.out 0).trans rfl
          have hcz_1 : w2.cell? ⟨gb, 1, none⟩ = some (.int .i64 e.f1) := (blk_cell BK.out 1).trans rfl
          have hcz_2 : w2.cell? ⟨gb, 2, none⟩ = some (.int .i64 e.f2) := (blk_cell BK.out 2).trans rfl
          have hcz_3 : w2.cell? ⟨gb, 3, none⟩ = some (.int .i64 e.f3) := (blk_cell BK.out 3).trans rfl
          have hcz_4 : w2.cell? ⟨gb, 4, none⟩ = some (.int .i64 e.f4) := (blk_cell BK.out 4).trans rfl
          have hcz_5 : w2.cell? ⟨gb, 5, none⟩ = some (.int .i64 e.f5) := (blk_cell BK.out 5).trans rfl
          have hfz_0 := blk_frozen BK.out 0
          have hfz_1 := blk_frozen BK.out 1
          have hfz_2 := blk_frozen BK.out 2
          have hfz_3 := blk_frozen BK.out 3
          have hfz_4 := blk_frozen BK.out 4
          have hfz_5 := blk_frozen BK.out 5
          go_upto_region 8 with (fail)
          have hv := HV1.out
          (try simp only [hv])
          clear hv
          have n5_ := Aside0.mk (Kd.R_far (p := ⟨gb, 4, none⟩) HO_5.out (fun _ hk => hk.2) (.int .i64 v1))
          have n23_ := Aside0.mk (Kd.R_far (p := ⟨gb, 4, none⟩) HO_23.out (fun _ hk => hk.2) (.int .i64 v1))
          have nB_ := Aside0.mk (show Below w.heap.size w (World.setCell w2 ⟨gb, 4, none⟩ (.int .i64 v1)) from below_set HB.out GE.out)
          have nK_ := Aside0.mk (show (World.setCell w2 ⟨gb, 4, none⟩ (.int .i64 v1)).heap[gb]? = some (.cells #[.int .i64 e.f0, .int .i64 e.f1, .int .i64 e.f2, .int .i64 e.f3, .int .i64 v1, .int .i64 e.f5] 39 (0, 0)) from (blk_set BK.out 4 (.int .i64 v1)))
          clear HO_5 HO_23 HB BK hcz_0 hfz_0 hcz_1 hfz_1 hcz_2 hfz_2 hcz_3 hfz_3 hcz_4 hfz_4 hcz_5 hfz_5
          generalize (World.setCell w2 ⟨gb, 4, none⟩ (.int .i64 v1)) = w3 at n5_ n23_ nB_ nK_ ⊢
          have HO_5 := n5_
          have HO_23 := n23_
          have HB := nB_
          have BK := nK_
          clear n5_ n23_ nB_ nK_
          have hcz_0 : w3.cell? ⟨gb, 0, none⟩ = some (.int .i64 e.f0) := (blk_cell BK.out 0).trans rfl
          have hcz_1 : w3.cell? ⟨gb, 1, none⟩ = some (.int .i64 e.f1) := (blk_cell BK.out 1).trans rfl
          have hcz_2 : w3.cell? ⟨gb, 2, none⟩ = some (.int .i64 e.f2) := (blk_cell BK.out 2).trans rfl
          have hcz_3 : w3.cell? ⟨gb, 3, none⟩ = some (.int .i64 e.f3) := (blk_cell BK.out 3).trans rfl
          have hcz_4 : w3.cell? ⟨gb, 4, none⟩ = some (.int .i64 v1) := (blk_cell BK.out 4).trans rfl
          have hcz_5 : w3.cell? ⟨gb, 5, none⟩ = some (.int .i64 e.f5) := (blk_cell BK.out 5).trans rfl
          have hfz_0 := blk_frozen BK.out 0
          have hfz_1 := blk_frozen BK.out 1
          have hfz_2 := blk_frozen BK.out 2
          have hfz_3 := blk_frozen BK.out 3
          have hfz_4 := blk_frozen BK.out 4
          have hfz_5 := blk_frozen BK.out 5
          go_upto_region 9 with (fail)
          have hv := HV2.out
          (try simp only [hv])
          clear hv
          have n5_ := Aside0.mk (Kd.R_far (p := ⟨gb, 5, none⟩) HO_5.out (fun _ hk => hk.2) (.int .i64 v2))
          have n23_ := Aside0.mk (Kd.R_far (p := ⟨gb, 5, none⟩) HO_23.out (fun _ hk => hk.2) (.int .i64 v2))
          have nB_ := Aside0.mk (show Below w.heap.size w (World.setCell w3 ⟨gb, 5, none⟩ (.int .i64 v2)) from below_set HB.out GE.out)
          have nK_ := Aside0.mk (show (World.setCell w3 ⟨gb, 5, none⟩ (.int .i64 v2)).heap[gb]? = some (.cells #[.int .i64 e.f0, .int .i64 e.f1, .int .i64 e.f2, .int .i64 e.f3, .int .i64 v1, .int .i64 v2] 39 (0, 0)) from (blk_set BK.out 5 (.int .i64 v2)))
          clear HO_5 HO_23 HB BK hcz_0 hfz_0 hcz_1 hfz_1 hcz_2 hfz_2 hcz_3 hfz_3 hcz_4 hfz_4 hcz_5 hfz_5
          generalize (World.setCell w3 ⟨gb, 5, none⟩ (.int .i64 v2)) = w4 at n5_ n23_ nB_ nK_ ⊢
          have HO_5 := n5_
          have HO_23 := n23_
          have HB := nB_
          have BK := nK_
          clear n5_ n23_ nB_ nK_
          have hcz_0 : w4.cell? ⟨gb, 0, none⟩ = some (.int .i64 e.f0) := (blk_cell BK.out 0).trans rfl
          have hcz_1 : w4.cell? ⟨gb, 1, none⟩ = some (.int .i64 e.f1) := (blk_cell BK.out 1).trans rfl
          have hcz_2 : w4.cell? ⟨gb, 2, none⟩ = some (.int .i64 e.f2) := (blk_cell BK.out 2).trans rfl
          have hcz_3 : w4.cell? ⟨gb, 3, none⟩ = some (.int .i64 e.f3) := (blk_cell BK.out 3).trans rfl
          have hcz_4 : w4.cell? ⟨gb, 4, none⟩ = some (.int .i64 v1) := (blk_cell BK.out 4).trans rfl
          have hcz_5 : w4.cell? ⟨gb, 5, none⟩ = some (.int .i64 v2) := (blk_cell BK.out 5).trans rfl
          have H := HH.out
          clear HH c14 c14b0 c14b1 c15 c15b0 c15b1 HV1 HV2
          by_cases c16 : v1 > 0
          rotate_left
          · rw [if_neg c16] at H
            have c16b0 : decide (0 < v1) = false := decide_eq_false c16
            clear c16
            have H' := Aside0.mk H
            clear H
            go_wp2
            go_roundg k2
            case measure => have := HJ2.out; have := HK2.out; omega
            case rel => exact ⟨x5_2, wrap64 (x25_2 + 1), (by first | rfl | (simp; done)), H', ⟨by have := HJ2.out; have := HK2.out; omega⟩, ⟨Kd.R_mono HO_5.out (fun _ hk => hk.1)⟩, ⟨Kd.R_mono HO_23.out (fun _ hk => hk.1)⟩, HB⟩
          rw [if_pos c16] at H
          have c16b0 : decide (0 < v1) = true := decide_eq_true c16
          clear c16
          by_cases c17 : v2 > 0
          rotate_left
          · rw [if_neg c17] at H
            have c17b0 : decide (0 < v2) = false := decide_eq_false c17
            clear c17
            have H' := Aside0.mk H
            clear H
            go_wp2
            go_roundg k2
            case measure => have := HJ2.out; have := HK2.out; omega
            case rel => exact ⟨x5_2, wrap64 (x25_2 + 1), (by first | rfl | (simp; done)), H', ⟨by have := HJ2.out; have := HK2.out; omega⟩, ⟨Kd.R_mono HO_5.out (fun _ hk => hk.1)⟩, ⟨Kd.R_mono HO_23.out (fun _ hk => hk.1)⟩, HB⟩
          rw [if_pos c17] at H
          have c17b0 : decide (0 < v2) = true := decide_eq_true c17
          clear c17
          by_cases c18 : x5_2.length < 2932031007402
          rotate_left
          · rw [if_neg c18] at H
            exact absurd H (by simp)
          rw [if_pos c18] at H
          have LM := Aside0.mk c18
          clear c18
          have H' := Aside0.mk H
          clear H
          go_wp2_with (first | ((with_reducible refine gate_builtin (b := .append) (xs := #[.tmp 61, .tmp 63]) rfl ?_); at_builtin; refine Kd.R_append k39 (w0 := w) (W := w4) w.heap.size rfl (.tmp 61) (.tmp 63) 36 39 (.agg #[(.int .i64 0), (.int .i64 0), (.int .i64 0), (.int .i64 0), (.int .i64 0), (.int .i64 0)]) 48 rfl Try.underlying36 info39 rfl (by decide) (by omega) u5 x5_2 (⟨e.f0, e.f1, e.f2, e.f3, v1, v2⟩ : S39) [.int .i64 e.f0, .int .i64 e.f1, .int .i64 e.f2, .int .i64 e.f3, .int .i64 v1, .int .i64 v2] (fun k_ => some k_ ≠ ((.slice (some ad) y103.length co10) : Value).ownBlock ∧ k_ ≠ gb) (fun _ => False) rfl (by first | (go_simp; done) | (go_simp; rfl)) ?aP (fun _ hk => hk.elim) ?aF ?aO ?aB ?aS ?aL ?_; (case aP => exact k39_mkM _ _ _ (⟨e.f0, e.f1, e.f2, e.f3, v1, v2⟩ : S39)); (case aB => exact HB.out); (case aF => exact fun k_ hk => ⟨fun e_ => by have := Kd.R_lt HO_23.out k_ e_.symm; omega, by have := blk_lt BK.out; omega⟩); (case aO => exact HO_5.out); (case aS => exact below_size HB.out); (case aL => have := LM.out; omega); intro v9 w9 ho hb hg hat; have n5_ := Aside0.mk ho; have n23_ := Aside0.mk (Kd.R_after (ok := (fun k_ => k_ ≠ gb)) (Kd.R_mono HO_23.out (fun _ hk => ⟨hk.2, hk.1⟩)) hg hat); have nB_ := Aside0.mk hb; clear ho hb hg hat HO_5 HO_23 HB; have HO_5 := n5_; have HO_23 := n23_; have HB := nB_; clear n5_ n23_ nB_))
          go_roundg k2
          case measure => have := HJ2.out; have := HK2.out; omega
          case rel => exact ⟨x5_2 ++ [(⟨e.f0, e.f1, e.f2, e.f3, v1, v2⟩ : S39)], wrap64 (x25_2 + 1), (by first | rfl | (simp; done)), H', ⟨by have := HJ2.out; have := HK2.out; omega⟩, ⟨Kd.R_mono HO_5.out (fun _ hk => hk.1)⟩, ⟨Kd.R_mono HO_23.out (fun _ hk => hk.2)⟩, HB⟩

/-! ### impl_goodSides: function 99 -/
def impl_goodSides.f (a0 : Int) (a1 : Int) : Option (Bool) := (impl_goodSide.f a0).bind fun t255 => (if t255 = true then ((impl_goodSide.f a1).bind fun t256 => (if t256 = true then (some (decide ((wrap64 (a0 * a1)) ≤ 4096))) else (some false))) else (some false))
set_option maxHeartbeats 8000000 in
set_option maxRecDepth 100000 in
theorem impl_goodSides.calls (a0 : Int) (a1 : Int) (r : Bool) (w : World) (h : impl_goodSides.f a0 a1 = some r) :
    Calls Try.prog 99 #[.int .i64 a0, .int .i64 a1] w fun e w' => e = .returned (.bool r) ∧ Drawn0 w w' := by
  have H : ((impl_goodSide.f a0).bind fun t255 => (if t255 = true then ((impl_goodSide.f a1).bind fun t256 => (if t256 = true then (some (decide ((wrap64 (a0 * a1)) ≤ 4096))) else (some false))) else (some false))) = some r := h
  clear h
  replace H := Option.bind_eq_some_iff.mp H
  obtain ⟨t255, A30, H⟩ := H
  replace H : (if t255 = true then ((impl_goodSide.f a1).bind fun t256 => (if t256 = true then (some (decide ((wrap64 (a0 * a1)) ≤ 4096))) else (some false))) else (some false)) = some r := H
  have A3 := Aside0.mk A30
  clear A30
  by_cases c4 : t255 = true
  · subst c4
    have H1 : ((impl_goodSide.f a1).bind fun t256 => (if t256 = true then (some (decide ((wrap64 (a0 * a1)) ≤ 4096))) else (some false))) = some r := by rw [if_pos rfl] at H; exact H
    clear H
    have H := H1
    clear H1
    replace H := Option.bind_eq_some_iff.mp H
    obtain ⟨t256, A50, H⟩ := H
    replace H : (if t256 = true then (some (decide ((wrap64 (a0 * a1)) ≤ 4096))) else (some false)) = some r := H
    have A5 := Aside0.mk A50
    clear A50
    by_cases c6 : t256 = true
    · subst c6
      have H1 : (some (decide ((wrap64 (a0 * a1)) ≤ 4096))) = some r := by rw [if_pos rfl] at H; exact H
      clear H
      have H := H1
      clear H1
      obtain rfl := Option.some.inj H
      go_enter Try.func99, Try.ntmps99
      go_wp2_with (first | ((with_reducible refine gate_callee (f := 79) rfl ?_); refine goesL_ (some 6) rfl rfl Try.func79 (by kernel_rfl) rfl #[.int .i64 a0] rfl (by (try simp only [List.map_toArray, List.map_cons, List.map_nil]); first | done | rfl | (simp only [List.length_drop, List.length_take]; rfl)) ?_; (with_reducible refine (impl_goodSide.calls a0 true _ A3.out).mono ?_); rintro e w' ⟨rfl, ⟨nd, rfl⟩⟩; refine ⟨_, rfl, ?_⟩) | (go_at_call 79; (with_reducible refine (impl_goodSide.calls a1 true _ A5.out).mono ?_); rintro e w' ⟨rfl, ⟨nd, rfl⟩⟩))
      go_ret
      exact ⟨by first | rfl | (simp; done) | (simp [*]; done), by repeat (first | exact Drawn0.refl _ | apply Drawn0.step)⟩
    · replace c6 := Bool.eq_false_iff.mpr c6
      subst c6
      have H1 : (some false) = some r := by rw [if_neg (show ¬ (false = true) by decide)] at H; exact H
      clear H
      have H := H1
      clear H1
      obtain rfl := Option.some.inj H
      go_enter Try.func99, Try.ntmps99
      go_wp2_with (first | ((with_reducible refine gate_callee (f := 79) rfl ?_); refine goesL_ (some 6) rfl rfl Try.func79 (by kernel_rfl) rfl #[.int .i64 a0] rfl (by (try simp only [List.map_toArray, List.map_cons, List.map_nil]); first | done | rfl | (simp only [List.length_drop, List.length_take]; rfl)) ?_; (with_reducible refine (impl_goodSide.calls a0 true _ A3.out).mono ?_); rintro e w' ⟨rfl, ⟨nd, rfl⟩⟩; refine ⟨_, rfl, ?_⟩) | (go_at_call 79; (with_reducible refine (impl_goodSide.calls a1 false _ A5.out).mono ?_); rintro e w' ⟨rfl, ⟨nd, rfl⟩⟩))
      go_ret
      exact ⟨by first | rfl | (simp; done) | (simp [*]; done), by repeat (first | exact Drawn0.refl _ | apply Drawn0.step)⟩
  · replace c4 := Bool.eq_false_iff.mpr c4
    subst c4
    have H1 : (some false) = some r := by rw [if_neg (show ¬ (false = true) by decide)] at H; exact H
    clear H
    have H := H1
    clear H1
    obtain rfl := Option.some.inj H
    go_enter Try.func99, Try.ntmps99
    go_wp2_with (first | ((with_reducible refine gate_callee (f := 79) rfl ?_); refine goesL_ (some 6) rfl rfl Try.func79 (by kernel_rfl) rfl #[.int .i64 a0] rfl (by (try simp only [List.map_toArray, List.map_cons, List.map_nil]); first | done | rfl | (simp only [List.length_drop, List.length_take]; rfl)) ?_; (with_reducible refine (impl_goodSide.calls a0 false _ A3.out).mono ?_); rintro e w' ⟨rfl, ⟨nd, rfl⟩⟩; refine ⟨_, rfl, ?_⟩))
    go_ret
    exact ⟨by first | rfl | (simp; done) | (simp [*]; done), by repeat (first | exact Drawn0.refl _ | apply Drawn0.step)⟩

/-! ### impl_goodDepth: function 135 -/
def impl_goodDepth.f (a0 : Int) : Option (Bool) := if a0 = 1 then (some true) else (if a0 = 2 then (some true) else (if a0 = 4 then (some true) else (if a0 = 8 then (some true) else (some (a0 == 16)))))
set_option maxHeartbeats 8000000 in
set_option maxRecDepth 100000 in
theorem impl_goodDepth.calls (a0 : Int) (r : Bool) (w : World) (h : impl_goodDepth.f a0 = some r) :
    Calls Try.prog 135 #[.int .i64 a0] w fun e w' => e = .returned (.bool r) ∧ Drawn0 w w' := by
  have H : (if a0 = 1 then (some true) else (if a0 = 2 then (some true) else (if a0 = 4 then (some true) else (if a0 = 8 then (some true) else (some (a0 == 16)))))) = some r := h
  clear h
  by_cases c2 : a0 = 1
  · rw [if_pos c2] at H
    have c2b0 : (a0 == 1) = true := beq_iff_eq.mpr c2
    have c2b1 : (a0 != 1) = false := bne_eq_false_iff_eq.mpr c2
    clear c2
    obtain rfl := Option.some.inj H
    go_enter Try.func135, Try.ntmps135
    go_wp2
    go_ret
    exact ⟨by first | rfl | (simp; done) | (simp [*]; done), by repeat (first | exact Drawn0.refl _ | apply Drawn0.step)⟩
  · rw [if_neg c2] at H
    have c2b0 : (a0 == 1) = false := beq_eq_false_iff_ne.mpr c2
    have c2b1 : (a0 != 1) = true := bne_iff_ne.mpr c2
    by_cases c3 : a0 = 2
    · rw [if_pos c3] at H
      have c3b0 : (a0 == 2) = true := beq_iff_eq.mpr c3
      have c3b1 : (a0 != 2) = false := bne_eq_false_iff_eq.mpr c3
      clear c3
      obtain rfl := Option.some.inj H
      go_enter Try.func135, Try.ntmps135
      go_wp2
      go_ret
      exact ⟨by first | rfl | (simp; done) | (simp [*]; done), by repeat (first | exact Drawn0.refl _ | apply Drawn0.step)⟩
    · rw [if_neg c3] at H
      have c3b0 : (a0 == 2) = false := beq_eq_false_iff_ne.mpr c3
      have c3b1 : (a0 != 2) = true := bne_iff_ne.mpr c3
      by_cases c4 : a0 = 4
      · rw [if_pos c4] at H
        have c4b0 : (a0 == 4) = true := beq_iff_eq.mpr c4
        have c4b1 : (a0 != 4) = false := bne_eq_false_iff_eq.mpr c4
        clear c4
        obtain rfl := Option.some.inj H
        go_enter Try.func135, Try.ntmps135
        go_wp2
        go_ret
        exact ⟨by first | rfl | (simp; done) | (simp [*]; done), by repeat (first | exact Drawn0.refl _ | apply Drawn0.step)⟩
      · rw [if_neg c4] at H
        have c4b0 : (a0 == 4) = false := beq_eq_false_iff_ne.mpr c4
        have c4b1 : (a0 != 4) = true := bne_iff_ne.mpr c4
        by_cases c5 : a0 = 8
        · rw [if_pos c5] at H
          have c5b0 : (a0 == 8) = true := beq_iff_eq.mpr c5
          have c5b1 : (a0 != 8) = false := bne_eq_false_iff_eq.mpr c5
          clear c5
          obtain rfl := Option.some.inj H
          go_enter Try.func135, Try.ntmps135
          go_wp2
          go_ret
          exact ⟨by first | rfl | (simp; done) | (simp [*]; done), by repeat (first | exact Drawn0.refl _ | apply Drawn0.step)⟩
        · rw [if_neg c5] at H
          have c5b0 : (a0 == 8) = false := beq_eq_false_iff_ne.mpr c5
          have c5b1 : (a0 != 8) = true := bne_iff_ne.mpr c5
          obtain rfl := Option.some.inj H
          go_enter Try.func135, Try.ntmps135
          go_wp2
          go_ret
          exact ⟨by first | rfl | (simp; done) | (simp [*]; done), by repeat (first | exact Drawn0.refl _ | apply Drawn0.step)⟩

/-! ### impl_goodShape: function 80 -/
def impl_goodShape.f (a0 : Int) (a1 : Int) (a2 : Int) (a3 : Int) : Option (Bool) := (impl_goodSides.f a0 a1).bind fun t257 => (if t257 = true then (if a2 ≥ 1 then (if a2 ≤ 4 then ((impl_goodDepth.f a3).bind fun t258 => (if t258 = true then (if a2 = 1 then (some true) else (some (decide (a3 ≥ 8)))) else (some false))) else (some false)) else (some false)) else (some false))
set_option maxHeartbeats 8000000 in
set_option maxRecDepth 100000 in
theorem impl_goodShape.calls (a0 : Int) (a1 : Int) (a2 : Int) (a3 : Int) (r : Bool) (w : World) (h : impl_goodShape.f a0 a1 a2 a3 = some r) :
    Calls Try.prog 80 #[.int .i64 a0, .int .i64 a1, .int .i64 a2, .int .i64 a3] w fun e w' => e = .returned (.bool r) ∧ Drawn0 w w' := by
  have H : ((impl_goodSides.f a0 a1).bind fun t257 => (if t257 = true then (if a2 ≥ 1 then (if a2 ≤ 4 then ((impl_goodDepth.f a3).bind fun t258 => (if t258 = true then (if a2 = 1 then (some true) else (some (decide (a3 ≥ 8)))) else (some false))) else (some false)) else (some false)) else (some false))) = some r := h
  clear h
  replace H := Option.bind_eq_some_iff.mp H
  obtain ⟨t257, A50, H⟩ := H
  replace H : (if t257 = true then (if a2 ≥ 1 then (if a2 ≤ 4 then ((impl_goodDepth.f a3).bind fun t258 => (if t258 = true then (if a2 = 1 then (some true) else (some (decide (a3 ≥ 8)))) else (some false))) else (some false)) else (some false)) else (some false)) = some r := H
  have A5 := Aside0.mk A50
  clear A50
  by_cases c6 : t257 = true
  rotate_left
  · replace c6 := Bool.eq_false_iff.mpr c6
    subst c6
    have H1 : (some false) = some r := by rw [if_neg (show ¬ (false = true) by decide)] at H; exact H
    clear H
    have H := H1
    clear H1
    obtain rfl := Option.some.inj H
    go_enter Try.func80, Try.ntmps80
    go_wp2_with (first | ((with_reducible refine gate_callee (f := 99) rfl ?_); refine goesL_ (some 11) rfl rfl Try.func99 (by kernel_rfl) rfl #[.int .i64 a0, .int .i64 a1] rfl (by (try simp only [List.map_toArray, List.map_cons, List.map_nil]); first | done | rfl | (simp only [List.length_drop, List.length_take]; rfl)) ?_; (with_reducible refine (impl_goodSides.calls a0 a1 false _ A5.out).mono ?_); rintro e w' ⟨rfl, ⟨nd, rfl⟩⟩; refine ⟨_, rfl, ?_⟩))
    go_ret
    exact ⟨by first | rfl | (simp; done) | (simp [*]; done), by repeat (first | exact Drawn0.refl _ | apply Drawn0.step)⟩
  subst c6
  have H1 : (if a2 ≥ 1 then (if a2 ≤ 4 then ((impl_goodDepth.f a3).bind fun t258 => (if t258 = true then (if a2 = 1 then (some true) else (some (decide (a3 ≥ 8)))) else (some false))) else (some false)) else (some false)) = some r := by rw [if_pos rfl] at H; exact H
  clear H
  have H := H1
  clear H1
  by_cases c7 : a2 ≥ 1
  rotate_left
  · rw [if_neg c7] at H
    have c7b0 : decide (1 ≤ a2) = false := decide_eq_false c7
    clear c7
    obtain rfl := Option.some.inj H
    go_enter Try.func80, Try.ntmps80
    go_wp2_with (first | ((with_reducible refine gate_callee (f := 99) rfl ?_); refine goesL_ (some 11) rfl rfl Try.func99 (by kernel_rfl) rfl #[.int .i64 a0, .int .i64 a1] rfl (by (try simp only [List.map_toArray, List.map_cons, List.map_nil]); first | done | rfl | (simp only [List.length_drop, List.length_take]; rfl)) ?_; (with_reducible refine (impl_goodSides.calls a0 a1 true _ A5.out).mono ?_); rintro e w' ⟨rfl, ⟨nd, rfl⟩⟩; refine ⟨_, rfl, ?_⟩))
    go_ret
    exact ⟨by first | rfl | (simp; done) | (simp [*]; done), by repeat (first | exact Drawn0.refl _ | apply Drawn0.step)⟩
  rw [if_pos c7] at H
  have c7b0 : decide (1 ≤ a2) = true := decide_eq_true c7
  clear c7
  by_cases c8 : a2 ≤ 4
  rotate_left
  · rw [if_neg c8] at H
    have c8b0 : decide (a2 ≤ 4) = false := decide_eq_false c8
    clear c8
    obtain rfl := Option.some.inj H
    go_enter Try.func80, Try.ntmps80
    go_wp2_with (first | ((with_reducible refine gate_callee (f := 99) rfl ?_); refine goesL_ (some 11) rfl rfl Try.func99 (by kernel_rfl) rfl #[.int .i64 a0, .int .i64 a1] rfl (by (try simp only [List.map_toArray, List.map_cons, List.map_nil]); first | done | rfl | (simp only [List.length_drop, List.length_take]; rfl)) ?_; (with_reducible refine (impl_goodSides.calls a0 a1 true _ A5.out).mono ?_); rintro e w' ⟨rfl, ⟨nd, rfl⟩⟩; refine ⟨_, rfl, ?_⟩))
    go_ret
    exact ⟨by first | rfl | (simp; done) | (simp [*]; done), by repeat (first | exact Drawn0.refl _ | apply Drawn0.step)⟩
  rw [if_pos c8] at H
  have c8b0 : decide (a2 ≤ 4) = true := decide_eq_true c8
  clear c8
  replace H := Option.bind_eq_some_iff.mp H
  obtain ⟨t258, A90, H⟩ := H
  replace H : (if t258 = true then (if a2 = 1 then (some true) else (some (decide (a3 ≥ 8)))) else (some false)) = some r := H
  have A9 := Aside0.mk A90
  clear A90
  by_cases c10 : t258 = true
  rotate_left
  · replace c10 := Bool.eq_false_iff.mpr c10
    subst c10
    have H1 : (some false) = some r := by rw [if_neg (show ¬ (false = true) by decide)] at H; exact H
    clear H
    have H := H1
    clear H1
    obtain rfl := Option.some.inj H
    go_enter Try.func80, Try.ntmps80
    go_wp2_with (first | ((with_reducible refine gate_callee (f := 99) rfl ?_); refine goesL_ (some 11) rfl rfl Try.func99 (by kernel_rfl) rfl #[.int .i64 a0, .int .i64 a1] rfl (by (try simp only [List.map_toArray, List.map_cons, List.map_nil]); first | done | rfl | (simp only [List.length_drop, List.length_take]; rfl)) ?_; (with_reducible refine (impl_goodSides.calls a0 a1 true _ A5.out).mono ?_); rintro e w' ⟨rfl, ⟨nd, rfl⟩⟩; refine ⟨_, rfl, ?_⟩) | (go_at_call 135; (with_reducible refine (impl_goodDepth.calls a3 false _ A9.out).mono ?_); rintro e w' ⟨rfl, ⟨nd, rfl⟩⟩))
    go_ret
    exact ⟨by first | rfl | (simp; done) | (simp [*]; done), by repeat (first | exact Drawn0.refl _ | apply Drawn0.step)⟩
  subst c10
  have H1 : (if a2 = 1 then (some true) else (some (decide (a3 ≥ 8)))) = some r := by rw [if_pos rfl] at H; exact H
  clear H
  have H := H1
  clear H1
  by_cases c11 : a2 = 1
  rotate_left
  · rw [if_neg c11] at H
    have c11b0 : (a2 == 1) = false := beq_eq_false_iff_ne.mpr c11
    have c11b1 : (a2 != 1) = true := bne_iff_ne.mpr c11
    obtain rfl := Option.some.inj H
    go_enter Try.func80, Try.ntmps80
    go_wp2_with (first | ((with_reducible refine gate_callee (f := 99) rfl ?_); refine goesL_ (some 11) rfl rfl Try.func99 (by kernel_rfl) rfl #[.int .i64 a0, .int .i64 a1] rfl (by (try simp only [List.map_toArray, List.map_cons, List.map_nil]); first | done | rfl | (simp only [List.length_drop, List.length_take]; rfl)) ?_; (with_reducible refine (impl_goodSides.calls a0 a1 true _ A5.out).mono ?_); rintro e w' ⟨rfl, ⟨nd, rfl⟩⟩; refine ⟨_, rfl, ?_⟩) | (go_at_call 135; (with_reducible refine (impl_goodDepth.calls a3 true _ A9.out).mono ?_); rintro e w' ⟨rfl, ⟨nd, rfl⟩⟩))
    go_ret
    exact ⟨by first | rfl | (simp; done) | (simp [*]; done), by repeat (first | exact Drawn0.refl _ | apply Drawn0.step)⟩
  rw [if_pos c11] at H
  have c11b0 : (a2 == 1) = true := beq_iff_eq.mpr c11
  have c11b1 : (a2 != 1) = false := bne_eq_false_iff_eq.mpr c11
  clear c11
  obtain rfl := Option.some.inj H
  go_enter Try.func80, Try.ntmps80
  go_wp2_with (first | ((with_reducible refine gate_callee (f := 99) rfl ?_); refine goesL_ (some 11) rfl rfl Try.func99 (by kernel_rfl) rfl #[.int .i64 a0, .int .i64 a1] rfl (by (try simp only [List.map_toArray, List.map_cons, List.map_nil]); first | done | rfl | (simp only [List.length_drop, List.length_take]; rfl)) ?_; (with_reducible refine (impl_goodSides.calls a0 a1 true _ A5.out).mono ?_); rintro e w' ⟨rfl, ⟨nd, rfl⟩⟩; refine ⟨_, rfl, ?_⟩) | (go_at_call 135; (with_reducible refine (impl_goodDepth.calls a3 true _ A9.out).mono ?_); rintro e w' ⟨rfl, ⟨nd, rfl⟩⟩))
  go_ret
  exact ⟨by first | rfl | (simp; done) | (simp [*]; done), by repeat (first | exact Drawn0.refl _ | apply Drawn0.step)⟩

/-! ### impl_inRange: function 100 -/
def impl_inRange.l0 : Nat → Int → List Int → Int → Int → Option (Bool)
  | 0, _, _, _, _ => none
  | k + 1, x1, x7, x8, x9 => if x9 < x8 then (if 0 ≤ x9 then (if x9 < (x7.length : Int) then (if (rd x7 x9) < 0 then (some false) else (if (rd x7 x9) > x1 then (some false) else (impl_inRange.l0 k x1 x7 x8 (wrap64 (x9 + 1))))) else (none)) else (none)) else (some true)
def impl_inRange.f (k : Nat) (l0 : List Int) (a1 : Int) : Option (Bool) := impl_inRange.l0 k a1 l0 (l0.length : Int) 0
theorem impl_inRange.mono_l : ∀ k, (∀ y0 y1 y2 y3, LeO (impl_inRange.l0 k y0 y1 y2 y3) (impl_inRange.l0 (k + 1) y0 y1 y2 y3))
  | 0 => fun _ _ _ _ r h => by simp [impl_inRange.l0] at h
  | k + 1 => by
    have ih0 := impl_inRange.mono_l k
    · intro y0 y1 y2 y3
      unfold impl_inRange.l0
      repeat' first
      | (with_reducible exact ih0 _ _ _ _)
      | (with_reducible exact LeO.refl _)
      | (with_reducible exact LeO.none _)
      | (with_reducible refine LeO.ite ?_ ?_)
      | (with_reducible refine LeO.bind ?_ (fun _ => ?_))
      | exact ih0 _ _ _ _
      | exact LeO.none _
      | refine LeO.ite ?_ ?_
      | refine LeO.bind ?_ (fun _ => ?_)
theorem impl_inRange.mono : ∀ a0 a1 k, LeO (impl_inRange.f k a0 a1) (impl_inRange.f (k + 1) a0 a1) := by
  intro a0 a1 k
  have ih0 := impl_inRange.mono_l k
  unfold impl_inRange.f
  repeat' first
      | (with_reducible exact ih0 _ _ _ _)
      | (with_reducible exact LeO.refl _)
      | (with_reducible exact LeO.none _)
      | (with_reducible refine LeO.ite ?_ ?_)
      | (with_reducible refine LeO.bind ?_ (fun _ => ?_))
      | exact ih0 _ _ _ _
      | exact LeO.none _
      | refine LeO.ite ?_ ?_
      | refine LeO.bind ?_ (fun _ => ?_)
set_option maxHeartbeats 8000000 in
set_option maxRecDepth 100000 in
theorem impl_inRange.calls (k : Nat) (A0 : Option Addr) (c0 : Nat) (l0 : List Int) (a1 : Int) (r : Bool) (w : World) (hr0 : Kd.C (Kd.int .i64) w A0 l0.length l0) (hc0 : l0.length ≤ c0) (h : impl_inRange.f k l0 a1 = some r) :
    Calls Try.prog 100 #[.slice A0 l0.length c0, .int .i64 a1] w fun e w' => e = .returned (.bool r) ∧ Drawn0 w w' := by
  have HR0 := Aside0.mk hr0
  have HC0 := Aside0.mk hc0
  clear hr0 hc0
  have H : (impl_inRange.l0 k a1 l0 (l0.length : Int) 0) = some r := h
  clear h
  have H' := Aside0.mk H
  clear H
  go_enter Try.func100, Try.ntmps100
  go_wp2
  go_loopg [9] k (fun kq v9 w' => ∃ (x9_1 : Int), v9 = .int .i64 x9_1 ∧ Aside0 (impl_inRange.l0 kq a1 l0 (l0.length : Int) x9_1 = some r) ∧ Aside0 (kq ≤ k) ∧ Drawn0 w w')
  case atStart => exact ⟨(0), (by first | rfl | (simp; done) | (simp [*]; done)), H', ⟨Nat.le_refl _⟩, by repeat (first | exact Drawn0.refl _ | apply Drawn0.step)⟩
  case round =>
    clear H'
    try clear c1
    try clear p2
    obtain ⟨x9_1, rfl, HA, HK1, ⟨m1, rfl⟩⟩ := hrel
    cases gk with
    | zero => exact absurd HA.out (by simp [impl_inRange.l0])
    | succ k1 =>
      have H := HA.out
      clear HA
      simp only [impl_inRange.l0] at H
      by_cases c3 : x9_1 < (l0.length : Int)
      rotate_left
      · rw [if_neg c3] at H
        have c3b0 : decide (x9_1 < (l0.length : Int)) = false := decide_eq_false c3
        clear c3
        obtain rfl := Option.some.inj H
        go_wp2
        go_ret
        exact ⟨by first | rfl | (simp; done) | (simp [*]; done), by repeat (first | exact Drawn0.refl _ | apply Drawn0.step)⟩
      rw [if_pos c3] at H
      have c3b0 : decide (x9_1 < (l0.length : Int)) = true := decide_eq_true c3
      clear c3
      by_cases c4 : 0 ≤ x9_1
      rotate_left
      · rw [if_neg c4] at H
        exact absurd H (by simp)
      rw [if_pos c4] at H
      have c4b0 : decide (0 ≤ x9_1) = true := decide_eq_true c4
      clear c4
      by_cases c5 : x9_1 < (l0.length : Int)
      rotate_left
      · rw [if_neg c5] at H
        exact absurd H (by simp)
      rw [if_pos c5] at H
      have c5b0 : decide (x9_1 < (l0.length : Int)) = true := decide_eq_true c5
      clear c5
      by_cases c6 : (rd l0 x9_1) < 0
      · rw [if_pos c6] at H
        have c6b0 : decide ((rd l0 x9_1) < 0) = true := decide_eq_true c6
        clear c6
        obtain rfl := Option.some.inj H
        have p259 : 0 ≤ (x9_1 : Int) := of_decide_eq_true (by first | (with_reducible assumption) | assumption)
        have q259 : x9_1 < (l0.length : Int) := of_decide_eq_true (by first | (with_reducible assumption) | assumption)
        obtain ⟨ad259, e259, hx259_0⟩ := Kd.at_int HR0.out x9_1 p259 q259
        cases e259
        replace p259 := eq_true p259
        replace q259 := eq_true q259
        go_wp2
        go_ret
        exact ⟨by first | rfl | (simp; done) | (simp [*]; done), by repeat (first | exact Drawn0.refl _ | apply Drawn0.step)⟩
      rw [if_neg c6] at H
      have c6b0 : decide ((rd l0 x9_1) < 0) = false := decide_eq_false c6
      clear c6
      by_cases c7 : (rd l0 x9_1) > a1
      · rw [if_pos c7] at H
        have c7b0 : decide (a1 < (rd l0 x9_1)) = true := decide_eq_true c7
        clear c7
        obtain rfl := Option.some.inj H
        have p259 : 0 ≤ (x9_1 : Int) := of_decide_eq_true (by first | (with_reducible assumption) | assumption)
        have q259 : x9_1 < (l0.length : Int) := of_decide_eq_true (by first | (with_reducible assumption) | assumption)
        obtain ⟨ad259, e259, hx259_0⟩ := Kd.at_int HR0.out x9_1 p259 q259
        cases e259
        replace p259 := eq_true p259
        replace q259 := eq_true q259
        go_wp2
        go_ret
        exact ⟨by first | rfl | (simp; done) | (simp [*]; done), by repeat (first | exact Drawn0.refl _ | apply Drawn0.step)⟩
      rw [if_neg c7] at H
      have c7b0 : decide (a1 < (rd l0 x9_1)) = false := decide_eq_false c7
      clear c7
      have H' := Aside0.mk H
      clear H
      have p259 : 0 ≤ (x9_1 : Int) := of_decide_eq_true (by first | (with_reducible assumption) | assumption)
      have q259 : x9_1 < (l0.length : Int) := of_decide_eq_true (by first | (with_reducible assumption) | assumption)
      obtain ⟨ad259, e259, hx259_0⟩ := Kd.at_int HR0.out x9_1 p259 q259
      cases e259
      replace p259 := eq_true p259
      replace q259 := eq_true q259
      go_wp2
      go_roundg k1
      case measure => have := HK1.out; omega
      case rel => exact ⟨(wrap64 (x9_1 + 1)), (by first | rfl | (simp; done) | (simp [*]; done)), H', ⟨by have := HK1.out; omega⟩, by repeat (first | exact Drawn0.refl _ | apply Drawn0.step)⟩

end Go.Proofs.Ytggokppfhkebkaa.PFnPasses

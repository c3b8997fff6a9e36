-- written by myprint.py (a program of this session's over the kit's print)
import Derived.Test.YtidblealnaicpaaDoorPFnExactSoundOfx0
import Derived.Test.YtidblealnaicpaaDoorPFnExactSoundOfx2
import Derived.Test.YtidblealnaicpaaDoorPFnExactSoundOfx3
namespace Go.Proofs.YtidblealnaicpaaDoor.PFnExactSoundOf
open Go.RowKit Go.Proofs.YtidblealnaicpaaDoorW.PrintWords Go.Proofs.YtidblealnaicpaaDoorW.PrintLast Go.Proofs.YtidblealnaicpaaDoorW.PrintMore
attribute [local go_sem] max2_int min2_int max_two min_two max_three min_three max_four min_four   -- for this text's walks alone
set_option linter.unusedVariables false
set_option linter.unusedSimpArgs false

/-! ### spec_SoundOf: function 14 -/
mutual
def spec_SoundOf.l0 : Nat → List Int → List Int → Int → Int → Int → Int → Int → List (List Int) → List (List Int) → Option (List Int)
  | 0, _, _, _, _, _, _, _, _, _ => none
  | k + 1, x3, x4, x17, x18, x146000, x146001, x146002, x146003, x146004 => if x18 < x17 then (if 16 ≤ 35184372088832 then (if 0 ≤ x18 then (if x18 < (x146003.length : Int) then (spec_SoundOf.l1 k x3 x4 x18 (List.replicate 16 0) x17 x18 (rd_L1 x146003 x18) ((rd_L1 x146003 x18).length : Int) 0 x146000 x146001 x146002 x146003 x146004) else (none)) else (none)) else (none)) else (if 0 ≤ x146002 then (if x146002 ≤ (x3.length : Int) then (some (x3.take (x146002 : Int).toNat)) else (none)) else (none))
def spec_SoundOf.l1 : Nat → List Int → List Int → Int → List Int → Int → Int → List Int → Int → Int → Int → Int → Int → List (List Int) → List (List Int) → Option (List Int)
  | 0, _, _, _, _, _, _, _, _, _, _, _, _, _, _ => none
  | k + 1, x3, x4, x5, x6, x17, x18, x26, x27, x28, x146000, x146001, x146002, x146003, x146004 => if x28 < x27 then (if 0 ≤ x28 then (if x28 < (x26.length : Int) then (if 0 ≤ x5 then (if x5 < (x146004.length : Int) then (if 0 ≤ (wrap64 (Int.tdiv x28 2)) then (if (wrap64 (Int.tdiv x28 2)) < ((rd_L1 x146004 x5).length : Int) then (if 0 ≤ (IntKind.u64.wrap (rd (rd_L1 x146004 x5) (wrap64 (Int.tdiv x28 2)))) then (if x28 < (x6.length : Int) then (spec_SoundOf.l1 k x3 x4 x5 (x6.set (x28 : Int).toNat (shl .i64 (rd x26 x28) (IntKind.u64.wrap (rd (rd_L1 x146004 x5) (wrap64 (Int.tdiv x28 2)))))) x17 x18 x26 x27 (wrap64 (x28 + 1)) x146000 x146001 x146002 x146003 x146004) else (none)) else (none)) else (none)) else (none)) else (none)) else (none)) else (none)) else (none)) else ((spec_l11Unlap.f k x6).bind fun t158 => (spec_SoundOf.l2 k x3 x4 x5 t158 0 x17 x18 x146000 x146001 x146002 x146003 x146004))
def spec_SoundOf.l2 : Nat → List Int → List Int → Int → List Int → Int → Int → Int → Int → Int → Int → List (List Int) → List (List Int) → Option (List Int)
  | 0, _, _, _, _, _, _, _, _, _, _, _, _ => none
  | k + 1, x3, x4, x5, x9, x10, x17, x18, x146000, x146001, x146002, x146003, x146004 => if x10 < 16 then (spec_SoundOf.j3 k x3 x4 x5 x9 x10 x17 x18 (decide (x5 > 0)) x146000 x146001 x146002 x146003 x146004) else (spec_SoundOf.j3 k x3 x4 x5 x9 x10 x17 x18 false x146000 x146001 x146002 x146003 x146004)
def spec_SoundOf.j3 : Nat → List Int → List Int → Int → List Int → Int → Int → Int → Bool → Int → Int → Int → List (List Int) → List (List Int) → Option (List Int)
  | 0, _, _, _, _, _, _, _, _, _, _, _, _, _ => none
  | k + 1, x3, x4, x5, x9, x10, x17, x18, x56, x146000, x146001, x146002, x146003, x146004 => if x56 = true then (if 0 ≤ (wrap64 (16 + x10)) then (if (wrap64 (16 + x10)) < (x4.length : Int) then (if 0 ≤ x10 then (if x10 < (x9.length : Int) then (if (wrap64 ((rd x4 (wrap64 (16 + x10))) + (rd x9 x10))) < (-32768) then (if x3.length < 17592186044416 then (spec_SoundOf.l2 k (x3 ++ [(-32768)]) x4 x5 x9 (wrap64 (x10 + 1)) x17 x18 x146000 x146001 x146002 x146003 x146004) else (none)) else (if (wrap64 ((rd x4 (wrap64 (16 + x10))) + (rd x9 x10))) > 32767 then (if x3.length < 17592186044416 then (spec_SoundOf.l2 k (x3 ++ [32767]) x4 x5 x9 (wrap64 (x10 + 1)) x17 x18 x146000 x146001 x146002 x146003 x146004) else (none)) else (if x3.length < 17592186044416 then (spec_SoundOf.l2 k (x3 ++ [wrap64 ((rd x4 (wrap64 (16 + x10))) + (rd x9 x10))]) x4 x5 x9 (wrap64 (x10 + 1)) x17 x18 x146000 x146001 x146002 x146003 x146004) else (none)))) else (none)) else (none)) else (none)) else (none)) else (spec_SoundOf.l0 k x3 x9 x17 (wrap64 (x18 + 1)) x146000 x146001 x146002 x146003 x146004)
end
def spec_SoundOf.f (k : Nat) (a0_0 : Int) (a0_1 : Int) (a0_2 : Int) (l0_3 : List (List Int)) (l0_4 : List (List Int)) : Option (List Int) := (spec_GoodTones.f k a0_0 a0_1 a0_2 l0_3 l0_4).bind fun t146 => (if t146 = true then (spec_SoundOf.l0 k ([] : List Int) ([] : List Int) (l0_3.length : Int) 0 a0_0 a0_1 a0_2 l0_3 l0_4) else (some ([] : List Int)))
theorem spec_SoundOf.mono_l : ∀ k, (∀ y0 y1 y2 y3 y4 y5 y6 y7 y8, LeO (spec_SoundOf.l0 k y0 y1 y2 y3 y4 y5 y6 y7 y8) (spec_SoundOf.l0 (k + 1) y0 y1 y2 y3 y4 y5 y6 y7 y8)) ∧ (∀ y0 y1 y2 y3 y4 y5 y6 y7 y8 y9 y10 y11 y12 y13, LeO (spec_SoundOf.l1 k y0 y1 y2 y3 y4 y5 y6 y7 y8 y9 y10 y11 y12 y13) (spec_SoundOf.l1 (k + 1) y0 y1 y2 y3 y4 y5 y6 y7 y8 y9 y10 y11 y12 y13)) ∧ (∀ y0 y1 y2 y3 y4 y5 y6 y7 y8 y9 y10 y11, LeO (spec_SoundOf.l2 k y0 y1 y2 y3 y4 y5 y6 y7 y8 y9 y10 y11) (spec_SoundOf.l2 (k + 1) y0 y1 y2 y3 y4 y5 y6 y7 y8 y9 y10 y11)) ∧ (∀ y0 y1 y2 y3 y4 y5 y6 y7 y8 y9 y10 y11 y12, LeO (spec_SoundOf.j3 k y0 y1 y2 y3 y4 y5 y6 y7 y8 y9 y10 y11 y12) (spec_SoundOf.j3 (k + 1) y0 y1 y2 y3 y4 y5 y6 y7 y8 y9 y10 y11 y12))
  | 0 => ⟨fun _ _ _ _ _ _ _ _ _ r h => by simp [spec_SoundOf.l0] at h, fun _ _ _ _ _ _ _ _ _ _ _ _ _ _ r h => by simp [spec_SoundOf.l1] at h, fun _ _ _ _ _ _ _ _ _ _ _ _ r h => by simp [spec_SoundOf.l2] at h, fun _ _ _ _ _ _ _ _ _ _ _ _ _ r h => by simp [spec_SoundOf.j3] at h⟩
  | k + 1 => by
    obtain ⟨ih0, ih1, ih2, ih3⟩ := spec_SoundOf.mono_l k
    refine ⟨?_, ?_, ?_, ?_⟩
    · intro y0 y1 y2 y3 y4 y5 y6 y7 y8
      unfold spec_SoundOf.l0
      repeat' first
      | (with_reducible exact ih0 _ _ _ _ _ _ _ _ _)
      | (with_reducible exact ih1 _ _ _ _ _ _ _ _ _ _ _ _ _ _)
      | (with_reducible exact ih2 _ _ _ _ _ _ _ _ _ _ _ _)
      | (with_reducible exact ih3 _ _ _ _ _ _ _ _ _ _ _ _ _)
      | (with_reducible exact spec_GoodTones.mono _ _ _ _ _ _)
      | (with_reducible exact spec_l11Unlap.mono _ _)
      | (with_reducible exact LeO.refl _)
      | (with_reducible exact LeO.none _)
      | (with_reducible refine LeO.ite ?_ ?_)
      | (with_reducible refine LeO.bind ?_ (fun _ => ?_))
      | exact ih0 _ _ _ _ _ _ _ _ _
      | exact ih1 _ _ _ _ _ _ _ _ _ _ _ _ _ _
      | exact ih2 _ _ _ _ _ _ _ _ _ _ _ _
      | exact ih3 _ _ _ _ _ _ _ _ _ _ _ _ _
      | exact spec_GoodTones.mono _ _ _ _ _ _
      | exact spec_l11Unlap.mono _ _
      | exact LeO.none _
      | refine LeO.ite ?_ ?_
      | refine LeO.bind ?_ (fun _ => ?_)
    · intro y0 y1 y2 y3 y4 y5 y6 y7 y8 y9 y10 y11 y12 y13
      unfold spec_SoundOf.l1
      repeat' first
      | (with_reducible exact ih0 _ _ _ _ _ _ _ _ _)
      | (with_reducible exact ih1 _ _ _ _ _ _ _ _ _ _ _ _ _ _)
      | (with_reducible exact ih2 _ _ _ _ _ _ _ _ _ _ _ _)
      | (with_reducible exact ih3 _ _ _ _ _ _ _ _ _ _ _ _ _)
      | (with_reducible exact spec_GoodTones.mono _ _ _ _ _ _)
      | (with_reducible exact spec_l11Unlap.mono _ _)
      | (with_reducible exact LeO.refl _)
      | (with_reducible exact LeO.none _)
      | (with_reducible refine LeO.ite ?_ ?_)
      | (with_reducible refine LeO.bind ?_ (fun _ => ?_))
      | exact ih0 _ _ _ _ _ _ _ _ _
      | exact ih1 _ _ _ _ _ _ _ _ _ _ _ _ _ _
      | exact ih2 _ _ _ _ _ _ _ _ _ _ _ _
      | exact ih3 _ _ _ _ _ _ _ _ _ _ _ _ _
      | exact spec_GoodTones.mono _ _ _ _ _ _
      | exact spec_l11Unlap.mono _ _
      | exact LeO.none _
      | refine LeO.ite ?_ ?_
      | refine LeO.bind ?_ (fun _ => ?_)
    · intro y0 y1 y2 y3 y4 y5 y6 y7 y8 y9 y10 y11
      unfold spec_SoundOf.l2
      repeat' first
      | (with_reducible exact ih0 _ _ _ _ _ _ _ _ _)
      | (with_reducible exact ih1 _ _ _ _ _ _ _ _ _ _ _ _ _ _)
      | (with_reducible exact ih2 _ _ _ _ _ _ _ _ _ _ _ _)
      | (with_reducible exact ih3 _ _ _ _ _ _ _ _ _ _ _ _ _)
      | (with_reducible exact spec_GoodTones.mono _ _ _ _ _ _)
      | (with_reducible exact spec_l11Unlap.mono _ _)
      | (with_reducible exact LeO.refl _)
      | (with_reducible exact LeO.none _)
      | (with_reducible refine LeO.ite ?_ ?_)
      | (with_reducible refine LeO.bind ?_ (fun _ => ?_))
      | exact ih0 _ _ _ _ _ _ _ _ _
      | exact ih1 _ _ _ _ _ _ _ _ _ _ _ _ _ _
      | exact ih2 _ _ _ _ _ _ _ _ _ _ _ _
      | exact ih3 _ _ _ _ _ _ _ _ _ _ _ _ _
      | exact spec_GoodTones.mono _ _ _ _ _ _
      | exact spec_l11Unlap.mono _ _
      | exact LeO.none _
      | refine LeO.ite ?_ ?_
      | refine LeO.bind ?_ (fun _ => ?_)
    · intro y0 y1 y2 y3 y4 y5 y6 y7 y8 y9 y10 y11 y12
      unfold spec_SoundOf.j3
      repeat' first
      | (with_reducible exact ih0 _ _ _ _ _ _ _ _ _)
      | (with_reducible exact ih1 _ _ _ _ _ _ _ _ _ _ _ _ _ _)
      | (with_reducible exact ih2 _ _ _ _ _ _ _ _ _ _ _ _)
      | (with_reducible exact ih3 _ _ _ _ _ _ _ _ _ _ _ _ _)
      | (with_reducible exact spec_GoodTones.mono _ _ _ _ _ _)
      | (with_reducible exact spec_l11Unlap.mono _ _)
      | (with_reducible exact LeO.refl _)
      | (with_reducible exact LeO.none _)
      | (with_reducible refine LeO.ite ?_ ?_)
      | (with_reducible refine LeO.bind ?_ (fun _ => ?_))
      | exact ih0 _ _ _ _ _ _ _ _ _
      | exact ih1 _ _ _ _ _ _ _ _ _ _ _ _ _ _
      | exact ih2 _ _ _ _ _ _ _ _ _ _ _ _
      | exact ih3 _ _ _ _ _ _ _ _ _ _ _ _ _
      | exact spec_GoodTones.mono _ _ _ _ _ _
      | exact spec_l11Unlap.mono _ _
      | exact LeO.none _
      | refine LeO.ite ?_ ?_
      | refine LeO.bind ?_ (fun _ => ?_)
theorem spec_SoundOf.mono : ∀ a0 a1 a2 a3 a4 k, LeO (spec_SoundOf.f k a0 a1 a2 a3 a4) (spec_SoundOf.f (k + 1) a0 a1 a2 a3 a4) := by
  intro a0 a1 a2 a3 a4 k
  obtain ⟨ih0, ih1, ih2, ih3⟩ := spec_SoundOf.mono_l k
  unfold spec_SoundOf.f
  repeat' first
      | (with_reducible exact ih0 _ _ _ _ _ _ _ _ _)
      | (with_reducible exact ih1 _ _ _ _ _ _ _ _ _ _ _ _ _ _)
      | (with_reducible exact ih2 _ _ _ _ _ _ _ _ _ _ _ _)
      | (with_reducible exact ih3 _ _ _ _ _ _ _ _ _ _ _ _ _)
      | (with_reducible exact spec_GoodTones.mono _ _ _ _ _ _)
      | (with_reducible exact spec_l11Unlap.mono _ _)
      | (with_reducible exact LeO.refl _)
      | (with_reducible exact LeO.none _)
      | (with_reducible refine LeO.ite ?_ ?_)
      | (with_reducible refine LeO.bind ?_ (fun _ => ?_))
      | exact ih0 _ _ _ _ _ _ _ _ _
      | exact ih1 _ _ _ _ _ _ _ _ _ _ _ _ _ _
      | exact ih2 _ _ _ _ _ _ _ _ _ _ _ _
      | exact ih3 _ _ _ _ _ _ _ _ _ _ _ _ _
      | exact spec_GoodTones.mono _ _ _ _ _ _
      | exact spec_l11Unlap.mono _ _
      | exact LeO.none _
      | refine LeO.ite ?_ ?_
      | refine LeO.bind ?_ (fun _ => ?_)
set_option maxHeartbeats 8000000 in
set_option maxRecDepth 100000 in
theorem spec_SoundOf.calls (k : Nat) (a0_0 : Int) (a0_1 : Int) (a0_2 : Int) (A0_3 : Option Addr) (c0_3 : Nat) (l0_3 : List (List Int)) (A0_4 : Option Addr) (c0_4 : Nat) (l0_4 : List (List Int)) (r : List Int) (w : World) (hr0_3 : Kd.C (Kd.slice 3 (Kd.int .i64)) w A0_3 l0_3.length l0_3) (hc0_3 : l0_3.length ≤ c0_3) (hr0_4 : Kd.C (Kd.slice 3 (Kd.int .i64)) w A0_4 l0_4.length l0_4) (hc0_4 : l0_4.length ≤ c0_4) (h : spec_SoundOf.f k a0_0 a0_1 a0_2 l0_3 l0_4 = some r) :
    Calls Tryd.prog 14 #[.agg #[.int .i64 a0_0, .int .i64 a0_1, .int .i64 a0_2, .slice A0_3 l0_3.length c0_3, .slice A0_4 l0_4.length c0_4]] w fun e w' => ∃ v0_ : Value, e = .returned (v0_) ∧ Kd.R (Kd.int .i64) 3 w' w.heap.size (fun _ => True) v0_ r ∧ Below w.heap.size w w' := by
  have hu36 := Tryd.underlying36
  have HR0_3 := Aside0.mk hr0_3
  have HC0_3 := Aside0.mk hc0_3
  clear hr0_3 hc0_3
  have HR0_4 := Aside0.mk hr0_4
  have HC0_4 := Aside0.mk hc0_4
  clear hr0_4 hc0_4
  have HB := Aside0.mk (Below.refl w.heap.size w)
  have H : ((spec_GoodTones.f k a0_0 a0_1 a0_2 l0_3 l0_4).bind fun t146 => (if t146 = true then (spec_SoundOf.l0 k ([] : List Int) ([] : List Int) (l0_3.length : Int) 0 a0_0 a0_1 a0_2 l0_3 l0_4) else (some ([] : List Int)))) = some r := h
  clear h
  replace H := Option.bind_eq_some_iff.mp H
  obtain ⟨t146, A20, H⟩ := H
  replace H : (if t146 = true then (spec_SoundOf.l0 k ([] : List Int) ([] : List Int) (l0_3.length : Int) 0 a0_0 a0_1 a0_2 l0_3 l0_4) else (some ([] : List Int))) = some r := H
  have A2 := Aside0.mk A20
  clear A20
  by_cases c3 : t146 = true
  rotate_left
  · replace c3 := Bool.eq_false_iff.mpr c3
    subst c3
    have H1 : (some ([] : List Int)) = some r := by rw [if_neg (show ¬ (false = true) by decide)] at H; exact H
    clear H
    have H := H1
    clear H1
    obtain rfl := Option.some.inj H
    go_enter Tryd.func14, Tryd.ntmps14
    iterate 3 (try go_wp2_with (first | ((with_reducible refine gate_dst (N := 1) rfl ?_); refine box_event ?hg (N := 1) ?hd (cs := #[.int .i64 a0_0, .int .i64 a0_1, .int .i64 a0_2, .slice A0_3 l0_3.length c0_3, .slice A0_4 l0_4.length c0_4]) (t := 36) ?hr ?_; (case hd => rfl); (case hg => rfl); (case hr => first | (go_simp; done) | (go_simp; rfl)); intro gb145 hg w61 hbox hb; have n0_ := Aside0.mk (below_step (by repeat (first | (with_reducible first | exact HB.out | apply below_alloc | apply pw_below_drewN | apply below_drew1) | exact HB.out)) hb); have n1_ := Aside0.mk (hbox); have n2_ := Aside0.mk ((by rw [hg]; exact (below_size (by repeat (first | (with_reducible first | exact HB.out | apply below_alloc | apply pw_below_drewN | apply below_drew1) | exact HB.out))) : w.heap.size ≤ gb145)); have n3_ := n2_; clear HB; have HB := n0_; have BK145 := n1_; have GW145 := n2_; have GE145 := n3_; clear n0_ n1_ n2_ n3_; clear hb hbox hg; have hcz62_0 : w61.cell? ⟨gb145, 0, none⟩ = some (.int .i64 a0_0) := (blk_cell BK145.out 0).trans rfl; have hcz62_1 : w61.cell? ⟨gb145, 1, none⟩ = some (.int .i64 a0_1) := (blk_cell BK145.out 1).trans rfl; have hcz62_2 : w61.cell? ⟨gb145, 2, none⟩ = some (.int .i64 a0_2) := (blk_cell BK145.out 2).trans rfl; have hcz62_3 : w61.cell? ⟨gb145, 3, none⟩ = some (.slice A0_3 l0_3.length c0_3) := (blk_cell BK145.out 3).trans rfl; have hcz62_4 : w61.cell? ⟨gb145, 4, none⟩ = some (.slice A0_4 l0_4.length c0_4) := (blk_cell BK145.out 4).trans rfl; have hfz62_0 := blk_frozen BK145.out 0; have hfz62_1 := blk_frozen BK145.out 1; have hfz62_2 := blk_frozen BK145.out 2; have hfz62_3 := blk_frozen BK145.out 3; have hfz62_4 := blk_frozen BK145.out 4) | (go_at_call 25; (with_reducible refine (spec_GoodTones.calls k a0_0 a0_1 a0_2 _ _ l0_3 _ _ l0_4 false _ ?side1 ?side2 ?side3 ?side4 A2.out).mono ?_); (case side1 => repeat (first | exact (Kd.C_below HR0_3.out HB.out) | (with_reducible refine Kd.C_alloc ?_ _) | (with_reducible refine Kd.C_drewN ?_ _) | (with_reducible refine Kd.C_drew ?_))); (case side2 => exact HC0_3.out); (case side3 => repeat (first | exact (Kd.C_below HR0_4.out HB.out) | (with_reducible refine Kd.C_alloc ?_ _) | (with_reducible refine Kd.C_drewN ?_ _) | (with_reducible refine Kd.C_drew ?_))); (case side4 => exact HC0_4.out); rintro e w63 ⟨rfl, hb⟩; have n0_ := Aside0.mk (blk_below (g := gb145) (o := .cells #[.int .i64 a0_0, .int .i64 a0_1, .int .i64 a0_2, .slice A0_3 l0_3.length c0_3, .slice A0_4 l0_4.length c0_4] 36 (0, 0)) (by (with_reducible repeat (first | refine blk_drewN ?_ _ | refine blk_drew ?_ | refine blk_alloc ?_ _)); exact BK145.out) hb); have n1_ := Aside0.mk (below_step (by repeat (first | (with_reducible first | exact HB.out | apply below_alloc | apply pw_below_drewN | apply below_drew1 | refine below_set ?_ GE145.out) | exact HB.out)) hb); clear BK145; clear HB; have BK145 := n0_; have HB := n1_; clear n0_ n1_; (try clear hb); (try clear hb2); (try clear hk); (try clear hi))); try go_quiet (first | (go_at_call 25; (with_reducible refine (spec_GoodTones.calls k a0_0 a0_1 a0_2 _ _ l0_3 _ _ l0_4 false _ ?side1 ?side2 ?side3 ?side4 A2.out).mono ?_); (case side1 => repeat (first | exact (Kd.C_below HR0_3.out HB.out) | (with_reducible refine Kd.C_alloc ?_ _) | (with_reducible refine Kd.C_drewN ?_ _) | (with_reducible refine Kd.C_drew ?_))); (case side2 => exact HC0_3.out); (case side3 => repeat (first | exact (Kd.C_below HR0_4.out HB.out) | (with_reducible refine Kd.C_alloc ?_ _) | (with_reducible refine Kd.C_drewN ?_ _) | (with_reducible refine Kd.C_drew ?_))); (case side4 => exact HC0_4.out); rintro e w63 ⟨rfl, hb⟩; have n0_ := Aside0.mk (blk_below (g := gb145) (o := .cells #[.int .i64 a0_0, .int .i64 a0_1, .int .i64 a0_2, .slice A0_3 l0_3.length c0_3, .slice A0_4 l0_4.length c0_4] 36 (0, 0)) (by (with_reducible repeat (first | refine blk_drewN ?_ _ | refine blk_drew ?_ | refine blk_alloc ?_ _)); exact BK145.out) hb); have n1_ := Aside0.mk (below_step (by repeat (first | (with_reducible first | exact HB.out | apply below_alloc | apply pw_below_drewN | apply below_drew1 | refine below_set ?_ GE145.out) | exact HB.out)) hb); clear BK145; clear HB; have BK145 := n0_; have HB := n1_; clear n0_ n1_; (try clear hb); (try clear hb2); (try clear hk); (try clear hi))))
    go_ret
    exact ⟨_, by first | rfl | (simp [errW_none, errW_some] <;> rfl) | (simp [*, errW_none, errW_some] <;> rfl), by first | exact Kd.R_nil _ _ _ _ _ | exact Kd.N_nil _ _ _ _ _ | exact Kd.V_nil _ _ _ _ _ | exact Kd.Q_nil _ _ _ _ _ | exact Kd.S_nil _ _ _ _ _, by repeat (first | (with_reducible first | exact HB.out | apply below_alloc | apply pw_below_drewN | apply below_drew1 | refine below_set ?_ GE145.out) | exact HB.out)⟩
  subst c3
  have H1 : (spec_SoundOf.l0 k ([] : List Int) ([] : List Int) (l0_3.length : Int) 0 a0_0 a0_1 a0_2 l0_3 l0_4) = some r := by rw [if_pos rfl] at H; exact H
  clear H
  have H := H1
  clear H1
  have H' := Aside0.mk H
  clear H
  go_enter Tryd.func14, Tryd.ntmps14
  iterate 3 (try go_wp2_with (first | ((with_reducible refine gate_dst (N := 1) rfl ?_); refine box_event ?hg (N := 1) ?hd (cs := #[.int .i64 a0_0, .int .i64 a0_1, .int .i64 a0_2, .slice A0_3 l0_3.length c0_3, .slice A0_4 l0_4.length c0_4]) (t := 36) ?hr ?_; (case hd => rfl); (case hg => rfl); (case hr => first | (go_simp; done) | (go_simp; rfl)); intro gb145 hg w4 hbox hb; have n0_ := Aside0.mk (below_step (by repeat (first | (with_reducible first | exact HB.out | apply below_alloc | apply pw_below_drewN | apply below_drew1) | exact HB.out)) hb); have n1_ := Aside0.mk (hbox); have n2_ := Aside0.mk ((by rw [hg]; exact (below_size (by repeat (first | (with_reducible first | exact HB.out | apply below_alloc | apply pw_below_drewN | apply below_drew1) | exact HB.out))) : w.heap.size ≤ gb145)); have n3_ := n2_; clear HB; have HB := n0_; have BK145 := n1_; have GW145 := n2_; have GE145 := n3_; clear n0_ n1_ n2_ n3_; clear hb hbox hg; have hcz5_0 : w4.cell? ⟨gb145, 0, none⟩ = some (.int .i64 a0_0) := (blk_cell BK145.out 0).trans rfl; have hcz5_1 : w4.cell? ⟨gb145, 1, none⟩ = some (.int .i64 a0_1) := (blk_cell BK145.out 1).trans rfl; have hcz5_2 : w4.cell? ⟨gb145, 2, none⟩ = some (.int .i64 a0_2) := (blk_cell BK145.out 2).trans rfl; have hcz5_3 : w4.cell? ⟨gb145, 3, none⟩ = some (.slice A0_3 l0_3.length c0_3) := (blk_cell BK145.out 3).trans rfl; have hcz5_4 : w4.cell? ⟨gb145, 4, none⟩ = some (.slice A0_4 l0_4.length c0_4) := (blk_cell BK145.out 4).trans rfl; have hfz5_0 := blk_frozen BK145.out 0; have hfz5_1 := blk_frozen BK145.out 1; have hfz5_2 := blk_frozen BK145.out 2; have hfz5_3 := blk_frozen BK145.out 3; have hfz5_4 := blk_frozen BK145.out 4) | (go_at_call 25; (with_reducible refine (spec_GoodTones.calls k a0_0 a0_1 a0_2 _ _ l0_3 _ _ l0_4 true _ ?side1 ?side2 ?side3 ?side4 A2.out).mono ?_); (case side1 => repeat (first | exact (Kd.C_below HR0_3.out HB.out) | (with_reducible refine Kd.C_alloc ?_ _) | (with_reducible refine Kd.C_drewN ?_ _) | (with_reducible refine Kd.C_drew ?_))); (case side2 => exact HC0_3.out); (case side3 => repeat (first | exact (Kd.C_below HR0_4.out HB.out) | (with_reducible refine Kd.C_alloc ?_ _) | (with_reducible refine Kd.C_drewN ?_ _) | (with_reducible refine Kd.C_drew ?_))); (case side4 => exact HC0_4.out); rintro e w6 ⟨rfl, hb⟩; have n0_ := Aside0.mk (blk_below (g := gb145) (o := .cells #[.int .i64 a0_0, .int .i64 a0_1, .int .i64 a0_2, .slice A0_3 l0_3.length c0_3, .slice A0_4 l0_4.length c0_4] 36 (0, 0)) (by (with_reducible repeat (first | refine blk_drewN ?_ _ | refine blk_drew ?_ | refine blk_alloc ?_ _)); exact BK145.out) hb); have n1_ := Aside0.mk (below_step (by repeat (first | (with_reducible first | exact HB.out | apply below_alloc | apply pw_below_drewN | apply below_drew1 | refine below_set ?_ GE145.out) | exact HB.out)) hb); clear BK145; clear HB; have BK145 := n0_; have HB := n1_; clear n0_ n1_; (try clear hb); (try clear hb2); (try clear hk); (try clear hi); have hcz7_0 : w6.cell? ⟨gb145, 0, none⟩ = some (.int .i64 a0_0) := (blk_cell BK145.out 0).trans rfl; have hcz7_1 : w6.cell? ⟨gb145, 1, none⟩ = some (.int .i64 a0_1) := (blk_cell BK145.out 1).trans rfl; have hcz7_2 : w6.cell? ⟨gb145, 2, none⟩ = some (.int .i64 a0_2) := (blk_cell BK145.out 2).trans rfl; have hcz7_3 : w6.cell? ⟨gb145, 3, none⟩ = some (.slice A0_3 l0_3.length c0_3) := (blk_cell BK145.out 3).trans rfl; have hcz7_4 : w6.cell? ⟨gb145, 4, none⟩ = some (.slice A0_4 l0_4.length c0_4) := (blk_cell BK145.out 4).trans rfl; have hfz7_0 := blk_frozen BK145.out 0; have hfz7_1 := blk_frozen BK145.out 1; have hfz7_2 := blk_frozen BK145.out 2; have hfz7_3 := blk_frozen BK145.out 3; have hfz7_4 := blk_frozen BK145.out 4)); try go_quiet (first | (go_at_call 25; (with_reducible refine (spec_GoodTones.calls k a0_0 a0_1 a0_2 _ _ l0_3 _ _ l0_4 true _ ?side1 ?side2 ?side3 ?side4 A2.out).mono ?_); (case side1 => repeat (first | exact (Kd.C_below HR0_3.out HB.out) | (with_reducible refine Kd.C_alloc ?_ _) | (with_reducible refine Kd.C_drewN ?_ _) | (with_reducible refine Kd.C_drew ?_))); (case side2 => exact HC0_3.out); (case side3 => repeat (first | exact (Kd.C_below HR0_4.out HB.out) | (with_reducible refine Kd.C_alloc ?_ _) | (with_reducible refine Kd.C_drewN ?_ _) | (with_reducible refine Kd.C_drew ?_))); (case side4 => exact HC0_4.out); rintro e w6 ⟨rfl, hb⟩; have n0_ := Aside0.mk (blk_below (g := gb145) (o := .cells #[.int .i64 a0_0, .int .i64 a0_1, .int .i64 a0_2, .slice A0_3 l0_3.length c0_3, .slice A0_4 l0_4.length c0_4] 36 (0, 0)) (by (with_reducible repeat (first | refine blk_drewN ?_ _ | refine blk_drew ?_ | refine blk_alloc ?_ _)); exact BK145.out) hb); have n1_ := Aside0.mk (below_step (by repeat (first | (with_reducible first | exact HB.out | apply below_alloc | apply pw_below_drewN | apply below_drew1 | refine below_set ?_ GE145.out) | exact HB.out)) hb); clear BK145; clear HB; have BK145 := n0_; have HB := n1_; clear n0_ n1_; (try clear hb); (try clear hb2); (try clear hk); (try clear hi); have hcz7_0 : w6.cell? ⟨gb145, 0, none⟩ = some (.int .i64 a0_0) := (blk_cell BK145.out 0).trans rfl; have hcz7_1 : w6.cell? ⟨gb145, 1, none⟩ = some (.int .i64 a0_1) := (blk_cell BK145.out 1).trans rfl; have hcz7_2 : w6.cell? ⟨gb145, 2, none⟩ = some (.int .i64 a0_2) := (blk_cell BK145.out 2).trans rfl; have hcz7_3 : w6.cell? ⟨gb145, 3, none⟩ = some (.slice A0_3 l0_3.length c0_3) := (blk_cell BK145.out 3).trans rfl; have hcz7_4 : w6.cell? ⟨gb145, 4, none⟩ = some (.slice A0_4 l0_4.length c0_4) := (blk_cell BK145.out 4).trans rfl; have hfz7_0 := blk_frozen BK145.out 0; have hfz7_1 := blk_frozen BK145.out 1; have hfz7_2 := blk_frozen BK145.out 2; have hfz7_3 := blk_frozen BK145.out 3; have hfz7_4 := blk_frozen BK145.out 4)))
  go_loopg [3, 4, 18] k (fun kq v3 v4 v18 w' => ∃ (x3_1 : List Int) (x4_1 : List Int) (x18_1 : Int), v18 = .int .i64 x18_1 ∧ Aside0 (spec_SoundOf.l0 kq x3_1 x4_1 (l0_3.length : Int) x18_1 a0_0 a0_1 a0_2 l0_3 l0_4 = some r) ∧ Aside0 (kq ≤ k) ∧ Aside0 (Kd.R (Kd.int .i64) 3 w' w.heap.size (fun k_ => some k_ ≠ (v4 : Value).ownBlock) v3 x3_1) ∧ Aside0 (Kd.R (Kd.int .i64) 3 w' w.heap.size (fun k_ => some k_ ≠ (v3 : Value).ownBlock) v4 x4_1) ∧ Aside0 (w'.heap[gb145]? = some (.cells #[.int .i64 a0_0, .int .i64 a0_1, .int .i64 a0_2, (.slice A0_3 l0_3.length c0_3), (.slice A0_4 l0_4.length c0_4)] 36 (0, 0))) ∧ Aside0 (Below w.heap.size w w'))
  case atStart => exact ⟨(([] : List Int)), (([] : List Int)), (0), (by first | rfl | (simp; done) | (simp [*]; done)), H', ⟨Nat.le_refl _⟩, ⟨by first | exact Kd.R_nil _ _ _ _ _ | exact Kd.N_nil _ _ _ _ _ | exact Kd.V_nil _ _ _ _ _ | exact Kd.Q_nil _ _ _ _ _ | exact Kd.S_nil _ _ _ _ _⟩, ⟨by first | exact Kd.R_nil _ _ _ _ _ | exact Kd.N_nil _ _ _ _ _ | exact Kd.V_nil _ _ _ _ _ | exact Kd.Q_nil _ _ _ _ _ | exact Kd.S_nil _ _ _ _ _⟩, ⟨by (with_reducible repeat (first | refine blk_drewN ?_ _ | refine blk_drew ?_ | refine blk_alloc ?_ _)); exact BK145.out⟩, ⟨by repeat (first | (with_reducible first | exact HB.out | apply below_alloc | apply pw_below_drewN | apply below_drew1 | refine below_set ?_ GE145.out) | exact HB.out)⟩⟩
  case round =>
    clear H'
    try clear c1
    try clear p2
    try clear c3
    try clear hcz5_0
    try clear hcz5_1
    try clear hcz5_2
    try clear hcz5_3
    try clear hcz5_4
    try clear hcz7_0
    try clear hcz7_1
    try clear hcz7_2
    try clear hcz7_3
    try clear hcz7_4
    try clear hfz5_0
    try clear hfz5_1
    try clear hfz5_2
    try clear hfz5_3
    try clear hfz5_4
    try clear hfz7_0
    try clear hfz7_1
    try clear hfz7_2
    try clear hfz7_3
    try clear hfz7_4
    obtain ⟨x3_1, x4_1, x18_1, rfl, HA, HK1, HO_3, HO_4, BK145, HB⟩ := hrel
    cases gk with
    | zero => exact absurd HA.out (by simp [spec_SoundOf.l0])
    | succ k1 =>
      have H := HA.out
      clear HA
      simp only [spec_SoundOf.l0] at H
      by_cases c8 : x18_1 < (l0_3.length : Int)
      rotate_left
      · rw [if_neg c8] at H
        have c8b0 : decide (x18_1 < (l0_3.length : Int)) = false := decide_eq_false c8
        clear c8
        by_cases c56 : 0 ≤ a0_2
        rotate_left
        · rw [if_neg c56] at H
          exact absurd H (by simp)
        rw [if_pos c56] at H
        have c56b0 := eq_true c56
        have c56b1 : decide (0 ≤ a0_2) = true := decide_eq_true c56
        clear c56
        by_cases c57 : a0_2 ≤ (x3_1.length : Int)
        rotate_left
        · rw [if_neg c57] at H
          exact absurd H (by simp)
        rw [if_pos c57] at H
        have c57b0 := eq_true c57
        have c57b1 : decide (a0_2 ≤ (x3_1.length : Int)) = true := decide_eq_true c57
        clear c57
        obtain ⟨y147, hy147⟩ : ∃ y_ : List Int, y_ = (x3_1.take (a0_2 : Int).toNat) := ⟨_, rfl⟩
        replace H : (some y147) = some r := by first | (rw [hy147]; with_reducible exact H) | (have H2_ := (Option.bind_some _ _).symm.trans H; rw [hy147]; with_reducible exact H2_) | (have H2_ := (Option.bind_some _ _).symm.trans H; with_reducible exact H2_) | with_reducible exact H | (rw [hy147]; exact H) | exact H
        have Ny147 := Aside0.mk hy147
        clear hy147
        obtain rfl := Option.some.inj H
        have hcz58_0 : wr.cell? ⟨gb145, 0, none⟩ = some (.int .i64 a0_0) := (blk_cell BK145.out 0).trans rfl
        have hcz58_1 : wr.cell? ⟨gb145, 1, none⟩ = some (.int .i64 a0_1) := (blk_cell BK145.out 1).trans rfl
        have hcz58_2 : wr.cell? ⟨gb145, 2, none⟩ = some (.int .i64 a0_2) := (blk_cell BK145.out 2).trans rfl
        have hcz58_3 : wr.cell? ⟨gb145, 3, none⟩ = some (.slice A0_3 l0_3.length c0_3) := (blk_cell BK145.out 3).trans rfl
        have hcz58_4 : wr.cell? ⟨gb145, 4, none⟩ = some (.slice A0_4 l0_4.length c0_4) := (blk_cell BK145.out 4).trans rfl
        have hfz58_0 := blk_frozen BK145.out 0
        have hfz58_1 := blk_frozen BK145.out 1
        have hfz58_2 := blk_frozen BK145.out 2
        have hfz58_3 := blk_frozen BK145.out 3
        have hfz58_4 := blk_frozen BK145.out 4
        obtain ⟨Ao59, co59, eo59⟩ := Kd.R_slice HO_3.out
        subst eo59
        have q60 : (a0_2 : Int) ≤ ((x3_1.length : Int) : Int) := of_decide_eq_true (by first | (with_reducible assumption) | assumption)
        obtain ⟨i060, hi060, _, hsz60, _⟩ := info_parts info3
        have hcut60 := cut_to (P := Tryd.prog) 22 3 .i64 Tryd.underlying22 hi060 Ao59 x3_1.length co59 a0_2 (of_decide_eq_true (by first | (with_reducible assumption) | assumption)) q60 (Kd.R_reads' HO_3.out).2.1
        have hr60 := Kd.R_take (m := (a0_2 : Int).toNat) HO_3.out (by omega)
        have hy60 : y147.length = (a0_2 : Int).toNat := (by rw [Ny147.out, List.length_take]; omega)
        rw [← Ny147.out] at hr60
        rw [← hy60] at hr60 hcut60
        clear hy60 hi060 hsz60 HO_3
        have HO149 := Aside0.mk hr60
        clear hr60
        replace q60 := eq_true q60
        go_wp2
        repeat (go_quiet (fail); try go_wp2)
        go_ret
        exact ⟨_, by first | rfl | (simp [errW_none, errW_some] <;> rfl) | (simp [*, errW_none, errW_some] <;> rfl), by (with_reducible repeat (first | apply Kd.R_alloc | apply Kd.R_drewN | apply Kd.R_drew)); exact Kd.R_mono HO149.out (fun _ hk => trivial), by repeat (first | (with_reducible first | exact HB.out | apply below_alloc | apply pw_below_drewN | apply below_drew1 | refine below_set ?_ GE145.out) | exact HB.out)⟩
      rw [if_pos c8] at H
      have c8b0 : decide (x18_1 < (l0_3.length : Int)) = true := decide_eq_true c8
      clear c8
      by_cases c9 : 16 ≤ 35184372088832
      rotate_left
      · rw [if_neg c9] at H
        exact absurd H (by simp)
      rw [if_pos c9] at H
      have c9b0 := eq_true c9
      have c9b1 : decide (16 ≤ 35184372088832) = true := decide_eq_true c9
      clear c9
      obtain ⟨y150, hy150⟩ : ∃ y_ : List Int, y_ = (List.replicate 16 0) := ⟨_, rfl⟩
      replace H : (if 0 ≤ x18_1 then (if x18_1 < (l0_3.length : Int) then (spec_SoundOf.l1 k1 x3_1 x4_1 x18_1 y150 (l0_3.length : Int) x18_1 (rd_L1 l0_3 x18_1) ((rd_L1 l0_3 x18_1).length : Int) 0 a0_0 a0_1 a0_2 l0_3 l0_4) else (none)) else (none)) = some r := by first | (rw [hy150]; with_reducible exact H) | (have H2_ := (Option.bind_some _ _).symm.trans H; rw [hy150]; with_reducible exact H2_) | (have H2_ := (Option.bind_some _ _).symm.trans H; with_reducible exact H2_) | with_reducible exact H | (rw [hy150]; exact H) | exact H
      have Ny150 := Aside0.mk hy150
      clear hy150
      by_cases c10 : 0 ≤ x18_1
      rotate_left
      · rw [if_neg c10] at H
        exact absurd H (by simp)
      rw [if_pos c10] at H
      have c10b0 : decide (0 ≤ x18_1) = true := decide_eq_true c10
      clear c10
      by_cases c11 : x18_1 < (l0_3.length : Int)
      rotate_left
      · rw [if_neg c11] at H
        exact absurd H (by simp)
      rw [if_pos c11] at H
      have c11b0 : decide (x18_1 < (l0_3.length : Int)) = true := decide_eq_true c11
      clear c11
      have H' := Aside0.mk H
      clear H
      iterate 3 (try go_wp2_with (first | ((with_reducible refine gate_dst (N := 21) rfl ?_); refine Kd.R_make (Kd.int .i64) _ 3 rfl (N := 21) rfl 22 _ _ rfl 16 rfl rfl Tryd.underlying22 (.int .i64 0) 8 info3 rfl (by decide) (by omega) 0 (ok := fun _ => True) (okp := fun _ => True) rfl (fun _ hk => hk) trivial (by omega) (by omega) (Below.refl _ _) (Nat.le_refl _) ?_; intro v151 w12 ho13 hb hg_ hnew_; clear hg_ hnew_; (first | rw [← Ny150.out] at ho13 | (simp only [Int.reduceToNat] at ho13; rw [← Ny150.out] at ho13)); have n0_ := Aside0.mk (Kd.R_elder' (by (with_reducible repeat (first | apply Kd.R_alloc | apply Kd.R_drewN | apply Kd.R_drew)); exact HO_3.out) (Kd.R_base ho13) hb); have n1_ := Aside0.mk (Kd.R_elder' (by (with_reducible repeat (first | apply Kd.R_alloc | apply Kd.R_drewN | apply Kd.R_drew)); exact HO_4.out) (Kd.R_base ho13) hb); have n2_ := Aside0.mk (Kd.R_lower (Kd.R_new' (Kd.R_new' ho13 (Kd.R_lt (by (with_reducible repeat (first | apply Kd.R_alloc | apply Kd.R_drewN | apply Kd.R_drew)); exact HO_3.out))) (Kd.R_lt (by (with_reducible repeat (first | apply Kd.R_alloc | apply Kd.R_drewN | apply Kd.R_drew)); exact HO_4.out))) (below_size (by repeat (first | (with_reducible first | exact HB.out | apply below_alloc | apply pw_below_drewN | apply below_drew1 | refine below_set ?_ GE145.out) | exact HB.out)))); have n3_ := Aside0.mk (blk_below (g := gb145) (o := .cells #[.int .i64 a0_0, .int .i64 a0_1, .int .i64 a0_2, .slice A0_3 l0_3.length c0_3, .slice A0_4 l0_4.length c0_4] 36 (0, 0)) (by (with_reducible repeat (first | refine blk_drewN ?_ _ | refine blk_drew ?_ | refine blk_alloc ?_ _)); exact BK145.out) hb); have n4_ := Aside0.mk (below_step (by repeat (first | (with_reducible first | exact HB.out | apply below_alloc | apply pw_below_drewN | apply below_drew1 | refine below_set ?_ GE145.out) | exact HB.out)) hb); clear HO_3; clear HO_4; clear BK145; clear HB; have HO_3 := n0_; have HO_4 := n1_; have HO152 := n2_; have BK145 := n3_; have HB := n4_; clear n0_ n1_ n2_ n3_ n4_; clear hb ho13; have hcz14_0 : w12.cell? ⟨gb145, 0, none⟩ = some (.int .i64 a0_0) := (blk_cell BK145.out 0).trans rfl; have hcz14_1 : w12.cell? ⟨gb145, 1, none⟩ = some (.int .i64 a0_1) := (blk_cell BK145.out 1).trans rfl; have hcz14_2 : w12.cell? ⟨gb145, 2, none⟩ = some (.int .i64 a0_2) := (blk_cell BK145.out 2).trans rfl; have hcz14_3 : w12.cell? ⟨gb145, 3, none⟩ = some (.slice A0_3 l0_3.length c0_3) := (blk_cell BK145.out 3).trans rfl; have hcz14_4 : w12.cell? ⟨gb145, 4, none⟩ = some (.slice A0_4 l0_4.length c0_4) := (blk_cell BK145.out 4).trans rfl; have hfz14_0 := blk_frozen BK145.out 0; have hfz14_1 := blk_frozen BK145.out 1; have hfz14_2 := blk_frozen BK145.out 2; have hfz14_3 := blk_frozen BK145.out 3; have hfz14_4 := blk_frozen BK145.out 4; have p153 : 0 ≤ (x18_1 : Int) := of_decide_eq_true (by first | (with_reducible assumption) | assumption); have q153 : x18_1 < (l0_3.length : Int) := of_decide_eq_true (by first | (with_reducible assumption) | assumption); obtain ⟨ad153, A153_0, c153_0, e153, hx153_0, hl153_0, hi153_0⟩ := at_L1 HR0_3.out x18_1 p153 q153; cases e153; replace hx153_0 := (HB.out.cell (World.block_lt_of_cell? w _ hx153_0)).trans hx153_0; have HR153_0 := Aside0.mk hi153_0; have HC153_0 := Aside0.mk hl153_0; clear hi153_0 hl153_0; replace p153 := eq_true p153; replace q153 := eq_true q153)); try go_quiet (first | ((with_reducible refine gate_dst (N := 21) rfl ?_); refine Kd.R_make (Kd.int .i64) _ 3 rfl (N := 21) rfl 22 _ _ rfl 16 rfl rfl Tryd.underlying22 (.int .i64 0) 8 info3 rfl (by decide) (by omega) 0 (ok := fun _ => True) (okp := fun _ => True) rfl (fun _ hk => hk) trivial (by omega) (by omega) (Below.refl _ _) (Nat.le_refl _) ?_; intro v151 w12 ho13 hb hg_ hnew_; clear hg_ hnew_; (first | rw [← Ny150.out] at ho13 | (simp only [Int.reduceToNat] at ho13; rw [← Ny150.out] at ho13)); have n0_ := Aside0.mk (Kd.R_elder' (by (with_reducible repeat (first | apply Kd.R_alloc | apply Kd.R_drewN | apply Kd.R_drew)); exact HO_3.out) (Kd.R_base ho13) hb); have n1_ := Aside0.mk (Kd.R_elder' (by (with_reducible repeat (first | apply Kd.R_alloc | apply Kd.R_drewN | apply Kd.R_drew)); exact HO_4.out) (Kd.R_base ho13) hb); have n2_ := Aside0.mk (Kd.R_lower (Kd.R_new' (Kd.R_new' ho13 (Kd.R_lt (by (with_reducible repeat (first | apply Kd.R_alloc | apply Kd.R_drewN | apply Kd.R_drew)); exact HO_3.out))) (Kd.R_lt (by (with_reducible repeat (first | apply Kd.R_alloc | apply Kd.R_drewN | apply Kd.R_drew)); exact HO_4.out))) (below_size (by repeat (first | (with_reducible first | exact HB.out | apply below_alloc | apply pw_below_drewN | apply below_drew1 | refine below_set ?_ GE145.out) | exact HB.out)))); have n3_ := Aside0.mk (blk_below (g := gb145) (o := .cells #[.int .i64 a0_0, .int .i64 a0_1, .int .i64 a0_2, .slice A0_3 l0_3.length c0_3, .slice A0_4 l0_4.length c0_4] 36 (0, 0)) (by (with_reducible repeat (first | refine blk_drewN ?_ _ | refine blk_drew ?_ | refine blk_alloc ?_ _)); exact BK145.out) hb); have n4_ := Aside0.mk (below_step (by repeat (first | (with_reducible first | exact HB.out | apply below_alloc | apply pw_below_drewN | apply below_drew1 | refine below_set ?_ GE145.out) | exact HB.out)) hb); clear HO_3; clear HO_4; clear BK145; clear HB; have HO_3 := n0_; have HO_4 := n1_; have HO152 := n2_; have BK145 := n3_; have HB := n4_; clear n0_ n1_ n2_ n3_ n4_; clear hb ho13; have hcz14_0 : w12.cell? ⟨gb145, 0, none⟩ = some (.int .i64 a0_0) := (blk_cell BK145.out 0).trans rfl; have hcz14_1 : w12.cell? ⟨gb145, 1, none⟩ = some (.int .i64 a0_1) := (blk_cell BK145.out 1).trans rfl; have hcz14_2 : w12.cell? ⟨gb145, 2, none⟩ = some (.int .i64 a0_2) := (blk_cell BK145.out 2).trans rfl; have hcz14_3 : w12.cell? ⟨gb145, 3, none⟩ = some (.slice A0_3 l0_3.length c0_3) := (blk_cell BK145.out 3).trans rfl; have hcz14_4 : w12.cell? ⟨gb145, 4, none⟩ = some (.slice A0_4 l0_4.length c0_4) := (blk_cell BK145.out 4).trans rfl; have hfz14_0 := blk_frozen BK145.out 0; have hfz14_1 := blk_frozen BK145.out 1; have hfz14_2 := blk_frozen BK145.out 2; have hfz14_3 := blk_frozen BK145.out 3; have hfz14_4 := blk_frozen BK145.out 4; have p153 : 0 ≤ (x18_1 : Int) := of_decide_eq_true (by first | (with_reducible assumption) | assumption); have q153 : x18_1 < (l0_3.length : Int) := of_decide_eq_true (by first | (with_reducible assumption) | assumption); obtain ⟨ad153, A153_0, c153_0, e153, hx153_0, hl153_0, hi153_0⟩ := at_L1 HR0_3.out x18_1 p153 q153; cases e153; replace hx153_0 := (HB.out.cell (World.block_lt_of_cell? w _ hx153_0)).trans hx153_0; have HR153_0 := Aside0.mk hi153_0; have HC153_0 := Aside0.mk hl153_0; clear hi153_0 hl153_0; replace p153 := eq_true p153; replace q153 := eq_true q153)))
      go_loopg [28] k1 (fun kq v28 w' => ∃ (x6_2 : List Int) (x28_2 : Int), v28 = .int .i64 x28_2 ∧ Aside0 (spec_SoundOf.l1 kq x3_1 x4_1 x18_1 x6_2 (l0_3.length : Int) x18_1 (rd_L1 l0_3 x18_1) ((rd_L1 l0_3 x18_1).length : Int) x28_2 a0_0 a0_1 a0_2 l0_3 l0_4 = some r) ∧ Aside0 (kq ≤ k1) ∧ Aside0 (Kd.R (Kd.int .i64) 3 w' w.heap.size (fun k_ => some k_ ≠ (u4 : Value).ownBlock ∧ some k_ ≠ (v151 : Value).ownBlock) u3 x3_1) ∧ Aside0 (Kd.R (Kd.int .i64) 3 w' w.heap.size (fun k_ => some k_ ≠ (u3 : Value).ownBlock ∧ some k_ ≠ (v151 : Value).ownBlock) u4 x4_1) ∧ Aside0 (Kd.R (Kd.int .i64) 3 w' w.heap.size (fun k_ => some k_ ≠ (u3 : Value).ownBlock ∧ some k_ ≠ (u4 : Value).ownBlock) v151 x6_2) ∧ Aside0 (w'.heap[gb145]? = some (.cells #[.int .i64 a0_0, .int .i64 a0_1, .int .i64 a0_2, (.slice (some ad153) l0_3.length c0_3), (.slice A0_4 l0_4.length c0_4)] 36 (0, 0))) ∧ Aside0 (Below w.heap.size w w'))
      case atStart => exact ⟨(y150), (0), (by first | rfl | (simp; done) | (simp [*]; done)), H', ⟨Nat.le_refl _⟩, ⟨by (with_reducible repeat (first | apply Kd.R_alloc | apply Kd.R_drewN | apply Kd.R_drew)); exact HO_3.out⟩, ⟨by (with_reducible repeat (first | apply Kd.R_alloc | apply Kd.R_drewN | apply Kd.R_drew)); exact HO_4.out⟩, ⟨by (with_reducible repeat (first | apply Kd.R_alloc | apply Kd.R_drewN | apply Kd.R_drew)); exact Kd.R_mono HO152.out (fun _ hk => ⟨hk.1.2, hk.2⟩)⟩, ⟨by (with_reducible repeat (first | refine blk_drewN ?_ _ | refine blk_drew ?_ | refine blk_alloc ?_ _)); exact BK145.out⟩, ⟨by repeat (first | (with_reducible first | exact HB.out | apply below_alloc | apply pw_below_drewN | apply below_drew1 | refine below_set ?_ GE145.out) | exact HB.out)⟩⟩
      case round =>
        clear H'
        try clear c1
        try clear p1
        try clear q1
        try clear hx1
        try clear p2
        try clear c3
        try clear c8
        try clear c8b0
        try clear c9
        try clear c9b0
        try clear c9b1
        try clear c10
        try clear c10b0
        try clear c11
        try clear c11b0
        try clear c14
        try clear hcz14_0
        try clear hcz14_1
        try clear hcz14_2
        try clear hcz14_3
        try clear hcz14_4
        try clear hcz5_0
        try clear hcz5_1
        try clear hcz5_2
        try clear hcz5_3
        try clear hcz5_4
        try clear hcz7_0
        try clear hcz7_1
        try clear hcz7_2
        try clear hcz7_3
        try clear hcz7_4
        try clear hfz14_0
        try clear hfz14_1
        try clear hfz14_2
        try clear hfz14_3
        try clear hfz14_4
        try clear hfz5_0
        try clear hfz5_1
        try clear hfz5_2
        try clear hfz5_3
        try clear hfz5_4
        try clear hfz7_0
        try clear hfz7_1
        try clear hfz7_2
        try clear hfz7_3
        try clear hfz7_4
        try clear hx153_0
        try clear p153
        try clear p2
        try clear q153
        obtain ⟨x6_2, x28_2, rfl, HA, HK2, HO_3, HO_4, HO_6, BK145, HB⟩ := hrel
        cases gk with
        | zero => exact absurd HA.out (by simp [spec_SoundOf.l1])
        | succ k2 =>
          have H := HA.out
          clear HA
          simp only [spec_SoundOf.l1] at H
          by_cases c15 : x28_2 < ((rd_L1 l0_3 x18_1).length : Int)
          · rw [if_pos c15] at H
            have c15b0 : decide (x28_2 < ((rd_L1 l0_3 x18_1).length : Int)) = true := decide_eq_true c15
            clear c15
            by_cases c16 : 0 ≤ x28_2
            rotate_left
            · rw [if_neg c16] at H
              exact absurd H (by simp)
            rw [if_pos c16] at H
            have c16b0 : decide (0 ≤ x28_2) = true := decide_eq_true c16
            clear c16
            by_cases c17 : x28_2 < ((rd_L1 l0_3 x18_1).length : Int)
            rotate_left
            · rw [if_neg c17] at H
              exact absurd H (by simp)
            rw [if_pos c17] at H
            have c17b0 : decide (x28_2 < ((rd_L1 l0_3 x18_1).length : Int)) = true := decide_eq_true c17
            clear c17
            by_cases c18 : 0 ≤ x18_1
            rotate_left
            · rw [if_neg c18] at H
              exact absurd H (by simp)
            rw [if_pos c18] at H
            have c18b0 : decide (0 ≤ x18_1) = true := decide_eq_true c18
            clear c18
            by_cases c19 : x18_1 < (l0_4.length : Int)
            rotate_left
            · rw [if_neg c19] at H
              exact absurd H (by simp)
            rw [if_pos c19] at H
            have c19b0 : decide (x18_1 < (l0_4.length : Int)) = true := decide_eq_true c19
            clear c19
            obtain ⟨ji20, hji20⟩ : ∃ j_ : Int, (wrap64 (Int.tdiv x28_2 2)) = j_ := ⟨_, rfl⟩
            replace H : (if 0 ≤ (ji20) then (if (ji20) < ((rd_L1 l0_4 x18_1).length : Int) then (if 0 ≤ (IntKind.u64.wrap (rd (rd_L1 l0_4 x18_1) (ji20))) then (if x28_2 < (x6_2.length : Int) then (spec_SoundOf.l1 k2 x3_1 x4_1 x18_1 (x6_2.set (x28_2 : Int).toNat (shl .i64 (rd (rd_L1 l0_3 x18_1) x28_2) (IntKind.u64.wrap (rd (rd_L1 l0_4 x18_1) (ji20))))) (l0_3.length : Int) x18_1 (rd_L1 l0_3 x18_1) ((rd_L1 l0_3 x18_1).length : Int) (wrap64 (x28_2 + 1)) a0_0 a0_1 a0_2 l0_3 l0_4) else (none)) else (none)) else (none)) else (none)) = some r := by first | (rw [hji20] at H; exact H) | (simp only [hji20] at H ⊢; exact H)
            have hji20w : (IntKind.i64.wrap (Int.tdiv x28_2 2)) = ji20 := (i64_w _).trans hji20
            by_cases c21 : 0 ≤ (ji20)
            rotate_left
            · rw [if_neg c21] at H
              exact absurd H (by simp)
            rw [if_pos c21] at H
            have c21b0 : decide (0 ≤ (ji20)) = true := decide_eq_true c21
            clear c21
            by_cases c22 : (ji20) < ((rd_L1 l0_4 x18_1).length : Int)
            rotate_left
            · rw [if_neg c22] at H
              exact absurd H (by simp)
            rw [if_pos c22] at H
            have c22b0 : decide ((ji20) < ((rd_L1 l0_4 x18_1).length : Int)) = true := decide_eq_true c22
            clear c22
            obtain ⟨ji23, hji23⟩ : ∃ j_ : Int, (IntKind.u64.wrap (rd (rd_L1 l0_4 x18_1) (ji20))) = j_ := ⟨_, rfl⟩
            replace H : (if 0 ≤ (ji23) then (if x28_2 < (x6_2.length : Int) then (spec_SoundOf.l1 k2 x3_1 x4_1 x18_1 (x6_2.set (x28_2 : Int).toNat (shl .i64 (rd (rd_L1 l0_3 x18_1) x28_2) (ji23))) (l0_3.length : Int) x18_1 (rd_L1 l0_3 x18_1) ((rd_L1 l0_3 x18_1).length : Int) (wrap64 (x28_2 + 1)) a0_0 a0_1 a0_2 l0_3 l0_4) else (none)) else (none)) = some r := by first | (rw [hji23] at H; exact H) | (simp only [hji23] at H ⊢; exact H)
            by_cases c24 : 0 ≤ (ji23)
            rotate_left
            · rw [if_neg c24] at H
              exact absurd H (by simp)
            rw [if_pos c24] at H
            have c24b0 := eq_true c24
            have c24b1 : decide (0 ≤ (ji23)) = true := decide_eq_true c24
            clear c24
            obtain ⟨ji25, hji25⟩ : ∃ j_ : Int, (shl .i64 (rd (rd_L1 l0_3 x18_1) x28_2) (ji23)) = j_ := ⟨_, rfl⟩
            replace H : (if x28_2 < (x6_2.length : Int) then (spec_SoundOf.l1 k2 x3_1 x4_1 x18_1 (x6_2.set (x28_2 : Int).toNat (ji25)) (l0_3.length : Int) x18_1 (rd_L1 l0_3 x18_1) ((rd_L1 l0_3 x18_1).length : Int) (wrap64 (x28_2 + 1)) a0_0 a0_1 a0_2 l0_3 l0_4) else (none)) = some r := by first | (rw [hji25] at H; exact H) | (simp only [hji25] at H ⊢; exact H)
            have hji25_ : (IntKind.i64.wrap ((rd (rd_L1 l0_3 x18_1) x28_2) * 2 ^ min (ji23).toNat 64)) = ji25 := hji25
            have hji25z : (ji23) ≤ 64 → (IntKind.i64.wrap ((rd (rd_L1 l0_3 x18_1) x28_2) * 2 ^ (ji23).toNat)) = ji25 := shl_small hji25
            have hji25y : (wrap64 ((rd (rd_L1 l0_3 x18_1) x28_2) * 2 ^ min (ji23).toNat 64)) = ji25 := (i64_w _).symm.trans hji25_
            have hji25x : (ji23) ≤ 64 → (wrap64 ((rd (rd_L1 l0_3 x18_1) x28_2) * 2 ^ (ji23).toNat)) = ji25 := fun h_ => (i64_w _).symm.trans (hji25z h_)
            by_cases c26 : x28_2 < (x6_2.length : Int)
            rotate_left
            · rw [if_neg c26] at H
              exact absurd H (by simp)
            rw [if_pos c26] at H
            have c26b0 : decide (x28_2 < (x6_2.length : Int)) = true := decide_eq_true c26
            clear c26
            obtain ⟨y157, hy157⟩ : ∃ y_ : List Int, y_ = (x6_2.set (x28_2 : Int).toNat (ji25)) := ⟨_, rfl⟩
            replace H : (spec_SoundOf.l1 k2 x3_1 x4_1 x18_1 y157 (l0_3.length : Int) x18_1 (rd_L1 l0_3 x18_1) ((rd_L1 l0_3 x18_1).length : Int) (wrap64 (x28_2 + 1)) a0_0 a0_1 a0_2 l0_3 l0_4) = some r := by first | (rw [hy157]; with_reducible exact H) | (have H2_ := (Option.bind_some _ _).symm.trans H; rw [hy157]; with_reducible exact H2_) | (have H2_ := (Option.bind_some _ _).symm.trans H; with_reducible exact H2_) | with_reducible exact H | (rw [hy157]; exact H) | exact H
            have Ny157 := Aside0.mk hy157
            clear hy157
            have H' := Aside0.mk H
            clear H
            have p154 : 0 ≤ (x28_2 : Int) := of_decide_eq_true (by first | (with_reducible assumption) | assumption)
            have q154 : x28_2 < ((rd_L1 l0_3 x18_1).length : Int) := of_decide_eq_true (by first | (with_reducible assumption) | assumption)
            obtain ⟨ad154, e154, hx154_0⟩ := Kd.at_int HR153_0.out x28_2 p154 q154
            cases e154
            replace hx154_0 := (HB.out.cell (World.block_lt_of_cell? w _ hx154_0)).trans hx154_0
            replace p154 := eq_true p154
            replace q154 := eq_true q154
            have hcz28_0 : wr.cell? ⟨gb145, 0, none⟩ = some (.int .i64 a0_0) := (blk_cell BK145.out 0).trans rfl
            have hcz28_1 : wr.cell? ⟨gb145, 1, none⟩ = some (.int .i64 a0_1) := (blk_cell BK145.out 1).trans rfl
            have hcz28_2 : wr.cell? ⟨gb145, 2, none⟩ = some (.int .i64 a0_2) := (blk_cell BK145.out 2).trans rfl
            have hcz28_3 : wr.cell? ⟨gb145, 3, none⟩ = some (.slice (some ad153) l0_3.length c0_3) := (blk_cell BK145.out 3).trans rfl
            have hcz28_4 : wr.cell? ⟨gb145, 4, none⟩ = some (.slice A0_4 l0_4.length c0_4) := (blk_cell BK145.out 4).trans rfl
            have hfz28_0 := blk_frozen BK145.out 0
            have hfz28_1 := blk_frozen BK145.out 1
            have hfz28_2 := blk_frozen BK145.out 2
            have hfz28_3 := blk_frozen BK145.out 3
            have hfz28_4 := blk_frozen BK145.out 4
            have p155 : 0 ≤ (x18_1 : Int) := of_decide_eq_true (by first | (with_reducible assumption) | assumption)
            have q155 : x18_1 < (l0_4.length : Int) := of_decide_eq_true (by first | (with_reducible assumption) | assumption)
            obtain ⟨ad155, A155_0, c155_0, e155, hx155_0, hl155_0, hi155_0⟩ := at_L1 HR0_4.out x18_1 p155 q155
            cases e155
            replace hx155_0 := (HB.out.cell (World.block_lt_of_cell? w _ hx155_0)).trans hx155_0
            have HR155_0 := Aside0.mk hi155_0
            have HC155_0 := Aside0.mk hl155_0
            clear hi155_0 hl155_0
            replace p155 := eq_true p155
            replace q155 := eq_true q155
            have p156 : 0 ≤ ((ji20) : Int) := of_decide_eq_true (by first | (with_reducible assumption) | assumption)
            have q156 : (ji20) < ((rd_L1 l0_4 x18_1).length : Int) := of_decide_eq_true (by first | (with_reducible assumption) | assumption)
            obtain ⟨ad156, e156, hx156_0⟩ := Kd.at_int HR155_0.out (ji20) p156 q156
            cases e156
            replace hx156_0 := (HB.out.cell (World.block_lt_of_cell? w _ hx156_0)).trans hx156_0
            replace p156 := eq_true p156
            replace q156 := eq_true q156
            have p27 : 0 ≤ (x28_2 : Int) := of_decide_eq_true (by first | (with_reducible assumption) | assumption)
            have q27 : (x28_2 : Int) < ((x6_2.length : Int) : Int) := of_decide_eq_true (by first | (with_reducible assumption) | assumption)
            obtain ⟨go27, co27, eo27, gb27, gl27, cl27, HG27⟩ := Kd.R_form HO_6.out (by omega)
            (first | cases eo27 | (injection eo27 with ea_ en_ ec_; (first | subst ea_ | (injection ea_ with ea_; subst ea_)); subst ec_; clear en_))
            have GB27 := Aside0.mk gb27
            have GG27 := Aside0.mk HG27
            clear gb27 gl27 HG27
            obtain ⟨hx27_0, hf27_0⟩ := Kd.R_celln 0 HO_6.out (x28_2 : Int) p27 q27
            replace p27 := eq_true p27
            replace q27 := eq_true q27
            have HP29 := Kd.R_putg HO_6.out (x28_2 : Int) ji25
            iterate 3 (try go_wp2_with (first | ((with_reducible refine gate_store (t := 3) (p := 47) rfl ?_); (try (rw [drewN_self wr]; generalize hq_ : World.drewN wr _ = wr; have n0_ := Aside0.mk (Kd.R_at hq_ HO_3.out); have n1_ := Aside0.mk (Kd.R_at hq_ HO_4.out); have n2_ := Aside0.mk (Kd.R_at hq_ HO_6.out); have n3_ := Aside0.mk (blk_at hq_ BK145.out); have n4_ := Aside0.mk (below_at hq_ HB.out); clear hq_ HO_3 HO_4 HO_6 BK145 HB; have HO_3 := n0_; have HO_4 := n1_; have HO_6 := n2_; have BK145 := n3_; have HB := n4_; clear n0_ n1_ n2_ n3_ n4_; (try (have HP29 := Kd.R_putg HO_6.out (x28_2 : Int) ji25)))); refine store_event (t := 3) (p := 47) (v := ?vo_w30) (w1 := (wr.setCell ⟨go27, (x28_2 : Int).toNat, none⟩ (.int .i64 ji25))) ?hg ?ho ?hn ?hr ?_; (case ho => rfl); (case hg => rfl); (case hn => rfl); (case hr => first | (go_simp; done) | (go_simp; rfl)); intro w30 hw; have hg : wr.grownBy w30 (some go27) := (by rw [hw]; exact HP29.2); have hp_ : Kd.R (Kd.int .i64) 3 w30 w.heap.size (fun k_ => some k_ ≠ (u3 : Value).ownBlock ∧ some k_ ≠ (u4 : Value).ownBlock) (.slice (some ⟨go27, 0, none⟩) x6_2.length co27) y157 := (by rw [hw, Ny157.out]; exact HP29.1); clear HP29; have n0_ := Aside0.mk (Kd.R_after (v := (.slice (some ⟨go27, 0, none⟩) x6_2.length co27)) (v1 := (.slice (some ⟨go27, 0, none⟩) x6_2.length co27)) (ok := (fun k_ => some k_ ≠ (u4 : Value).ownBlock)) (by (with_reducible repeat (first | apply Kd.R_alloc | apply Kd.R_drewN | apply Kd.R_drew)); exact HO_3.out) hg (.inl rfl)); have n1_ := Aside0.mk (Kd.R_after (v := (.slice (some ⟨go27, 0, none⟩) x6_2.length co27)) (v1 := (.slice (some ⟨go27, 0, none⟩) x6_2.length co27)) (ok := (fun k_ => some k_ ≠ (u3 : Value).ownBlock)) (by (with_reducible repeat (first | apply Kd.R_alloc | apply Kd.R_drewN | apply Kd.R_drew)); exact HO_4.out) hg (.inl rfl)); have n2_ := Aside0.mk (hp_); have n3_ := Aside0.mk (blk_grown (g := gb145) (o := .cells #[.int .i64 a0_0, .int .i64 a0_1, .int .i64 a0_2, .slice (some ad153) l0_3.length c0_3, .slice (some ad155) l0_4.length c0_4] 36 (0, 0)) (by (with_reducible repeat (first | refine blk_drewN ?_ _ | refine blk_drew ?_ | refine blk_alloc ?_ _)); exact BK145.out) hg (Kd.R_ne HO_6.out BK145.out (by decide))); have n4_ := Aside0.mk ((by rw [hw]; exact below_set (HB.out) GB27.out : Below w.heap.size w w30)); clear HO_3; clear HO_4; clear HO_6; clear BK145; clear HB; have HO_3 := n0_; have HO_4 := n1_; have HO_6 := n2_; have BK145 := n3_; have HB := n4_; clear n0_ n1_ n2_ n3_ n4_; clear hg hw hp_)); try go_quiet (first | ((with_reducible refine gate_store (t := 3) (p := 47) rfl ?_); (try (rw [drewN_self wr]; generalize hq_ : World.drewN wr _ = wr; have n0_ := Aside0.mk (Kd.R_at hq_ HO_3.out); have n1_ := Aside0.mk (Kd.R_at hq_ HO_4.out); have n2_ := Aside0.mk (Kd.R_at hq_ HO_6.out); have n3_ := Aside0.mk (blk_at hq_ BK145.out); have n4_ := Aside0.mk (below_at hq_ HB.out); clear hq_ HO_3 HO_4 HO_6 BK145 HB; have HO_3 := n0_; have HO_4 := n1_; have HO_6 := n2_; have BK145 := n3_; have HB := n4_; clear n0_ n1_ n2_ n3_ n4_; (try (have HP29 := Kd.R_putg HO_6.out (x28_2 : Int) ji25)))); refine store_event (t := 3) (p := 47) (v := ?vo_w30) (w1 := (wr.setCell ⟨go27, (x28_2 : Int).toNat, none⟩ (.int .i64 ji25))) ?hg ?ho ?hn ?hr ?_; (case ho => rfl); (case hg => rfl); (case hn => rfl); (case hr => first | (go_simp; done) | (go_simp; rfl)); intro w30 hw; have hg : wr.grownBy w30 (some go27) := (by rw [hw]; exact HP29.2); have hp_ : Kd.R (Kd.int .i64) 3 w30 w.heap.size (fun k_ => some k_ ≠ (u3 : Value).ownBlock ∧ some k_ ≠ (u4 : Value).ownBlock) (.slice (some ⟨go27, 0, none⟩) x6_2.length co27) y157 := (by rw [hw, Ny157.out]; exact HP29.1); clear HP29; have n0_ := Aside0.mk (Kd.R_after (v := (.slice (some ⟨go27, 0, none⟩) x6_2.length co27)) (v1 := (.slice (some ⟨go27, 0, none⟩) x6_2.length co27)) (ok := (fun k_ => some k_ ≠ (u4 : Value).ownBlock)) (by (with_reducible repeat (first | apply Kd.R_alloc | apply Kd.R_drewN | apply Kd.R_drew)); exact HO_3.out) hg (.inl rfl)); have n1_ := Aside0.mk (Kd.R_after (v := (.slice (some ⟨go27, 0, none⟩) x6_2.length co27)) (v1 := (.slice (some ⟨go27, 0, none⟩) x6_2.length co27)) (ok := (fun k_ => some k_ ≠ (u3 : Value).ownBlock)) (by (with_reducible repeat (first | apply Kd.R_alloc | apply Kd.R_drewN | apply Kd.R_drew)); exact HO_4.out) hg (.inl rfl)); have n2_ := Aside0.mk (hp_); have n3_ := Aside0.mk (blk_grown (g := gb145) (o := .cells #[.int .i64 a0_0, .int .i64 a0_1, .int .i64 a0_2, .slice (some ad153) l0_3.length c0_3, .slice (some ad155) l0_4.length c0_4] 36 (0, 0)) (by (with_reducible repeat (first | refine blk_drewN ?_ _ | refine blk_drew ?_ | refine blk_alloc ?_ _)); exact BK145.out) hg (Kd.R_ne HO_6.out BK145.out (by decide))); have n4_ := Aside0.mk ((by rw [hw]; exact below_set (HB.out) GB27.out : Below w.heap.size w w30)); clear HO_3; clear HO_4; clear HO_6; clear BK145; clear HB; have HO_3 := n0_; have HO_4 := n1_; have HO_6 := n2_; have BK145 := n3_; have HB := n4_; clear n0_ n1_ n2_ n3_ n4_; clear hg hw hp_)))
            go_roundg k2
            case measure => have := HK1.out; have := HK2.out; omega
            case rel => exact ⟨(y157), (wrap64 (x28_2 + 1)), (by first | rfl | (simp; done) | (simp [*]; done)), H', ⟨by have := HK1.out; have := HK2.out; omega⟩, ⟨by (with_reducible repeat (first | apply Kd.R_alloc | apply Kd.R_drewN | apply Kd.R_drew)); exact HO_3.out⟩, ⟨by (with_reducible repeat (first | apply Kd.R_alloc | apply Kd.R_drewN | apply Kd.R_drew)); exact HO_4.out⟩, ⟨by (with_reducible repeat (first | apply Kd.R_alloc | apply Kd.R_drewN | apply Kd.R_drew)); exact HO_6.out⟩, ⟨by (with_reducible repeat (first | refine blk_drewN ?_ _ | refine blk_drew ?_ | refine blk_alloc ?_ _)); exact BK145.out⟩, ⟨by repeat (first | (with_reducible first | exact HB.out | apply below_alloc | apply pw_below_drewN | apply below_drew1 | refine below_set ?_ GE145.out) | exact HB.out)⟩⟩
          rw [if_neg c15] at H
          have c15b0 : decide (x28_2 < ((rd_L1 l0_3 x18_1).length : Int)) = false := decide_eq_false c15
          clear c15
          replace H := Option.bind_eq_some_iff.mp H
          obtain ⟨t158, A310, H⟩ := H
          replace H : (spec_SoundOf.l2 k2 x3_1 x4_1 x18_1 t158 0 (l0_3.length : Int) x18_1 a0_0 a0_1 a0_2 l0_3 l0_4) = some r := H
          have A31 := Aside0.mk A310
          clear A310
          have H' := Aside0.mk H
          clear H
          obtain ⟨Ao32, co32, eo32⟩ := Kd.R_slice HO_6.out
          subst eo32
          iterate 3 (try go_wp2_with (first | (go_at_call 26; (with_reducible refine (spec_l11Unlap.calls k2 _ _ x6_2 t158 _ ?side1 ?side2 A31.out).mono ?_); (case side1 => repeat (first | exact (Kd.R_reads' HO_6.out).2.2 | (with_reducible refine Kd.C_alloc ?_ _) | (with_reducible refine Kd.C_drewN ?_ _) | (with_reducible refine Kd.C_drew ?_))); (case side2 => exact (Kd.R_reads' HO_6.out).2.1); rintro e w33 ⟨v159, rfl, ho0, hb⟩; have n0_ := Aside0.mk (Kd.R_elder' (by (with_reducible repeat (first | apply Kd.R_alloc | apply Kd.R_drewN | apply Kd.R_drew)); exact HO_3.out) (Kd.R_base ho0) hb); have n1_ := Aside0.mk (Kd.R_elder' (by (with_reducible repeat (first | apply Kd.R_alloc | apply Kd.R_drewN | apply Kd.R_drew)); exact HO_4.out) (Kd.R_base ho0) hb); have n2_ := Aside0.mk (Kd.R_elder' (by (with_reducible repeat (first | apply Kd.R_alloc | apply Kd.R_drewN | apply Kd.R_drew)); exact HO_6.out) (Kd.R_base ho0) hb); have n3_ := Aside0.mk (Kd.R_lower (Kd.R_new' (Kd.R_new' (Kd.R_new' ho0 (Kd.R_lt (by (with_reducible repeat (first | apply Kd.R_alloc | apply Kd.R_drewN | apply Kd.R_drew)); exact HO_3.out))) (Kd.R_lt (by (with_reducible repeat (first | apply Kd.R_alloc | apply Kd.R_drewN | apply Kd.R_drew)); exact HO_4.out))) (Kd.R_lt (by (with_reducible repeat (first | apply Kd.R_alloc | apply Kd.R_drewN | apply Kd.R_drew)); exact HO_6.out))) (below_size (by repeat (first | (with_reducible first | exact HB.out | apply below_alloc | apply pw_below_drewN | apply below_drew1 | refine below_set ?_ GE145.out) | exact HB.out)))); have n4_ := Aside0.mk (blk_below (g := gb145) (o := .cells #[.int .i64 a0_0, .int .i64 a0_1, .int .i64 a0_2, .slice (some ad153) l0_3.length c0_3, .slice A0_4 l0_4.length c0_4] 36 (0, 0)) (by (with_reducible repeat (first | refine blk_drewN ?_ _ | refine blk_drew ?_ | refine blk_alloc ?_ _)); exact BK145.out) hb); have n5_ := Aside0.mk (below_step (by repeat (first | (with_reducible first | exact HB.out | apply below_alloc | apply pw_below_drewN | apply below_drew1 | refine below_set ?_ GE145.out) | exact HB.out)) hb); clear HO_3; clear HO_4; clear HO_6; clear BK145; clear HB; have HO_3 := n0_; have HO_4 := n1_; have HO_6 := n2_; have HO160 := n3_; have BK145 := n4_; have HB := n5_; clear n0_ n1_ n2_ n3_ n4_ n5_; (try clear hb); (try clear hb2); (try clear hk); (try clear hi); (try clear ho0))); try go_quiet (first | (go_at_call 26; (with_reducible refine (spec_l11Unlap.calls k2 _ _ x6_2 t158 _ ?side1 ?side2 A31.out).mono ?_); (case side1 => repeat (first | exact (Kd.R_reads' HO_6.out).2.2 | (with_reducible refine Kd.C_alloc ?_ _) | (with_reducible refine Kd.C_drewN ?_ _) | (with_reducible refine Kd.C_drew ?_))); (case side2 => exact (Kd.R_reads' HO_6.out).2.1); rintro e w33 ⟨v159, rfl, ho0, hb⟩; have n0_ := Aside0.mk (Kd.R_elder' (by (with_reducible repeat (first | apply Kd.R_alloc | apply Kd.R_drewN | apply Kd.R_drew)); exact HO_3.out) (Kd.R_base ho0) hb); have n1_ := Aside0.mk (Kd.R_elder' (by (with_reducible repeat (first | apply Kd.R_alloc | apply Kd.R_drewN | apply Kd.R_drew)); exact HO_4.out) (Kd.R_base ho0) hb); have n2_ := Aside0.mk (Kd.R_elder' (by (with_reducible repeat (first | apply Kd.R_alloc | apply Kd.R_drewN | apply Kd.R_drew)); exact HO_6.out) (Kd.R_base ho0) hb); have n3_ := Aside0.mk (Kd.R_lower (Kd.R_new' (Kd.R_new' (Kd.R_new' ho0 (Kd.R_lt (by (with_reducible repeat (first | apply Kd.R_alloc | apply Kd.R_drewN | apply Kd.R_drew)); exact HO_3.out))) (Kd.R_lt (by (with_reducible repeat (first | apply Kd.R_alloc | apply Kd.R_drewN | apply Kd.R_drew)); exact HO_4.out))) (Kd.R_lt (by (with_reducible repeat (first | apply Kd.R_alloc | apply Kd.R_drewN | apply Kd.R_drew)); exact HO_6.out))) (below_size (by repeat (first | (with_reducible first | exact HB.out | apply below_alloc | apply pw_below_drewN | apply below_drew1 | refine below_set ?_ GE145.out) | exact HB.out)))); have n4_ := Aside0.mk (blk_below (g := gb145) (o := .cells #[.int .i64 a0_0, .int .i64 a0_1, .int .i64 a0_2, .slice (some ad153) l0_3.length c0_3, .slice A0_4 l0_4.length c0_4] 36 (0, 0)) (by (with_reducible repeat (first | refine blk_drewN ?_ _ | refine blk_drew ?_ | refine blk_alloc ?_ _)); exact BK145.out) hb); have n5_ := Aside0.mk (below_step (by repeat (first | (with_reducible first | exact HB.out | apply below_alloc | apply pw_below_drewN | apply below_drew1 | refine below_set ?_ GE145.out) | exact HB.out)) hb); clear HO_3; clear HO_4; clear HO_6; clear BK145; clear HB; have HO_3 := n0_; have HO_4 := n1_; have HO_6 := n2_; have HO160 := n3_; have BK145 := n4_; have HB := n5_; clear n0_ n1_ n2_ n3_ n4_ n5_; (try clear hb); (try clear hb2); (try clear hk); (try clear hi); (try clear ho0))))
          go_loopg [3, 10] k2 (fun kq v3 v10 w' => ∃ (x3_3 : List Int) (x10_3 : Int), v10 = .int .i64 x10_3 ∧ Aside0 (spec_SoundOf.l2 kq x3_3 x4_1 x18_1 t158 x10_3 (l0_3.length : Int) x18_1 a0_0 a0_1 a0_2 l0_3 l0_4 = some r) ∧ Aside0 (kq ≤ k2) ∧ Aside0 (Kd.R (Kd.int .i64) 3 w' w.heap.size (fun k_ => some k_ ≠ (u4 : Value).ownBlock ∧ some k_ ≠ (v159 : Value).ownBlock) v3 x3_3) ∧ Aside0 (Kd.R (Kd.int .i64) 3 w' w.heap.size (fun k_ => some k_ ≠ (v3 : Value).ownBlock ∧ some k_ ≠ (v159 : Value).ownBlock) u4 x4_1) ∧ Aside0 (Kd.R (Kd.int .i64) 3 w' w.heap.size (fun k_ => some k_ ≠ (v3 : Value).ownBlock ∧ some k_ ≠ (u4 : Value).ownBlock) v159 t158) ∧ Aside0 (w'.heap[gb145]? = some (.cells #[.int .i64 a0_0, .int .i64 a0_1, .int .i64 a0_2, (.slice (some ad153) l0_3.length c0_3), (.slice A0_4 l0_4.length c0_4)] 36 (0, 0))) ∧ Aside0 (Below w.heap.size w w'))
          case atStart => exact ⟨(x3_1), (0), (by first | rfl | (simp; done) | (simp [*]; done)), H', ⟨Nat.le_refl _⟩, ⟨by (with_reducible repeat (first | apply Kd.R_alloc | apply Kd.R_drewN | apply Kd.R_drew)); exact Kd.R_mono HO_3.out (fun _ hk => ⟨hk.1.1, hk.2⟩)⟩, ⟨by (with_reducible repeat (first | apply Kd.R_alloc | apply Kd.R_drewN | apply Kd.R_drew)); exact Kd.R_mono HO_4.out (fun _ hk => ⟨hk.1.1, hk.2⟩)⟩, ⟨by (with_reducible repeat (first | apply Kd.R_alloc | apply Kd.R_drewN | apply Kd.R_drew)); exact Kd.R_mono HO160.out (fun _ hk => ⟨hk.1.1.2, hk.1.2⟩)⟩, ⟨by (with_reducible repeat (first | refine blk_drewN ?_ _ | refine blk_drew ?_ | refine blk_alloc ?_ _)); exact BK145.out⟩, ⟨by repeat (first | (with_reducible first | exact HB.out | apply below_alloc | apply pw_below_drewN | apply below_drew1 | refine below_set ?_ GE145.out) | exact HB.out)⟩⟩
          case round =>
            clear H'
            try clear c1
            try clear p1
            try clear q1
            try clear hx1
            try clear c2
            try clear p2
            try clear q2
            try clear hx2
            try clear hf2
            try clear c3
            try clear p6
            try clear c8
            try clear c8b0
            try clear c9
            try clear c9b0
            try clear c9b1
            try clear c10
            try clear c10b0
            try clear c11
            try clear c11b0
            try clear c14
            try clear c15
            try clear c15b0
            try clear p15
            try clear q15
            try clear hx15
            try clear c16
            try clear c16b0
            try clear c17
            try clear c17b0
            try clear c18
            try clear c18b0
            try clear c19
            try clear c19b0
            try clear c21
            try clear c21b0
            try clear c22
            try clear c22b0
            try clear c24
            try clear c24b0
            try clear c24b1
            try clear c26
            try clear c26b0
            try clear p27
            try clear q27
            try clear hx27
            try clear hf27
            try clear hcz14_0
            try clear hcz14_1
            try clear hcz14_2
            try clear hcz14_3
            try clear hcz14_4
            try clear hcz28_0
            try clear hcz28_1
            try clear hcz28_2
            try clear hcz28_3
            try clear hcz28_4
            try clear hcz5_0
            try clear hcz5_1
            try clear hcz5_2
            try clear hcz5_3
            try clear hcz5_4
            try clear hcz7_0
            try clear hcz7_1
            try clear hcz7_2
            try clear hcz7_3
            try clear hcz7_4
            try clear hfz14_0
            try clear hfz14_1
            try clear hfz14_2
            try clear hfz14_3
            try clear hfz14_4
            try clear hfz28_0
            try clear hfz28_1
            try clear hfz28_2
            try clear hfz28_3
            try clear hfz28_4
            try clear hfz5_0
            try clear hfz5_1
            try clear hfz5_2
            try clear hfz5_3
            try clear hfz5_4
            try clear hfz7_0
            try clear hfz7_1
            try clear hfz7_2
            try clear hfz7_3
            try clear hfz7_4
            try clear hx153_0
            try clear hx154_0
            try clear hx155_0
            try clear hx156_0
            try clear hx27_0
            try clear p1
            try clear p153
            try clear p154
            try clear p155
            try clear p156
            try clear p2
            try clear p27
            try clear q1
            try clear q153
            try clear q154
            try clear q155
            try clear q156
            try clear q27
            obtain ⟨x3_3, x10_3, rfl, HA, HK3, HO_3, HO_4, HO_9, BK145, HB⟩ := hrel
            cases gk with
            | zero => exact absurd HA.out (by simp [spec_SoundOf.l2])
            | succ k3 =>
              have H := HA.out
              clear HA
              simp only [spec_SoundOf.l2] at H
              have HC34 := Aside0.mk H
              clear H
              go_upto_region 16 with (fail)
              repeat (go_quiet (fail); go_upto_region 16 with (fail))
              go_cut [56] (fun v56 wc => ∃ (kq : Nat) (x56_33 : Bool), v56 = .bool x56_33 ∧ Aside0 (spec_SoundOf.j3 kq x3_3 x4_1 x18_1 t158 x10_3 (l0_3.length : Int) x18_1 x56_33 a0_0 a0_1 a0_2 l0_3 l0_4 = some r) ∧ Aside0 (kq ≤ k3) ∧ Aside0 (Kd.R (Kd.int .i64) 3 wc w.heap.size (fun k_ => some k_ ≠ (u4 : Value).ownBlock ∧ some k_ ≠ (v159 : Value).ownBlock) u3 x3_3) ∧ Aside0 (Kd.R (Kd.int .i64) 3 wc w.heap.size (fun k_ => some k_ ≠ (u3 : Value).ownBlock ∧ some k_ ≠ (v159 : Value).ownBlock) u4 x4_1) ∧ Aside0 (Kd.R (Kd.int .i64) 3 wc w.heap.size (fun k_ => some k_ ≠ (u3 : Value).ownBlock ∧ some k_ ≠ (u4 : Value).ownBlock) v159 t158) ∧ Aside0 (wc.heap[gb145]? = some (.cells #[.int .i64 a0_0, .int .i64 a0_1, .int .i64 a0_2, (.slice (some ad153) l0_3.length c0_3), (.slice A0_4 l0_4.length c0_4)] 36 (0, 0))) ∧ Aside0 (Below w.heap.size w wc))
              case first =>
                have H := HC34.out
                clear HC34
                by_cases c35 : x10_3 < 16
                rotate_left
                · rw [if_neg c35] at H
                  have c35b0 : decide (x10_3 < 16) = false := decide_eq_false c35
                  clear c35
                  (first | rw [c35b0] | (simp only [i64_w, i32_w]; rw [c35b0]) | skip)
                  have H' := Aside0.mk H
                  clear H
                  go_wp2
                  repeat (go_quiet (fail); try go_wp2)
                  go_meet
                  case rel => exact ⟨_, (false), (by first | rfl | (simp; done) | (simp [*]; done)), H', ⟨by have := HK1.out; have := HK2.out; have := HK3.out; first | omega | exact Nat.le_refl _⟩, ⟨by (with_reducible repeat (first | apply Kd.R_alloc | apply Kd.R_drewN | apply Kd.R_drew)); exact HO_3.out⟩, ⟨by (with_reducible repeat (first | apply Kd.R_alloc | apply Kd.R_drewN | apply Kd.R_drew)); exact HO_4.out⟩, ⟨by (with_reducible repeat (first | apply Kd.R_alloc | apply Kd.R_drewN | apply Kd.R_drew)); exact HO_9.out⟩, ⟨by (with_reducible repeat (first | refine blk_drewN ?_ _ | refine blk_drew ?_ | refine blk_alloc ?_ _)); exact BK145.out⟩, ⟨by repeat (first | (with_reducible first | exact HB.out | apply below_alloc | apply pw_below_drewN | apply below_drew1 | refine below_set ?_ GE145.out) | exact HB.out)⟩⟩
                rw [if_pos c35] at H
                have c35b0 : decide (x10_3 < 16) = true := decide_eq_true c35
                clear c35
                (first | rw [c35b0] | (simp only [i64_w, i32_w]; rw [c35b0]) | skip)
                have H' := Aside0.mk H
                clear H
                go_wp2
                repeat (go_quiet (fail); try go_wp2)
                go_meet
                case rel => exact ⟨_, (decide (x18_1 > 0)), (by first | rfl | (simp; done) | (simp [*]; done)), H', ⟨by have := HK1.out; have := HK2.out; have := HK3.out; first | omega | exact Nat.le_refl _⟩, ⟨by (with_reducible repeat (first | apply Kd.R_alloc | apply Kd.R_drewN | apply Kd.R_drew)); exact HO_3.out⟩, ⟨by (with_reducible repeat (first | apply Kd.R_alloc | apply Kd.R_drewN | apply Kd.R_drew)); exact HO_4.out⟩, ⟨by (with_reducible repeat (first | apply Kd.R_alloc | apply Kd.R_drewN | apply Kd.R_drew)); exact HO_9.out⟩, ⟨by (with_reducible repeat (first | refine blk_drewN ?_ _ | refine blk_drew ?_ | refine blk_alloc ?_ _)); exact BK145.out⟩, ⟨by repeat (first | (with_reducible first | exact HB.out | apply below_alloc | apply pw_below_drewN | apply below_drew1 | refine below_set ?_ GE145.out) | exact HB.out)⟩⟩
              case rest =>
                clear HC34
                try clear c1
                try clear p1
                try clear q1
                try clear hx1
                try clear c2
                try clear p2
                try clear q2
                try clear hx2
                try clear hf2
                try clear c3
                try clear p6
                try clear c8
                try clear c8b0
                try clear c9
                try clear c9b0
                try clear c9b1
                try clear c10
                try clear c10b0
                try clear c11
                try clear c11b0
                try clear c14
                try clear c15
                try clear c15b0
                try clear p15
                try clear q15
                try clear hx15
                try clear c16
                try clear c16b0
                try clear c17
                try clear c17b0
                try clear c18
                try clear c18b0
                try clear c19
                try clear c19b0
                try clear c21
                try clear c21b0
                try clear c22
                try clear c22b0
                try clear c24
                try clear c24b0
                try clear c24b1
                try clear c26
                try clear c26b0
                try clear p27
                try clear q27
                try clear hx27
                try clear hf27
                try clear c35
                try clear c35b0
                try clear hcz14_0
                try clear hcz14_1
                try clear hcz14_2
                try clear hcz14_3
                try clear hcz14_4
                try clear hcz28_0
                try clear hcz28_1
                try clear hcz28_2
                try clear hcz28_3
                try clear hcz28_4
                try clear hcz5_0
                try clear hcz5_1
                try clear hcz5_2
                try clear hcz5_3
                try clear hcz5_4
                try clear hcz7_0
                try clear hcz7_1
                try clear hcz7_2
                try clear hcz7_3
                try clear hcz7_4
                try clear hfz14_0
                try clear hfz14_1
                try clear hfz14_2
                try clear hfz14_3
                try clear hfz14_4
                try clear hfz28_0
                try clear hfz28_1
                try clear hfz28_2
                try clear hfz28_3
                try clear hfz28_4
                try clear hfz5_0
                try clear hfz5_1
                try clear hfz5_2
                try clear hfz5_3
                try clear hfz5_4
                try clear hfz7_0
                try clear hfz7_1
                try clear hfz7_2
                try clear hfz7_3
                try clear hfz7_4
                try clear hx153_0
                try clear hx154_0
                try clear hx155_0
                try clear hx156_0
                try clear hx27_0
                try clear p1
                try clear p15
                try clear p153
                try clear p154
                try clear p155
                try clear p156
                try clear p2
                try clear p27
                try clear p6
                try clear q1
                try clear q15
                try clear q153
                try clear q154
                try clear q155
                try clear q156
                try clear q2
                try clear q27
                obtain ⟨kq, x56_33, rfl, HA, HJ33, HO_3, HO_4, HO_9, BK145, HB⟩ := hcut
                cases kq with
                | zero => exact absurd HA.out (by simp [spec_SoundOf.j3])
                | succ kj33 =>
                  have H := HA.out
                  clear HA
                  simp only [spec_SoundOf.j3] at H
                  by_cases c36 : x56_33 = true
                  rotate_left
                  · replace c36 := Bool.eq_false_iff.mpr c36
                    subst c36
                    have H1 : (spec_SoundOf.l0 kj33 x3_3 t158 (l0_3.length : Int) (wrap64 (x18_1 + 1)) a0_0 a0_1 a0_2 l0_3 l0_4) = some r := by rw [if_neg (show ¬ (false = true) by decide)] at H; exact H
                    clear H
                    have H := H1
                    clear H1
                    have H' := Aside0.mk H
                    clear H
                    go_wp2
                    repeat (go_quiet (fail); try go_wp2)
                    go_roundg kj33
                    case measure => have := HK1.out; have := HK2.out; have := HK3.out; have := HJ33.out; omega
                    case rel => exact ⟨(x3_3), (t158), (wrap64 (x18_1 + 1)), (by first | rfl | (simp; done) | (simp [*]; done)), H', ⟨by have := HK1.out; have := HK2.out; have := HK3.out; have := HJ33.out; omega⟩, ⟨by (with_reducible repeat (first | apply Kd.R_alloc | apply Kd.R_drewN | apply Kd.R_drew)); exact Kd.R_mono HO_3.out (fun _ hk => hk.2)⟩, ⟨by (with_reducible repeat (first | apply Kd.R_alloc | apply Kd.R_drewN | apply Kd.R_drew)); exact Kd.R_mono HO_9.out (fun _ hk => hk.1)⟩, ⟨by (with_reducible repeat (first | refine blk_drewN ?_ _ | refine blk_drew ?_ | refine blk_alloc ?_ _)); exact BK145.out⟩, ⟨by repeat (first | (with_reducible first | exact HB.out | apply below_alloc | apply pw_below_drewN | apply below_drew1 | refine below_set ?_ GE145.out) | exact HB.out)⟩⟩
                  subst c36
                  have H1 : (if 0 ≤ (wrap64 (16 + x10_3)) then (if (wrap64 (16 + x10_3)) < (x4_1.length : Int) then (if 0 ≤ x10_3 then (if x10_3 < (t158.length : Int) then (if (wrap64 ((rd x4_1 (wrap64 (16 + x10_3))) + (rd t158 x10_3))) < (-32768) then (if x3_3.length < 17592186044416 then (spec_SoundOf.l2 kj33 (x3_3 ++ [(-32768)]) x4_1 x18_1 t158 (wrap64 (x10_3 + 1)) (l0_3.length : Int) x18_1 a0_0 a0_1 a0_2 l0_3 l0_4) else (none)) else (if (wrap64 ((rd x4_1 (wrap64 (16 + x10_3))) + (rd t158 x10_3))) > 32767 then (if x3_3.length < 17592186044416 then (spec_SoundOf.l2 kj33 (x3_3 ++ [32767]) x4_1 x18_1 t158 (wrap64 (x10_3 + 1)) (l0_3.length : Int) x18_1 a0_0 a0_1 a0_2 l0_3 l0_4) else (none)) else (if x3_3.length < 17592186044416 then (spec_SoundOf.l2 kj33 (x3_3 ++ [wrap64 ((rd x4_1 (wrap64 (16 + x10_3))) + (rd t158 x10_3))]) x4_1 x18_1 t158 (wrap64 (x10_3 + 1)) (l0_3.length : Int) x18_1 a0_0 a0_1 a0_2 l0_3 l0_4) else (none)))) else (none)) else (none)) else (none)) else (none)) = some r := by rw [if_pos rfl] at H; exact H
                  clear H
                  have H := H1
                  clear H1
                  obtain ⟨ji37, hji37⟩ : ∃ j_ : Int, (wrap64 (16 + x10_3)) = j_ := ⟨_, rfl⟩
                  replace H : (if 0 ≤ (ji37) then (if (ji37) < (x4_1.length : Int) then (if 0 ≤ x10_3 then (if x10_3 < (t158.length : Int) then (if (wrap64 ((rd x4_1 (ji37)) + (rd t158 x10_3))) < (-32768) then (if x3_3.length < 17592186044416 then (spec_SoundOf.l2 kj33 (x3_3 ++ [(-32768)]) x4_1 x18_1 t158 (wrap64 (x10_3 + 1)) (l0_3.length : Int) x18_1 a0_0 a0_1 a0_2 l0_3 l0_4) else (none)) else (if (wrap64 ((rd x4_1 (ji37)) + (rd t158 x10_3))) > 32767 then (if x3_3.length < 17592186044416 then (spec_SoundOf.l2 kj33 (x3_3 ++ [32767]) x4_1 x18_1 t158 (wrap64 (x10_3 + 1)) (l0_3.length : Int) x18_1 a0_0 a0_1 a0_2 l0_3 l0_4) else (none)) else (if x3_3.length < 17592186044416 then (spec_SoundOf.l2 kj33 (x3_3 ++ [wrap64 ((rd x4_1 (ji37)) + (rd t158 x10_3))]) x4_1 x18_1 t158 (wrap64 (x10_3 + 1)) (l0_3.length : Int) x18_1 a0_0 a0_1 a0_2 l0_3 l0_4) else (none)))) else (none)) else (none)) else (none)) else (none)) = some r := by first | (rw [hji37] at H; exact H) | (simp only [hji37] at H ⊢; exact H)
                  have hji37w : (IntKind.i64.wrap (16 + x10_3)) = ji37 := (i64_w _).trans hji37
                  by_cases c38 : 0 ≤ (ji37)
                  rotate_left
                  · rw [if_neg c38] at H
                    exact absurd H (by simp)
                  rw [if_pos c38] at H
                  have c38b0 : decide (0 ≤ (ji37)) = true := decide_eq_true c38
                  clear c38
                  by_cases c39 : (ji37) < (x4_1.length : Int)
                  rotate_left
                  · rw [if_neg c39] at H
                    exact absurd H (by simp)
                  rw [if_pos c39] at H
                  have c39b0 : decide ((ji37) < (x4_1.length : Int)) = true := decide_eq_true c39
                  clear c39
                  by_cases c40 : 0 ≤ x10_3
                  rotate_left
                  · rw [if_neg c40] at H
                    exact absurd H (by simp)
                  rw [if_pos c40] at H
                  have c40b0 : decide (0 ≤ x10_3) = true := decide_eq_true c40
                  clear c40
                  by_cases c41 : x10_3 < (t158.length : Int)
                  rotate_left
                  · rw [if_neg c41] at H
                    exact absurd H (by simp)
                  rw [if_pos c41] at H
                  have c41b0 : decide (x10_3 < (t158.length : Int)) = true := decide_eq_true c41
                  clear c41
                  by_cases c42 : (wrap64 ((rd x4_1 (ji37)) + (rd t158 x10_3))) < (-32768)
                  · rw [if_pos c42] at H
                    have c42b0 : decide ((wrap64 ((rd x4_1 (ji37)) + (rd t158 x10_3))) < (-32768)) = true := decide_eq_true c42
                    clear c42
                    by_cases c43 : x3_3.length < 17592186044416
                    rotate_left
                    · rw [if_neg c43] at H
                      exact absurd H (by simp)
                    rw [if_pos c43] at H
                    have LMc43 := Aside0.mk c43
                    clear c43
                    obtain ⟨y163, hy163⟩ : ∃ y_ : List Int, y_ = (x3_3 ++ [(-32768)]) := ⟨_, rfl⟩
                    replace H : (spec_SoundOf.l2 kj33 y163 x4_1 x18_1 t158 (wrap64 (x10_3 + 1)) (l0_3.length : Int) x18_1 a0_0 a0_1 a0_2 l0_3 l0_4) = some r := by first | (rw [hy163]; with_reducible exact H) | (have H2_ := (Option.bind_some _ _).symm.trans H; rw [hy163]; with_reducible exact H2_) | (have H2_ := (Option.bind_some _ _).symm.trans H; with_reducible exact H2_) | with_reducible exact H | (rw [hy163]; exact H) | exact H
                    have Ny163 := Aside0.mk hy163
                    clear hy163
                    have H' := Aside0.mk H
                    clear H
                    obtain ⟨Ao44, co44, eo44⟩ := Kd.R_slice HO_4.out
                    subst eo44
                    have p161 : 0 ≤ ((ji37) : Int) := of_decide_eq_true (by first | (with_reducible assumption) | assumption)
                    have q161 : (ji37) < (x4_1.length : Int) := of_decide_eq_true (by first | (with_reducible assumption) | assumption)
                    obtain ⟨ad161, e161, hx161_0⟩ := Kd.at_int (Kd.R_reads' HO_4.out).2.2 (ji37) p161 q161
                    cases e161
                    replace p161 := eq_true p161
                    replace q161 := eq_true q161
                    obtain ⟨Ao45, co45, eo45⟩ := Kd.R_slice HO_9.out
                    subst eo45
                    have p162 : 0 ≤ (x10_3 : Int) := of_decide_eq_true (by first | (with_reducible assumption) | assumption)
                    have q162 : x10_3 < (t158.length : Int) := of_decide_eq_true (by first | (with_reducible assumption) | assumption)
                    obtain ⟨ad162, e162, hx162_0⟩ := Kd.at_int (Kd.R_reads' HO_9.out).2.2 x10_3 p162 q162
                    cases e162
                    replace p162 := eq_true p162
                    replace q162 := eq_true q162
                    iterate 3 (try go_wp2_with (first | ((with_reducible refine gate_builtin (b := .append) (xs := #[.tmp 73, .tmp 75]) rfl ?_); at_builtin; refine Kd.R_append (Kd.int .i64) (w0 := w) w.heap.size rfl (.tmp 73) (.tmp 75) 22 3 (.int .i64 0) 8 rfl Tryd.underlying22 info3 rfl (by decide) (by omega) u3 x3_3 (-32768) [.int .i64 (-32768)] (fun k_ => some k_ ≠ (.slice (some ad161) x4_1.length co44 : Value).ownBlock ∧ some k_ ≠ (.slice (some ad162) t158.length co45 : Value).ownBlock) (fun _ => False) rfl rfl ?aP (fun _ hk => hk.elim) ?aF ?aO ?aB ?aS ?aL ?_; (case aP => exact rfl); (case aB => exact (by repeat (first | (with_reducible first | exact HB.out | apply below_alloc | apply pw_below_drewN | apply below_drew1 | refine below_set ?_ GE145.out) | exact HB.out))); (case aF => exact (fun k_ hk => ⟨Kd.fresh' (Kd.R_lt (by (with_reducible repeat (first | apply Kd.R_alloc | apply Kd.R_drewN | apply Kd.R_drew)); exact HO_4.out)) k_ hk, Kd.fresh' (Kd.R_lt (by (with_reducible repeat (first | apply Kd.R_alloc | apply Kd.R_drewN | apply Kd.R_drew)); exact HO_9.out)) k_ hk⟩)); (case aO => exact (by (with_reducible repeat (first | apply Kd.R_alloc | apply Kd.R_drewN | apply Kd.R_drew)); exact HO_3.out)); (case aS => exact (below_size (by repeat (first | (with_reducible first | exact HB.out | apply below_alloc | apply pw_below_drewN | apply below_drew1 | refine below_set ?_ GE145.out) | exact HB.out)))); (case aL => have := LMc43.out; omega); intro v164 w46 ho hb hg hat; rw [← Ny163.out] at ho; have n0_ := Aside0.mk (Kd.R_after (ok := (fun k_ => some k_ ≠ (.slice (some ad162) t158.length co45 : Value).ownBlock)) (by (with_reducible repeat (first | apply Kd.R_alloc | apply Kd.R_drewN | apply Kd.R_drew)); exact Kd.R_mono HO_4.out (fun _ hk => ⟨hk.2, hk.1⟩)) hg hat); have n1_ := Aside0.mk (Kd.R_after (ok := (fun k_ => some k_ ≠ (.slice (some ad161) x4_1.length co44 : Value).ownBlock)) (by (with_reducible repeat (first | apply Kd.R_alloc | apply Kd.R_drewN | apply Kd.R_drew)); exact Kd.R_mono HO_9.out (fun _ hk => ⟨hk.2, hk.1⟩)) hg hat); have n2_ := Aside0.mk (blk_grown (g := gb145) (o := .cells #[.int .i64 a0_0, .int .i64 a0_1, .int .i64 a0_2, .slice (some ad153) l0_3.length c0_3, .slice A0_4 l0_4.length c0_4] 36 (0, 0)) (by (with_reducible repeat (first | refine blk_drewN ?_ _ | refine blk_drew ?_ | refine blk_alloc ?_ _)); exact BK145.out) hg (Kd.R_ne HO_3.out BK145.out (by decide))); have n3_ := Aside0.mk (hb); have n4_ := Aside0.mk (ho); clear HO_4; clear HO_9; clear BK145; clear HB; clear HO_3; have HO_4 := n0_; have HO_9 := n1_; have BK145 := n2_; have HB := n3_; have HO165 := n4_; clear n0_ n1_ n2_ n3_ n4_; clear ho hb hg hat)); try go_quiet (first | ((with_reducible refine gate_builtin (b := .append) (xs := #[.tmp 73, .tmp 75]) rfl ?_); at_builtin; refine Kd.R_append (Kd.int .i64) (w0 := w) w.heap.size rfl (.tmp 73) (.tmp 75) 22 3 (.int .i64 0) 8 rfl Tryd.underlying22 info3 rfl (by decide) (by omega) u3 x3_3 (-32768) [.int .i64 (-32768)] (fun k_ => some k_ ≠ (.slice (some ad161) x4_1.length co44 : Value).ownBlock ∧ some k_ ≠ (.slice (some ad162) t158.length co45 : Value).ownBlock) (fun _ => False) rfl rfl ?aP (fun _ hk => hk.elim) ?aF ?aO ?aB ?aS ?aL ?_; (case aP => exact rfl); (case aB => exact (by repeat (first | (with_reducible first | exact HB.out | apply below_alloc | apply pw_below_drewN | apply below_drew1 | refine below_set ?_ GE145.out) | exact HB.out))); (case aF => exact (fun k_ hk => ⟨Kd.fresh' (Kd.R_lt (by (with_reducible repeat (first | apply Kd.R_alloc | apply Kd.R_drewN | apply Kd.R_drew)); exact HO_4.out)) k_ hk, Kd.fresh' (Kd.R_lt (by (with_reducible repeat (first | apply Kd.R_alloc | apply Kd.R_drewN | apply Kd.R_drew)); exact HO_9.out)) k_ hk⟩)); (case aO => exact (by (with_reducible repeat (first | apply Kd.R_alloc | apply Kd.R_drewN | apply Kd.R_drew)); exact HO_3.out)); (case aS => exact (below_size (by repeat (first | (with_reducible first | exact HB.out | apply below_alloc | apply pw_below_drewN | apply below_drew1 | refine below_set ?_ GE145.out) | exact HB.out)))); (case aL => have := LMc43.out; omega); intro v164 w46 ho hb hg hat; rw [← Ny163.out] at ho; have n0_ := Aside0.mk (Kd.R_after (ok := (fun k_ => some k_ ≠ (.slice (some ad162) t158.length co45 : Value).ownBlock)) (by (with_reducible repeat (first | apply Kd.R_alloc | apply Kd.R_drewN | apply Kd.R_drew)); exact Kd.R_mono HO_4.out (fun _ hk => ⟨hk.2, hk.1⟩)) hg hat); have n1_ := Aside0.mk (Kd.R_after (ok := (fun k_ => some k_ ≠ (.slice (some ad161) x4_1.length co44 : Value).ownBlock)) (by (with_reducible repeat (first | apply Kd.R_alloc | apply Kd.R_drewN | apply Kd.R_drew)); exact Kd.R_mono HO_9.out (fun _ hk => ⟨hk.2, hk.1⟩)) hg hat); have n2_ := Aside0.mk (blk_grown (g := gb145) (o := .cells #[.int .i64 a0_0, .int .i64 a0_1, .int .i64 a0_2, .slice (some ad153) l0_3.length c0_3, .slice A0_4 l0_4.length c0_4] 36 (0, 0)) (by (with_reducible repeat (first | refine blk_drewN ?_ _ | refine blk_drew ?_ | refine blk_alloc ?_ _)); exact BK145.out) hg (Kd.R_ne HO_3.out BK145.out (by decide))); have n3_ := Aside0.mk (hb); have n4_ := Aside0.mk (ho); clear HO_4; clear HO_9; clear BK145; clear HB; clear HO_3; have HO_4 := n0_; have HO_9 := n1_; have BK145 := n2_; have HB := n3_; have HO165 := n4_; clear n0_ n1_ n2_ n3_ n4_; clear ho hb hg hat)))
                    go_roundg kj33
                    case measure => have := HK1.out; have := HK2.out; have := HK3.out; have := HJ33.out; omega
                    case rel => exact ⟨(y163), (wrap64 (x10_3 + 1)), (by first | rfl | (simp; done) | (simp [*]; done)), H', ⟨by have := HK1.out; have := HK2.out; have := HK3.out; have := HJ33.out; omega⟩, ⟨by (with_reducible repeat (first | apply Kd.R_alloc | apply Kd.R_drewN | apply Kd.R_drew)); exact HO165.out⟩, ⟨by (with_reducible repeat (first | apply Kd.R_alloc | apply Kd.R_drewN | apply Kd.R_drew)); exact Kd.R_mono HO_4.out (fun _ hk => ⟨hk.2, hk.1⟩)⟩, ⟨by (with_reducible repeat (first | apply Kd.R_alloc | apply Kd.R_drewN | apply Kd.R_drew)); exact Kd.R_mono HO_9.out (fun _ hk => ⟨hk.2, hk.1⟩)⟩, ⟨by (with_reducible repeat (first | refine blk_drewN ?_ _ | refine blk_drew ?_ | refine blk_alloc ?_ _)); exact BK145.out⟩, ⟨by repeat (first | (with_reducible first | exact HB.out | apply below_alloc | apply pw_below_drewN | apply below_drew1 | refine below_set ?_ GE145.out) | exact HB.out)⟩⟩
                  rw [if_neg c42] at H
                  have c42b0 : decide ((wrap64 ((rd x4_1 (ji37)) + (rd t158 x10_3))) < (-32768)) = false := decide_eq_false c42
                  clear c42
                  by_cases c47 : (wrap64 ((rd x4_1 (ji37)) + (rd t158 x10_3))) > 32767
                  · rw [if_pos c47] at H
                    have c47b0 : decide (32767 < (wrap64 ((rd x4_1 (ji37)) + (rd t158 x10_3)))) = true := decide_eq_true c47
                    clear c47
                    by_cases c48 : x3_3.length < 17592186044416
                    rotate_left
                    · rw [if_neg c48] at H
                      exact absurd H (by simp)
                    rw [if_pos c48] at H
                    have LMc48 := Aside0.mk c48
                    clear c48
                    obtain ⟨y166, hy166⟩ : ∃ y_ : List Int, y_ = (x3_3 ++ [32767]) := ⟨_, rfl⟩
                    replace H : (spec_SoundOf.l2 kj33 y166 x4_1 x18_1 t158 (wrap64 (x10_3 + 1)) (l0_3.length : Int) x18_1 a0_0 a0_1 a0_2 l0_3 l0_4) = some r := by first | (rw [hy166]; with_reducible exact H) | (have H2_ := (Option.bind_some _ _).symm.trans H; rw [hy166]; with_reducible exact H2_) | (have H2_ := (Option.bind_some _ _).symm.trans H; with_reducible exact H2_) | with_reducible exact H | (rw [hy166]; exact H) | exact H
                    have Ny166 := Aside0.mk hy166
                    clear hy166
                    have H' := Aside0.mk H
                    clear H
                    obtain ⟨Ao49, co49, eo49⟩ := Kd.R_slice HO_4.out
                    subst eo49
                    have p161 : 0 ≤ ((ji37) : Int) := of_decide_eq_true (by first | (with_reducible assumption) | assumption)
                    have q161 : (ji37) < (x4_1.length : Int) := of_decide_eq_true (by first | (with_reducible assumption) | assumption)
                    obtain ⟨ad161, e161, hx161_0⟩ := Kd.at_int (Kd.R_reads' HO_4.out).2.2 (ji37) p161 q161
                    cases e161
                    replace p161 := eq_true p161
                    replace q161 := eq_true q161
                    obtain ⟨Ao50, co50, eo50⟩ := Kd.R_slice HO_9.out
                    subst eo50
                    have p162 : 0 ≤ (x10_3 : Int) := of_decide_eq_true (by first | (with_reducible assumption) | assumption)
                    have q162 : x10_3 < (t158.length : Int) := of_decide_eq_true (by first | (with_reducible assumption) | assumption)
                    obtain ⟨ad162, e162, hx162_0⟩ := Kd.at_int (Kd.R_reads' HO_9.out).2.2 x10_3 p162 q162
                    cases e162
                    replace p162 := eq_true p162
                    replace q162 := eq_true q162
                    iterate 3 (try go_wp2_with (first | ((with_reducible refine gate_builtin (b := .append) (xs := #[.tmp 73, .tmp 75]) rfl ?_); at_builtin; refine Kd.R_append (Kd.int .i64) (w0 := w) w.heap.size rfl (.tmp 73) (.tmp 75) 22 3 (.int .i64 0) 8 rfl Tryd.underlying22 info3 rfl (by decide) (by omega) u3 x3_3 32767 [.int .i64 32767] (fun k_ => some k_ ≠ (.slice (some ad161) x4_1.length co49 : Value).ownBlock ∧ some k_ ≠ (.slice (some ad162) t158.length co50 : Value).ownBlock) (fun _ => False) rfl rfl ?aP (fun _ hk => hk.elim) ?aF ?aO ?aB ?aS ?aL ?_; (case aP => exact rfl); (case aB => exact (by repeat (first | (with_reducible first | exact HB.out | apply below_alloc | apply pw_below_drewN | apply below_drew1 | refine below_set ?_ GE145.out) | exact HB.out))); (case aF => exact (fun k_ hk => ⟨Kd.fresh' (Kd.R_lt (by (with_reducible repeat (first | apply Kd.R_alloc | apply Kd.R_drewN | apply Kd.R_drew)); exact HO_4.out)) k_ hk, Kd.fresh' (Kd.R_lt (by (with_reducible repeat (first | apply Kd.R_alloc | apply Kd.R_drewN | apply Kd.R_drew)); exact HO_9.out)) k_ hk⟩)); (case aO => exact (by (with_reducible repeat (first | apply Kd.R_alloc | apply Kd.R_drewN | apply Kd.R_drew)); exact HO_3.out)); (case aS => exact (below_size (by repeat (first | (with_reducible first | exact HB.out | apply below_alloc | apply pw_below_drewN | apply below_drew1 | refine below_set ?_ GE145.out) | exact HB.out)))); (case aL => have := LMc48.out; omega); intro v167 w51 ho hb hg hat; rw [← Ny166.out] at ho; have n0_ := Aside0.mk (Kd.R_after (ok := (fun k_ => some k_ ≠ (.slice (some ad162) t158.length co50 : Value).ownBlock)) (by (with_reducible repeat (first | apply Kd.R_alloc | apply Kd.R_drewN | apply Kd.R_drew)); exact Kd.R_mono HO_4.out (fun _ hk => ⟨hk.2, hk.1⟩)) hg hat); have n1_ := Aside0.mk (Kd.R_after (ok := (fun k_ => some k_ ≠ (.slice (some ad161) x4_1.length co49 : Value).ownBlock)) (by (with_reducible repeat (first | apply Kd.R_alloc | apply Kd.R_drewN | apply Kd.R_drew)); exact Kd.R_mono HO_9.out (fun _ hk => ⟨hk.2, hk.1⟩)) hg hat); have n2_ := Aside0.mk (blk_grown (g := gb145) (o := .cells #[.int .i64 a0_0, .int .i64 a0_1, .int .i64 a0_2, .slice (some ad153) l0_3.length c0_3, .slice A0_4 l0_4.length c0_4] 36 (0, 0)) (by (with_reducible repeat (first | refine blk_drewN ?_ _ | refine blk_drew ?_ | refine blk_alloc ?_ _)); exact BK145.out) hg (Kd.R_ne HO_3.out BK145.out (by decide))); have n3_ := Aside0.mk (hb); have n4_ := Aside0.mk (ho); clear HO_4; clear HO_9; clear BK145; clear HB; clear HO_3; have HO_4 := n0_; have HO_9 := n1_; have BK145 := n2_; have HB := n3_; have HO168 := n4_; clear n0_ n1_ n2_ n3_ n4_; clear ho hb hg hat)); try go_quiet (first | ((with_reducible refine gate_builtin (b := .append) (xs := #[.tmp 73, .tmp 75]) rfl ?_); at_builtin; refine Kd.R_append (Kd.int .i64) (w0 := w) w.heap.size rfl (.tmp 73) (.tmp 75) 22 3 (.int .i64 0) 8 rfl Tryd.underlying22 info3 rfl (by decide) (by omega) u3 x3_3 32767 [.int .i64 32767] (fun k_ => some k_ ≠ (.slice (some ad161) x4_1.length co49 : Value).ownBlock ∧ some k_ ≠ (.slice (some ad162) t158.length co50 : Value).ownBlock) (fun _ => False) rfl rfl ?aP (fun _ hk => hk.elim) ?aF ?aO ?aB ?aS ?aL ?_; (case aP => exact rfl); (case aB => exact (by repeat (first | (with_reducible first | exact HB.out | apply below_alloc | apply pw_below_drewN | apply below_drew1 | refine below_set ?_ GE145.out) | exact HB.out))); (case aF => exact (fun k_ hk => ⟨Kd.fresh' (Kd.R_lt (by (with_reducible repeat (first | apply Kd.R_alloc | apply Kd.R_drewN | apply Kd.R_drew)); exact HO_4.out)) k_ hk, Kd.fresh' (Kd.R_lt (by (with_reducible repeat (first | apply Kd.R_alloc | apply Kd.R_drewN | apply Kd.R_drew)); exact HO_9.out)) k_ hk⟩)); (case aO => exact (by (with_reducible repeat (first | apply Kd.R_alloc | apply Kd.R_drewN | apply Kd.R_drew)); exact HO_3.out)); (case aS => exact (below_size (by repeat (first | (with_reducible first | exact HB.out | apply below_alloc | apply pw_below_drewN | apply below_drew1 | refine below_set ?_ GE145.out) | exact HB.out)))); (case aL => have := LMc48.out; omega); intro v167 w51 ho hb hg hat; rw [← Ny166.out] at ho; have n0_ := Aside0.mk (Kd.R_after (ok := (fun k_ => some k_ ≠ (.slice (some ad162) t158.length co50 : Value).ownBlock)) (by (with_reducible repeat (first | apply Kd.R_alloc | apply Kd.R_drewN | apply Kd.R_drew)); exact Kd.R_mono HO_4.out (fun _ hk => ⟨hk.2, hk.1⟩)) hg hat); have n1_ := Aside0.mk (Kd.R_after (ok := (fun k_ => some k_ ≠ (.slice (some ad161) x4_1.length co49 : Value).ownBlock)) (by (with_reducible repeat (first | apply Kd.R_alloc | apply Kd.R_drewN | apply Kd.R_drew)); exact Kd.R_mono HO_9.out (fun _ hk => ⟨hk.2, hk.1⟩)) hg hat); have n2_ := Aside0.mk (blk_grown (g := gb145) (o := .cells #[.int .i64 a0_0, .int .i64 a0_1, .int .i64 a0_2, .slice (some ad153) l0_3.length c0_3, .slice A0_4 l0_4.length c0_4] 36 (0, 0)) (by (with_reducible repeat (first | refine blk_drewN ?_ _ | refine blk_drew ?_ | refine blk_alloc ?_ _)); exact BK145.out) hg (Kd.R_ne HO_3.out BK145.out (by decide))); have n3_ := Aside0.mk (hb); have n4_ := Aside0.mk (ho); clear HO_4; clear HO_9; clear BK145; clear HB; clear HO_3; have HO_4 := n0_; have HO_9 := n1_; have BK145 := n2_; have HB := n3_; have HO168 := n4_; clear n0_ n1_ n2_ n3_ n4_; clear ho hb hg hat)))
                    go_roundg kj33
                    case measure => have := HK1.out; have := HK2.out; have := HK3.out; have := HJ33.out; omega
                    case rel => exact ⟨(y166), (wrap64 (x10_3 + 1)), (by first | rfl | (simp; done) | (simp [*]; done)), H', ⟨by have := HK1.out; have := HK2.out; have := HK3.out; have := HJ33.out; omega⟩, ⟨by (with_reducible repeat (first | apply Kd.R_alloc | apply Kd.R_drewN | apply Kd.R_drew)); exact HO168.out⟩, ⟨by (with_reducible repeat (first | apply Kd.R_alloc | apply Kd.R_drewN | apply Kd.R_drew)); exact Kd.R_mono HO_4.out (fun _ hk => ⟨hk.2, hk.1⟩)⟩, ⟨by (with_reducible repeat (first | apply Kd.R_alloc | apply Kd.R_drewN | apply Kd.R_drew)); exact Kd.R_mono HO_9.out (fun _ hk => ⟨hk.2, hk.1⟩)⟩, ⟨by (with_reducible repeat (first | refine blk_drewN ?_ _ | refine blk_drew ?_ | refine blk_alloc ?_ _)); exact BK145.out⟩, ⟨by repeat (first | (with_reducible first | exact HB.out | apply below_alloc | apply pw_below_drewN | apply below_drew1 | refine below_set ?_ GE145.out) | exact HB.out)⟩⟩
                  rw [if_neg c47] at H
                  have c47b0 : decide (32767 < (wrap64 ((rd x4_1 (ji37)) + (rd t158 x10_3)))) = false := decide_eq_false c47
                  clear c47
                  by_cases c52 : x3_3.length < 17592186044416
                  rotate_left
                  · rw [if_neg c52] at H
                    exact absurd H (by simp)
                  rw [if_pos c52] at H
                  have LMc52 := Aside0.mk c52
                  clear c52
                  obtain ⟨y169, hy169⟩ : ∃ y_ : List Int, y_ = (x3_3 ++ [wrap64 ((rd x4_1 (ji37)) + (rd t158 x10_3))]) := ⟨_, rfl⟩
                  replace H : (spec_SoundOf.l2 kj33 y169 x4_1 x18_1 t158 (wrap64 (x10_3 + 1)) (l0_3.length : Int) x18_1 a0_0 a0_1 a0_2 l0_3 l0_4) = some r := by first | (rw [hy169]; with_reducible exact H) | (have H2_ := (Option.bind_some _ _).symm.trans H; rw [hy169]; with_reducible exact H2_) | (have H2_ := (Option.bind_some _ _).symm.trans H; with_reducible exact H2_) | with_reducible exact H | (rw [hy169]; exact H) | exact H
                  have Ny169 := Aside0.mk hy169
                  clear hy169
                  have H' := Aside0.mk H
                  clear H
                  obtain ⟨Ao53, co53, eo53⟩ := Kd.R_slice HO_4.out
                  subst eo53
                  have p161 : 0 ≤ ((ji37) : Int) := of_decide_eq_true (by first | (with_reducible assumption) | assumption)
                  have q161 : (ji37) < (x4_1.length : Int) := of_decide_eq_true (by first | (with_reducible assumption) | assumption)
                  obtain ⟨ad161, e161, hx161_0⟩ := Kd.at_int (Kd.R_reads' HO_4.out).2.2 (ji37) p161 q161
                  cases e161
                  replace p161 := eq_true p161
                  replace q161 := eq_true q161
                  obtain ⟨Ao54, co54, eo54⟩ := Kd.R_slice HO_9.out
                  subst eo54
                  have p162 : 0 ≤ (x10_3 : Int) := of_decide_eq_true (by first | (with_reducible assumption) | assumption)
                  have q162 : x10_3 < (t158.length : Int) := of_decide_eq_true (by first | (with_reducible assumption) | assumption)
                  obtain ⟨ad162, e162, hx162_0⟩ := Kd.at_int (Kd.R_reads' HO_9.out).2.2 x10_3 p162 q162
                  cases e162
                  replace p162 := eq_true p162
                  replace q162 := eq_true q162
                  iterate 3 (try go_wp2_with (first | ((with_reducible refine gate_builtin (b := .append) (xs := #[.tmp 73, .tmp 75]) rfl ?_); at_builtin; refine Kd.R_append (Kd.int .i64) (w0 := w) w.heap.size rfl (.tmp 73) (.tmp 75) 22 3 (.int .i64 0) 8 rfl Tryd.underlying22 info3 rfl (by decide) (by omega) u3 x3_3 (wrap64 ((rd x4_1 (ji37)) + (rd t158 x10_3))) [.int .i64 (wrap64 ((rd x4_1 (ji37)) + (rd t158 x10_3)))] (fun k_ => some k_ ≠ (.slice (some ad161) x4_1.length co53 : Value).ownBlock ∧ some k_ ≠ (.slice (some ad162) t158.length co54 : Value).ownBlock) (fun _ => False) rfl rfl ?aP (fun _ hk => hk.elim) ?aF ?aO ?aB ?aS ?aL ?_; (case aP => exact rfl); (case aB => exact (by repeat (first | (with_reducible first | exact HB.out | apply below_alloc | apply pw_below_drewN | apply below_drew1 | refine below_set ?_ GE145.out) | exact HB.out))); (case aF => exact (fun k_ hk => ⟨Kd.fresh' (Kd.R_lt (by (with_reducible repeat (first | apply Kd.R_alloc | apply Kd.R_drewN | apply Kd.R_drew)); exact HO_4.out)) k_ hk, Kd.fresh' (Kd.R_lt (by (with_reducible repeat (first | apply Kd.R_alloc | apply Kd.R_drewN | apply Kd.R_drew)); exact HO_9.out)) k_ hk⟩)); (case aO => exact (by (with_reducible repeat (first | apply Kd.R_alloc | apply Kd.R_drewN | apply Kd.R_drew)); exact HO_3.out)); (case aS => exact (below_size (by repeat (first | (with_reducible first | exact HB.out | apply below_alloc | apply pw_below_drewN | apply below_drew1 | refine below_set ?_ GE145.out) | exact HB.out)))); (case aL => have := LMc52.out; omega); intro v170 w55 ho hb hg hat; rw [← Ny169.out] at ho; have n0_ := Aside0.mk (Kd.R_after (ok := (fun k_ => some k_ ≠ (.slice (some ad162) t158.length co54 : Value).ownBlock)) (by (with_reducible repeat (first | apply Kd.R_alloc | apply Kd.R_drewN | apply Kd.R_drew)); exact Kd.R_mono HO_4.out (fun _ hk => ⟨hk.2, hk.1⟩)) hg hat); have n1_ := Aside0.mk (Kd.R_after (ok := (fun k_ => some k_ ≠ (.slice (some ad161) x4_1.length co53 : Value).ownBlock)) (by (with_reducible repeat (first | apply Kd.R_alloc | apply Kd.R_drewN | apply Kd.R_drew)); exact Kd.R_mono HO_9.out (fun _ hk => ⟨hk.2, hk.1⟩)) hg hat); have n2_ := Aside0.mk (blk_grown (g := gb145) (o := .cells #[.int .i64 a0_0, .int .i64 a0_1, .int .i64 a0_2, .slice (some ad153) l0_3.length c0_3, .slice A0_4 l0_4.length c0_4] 36 (0, 0)) (by (with_reducible repeat (first | refine blk_drewN ?_ _ | refine blk_drew ?_ | refine blk_alloc ?_ _)); exact BK145.out) hg (Kd.R_ne HO_3.out BK145.out (by decide))); have n3_ := Aside0.mk (hb); have n4_ := Aside0.mk (ho); clear HO_4; clear HO_9; clear BK145; clear HB; clear HO_3; have HO_4 := n0_; have HO_9 := n1_; have BK145 := n2_; have HB := n3_; have HO171 := n4_; clear n0_ n1_ n2_ n3_ n4_; clear ho hb hg hat)); try go_quiet (first | ((with_reducible refine gate_builtin (b := .append) (xs := #[.tmp 73, .tmp 75]) rfl ?_); at_builtin; refine Kd.R_append (Kd.int .i64) (w0 := w) w.heap.size rfl (.tmp 73) (.tmp 75) 22 3 (.int .i64 0) 8 rfl Tryd.underlying22 info3 rfl (by decide) (by omega) u3 x3_3 (wrap64 ((rd x4_1 (ji37)) + (rd t158 x10_3))) [.int .i64 (wrap64 ((rd x4_1 (ji37)) + (rd t158 x10_3)))] (fun k_ => some k_ ≠ (.slice (some ad161) x4_1.length co53 : Value).ownBlock ∧ some k_ ≠ (.slice (some ad162) t158.length co54 : Value).ownBlock) (fun _ => False) rfl rfl ?aP (fun _ hk => hk.elim) ?aF ?aO ?aB ?aS ?aL ?_; (case aP => exact rfl); (case aB => exact (by repeat (first | (with_reducible first | exact HB.out | apply below_alloc | apply pw_below_drewN | apply below_drew1 | refine below_set ?_ GE145.out) | exact HB.out))); (case aF => exact (fun k_ hk => ⟨Kd.fresh' (Kd.R_lt (by (with_reducible repeat (first | apply Kd.R_alloc | apply Kd.R_drewN | apply Kd.R_drew)); exact HO_4.out)) k_ hk, Kd.fresh' (Kd.R_lt (by (with_reducible repeat (first | apply Kd.R_alloc | apply Kd.R_drewN | apply Kd.R_drew)); exact HO_9.out)) k_ hk⟩)); (case aO => exact (by (with_reducible repeat (first | apply Kd.R_alloc | apply Kd.R_drewN | apply Kd.R_drew)); exact HO_3.out)); (case aS => exact (below_size (by repeat (first | (with_reducible first | exact HB.out | apply below_alloc | apply pw_below_drewN | apply below_drew1 | refine below_set ?_ GE145.out) | exact HB.out)))); (case aL => have := LMc52.out; omega); intro v170 w55 ho hb hg hat; rw [← Ny169.out] at ho; have n0_ := Aside0.mk (Kd.R_after (ok := (fun k_ => some k_ ≠ (.slice (some ad162) t158.length co54 : Value).ownBlock)) (by (with_reducible repeat (first | apply Kd.R_alloc | apply Kd.R_drewN | apply Kd.R_drew)); exact Kd.R_mono HO_4.out (fun _ hk => ⟨hk.2, hk.1⟩)) hg hat); have n1_ := Aside0.mk (Kd.R_after (ok := (fun k_ => some k_ ≠ (.slice (some ad161) x4_1.length co53 : Value).ownBlock)) (by (with_reducible repeat (first | apply Kd.R_alloc | apply Kd.R_drewN | apply Kd.R_drew)); exact Kd.R_mono HO_9.out (fun _ hk => ⟨hk.2, hk.1⟩)) hg hat); have n2_ := Aside0.mk (blk_grown (g := gb145) (o := .cells #[.int .i64 a0_0, .int .i64 a0_1, .int .i64 a0_2, .slice (some ad153) l0_3.length c0_3, .slice A0_4 l0_4.length c0_4] 36 (0, 0)) (by (with_reducible repeat (first | refine blk_drewN ?_ _ | refine blk_drew ?_ | refine blk_alloc ?_ _)); exact BK145.out) hg (Kd.R_ne HO_3.out BK145.out (by decide))); have n3_ := Aside0.mk (hb); have n4_ := Aside0.mk (ho); clear HO_4; clear HO_9; clear BK145; clear HB; clear HO_3; have HO_4 := n0_; have HO_9 := n1_; have BK145 := n2_; have HB := n3_; have HO171 := n4_; clear n0_ n1_ n2_ n3_ n4_; clear ho hb hg hat)))
                  go_roundg kj33
                  case measure => have := HK1.out; have := HK2.out; have := HK3.out; have := HJ33.out; omega
                  case rel => exact ⟨(y169), (wrap64 (x10_3 + 1)), (by first | rfl | (simp; done) | (simp [*]; done)), H', ⟨by have := HK1.out; have := HK2.out; have := HK3.out; have := HJ33.out; omega⟩, ⟨by (with_reducible repeat (first | apply Kd.R_alloc | apply Kd.R_drewN | apply Kd.R_drew)); exact HO171.out⟩, ⟨by (with_reducible repeat (first | apply Kd.R_alloc | apply Kd.R_drewN | apply Kd.R_drew)); exact Kd.R_mono HO_4.out (fun _ hk => ⟨hk.2, hk.1⟩)⟩, ⟨by (with_reducible repeat (first | apply Kd.R_alloc | apply Kd.R_drewN | apply Kd.R_drew)); exact Kd.R_mono HO_9.out (fun _ hk => ⟨hk.2, hk.1⟩)⟩, ⟨by (with_reducible repeat (first | refine blk_drewN ?_ _ | refine blk_drew ?_ | refine blk_alloc ?_ _)); exact BK145.out⟩, ⟨by repeat (first | (with_reducible first | exact HB.out | apply below_alloc | apply pw_below_drewN | apply below_drew1 | refine below_set ?_ GE145.out) | exact HB.out)⟩⟩

end Go.Proofs.YtidblealnaicpaaDoor.PFnExactSoundOf

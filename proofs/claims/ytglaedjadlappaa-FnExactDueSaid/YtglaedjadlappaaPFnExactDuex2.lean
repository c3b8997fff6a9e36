-- written by myprint.py (a program of this session's over the kit's print)
import Derived.Test.YtglaedjadlappaaPFnExactDuex0
import Derived.Test.YtglaedjadlappaaPFnExactDuex1
namespace Go.Proofs.Ytglaedjadlappaa.PFnExactDue
open Go.RowKit Go.Proofs.YtglaedjadlappaaW.PrintWords Go.Proofs.YtglaedjadlappaaW.PrintLast
set_option linter.unusedVariables false
set_option linter.unusedSimpArgs false

/-! ### spec_l16Right: function 167 -/
mutual
def spec_l16Right.j0 : Nat → Bool → List (S186) → List (S185) → Option (Bool)
  | 0, _, _, _ => none
  | k + 1, x17, x117000, x117001 => if x17 = true then (some false) else (if 0 ≤ (x117000.length : Int) then (if ((x117000.length : Int) : Int).toNat ≤ 35184372088832 then ((some (List.replicate ((x117000.length : Int) : Int).toNat 0 : List Int)).bind fun y118 => (spec_l16Right.l0 k y118 (y118.length : Int) 0 x117000 x117001)) else (none)) else (none))
def spec_l16Right.l0 : Nat → List Int → Int → Int → List (S186) → List (S185) → Option (Bool)
  | 0, _, _, _, _, _ => none
  | k + 1, x3, x23, x24, x117000, x117001 => if x24 < x23 then (if 0 ≤ x24 then (if x24 < (x3.length : Int) then (spec_l16Right.l0 k (x3.set (x24 : Int).toNat (-1)) x23 (wrap64 (x24 + 1)) x117000 x117001) else (none)) else (none)) else (spec_l16Right.l1 k x3 0 x117001 (x117001.length : Int) 0 x117000 x117001)
def spec_l16Right.l1 : Nat → List Int → Int → List (S185) → Int → Int → List (S186) → List (S185) → Option (Bool)
  | 0, _, _, _, _, _, _, _ => none
  | k + 1, x3, x5, x32, x33, x34, x117000, x117001 => if x34 < x33 then (if 0 ≤ x34 then (if x34 < (x32.length : Int) then (if ((rd_T185 x32 x34).f0) < 0 then (spec_l16Right.j3 k x3 x5 x32 x33 x34 true x117000 x117001 ((rd_T185 x32 x34).f0) ((rd_T185 x32 x34).f1) ((rd_T185 x32 x34).f2) ((rd_T185 x32 x34).f3) ((rd_T185 x32 x34).f4)) else (if ((rd_T185 x32 x34).f0) ≥ (x117000.length : Int) then (spec_l16Right.j3 k x3 x5 x32 x33 x34 true x117000 x117001 ((rd_T185 x32 x34).f0) ((rd_T185 x32 x34).f1) ((rd_T185 x32 x34).f2) ((rd_T185 x32 x34).f3) ((rd_T185 x32 x34).f4)) else ((spec_l16Ticks.f ((rd_T185 x32 x34).f1)).bind fun t124 => (if t124 = true then ((spec_l16Ticks.f ((rd_T185 x32 x34).f2)).bind fun t125 => (spec_l16Right.j3 k x3 x5 x32 x33 x34 (!t125) x117000 x117001 ((rd_T185 x32 x34).f0) ((rd_T185 x32 x34).f1) ((rd_T185 x32 x34).f2) ((rd_T185 x32 x34).f3) ((rd_T185 x32 x34).f4))) else (spec_l16Right.j3 k x3 x5 x32 x33 x34 true x117000 x117001 ((rd_T185 x32 x34).f0) ((rd_T185 x32 x34).f1) ((rd_T185 x32 x34).f2) ((rd_T185 x32 x34).f3) ((rd_T185 x32 x34).f4)))))) else (none)) else (none)) else (some true)
def spec_l16Right.j3 : Nat → List Int → Int → List (S185) → Int → Int → Bool → List (S186) → List (S185) → Int → Int → Int → Bool → List Int → Option (Bool)
  | 0, _, _, _, _, _, _, _, _, _, _, _, _, _ => none
  | k + 1, x3, x5, x32, x33, x34, x60, x117000, x117001, x124000, x124001, x124002, x124003, x124004 => if x60 = true then (some false) else (if 0 ≤ x124000 then (if x124000 < (x3.length : Int) then (if x124001 < (rd x3 x124000) then (spec_l16Right.j4 k x3 x5 x32 x33 x34 true x117000 x117001 x124000 x124001 x124002 x124003 x124004) else (if (rd x3 x124000) < 0 then (spec_l16Right.j4 k x3 x5 x32 x33 x34 (!x124003) x117000 x117001 x124000 x124001 x124002 x124003 x124004) else (spec_l16Right.j4 k x3 x5 x32 x33 x34 false x117000 x117001 x124000 x124001 x124002 x124003 x124004))) else (none)) else (none))
def spec_l16Right.j4 : Nat → List Int → Int → List (S185) → Int → Int → Bool → List (S186) → List (S185) → Int → Int → Int → Bool → List Int → Option (Bool)
  | 0, _, _, _, _, _, _, _, _, _, _, _, _, _ => none
  | k + 1, x3, x5, x32, x33, x34, x81, x117000, x117001, x124000, x124001, x124002, x124003, x124004 => if x81 = true then (some false) else (if 0 ≤ x124000 then (if x124000 < (x3.length : Int) then (if (wrap64 (x5 + (x124004.length : Int))) > 60000 then (some false) else (spec_l16Right.l1 k (x3.set (x124000 : Int).toNat x124001) (wrap64 (x5 + (x124004.length : Int))) x32 x33 (wrap64 (x34 + 1)) x117000 x117001)) else (none)) else (none))
end
def spec_l16Right.f (k : Nat) (l0_0 : List (S186)) (l0_1 : List (S185)) : Option (Bool) := (spec_l16Tracks.f k l0_0).bind fun t117 => (if t117 = true then (spec_l16Right.j0 k (decide ((l0_1.length : Int) > 400)) l0_0 l0_1) else (spec_l16Right.j0 k true l0_0 l0_1))
theorem spec_l16Right.mono_l : ∀ k, (∀ y0 y1 y2, LeO (spec_l16Right.j0 k y0 y1 y2) (spec_l16Right.j0 (k + 1) y0 y1 y2)) ∧ (∀ y0 y1 y2 y3 y4, LeO (spec_l16Right.l0 k y0 y1 y2 y3 y4) (spec_l16Right.l0 (k + 1) y0 y1 y2 y3 y4)) ∧ (∀ y0 y1 y2 y3 y4 y5 y6, LeO (spec_l16Right.l1 k y0 y1 y2 y3 y4 y5 y6) (spec_l16Right.l1 (k + 1) y0 y1 y2 y3 y4 y5 y6)) ∧ (∀ y0 y1 y2 y3 y4 y5 y6 y7 y8 y9 y10 y11 y12, LeO (spec_l16Right.j3 k y0 y1 y2 y3 y4 y5 y6 y7 y8 y9 y10 y11 y12) (spec_l16Right.j3 (k + 1) y0 y1 y2 y3 y4 y5 y6 y7 y8 y9 y10 y11 y12)) ∧ (∀ y0 y1 y2 y3 y4 y5 y6 y7 y8 y9 y10 y11 y12, LeO (spec_l16Right.j4 k y0 y1 y2 y3 y4 y5 y6 y7 y8 y9 y10 y11 y12) (spec_l16Right.j4 (k + 1) y0 y1 y2 y3 y4 y5 y6 y7 y8 y9 y10 y11 y12))
  | 0 => ⟨fun _ _ _ r h => by simp [spec_l16Right.j0] at h, fun _ _ _ _ _ r h => by simp [spec_l16Right.l0] at h, fun _ _ _ _ _ _ _ r h => by simp [spec_l16Right.l1] at h, fun _ _ _ _ _ _ _ _ _ _ _ _ _ r h => by simp [spec_l16Right.j3] at h, fun _ _ _ _ _ _ _ _ _ _ _ _ _ r h => by simp [spec_l16Right.j4] at h⟩
  | k + 1 => by
    obtain ⟨ih0, ih1, ih2, ih3, ih4⟩ := spec_l16Right.mono_l k
    refine ⟨?_, ?_, ?_, ?_, ?_⟩
    · intro y0 y1 y2
      unfold spec_l16Right.j0
      repeat' first
      | (with_reducible exact ih0 _ _ _)
      | (with_reducible exact ih1 _ _ _ _ _)
      | (with_reducible exact ih2 _ _ _ _ _ _ _)
      | (with_reducible exact ih3 _ _ _ _ _ _ _ _ _ _ _ _ _)
      | (with_reducible exact ih4 _ _ _ _ _ _ _ _ _ _ _ _ _)
      | (with_reducible exact spec_l16Tracks.mono _ _)
      | (with_reducible exact LeO.refl _)
      | (with_reducible exact LeO.none _)
      | (with_reducible refine LeO.ite ?_ ?_)
      | (with_reducible refine LeO.bind ?_ (fun _ => ?_))
      | exact ih0 _ _ _
      | exact ih1 _ _ _ _ _
      | exact ih2 _ _ _ _ _ _ _
      | exact ih3 _ _ _ _ _ _ _ _ _ _ _ _ _
      | exact ih4 _ _ _ _ _ _ _ _ _ _ _ _ _
      | exact spec_l16Tracks.mono _ _
      | exact LeO.none _
      | refine LeO.ite ?_ ?_
      | refine LeO.bind ?_ (fun _ => ?_)
    · intro y0 y1 y2 y3 y4
      unfold spec_l16Right.l0
      repeat' first
      | (with_reducible exact ih0 _ _ _)
      | (with_reducible exact ih1 _ _ _ _ _)
      | (with_reducible exact ih2 _ _ _ _ _ _ _)
      | (with_reducible exact ih3 _ _ _ _ _ _ _ _ _ _ _ _ _)
      | (with_reducible exact ih4 _ _ _ _ _ _ _ _ _ _ _ _ _)
      | (with_reducible exact spec_l16Tracks.mono _ _)
      | (with_reducible exact LeO.refl _)
      | (with_reducible exact LeO.none _)
      | (with_reducible refine LeO.ite ?_ ?_)
      | (with_reducible refine LeO.bind ?_ (fun _ => ?_))
      | exact ih0 _ _ _
      | exact ih1 _ _ _ _ _
      | exact ih2 _ _ _ _ _ _ _
      | exact ih3 _ _ _ _ _ _ _ _ _ _ _ _ _
      | exact ih4 _ _ _ _ _ _ _ _ _ _ _ _ _
      | exact spec_l16Tracks.mono _ _
      | exact LeO.none _
      | refine LeO.ite ?_ ?_
      | refine LeO.bind ?_ (fun _ => ?_)
    · intro y0 y1 y2 y3 y4 y5 y6
      unfold spec_l16Right.l1
      repeat' first
      | (with_reducible exact ih0 _ _ _)
      | (with_reducible exact ih1 _ _ _ _ _)
      | (with_reducible exact ih2 _ _ _ _ _ _ _)
      | (with_reducible exact ih3 _ _ _ _ _ _ _ _ _ _ _ _ _)
      | (with_reducible exact ih4 _ _ _ _ _ _ _ _ _ _ _ _ _)
      | (with_reducible exact spec_l16Tracks.mono _ _)
      | (with_reducible exact LeO.refl _)
      | (with_reducible exact LeO.none _)
      | (with_reducible refine LeO.ite ?_ ?_)
      | (with_reducible refine LeO.bind ?_ (fun _ => ?_))
      | exact ih0 _ _ _
      | exact ih1 _ _ _ _ _
      | exact ih2 _ _ _ _ _ _ _
      | exact ih3 _ _ _ _ _ _ _ _ _ _ _ _ _
      | exact ih4 _ _ _ _ _ _ _ _ _ _ _ _ _
      | exact spec_l16Tracks.mono _ _
      | exact LeO.none _
      | refine LeO.ite ?_ ?_
      | refine LeO.bind ?_ (fun _ => ?_)
    · intro y0 y1 y2 y3 y4 y5 y6 y7 y8 y9 y10 y11 y12
      unfold spec_l16Right.j3
      repeat' first
      | (with_reducible exact ih0 _ _ _)
      | (with_reducible exact ih1 _ _ _ _ _)
      | (with_reducible exact ih2 _ _ _ _ _ _ _)
      | (with_reducible exact ih3 _ _ _ _ _ _ _ _ _ _ _ _ _)
      | (with_reducible exact ih4 _ _ _ _ _ _ _ _ _ _ _ _ _)
      | (with_reducible exact spec_l16Tracks.mono _ _)
      | (with_reducible exact LeO.refl _)
      | (with_reducible exact LeO.none _)
      | (with_reducible refine LeO.ite ?_ ?_)
      | (with_reducible refine LeO.bind ?_ (fun _ => ?_))
      | exact ih0 _ _ _
      | exact ih1 _ _ _ _ _
      | exact ih2 _ _ _ _ _ _ _
      | exact ih3 _ _ _ _ _ _ _ _ _ _ _ _ _
      | exact ih4 _ _ _ _ _ _ _ _ _ _ _ _ _
      | exact spec_l16Tracks.mono _ _
      | exact LeO.none _
      | refine LeO.ite ?_ ?_
      | refine LeO.bind ?_ (fun _ => ?_)
    · intro y0 y1 y2 y3 y4 y5 y6 y7 y8 y9 y10 y11 y12
      unfold spec_l16Right.j4
      repeat' first
      | (with_reducible exact ih0 _ _ _)
      | (with_reducible exact ih1 _ _ _ _ _)
      | (with_reducible exact ih2 _ _ _ _ _ _ _)
      | (with_reducible exact ih3 _ _ _ _ _ _ _ _ _ _ _ _ _)
      | (with_reducible exact ih4 _ _ _ _ _ _ _ _ _ _ _ _ _)
      | (with_reducible exact spec_l16Tracks.mono _ _)
      | (with_reducible exact LeO.refl _)
      | (with_reducible exact LeO.none _)
      | (with_reducible refine LeO.ite ?_ ?_)
      | (with_reducible refine LeO.bind ?_ (fun _ => ?_))
      | exact ih0 _ _ _
      | exact ih1 _ _ _ _ _
      | exact ih2 _ _ _ _ _ _ _
      | exact ih3 _ _ _ _ _ _ _ _ _ _ _ _ _
      | exact ih4 _ _ _ _ _ _ _ _ _ _ _ _ _
      | exact spec_l16Tracks.mono _ _
      | exact LeO.none _
      | refine LeO.ite ?_ ?_
      | refine LeO.bind ?_ (fun _ => ?_)
theorem spec_l16Right.mono : ∀ a0 a1 k, LeO (spec_l16Right.f k a0 a1) (spec_l16Right.f (k + 1) a0 a1) := by
  intro a0 a1 k
  obtain ⟨ih0, ih1, ih2, ih3, ih4⟩ := spec_l16Right.mono_l k
  unfold spec_l16Right.f
  repeat' first
      | (with_reducible exact ih0 _ _ _)
      | (with_reducible exact ih1 _ _ _ _ _)
      | (with_reducible exact ih2 _ _ _ _ _ _ _)
      | (with_reducible exact ih3 _ _ _ _ _ _ _ _ _ _ _ _ _)
      | (with_reducible exact ih4 _ _ _ _ _ _ _ _ _ _ _ _ _)
      | (with_reducible exact spec_l16Tracks.mono _ _)
      | (with_reducible exact LeO.refl _)
      | (with_reducible exact LeO.none _)
      | (with_reducible refine LeO.ite ?_ ?_)
      | (with_reducible refine LeO.bind ?_ (fun _ => ?_))
      | exact ih0 _ _ _
      | exact ih1 _ _ _ _ _
      | exact ih2 _ _ _ _ _ _ _
      | exact ih3 _ _ _ _ _ _ _ _ _ _ _ _ _
      | exact ih4 _ _ _ _ _ _ _ _ _ _ _ _ _
      | exact spec_l16Tracks.mono _ _
      | exact LeO.none _
      | refine LeO.ite ?_ ?_
      | refine LeO.bind ?_ (fun _ => ?_)
set_option maxHeartbeats 8000000 in
set_option maxRecDepth 100000 in
theorem spec_l16Right.calls (k : Nat) (A0_0 : Option Addr) (c0_0 : Nat) (l0_0 : List (S186)) (A0_1 : Option Addr) (c0_1 : Nat) (l0_1 : List (S185)) (r : Bool) (w : World) (hr0_0 : Kd.C k186 w A0_0 l0_0.length l0_0) (hc0_0 : l0_0.length ≤ c0_0) (hr0_1 : Kd.C k185 w A0_1 l0_1.length l0_1) (hc0_1 : l0_1.length ≤ c0_1) (h : spec_l16Right.f k l0_0 l0_1 = some r) :
    Calls Try.prog 167 #[.agg #[.slice A0_0 l0_0.length c0_0, .slice A0_1 l0_1.length c0_1]] w fun e w' => e = .returned (.bool r) ∧ Below w.heap.size w w' := by
  have hu76 := Try.underlying76
  have hu185 := Try.underlying185
  have HR0_0 := Aside0.mk hr0_0
  have HC0_0 := Aside0.mk hc0_0
  clear hr0_0 hc0_0
  have HR0_1 := Aside0.mk hr0_1
  have HC0_1 := Aside0.mk hc0_1
  clear hr0_1 hc0_1
  have HB := Aside0.mk (Below.refl w.heap.size w)
  have H : ((spec_l16Tracks.f k l0_0).bind fun t117 => (if t117 = true then (spec_l16Right.j0 k (decide ((l0_1.length : Int) > 400)) l0_0 l0_1) else (spec_l16Right.j0 k true l0_0 l0_1))) = some r := h
  clear h
  have HC2 := Aside0.mk H
  clear H
  go_enter Try.func167, Try.ntmps167
  go_upto_region 1 with (first | ((with_reducible refine gate_dst (N := 1) rfl ?_); (try (refine gate_guard (by rfl) ?_; dsimp only)); refine box_event ?hg (N := 1) ?hd (cs := #[.slice A0_0 l0_0.length c0_0, .slice A0_1 l0_1.length c0_1]) (t := 76) ?hr ?_; (case hd => rfl); (case hg => rfl); (case hr => first | (go_simp; done) | (go_simp; rfl)); intro gb116 hg w3 hbox hb; have n0_ := Aside0.mk (below_step (by repeat (first | (with_reducible first | exact HB.out | apply below_alloc | apply pw_below_drewN | apply below_drew1) | exact HB.out)) hb); have n1_ := Aside0.mk (hbox); have n2_ := Aside0.mk ((by rw [hg]; exact (below_size (by repeat (first | (with_reducible first | exact HB.out | apply below_alloc | apply pw_below_drewN | apply below_drew1) | exact HB.out))) : w.heap.size ≤ gb116)); have n3_ := n2_; clear HB; have HB := n0_; have BK116 := n1_; have GW116 := n2_; have GE116 := n3_; clear n0_ n1_ n2_ n3_; clear hb hbox hg))
  repeat (go_quiet (first | ((with_reducible refine gate_dst (N := 1) rfl ?_); (try (refine gate_guard (by rfl) ?_; dsimp only)); refine box_event ?hg (N := 1) ?hd (cs := #[.slice A0_0 l0_0.length c0_0, .slice A0_1 l0_1.length c0_1]) (t := 76) ?hr ?_; (case hd => rfl); (case hg => rfl); (case hr => first | (go_simp; done) | (go_simp; rfl)); intro gb116 hg w3 hbox hb; have n0_ := Aside0.mk (below_step (by repeat (first | (with_reducible first | exact HB.out | apply below_alloc | apply pw_below_drewN | apply below_drew1) | exact HB.out)) hb); have n1_ := Aside0.mk (hbox); have n2_ := Aside0.mk ((by rw [hg]; exact (below_size (by repeat (first | (with_reducible first | exact HB.out | apply below_alloc | apply pw_below_drewN | apply below_drew1) | exact HB.out))) : w.heap.size ≤ gb116)); have n3_ := n2_; clear HB; have HB := n0_; have BK116 := n1_; have GW116 := n2_; have GE116 := n3_; clear n0_ n1_ n2_ n3_; clear hb hbox hg)); go_upto_region 1 with (first | ((with_reducible refine gate_dst (N := 1) rfl ?_); (try (refine gate_guard (by rfl) ?_; dsimp only)); refine box_event ?hg (N := 1) ?hd (cs := #[.slice A0_0 l0_0.length c0_0, .slice A0_1 l0_1.length c0_1]) (t := 76) ?hr ?_; (case hd => rfl); (case hg => rfl); (case hr => first | (go_simp; done) | (go_simp; rfl)); intro gb116 hg w3 hbox hb; have n0_ := Aside0.mk (below_step (by repeat (first | (with_reducible first | exact HB.out | apply below_alloc | apply pw_below_drewN | apply below_drew1) | exact HB.out)) hb); have n1_ := Aside0.mk (hbox); have n2_ := Aside0.mk ((by rw [hg]; exact (below_size (by repeat (first | (with_reducible first | exact HB.out | apply below_alloc | apply pw_below_drewN | apply below_drew1) | exact HB.out))) : w.heap.size ≤ gb116)); have n3_ := n2_; clear HB; have HB := n0_; have BK116 := n1_; have GW116 := n2_; have GE116 := n3_; clear n0_ n1_ n2_ n3_; clear hb hbox hg)))
  (try simp only [Act.put, List.setIfInBounds_toArray, List.set_cons_zero, List.set_cons_succ])
  go_cut [17] (fun v17 wc => ∃ (kq : Nat) (x17_1 : Bool), v17 = .bool x17_1 ∧ Aside0 (spec_l16Right.j0 kq x17_1 l0_0 l0_1 = some r) ∧ Aside0 (kq ≤ k) ∧ Aside0 (wc.heap[gb116]? = some (.cells #[(.slice A0_0 l0_0.length c0_0), (.slice A0_1 l0_1.length c0_1)] 76 (0, 0))) ∧ Aside0 (Below w.heap.size w wc))
  case first =>
    have H := HC2.out
    clear HC2
    replace H := Option.bind_eq_some_iff.mp H
    obtain ⟨t117, A40, H⟩ := H
    replace H : (if t117 = true then (spec_l16Right.j0 k (decide ((l0_1.length : Int) > 400)) l0_0 l0_1) else (spec_l16Right.j0 k true l0_0 l0_1)) = some r := H
    have A4 := Aside0.mk A40
    clear A40
    by_cases c5 : t117 = true
    rotate_left
    · replace c5 := Bool.eq_false_iff.mpr c5
      subst c5
      have H1 : (spec_l16Right.j0 k true l0_0 l0_1) = some r := by rw [if_neg (show ¬ (false = true) by decide)] at H; exact H
      clear H
      have H := H1
      clear H1
      have H' := Aside0.mk H
      clear H
      have hcz9_0 : w3.cell? ⟨gb116, 0, none⟩ = some (.slice A0_0 l0_0.length c0_0) := (blk_cell BK116.out 0).trans rfl
      have hcz9_1 : w3.cell? ⟨gb116, 1, none⟩ = some (.slice A0_1 l0_1.length c0_1) := (blk_cell BK116.out 1).trans rfl
      have hfz9_0 := blk_frozen BK116.out 0
      have hfz9_1 := blk_frozen BK116.out 1
      iterate 3 (try go_wp2_with (first | (go_at_call 192; (with_reducible refine (spec_l16Tracks.calls k _ _ l0_0 false _ ?side1 ?side2 A4.out).mono ?_); (case side1 => repeat (first | exact (Kd.C_below HR0_0.out HB.out) | (with_reducible refine Kd.C_alloc ?_ _) | (with_reducible refine Kd.C_drewN ?_ _) | (with_reducible refine Kd.C_drew ?_))); (case side2 => exact HC0_0.out); rintro e w10 ⟨rfl, hb⟩; have n0_ := Aside0.mk (blk_below (g := gb116) (o := .cells #[.slice A0_0 l0_0.length c0_0, .slice A0_1 l0_1.length c0_1] 76 (0, 0)) (by (with_reducible repeat (first | refine blk_drewN ?_ _ | refine blk_drew ?_ | refine blk_alloc ?_ _)); exact BK116.out) hb); have n1_ := Aside0.mk (below_step (by repeat (first | (with_reducible first | exact HB.out | apply below_alloc | apply pw_below_drewN | apply below_drew1 | refine below_set ?_ GE116.out) | exact HB.out)) hb); clear BK116; clear HB; have BK116 := n0_; have HB := n1_; clear n0_ n1_; (try clear hb); (try clear hb2); (try clear hk); (try clear hi))); try go_quiet (first | (go_at_call 192; (with_reducible refine (spec_l16Tracks.calls k _ _ l0_0 false _ ?side1 ?side2 A4.out).mono ?_); (case side1 => repeat (first | exact (Kd.C_below HR0_0.out HB.out) | (with_reducible refine Kd.C_alloc ?_ _) | (with_reducible refine Kd.C_drewN ?_ _) | (with_reducible refine Kd.C_drew ?_))); (case side2 => exact HC0_0.out); rintro e w10 ⟨rfl, hb⟩; have n0_ := Aside0.mk (blk_below (g := gb116) (o := .cells #[.slice A0_0 l0_0.length c0_0, .slice A0_1 l0_1.length c0_1] 76 (0, 0)) (by (with_reducible repeat (first | refine blk_drewN ?_ _ | refine blk_drew ?_ | refine blk_alloc ?_ _)); exact BK116.out) hb); have n1_ := Aside0.mk (below_step (by repeat (first | (with_reducible first | exact HB.out | apply below_alloc | apply pw_below_drewN | apply below_drew1 | refine below_set ?_ GE116.out) | exact HB.out)) hb); clear BK116; clear HB; have BK116 := n0_; have HB := n1_; clear n0_ n1_; (try clear hb); (try clear hb2); (try clear hk); (try clear hi))))
      go_meet
      case rel => exact ⟨_, (true), (by first | rfl | (simp; done) | (simp [*]; done)), H', ⟨by first | omega | exact Nat.le_refl _⟩, ⟨by (with_reducible repeat (first | refine blk_drewN ?_ _ | refine blk_drew ?_ | refine blk_alloc ?_ _)); exact BK116.out⟩, ⟨by repeat (first | (with_reducible first | exact HB.out | apply below_alloc | apply pw_below_drewN | apply below_drew1 | refine below_set ?_ GE116.out) | exact HB.out)⟩⟩
    subst c5
    have H1 : (spec_l16Right.j0 k (decide ((l0_1.length : Int) > 400)) l0_0 l0_1) = some r := by rw [if_pos rfl] at H; exact H
    clear H
    have H := H1
    clear H1
    have H' := Aside0.mk H
    clear H
    have hcz6_0 : w3.cell? ⟨gb116, 0, none⟩ = some (.slice A0_0 l0_0.length c0_0) := (blk_cell BK116.out 0).trans rfl
    have hcz6_1 : w3.cell? ⟨gb116, 1, none⟩ = some (.slice A0_1 l0_1.length c0_1) := (blk_cell BK116.out 1).trans rfl
    have hfz6_0 := blk_frozen BK116.out 0
    have hfz6_1 := blk_frozen BK116.out 1
    iterate 3 (try go_wp2_with (first | (go_at_call 192; (with_reducible refine (spec_l16Tracks.calls k _ _ l0_0 true _ ?side1 ?side2 A4.out).mono ?_); (case side1 => repeat (first | exact (Kd.C_below HR0_0.out HB.out) | (with_reducible refine Kd.C_alloc ?_ _) | (with_reducible refine Kd.C_drewN ?_ _) | (with_reducible refine Kd.C_drew ?_))); (case side2 => exact HC0_0.out); rintro e w7 ⟨rfl, hb⟩; have n0_ := Aside0.mk (blk_below (g := gb116) (o := .cells #[.slice A0_0 l0_0.length c0_0, .slice A0_1 l0_1.length c0_1] 76 (0, 0)) (by (with_reducible repeat (first | refine blk_drewN ?_ _ | refine blk_drew ?_ | refine blk_alloc ?_ _)); exact BK116.out) hb); have n1_ := Aside0.mk (below_step (by repeat (first | (with_reducible first | exact HB.out | apply below_alloc | apply pw_below_drewN | apply below_drew1 | refine below_set ?_ GE116.out) | exact HB.out)) hb); clear BK116; clear HB; have BK116 := n0_; have HB := n1_; clear n0_ n1_; (try clear hb); (try clear hb2); (try clear hk); (try clear hi); have hcz8_0 : w7.cell? ⟨gb116, 0, none⟩ = some (.slice A0_0 l0_0.length c0_0) := (blk_cell BK116.out 0).trans rfl; have hcz8_1 : w7.cell? ⟨gb116, 1, none⟩ = some (.slice A0_1 l0_1.length c0_1) := (blk_cell BK116.out 1).trans rfl; have hfz8_0 := blk_frozen BK116.out 0; have hfz8_1 := blk_frozen BK116.out 1)); try go_quiet (first | (go_at_call 192; (with_reducible refine (spec_l16Tracks.calls k _ _ l0_0 true _ ?side1 ?side2 A4.out).mono ?_); (case side1 => repeat (first | exact (Kd.C_below HR0_0.out HB.out) | (with_reducible refine Kd.C_alloc ?_ _) | (with_reducible refine Kd.C_drewN ?_ _) | (with_reducible refine Kd.C_drew ?_))); (case side2 => exact HC0_0.out); rintro e w7 ⟨rfl, hb⟩; have n0_ := Aside0.mk (blk_below (g := gb116) (o := .cells #[.slice A0_0 l0_0.length c0_0, .slice A0_1 l0_1.length c0_1] 76 (0, 0)) (by (with_reducible repeat (first | refine blk_drewN ?_ _ | refine blk_drew ?_ | refine blk_alloc ?_ _)); exact BK116.out) hb); have n1_ := Aside0.mk (below_step (by repeat (first | (with_reducible first | exact HB.out | apply below_alloc | apply pw_below_drewN | apply below_drew1 | refine below_set ?_ GE116.out) | exact HB.out)) hb); clear BK116; clear HB; have BK116 := n0_; have HB := n1_; clear n0_ n1_; (try clear hb); (try clear hb2); (try clear hk); (try clear hi); have hcz8_0 : w7.cell? ⟨gb116, 0, none⟩ = some (.slice A0_0 l0_0.length c0_0) := (blk_cell BK116.out 0).trans rfl; have hcz8_1 : w7.cell? ⟨gb116, 1, none⟩ = some (.slice A0_1 l0_1.length c0_1) := (blk_cell BK116.out 1).trans rfl; have hfz8_0 := blk_frozen BK116.out 0; have hfz8_1 := blk_frozen BK116.out 1)))
    go_meet
    case rel => exact ⟨_, (decide ((l0_1.length : Int) > 400)), (by first | rfl | (simp; done) | (simp [*]; done)), H', ⟨by first | omega | exact Nat.le_refl _⟩, ⟨by (with_reducible repeat (first | refine blk_drewN ?_ _ | refine blk_drew ?_ | refine blk_alloc ?_ _)); exact BK116.out⟩, ⟨by repeat (first | (with_reducible first | exact HB.out | apply below_alloc | apply pw_below_drewN | apply below_drew1 | refine below_set ?_ GE116.out) | exact HB.out)⟩⟩
  case rest =>
    clear HC2
    try clear c1
    try clear p2
    try clear c5
    try clear hcz6_0
    try clear hcz6_1
    try clear hcz8_0
    try clear hcz8_1
    try clear hcz9_0
    try clear hcz9_1
    try clear hfz6_0
    try clear hfz6_1
    try clear hfz8_0
    try clear hfz8_1
    try clear hfz9_0
    try clear hfz9_1
    obtain ⟨kq, x17_1, rfl, HA, HJ1, BK116, HB⟩ := hcut
    cases kq with
    | zero => exact absurd HA.out (by simp [spec_l16Right.j0])
    | succ kj1 =>
      have H := HA.out
      clear HA
      simp only [spec_l16Right.j0] at H
      by_cases c11 : x17_1 = true
      · subst c11
        have H1 : (some false) = some r := by rw [if_pos rfl] at H; exact H
        clear H
        have H := H1
        clear H1
        obtain rfl := Option.some.inj H
        go_wp2
        repeat (go_quiet (fail); try go_wp2)
        go_ret
        exact ⟨by first | rfl | (simp [errW_none, errW_some] <;> rfl) | (simp [*, errW_none, errW_some] <;> rfl), by repeat (first | (with_reducible first | exact HB.out | apply below_alloc | apply pw_below_drewN | apply below_drew1 | refine below_set ?_ GE116.out) | exact HB.out)⟩
      replace c11 := Bool.eq_false_iff.mpr c11
      subst c11
      have H1 : (if 0 ≤ (l0_0.length : Int) then (if ((l0_0.length : Int) : Int).toNat ≤ 35184372088832 then ((some (List.replicate ((l0_0.length : Int) : Int).toNat 0 : List Int)).bind fun y118 => (spec_l16Right.l0 kj1 y118 (y118.length : Int) 0 l0_0 l0_1)) else (none)) else (none)) = some r := by rw [if_neg (show ¬ (false = true) by decide)] at H; exact H
      clear H
      have H := H1
      clear H1
      by_cases c12 : 0 ≤ (l0_0.length : Int)
      rotate_left
      · rw [if_neg c12] at H
        exact absurd H (by simp)
      rw [if_pos c12] at H
      have c12b0 := eq_true c12
      have c12b1 : decide (0 ≤ (l0_0.length : Int)) = true := decide_eq_true c12
      clear c12
      by_cases c13 : ((l0_0.length : Int) : Int).toNat ≤ 35184372088832
      rotate_left
      · rw [if_neg c13] at H
        exact absurd H (by simp)
      rw [if_pos c13] at H
      have c13b0 := eq_true c13
      have c13b1 : decide (((l0_0.length : Int) : Int).toNat ≤ 35184372088832) = true := decide_eq_true c13
      clear c13
      obtain ⟨y118, hy118⟩ : ∃ y_ : List Int, y_ = (List.replicate ((l0_0.length : Int) : Int).toNat 0) := ⟨_, rfl⟩
      replace H : (spec_l16Right.l0 kj1 y118 (y118.length : Int) 0 l0_0 l0_1) = some r := by first | (rw [hy118]; with_reducible exact H) | (have H2_ := (Option.bind_some _ _).symm.trans H; rw [hy118]; with_reducible exact H2_) | (have H2_ := (Option.bind_some _ _).symm.trans H; with_reducible exact H2_) | with_reducible exact H | (rw [hy118]; exact H) | exact H
      have Ny118 := Aside0.mk hy118
      clear hy118
      have H' := Aside0.mk H
      clear H
      have hcz14_0 : wc.cell? ⟨gb116, 0, none⟩ = some (.slice A0_0 l0_0.length c0_0) := (blk_cell BK116.out 0).trans rfl
      have hcz14_1 : wc.cell? ⟨gb116, 1, none⟩ = some (.slice A0_1 l0_1.length c0_1) := (blk_cell BK116.out 1).trans rfl
      have hfz14_0 := blk_frozen BK116.out 0
      have hfz14_1 := blk_frozen BK116.out 1
      iterate 3 (try go_wp2_with (first | ((with_reducible refine gate_dst (N := 21) rfl ?_); (try (refine gate_guard (by rfl) ?_; dsimp only)); refine Kd.R_make (Kd.int .i64) _ 3 rfl (N := 21) rfl 22 _ _ rfl (l0_0.length : Int) rfl rfl Try.underlying22 (.int .i64 0) 8 info3 rfl (by decide) (by omega) 0 (ok := fun _ => True) (okp := fun _ => True) rfl (fun _ hk => hk) trivial (of_decide_eq_true (by first | (with_reducible assumption) | assumption)) (Nat.le_trans (Nat.mul_le_mul_right _ (of_decide_eq_true (by first | (with_reducible assumption) | assumption) : (l0_0.length : Int).toNat ≤ 35184372088832)) (by omega)) (Below.refl _ _) (Nat.le_refl _) ?_; intro v119 w15 ho16 hb hg_ hnew_; clear hg_ hnew_; (first | rw [← Ny118.out] at ho16 | (simp only [Int.reduceToNat] at ho16; rw [← Ny118.out] at ho16)); have n0_ := Aside0.mk (Kd.R_lower ho16 (below_size (by repeat (first | (with_reducible first | exact HB.out | apply below_alloc | apply pw_below_drewN | apply below_drew1 | refine below_set ?_ GE116.out) | exact HB.out)))); have n1_ := Aside0.mk (blk_below (g := gb116) (o := .cells #[.slice A0_0 l0_0.length c0_0, .slice A0_1 l0_1.length c0_1] 76 (0, 0)) (by (with_reducible repeat (first | refine blk_drewN ?_ _ | refine blk_drew ?_ | refine blk_alloc ?_ _)); exact BK116.out) hb); have n2_ := Aside0.mk (below_step (by repeat (first | (with_reducible first | exact HB.out | apply below_alloc | apply pw_below_drewN | apply below_drew1 | refine below_set ?_ GE116.out) | exact HB.out)) hb); clear BK116; clear HB; have HO120 := n0_; have BK116 := n1_; have HB := n2_; clear n0_ n1_ n2_; clear hb ho16; obtain ⟨Ao17, co17, eo17⟩ := Kd.R_slice HO120.out; subst eo17)); try go_quiet (first | ((with_reducible refine gate_dst (N := 21) rfl ?_); (try (refine gate_guard (by rfl) ?_; dsimp only)); refine Kd.R_make (Kd.int .i64) _ 3 rfl (N := 21) rfl 22 _ _ rfl (l0_0.length : Int) rfl rfl Try.underlying22 (.int .i64 0) 8 info3 rfl (by decide) (by omega) 0 (ok := fun _ => True) (okp := fun _ => True) rfl (fun _ hk => hk) trivial (of_decide_eq_true (by first | (with_reducible assumption) | assumption)) (Nat.le_trans (Nat.mul_le_mul_right _ (of_decide_eq_true (by first | (with_reducible assumption) | assumption) : (l0_0.length : Int).toNat ≤ 35184372088832)) (by omega)) (Below.refl _ _) (Nat.le_refl _) ?_; intro v119 w15 ho16 hb hg_ hnew_; clear hg_ hnew_; (first | rw [← Ny118.out] at ho16 | (simp only [Int.reduceToNat] at ho16; rw [← Ny118.out] at ho16)); have n0_ := Aside0.mk (Kd.R_lower ho16 (below_size (by repeat (first | (with_reducible first | exact HB.out | apply below_alloc | apply pw_below_drewN | apply below_drew1 | refine below_set ?_ GE116.out) | exact HB.out)))); have n1_ := Aside0.mk (blk_below (g := gb116) (o := .cells #[.slice A0_0 l0_0.length c0_0, .slice A0_1 l0_1.length c0_1] 76 (0, 0)) (by (with_reducible repeat (first | refine blk_drewN ?_ _ | refine blk_drew ?_ | refine blk_alloc ?_ _)); exact BK116.out) hb); have n2_ := Aside0.mk (below_step (by repeat (first | (with_reducible first | exact HB.out | apply below_alloc | apply pw_below_drewN | apply below_drew1 | refine below_set ?_ GE116.out) | exact HB.out)) hb); clear BK116; clear HB; have HO120 := n0_; have BK116 := n1_; have HB := n2_; clear n0_ n1_ n2_; clear hb ho16; obtain ⟨Ao17, co17, eo17⟩ := Kd.R_slice HO120.out; subst eo17)))
      go_loopg [24] kj1 (fun kq v24 w' => ∃ (x3_2 : List Int) (x24_2 : Int), v24 = .int .i64 x24_2 ∧ Aside0 (spec_l16Right.l0 kq x3_2 (y118.length : Int) x24_2 l0_0 l0_1 = some r) ∧ Aside0 (kq ≤ kj1) ∧ Aside0 (Kd.R (Kd.int .i64) 3 w' w.heap.size (fun _ => True) (.slice Ao17 y118.length co17) x3_2) ∧ Aside0 (w'.heap[gb116]? = some (.cells #[(.slice A0_0 l0_0.length c0_0), (.slice A0_1 l0_1.length c0_1)] 76 (0, 0))) ∧ Aside0 (Below w.heap.size w w'))
      case atStart => exact ⟨(y118), (0), (by first | rfl | (simp; done) | (simp [*]; done)), H', ⟨Nat.le_refl _⟩, ⟨by (with_reducible repeat (first | apply Kd.R_alloc | apply Kd.R_drewN | apply Kd.R_drew)); exact HO120.out⟩, ⟨by (with_reducible repeat (first | refine blk_drewN ?_ _ | refine blk_drew ?_ | refine blk_alloc ?_ _)); exact BK116.out⟩, ⟨by repeat (first | (with_reducible first | exact HB.out | apply below_alloc | apply pw_below_drewN | apply below_drew1 | refine below_set ?_ GE116.out) | exact HB.out)⟩⟩
      case round =>
        clear H'
        try clear c1
        try clear p2
        try clear c5
        try clear c11
        try clear c12
        try clear c12b0
        try clear c12b1
        try clear c13
        try clear c13b0
        try clear c13b1
        try clear c16
        try clear hcz14_0
        try clear hcz14_1
        try clear hcz6_0
        try clear hcz6_1
        try clear hcz8_0
        try clear hcz8_1
        try clear hcz9_0
        try clear hcz9_1
        try clear hfz14_0
        try clear hfz14_1
        try clear hfz6_0
        try clear hfz6_1
        try clear hfz8_0
        try clear hfz8_1
        try clear hfz9_0
        try clear hfz9_1
        try clear p2
        obtain ⟨x3_2, x24_2, rfl, HA, HK2, HO_3, BK116, HB⟩ := hrel
        have hl3_2 := (Kd.R_reads' HO_3.out).1
        rw [hl3_2] at HO_3
        (try simp only [hl3_2])
        (try simp only [hl3_2] at BK116)
        cases gk with
        | zero => exact absurd HA.out (by simp [spec_l16Right.l0])
        | succ k2 =>
          have H := HA.out
          clear HA
          simp only [spec_l16Right.l0] at H
          by_cases c18 : x24_2 < (y118.length : Int)
          · rw [if_pos c18] at H
            have c18b0 : decide (x24_2 < (y118.length : Int)) = true := decide_eq_true c18
            (try simp only [hl3_2] at c18b0)
            clear c18
            by_cases c19 : 0 ≤ x24_2
            rotate_left
            · rw [if_neg c19] at H
              exact absurd H (by simp)
            rw [if_pos c19] at H
            have c19b0 : decide (0 ≤ x24_2) = true := decide_eq_true c19
            clear c19
            by_cases c20 : x24_2 < (x3_2.length : Int)
            rotate_left
            · rw [if_neg c20] at H
              exact absurd H (by simp)
            rw [if_pos c20] at H
            have c20b0 : decide (x24_2 < (x3_2.length : Int)) = true := decide_eq_true c20
            (try simp only [hl3_2] at c20b0)
            clear c20
            obtain ⟨y121, hy121⟩ : ∃ y_ : List Int, y_ = (x3_2.set (x24_2 : Int).toNat (-1)) := ⟨_, rfl⟩
            replace H : (spec_l16Right.l0 k2 y121 (y118.length : Int) (wrap64 (x24_2 + 1)) l0_0 l0_1) = some r := by first | (rw [hy121]; with_reducible exact H) | (have H2_ := (Option.bind_some _ _).symm.trans H; rw [hy121]; with_reducible exact H2_) | (have H2_ := (Option.bind_some _ _).symm.trans H; with_reducible exact H2_) | with_reducible exact H | (rw [hy121]; exact H) | exact H
            have Ny121 := Aside0.mk hy121
            clear hy121
            have H' := Aside0.mk H
            clear H
            have p21 : 0 ≤ (x24_2 : Int) := of_decide_eq_true (by first | (with_reducible assumption) | assumption)
            have q21 : (x24_2 : Int) < ((x3_2.length : Int) : Int) := of_decide_eq_true (by first | (with_reducible assumption) | assumption)
            obtain ⟨go21, co21, eo21, gb21, gl21, cl21, HG21⟩ := Kd.R_form HO_3.out (by omega)
            (first | cases eo21 | (injection eo21 with ea_ en_ ec_; (first | subst ea_ | (injection ea_ with ea_; subst ea_)); subst ec_; clear en_))
            have GB21 := Aside0.mk gb21
            have GG21 := Aside0.mk HG21
            clear gb21 gl21 HG21
            obtain ⟨hx21_0, hf21_0⟩ := Kd.R_celln 0 HO_3.out (x24_2 : Int) p21 q21
            replace p21 := eq_true p21
            replace q21 := eq_true q21
            have HP22 := Kd.R_putg HO_3.out (x24_2 : Int) (-1)
            iterate 3 (try go_wp2_with (first | ((with_reducible refine gate_store (t := 3) (p := 29) rfl ?_); (try (rw [drewN_self wr]; generalize hq_ : World.drewN wr _ = wr; have n0_ := Aside0.mk (Kd.R_at hq_ HO_3.out); have n1_ := Aside0.mk (blk_at hq_ BK116.out); have n2_ := Aside0.mk (below_at hq_ HB.out); clear hq_ HO_3 BK116 HB; have HO_3 := n0_; have BK116 := n1_; have HB := n2_; clear n0_ n1_ n2_; (try (have HP22 := Kd.R_putg HO_3.out (x24_2 : Int) (-1))))); refine store_event (t := 3) (p := 29) (v := ?vo_w23) (w1 := (wr.setCell ⟨go21, (x24_2 : Int).toNat, none⟩ (.int .i64 (-1)))) ?hg ?ho ?hn ?hr ?_; (case ho => rfl); (case hg => rfl); (case hn => rfl); (case hr => first | (go_simp; done) | (go_simp; rfl)); intro w23 hw; have hg : wr.grownBy w23 (some go21) := (by rw [hw]; exact HP22.2); have hp_ : Kd.R (Kd.int .i64) 3 w23 w.heap.size (fun _ => True) (.slice (some ⟨go21, 0, none⟩) x3_2.length co17) y121 := (by rw [hw, Ny121.out]; exact HP22.1); clear HP22; have n0_ := Aside0.mk (hp_); have n1_ := Aside0.mk (blk_grown (g := gb116) (o := .cells #[.slice A0_0 l0_0.length c0_0, .slice A0_1 l0_1.length c0_1] 76 (0, 0)) (by (with_reducible repeat (first | refine blk_drewN ?_ _ | refine blk_drew ?_ | refine blk_alloc ?_ _)); exact BK116.out) hg (Kd.R_ne HO_3.out BK116.out (by decide))); have n2_ := Aside0.mk ((by rw [hw]; exact below_set (HB.out) GB21.out : Below w.heap.size w w23)); clear HO_3; clear BK116; clear HB; have HO_3 := n0_; have BK116 := n1_; have HB := n2_; clear n0_ n1_ n2_; clear hg hw hp_)); try go_quiet (first | ((with_reducible refine gate_store (t := 3) (p := 29) rfl ?_); (try (rw [drewN_self wr]; generalize hq_ : World.drewN wr _ = wr; have n0_ := Aside0.mk (Kd.R_at hq_ HO_3.out); have n1_ := Aside0.mk (blk_at hq_ BK116.out); have n2_ := Aside0.mk (below_at hq_ HB.out); clear hq_ HO_3 BK116 HB; have HO_3 := n0_; have BK116 := n1_; have HB := n2_; clear n0_ n1_ n2_; (try (have HP22 := Kd.R_putg HO_3.out (x24_2 : Int) (-1))))); refine store_event (t := 3) (p := 29) (v := ?vo_w23) (w1 := (wr.setCell ⟨go21, (x24_2 : Int).toNat, none⟩ (.int .i64 (-1)))) ?hg ?ho ?hn ?hr ?_; (case ho => rfl); (case hg => rfl); (case hn => rfl); (case hr => first | (go_simp; done) | (go_simp; rfl)); intro w23 hw; have hg : wr.grownBy w23 (some go21) := (by rw [hw]; exact HP22.2); have hp_ : Kd.R (Kd.int .i64) 3 w23 w.heap.size (fun _ => True) (.slice (some ⟨go21, 0, none⟩) x3_2.length co17) y121 := (by rw [hw, Ny121.out]; exact HP22.1); clear HP22; have n0_ := Aside0.mk (hp_); have n1_ := Aside0.mk (blk_grown (g := gb116) (o := .cells #[.slice A0_0 l0_0.length c0_0, .slice A0_1 l0_1.length c0_1] 76 (0, 0)) (by (with_reducible repeat (first | refine blk_drewN ?_ _ | refine blk_drew ?_ | refine blk_alloc ?_ _)); exact BK116.out) hg (Kd.R_ne HO_3.out BK116.out (by decide))); have n2_ := Aside0.mk ((by rw [hw]; exact below_set (HB.out) GB21.out : Below w.heap.size w w23)); clear HO_3; clear BK116; clear HB; have HO_3 := n0_; have BK116 := n1_; have HB := n2_; clear n0_ n1_ n2_; clear hg hw hp_)))
            (try simp only [← hl3_2])
            go_roundg k2
            case measure => have := HJ1.out; have := HK2.out; omega
            case rel => exact ⟨(y121), (wrap64 (x24_2 + 1)), (by first | rfl | (simp; done) | (simp [*]; done)), H', ⟨by have := HJ1.out; have := HK2.out; omega⟩, ⟨by (try simp only [hl3_2]); (with_reducible repeat (first | apply Kd.R_alloc | apply Kd.R_drewN | apply Kd.R_drew)); exact HO_3.out⟩, ⟨by (try simp only [hl3_2]); (with_reducible repeat (first | refine blk_drewN ?_ _ | refine blk_drew ?_ | refine blk_alloc ?_ _)); exact BK116.out⟩, ⟨by repeat (first | (with_reducible first | exact HB.out | apply below_alloc | apply pw_below_drewN | apply below_drew1 | refine below_set ?_ GE116.out) | exact HB.out)⟩⟩
          rw [if_neg c18] at H
          have c18b0 : decide (x24_2 < (y118.length : Int)) = false := decide_eq_false c18
          (try simp only [hl3_2] at c18b0)
          clear c18
          have H' := Aside0.mk H
          clear H
          have hcz24_0 : wr.cell? ⟨gb116, 0, none⟩ = some (.slice A0_0 l0_0.length c0_0) := (blk_cell BK116.out 0).trans rfl
          have hcz24_1 : wr.cell? ⟨gb116, 1, none⟩ = some (.slice A0_1 l0_1.length c0_1) := (blk_cell BK116.out 1).trans rfl
          have hfz24_0 := blk_frozen BK116.out 0
          have hfz24_1 := blk_frozen BK116.out 1
          go_wp2
          repeat (go_quiet (fail); try go_wp2)
          go_loopg [5, 34] k2 (fun kq v5 v34 w' => ∃ (x3_3 : List Int) (x5_3 : Int) (x34_3 : Int), v5 = .int .i64 x5_3 ∧ v34 = .int .i64 x34_3 ∧ Aside0 (spec_l16Right.l1 kq x3_3 x5_3 l0_1 (l0_1.length : Int) x34_3 l0_0 l0_1 = some r) ∧ Aside0 (kq ≤ k2) ∧ Aside0 (Kd.R (Kd.int .i64) 3 w' w.heap.size (fun _ => True) (.slice Ao17 x3_2.length co17) x3_3) ∧ Aside0 (w'.heap[gb116]? = some (.cells #[(.slice A0_0 l0_0.length c0_0), (.slice A0_1 l0_1.length c0_1)] 76 (0, 0))) ∧ Aside0 (Below w.heap.size w w'))
          case atStart => exact ⟨(x3_2), (0), (0), (by first | rfl | (simp; done) | (simp [*]; done)), (by first | rfl | (simp; done) | (simp [*]; done)), H', ⟨Nat.le_refl _⟩, ⟨by (try simp only [hl3_2]); (with_reducible repeat (first | apply Kd.R_alloc | apply Kd.R_drewN | apply Kd.R_drew)); exact HO_3.out⟩, ⟨by (try simp only [hl3_2]); (with_reducible repeat (first | refine blk_drewN ?_ _ | refine blk_drew ?_ | refine blk_alloc ?_ _)); exact BK116.out⟩, ⟨by repeat (first | (with_reducible first | exact HB.out | apply below_alloc | apply pw_below_drewN | apply below_drew1 | refine below_set ?_ GE116.out) | exact HB.out)⟩⟩
          case round =>
            clear H'
            try clear c1
            try clear c2
            try clear p2
            try clear q2
            try clear hx2
            try clear hf2
            try clear c5
            try clear p6
            try clear c11
            try clear c12
            try clear c12b0
            try clear c12b1
            try clear c13
            try clear c13b0
            try clear c13b1
            try clear c16
            try clear c18
            try clear c18b0
            try clear c19
            try clear c19b0
            try clear c20
            try clear c20b0
            try clear p21
            try clear q21
            try clear hx21
            try clear hf21
            try clear hcz14_0
            try clear hcz14_1
            try clear hcz24_0
            try clear hcz24_1
            try clear hcz6_0
            try clear hcz6_1
            try clear hcz8_0
            try clear hcz8_1
            try clear hcz9_0
            try clear hcz9_1
            try clear hfz14_0
            try clear hfz14_1
            try clear hfz24_0
            try clear hfz24_1
            try clear hfz6_0
            try clear hfz6_1
            try clear hfz8_0
            try clear hfz8_1
            try clear hfz9_0
            try clear hfz9_1
            try clear hx21_0
            try clear p2
            try clear p21
            try clear q21
            obtain ⟨x3_3, x5_3, x34_3, rfl, rfl, HA, HK3, HO_3, BK116, HB⟩ := hrel
            have hl3_3 := (Kd.R_reads' HO_3.out).1
            rw [hl3_3] at HO_3
            (try simp only [hl3_3])
            (try simp only [hl3_3] at BK116)
            cases gk with
            | zero => exact absurd HA.out (by simp [spec_l16Right.l1])
            | succ k3 =>
              have H := HA.out
              clear HA
              simp only [spec_l16Right.l1] at H
              by_cases c25 : x34_3 < (l0_1.length : Int)
              rotate_left
              · rw [if_neg c25] at H
                have c25b0 : decide (x34_3 < (l0_1.length : Int)) = false := decide_eq_false c25
                (try simp only [hl3_2] at c25b0)
                (try simp only [hl3_3] at c25b0)
                clear c25
                obtain rfl := Option.some.inj H
                go_wp2
                repeat (go_quiet (fail); try go_wp2)
                go_ret
                exact ⟨by first | rfl | (simp [errW_none, errW_some] <;> rfl) | (simp [*, errW_none, errW_some] <;> rfl), by repeat (first | (with_reducible first | exact HB.out | apply below_alloc | apply pw_below_drewN | apply below_drew1 | refine below_set ?_ GE116.out) | exact HB.out)⟩
              rw [if_pos c25] at H
              have c25b0 : decide (x34_3 < (l0_1.length : Int)) = true := decide_eq_true c25
              (try simp only [hl3_2] at c25b0)
              (try simp only [hl3_3] at c25b0)
              clear c25
              by_cases c26 : 0 ≤ x34_3
              rotate_left
              · rw [if_neg c26] at H
                exact absurd H (by simp)
              rw [if_pos c26] at H
              have c26b0 : decide (0 ≤ x34_3) = true := decide_eq_true c26
              clear c26
              by_cases c27 : x34_3 < (l0_1.length : Int)
              rotate_left
              · rw [if_neg c27] at H
                exact absurd H (by simp)
              rw [if_pos c27] at H
              have c27b0 : decide (x34_3 < (l0_1.length : Int)) = true := decide_eq_true c27
              (try simp only [hl3_2] at c27b0)
              (try simp only [hl3_3] at c27b0)
              clear c27
              have HC28 := Aside0.mk H
              clear H
              have p122 : 0 ≤ (x34_3 : Int) := of_decide_eq_true (by first | (with_reducible assumption) | assumption)
              have q122 : x34_3 < (l0_1.length : Int) := of_decide_eq_true (by first | (with_reducible assumption) | assumption)
              obtain ⟨ad122, A122_4, c122_4, e122, hx122_0, hx122_1, hx122_2, hx122_3, hx122_4, hl122_4, hi122_4⟩ := at_T185 HR0_1.out x34_3 p122 q122
              cases e122
              replace hx122_0 := (HB.out.cell (World.block_lt_of_cell? w _ hx122_0)).trans hx122_0
              replace hx122_1 := (HB.out.cell (World.block_lt_of_cell? w _ hx122_1)).trans hx122_1
              replace hx122_2 := (HB.out.cell (World.block_lt_of_cell? w _ hx122_2)).trans hx122_2
              replace hx122_3 := (HB.out.cell (World.block_lt_of_cell? w _ hx122_3)).trans hx122_3
              replace hx122_4 := (HB.out.cell (World.block_lt_of_cell? w _ hx122_4)).trans hx122_4
              have HR122_4 := Aside0.mk hi122_4
              have HC122_4 := Aside0.mk hl122_4
              clear hi122_4 hl122_4
              replace p122 := eq_true p122
              replace q122 := eq_true q122
              go_upto_region 13 with (first | ((with_reducible refine gate_dst (N := 7) rfl ?_); (try (refine gate_guard (by rfl) ?_; dsimp only)); refine box_event ?hg (N := 7) ?hd (cs := #[.int .i64 0, .int .i64 0, .int .i64 0, .bool false, .slice none 0 0]) (t := 185) ?hr ?_; (case hd => rfl); (case hg => rfl); (case hr => first | (go_simp; done) | (go_simp; rfl)); intro gb123 hg w29 hbox hb; have n0_ := Aside0.mk (Kd.R_below (by (with_reducible repeat (first | apply Kd.R_alloc | apply Kd.R_drewN | apply Kd.R_drew)); exact HO_3.out) hb); have n1_ := Aside0.mk (blk_below (g := gb116) (o := .cells #[.slice A0_0 l0_0.length c0_0, .slice (some ad122) l0_1.length c0_1] 76 (0, 0)) (by (with_reducible repeat (first | refine blk_drewN ?_ _ | refine blk_drew ?_ | refine blk_alloc ?_ _)); exact BK116.out) hb); have n2_ := Aside0.mk (below_step (by repeat (first | (with_reducible first | exact HB.out | apply below_alloc | apply pw_below_drewN | apply below_drew1 | refine below_set ?_ GE116.out) | exact HB.out)) hb); have n3_ := Aside0.mk (hbox); have n4_ := Aside0.mk ((by rw [hg]; exact (below_size (by repeat (first | (with_reducible first | exact HB.out | apply below_alloc | apply pw_below_drewN | apply below_drew1 | refine below_set ?_ GE116.out) | exact HB.out))) : w.heap.size ≤ gb123)); have n5_ := n4_; have n6_ := Aside0.mk ((by rw [hg]; exact Nat.ne_of_lt (blk_lt (g := gb116) (o := .cells #[.slice A0_0 l0_0.length c0_0, .slice (some ad122) l0_1.length c0_1] 76 (0, 0)) (by (with_reducible repeat (first | refine blk_drewN ?_ _ | refine blk_drew ?_ | refine blk_alloc ?_ _)); exact BK116.out)) : gb116 ≠ gb123)); have n7_ := Aside0.mk ((by rw [hg]; exact Nat.ne_of_gt (blk_lt (g := gb116) (o := .cells #[.slice A0_0 l0_0.length c0_0, .slice (some ad122) l0_1.length c0_1] 76 (0, 0)) (by (with_reducible repeat (first | refine blk_drewN ?_ _ | refine blk_drew ?_ | refine blk_alloc ?_ _)); exact BK116.out)) : gb123 ≠ gb116)); clear HO_3; clear BK116; clear HB; have HO_3 := n0_; have BK116 := n1_; have HB := n2_; have BK123 := n3_; have GW123 := n4_; have GE123 := n5_; have NB116_123 := n6_; have NB123_116 := n7_; clear n0_ n1_ n2_ n3_ n4_ n5_ n6_ n7_; clear hb hbox hg; have hnb30 := NB123_116.out; have hnc30 := NB116_123.out; have hcz31_0 : w29.cell? ⟨gb123, 0, none⟩ = some (.int .i64 0) := (blk_cell BK123.out 0).trans rfl; have hcz31_1 : w29.cell? ⟨gb123, 1, none⟩ = some (.int .i64 0) := (blk_cell BK123.out 1).trans rfl; have hcz31_2 : w29.cell? ⟨gb123, 2, none⟩ = some (.int .i64 0) := (blk_cell BK123.out 2).trans rfl; have hcz31_3 : w29.cell? ⟨gb123, 3, none⟩ = some (.bool false) := (blk_cell BK123.out 3).trans rfl; have hcz31_4 : w29.cell? ⟨gb123, 4, none⟩ = some (.slice none 0 0) := (blk_cell BK123.out 4).trans rfl; have hfz31_0 := blk_frozen BK123.out 0; have hfz31_1 := blk_frozen BK123.out 1; have hfz31_2 := blk_frozen BK123.out 2; have hfz31_3 := blk_frozen BK123.out 3; have hfz31_4 := blk_frozen BK123.out 4))
              repeat (go_quiet (first | ((with_reducible refine gate_dst (N := 7) rfl ?_); (try (refine gate_guard (by rfl) ?_; dsimp only)); refine box_event ?hg (N := 7) ?hd (cs := #[.int .i64 0, .int .i64 0, .int .i64 0, .bool false, .slice none 0 0]) (t := 185) ?hr ?_; (case hd => rfl); (case hg => rfl); (case hr => first | (go_simp; done) | (go_simp; rfl)); intro gb123 hg w29 hbox hb; have n0_ := Aside0.mk (Kd.R_below (by (with_reducible repeat (first | apply Kd.R_alloc | apply Kd.R_drewN | apply Kd.R_drew)); exact HO_3.out) hb); have n1_ := Aside0.mk (blk_below (g := gb116) (o := .cells #[.slice A0_0 l0_0.length c0_0, .slice (some ad122) l0_1.length c0_1] 76 (0, 0)) (by (with_reducible repeat (first | refine blk_drewN ?_ _ | refine blk_drew ?_ | refine blk_alloc ?_ _)); exact BK116.out) hb); have n2_ := Aside0.mk (below_step (by repeat (first | (with_reducible first | exact HB.out | apply below_alloc | apply pw_below_drewN | apply below_drew1 | refine below_set ?_ GE116.out) | exact HB.out)) hb); have n3_ := Aside0.mk (hbox); have n4_ := Aside0.mk ((by rw [hg]; exact (below_size (by repeat (first | (with_reducible first | exact HB.out | apply below_alloc | apply pw_below_drewN | apply below_drew1 | refine below_set ?_ GE116.out) | exact HB.out))) : w.heap.size ≤ gb123)); have n5_ := n4_; have n6_ := Aside0.mk ((by rw [hg]; exact Nat.ne_of_lt (blk_lt (g := gb116) (o := .cells #[.slice A0_0 l0_0.length c0_0, .slice (some ad122) l0_1.length c0_1] 76 (0, 0)) (by (with_reducible repeat (first | refine blk_drewN ?_ _ | refine blk_drew ?_ | refine blk_alloc ?_ _)); exact BK116.out)) : gb116 ≠ gb123)); have n7_ := Aside0.mk ((by rw [hg]; exact Nat.ne_of_gt (blk_lt (g := gb116) (o := .cells #[.slice A0_0 l0_0.length c0_0, .slice (some ad122) l0_1.length c0_1] 76 (0, 0)) (by (with_reducible repeat (first | refine blk_drewN ?_ _ | refine blk_drew ?_ | refine blk_alloc ?_ _)); exact BK116.out)) : gb123 ≠ gb116)); clear HO_3; clear BK116; clear HB; have HO_3 := n0_; have BK116 := n1_; have HB := n2_; have BK123 := n3_; have GW123 := n4_; have GE123 := n5_; have NB116_123 := n6_; have NB123_116 := n7_; clear n0_ n1_ n2_ n3_ n4_ n5_ n6_ n7_; clear hb hbox hg; have hnb30 := NB123_116.out; have hnc30 := NB116_123.out; have hcz31_0 : w29.cell? ⟨gb123, 0, none⟩ = some (.int .i64 0) := (blk_cell BK123.out 0).trans rfl; have hcz31_1 : w29.cell? ⟨gb123, 1, none⟩ = some (.int .i64 0) := (blk_cell BK123.out 1).trans rfl; have hcz31_2 : w29.cell? ⟨gb123, 2, none⟩ = some (.int .i64 0) := (blk_cell BK123.out 2).trans rfl; have hcz31_3 : w29.cell? ⟨gb123, 3, none⟩ = some (.bool false) := (blk_cell BK123.out 3).trans rfl; have hcz31_4 : w29.cell? ⟨gb123, 4, none⟩ = some (.slice none 0 0) := (blk_cell BK123.out 4).trans rfl; have hfz31_0 := blk_frozen BK123.out 0; have hfz31_1 := blk_frozen BK123.out 1; have hfz31_2 := blk_frozen BK123.out 2; have hfz31_3 := blk_frozen BK123.out 3; have hfz31_4 := blk_frozen BK123.out 4)); go_upto_region 13 with (first | ((with_reducible refine gate_dst (N := 7) rfl ?_); (try (refine gate_guard (by rfl) ?_; dsimp only)); refine box_event ?hg (N := 7) ?hd (cs := #[.int .i64 0, .int .i64 0, .int .i64 0, .bool false, .slice none 0 0]) (t := 185) ?hr ?_; (case hd => rfl); (case hg => rfl); (case hr => first | (go_simp; done) | (go_simp; rfl)); intro gb123 hg w29 hbox hb; have n0_ := Aside0.mk (Kd.R_below (by (with_reducible repeat (first | apply Kd.R_alloc | apply Kd.R_drewN | apply Kd.R_drew)); exact HO_3.out) hb); have n1_ := Aside0.mk (blk_below (g := gb116) (o := .cells #[.slice A0_0 l0_0.length c0_0, .slice (some ad122) l0_1.length c0_1] 76 (0, 0)) (by (with_reducible repeat (first | refine blk_drewN ?_ _ | refine blk_drew ?_ | refine blk_alloc ?_ _)); exact BK116.out) hb); have n2_ := Aside0.mk (below_step (by repeat (first | (with_reducible first | exact HB.out | apply below_alloc | apply pw_below_drewN | apply below_drew1 | refine below_set ?_ GE116.out) | exact HB.out)) hb); have n3_ := Aside0.mk (hbox); have n4_ := Aside0.mk ((by rw [hg]; exact (below_size (by repeat (first | (with_reducible first | exact HB.out | apply below_alloc | apply pw_below_drewN | apply below_drew1 | refine below_set ?_ GE116.out) | exact HB.out))) : w.heap.size ≤ gb123)); have n5_ := n4_; have n6_ := Aside0.mk ((by rw [hg]; exact Nat.ne_of_lt (blk_lt (g := gb116) (o := .cells #[.slice A0_0 l0_0.length c0_0, .slice (some ad122) l0_1.length c0_1] 76 (0, 0)) (by (with_reducible repeat (first | refine blk_drewN ?_ _ | refine blk_drew ?_ | refine blk_alloc ?_ _)); exact BK116.out)) : gb116 ≠ gb123)); have n7_ := Aside0.mk ((by rw [hg]; exact Nat.ne_of_gt (blk_lt (g := gb116) (o := .cells #[.slice A0_0 l0_0.length c0_0, .slice (some ad122) l0_1.length c0_1] 76 (0, 0)) (by (with_reducible repeat (first | refine blk_drewN ?_ _ | refine blk_drew ?_ | refine blk_alloc ?_ _)); exact BK116.out)) : gb123 ≠ gb116)); clear HO_3; clear BK116; clear HB; have HO_3 := n0_; have BK116 := n1_; have HB := n2_; have BK123 := n3_; have GW123 := n4_; have GE123 := n5_; have NB116_123 := n6_; have NB123_116 := n7_; clear n0_ n1_ n2_ n3_ n4_ n5_ n6_ n7_; clear hb hbox hg; have hnb30 := NB123_116.out; have hnc30 := NB116_123.out; have hcz31_0 : w29.cell? ⟨gb123, 0, none⟩ = some (.int .i64 0) := (blk_cell BK123.out 0).trans rfl; have hcz31_1 : w29.cell? ⟨gb123, 1, none⟩ = some (.int .i64 0) := (blk_cell BK123.out 1).trans rfl; have hcz31_2 : w29.cell? ⟨gb123, 2, none⟩ = some (.int .i64 0) := (blk_cell BK123.out 2).trans rfl; have hcz31_3 : w29.cell? ⟨gb123, 3, none⟩ = some (.bool false) := (blk_cell BK123.out 3).trans rfl; have hcz31_4 : w29.cell? ⟨gb123, 4, none⟩ = some (.slice none 0 0) := (blk_cell BK123.out 4).trans rfl; have hfz31_0 := blk_frozen BK123.out 0; have hfz31_1 := blk_frozen BK123.out 1; have hfz31_2 := blk_frozen BK123.out 2; have hfz31_3 := blk_frozen BK123.out 3; have hfz31_4 := blk_frozen BK123.out 4)))
              (try simp only [Act.put, List.setIfInBounds_toArray, List.set_cons_zero, List.set_cons_succ])
              go_cut [60] (fun v60 wc => ∃ (kq : Nat) (x60_27 : Bool), v60 = .bool x60_27 ∧ Aside0 (spec_l16Right.j3 kq x3_3 x5_3 l0_1 (l0_1.length : Int) x34_3 x60_27 l0_0 l0_1 ((rd_T185 l0_1 x34_3).f0) ((rd_T185 l0_1 x34_3).f1) ((rd_T185 l0_1 x34_3).f2) ((rd_T185 l0_1 x34_3).f3) ((rd_T185 l0_1 x34_3).f4) = some r) ∧ Aside0 (kq ≤ k3) ∧ Aside0 (Kd.R (Kd.int .i64) 3 wc w.heap.size (fun _ => True) (.slice Ao17 x3_3.length co17) x3_3) ∧ Aside0 (wc.heap[gb116]? = some (.cells #[(.slice A0_0 l0_0.length c0_0), (.slice (some ad122) l0_1.length c0_1)] 76 (0, 0))) ∧ Aside0 (wc.heap[gb123]? = some (.cells #[.int .i64 ((rd_T185 l0_1 x34_3).f0), .int .i64 ((rd_T185 l0_1 x34_3).f1), .int .i64 ((rd_T185 l0_1 x34_3).f2), .bool ((rd_T185 l0_1 x34_3).f3), (.slice A122_4 ((rd_T185 l0_1 x34_3).f4).length c122_4)] 185 (0, 0))) ∧ Aside0 (Below w.heap.size w wc))
              case first =>
                have H := HC28.out
                clear HC28
                by_cases c32 : ((rd_T185 l0_1 x34_3).f0) < 0
                · rw [if_pos c32] at H
                  have c32b0 : decide (((rd_T185 l0_1 x34_3).f0) < 0) = true := decide_eq_true c32
                  clear c32
                  (first | rw [c32b0] | (simp only [i64_w, i32_w]; rw [c32b0]) | skip)
                  have H' := Aside0.mk H
                  clear H
                  have hnb33 := NB123_116.out
                  have hnc33 := NB116_123.out
                  have hcz34_0 : w29.cell? ⟨gb123, 0, none⟩ = some (.int .i64 0) := (blk_cell BK123.out 0).trans rfl
                  have hcz34_1 : w29.cell? ⟨gb123, 1, none⟩ = some (.int .i64 0) := (blk_cell BK123.out 1).trans rfl
                  have hcz34_2 : w29.cell? ⟨gb123, 2, none⟩ = some (.int .i64 0) := (blk_cell BK123.out 2).trans rfl
                  have hcz34_3 : w29.cell? ⟨gb123, 3, none⟩ = some (.bool false) := (blk_cell BK123.out 3).trans rfl
                  have hcz34_4 : w29.cell? ⟨gb123, 4, none⟩ = some (.slice none 0 0) := (blk_cell BK123.out 4).trans rfl
                  have hfz34_0 := blk_frozen BK123.out 0
                  have hfz34_1 := blk_frozen BK123.out 1
                  have hfz34_2 := blk_frozen BK123.out 2
                  have hfz34_3 := blk_frozen BK123.out 3
                  have hfz34_4 := blk_frozen BK123.out 4
                  go_wp2
                  repeat (go_quiet (fail); try go_wp2)
                  go_meet
                  case rel => exact ⟨_, (true), (by first | rfl | (simp; done) | (simp [*]; done)), H', ⟨by have := HJ1.out; have := HK2.out; have := HK3.out; first | omega | exact Nat.le_refl _⟩, ⟨by (try simp only [hl3_2]); (try simp only [hl3_3]); (with_reducible repeat (first | apply Kd.R_alloc | apply Kd.R_drewN | apply Kd.R_drew)); exact Kd.R_mono (Kd.R_far (p := ⟨gb123, 4, none⟩) (Kd.R_far (p := ⟨gb123, 3, none⟩) (Kd.R_far (p := ⟨gb123, 2, none⟩) (Kd.R_far (p := ⟨gb123, 1, none⟩) (Kd.R_far (p := ⟨gb123, 0, none⟩) (Kd.R_types HO_3.out BK123.out (by decide)) (fun _ hk => hk.2) (.int .i64 ((rd_T185 l0_1 x34_3).f0))) (fun _ hk => hk.2) (.int .i64 ((rd_T185 l0_1 x34_3).f1))) (fun _ hk => hk.2) (.int .i64 ((rd_T185 l0_1 x34_3).f2))) (fun _ hk => hk.2) (.bool ((rd_T185 l0_1 x34_3).f3))) (fun _ hk => hk.2) (.slice A122_4 ((rd_T185 l0_1 x34_3).f4).length c122_4)) (fun _ hk => trivial)⟩, ⟨by (try simp only [hl3_2]); (try simp only [hl3_3]); (with_reducible repeat (first | refine blk_drewN ?_ _ | refine blk_drew ?_ | refine blk_alloc ?_ _)); refine blk_far ?_ NB116_123.out _; (with_reducible repeat (first | refine blk_drewN ?_ _ | refine blk_drew ?_ | refine blk_alloc ?_ _)); refine blk_far ?_ NB116_123.out _; (with_reducible repeat (first | refine blk_drewN ?_ _ | refine blk_drew ?_ | refine blk_alloc ?_ _)); refine blk_far ?_ NB116_123.out _; (with_reducible repeat (first | refine blk_drewN ?_ _ | refine blk_drew ?_ | refine blk_alloc ?_ _)); refine blk_far ?_ NB116_123.out _; (with_reducible repeat (first | refine blk_drewN ?_ _ | refine blk_drew ?_ | refine blk_alloc ?_ _)); refine blk_far ?_ NB116_123.out _; (with_reducible repeat (first | refine blk_drewN ?_ _ | refine blk_drew ?_ | refine blk_alloc ?_ _)); exact BK116.out⟩, ⟨by (try simp only [hl3_2]); (try simp only [hl3_3]); (with_reducible repeat (first | refine blk_drewN ?_ _ | refine blk_drew ?_ | refine blk_alloc ?_ _)); refine blk_put (cs := #[.int .i64 ((rd_T185 l0_1 x34_3).f0), .int .i64 ((rd_T185 l0_1 x34_3).f1), .int .i64 ((rd_T185 l0_1 x34_3).f2), .bool ((rd_T185 l0_1 x34_3).f3), .slice none 0 0]) ?_ 4 _ rfl; (with_reducible repeat (first | refine blk_drewN ?_ _ | refine blk_drew ?_ | refine blk_alloc ?_ _)); refine blk_put (cs := #[.int .i64 ((rd_T185 l0_1 x34_3).f0), .int .i64 ((rd_T185 l0_1 x34_3).f1), .int .i64 ((rd_T185 l0_1 x34_3).f2), .bool false, .slice none 0 0]) ?_ 3 _ rfl; (with_reducible repeat (first | refine blk_drewN ?_ _ | refine blk_drew ?_ | refine blk_alloc ?_ _)); refine blk_put (cs := #[.int .i64 ((rd_T185 l0_1 x34_3).f0), .int .i64 ((rd_T185 l0_1 x34_3).f1), .int .i64 0, .bool false, .slice none 0 0]) ?_ 2 _ rfl; (with_reducible repeat (first | refine blk_drewN ?_ _ | refine blk_drew ?_ | refine blk_alloc ?_ _)); refine blk_put (cs := #[.int .i64 ((rd_T185 l0_1 x34_3).f0), .int .i64 0, .int .i64 0, .bool false, .slice none 0 0]) ?_ 1 _ rfl; (with_reducible repeat (first | refine blk_drewN ?_ _ | refine blk_drew ?_ | refine blk_alloc ?_ _)); refine blk_put (cs := #[.int .i64 0, .int .i64 0, .int .i64 0, .bool false, .slice none 0 0]) ?_ 0 _ rfl; (with_reducible repeat (first | refine blk_drewN ?_ _ | refine blk_drew ?_ | refine blk_alloc ?_ _)); exact BK123.out⟩, ⟨by repeat (first | (with_reducible first | exact HB.out | apply below_alloc | apply pw_below_drewN | apply below_drew1 | refine below_set ?_ GE116.out | refine below_set ?_ GE123.out) | exact HB.out)⟩⟩
                rw [if_neg c32] at H
                have c32b0 : decide (((rd_T185 l0_1 x34_3).f0) < 0) = false := decide_eq_false c32
                clear c32
                (first | rw [c32b0] | (simp only [i64_w, i32_w]; rw [c32b0]) | skip)
                by_cases c35 : ((rd_T185 l0_1 x34_3).f0) ≥ (l0_0.length : Int)
                · rw [if_pos c35] at H
                  have c35b0 : decide ((l0_0.length : Int) ≤ ((rd_T185 l0_1 x34_3).f0)) = true := decide_eq_true c35
                  (try simp only [hl3_2] at c35b0)
                  (try simp only [hl3_3] at c35b0)
                  clear c35
                  have H' := Aside0.mk H
                  clear H
                  have hnb36 := NB123_116.out
                  have hnc36 := NB116_123.out
                  have hcz37_0 : w29.cell? ⟨gb123, 0, none⟩ = some (.int .i64 0) := (blk_cell BK123.out 0).trans rfl
                  have hcz37_1 : w29.cell? ⟨gb123, 1, none⟩ = some (.int .i64 0) := (blk_cell BK123.out 1).trans rfl
                  have hcz37_2 : w29.cell? ⟨gb123, 2, none⟩ = some (.int .i64 0) := (blk_cell BK123.out 2).trans rfl
                  have hcz37_3 : w29.cell? ⟨gb123, 3, none⟩ = some (.bool false) := (blk_cell BK123.out 3).trans rfl
                  have hcz37_4 : w29.cell? ⟨gb123, 4, none⟩ = some (.slice none 0 0) := (blk_cell BK123.out 4).trans rfl
                  have hfz37_0 := blk_frozen BK123.out 0
                  have hfz37_1 := blk_frozen BK123.out 1
                  have hfz37_2 := blk_frozen BK123.out 2
                  have hfz37_3 := blk_frozen BK123.out 3
                  have hfz37_4 := blk_frozen BK123.out 4
                  have hcz38_0 : w29.cell? ⟨gb116, 0, none⟩ = some (.slice A0_0 l0_0.length c0_0) := (blk_cell BK116.out 0).trans rfl
                  have hcz38_1 : w29.cell? ⟨gb116, 1, none⟩ = some (.slice (some ad122) l0_1.length c0_1) := (blk_cell BK116.out 1).trans rfl
                  have hfz38_0 := blk_frozen BK116.out 0
                  have hfz38_1 := blk_frozen BK116.out 1
                  go_wp2
                  repeat (go_quiet (fail); try go_wp2)
                  go_meet
                  case rel => exact ⟨_, (true), (by first | rfl | (simp; done) | (simp [*]; done)), H', ⟨by have := HJ1.out; have := HK2.out; have := HK3.out; first | omega | exact Nat.le_refl _⟩, ⟨by (try simp only [hl3_2]); (try simp only [hl3_3]); (with_reducible repeat (first | apply Kd.R_alloc | apply Kd.R_drewN | apply Kd.R_drew)); exact Kd.R_mono (Kd.R_far (p := ⟨gb123, 4, none⟩) (Kd.R_far (p := ⟨gb123, 3, none⟩) (Kd.R_far (p := ⟨gb123, 2, none⟩) (Kd.R_far (p := ⟨gb123, 1, none⟩) (Kd.R_far (p := ⟨gb123, 0, none⟩) (Kd.R_types HO_3.out BK123.out (by decide)) (fun _ hk => hk.2) (.int .i64 ((rd_T185 l0_1 x34_3).f0))) (fun _ hk => hk.2) (.int .i64 ((rd_T185 l0_1 x34_3).f1))) (fun _ hk => hk.2) (.int .i64 ((rd_T185 l0_1 x34_3).f2))) (fun _ hk => hk.2) (.bool ((rd_T185 l0_1 x34_3).f3))) (fun _ hk => hk.2) (.slice A122_4 ((rd_T185 l0_1 x34_3).f4).length c122_4)) (fun _ hk => trivial)⟩, ⟨by (try simp only [hl3_2]); (try simp only [hl3_3]); (with_reducible repeat (first | refine blk_drewN ?_ _ | refine blk_drew ?_ | refine blk_alloc ?_ _)); refine blk_far ?_ NB116_123.out _; (with_reducible repeat (first | refine blk_drewN ?_ _ | refine blk_drew ?_ | refine blk_alloc ?_ _)); refine blk_far ?_ NB116_123.out _; (with_reducible repeat (first | refine blk_drewN ?_ _ | refine blk_drew ?_ | refine blk_alloc ?_ _)); refine blk_far ?_ NB116_123.out _; (with_reducible repeat (first | refine blk_drewN ?_ _ | refine blk_drew ?_ | refine blk_alloc ?_ _)); refine blk_far ?_ NB116_123.out _; (with_reducible repeat (first | refine blk_drewN ?_ _ | refine blk_drew ?_ | refine blk_alloc ?_ _)); refine blk_far ?_ NB116_123.out _; (with_reducible repeat (first | refine blk_drewN ?_ _ | refine blk_drew ?_ | refine blk_alloc ?_ _)); exact BK116.out⟩, ⟨by (try simp only [hl3_2]); (try simp only [hl3_3]); (with_reducible repeat (first | refine blk_drewN ?_ _ | refine blk_drew ?_ | refine blk_alloc ?_ _)); refine blk_put (cs := #[.int .i64 ((rd_T185 l0_1 x34_3).f0), .int .i64 ((rd_T185 l0_1 x34_3).f1), .int .i64 ((rd_T185 l0_1 x34_3).f2), .bool ((rd_T185 l0_1 x34_3).f3), .slice none 0 0]) ?_ 4 _ rfl; (with_reducible repeat (first | refine blk_drewN ?_ _ | refine blk_drew ?_ | refine blk_alloc ?_ _)); refine blk_put (cs := #[.int .i64 ((rd_T185 l0_1 x34_3).f0), .int .i64 ((rd_T185 l0_1 x34_3).f1), .int .i64 ((rd_T185 l0_1 x34_3).f2), .bool false, .slice none 0 0]) ?_ 3 _ rfl; (with_reducible repeat (first | refine blk_drewN ?_ _ | refine blk_drew ?_ | refine blk_alloc ?_ _)); refine blk_put (cs := #[.int .i64 ((rd_T185 l0_1 x34_3).f0), .int .i64 ((rd_T185 l0_1 x34_3).f1), .int .i64 0, .bool false, .slice none 0 0]) ?_ 2 _ rfl; (with_reducible repeat (first | refine blk_drewN ?_ _ | refine blk_drew ?_ | refine blk_alloc ?_ _)); refine blk_put (cs := #[.int .i64 ((rd_T185 l0_1 x34_3).f0), .int .i64 0, .int .i64 0, .bool false, .slice none 0 0]) ?_ 1 _ rfl; (with_reducible repeat (first | refine blk_drewN ?_ _ | refine blk_drew ?_ | refine blk_alloc ?_ _)); refine blk_put (cs := #[.int .i64 0, .int .i64 0, .int .i64 0, .bool false, .slice none 0 0]) ?_ 0 _ rfl; (with_reducible repeat (first | refine blk_drewN ?_ _ | refine blk_drew ?_ | refine blk_alloc ?_ _)); exact BK123.out⟩, ⟨by repeat (first | (with_reducible first | exact HB.out | apply below_alloc | apply pw_below_drewN | apply below_drew1 | refine below_set ?_ GE116.out | refine below_set ?_ GE123.out) | exact HB.out)⟩⟩
                rw [if_neg c35] at H
                have c35b0 : decide ((l0_0.length : Int) ≤ ((rd_T185 l0_1 x34_3).f0)) = false := decide_eq_false c35
                (try simp only [hl3_2] at c35b0)
                (try simp only [hl3_3] at c35b0)
                clear c35
                replace H := Option.bind_eq_some_iff.mp H
                obtain ⟨t124, A390, H⟩ := H
                replace H : (if t124 = true then ((spec_l16Ticks.f ((rd_T185 l0_1 x34_3).f2)).bind fun t125 => (spec_l16Right.j3 k3 x3_3 x5_3 l0_1 (l0_1.length : Int) x34_3 (!t125) l0_0 l0_1 ((rd_T185 l0_1 x34_3).f0) ((rd_T185 l0_1 x34_3).f1) ((rd_T185 l0_1 x34_3).f2) ((rd_T185 l0_1 x34_3).f3) ((rd_T185 l0_1 x34_3).f4))) else (spec_l16Right.j3 k3 x3_3 x5_3 l0_1 (l0_1.length : Int) x34_3 true l0_0 l0_1 ((rd_T185 l0_1 x34_3).f0) ((rd_T185 l0_1 x34_3).f1) ((rd_T185 l0_1 x34_3).f2) ((rd_T185 l0_1 x34_3).f3) ((rd_T185 l0_1 x34_3).f4))) = some r := H
                have A39 := Aside0.mk A390
                clear A390
                by_cases c40 : t124 = true
                rotate_left
                · replace c40 := Bool.eq_false_iff.mpr c40
                  subst c40
                  have H1 : (spec_l16Right.j3 k3 x3_3 x5_3 l0_1 (l0_1.length : Int) x34_3 true l0_0 l0_1 ((rd_T185 l0_1 x34_3).f0) ((rd_T185 l0_1 x34_3).f1) ((rd_T185 l0_1 x34_3).f2) ((rd_T185 l0_1 x34_3).f3) ((rd_T185 l0_1 x34_3).f4)) = some r := by rw [if_neg (show ¬ (false = true) by decide)] at H; exact H
                  clear H
                  have H := H1
                  clear H1
                  have H' := Aside0.mk H
                  clear H
                  have hnb45 := NB123_116.out
                  have hnc45 := NB116_123.out
                  have hcz46_0 : w29.cell? ⟨gb123, 0, none⟩ = some (.int .i64 0) := (blk_cell BK123.out 0).trans rfl
                  have hcz46_1 : w29.cell? ⟨gb123, 1, none⟩ = some (.int .i64 0) := (blk_cell BK123.out 1).trans rfl
                  have hcz46_2 : w29.cell? ⟨gb123, 2, none⟩ = some (.int .i64 0) := (blk_cell BK123.out 2).trans rfl
                  have hcz46_3 : w29.cell? ⟨gb123, 3, none⟩ = some (.bool false) := (blk_cell BK123.out 3).trans rfl
                  have hcz46_4 : w29.cell? ⟨gb123, 4, none⟩ = some (.slice none 0 0) := (blk_cell BK123.out 4).trans rfl
                  have hfz46_0 := blk_frozen BK123.out 0
                  have hfz46_1 := blk_frozen BK123.out 1
                  have hfz46_2 := blk_frozen BK123.out 2
                  have hfz46_3 := blk_frozen BK123.out 3
                  have hfz46_4 := blk_frozen BK123.out 4
                  have hcz47_0 : w29.cell? ⟨gb116, 0, none⟩ = some (.slice A0_0 l0_0.length c0_0) := (blk_cell BK116.out 0).trans rfl
                  have hcz47_1 : w29.cell? ⟨gb116, 1, none⟩ = some (.slice (some ad122) l0_1.length c0_1) := (blk_cell BK116.out 1).trans rfl
                  have hfz47_0 := blk_frozen BK116.out 0
                  have hfz47_1 := blk_frozen BK116.out 1
                  iterate 3 (try go_wp2_with (first | (go_at_call 193; (with_reducible refine (spec_l16Ticks.calls ((rd_T185 l0_1 x34_3).f1) false _ A39.out).mono ?_); rintro e w' ⟨rfl, ⟨nd, rfl⟩⟩; (try first | exact ⟨rfl, _, World.drewN_drewN _ _ _⟩ | exact ⟨rfl, _, Eq.trans (World.drewN_drewN _ _ _) (congrArg (World.drewN _) (Nat.add_assoc _ _ _))⟩))); try go_quiet (first | (go_at_call 193; (with_reducible refine (spec_l16Ticks.calls ((rd_T185 l0_1 x34_3).f1) false _ A39.out).mono ?_); rintro e w' ⟨rfl, ⟨nd, rfl⟩⟩; (try first | exact ⟨rfl, _, World.drewN_drewN _ _ _⟩ | exact ⟨rfl, _, Eq.trans (World.drewN_drewN _ _ _) (congrArg (World.drewN _) (Nat.add_assoc _ _ _))⟩))))
                  go_meet
                  case rel => exact ⟨_, (true), (by first | rfl | (simp; done) | (simp [*]; done)), H', ⟨by have := HJ1.out; have := HK2.out; have := HK3.out; first | omega | exact Nat.le_refl _⟩, ⟨by (try simp only [hl3_2]); (try simp only [hl3_3]); (with_reducible repeat (first | apply Kd.R_alloc | apply Kd.R_drewN | apply Kd.R_drew)); exact Kd.R_mono (Kd.R_far (p := ⟨gb123, 4, none⟩) (Kd.R_far (p := ⟨gb123, 3, none⟩) (Kd.R_far (p := ⟨gb123, 2, none⟩) (Kd.R_far (p := ⟨gb123, 1, none⟩) (Kd.R_far (p := ⟨gb123, 0, none⟩) (Kd.R_types HO_3.out BK123.out (by decide)) (fun _ hk => hk.2) (.int .i64 ((rd_T185 l0_1 x34_3).f0))) (fun _ hk => hk.2) (.int .i64 ((rd_T185 l0_1 x34_3).f1))) (fun _ hk => hk.2) (.int .i64 ((rd_T185 l0_1 x34_3).f2))) (fun _ hk => hk.2) (.bool ((rd_T185 l0_1 x34_3).f3))) (fun _ hk => hk.2) (.slice A122_4 ((rd_T185 l0_1 x34_3).f4).length c122_4)) (fun _ hk => trivial)⟩, ⟨by (try simp only [hl3_2]); (try simp only [hl3_3]); (with_reducible repeat (first | refine blk_drewN ?_ _ | refine blk_drew ?_ | refine blk_alloc ?_ _)); refine blk_far ?_ NB116_123.out _; (with_reducible repeat (first | refine blk_drewN ?_ _ | refine blk_drew ?_ | refine blk_alloc ?_ _)); refine blk_far ?_ NB116_123.out _; (with_reducible repeat (first | refine blk_drewN ?_ _ | refine blk_drew ?_ | refine blk_alloc ?_ _)); refine blk_far ?_ NB116_123.out _; (with_reducible repeat (first | refine blk_drewN ?_ _ | refine blk_drew ?_ | refine blk_alloc ?_ _)); refine blk_far ?_ NB116_123.out _; (with_reducible repeat (first | refine blk_drewN ?_ _ | refine blk_drew ?_ | refine blk_alloc ?_ _)); refine blk_far ?_ NB116_123.out _; (with_reducible repeat (first | refine blk_drewN ?_ _ | refine blk_drew ?_ | refine blk_alloc ?_ _)); exact BK116.out⟩, ⟨by (try simp only [hl3_2]); (try simp only [hl3_3]); (with_reducible repeat (first | refine blk_drewN ?_ _ | refine blk_drew ?_ | refine blk_alloc ?_ _)); refine blk_put (cs := #[.int .i64 ((rd_T185 l0_1 x34_3).f0), .int .i64 ((rd_T185 l0_1 x34_3).f1), .int .i64 ((rd_T185 l0_1 x34_3).f2), .bool ((rd_T185 l0_1 x34_3).f3), .slice none 0 0]) ?_ 4 _ rfl; (with_reducible repeat (first | refine blk_drewN ?_ _ | refine blk_drew ?_ | refine blk_alloc ?_ _)); refine blk_put (cs := #[.int .i64 ((rd_T185 l0_1 x34_3).f0), .int .i64 ((rd_T185 l0_1 x34_3).f1), .int .i64 ((rd_T185 l0_1 x34_3).f2), .bool false, .slice none 0 0]) ?_ 3 _ rfl; (with_reducible repeat (first | refine blk_drewN ?_ _ | refine blk_drew ?_ | refine blk_alloc ?_ _)); refine blk_put (cs := #[.int .i64 ((rd_T185 l0_1 x34_3).f0), .int .i64 ((rd_T185 l0_1 x34_3).f1), .int .i64 0, .bool false, .slice none 0 0]) ?_ 2 _ rfl; (with_reducible repeat (first | refine blk_drewN ?_ _ | refine blk_drew ?_ | refine blk_alloc ?_ _)); refine blk_put (cs := #[.int .i64 ((rd_T185 l0_1 x34_3).f0), .int .i64 0, .int .i64 0, .bool false, .slice none 0 0]) ?_ 1 _ rfl; (with_reducible repeat (first | refine blk_drewN ?_ _ | refine blk_drew ?_ | refine blk_alloc ?_ _)); refine blk_put (cs := #[.int .i64 0, .int .i64 0, .int .i64 0, .bool false, .slice none 0 0]) ?_ 0 _ rfl; (with_reducible repeat (first | refine blk_drewN ?_ _ | refine blk_drew ?_ | refine blk_alloc ?_ _)); exact BK123.out⟩, ⟨by repeat (first | (with_reducible first | exact HB.out | apply below_alloc | apply pw_below_drewN | apply below_drew1 | refine below_set ?_ GE116.out | refine below_set ?_ GE123.out) | exact HB.out)⟩⟩
                subst c40
                have H1 : ((spec_l16Ticks.f ((rd_T185 l0_1 x34_3).f2)).bind fun t125 => (spec_l16Right.j3 k3 x3_3 x5_3 l0_1 (l0_1.length : Int) x34_3 (!t125) l0_0 l0_1 ((rd_T185 l0_1 x34_3).f0) ((rd_T185 l0_1 x34_3).f1) ((rd_T185 l0_1 x34_3).f2) ((rd_T185 l0_1 x34_3).f3) ((rd_T185 l0_1 x34_3).f4))) = some r := by rw [if_pos rfl] at H; exact H
                clear H
                have H := H1
                clear H1
                replace H := Option.bind_eq_some_iff.mp H
                obtain ⟨t125, A410, H⟩ := H
                replace H : (spec_l16Right.j3 k3 x3_3 x5_3 l0_1 (l0_1.length : Int) x34_3 (!t125) l0_0 l0_1 ((rd_T185 l0_1 x34_3).f0) ((rd_T185 l0_1 x34_3).f1) ((rd_T185 l0_1 x34_3).f2) ((rd_T185 l0_1 x34_3).f3) ((rd_T185 l0_1 x34_3).f4)) = some r := H
                have A41 := Aside0.mk A410
                clear A410
                have H' := Aside0.mk H
                clear H
                have hnb42 := NB123_116.out
                have hnc42 := NB116_123.out
                have hcz43_0 : w29.cell? ⟨gb123, 0, none⟩ = some (.int .i64 0) := (blk_cell BK123.out 0).trans rfl
                have hcz43_1 : w29.cell? ⟨gb123, 1, none⟩ = some (.int .i64 0) := (blk_cell BK123.out 1).trans rfl
                have hcz43_2 : w29.cell? ⟨gb123, 2, none⟩ = some (.int .i64 0) := (blk_cell BK123.out 2).trans rfl
                have hcz43_3 : w29.cell? ⟨gb123, 3, none⟩ = some (.bool false) := (blk_cell BK123.out 3).trans rfl
                have hcz43_4 : w29.cell? ⟨gb123, 4, none⟩ = some (.slice none 0 0) := (blk_cell BK123.out 4).trans rfl
                have hfz43_0 := blk_frozen BK123.out 0
                have hfz43_1 := blk_frozen BK123.out 1
                have hfz43_2 := blk_frozen BK123.out 2
                have hfz43_3 := blk_frozen BK123.out 3
                have hfz43_4 := blk_frozen BK123.out 4
                have hcz44_0 : w29.cell? ⟨gb116, 0, none⟩ = some (.slice A0_0 l0_0.length c0_0) := (blk_cell BK116.out 0).trans rfl
                have hcz44_1 : w29.cell? ⟨gb116, 1, none⟩ = some (.slice (some ad122) l0_1.length c0_1) := (blk_cell BK116.out 1).trans rfl
                have hfz44_0 := blk_frozen BK116.out 0
                have hfz44_1 := blk_frozen BK116.out 1
                iterate 3 (try go_wp2_with (first | (go_at_call 193; (with_reducible refine (spec_l16Ticks.calls ((rd_T185 l0_1 x34_3).f1) true _ A39.out).mono ?_); rintro e w' ⟨rfl, ⟨nd, rfl⟩⟩; (try first | exact ⟨rfl, _, World.drewN_drewN _ _ _⟩ | exact ⟨rfl, _, Eq.trans (World.drewN_drewN _ _ _) (congrArg (World.drewN _) (Nat.add_assoc _ _ _))⟩)) | (go_at_call 193; (with_reducible refine (spec_l16Ticks.calls ((rd_T185 l0_1 x34_3).f2) t125 _ A41.out).mono ?_); rintro e w' ⟨rfl, ⟨nd, rfl⟩⟩; (try first | exact ⟨rfl, _, World.drewN_drewN _ _ _⟩ | exact ⟨rfl, _, Eq.trans (World.drewN_drewN _ _ _) (congrArg (World.drewN _) (Nat.add_assoc _ _ _))⟩))); try go_quiet (first | (go_at_call 193; (with_reducible refine (spec_l16Ticks.calls ((rd_T185 l0_1 x34_3).f1) true _ A39.out).mono ?_); rintro e w' ⟨rfl, ⟨nd, rfl⟩⟩; (try first | exact ⟨rfl, _, World.drewN_drewN _ _ _⟩ | exact ⟨rfl, _, Eq.trans (World.drewN_drewN _ _ _) (congrArg (World.drewN _) (Nat.add_assoc _ _ _))⟩)) | (go_at_call 193; (with_reducible refine (spec_l16Ticks.calls ((rd_T185 l0_1 x34_3).f2) t125 _ A41.out).mono ?_); rintro e w' ⟨rfl, ⟨nd, rfl⟩⟩; (try first | exact ⟨rfl, _, World.drewN_drewN _ _ _⟩ | exact ⟨rfl, _, Eq.trans (World.drewN_drewN _ _ _) (congrArg (World.drewN _) (Nat.add_assoc _ _ _))⟩))))
                go_meet
                case rel => exact ⟨_, (!t125), (by first | rfl | (simp; done) | (simp [*]; done)), H', ⟨by have := HJ1.out; have := HK2.out; have := HK3.out; first | omega | exact Nat.le_refl _⟩, ⟨by (try simp only [hl3_2]); (try simp only [hl3_3]); (with_reducible repeat (first | apply Kd.R_alloc | apply Kd.R_drewN | apply Kd.R_drew)); exact Kd.R_mono (Kd.R_far (p := ⟨gb123, 4, none⟩) (Kd.R_far (p := ⟨gb123, 3, none⟩) (Kd.R_far (p := ⟨gb123, 2, none⟩) (Kd.R_far (p := ⟨gb123, 1, none⟩) (Kd.R_far (p := ⟨gb123, 0, none⟩) (Kd.R_types HO_3.out BK123.out (by decide)) (fun _ hk => hk.2) (.int .i64 ((rd_T185 l0_1 x34_3).f0))) (fun _ hk => hk.2) (.int .i64 ((rd_T185 l0_1 x34_3).f1))) (fun _ hk => hk.2) (.int .i64 ((rd_T185 l0_1 x34_3).f2))) (fun _ hk => hk.2) (.bool ((rd_T185 l0_1 x34_3).f3))) (fun _ hk => hk.2) (.slice A122_4 ((rd_T185 l0_1 x34_3).f4).length c122_4)) (fun _ hk => trivial)⟩, ⟨by (try simp only [hl3_2]); (try simp only [hl3_3]); (with_reducible repeat (first | refine blk_drewN ?_ _ | refine blk_drew ?_ | refine blk_alloc ?_ _)); refine blk_far ?_ NB116_123.out _; (with_reducible repeat (first | refine blk_drewN ?_ _ | refine blk_drew ?_ | refine blk_alloc ?_ _)); refine blk_far ?_ NB116_123.out _; (with_reducible repeat (first | refine blk_drewN ?_ _ | refine blk_drew ?_ | refine blk_alloc ?_ _)); refine blk_far ?_ NB116_123.out _; (with_reducible repeat (first | refine blk_drewN ?_ _ | refine blk_drew ?_ | refine blk_alloc ?_ _)); refine blk_far ?_ NB116_123.out _; (with_reducible repeat (first | refine blk_drewN ?_ _ | refine blk_drew ?_ | refine blk_alloc ?_ _)); refine blk_far ?_ NB116_123.out _; (with_reducible repeat (first | refine blk_drewN ?_ _ | refine blk_drew ?_ | refine blk_alloc ?_ _)); exact BK116.out⟩, ⟨by (try simp only [hl3_2]); (try simp only [hl3_3]); (with_reducible repeat (first | refine blk_drewN ?_ _ | refine blk_drew ?_ | refine blk_alloc ?_ _)); refine blk_put (cs := #[.int .i64 ((rd_T185 l0_1 x34_3).f0), .int .i64 ((rd_T185 l0_1 x34_3).f1), .int .i64 ((rd_T185 l0_1 x34_3).f2), .bool ((rd_T185 l0_1 x34_3).f3), .slice none 0 0]) ?_ 4 _ rfl; (with_reducible repeat (first | refine blk_drewN ?_ _ | refine blk_drew ?_ | refine blk_alloc ?_ _)); refine blk_put (cs := #[.int .i64 ((rd_T185 l0_1 x34_3).f0), .int .i64 ((rd_T185 l0_1 x34_3).f1), .int .i64 ((rd_T185 l0_1 x34_3).f2), .bool false, .slice none 0 0]) ?_ 3 _ rfl; (with_reducible repeat (first | refine blk_drewN ?_ _ | refine blk_drew ?_ | refine blk_alloc ?_ _)); refine blk_put (cs := #[.int .i64 ((rd_T185 l0_1 x34_3).f0), .int .i64 ((rd_T185 l0_1 x34_3).f1), .int .i64 0, .bool false, .slice none 0 0]) ?_ 2 _ rfl; (with_reducible repeat (first | refine blk_drewN ?_ _ | refine blk_drew ?_ | refine blk_alloc ?_ _)); refine blk_put (cs := #[.int .i64 ((rd_T185 l0_1 x34_3).f0), .int .i64 0, .int .i64 0, .bool false, .slice none 0 0]) ?_ 1 _ rfl; (with_reducible repeat (first | refine blk_drewN ?_ _ | refine blk_drew ?_ | refine blk_alloc ?_ _)); refine blk_put (cs := #[.int .i64 0, .int .i64 0, .int .i64 0, .bool false, .slice none 0 0]) ?_ 0 _ rfl; (with_reducible repeat (first | refine blk_drewN ?_ _ | refine blk_drew ?_ | refine blk_alloc ?_ _)); exact BK123.out⟩, ⟨by repeat (first | (with_reducible first | exact HB.out | apply below_alloc | apply pw_below_drewN | apply below_drew1 | refine below_set ?_ GE116.out | refine below_set ?_ GE123.out) | exact HB.out)⟩⟩
              case rest =>
                clear HC28
                try clear c1
                try clear p1
                try clear q1
                try clear hx1
                try clear c2
                try clear p2
                try clear q2
                try clear hx2
                try clear hf2
                try clear c3
                try clear c4
                try clear c5
                try clear p6
                try clear c11
                try clear c12
                try clear c12b0
                try clear c12b1
                try clear p12
                try clear q12
                try clear hx12
                try clear c13
                try clear c13b0
                try clear c13b1
                try clear c16
                try clear c18
                try clear c18b0
                try clear c19
                try clear c19b0
                try clear c20
                try clear c20b0
                try clear p21
                try clear q21
                try clear hx21
                try clear hf21
                try clear c25
                try clear c25b0
                try clear c26
                try clear c26b0
                try clear c27
                try clear c27b0
                try clear c30
                try clear c32
                try clear c32b0
                try clear c33
                try clear c35
                try clear c35b0
                try clear c36
                try clear c40
                try clear c42
                try clear c45
                try clear hcz14_0
                try clear hcz14_1
                try clear hcz24_0
                try clear hcz24_1
                try clear hcz31_0
                try clear hcz31_1
                try clear hcz31_2
                try clear hcz31_3
                try clear hcz31_4
                try clear hcz34_0
                try clear hcz34_1
                try clear hcz34_2
                try clear hcz34_3
                try clear hcz34_4
                try clear hcz37_0
                try clear hcz37_1
                try clear hcz37_2
                try clear hcz37_3
                try clear hcz37_4
                try clear hcz38_0
                try clear hcz38_1
                try clear hcz43_0
                try clear hcz43_1
                try clear hcz43_2
                try clear hcz43_3
                try clear hcz43_4
                try clear hcz44_0
                try clear hcz44_1
                try clear hcz46_0
                try clear hcz46_1
                try clear hcz46_2
                try clear hcz46_3
                try clear hcz46_4
                try clear hcz47_0
                try clear hcz47_1
                try clear hcz6_0
                try clear hcz6_1
                try clear hcz8_0
                try clear hcz8_1
                try clear hcz9_0
                try clear hcz9_1
                try clear hfz14_0
                try clear hfz14_1
                try clear hfz24_0
                try clear hfz24_1
                try clear hfz31_0
                try clear hfz31_1
                try clear hfz31_2
                try clear hfz31_3
                try clear hfz31_4
                try clear hfz34_0
                try clear hfz34_1
                try clear hfz34_2
                try clear hfz34_3
                try clear hfz34_4
                try clear hfz37_0
                try clear hfz37_1
                try clear hfz37_2
                try clear hfz37_3
                try clear hfz37_4
                try clear hfz38_0
                try clear hfz38_1
                try clear hfz43_0
                try clear hfz43_1
                try clear hfz43_2
                try clear hfz43_3
                try clear hfz43_4
                try clear hfz44_0
                try clear hfz44_1
                try clear hfz46_0
                try clear hfz46_1
                try clear hfz46_2
                try clear hfz46_3
                try clear hfz46_4
                try clear hfz47_0
                try clear hfz47_1
                try clear hfz6_0
                try clear hfz6_1
                try clear hfz8_0
                try clear hfz8_1
                try clear hfz9_0
                try clear hfz9_1
                try clear hx122_0
                try clear hx122_1
                try clear hx122_2
                try clear hx122_3
                try clear hx122_4
                try clear hx21_0
                try clear p122
                try clear p2
                try clear p21
                try clear p6
                try clear q122
                try clear q2
                try clear q21
                obtain ⟨kq, x60_27, rfl, HA, HJ27, HO_3, BK116, BK123, HB⟩ := hcut
                cases kq with
                | zero => exact absurd HA.out (by simp [spec_l16Right.j3])
                | succ kj27 =>
                  have H := HA.out
                  clear HA
                  simp only [spec_l16Right.j3] at H
                  by_cases c48 : x60_27 = true
                  · subst c48
                    have H1 : (some false) = some r := by rw [if_pos rfl] at H; exact H
                    clear H
                    have H := H1
                    clear H1
                    obtain rfl := Option.some.inj H
                    go_wp2
                    repeat (go_quiet (fail); try go_wp2)
                    go_ret
                    exact ⟨by first | rfl | (simp [errW_none, errW_some] <;> rfl) | (simp [*, errW_none, errW_some] <;> rfl), by repeat (first | (with_reducible first | exact HB.out | apply below_alloc | apply pw_below_drewN | apply below_drew1 | refine below_set ?_ GE116.out | refine below_set ?_ GE123.out) | exact HB.out)⟩
                  replace c48 := Bool.eq_false_iff.mpr c48
                  subst c48
                  have H1 : (if 0 ≤ ((rd_T185 l0_1 x34_3).f0) then (if ((rd_T185 l0_1 x34_3).f0) < (x3_3.length : Int) then (if ((rd_T185 l0_1 x34_3).f1) < (rd x3_3 ((rd_T185 l0_1 x34_3).f0)) then (spec_l16Right.j4 kj27 x3_3 x5_3 l0_1 (l0_1.length : Int) x34_3 true l0_0 l0_1 ((rd_T185 l0_1 x34_3).f0) ((rd_T185 l0_1 x34_3).f1) ((rd_T185 l0_1 x34_3).f2) ((rd_T185 l0_1 x34_3).f3) ((rd_T185 l0_1 x34_3).f4)) else (if (rd x3_3 ((rd_T185 l0_1 x34_3).f0)) < 0 then (spec_l16Right.j4 kj27 x3_3 x5_3 l0_1 (l0_1.length : Int) x34_3 (!((rd_T185 l0_1 x34_3).f3)) l0_0 l0_1 ((rd_T185 l0_1 x34_3).f0) ((rd_T185 l0_1 x34_3).f1) ((rd_T185 l0_1 x34_3).f2) ((rd_T185 l0_1 x34_3).f3) ((rd_T185 l0_1 x34_3).f4)) else (spec_l16Right.j4 kj27 x3_3 x5_3 l0_1 (l0_1.length : Int) x34_3 false l0_0 l0_1 ((rd_T185 l0_1 x34_3).f0) ((rd_T185 l0_1 x34_3).f1) ((rd_T185 l0_1 x34_3).f2) ((rd_T185 l0_1 x34_3).f3) ((rd_T185 l0_1 x34_3).f4)))) else (none)) else (none)) = some r := by rw [if_neg (show ¬ (false = true) by decide)] at H; exact H
                  clear H
                  have H := H1
                  clear H1
                  have HC49 := Aside0.mk H
                  clear H
                  go_upto_region 15 with (fail)
                  repeat (go_quiet (fail); go_upto_region 15 with (fail))
                  go_cut [81] (fun v81 wc => ∃ (kq : Nat) (x81_48 : Bool), v81 = .bool x81_48 ∧ Aside0 (spec_l16Right.j4 kq x3_3 x5_3 l0_1 (l0_1.length : Int) x34_3 x81_48 l0_0 l0_1 ((rd_T185 l0_1 x34_3).f0) ((rd_T185 l0_1 x34_3).f1) ((rd_T185 l0_1 x34_3).f2) ((rd_T185 l0_1 x34_3).f3) ((rd_T185 l0_1 x34_3).f4) = some r) ∧ Aside0 (kq ≤ kj27) ∧ Aside0 (Kd.R (Kd.int .i64) 3 wc w.heap.size (fun _ => True) (.slice Ao17 x3_3.length co17) x3_3) ∧ Aside0 (wc.heap[gb116]? = some (.cells #[(.slice A0_0 l0_0.length c0_0), (.slice (some ad122) l0_1.length c0_1)] 76 (0, 0))) ∧ Aside0 (wc.heap[gb123]? = some (.cells #[.int .i64 ((rd_T185 l0_1 x34_3).f0), .int .i64 ((rd_T185 l0_1 x34_3).f1), .int .i64 ((rd_T185 l0_1 x34_3).f2), .bool ((rd_T185 l0_1 x34_3).f3), (.slice A122_4 ((rd_T185 l0_1 x34_3).f4).length c122_4)] 185 (0, 0))) ∧ Aside0 (Below w.heap.size w wc))
                  case first =>
                    have H := HC49.out
                    clear HC49
                    by_cases c50 : 0 ≤ ((rd_T185 l0_1 x34_3).f0)
                    rotate_left
                    · rw [if_neg c50] at H
                      exact absurd H (by simp)
                    rw [if_pos c50] at H
                    have c50b0 : decide (0 ≤ ((rd_T185 l0_1 x34_3).f0)) = true := decide_eq_true c50
                    clear c50
                    (first | rw [c50b0] | (simp only [i64_w, i32_w]; rw [c50b0]) | skip)
                    by_cases c51 : ((rd_T185 l0_1 x34_3).f0) < (x3_3.length : Int)
                    rotate_left
                    · rw [if_neg c51] at H
                      exact absurd H (by simp)
                    rw [if_pos c51] at H
                    have c51b0 : decide (((rd_T185 l0_1 x34_3).f0) < (x3_3.length : Int)) = true := decide_eq_true c51
                    (try simp only [hl3_2] at c51b0)
                    (try simp only [hl3_3] at c51b0)
                    clear c51
                    by_cases c52 : ((rd_T185 l0_1 x34_3).f1) < (rd x3_3 ((rd_T185 l0_1 x34_3).f0))
                    · rw [if_pos c52] at H
                      have c52b0 : decide (((rd_T185 l0_1 x34_3).f1) < (rd x3_3 ((rd_T185 l0_1 x34_3).f0))) = true := decide_eq_true c52
                      clear c52
                      have H' := Aside0.mk H
                      clear H
                      have hnb53 := NB123_116.out
                      have hnc53 := NB116_123.out
                      have hcz54_0 : wc.cell? ⟨gb123, 0, none⟩ = some (.int .i64 ((rd_T185 l0_1 x34_3).f0)) := (blk_cell BK123.out 0).trans rfl
                      have hcz54_1 : wc.cell? ⟨gb123, 1, none⟩ = some (.int .i64 ((rd_T185 l0_1 x34_3).f1)) := (blk_cell BK123.out 1).trans rfl
                      have hcz54_2 : wc.cell? ⟨gb123, 2, none⟩ = some (.int .i64 ((rd_T185 l0_1 x34_3).f2)) := (blk_cell BK123.out 2).trans rfl
                      have hcz54_3 : wc.cell? ⟨gb123, 3, none⟩ = some (.bool ((rd_T185 l0_1 x34_3).f3)) := (blk_cell BK123.out 3).trans rfl
                      have hcz54_4 : wc.cell? ⟨gb123, 4, none⟩ = some (.slice A122_4 ((rd_T185 l0_1 x34_3).f4).length c122_4) := (blk_cell BK123.out 4).trans rfl
                      have hfz54_0 := blk_frozen BK123.out 0
                      have hfz54_1 := blk_frozen BK123.out 1
                      have hfz54_2 := blk_frozen BK123.out 2
                      have hfz54_3 := blk_frozen BK123.out 3
                      have hfz54_4 := blk_frozen BK123.out 4
                      have p126 : 0 ≤ (((rd_T185 l0_1 x34_3).f0) : Int) := of_decide_eq_true (by first | (with_reducible assumption) | assumption)
                      have q126 : ((rd_T185 l0_1 x34_3).f0) < (x3_3.length : Int) := of_decide_eq_true (by first | (with_reducible assumption) | assumption)
                      obtain ⟨ad126, e126, hx126_0⟩ := Kd.at_int (Kd.R_reads' HO_3.out).2.2 ((rd_T185 l0_1 x34_3).f0) p126 q126
                      cases e126
                      replace p126 := eq_true p126
                      replace q126 := eq_true q126
                      go_wp2
                      repeat (go_quiet (fail); try go_wp2)
                      go_meet
                      case rel => exact ⟨_, (true), (by first | rfl | (simp; done) | (simp [*]; done)), H', ⟨by have := HJ1.out; have := HK2.out; have := HK3.out; have := HJ27.out; first | omega | exact Nat.le_refl _⟩, ⟨by (try simp only [hl3_2]); (try simp only [hl3_3]); (with_reducible repeat (first | apply Kd.R_alloc | apply Kd.R_drewN | apply Kd.R_drew)); exact HO_3.out⟩, ⟨by (try simp only [hl3_2]); (try simp only [hl3_3]); (with_reducible repeat (first | refine blk_drewN ?_ _ | refine blk_drew ?_ | refine blk_alloc ?_ _)); exact BK116.out⟩, ⟨by (try simp only [hl3_2]); (try simp only [hl3_3]); (with_reducible repeat (first | refine blk_drewN ?_ _ | refine blk_drew ?_ | refine blk_alloc ?_ _)); exact BK123.out⟩, ⟨by repeat (first | (with_reducible first | exact HB.out | apply below_alloc | apply pw_below_drewN | apply below_drew1 | refine below_set ?_ GE116.out | refine below_set ?_ GE123.out) | exact HB.out)⟩⟩
                    rw [if_neg c52] at H
                    have c52b0 : decide (((rd_T185 l0_1 x34_3).f1) < (rd x3_3 ((rd_T185 l0_1 x34_3).f0))) = false := decide_eq_false c52
                    clear c52
                    by_cases c55 : (rd x3_3 ((rd_T185 l0_1 x34_3).f0)) < 0
                    rotate_left
                    · rw [if_neg c55] at H
                      have c55b0 : decide ((rd x3_3 ((rd_T185 l0_1 x34_3).f0)) < 0) = false := decide_eq_false c55
                      clear c55
                      have H' := Aside0.mk H
                      clear H
                      have hnb58 := NB123_116.out
                      have hnc58 := NB116_123.out
                      have hcz59_0 : wc.cell? ⟨gb123, 0, none⟩ = some (.int .i64 ((rd_T185 l0_1 x34_3).f0)) := (blk_cell BK123.out 0).trans rfl
                      have hcz59_1 : wc.cell? ⟨gb123, 1, none⟩ = some (.int .i64 ((rd_T185 l0_1 x34_3).f1)) := (blk_cell BK123.out 1).trans rfl
                      have hcz59_2 : wc.cell? ⟨gb123, 2, none⟩ = some (.int .i64 ((rd_T185 l0_1 x34_3).f2)) := (blk_cell BK123.out 2).trans rfl
                      have hcz59_3 : wc.cell? ⟨gb123, 3, none⟩ = some (.bool ((rd_T185 l0_1 x34_3).f3)) := (blk_cell BK123.out 3).trans rfl
                      have hcz59_4 : wc.cell? ⟨gb123, 4, none⟩ = some (.slice A122_4 ((rd_T185 l0_1 x34_3).f4).length c122_4) := (blk_cell BK123.out 4).trans rfl
                      have hfz59_0 := blk_frozen BK123.out 0
                      have hfz59_1 := blk_frozen BK123.out 1
                      have hfz59_2 := blk_frozen BK123.out 2
                      have hfz59_3 := blk_frozen BK123.out 3
                      have hfz59_4 := blk_frozen BK123.out 4
                      have p126 : 0 ≤ (((rd_T185 l0_1 x34_3).f0) : Int) := of_decide_eq_true (by first | (with_reducible assumption) | assumption)
                      have q126 : ((rd_T185 l0_1 x34_3).f0) < (x3_3.length : Int) := of_decide_eq_true (by first | (with_reducible assumption) | assumption)
                      obtain ⟨ad126, e126, hx126_0⟩ := Kd.at_int (Kd.R_reads' HO_3.out).2.2 ((rd_T185 l0_1 x34_3).f0) p126 q126
                      cases e126
                      replace p126 := eq_true p126
                      replace q126 := eq_true q126
                      have p127 : 0 ≤ (((rd_T185 l0_1 x34_3).f0) : Int) := of_decide_eq_true (by first | (with_reducible assumption) | assumption)
                      have q127 : ((rd_T185 l0_1 x34_3).f0) < (x3_3.length : Int) := of_decide_eq_true (by first | (with_reducible assumption) | assumption)
                      obtain ⟨ad127, e127, hx127_0⟩ := Kd.at_int (Kd.R_reads' HO_3.out).2.2 ((rd_T185 l0_1 x34_3).f0) p127 q127
                      obtain rfl : ad126 = ad127 := (by injection e127)
                      replace p127 := eq_true p127
                      replace q127 := eq_true q127
                      go_wp2
                      repeat (go_quiet (fail); try go_wp2)
                      go_meet
                      case rel => exact ⟨_, (false), (by first | rfl | (simp; done) | (simp [*]; done)), H', ⟨by have := HJ1.out; have := HK2.out; have := HK3.out; have := HJ27.out; first | omega | exact Nat.le_refl _⟩, ⟨by (try simp only [hl3_2]); (try simp only [hl3_3]); (with_reducible repeat (first | apply Kd.R_alloc | apply Kd.R_drewN | apply Kd.R_drew)); exact HO_3.out⟩, ⟨by (try simp only [hl3_2]); (try simp only [hl3_3]); (with_reducible repeat (first | refine blk_drewN ?_ _ | refine blk_drew ?_ | refine blk_alloc ?_ _)); exact BK116.out⟩, ⟨by (try simp only [hl3_2]); (try simp only [hl3_3]); (with_reducible repeat (first | refine blk_drewN ?_ _ | refine blk_drew ?_ | refine blk_alloc ?_ _)); exact BK123.out⟩, ⟨by repeat (first | (with_reducible first | exact HB.out | apply below_alloc | apply pw_below_drewN | apply below_drew1 | refine below_set ?_ GE116.out | refine below_set ?_ GE123.out) | exact HB.out)⟩⟩
                    rw [if_pos c55] at H
                    have c55b0 : decide ((rd x3_3 ((rd_T185 l0_1 x34_3).f0)) < 0) = true := decide_eq_true c55
                    clear c55
                    have H' := Aside0.mk H
                    clear H
                    have hnb56 := NB123_116.out
                    have hnc56 := NB116_123.out
                    have hcz57_0 : wc.cell? ⟨gb123, 0, none⟩ = some (.int .i64 ((rd_T185 l0_1 x34_3).f0)) := (blk_cell BK123.out 0).trans rfl
                    have hcz57_1 : wc.cell? ⟨gb123, 1, none⟩ = some (.int .i64 ((rd_T185 l0_1 x34_3).f1)) := (blk_cell BK123.out 1).trans rfl
                    have hcz57_2 : wc.cell? ⟨gb123, 2, none⟩ = some (.int .i64 ((rd_T185 l0_1 x34_3).f2)) := (blk_cell BK123.out 2).trans rfl
                    have hcz57_3 : wc.cell? ⟨gb123, 3, none⟩ = some (.bool ((rd_T185 l0_1 x34_3).f3)) := (blk_cell BK123.out 3).trans rfl
                    have hcz57_4 : wc.cell? ⟨gb123, 4, none⟩ = some (.slice A122_4 ((rd_T185 l0_1 x34_3).f4).length c122_4) := (blk_cell BK123.out 4).trans rfl
                    have hfz57_0 := blk_frozen BK123.out 0
                    have hfz57_1 := blk_frozen BK123.out 1
                    have hfz57_2 := blk_frozen BK123.out 2
                    have hfz57_3 := blk_frozen BK123.out 3
                    have hfz57_4 := blk_frozen BK123.out 4
                    have p126 : 0 ≤ (((rd_T185 l0_1 x34_3).f0) : Int) := of_decide_eq_true (by first | (with_reducible assumption) | assumption)
                    have q126 : ((rd_T185 l0_1 x34_3).f0) < (x3_3.length : Int) := of_decide_eq_true (by first | (with_reducible assumption) | assumption)
                    obtain ⟨ad126, e126, hx126_0⟩ := Kd.at_int (Kd.R_reads' HO_3.out).2.2 ((rd_T185 l0_1 x34_3).f0) p126 q126
                    cases e126
                    replace p126 := eq_true p126
                    replace q126 := eq_true q126
                    have p127 : 0 ≤ (((rd_T185 l0_1 x34_3).f0) : Int) := of_decide_eq_true (by first | (with_reducible assumption) | assumption)
                    have q127 : ((rd_T185 l0_1 x34_3).f0) < (x3_3.length : Int) := of_decide_eq_true (by first | (with_reducible assumption) | assumption)
                    obtain ⟨ad127, e127, hx127_0⟩ := Kd.at_int (Kd.R_reads' HO_3.out).2.2 ((rd_T185 l0_1 x34_3).f0) p127 q127
                    obtain rfl : ad126 = ad127 := (by injection e127)
                    replace p127 := eq_true p127
                    replace q127 := eq_true q127
                    go_wp2
                    repeat (go_quiet (fail); try go_wp2)
                    go_meet
                    case rel => exact ⟨_, (!((rd_T185 l0_1 x34_3).f3)), (by first | rfl | (simp; done) | (simp [*]; done)), H', ⟨by have := HJ1.out; have := HK2.out; have := HK3.out; have := HJ27.out; first | omega | exact Nat.le_refl _⟩, ⟨by (try simp only [hl3_2]); (try simp only [hl3_3]); (with_reducible repeat (first | apply Kd.R_alloc | apply Kd.R_drewN | apply Kd.R_drew)); exact HO_3.out⟩, ⟨by (try simp only [hl3_2]); (try simp only [hl3_3]); (with_reducible repeat (first | refine blk_drewN ?_ _ | refine blk_drew ?_ | refine blk_alloc ?_ _)); exact BK116.out⟩, ⟨by (try simp only [hl3_2]); (try simp only [hl3_3]); (with_reducible repeat (first | refine blk_drewN ?_ _ | refine blk_drew ?_ | refine blk_alloc ?_ _)); exact BK123.out⟩, ⟨by repeat (first | (with_reducible first | exact HB.out | apply below_alloc | apply pw_below_drewN | apply below_drew1 | refine below_set ?_ GE116.out | refine below_set ?_ GE123.out) | exact HB.out)⟩⟩
                  case rest =>
                    clear HC49
                    try clear c1
                    try clear p1
                    try clear q1
                    try clear hx1
                    try clear c2
                    try clear p2
                    try clear q2
                    try clear hx2
                    try clear hf2
                    try clear c3
                    try clear c4
                    try clear c5
                    try clear p6
                    try clear c11
                    try clear c12
                    try clear c12b0
                    try clear c12b1
                    try clear p12
                    try clear q12
                    try clear hx12
                    try clear c13
                    try clear c13b0
                    try clear c13b1
                    try clear c16
                    try clear c18
                    try clear c18b0
                    try clear c19
                    try clear c19b0
                    try clear c20
                    try clear c20b0
                    try clear p21
                    try clear q21
                    try clear hx21
                    try clear hf21
                    try clear c25
                    try clear c25b0
                    try clear c26
                    try clear c26b0
                    try clear c27
                    try clear c27b0
                    try clear c30
                    try clear c32
                    try clear c32b0
                    try clear c33
                    try clear c35
                    try clear c35b0
                    try clear c36
                    try clear c40
                    try clear c42
                    try clear c45
                    try clear c48
                    try clear c50
                    try clear c50b0
                    try clear c51
                    try clear c51b0
                    try clear c52
                    try clear c52b0
                    try clear c53
                    try clear c55
                    try clear c55b0
                    try clear c56
                    try clear c58
                    try clear hcz14_0
                    try clear hcz14_1
                    try clear hcz24_0
                    try clear hcz24_1
                    try clear hcz31_0
                    try clear hcz31_1
                    try clear hcz31_2
                    try clear hcz31_3
                    try clear hcz31_4
                    try clear hcz34_0
                    try clear hcz34_1
                    try clear hcz34_2
                    try clear hcz34_3
                    try clear hcz34_4
                    try clear hcz37_0
                    try clear hcz37_1
                    try clear hcz37_2
                    try clear hcz37_3
                    try clear hcz37_4
                    try clear hcz38_0
                    try clear hcz38_1
                    try clear hcz43_0
                    try clear hcz43_1
                    try clear hcz43_2
                    try clear hcz43_3
                    try clear hcz43_4
                    try clear hcz44_0
                    try clear hcz44_1
                    try clear hcz46_0
                    try clear hcz46_1
                    try clear hcz46_2
                    try clear hcz46_3
                    try clear hcz46_4
                    try clear hcz47_0
                    try clear hcz47_1
                    try clear hcz54_0
                    try clear hcz54_1
                    try clear hcz54_2
                    try clear hcz54_3
                    try clear hcz54_4
                    try clear hcz57_0
                    try clear hcz57_1
                    try clear hcz57_2
                    try clear hcz57_3
                    try clear hcz57_4
                    try clear hcz59_0
                    try clear hcz59_1
                    try clear hcz59_2
                    try clear hcz59_3
                    try clear hcz59_4
                    try clear hcz6_0
                    try clear hcz6_1
                    try clear hcz8_0
                    try clear hcz8_1
                    try clear hcz9_0
                    try clear hcz9_1
                    try clear hfz14_0
                    try clear hfz14_1
                    try clear hfz24_0
                    try clear hfz24_1
                    try clear hfz31_0
                    try clear hfz31_1
                    try clear hfz31_2
                    try clear hfz31_3
                    try clear hfz31_4
                    try clear hfz34_0
                    try clear hfz34_1
                    try clear hfz34_2
                    try clear hfz34_3
                    try clear hfz34_4
                    try clear hfz37_0
                    try clear hfz37_1
                    try clear hfz37_2
                    try clear hfz37_3
                    try clear hfz37_4
                    try clear hfz38_0
                    try clear hfz38_1
                    try clear hfz43_0
                    try clear hfz43_1
                    try clear hfz43_2
                    try clear hfz43_3
                    try clear hfz43_4
                    try clear hfz44_0
                    try clear hfz44_1
                    try clear hfz46_0
                    try clear hfz46_1
                    try clear hfz46_2
                    try clear hfz46_3
                    try clear hfz46_4
                    try clear hfz47_0
                    try clear hfz47_1
                    try clear hfz54_0
                    try clear hfz54_1
                    try clear hfz54_2
                    try clear hfz54_3
                    try clear hfz54_4
                    try clear hfz57_0
                    try clear hfz57_1
                    try clear hfz57_2
                    try clear hfz57_3
                    try clear hfz57_4
                    try clear hfz59_0
                    try clear hfz59_1
                    try clear hfz59_2
                    try clear hfz59_3
                    try clear hfz59_4
                    try clear hfz6_0
                    try clear hfz6_1
                    try clear hfz8_0
                    try clear hfz8_1
                    try clear hfz9_0
                    try clear hfz9_1
                    try clear hx122_0
                    try clear hx122_1
                    try clear hx122_2
                    try clear hx122_3
                    try clear hx122_4
                    try clear hx126_0
                    try clear hx127_0
                    try clear hx21_0
                    try clear p1
                    try clear p12
                    try clear p122
                    try clear p126
                    try clear p127
                    try clear p2
                    try clear p21
                    try clear p6
                    try clear q1
                    try clear q12
                    try clear q122
                    try clear q126
                    try clear q127
                    try clear q2
                    try clear q21
                    obtain ⟨kq, x81_48, rfl, HA, HJ48, HO_3, BK116, BK123, HB⟩ := hcut
                    cases kq with
                    | zero => exact absurd HA.out (by simp [spec_l16Right.j4])
                    | succ kj48 =>
                      have H := HA.out
                      clear HA
                      simp only [spec_l16Right.j4] at H
                      by_cases c60 : x81_48 = true
                      · subst c60
                        have H1 : (some false) = some r := by rw [if_pos rfl] at H; exact H
                        clear H
                        have H := H1
                        clear H1
                        obtain rfl := Option.some.inj H
                        go_wp2
                        repeat (go_quiet (fail); try go_wp2)
                        go_ret
                        exact ⟨by first | rfl | (simp [errW_none, errW_some] <;> rfl) | (simp [*, errW_none, errW_some] <;> rfl), by repeat (first | (with_reducible first | exact HB.out | apply below_alloc | apply pw_below_drewN | apply below_drew1 | refine below_set ?_ GE116.out | refine below_set ?_ GE123.out) | exact HB.out)⟩
                      replace c60 := Bool.eq_false_iff.mpr c60
                      subst c60
                      have H1 : (if 0 ≤ ((rd_T185 l0_1 x34_3).f0) then (if ((rd_T185 l0_1 x34_3).f0) < (x3_3.length : Int) then (if (wrap64 (x5_3 + (((rd_T185 l0_1 x34_3).f4).length : Int))) > 60000 then (some false) else (spec_l16Right.l1 kj48 (x3_3.set (((rd_T185 l0_1 x34_3).f0) : Int).toNat ((rd_T185 l0_1 x34_3).f1)) (wrap64 (x5_3 + (((rd_T185 l0_1 x34_3).f4).length : Int))) l0_1 (l0_1.length : Int) (wrap64 (x34_3 + 1)) l0_0 l0_1)) else (none)) else (none)) = some r := by rw [if_neg (show ¬ (false = true) by decide)] at H; exact H
                      clear H
                      have H := H1
                      clear H1
                      by_cases c61 : 0 ≤ ((rd_T185 l0_1 x34_3).f0)
                      rotate_left
                      · rw [if_neg c61] at H
                        exact absurd H (by simp)
                      rw [if_pos c61] at H
                      have c61b0 : decide (0 ≤ ((rd_T185 l0_1 x34_3).f0)) = true := decide_eq_true c61
                      clear c61
                      by_cases c62 : ((rd_T185 l0_1 x34_3).f0) < (x3_3.length : Int)
                      rotate_left
                      · rw [if_neg c62] at H
                        exact absurd H (by simp)
                      rw [if_pos c62] at H
                      have c62b0 : decide (((rd_T185 l0_1 x34_3).f0) < (x3_3.length : Int)) = true := decide_eq_true c62
                      (try simp only [hl3_2] at c62b0)
                      (try simp only [hl3_3] at c62b0)
                      clear c62
                      obtain ⟨y128, hy128⟩ : ∃ y_ : List Int, y_ = (x3_3.set (((rd_T185 l0_1 x34_3).f0) : Int).toNat ((rd_T185 l0_1 x34_3).f1)) := ⟨_, rfl⟩
                      replace H : (if (wrap64 (x5_3 + (((rd_T185 l0_1 x34_3).f4).length : Int))) > 60000 then (some false) else (spec_l16Right.l1 kj48 y128 (wrap64 (x5_3 + (((rd_T185 l0_1 x34_3).f4).length : Int))) l0_1 (l0_1.length : Int) (wrap64 (x34_3 + 1)) l0_0 l0_1)) = some r := by first | (rw [hy128]; with_reducible exact H) | (have H2_ := (Option.bind_some _ _).symm.trans H; rw [hy128]; with_reducible exact H2_) | (have H2_ := (Option.bind_some _ _).symm.trans H; with_reducible exact H2_) | with_reducible exact H | (rw [hy128]; exact H) | exact H
                      have Ny128 := Aside0.mk hy128
                      clear hy128
                      by_cases c64 : (wrap64 (x5_3 + (((rd_T185 l0_1 x34_3).f4).length : Int))) > 60000
                      · rw [if_pos c64] at H
                        have c64b0 : decide (60000 < (wrap64 (x5_3 + (((rd_T185 l0_1 x34_3).f4).length : Int)))) = true := decide_eq_true c64
                        (try simp only [hl3_2] at c64b0)
                        (try simp only [hl3_3] at c64b0)
                        clear c64
                        obtain rfl := Option.some.inj H
                        have hnb65 := NB123_116.out
                        have hnc65 := NB116_123.out
                        have hcz66_0 : wc.cell? ⟨gb123, 0, none⟩ = some (.int .i64 ((rd_T185 l0_1 x34_3).f0)) := (blk_cell BK123.out 0).trans rfl
                        have hcz66_1 : wc.cell? ⟨gb123, 1, none⟩ = some (.int .i64 ((rd_T185 l0_1 x34_3).f1)) := (blk_cell BK123.out 1).trans rfl
                        have hcz66_2 : wc.cell? ⟨gb123, 2, none⟩ = some (.int .i64 ((rd_T185 l0_1 x34_3).f2)) := (blk_cell BK123.out 2).trans rfl
                        have hcz66_3 : wc.cell? ⟨gb123, 3, none⟩ = some (.bool ((rd_T185 l0_1 x34_3).f3)) := (blk_cell BK123.out 3).trans rfl
                        have hcz66_4 : wc.cell? ⟨gb123, 4, none⟩ = some (.slice A122_4 ((rd_T185 l0_1 x34_3).f4).length c122_4) := (blk_cell BK123.out 4).trans rfl
                        have hfz66_0 := blk_frozen BK123.out 0
                        have hfz66_1 := blk_frozen BK123.out 1
                        have hfz66_2 := blk_frozen BK123.out 2
                        have hfz66_3 := blk_frozen BK123.out 3
                        have hfz66_4 := blk_frozen BK123.out 4
                        have p63 : 0 ≤ (((rd_T185 l0_1 x34_3).f0) : Int) := of_decide_eq_true (by first | (with_reducible assumption) | assumption)
                        have q63 : (((rd_T185 l0_1 x34_3).f0) : Int) < ((x3_3.length : Int) : Int) := of_decide_eq_true (by first | (with_reducible assumption) | assumption)
                        obtain ⟨go63, co63, eo63, gb63, gl63, cl63, HG63⟩ := Kd.R_form HO_3.out (by omega)
                        (first | cases eo63 | (injection eo63 with ea_ en_ ec_; (first | subst ea_ | (injection ea_ with ea_; subst ea_)); subst ec_; clear en_))
                        have GB63 := Aside0.mk gb63
                        have GG63 := Aside0.mk HG63
                        clear gb63 gl63 HG63
                        obtain ⟨hx63_0, hf63_0⟩ := Kd.R_celln 0 HO_3.out (((rd_T185 l0_1 x34_3).f0) : Int) p63 q63
                        replace p63 := eq_true p63
                        replace q63 := eq_true q63
                        have HP67 := Kd.R_putg HO_3.out (((rd_T185 l0_1 x34_3).f0) : Int) ((rd_T185 l0_1 x34_3).f1)
                        iterate 3 (try go_wp2_with (first | ((with_reducible refine gate_store (t := 3) (p := 87) rfl ?_); (try (rw [drewN_self wc]; generalize hq_ : World.drewN wc _ = wc; have n0_ := Aside0.mk (Kd.R_at hq_ HO_3.out); have n1_ := Aside0.mk (blk_at hq_ BK116.out); have n2_ := Aside0.mk (blk_at hq_ BK123.out); have n3_ := Aside0.mk (below_at hq_ HB.out); clear hq_ HO_3 BK116 BK123 HB; have HO_3 := n0_; have BK116 := n1_; have BK123 := n2_; have HB := n3_; clear n0_ n1_ n2_ n3_; (try (have HP67 := Kd.R_putg HO_3.out (((rd_T185 l0_1 x34_3).f0) : Int) ((rd_T185 l0_1 x34_3).f1))))); refine store_event (t := 3) (p := 87) (v := ?vo_w68) (w1 := (wc.setCell ⟨go63, (((rd_T185 l0_1 x34_3).f0) : Int).toNat, none⟩ (.int .i64 ((rd_T185 l0_1 x34_3).f1)))) ?hg ?ho ?hn ?hr ?_; (case ho => rfl); (case hg => rfl); (case hn => rfl); (case hr => first | (go_simp; done) | (go_simp; rfl)); intro w68 hw; have hg : wc.grownBy w68 (some go63) := (by rw [hw]; exact HP67.2); have hp_ : Kd.R (Kd.int .i64) 3 w68 w.heap.size (fun _ => True) (.slice (some ⟨go63, 0, none⟩) x3_3.length co17) y128 := (by rw [hw, Ny128.out]; exact HP67.1); clear HP67; have n0_ := Aside0.mk (hp_); have n1_ := Aside0.mk (blk_grown (g := gb116) (o := .cells #[.slice A0_0 l0_0.length c0_0, .slice (some ad122) l0_1.length c0_1] 76 (0, 0)) (by (with_reducible repeat (first | refine blk_drewN ?_ _ | refine blk_drew ?_ | refine blk_alloc ?_ _)); exact BK116.out) hg (Kd.R_ne HO_3.out BK116.out (by decide))); have n2_ := Aside0.mk (blk_grown (g := gb123) (o := .cells #[.int .i64 ((rd_T185 l0_1 x34_3).f0), .int .i64 ((rd_T185 l0_1 x34_3).f1), .int .i64 ((rd_T185 l0_1 x34_3).f2), .bool ((rd_T185 l0_1 x34_3).f3), .slice A122_4 ((rd_T185 l0_1 x34_3).f4).length c122_4] 185 (0, 0)) (by (with_reducible repeat (first | refine blk_drewN ?_ _ | refine blk_drew ?_ | refine blk_alloc ?_ _)); exact BK123.out) hg (Kd.R_ne HO_3.out BK123.out (by decide))); have n3_ := Aside0.mk ((by rw [hw]; exact below_set (HB.out) GB63.out : Below w.heap.size w w68)); clear HO_3; clear BK116; clear BK123; clear HB; have HO_3 := n0_; have BK116 := n1_; have BK123 := n2_; have HB := n3_; clear n0_ n1_ n2_ n3_; clear hg hw hp_; have hcz69_0 : w68.cell? ⟨gb123, 0, none⟩ = some (.int .i64 ((rd_T185 l0_1 x34_3).f0)) := (blk_cell BK123.out 0).trans rfl; have hcz69_1 : w68.cell? ⟨gb123, 1, none⟩ = some (.int .i64 ((rd_T185 l0_1 x34_3).f1)) := (blk_cell BK123.out 1).trans rfl; have hcz69_2 : w68.cell? ⟨gb123, 2, none⟩ = some (.int .i64 ((rd_T185 l0_1 x34_3).f2)) := (blk_cell BK123.out 2).trans rfl; have hcz69_3 : w68.cell? ⟨gb123, 3, none⟩ = some (.bool ((rd_T185 l0_1 x34_3).f3)) := (blk_cell BK123.out 3).trans rfl; have hcz69_4 : w68.cell? ⟨gb123, 4, none⟩ = some (.slice A122_4 ((rd_T185 l0_1 x34_3).f4).length c122_4) := (blk_cell BK123.out 4).trans rfl; have hfz69_0 := blk_frozen BK123.out 0; have hfz69_1 := blk_frozen BK123.out 1; have hfz69_2 := blk_frozen BK123.out 2; have hfz69_3 := blk_frozen BK123.out 3; have hfz69_4 := blk_frozen BK123.out 4)); try go_quiet (first | ((with_reducible refine gate_store (t := 3) (p := 87) rfl ?_); (try (rw [drewN_self wc]; generalize hq_ : World.drewN wc _ = wc; have n0_ := Aside0.mk (Kd.R_at hq_ HO_3.out); have n1_ := Aside0.mk (blk_at hq_ BK116.out); have n2_ := Aside0.mk (blk_at hq_ BK123.out); have n3_ := Aside0.mk (below_at hq_ HB.out); clear hq_ HO_3 BK116 BK123 HB; have HO_3 := n0_; have BK116 := n1_; have BK123 := n2_; have HB := n3_; clear n0_ n1_ n2_ n3_; (try (have HP67 := Kd.R_putg HO_3.out (((rd_T185 l0_1 x34_3).f0) : Int) ((rd_T185 l0_1 x34_3).f1))))); refine store_event (t := 3) (p := 87) (v := ?vo_w68) (w1 := (wc.setCell ⟨go63, (((rd_T185 l0_1 x34_3).f0) : Int).toNat, none⟩ (.int .i64 ((rd_T185 l0_1 x34_3).f1)))) ?hg ?ho ?hn ?hr ?_; (case ho => rfl); (case hg => rfl); (case hn => rfl); (case hr => first | (go_simp; done) | (go_simp; rfl)); intro w68 hw; have hg : wc.grownBy w68 (some go63) := (by rw [hw]; exact HP67.2); have hp_ : Kd.R (Kd.int .i64) 3 w68 w.heap.size (fun _ => True) (.slice (some ⟨go63, 0, none⟩) x3_3.length co17) y128 := (by rw [hw, Ny128.out]; exact HP67.1); clear HP67; have n0_ := Aside0.mk (hp_); have n1_ := Aside0.mk (blk_grown (g := gb116) (o := .cells #[.slice A0_0 l0_0.length c0_0, .slice (some ad122) l0_1.length c0_1] 76 (0, 0)) (by (with_reducible repeat (first | refine blk_drewN ?_ _ | refine blk_drew ?_ | refine blk_alloc ?_ _)); exact BK116.out) hg (Kd.R_ne HO_3.out BK116.out (by decide))); have n2_ := Aside0.mk (blk_grown (g := gb123) (o := .cells #[.int .i64 ((rd_T185 l0_1 x34_3).f0), .int .i64 ((rd_T185 l0_1 x34_3).f1), .int .i64 ((rd_T185 l0_1 x34_3).f2), .bool ((rd_T185 l0_1 x34_3).f3), .slice A122_4 ((rd_T185 l0_1 x34_3).f4).length c122_4] 185 (0, 0)) (by (with_reducible repeat (first | refine blk_drewN ?_ _ | refine blk_drew ?_ | refine blk_alloc ?_ _)); exact BK123.out) hg (Kd.R_ne HO_3.out BK123.out (by decide))); have n3_ := Aside0.mk ((by rw [hw]; exact below_set (HB.out) GB63.out : Below w.heap.size w w68)); clear HO_3; clear BK116; clear BK123; clear HB; have HO_3 := n0_; have BK116 := n1_; have BK123 := n2_; have HB := n3_; clear n0_ n1_ n2_ n3_; clear hg hw hp_; have hcz69_0 : w68.cell? ⟨gb123, 0, none⟩ = some (.int .i64 ((rd_T185 l0_1 x34_3).f0)) := (blk_cell BK123.out 0).trans rfl; have hcz69_1 : w68.cell? ⟨gb123, 1, none⟩ = some (.int .i64 ((rd_T185 l0_1 x34_3).f1)) := (blk_cell BK123.out 1).trans rfl; have hcz69_2 : w68.cell? ⟨gb123, 2, none⟩ = some (.int .i64 ((rd_T185 l0_1 x34_3).f2)) := (blk_cell BK123.out 2).trans rfl; have hcz69_3 : w68.cell? ⟨gb123, 3, none⟩ = some (.bool ((rd_T185 l0_1 x34_3).f3)) := (blk_cell BK123.out 3).trans rfl; have hcz69_4 : w68.cell? ⟨gb123, 4, none⟩ = some (.slice A122_4 ((rd_T185 l0_1 x34_3).f4).length c122_4) := (blk_cell BK123.out 4).trans rfl; have hfz69_0 := blk_frozen BK123.out 0; have hfz69_1 := blk_frozen BK123.out 1; have hfz69_2 := blk_frozen BK123.out 2; have hfz69_3 := blk_frozen BK123.out 3; have hfz69_4 := blk_frozen BK123.out 4)))
                        go_ret
                        exact ⟨by first | rfl | (simp [errW_none, errW_some] <;> rfl) | (simp [*, errW_none, errW_some] <;> rfl), by repeat (first | (with_reducible first | exact HB.out | apply below_alloc | apply pw_below_drewN | apply below_drew1 | refine below_set ?_ GE116.out | refine below_set ?_ GE123.out) | exact HB.out)⟩
                      rw [if_neg c64] at H
                      have c64b0 : decide (60000 < (wrap64 (x5_3 + (((rd_T185 l0_1 x34_3).f4).length : Int)))) = false := decide_eq_false c64
                      (try simp only [hl3_2] at c64b0)
                      (try simp only [hl3_3] at c64b0)
                      clear c64
                      have H' := Aside0.mk H
                      clear H
                      have hnb70 := NB123_116.out
                      have hnc70 := NB116_123.out
                      have hcz71_0 : wc.cell? ⟨gb123, 0, none⟩ = some (.int .i64 ((rd_T185 l0_1 x34_3).f0)) := (blk_cell BK123.out 0).trans rfl
                      have hcz71_1 : wc.cell? ⟨gb123, 1, none⟩ = some (.int .i64 ((rd_T185 l0_1 x34_3).f1)) := (blk_cell BK123.out 1).trans rfl
                      have hcz71_2 : wc.cell? ⟨gb123, 2, none⟩ = some (.int .i64 ((rd_T185 l0_1 x34_3).f2)) := (blk_cell BK123.out 2).trans rfl
                      have hcz71_3 : wc.cell? ⟨gb123, 3, none⟩ = some (.bool ((rd_T185 l0_1 x34_3).f3)) := (blk_cell BK123.out 3).trans rfl
                      have hcz71_4 : wc.cell? ⟨gb123, 4, none⟩ = some (.slice A122_4 ((rd_T185 l0_1 x34_3).f4).length c122_4) := (blk_cell BK123.out 4).trans rfl
                      have hfz71_0 := blk_frozen BK123.out 0
                      have hfz71_1 := blk_frozen BK123.out 1
                      have hfz71_2 := blk_frozen BK123.out 2
                      have hfz71_3 := blk_frozen BK123.out 3
                      have hfz71_4 := blk_frozen BK123.out 4
                      have p63 : 0 ≤ (((rd_T185 l0_1 x34_3).f0) : Int) := of_decide_eq_true (by first | (with_reducible assumption) | assumption)
                      have q63 : (((rd_T185 l0_1 x34_3).f0) : Int) < ((x3_3.length : Int) : Int) := of_decide_eq_true (by first | (with_reducible assumption) | assumption)
                      obtain ⟨go63, co63, eo63, gb63, gl63, cl63, HG63⟩ := Kd.R_form HO_3.out (by omega)
                      (first | cases eo63 | (injection eo63 with ea_ en_ ec_; (first | subst ea_ | (injection ea_ with ea_; subst ea_)); subst ec_; clear en_))
                      have GB63 := Aside0.mk gb63
                      have GG63 := Aside0.mk HG63
                      clear gb63 gl63 HG63
                      obtain ⟨hx63_0, hf63_0⟩ := Kd.R_celln 0 HO_3.out (((rd_T185 l0_1 x34_3).f0) : Int) p63 q63
                      replace p63 := eq_true p63
                      replace q63 := eq_true q63
                      have HP72 := Kd.R_putg HO_3.out (((rd_T185 l0_1 x34_3).f0) : Int) ((rd_T185 l0_1 x34_3).f1)
                      iterate 3 (try go_wp2_with (first | ((with_reducible refine gate_store (t := 3) (p := 87) rfl ?_); (try (rw [drewN_self wc]; generalize hq_ : World.drewN wc _ = wc; have n0_ := Aside0.mk (Kd.R_at hq_ HO_3.out); have n1_ := Aside0.mk (blk_at hq_ BK116.out); have n2_ := Aside0.mk (blk_at hq_ BK123.out); have n3_ := Aside0.mk (below_at hq_ HB.out); clear hq_ HO_3 BK116 BK123 HB; have HO_3 := n0_; have BK116 := n1_; have BK123 := n2_; have HB := n3_; clear n0_ n1_ n2_ n3_; (try (have HP72 := Kd.R_putg HO_3.out (((rd_T185 l0_1 x34_3).f0) : Int) ((rd_T185 l0_1 x34_3).f1))))); refine store_event (t := 3) (p := 87) (v := ?vo_w73) (w1 := (wc.setCell ⟨go63, (((rd_T185 l0_1 x34_3).f0) : Int).toNat, none⟩ (.int .i64 ((rd_T185 l0_1 x34_3).f1)))) ?hg ?ho ?hn ?hr ?_; (case ho => rfl); (case hg => rfl); (case hn => rfl); (case hr => first | (go_simp; done) | (go_simp; rfl)); intro w73 hw; have hg : wc.grownBy w73 (some go63) := (by rw [hw]; exact HP72.2); have hp_ : Kd.R (Kd.int .i64) 3 w73 w.heap.size (fun _ => True) (.slice (some ⟨go63, 0, none⟩) x3_3.length co17) y128 := (by rw [hw, Ny128.out]; exact HP72.1); clear HP72; have n0_ := Aside0.mk (hp_); have n1_ := Aside0.mk (blk_grown (g := gb116) (o := .cells #[.slice A0_0 l0_0.length c0_0, .slice (some ad122) l0_1.length c0_1] 76 (0, 0)) (by (with_reducible repeat (first | refine blk_drewN ?_ _ | refine blk_drew ?_ | refine blk_alloc ?_ _)); exact BK116.out) hg (Kd.R_ne HO_3.out BK116.out (by decide))); have n2_ := Aside0.mk (blk_grown (g := gb123) (o := .cells #[.int .i64 ((rd_T185 l0_1 x34_3).f0), .int .i64 ((rd_T185 l0_1 x34_3).f1), .int .i64 ((rd_T185 l0_1 x34_3).f2), .bool ((rd_T185 l0_1 x34_3).f3), .slice A122_4 ((rd_T185 l0_1 x34_3).f4).length c122_4] 185 (0, 0)) (by (with_reducible repeat (first | refine blk_drewN ?_ _ | refine blk_drew ?_ | refine blk_alloc ?_ _)); exact BK123.out) hg (Kd.R_ne HO_3.out BK123.out (by decide))); have n3_ := Aside0.mk ((by rw [hw]; exact below_set (HB.out) GB63.out : Below w.heap.size w w73)); clear HO_3; clear BK116; clear BK123; clear HB; have HO_3 := n0_; have BK116 := n1_; have BK123 := n2_; have HB := n3_; clear n0_ n1_ n2_ n3_; clear hg hw hp_; have hcz74_0 : w73.cell? ⟨gb123, 0, none⟩ = some (.int .i64 ((rd_T185 l0_1 x34_3).f0)) := (blk_cell BK123.out 0).trans rfl; have hcz74_1 : w73.cell? ⟨gb123, 1, none⟩ = some (.int .i64 ((rd_T185 l0_1 x34_3).f1)) := (blk_cell BK123.out 1).trans rfl; have hcz74_2 : w73.cell? ⟨gb123, 2, none⟩ = some (.int .i64 ((rd_T185 l0_1 x34_3).f2)) := (blk_cell BK123.out 2).trans rfl; have hcz74_3 : w73.cell? ⟨gb123, 3, none⟩ = some (.bool ((rd_T185 l0_1 x34_3).f3)) := (blk_cell BK123.out 3).trans rfl; have hcz74_4 : w73.cell? ⟨gb123, 4, none⟩ = some (.slice A122_4 ((rd_T185 l0_1 x34_3).f4).length c122_4) := (blk_cell BK123.out 4).trans rfl; have hfz74_0 := blk_frozen BK123.out 0; have hfz74_1 := blk_frozen BK123.out 1; have hfz74_2 := blk_frozen BK123.out 2; have hfz74_3 := blk_frozen BK123.out 3; have hfz74_4 := blk_frozen BK123.out 4)); try go_quiet (first | ((with_reducible refine gate_store (t := 3) (p := 87) rfl ?_); (try (rw [drewN_self wc]; generalize hq_ : World.drewN wc _ = wc; have n0_ := Aside0.mk (Kd.R_at hq_ HO_3.out); have n1_ := Aside0.mk (blk_at hq_ BK116.out); have n2_ := Aside0.mk (blk_at hq_ BK123.out); have n3_ := Aside0.mk (below_at hq_ HB.out); clear hq_ HO_3 BK116 BK123 HB; have HO_3 := n0_; have BK116 := n1_; have BK123 := n2_; have HB := n3_; clear n0_ n1_ n2_ n3_; (try (have HP72 := Kd.R_putg HO_3.out (((rd_T185 l0_1 x34_3).f0) : Int) ((rd_T185 l0_1 x34_3).f1))))); refine store_event (t := 3) (p := 87) (v := ?vo_w73) (w1 := (wc.setCell ⟨go63, (((rd_T185 l0_1 x34_3).f0) : Int).toNat, none⟩ (.int .i64 ((rd_T185 l0_1 x34_3).f1)))) ?hg ?ho ?hn ?hr ?_; (case ho => rfl); (case hg => rfl); (case hn => rfl); (case hr => first | (go_simp; done) | (go_simp; rfl)); intro w73 hw; have hg : wc.grownBy w73 (some go63) := (by rw [hw]; exact HP72.2); have hp_ : Kd.R (Kd.int .i64) 3 w73 w.heap.size (fun _ => True) (.slice (some ⟨go63, 0, none⟩) x3_3.length co17) y128 := (by rw [hw, Ny128.out]; exact HP72.1); clear HP72; have n0_ := Aside0.mk (hp_); have n1_ := Aside0.mk (blk_grown (g := gb116) (o := .cells #[.slice A0_0 l0_0.length c0_0, .slice (some ad122) l0_1.length c0_1] 76 (0, 0)) (by (with_reducible repeat (first | refine blk_drewN ?_ _ | refine blk_drew ?_ | refine blk_alloc ?_ _)); exact BK116.out) hg (Kd.R_ne HO_3.out BK116.out (by decide))); have n2_ := Aside0.mk (blk_grown (g := gb123) (o := .cells #[.int .i64 ((rd_T185 l0_1 x34_3).f0), .int .i64 ((rd_T185 l0_1 x34_3).f1), .int .i64 ((rd_T185 l0_1 x34_3).f2), .bool ((rd_T185 l0_1 x34_3).f3), .slice A122_4 ((rd_T185 l0_1 x34_3).f4).length c122_4] 185 (0, 0)) (by (with_reducible repeat (first | refine blk_drewN ?_ _ | refine blk_drew ?_ | refine blk_alloc ?_ _)); exact BK123.out) hg (Kd.R_ne HO_3.out BK123.out (by decide))); have n3_ := Aside0.mk ((by rw [hw]; exact below_set (HB.out) GB63.out : Below w.heap.size w w73)); clear HO_3; clear BK116; clear BK123; clear HB; have HO_3 := n0_; have BK116 := n1_; have BK123 := n2_; have HB := n3_; clear n0_ n1_ n2_ n3_; clear hg hw hp_; have hcz74_0 : w73.cell? ⟨gb123, 0, none⟩ = some (.int .i64 ((rd_T185 l0_1 x34_3).f0)) := (blk_cell BK123.out 0).trans rfl; have hcz74_1 : w73.cell? ⟨gb123, 1, none⟩ = some (.int .i64 ((rd_T185 l0_1 x34_3).f1)) := (blk_cell BK123.out 1).trans rfl; have hcz74_2 : w73.cell? ⟨gb123, 2, none⟩ = some (.int .i64 ((rd_T185 l0_1 x34_3).f2)) := (blk_cell BK123.out 2).trans rfl; have hcz74_3 : w73.cell? ⟨gb123, 3, none⟩ = some (.bool ((rd_T185 l0_1 x34_3).f3)) := (blk_cell BK123.out 3).trans rfl; have hcz74_4 : w73.cell? ⟨gb123, 4, none⟩ = some (.slice A122_4 ((rd_T185 l0_1 x34_3).f4).length c122_4) := (blk_cell BK123.out 4).trans rfl; have hfz74_0 := blk_frozen BK123.out 0; have hfz74_1 := blk_frozen BK123.out 1; have hfz74_2 := blk_frozen BK123.out 2; have hfz74_3 := blk_frozen BK123.out 3; have hfz74_4 := blk_frozen BK123.out 4)))
                      (try simp only [← hl3_3])
                      go_roundg kj48
                      case measure => have := HJ1.out; have := HK2.out; have := HK3.out; have := HJ27.out; have := HJ48.out; omega
                      case rel => exact ⟨(y128), (wrap64 (x5_3 + (((rd_T185 l0_1 x34_3).f4).length : Int))), (wrap64 (x34_3 + 1)), (by first | rfl | (simp; done) | (simp [*]; done)), (by first | rfl | (simp; done) | (simp [*]; done)), H', ⟨by have := HJ1.out; have := HK2.out; have := HK3.out; have := HJ27.out; have := HJ48.out; omega⟩, ⟨by (try simp only [hl3_2]); (try simp only [hl3_3]); (with_reducible repeat (first | apply Kd.R_alloc | apply Kd.R_drewN | apply Kd.R_drew)); exact HO_3.out⟩, ⟨by (try simp only [hl3_2]); (try simp only [hl3_3]); (with_reducible repeat (first | refine blk_drewN ?_ _ | refine blk_drew ?_ | refine blk_alloc ?_ _)); exact BK116.out⟩, ⟨by repeat (first | (with_reducible first | exact HB.out | apply below_alloc | apply pw_below_drewN | apply below_drew1 | refine below_set ?_ GE116.out | refine below_set ?_ GE123.out) | exact HB.out)⟩⟩

end Go.Proofs.Ytglaedjadlappaa.PFnExactDue

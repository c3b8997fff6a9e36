-- written by myprint.py (a program of this session's over the kit's print)
import Derived.Test.YtglaedjadlappaaPFnBitsx0
import Derived.Test.YtglaedjadlappaaPFnBitsx1
namespace Go.Proofs.Ytglaedjadlappaa.PFnBits
open Go.RowKit Go.Proofs.YtglaedjadlappaaW.PrintWords Go.Proofs.YtglaedjadlappaaW.PrintLast Go.Proofs.YtglaedjadlappaaW.PrintMore
attribute [local go_sem] max2_int min2_int max_two min_two max_three min_three max_four min_four   -- for this text's walks alone
set_option linter.unusedVariables false
set_option linter.unusedSimpArgs false

/-! ### spec_l1Fields: function 121 -/
mutual
def spec_l1Fields.l0 : Nat → List (S86) → Int → Int → List Int → Int → Int → Option ((List (S86)))
  | 0, _, _, _, _, _, _ => none
  | k + 1, x4, x22, x23, x145000, x145001, x145002 => if x23 < x22 then (if 0 ≤ x23 then (if x23 < (x4.length : Int) then (if ((rd_T86 x4 x23).f0) < 0 then (spec_l1Fields.j1 k x4 x23 x22 x23 true x145000 x145001 x145002) else (spec_l1Fields.j1 k x4 x23 x22 x23 (decide (((rd_T86 x4 x23).f0) > 64)) x145000 x145001 x145002)) else (none)) else (none)) else (some x4)
def spec_l1Fields.j1 : Nat → List (S86) → Int → Int → Int → Bool → List Int → Int → Int → Option ((List (S86)))
  | 0, _, _, _, _, _, _, _, _ => none
  | k + 1, x4, x5, x22, x23, x39, x145000, x145001, x145002 => if x39 = true then ((spec_l1Cur_one.f x145000 x145001 x145002 4).bind fun bt162 => (if bt162.1 = true then (spec_l1Fields.l0 k x4 x22 (wrap64 (x23 + 1)) x145000 bt162.2.1 bt162.2.2) else (if 0 ≤ x5 then (if x5 < (x4.length : Int) then (spec_l1Fields.l0 k (x4.set (x5 : Int).toNat (⟨3, (rd_T86 x4 x5).f1⟩ : S86)) x22 (wrap64 (x23 + 1)) x145000 bt162.2.1 bt162.2.2) else (none)) else (none)))) else (spec_l1Fields.l0 k x4 x22 (wrap64 (x23 + 1)) x145000 x145001 x145002)
end
def spec_l1Fields.f (k : Nat) (l0 : List Int) : Option ((List (S86))) := (spec_l1Cur_one.f l0 0 0 40).bind fun bt145 => (if bt145.1 = true then ((spec_l1Cur_pick.f l0 bt145.2.1 bt145.2.2 3).bind fun bt148 => (if 0 ≤ (wrap64 ((wrap64 (20000 + bt148.1)) - 1)) then (if (wrap64 ((wrap64 (20000 + bt148.1)) - 1) : Int).toNat ≤ 17592186044416 then (some (List.replicate (wrap64 ((wrap64 (20000 + bt148.1)) - 1) : Int).toNat z86)) else (none)) else (none))) else ((spec_l1Size.f l0 6 60).bind fun t154 => ((spec_l1Cur_fields.f k l0 bt145.2.1 bt145.2.2 (wrap64 (1 + t154))).bind fun bt155 => (spec_l1Fields.l0 k bt155.1 (bt155.1.length : Int) 0 l0 bt155.2.1 bt155.2.2))))
theorem spec_l1Fields.mono_l : ∀ k, (∀ y0 y1 y2 y3 y4 y5, LeO (spec_l1Fields.l0 k y0 y1 y2 y3 y4 y5) (spec_l1Fields.l0 (k + 1) y0 y1 y2 y3 y4 y5)) ∧ (∀ y0 y1 y2 y3 y4 y5 y6 y7, LeO (spec_l1Fields.j1 k y0 y1 y2 y3 y4 y5 y6 y7) (spec_l1Fields.j1 (k + 1) y0 y1 y2 y3 y4 y5 y6 y7))
  | 0 => ⟨fun _ _ _ _ _ _ r h => by simp [spec_l1Fields.l0] at h, fun _ _ _ _ _ _ _ _ r h => by simp [spec_l1Fields.j1] at h⟩
  | k + 1 => by
    obtain ⟨ih0, ih1⟩ := spec_l1Fields.mono_l k
    refine ⟨?_, ?_⟩
    · intro y0 y1 y2 y3 y4 y5
      unfold spec_l1Fields.l0
      repeat' first
      | (with_reducible exact ih0 _ _ _ _ _ _)
      | (with_reducible exact ih1 _ _ _ _ _ _ _ _)
      | (with_reducible exact spec_l1Cur_fields.mono _ _ _ _ _)
      | (with_reducible exact LeO.refl _)
      | (with_reducible exact LeO.none _)
      | (with_reducible refine LeO.ite ?_ ?_)
      | (with_reducible refine LeO.bind ?_ (fun _ => ?_))
      | exact ih0 _ _ _ _ _ _
      | exact ih1 _ _ _ _ _ _ _ _
      | exact spec_l1Cur_fields.mono _ _ _ _ _
      | exact LeO.none _
      | refine LeO.ite ?_ ?_
      | refine LeO.bind ?_ (fun _ => ?_)
    · intro y0 y1 y2 y3 y4 y5 y6 y7
      unfold spec_l1Fields.j1
      repeat' first
      | (with_reducible exact ih0 _ _ _ _ _ _)
      | (with_reducible exact ih1 _ _ _ _ _ _ _ _)
      | (with_reducible exact spec_l1Cur_fields.mono _ _ _ _ _)
      | (with_reducible exact LeO.refl _)
      | (with_reducible exact LeO.none _)
      | (with_reducible refine LeO.ite ?_ ?_)
      | (with_reducible refine LeO.bind ?_ (fun _ => ?_))
      | exact ih0 _ _ _ _ _ _
      | exact ih1 _ _ _ _ _ _ _ _
      | exact spec_l1Cur_fields.mono _ _ _ _ _
      | exact LeO.none _
      | refine LeO.ite ?_ ?_
      | refine LeO.bind ?_ (fun _ => ?_)
theorem spec_l1Fields.mono : ∀ a0 k, LeO (spec_l1Fields.f k a0) (spec_l1Fields.f (k + 1) a0) := by
  intro a0 k
  obtain ⟨ih0, ih1⟩ := spec_l1Fields.mono_l k
  unfold spec_l1Fields.f
  repeat' first
      | (with_reducible exact ih0 _ _ _ _ _ _)
      | (with_reducible exact ih1 _ _ _ _ _ _ _ _)
      | (with_reducible exact spec_l1Cur_fields.mono _ _ _ _ _)
      | (with_reducible exact LeO.refl _)
      | (with_reducible exact LeO.none _)
      | (with_reducible refine LeO.ite ?_ ?_)
      | (with_reducible refine LeO.bind ?_ (fun _ => ?_))
      | exact ih0 _ _ _ _ _ _
      | exact ih1 _ _ _ _ _ _ _ _
      | exact spec_l1Cur_fields.mono _ _ _ _ _
      | exact LeO.none _
      | refine LeO.ite ?_ ?_
      | refine LeO.bind ?_ (fun _ => ?_)
set_option maxHeartbeats 8000000 in
set_option maxRecDepth 100000 in
theorem spec_l1Fields.calls (k : Nat) (A0 : Option Addr) (c0 : Nat) (l0 : List Int) (r : List (S86)) (w : World) (hr0 : Kd.C (Kd.int .u8) w A0 l0.length l0) (hc0 : l0.length ≤ c0) (h : spec_l1Fields.f k l0 = some r) :
    Calls Try.prog 121 #[.slice A0 l0.length c0] w fun e w' => ∃ v0_ : Value, e = .returned (v0_) ∧ Kd.R k86 86 w' w.heap.size (fun _ => True) v0_ r ∧ Below w.heap.size w w' := by
  have hu134 := Try.underlying134
  have HR0 := Aside0.mk hr0
  have HC0 := Aside0.mk hc0
  clear hr0 hc0
  have HB := Aside0.mk (Below.refl w.heap.size w)
  have H : ((spec_l1Cur_one.f l0 0 0 40).bind fun bt145 => (if bt145.1 = true then ((spec_l1Cur_pick.f l0 bt145.2.1 bt145.2.2 3).bind fun bt148 => (if 0 ≤ (wrap64 ((wrap64 (20000 + bt148.1)) - 1)) then (if (wrap64 ((wrap64 (20000 + bt148.1)) - 1) : Int).toNat ≤ 17592186044416 then (some (List.replicate (wrap64 ((wrap64 (20000 + bt148.1)) - 1) : Int).toNat z86)) else (none)) else (none))) else ((spec_l1Size.f l0 6 60).bind fun t154 => ((spec_l1Cur_fields.f k l0 bt145.2.1 bt145.2.2 (wrap64 (1 + t154))).bind fun bt155 => (spec_l1Fields.l0 k bt155.1 (bt155.1.length : Int) 0 l0 bt155.2.1 bt155.2.2))))) = some r := h
  clear h
  replace H := Option.bind_eq_some_iff.mp H
  obtain ⟨⟨t145, t146, t147⟩, A20, H⟩ := H
  replace H : (if t145 = true then ((spec_l1Cur_pick.f l0 t146 t147 3).bind fun bt148 => (if 0 ≤ (wrap64 ((wrap64 (20000 + bt148.1)) - 1)) then (if (wrap64 ((wrap64 (20000 + bt148.1)) - 1) : Int).toNat ≤ 17592186044416 then (some (List.replicate (wrap64 ((wrap64 (20000 + bt148.1)) - 1) : Int).toNat z86)) else (none)) else (none))) else ((spec_l1Size.f l0 6 60).bind fun t154 => ((spec_l1Cur_fields.f k l0 t146 t147 (wrap64 (1 + t154))).bind fun bt155 => (spec_l1Fields.l0 k bt155.1 (bt155.1.length : Int) 0 l0 bt155.2.1 bt155.2.2)))) = some r := H
  have A2 := Aside0.mk A20
  clear A20
  by_cases c3 : t145 = true
  · subst c3
    have H1 : ((spec_l1Cur_pick.f l0 t146 t147 3).bind fun bt148 => (if 0 ≤ (wrap64 ((wrap64 (20000 + bt148.1)) - 1)) then (if (wrap64 ((wrap64 (20000 + bt148.1)) - 1) : Int).toNat ≤ 17592186044416 then (some (List.replicate (wrap64 ((wrap64 (20000 + bt148.1)) - 1) : Int).toNat z86)) else (none)) else (none))) = some r := by rw [if_pos rfl] at H; exact H
    clear H
    have H := H1
    clear H1
    replace H := Option.bind_eq_some_iff.mp H
    obtain ⟨⟨t148, t149, t150⟩, A40, H⟩ := H
    replace H : (if 0 ≤ (wrap64 ((wrap64 (20000 + t148)) - 1)) then (if (wrap64 ((wrap64 (20000 + t148)) - 1) : Int).toNat ≤ 17592186044416 then (some (List.replicate (wrap64 ((wrap64 (20000 + t148)) - 1) : Int).toNat z86)) else (none)) else (none)) = some r := H
    have A4 := Aside0.mk A40
    clear A40
    obtain ⟨ji5, hji5⟩ : ∃ j_ : Int, (wrap64 ((wrap64 (20000 + t148)) - 1)) = j_ := ⟨_, rfl⟩
    replace H : (if 0 ≤ (ji5) then (if (ji5 : Int).toNat ≤ 17592186044416 then (some (List.replicate (ji5 : Int).toNat z86)) else (none)) else (none)) = some r := by first | (rw [hji5] at H; exact H) | (simp only [hji5] at H ⊢; exact H)
    (try rw [hji5] at A2)
    (try rw [hji5] at A4)
    have hji5w : (IntKind.i64.wrap ((wrap64 (20000 + t148)) - 1)) = ji5 := (i64_w _).trans hji5
    by_cases c6 : 0 ≤ (ji5)
    rotate_left
    · rw [if_neg c6] at H
      exact absurd H (by simp)
    rw [if_pos c6] at H
    have c6b0 := eq_true c6
    have c6b1 : decide (0 ≤ (ji5)) = true := decide_eq_true c6
    clear c6
    by_cases c7 : (ji5 : Int).toNat ≤ 17592186044416
    rotate_left
    · rw [if_neg c7] at H
      exact absurd H (by simp)
    rw [if_pos c7] at H
    have c7b0 := eq_true c7
    have c7b1 : decide ((ji5 : Int).toNat ≤ 17592186044416) = true := decide_eq_true c7
    clear c7
    obtain ⟨y151, hy151⟩ : ∃ y_ : List (S86), y_ = (List.replicate (ji5 : Int).toNat z86) := ⟨_, rfl⟩
    replace H : (some y151) = some r := by first | (rw [hy151]; with_reducible exact H) | (have H2_ := (Option.bind_some _ _).symm.trans H; rw [hy151]; with_reducible exact H2_) | (have H2_ := (Option.bind_some _ _).symm.trans H; with_reducible exact H2_) | with_reducible exact H | (rw [hy151]; exact H) | exact H
    have Ny151 := Aside0.mk hy151
    clear hy151
    obtain rfl := Option.some.inj H
    go_enter Try.func121, Try.ntmps121
    go_wp2_with (first | ((with_reducible refine gate_dst (N := 8) rfl ?_); refine box_event ?hg (N := 8) ?hd (cs := #[.slice A0 l0.length c0, .int .i64 0, .int .u64 0]) (t := 134) ?hr ?_; (case hd => rfl); (case hg => rfl); (case hr => first | (go_simp; done) | (go_simp; rfl)); intro gb144 hg w8 hbox hb; have n0_ := Aside0.mk (below_step (by repeat (first | (with_reducible first | exact HB.out | apply below_alloc | apply pw_below_drewN | apply below_drew1) | exact HB.out)) hb); have n1_ := Aside0.mk ((by rw [hg]; exact (below_size (by repeat (first | (with_reducible first | exact HB.out | apply below_alloc | apply pw_below_drewN | apply below_drew1) | exact HB.out))) : w.heap.size ≤ gb144)); have n2_ := Aside0.mk ((show IsS134 w w8 gb144 l0 0 0 from ⟨_, _, hbox, (by rw [hg]; exact (below_size (by repeat (first | (with_reducible first | exact HB.out | apply below_alloc | apply pw_below_drewN | apply below_drew1) | exact HB.out)))), HR0.out⟩)); clear HB; have HB := n0_; have GW144 := n1_; have HI144 := n2_; clear n0_ n1_ n2_; clear hb hbox hg) | ((with_reducible refine gate_callee (f := 128) rfl ?_); refine goesL_ (some 10) rfl rfl Try.func128 (by kernel_rfl) rfl #[.pointer (some ⟨gb144, 0, none⟩), .int .i64 40] rfl (by (try simp only [List.map_toArray, List.map_cons, List.map_nil]); first | done | rfl | (simp only [List.length_drop, List.length_take]; rfl)) ?_; (with_reducible refine (spec_l1Cur_one.calls gb144 l0 0 0 40 true t146 t147 w _ ?side1 ?side2 A2.out).mono ?_); (case side1 => repeat (first | (with_reducible first | exact HI144.out | apply IsS134.alloc | apply IsS134.drewN | apply IsS134.drew | apply IsS134.set_1 | apply IsS134.set_2) | exact HI144.out)); (case side2 => repeat (first | (with_reducible first | exact HB.out | apply below_alloc | apply pw_below_drewN | apply below_drew1 | refine below_set ?_ (IsS134.ge HI144.out)) | exact HB.out)); rintro e w9 ⟨rfl, hi, hb, hk⟩; refine ⟨_, rfl, ?_⟩; have n0_ := Aside0.mk (hb); have n1_ := Aside0.mk (hi); clear HB; clear HI144; have HB := n0_; have HI144 := n1_; clear n0_ n1_; (try clear hb); (try clear hb2); (try clear hk); (try clear hi)) | ((with_reducible refine gate_callee (f := 95) rfl ?_); refine goesL_ (some 12) rfl rfl Try.func95 (by kernel_rfl) rfl #[.pointer (some ⟨gb144, 0, none⟩), .int .i64 3] rfl (by (try simp only [List.map_toArray, List.map_cons, List.map_nil]); first | done | rfl | (simp only [List.length_drop, List.length_take]; rfl)) ?_; (with_reducible refine (spec_l1Cur_pick.calls gb144 l0 t146 t147 3 t148 t149 t150 w _ ?side1 ?side2 A4.out).mono ?_); (case side1 => repeat (first | (with_reducible first | exact HI144.out | apply IsS134.alloc | apply IsS134.drewN | apply IsS134.drew | apply IsS134.set_1 | apply IsS134.set_2) | exact HI144.out)); (case side2 => repeat (first | (with_reducible first | exact HB.out | apply below_alloc | apply pw_below_drewN | apply below_drew1 | refine below_set ?_ (IsS134.ge HI144.out)) | exact HB.out)); rintro e w10 ⟨rfl, hi, hb, hk⟩; refine ⟨_, rfl, ?_⟩; have n0_ := Aside0.mk (hb); have n1_ := Aside0.mk (hi); clear HB; clear HI144; have HB := n0_; have HI144 := n1_; clear n0_ n1_; (try clear hb); (try clear hb2); (try clear hk); (try clear hi)) | ((with_reducible refine gate_dst (N := 15) rfl ?_); refine Kd.R_make k86 _ 86 rfl (N := 15) rfl 80 _ _ rfl ji5 rfl rfl Try.underlying80 (.agg #[(.int .i64 0), (.int .u64 0)]) 16 info86 rfl (by decide) (by omega) z86 (ok := fun _ => True) (okp := fun _ => True) (k86_mkM _ _ _ z86 ) (fun _ hk => hk) trivial (of_decide_eq_true (by first | (with_reducible assumption) | assumption)) (Nat.le_trans (Nat.mul_le_mul_right _ (of_decide_eq_true (by first | (with_reducible assumption) | assumption) : ji5.toNat ≤ 17592186044416)) (by omega)) (Below.refl _ _) (Nat.le_refl _) ?_; intro v152 w11 ho12 hb hg_ hnew_; clear hg_ hnew_; (first | rw [← Ny151.out] at ho12 | (simp only [Int.reduceToNat] at ho12; rw [← Ny151.out] at ho12)); have n0_ := Aside0.mk (Kd.R_lower ho12 (below_size (by repeat (first | (with_reducible first | exact HB.out | apply below_alloc | apply pw_below_drewN | apply below_drew1 | refine below_set ?_ (IsS134.ge HI144.out)) | exact HB.out)))); have n1_ := Aside0.mk (IsS134.below (by repeat (first | (with_reducible first | exact HI144.out | apply IsS134.alloc | apply IsS134.drewN | apply IsS134.drew | apply IsS134.set_1 | apply IsS134.set_2) | exact HI144.out)) hb); have n2_ := Aside0.mk (below_step (by repeat (first | (with_reducible first | exact HB.out | apply below_alloc | apply pw_below_drewN | apply below_drew1 | refine below_set ?_ (IsS134.ge HI144.out)) | exact HB.out)) hb); clear HI144; clear HB; have HO153 := n0_; have HI144 := n1_; have HB := n2_; clear n0_ n1_ n2_; clear hb ho12))
    go_ret
    exact ⟨_, by first | rfl | (simp [errW_none, errW_some] <;> rfl) | (simp only [← hji5]; first | rfl | (simp [errW_none, errW_some] <;> rfl)) | (simp [*, errW_none, errW_some] <;> rfl), by (with_reducible repeat (first | apply Kd.R_alloc | apply Kd.R_drewN | apply Kd.R_drew)); exact HO153.out, by repeat (first | (with_reducible first | exact HB.out | apply below_alloc | apply pw_below_drewN | apply below_drew1 | refine below_set ?_ (IsS134.ge HI144.out)) | exact HB.out)⟩
  replace c3 := Bool.eq_false_iff.mpr c3
  subst c3
  have H1 : ((spec_l1Size.f l0 6 60).bind fun t154 => ((spec_l1Cur_fields.f k l0 t146 t147 (wrap64 (1 + t154))).bind fun bt155 => (spec_l1Fields.l0 k bt155.1 (bt155.1.length : Int) 0 l0 bt155.2.1 bt155.2.2))) = some r := by rw [if_neg (show ¬ (false = true) by decide)] at H; exact H
  clear H
  have H := H1
  clear H1
  replace H := Option.bind_eq_some_iff.mp H
  obtain ⟨t154, A130, H⟩ := H
  replace H : ((spec_l1Cur_fields.f k l0 t146 t147 (wrap64 (1 + t154))).bind fun bt155 => (spec_l1Fields.l0 k bt155.1 (bt155.1.length : Int) 0 l0 bt155.2.1 bt155.2.2)) = some r := H
  have A13 := Aside0.mk A130
  clear A130
  replace H := Option.bind_eq_some_iff.mp H
  obtain ⟨⟨t155, t158, t159⟩, A140, H⟩ := H
  replace H : (spec_l1Fields.l0 k t155 (t155.length : Int) 0 l0 t158 t159) = some r := H
  have A14 := Aside0.mk A140
  clear A140
  have H' := Aside0.mk H
  clear H
  go_enter Try.func121, Try.ntmps121
  go_wp2_with (first | ((with_reducible refine gate_dst (N := 8) rfl ?_); refine box_event ?hg (N := 8) ?hd (cs := #[.slice A0 l0.length c0, .int .i64 0, .int .u64 0]) (t := 134) ?hr ?_; (case hd => rfl); (case hg => rfl); (case hr => first | (go_simp; done) | (go_simp; rfl)); intro gb144 hg w15 hbox hb; have n0_ := Aside0.mk (below_step (by repeat (first | (with_reducible first | exact HB.out | apply below_alloc | apply pw_below_drewN | apply below_drew1) | exact HB.out)) hb); have n1_ := Aside0.mk ((by rw [hg]; exact (below_size (by repeat (first | (with_reducible first | exact HB.out | apply below_alloc | apply pw_below_drewN | apply below_drew1) | exact HB.out))) : w.heap.size ≤ gb144)); have n2_ := Aside0.mk ((show IsS134 w w15 gb144 l0 0 0 from ⟨_, _, hbox, (by rw [hg]; exact (below_size (by repeat (first | (with_reducible first | exact HB.out | apply below_alloc | apply pw_below_drewN | apply below_drew1) | exact HB.out)))), HR0.out⟩)); clear HB; have HB := n0_; have GW144 := n1_; have HI144 := n2_; clear n0_ n1_ n2_; clear hb hbox hg) | ((with_reducible refine gate_callee (f := 128) rfl ?_); refine goesL_ (some 10) rfl rfl Try.func128 (by kernel_rfl) rfl #[.pointer (some ⟨gb144, 0, none⟩), .int .i64 40] rfl (by (try simp only [List.map_toArray, List.map_cons, List.map_nil]); first | done | rfl | (simp only [List.length_drop, List.length_take]; rfl)) ?_; (with_reducible refine (spec_l1Cur_one.calls gb144 l0 0 0 40 false t146 t147 w _ ?side1 ?side2 A2.out).mono ?_); (case side1 => repeat (first | (with_reducible first | exact HI144.out | apply IsS134.alloc | apply IsS134.drewN | apply IsS134.drew | apply IsS134.set_1 | apply IsS134.set_2) | exact HI144.out)); (case side2 => repeat (first | (with_reducible first | exact HB.out | apply below_alloc | apply pw_below_drewN | apply below_drew1 | refine below_set ?_ (IsS134.ge HI144.out)) | exact HB.out)); rintro e w16 ⟨rfl, hi, hb, hk⟩; refine ⟨_, rfl, ?_⟩; have n0_ := Aside0.mk (hb); have n1_ := Aside0.mk (hi); clear HB; clear HI144; have HB := n0_; have HI144 := n1_; clear n0_ n1_; (try clear hb); (try clear hb2); (try clear hk); (try clear hi)) | ((with_reducible refine gate_callee (f := 176) rfl ?_); refine goesL_ (some 18) rfl rfl Try.func176 (by kernel_rfl) rfl #[.slice A0 l0.length c0, .int .i64 6, .int .i64 60] rfl (by (try simp only [List.map_toArray, List.map_cons, List.map_nil]); first | done | rfl | (simp only [List.length_drop, List.length_take]; rfl)) ?_; (with_reducible refine (spec_l1Size.calls _ _ l0 6 60 t154 _ ?side1 ?side2 A13.out).mono ?_); (case side1 => repeat (first | exact (Kd.C_below HR0.out HB.out) | (with_reducible refine Kd.C_alloc ?_ _) | (with_reducible refine Kd.C_drewN ?_ _) | (with_reducible refine Kd.C_drew ?_))); (case side2 => exact HC0.out); rintro e w' ⟨rfl, ⟨nd, rfl⟩⟩; refine ⟨_, rfl, ?_⟩) | ((with_reducible refine gate_callee (f := 175) rfl ?_); refine goesL_ (some 20) rfl rfl Try.func175 (by kernel_rfl) rfl #[.pointer (some ⟨gb144, 0, none⟩), .int .i64 (wrap64 (1 + t154))] rfl (by (try simp only [List.map_toArray, List.map_cons, List.map_nil]); first | done | rfl | (simp only [List.length_drop, List.length_take]; rfl)) ?_; (with_reducible refine (spec_l1Cur_fields.calls k gb144 l0 t146 t147 (wrap64 (1 + t154)) t155 t158 t159 w _ ?side1 ?side2 A14.out).mono ?_); (case side1 => repeat (first | (with_reducible first | exact HI144.out | apply IsS134.alloc | apply IsS134.drewN | apply IsS134.drew | apply IsS134.set_1 | apply IsS134.set_2) | exact HI144.out)); (case side2 => repeat (first | (with_reducible first | exact HB.out | apply below_alloc | apply pw_below_drewN | apply below_drew1 | refine below_set ?_ (IsS134.ge HI144.out)) | exact HB.out)); rintro e w17 ⟨v156, rfl, ho0, hi, hb, hk⟩; refine ⟨_, rfl, ?_⟩; have n0_ := Aside0.mk (Kd.R_lower ho0 (below_size (by repeat (first | (with_reducible first | exact HB.out | apply below_alloc | apply pw_below_drewN | apply below_drew1 | refine below_set ?_ (IsS134.ge HI144.out)) | exact HB.out)))); have n1_ := Aside0.mk (hb); have n2_ := Aside0.mk (hi); clear HB; clear HI144; have HO157 := n0_; have HB := n1_; have HI144 := n2_; clear n0_ n1_ n2_; (try clear hb); (try clear hb2); (try clear hk); (try clear hi); (try clear ho0); obtain ⟨Ao18, co18, eo18⟩ := Kd.R_slice HO157.out; subst eo18))
  go_loopg [23] k (fun kq v23 w' => ∃ (x4_1 : List (S86)) (x23_1 : Int) (x145001_1 : Int) (x145002_1 : Int), v23 = .int .i64 x23_1 ∧ Aside0 (spec_l1Fields.l0 kq x4_1 (t155.length : Int) x23_1 l0 x145001_1 x145002_1 = some r) ∧ Aside0 (kq ≤ k) ∧ Aside0 (Kd.R k86 86 w' w.heap.size (fun _ => True) (.slice Ao18 t155.length co18) x4_1) ∧ Aside0 (IsS134 w w' gb144 l0 x145001_1 x145002_1) ∧ Aside0 (Below w.heap.size w w'))
  case atStart => exact ⟨(t155), (0), (t158), (t159), (by first | rfl | (simp; done) | (simp [*]; done)), H', ⟨Nat.le_refl _⟩, ⟨by (with_reducible repeat (first | apply Kd.R_alloc | apply Kd.R_drewN | apply Kd.R_drew)); exact HO157.out⟩, ⟨by repeat (first | (with_reducible first | exact HI144.out | apply IsS134.alloc | apply IsS134.drewN | apply IsS134.drew | apply IsS134.set_1 | apply IsS134.set_2) | exact HI144.out)⟩, ⟨by repeat (first | (with_reducible first | exact HB.out | apply below_alloc | apply pw_below_drewN | apply below_drew1 | refine below_set ?_ (IsS134.ge HI144.out)) | exact HB.out)⟩⟩
  case round =>
    clear H'
    try clear c1
    try clear p2
    try clear c3
    try clear c6
    try clear c6b0
    try clear c6b1
    try clear p6
    try clear c7
    try clear c7b0
    try clear c7b1
    try clear c9
    try clear c12
    try clear c17
    obtain ⟨x4_1, x23_1, x145001_1, x145002_1, rfl, HA, HK1, HO_4, HI144, HB⟩ := hrel
    have hl4_1 := (Kd.R_reads' HO_4.out).1
    rw [hl4_1] at HO_4
    (try simp only [hl4_1])
    cases gk with
    | zero => exact absurd HA.out (by simp [spec_l1Fields.l0])
    | succ k1 =>
      have H := HA.out
      clear HA
      simp only [spec_l1Fields.l0] at H
      by_cases c19 : x23_1 < (t155.length : Int)
      rotate_left
      · rw [if_neg c19] at H
        have c19b0 : decide (x23_1 < (t155.length : Int)) = false := decide_eq_false c19
        (try simp only [hl4_1] at c19b0)
        clear c19
        obtain rfl := Option.some.inj H
        go_wp2
        go_ret
        exact ⟨_, by first | rfl | (simp [errW_none, errW_some] <;> rfl) | (simp [*, errW_none, errW_some] <;> rfl), by (with_reducible repeat (first | apply Kd.R_alloc | apply Kd.R_drewN | apply Kd.R_drew)); exact HO_4.out, by repeat (first | (with_reducible first | exact HB.out | apply below_alloc | apply pw_below_drewN | apply below_drew1 | refine below_set ?_ (IsS134.ge HI144.out)) | exact HB.out)⟩
      rw [if_pos c19] at H
      have c19b0 : decide (x23_1 < (t155.length : Int)) = true := decide_eq_true c19
      (try simp only [hl4_1] at c19b0)
      clear c19
      have HC20 := Aside0.mk H
      clear H
      go_upto_region 8 with (fail)
      go_cut [39] (fun v39 wc => ∃ (kq : Nat) (x39_19 : Bool), v39 = .bool x39_19 ∧ Aside0 (spec_l1Fields.j1 kq x4_1 x23_1 (t155.length : Int) x23_1 x39_19 l0 x145001_1 x145002_1 = some r) ∧ Aside0 (kq ≤ k1) ∧ Aside0 (Kd.R k86 86 wc w.heap.size (fun _ => True) (.slice Ao18 x4_1.length co18) x4_1) ∧ Aside0 (IsS134 w wc gb144 l0 x145001_1 x145002_1) ∧ Aside0 (Below w.heap.size w wc))
      case first =>
        have H := HC20.out
        clear HC20
        by_cases c21 : 0 ≤ x23_1
        rotate_left
        · rw [if_neg c21] at H
          exact absurd H (by simp)
        rw [if_pos c21] at H
        have c21b0 : decide (0 ≤ x23_1) = true := decide_eq_true c21
        clear c21
        (first | rw [c21b0] | (simp only [i64_w, i32_w]; rw [c21b0]) | skip)
        by_cases c22 : x23_1 < (x4_1.length : Int)
        rotate_left
        · rw [if_neg c22] at H
          exact absurd H (by simp)
        rw [if_pos c22] at H
        have c22b0 : decide (x23_1 < (x4_1.length : Int)) = true := decide_eq_true c22
        (try simp only [hl4_1] at c22b0)
        clear c22
        by_cases c23 : ((rd_T86 x4_1 x23_1).f0) < 0
        · rw [if_pos c23] at H
          have c23b0 : decide (((rd_T86 x4_1 x23_1).f0) < 0) = true := decide_eq_true c23
          clear c23
          have H' := Aside0.mk H
          clear H
          have p160 : 0 ≤ (x23_1 : Int) := of_decide_eq_true (by first | (with_reducible assumption) | assumption)
          have q160 : x23_1 < (x4_1.length : Int) := of_decide_eq_true (by first | (with_reducible assumption) | assumption)
          obtain ⟨ad160, e160, hx160_0, hx160_1⟩ := at_T86 (Kd.R_reads' HO_4.out).2.2 x23_1 p160 q160
          cases e160
          replace p160 := eq_true p160
          replace q160 := eq_true q160
          go_wp2
          go_meet
          case rel => exact ⟨_, (true), (by first | rfl | (simp; done) | (simp [*]; done)), H', ⟨by have := HK1.out; first | omega | exact Nat.le_refl _⟩, ⟨by (try simp only [hl4_1]); (with_reducible repeat (first | apply Kd.R_alloc | apply Kd.R_drewN | apply Kd.R_drew)); exact HO_4.out⟩, ⟨by repeat (first | (with_reducible first | exact HI144.out | apply IsS134.alloc | apply IsS134.drewN | apply IsS134.drew | apply IsS134.set_1 | apply IsS134.set_2) | exact HI144.out)⟩, ⟨by repeat (first | (with_reducible first | exact HB.out | apply below_alloc | apply pw_below_drewN | apply below_drew1 | refine below_set ?_ (IsS134.ge HI144.out)) | exact HB.out)⟩⟩
        rw [if_neg c23] at H
        have c23b0 : decide (((rd_T86 x4_1 x23_1).f0) < 0) = false := decide_eq_false c23
        clear c23
        have H' := Aside0.mk H
        clear H
        have p160 : 0 ≤ (x23_1 : Int) := of_decide_eq_true (by first | (with_reducible assumption) | assumption)
        have q160 : x23_1 < (x4_1.length : Int) := of_decide_eq_true (by first | (with_reducible assumption) | assumption)
        obtain ⟨ad160, e160, hx160_0, hx160_1⟩ := at_T86 (Kd.R_reads' HO_4.out).2.2 x23_1 p160 q160
        cases e160
        replace p160 := eq_true p160
        replace q160 := eq_true q160
        have p161 : 0 ≤ (x23_1 : Int) := of_decide_eq_true (by first | (with_reducible assumption) | assumption)
        have q161 : x23_1 < (x4_1.length : Int) := of_decide_eq_true (by first | (with_reducible assumption) | assumption)
        obtain ⟨ad161, e161, hx161_0, hx161_1⟩ := at_T86 (Kd.R_reads' HO_4.out).2.2 x23_1 p161 q161
        obtain rfl : ad160 = ad161 := (by injection e161)
        replace p161 := eq_true p161
        replace q161 := eq_true q161
        go_wp2
        go_meet
        case rel => exact ⟨_, (decide (((rd_T86 x4_1 x23_1).f0) > 64)), (by first | rfl | (simp; done) | (simp [*]; done)), H', ⟨by have := HK1.out; first | omega | exact Nat.le_refl _⟩, ⟨by (try simp only [hl4_1]); (with_reducible repeat (first | apply Kd.R_alloc | apply Kd.R_drewN | apply Kd.R_drew)); exact HO_4.out⟩, ⟨by repeat (first | (with_reducible first | exact HI144.out | apply IsS134.alloc | apply IsS134.drewN | apply IsS134.drew | apply IsS134.set_1 | apply IsS134.set_2) | exact HI144.out)⟩, ⟨by repeat (first | (with_reducible first | exact HB.out | apply below_alloc | apply pw_below_drewN | apply below_drew1 | refine below_set ?_ (IsS134.ge HI144.out)) | exact HB.out)⟩⟩
      case rest =>
        clear HC20
        try clear c1
        try clear p1
        try clear q1
        try clear hx1
        try clear c2
        try clear p2
        try clear c3
        try clear c6
        try clear c6b0
        try clear c6b1
        try clear p6
        try clear c7
        try clear c7b0
        try clear c7b1
        try clear c9
        try clear c12
        try clear p16
        try clear q16
        try clear hx16
        try clear c17
        try clear c19
        try clear c19b0
        try clear c21
        try clear c21b0
        try clear c22
        try clear c22b0
        try clear c23
        try clear c23b0
        try clear hx160_0
        try clear hx160_1
        try clear hx161_0
        try clear hx161_1
        try clear p160
        try clear p161
        try clear p2
        try clear p6
        try clear q160
        try clear q161
        obtain ⟨kq, x39_19, rfl, HA, HJ19, HO_4, HI144, HB⟩ := hcut
        cases kq with
        | zero => exact absurd HA.out (by simp [spec_l1Fields.j1])
        | succ kj19 =>
          have H := HA.out
          clear HA
          simp only [spec_l1Fields.j1] at H
          by_cases c24 : x39_19 = true
          rotate_left
          · replace c24 := Bool.eq_false_iff.mpr c24
            subst c24
            have H1 : (spec_l1Fields.l0 kj19 x4_1 (t155.length : Int) (wrap64 (x23_1 + 1)) l0 x145001_1 x145002_1) = some r := by rw [if_neg (show ¬ (false = true) by decide)] at H; exact H
            clear H
            have H := H1
            clear H1
            have H' := Aside0.mk H
            clear H
            go_wp2
            (try simp only [← hl4_1])
            go_roundg kj19
            case measure => have := HK1.out; have := HJ19.out; omega
            case rel => exact ⟨(x4_1), (wrap64 (x23_1 + 1)), (x145001_1), (x145002_1), (by first | rfl | (simp; done) | (simp [*]; done)), H', ⟨by have := HK1.out; have := HJ19.out; omega⟩, ⟨by (try simp only [hl4_1]); (with_reducible repeat (first | apply Kd.R_alloc | apply Kd.R_drewN | apply Kd.R_drew)); exact HO_4.out⟩, ⟨by repeat (first | (with_reducible first | exact HI144.out | apply IsS134.alloc | apply IsS134.drewN | apply IsS134.drew | apply IsS134.set_1 | apply IsS134.set_2) | exact HI144.out)⟩, ⟨by repeat (first | (with_reducible first | exact HB.out | apply below_alloc | apply pw_below_drewN | apply below_drew1 | refine below_set ?_ (IsS134.ge HI144.out)) | exact HB.out)⟩⟩
          subst c24
          have H1 : ((spec_l1Cur_one.f l0 x145001_1 x145002_1 4).bind fun bt162 => (if bt162.1 = true then (spec_l1Fields.l0 kj19 x4_1 (t155.length : Int) (wrap64 (x23_1 + 1)) l0 bt162.2.1 bt162.2.2) else (if 0 ≤ x23_1 then (if x23_1 < (x4_1.length : Int) then (spec_l1Fields.l0 kj19 (x4_1.set (x23_1 : Int).toNat (⟨3, (rd_T86 x4_1 x23_1).f1⟩ : S86)) (t155.length : Int) (wrap64 (x23_1 + 1)) l0 bt162.2.1 bt162.2.2) else (none)) else (none)))) = some r := by rw [if_pos rfl] at H; exact H
          clear H
          have H := H1
          clear H1
          replace H := Option.bind_eq_some_iff.mp H
          obtain ⟨⟨t162, t163, t164⟩, A250, H⟩ := H
          replace H : (if t162 = true then (spec_l1Fields.l0 kj19 x4_1 (t155.length : Int) (wrap64 (x23_1 + 1)) l0 t163 t164) else (if 0 ≤ x23_1 then (if x23_1 < (x4_1.length : Int) then (spec_l1Fields.l0 kj19 (x4_1.set (x23_1 : Int).toNat (⟨3, (rd_T86 x4_1 x23_1).f1⟩ : S86)) (t155.length : Int) (wrap64 (x23_1 + 1)) l0 t163 t164) else (none)) else (none))) = some r := H
          have A25 := Aside0.mk A250
          clear A250
          by_cases c26 : t162 = true
          · subst c26
            have H1 : (spec_l1Fields.l0 kj19 x4_1 (t155.length : Int) (wrap64 (x23_1 + 1)) l0 t163 t164) = some r := by rw [if_pos rfl] at H; exact H
            clear H
            have H := H1
            clear H1
            have H' := Aside0.mk H
            clear H
            go_wp2_with (first | ((with_reducible refine gate_callee (f := 128) rfl ?_); refine goesL_ (some 41) rfl rfl Try.func128 (by kernel_rfl) rfl #[.pointer (some ⟨gb144, 0, none⟩), .int .i64 4] rfl (by (try simp only [List.map_toArray, List.map_cons, List.map_nil]); first | done | rfl | (simp only [List.length_drop, List.length_take]; rfl)) ?_; (with_reducible refine (spec_l1Cur_one.calls gb144 l0 x145001_1 x145002_1 4 true t163 t164 w _ ?side1 ?side2 A25.out).mono ?_); (case side1 => repeat (first | (with_reducible first | exact HI144.out | apply IsS134.alloc | apply IsS134.drewN | apply IsS134.drew | apply IsS134.set_1 | apply IsS134.set_2) | exact HI144.out)); (case side2 => repeat (first | (with_reducible first | exact HB.out | apply below_alloc | apply pw_below_drewN | apply below_drew1 | refine below_set ?_ (IsS134.ge HI144.out)) | exact HB.out)); rintro e w27 ⟨rfl, hi, hb, hk⟩; refine ⟨_, rfl, ?_⟩; have n0_ := Aside0.mk (Kd.R_mono (Kd.R_keep (IsS134.apart (show IsS134 w _ gb144 l0 x145001_1 x145002_1 from by repeat (first | (with_reducible first | exact HI144.out | apply IsS134.alloc | apply IsS134.drewN | apply IsS134.drew | apply IsS134.set_1 | apply IsS134.set_2) | exact HI144.out)) (by (with_reducible repeat (first | apply Kd.R_alloc | apply Kd.R_drewN | apply Kd.R_drew)); exact HO_4.out) (by decide)) hk (fun _ h => h.2)) (fun _ h => h.1)); have n1_ := Aside0.mk (hb); have n2_ := Aside0.mk (hi); clear HO_4; clear HB; clear HI144; have HO_4 := n0_; have HB := n1_; have HI144 := n2_; clear n0_ n1_ n2_; (try clear hb); (try clear hb2); (try clear hk); (try clear hi)))
            (try simp only [← hl4_1])
            go_roundg kj19
            case measure => have := HK1.out; have := HJ19.out; omega
            case rel => exact ⟨(x4_1), (wrap64 (x23_1 + 1)), (t163), (t164), (by first | rfl | (simp; done) | (simp [*]; done)), H', ⟨by have := HK1.out; have := HJ19.out; omega⟩, ⟨by (try simp only [hl4_1]); (with_reducible repeat (first | apply Kd.R_alloc | apply Kd.R_drewN | apply Kd.R_drew)); exact HO_4.out⟩, ⟨by repeat (first | (with_reducible first | exact HI144.out | apply IsS134.alloc | apply IsS134.drewN | apply IsS134.drew | apply IsS134.set_1 | apply IsS134.set_2) | exact HI144.out)⟩, ⟨by repeat (first | (with_reducible first | exact HB.out | apply below_alloc | apply pw_below_drewN | apply below_drew1 | refine below_set ?_ (IsS134.ge HI144.out)) | exact HB.out)⟩⟩
          replace c26 := Bool.eq_false_iff.mpr c26
          subst c26
          have H1 : (if 0 ≤ x23_1 then (if x23_1 < (x4_1.length : Int) then (spec_l1Fields.l0 kj19 (x4_1.set (x23_1 : Int).toNat (⟨3, (rd_T86 x4_1 x23_1).f1⟩ : S86)) (t155.length : Int) (wrap64 (x23_1 + 1)) l0 t163 t164) else (none)) else (none)) = some r := by rw [if_neg (show ¬ (false = true) by decide)] at H; exact H
          clear H
          have H := H1
          clear H1
          by_cases c28 : 0 ≤ x23_1
          rotate_left
          · rw [if_neg c28] at H
            exact absurd H (by simp)
          rw [if_pos c28] at H
          have c28b0 : decide (0 ≤ x23_1) = true := decide_eq_true c28
          clear c28
          by_cases c29 : x23_1 < (x4_1.length : Int)
          rotate_left
          · rw [if_neg c29] at H
            exact absurd H (by simp)
          rw [if_pos c29] at H
          have c29b0 : decide (x23_1 < (x4_1.length : Int)) = true := decide_eq_true c29
          (try simp only [hl4_1] at c29b0)
          clear c29
          obtain ⟨y165, hy165⟩ : ∃ y_ : List (S86), y_ = (x4_1.set (x23_1 : Int).toNat (⟨3, (rd_T86 x4_1 x23_1).f1⟩ : S86)) := ⟨_, rfl⟩
          replace H : (spec_l1Fields.l0 kj19 y165 (t155.length : Int) (wrap64 (x23_1 + 1)) l0 t163 t164) = some r := by first | (rw [hy165]; with_reducible exact H) | (have H2_ := (Option.bind_some _ _).symm.trans H; rw [hy165]; with_reducible exact H2_) | (have H2_ := (Option.bind_some _ _).symm.trans H; with_reducible exact H2_) | with_reducible exact H | (rw [hy165]; exact H) | exact H
          have Ny165 := Aside0.mk hy165
          clear hy165
          have H' := Aside0.mk H
          clear H
          go_wp2_with (first | ((with_reducible refine gate_callee (f := 128) rfl ?_); refine goesL_ (some 41) rfl rfl Try.func128 (by kernel_rfl) rfl #[.pointer (some ⟨gb144, 0, none⟩), .int .i64 4] rfl (by (try simp only [List.map_toArray, List.map_cons, List.map_nil]); first | done | rfl | (simp only [List.length_drop, List.length_take]; rfl)) ?_; (with_reducible refine (spec_l1Cur_one.calls gb144 l0 x145001_1 x145002_1 4 false t163 t164 w _ ?side1 ?side2 A25.out).mono ?_); (case side1 => repeat (first | (with_reducible first | exact HI144.out | apply IsS134.alloc | apply IsS134.drewN | apply IsS134.drew | apply IsS134.set_1 | apply IsS134.set_2) | exact HI144.out)); (case side2 => repeat (first | (with_reducible first | exact HB.out | apply below_alloc | apply pw_below_drewN | apply below_drew1 | refine below_set ?_ (IsS134.ge HI144.out)) | exact HB.out)); rintro e w31 ⟨rfl, hi, hb, hk⟩; refine ⟨_, rfl, ?_⟩; have n0_ := Aside0.mk (Kd.R_mono (Kd.R_keep (IsS134.apart (show IsS134 w _ gb144 l0 x145001_1 x145002_1 from by repeat (first | (with_reducible first | exact HI144.out | apply IsS134.alloc | apply IsS134.drewN | apply IsS134.drew | apply IsS134.set_1 | apply IsS134.set_2) | exact HI144.out)) (by (with_reducible repeat (first | apply Kd.R_alloc | apply Kd.R_drewN | apply Kd.R_drew)); exact HO_4.out) (by decide)) hk (fun _ h => h.2)) (fun _ h => h.1)); have n1_ := Aside0.mk (hb); have n2_ := Aside0.mk (hi); clear HO_4; clear HB; clear HI144; have HO_4 := n0_; have HB := n1_; have HI144 := n2_; clear n0_ n1_ n2_; (try clear hb); (try clear hb2); (try clear hk); (try clear hi); have p30 : 0 ≤ (x23_1 : Int) := of_decide_eq_true (by first | (with_reducible assumption) | assumption); have q30 : (x23_1 : Int) < ((x4_1.length : Int) : Int) := of_decide_eq_true (by first | (with_reducible assumption) | assumption); obtain ⟨go30, co30, eo30, gb30, gl30, cl30, HG30⟩ := Kd.R_form HO_4.out (by omega); (first | cases eo30 | (injection eo30 with ea_ en_ ec_; (first | subst ea_ | (injection ea_ with ea_; subst ea_)); subst ec_; clear en_)); have GB30 := Aside0.mk gb30; have GG30 := Aside0.mk HG30; clear gb30 gl30 HG30; obtain ⟨ce30, hcl30, hM30, hcc30, hfr30⟩ := Kd.R_elem HO_4.out z86 (x23_1 : Int) p30 q30; obtain rfl := k86_openM hM30; have hx30_0 : w31.cell? ⟨go30, (x23_1 : Int).toNat * 2, none⟩ = some (.int .i64 ((rd_T86 x4_1 x23_1).f0)) := hcc30 0 _ rfl; have hx30_1 : w31.cell? ⟨go30, (x23_1 : Int).toNat * 2 + 1, none⟩ = some (.int .u64 ((rd_T86 x4_1 x23_1).f1)) := hcc30 1 _ rfl; have hf30_0 : w31.frozen? ⟨go30, (x23_1 : Int).toNat * 2, none⟩ = false := hfr30 0; have hf30_1 : w31.frozen? ⟨go30, (x23_1 : Int).toNat * 2 + 1, none⟩ = false := hfr30 1; clear hcl30 hcc30 hfr30; (try clear hM30); replace p30 := eq_true p30; replace q30 := eq_true q30; have HX32 := Aside0.mk (show Kd.R k86 86 w31 w.heap.size (fun _ => True) (.slice (some ⟨go30, 0, none⟩) x4_1.length co18) x4_1 from (by (with_reducible repeat (first | apply Kd.R_alloc | apply Kd.R_drewN | apply Kd.R_drew)); exact HO_4.out)); obtain ⟨ce32, hcl32, hM32, hcc32, hfr32⟩ := Kd.R_elem HX32.out z86 (x23_1 : Int) (of_decide_eq_true (by first | (with_reducible assumption) | assumption)) (by have h_ : (x23_1 : Int) < ((x4_1.length : Int) : Int) := of_decide_eq_true (by first | (with_reducible assumption) | assumption); first | exact h_ | (have e_ := (Kd.R_reads' HO_4.out).1; omega) | simpa using h_); obtain rfl := k86_openM hM32; have HP32 := Kd.R_seg HX32.out (x23_1 : Int) (of_decide_eq_true (by first | (with_reducible assumption) | assumption)) (by have h_ : (x23_1 : Int) < ((x4_1.length : Int) : Int) := of_decide_eq_true (by first | (with_reducible assumption) | assumption); first | exact h_ | (have e_ := (Kd.R_reads' HO_4.out).1; omega) | simpa using h_) (seg := [.int .i64 3]) (j := 0) hcl32 hcc32 (show 1 ≤ 2 from by decide) (x' := (⟨3, (rd_T86 x4_1 x23_1).f1⟩ : S86)) (k86_mkM _ _ _ (⟨3, (rd_T86 x4_1 x23_1).f1⟩ : S86) ) (fun _ hk => hk); have hx32_0 := hcc32 0 _ rfl; (try simp only [show (k86).sz = 2 from rfl, Nat.mul_one, Nat.add_zero] at hx32_0); have hf32_0 := hfr32 0; (try simp only [show (k86).sz = 2 from rfl, Nat.mul_one, Nat.add_zero] at hf32_0); clear hcl32 hcc32 hfr32; (try clear hM32)) | ((with_reducible refine gate_store (t := 3) (p := 46) rfl ?_); refine store_event (t := 3) (p := 46) (v := ?vo_w33) (w1 := (w31.setCell ⟨go30, (x23_1 : Int).toNat * 2, none⟩ (.int .i64 3))) ?hg ?ho ?hn ?hr ?_; (case ho => rfl); (case hg => rfl); (case hn => rfl); (case hr => first | (go_simp; done) | (go_simp; rfl)); intro w33 hw; have hg : w31.grownBy w33 (some go30) := (by rw [hw]; exact HP32.2); have hp_ : Kd.R k86 86 w33 w.heap.size (fun _ => True) (.slice (some ⟨go30, 0, none⟩) x4_1.length co18) y165 := (by rw [hw, Ny165.out]; exact HP32.1); clear HP32; have n0_ := Aside0.mk (hp_); have n1_ := Aside0.mk (IsS134.grown (by repeat (first | (with_reducible first | exact HI144.out | apply IsS134.alloc | apply IsS134.drewN | apply IsS134.drew | apply IsS134.set_1 | apply IsS134.set_2) | exact HI144.out)) hg (IsS134.own_ne HI144.out HO_4.out (by decide))); have n2_ := Aside0.mk ((by rw [hw]; exact below_set (HB.out) GB30.out : Below w.heap.size w w33)); clear HO_4; clear HI144; clear HB; have HO_4 := n0_; have HI144 := n1_; have HB := n2_; clear n0_ n1_ n2_; clear hg hw hp_))
          (try simp only [← hl4_1])
          go_roundg kj19
          case measure => have := HK1.out; have := HJ19.out; omega
          case rel => exact ⟨(y165), (wrap64 (x23_1 + 1)), (t163), (t164), (by first | rfl | (simp; done) | (simp [*]; done)), H', ⟨by have := HK1.out; have := HJ19.out; omega⟩, ⟨by (try simp only [hl4_1]); (with_reducible repeat (first | apply Kd.R_alloc | apply Kd.R_drewN | apply Kd.R_drew)); exact HO_4.out⟩, ⟨by repeat (first | (with_reducible first | exact HI144.out | apply IsS134.alloc | apply IsS134.drewN | apply IsS134.drew | apply IsS134.set_1 | apply IsS134.set_2) | exact HI144.out)⟩, ⟨by repeat (first | (with_reducible first | exact HB.out | apply below_alloc | apply pw_below_drewN | apply below_drew1 | refine below_set ?_ (IsS134.ge HI144.out)) | exact HB.out)⟩⟩

/-! ### spec_DrawPackLow: function 50 -/
def spec_DrawPackLow.f (k : Nat) (l0 : List Int) : Option ((List (S86))) := (spec_l1Fields.f k l0).bind fun t166 => (some t166)
theorem spec_DrawPackLow.mono : ∀ a0 k, LeO (spec_DrawPackLow.f k a0) (spec_DrawPackLow.f (k + 1) a0) := by
  intro a0 k
  unfold spec_DrawPackLow.f
  repeat' first
      | (with_reducible exact spec_l1Fields.mono _ _)
      | (with_reducible exact LeO.refl _)
      | (with_reducible exact LeO.none _)
      | (with_reducible refine LeO.ite ?_ ?_)
      | (with_reducible refine LeO.bind ?_ (fun _ => ?_))
      | exact spec_l1Fields.mono _ _
      | exact LeO.none _
      | refine LeO.ite ?_ ?_
      | refine LeO.bind ?_ (fun _ => ?_)
set_option maxHeartbeats 8000000 in
set_option maxRecDepth 100000 in
theorem spec_DrawPackLow.calls (k : Nat) (A0 : Option Addr) (c0 : Nat) (l0 : List Int) (r : List (S86)) (w : World) (hr0 : Kd.C (Kd.int .u8) w A0 l0.length l0) (hc0 : l0.length ≤ c0) (h : spec_DrawPackLow.f k l0 = some r) :
    Calls Try.prog 50 #[.slice A0 l0.length c0] w fun e w' => ∃ v0_ : Value, e = .returned (v0_) ∧ Kd.R k86 86 w' w.heap.size (fun _ => True) v0_ r ∧ Below w.heap.size w w' := by
  have HR0 := Aside0.mk hr0
  have HC0 := Aside0.mk hc0
  clear hr0 hc0
  have HB := Aside0.mk (Below.refl w.heap.size w)
  have H : ((spec_l1Fields.f k l0).bind fun t166 => (some t166)) = some r := h
  clear h
  replace H := Option.bind_eq_some_iff.mp H
  obtain ⟨t166, A20, H⟩ := H
  replace H : (some t166) = some r := H
  have A2 := Aside0.mk A20
  clear A20
  obtain rfl := Option.some.inj H
  go_enter Try.func50, Try.ntmps50
  go_wp2_with (first | ((with_reducible refine gate_callee (f := 121) rfl ?_); refine goesL_ (some 4) rfl rfl Try.func121 (by kernel_rfl) rfl #[.slice A0 l0.length c0] rfl (by (try simp only [List.map_toArray, List.map_cons, List.map_nil]); first | done | rfl | (simp only [List.length_drop, List.length_take]; rfl)) ?_; (with_reducible refine (spec_l1Fields.calls k _ _ l0 t166 _ ?side1 ?side2 A2.out).mono ?_); (case side1 => repeat (first | exact HR0.out | (with_reducible refine Kd.C_alloc ?_ _) | (with_reducible refine Kd.C_drewN ?_ _) | (with_reducible refine Kd.C_drew ?_))); (case side2 => exact HC0.out); rintro e w3 ⟨v167, rfl, ho0, hb⟩; refine ⟨_, rfl, ?_⟩; have n0_ := Aside0.mk (Kd.R_lower ho0 (below_size (by repeat (first | (with_reducible first | exact HB.out | apply below_alloc | apply pw_below_drewN | apply below_drew1) | exact HB.out)))); have n1_ := Aside0.mk (below_step (by repeat (first | (with_reducible first | exact HB.out | apply below_alloc | apply pw_below_drewN | apply below_drew1) | exact HB.out)) hb); clear HB; have HO168 := n0_; have HB := n1_; clear n0_ n1_; (try clear hb); (try clear hb2); (try clear hk); (try clear hi); (try clear ho0)))
  go_ret
  exact ⟨_, by first | rfl | (simp [errW_none, errW_some] <;> rfl) | (simp [*, errW_none, errW_some] <;> rfl), by (with_reducible repeat (first | apply Kd.R_alloc | apply Kd.R_drewN | apply Kd.R_drew)); exact HO168.out, by repeat (first | (with_reducible first | exact HB.out | apply below_alloc | apply pw_below_drewN | apply below_drew1) | exact HB.out)⟩

/-! ### impl_goodFields: function 122 -/
def impl_goodFields.l0 : Nat → List (S86) → Int → Int → Option (Bool)
  | 0, _, _, _ => none
  | k + 1, x8, x9, x10 => if x10 < x9 then (if 0 ≤ x10 then (if x10 < (x8.length : Int) then (if ((rd_T86 x8 x10).f0) < 0 then (some false) else (if ((rd_T86 x8 x10).f0) > 64 then (some false) else (impl_goodFields.l0 k x8 x9 (wrap64 (x10 + 1))))) else (none)) else (none)) else (some true)
def impl_goodFields.f (k : Nat) (l0 : List (S86)) : Option (Bool) := if (l0.length : Int) > 20000 then (some false) else (impl_goodFields.l0 k l0 (l0.length : Int) 0)
theorem impl_goodFields.mono_l : ∀ k, (∀ y0 y1 y2, LeO (impl_goodFields.l0 k y0 y1 y2) (impl_goodFields.l0 (k + 1) y0 y1 y2))
  | 0 => fun _ _ _ r h => by simp [impl_goodFields.l0] at h
  | k + 1 => by
    have ih0 := impl_goodFields.mono_l k
    · intro y0 y1 y2
      unfold impl_goodFields.l0
      repeat' first
      | (with_reducible exact ih0 _ _ _)
      | (with_reducible exact LeO.refl _)
      | (with_reducible exact LeO.none _)
      | (with_reducible refine LeO.ite ?_ ?_)
      | (with_reducible refine LeO.bind ?_ (fun _ => ?_))
      | exact ih0 _ _ _
      | exact LeO.none _
      | refine LeO.ite ?_ ?_
      | refine LeO.bind ?_ (fun _ => ?_)
theorem impl_goodFields.mono : ∀ a0 k, LeO (impl_goodFields.f k a0) (impl_goodFields.f (k + 1) a0) := by
  intro a0 k
  have ih0 := impl_goodFields.mono_l k
  unfold impl_goodFields.f
  repeat' first
      | (with_reducible exact ih0 _ _ _)
      | (with_reducible exact LeO.refl _)
      | (with_reducible exact LeO.none _)
      | (with_reducible refine LeO.ite ?_ ?_)
      | (with_reducible refine LeO.bind ?_ (fun _ => ?_))
      | exact ih0 _ _ _
      | exact LeO.none _
      | refine LeO.ite ?_ ?_
      | refine LeO.bind ?_ (fun _ => ?_)
set_option maxHeartbeats 8000000 in
set_option maxRecDepth 100000 in
theorem impl_goodFields.calls (k : Nat) (A0 : Option Addr) (c0 : Nat) (l0 : List (S86)) (r : Bool) (w : World) (hr0 : Kd.C k86 w A0 l0.length l0) (hc0 : l0.length ≤ c0) (h : impl_goodFields.f k l0 = some r) :
    Calls Try.prog 122 #[.slice A0 l0.length c0] w fun e w' => e = .returned (.bool r) ∧ Below w.heap.size w w' := by
  have hu86 := Try.underlying86
  have HR0 := Aside0.mk hr0
  have HC0 := Aside0.mk hc0
  clear hr0 hc0
  have HB := Aside0.mk (Below.refl w.heap.size w)
  have H : (if (l0.length : Int) > 20000 then (some false) else (impl_goodFields.l0 k l0 (l0.length : Int) 0)) = some r := h
  clear h
  by_cases c2 : (l0.length : Int) > 20000
  · rw [if_pos c2] at H
    have c2b0 : decide (20000 < (l0.length : Int)) = true := decide_eq_true c2
    have c2b1 : decide (20000 < l0.length) = true := decide_eq_true (by omega)
    have c2b2 : 20000 < l0.length := by omega
    clear c2
    obtain rfl := Option.some.inj H
    go_enter Try.func122, Try.ntmps122
    go_wp2
    go_ret
    exact ⟨by first | rfl | (simp [errW_none, errW_some] <;> rfl) | (simp [*, errW_none, errW_some] <;> rfl), by repeat (first | (with_reducible first | exact HB.out | apply below_alloc | apply pw_below_drewN | apply below_drew1) | exact HB.out)⟩
  rw [if_neg c2] at H
  have c2b0 : decide (20000 < (l0.length : Int)) = false := decide_eq_false c2
  have c2b1 : decide (20000 < l0.length) = false := decide_eq_false (by omega)
  have c2b2 : ¬ (20000 < l0.length) := by omega
  clear c2
  have H' := Aside0.mk H
  clear H
  go_enter Try.func122, Try.ntmps122
  go_wp2
  go_loopg [10] k (fun kq v10 w' => ∃ (x10_1 : Int), v10 = .int .i64 x10_1 ∧ Aside0 (impl_goodFields.l0 kq l0 (l0.length : Int) x10_1 = some r) ∧ Aside0 (kq ≤ k) ∧ Aside0 (Below w.heap.size w w'))
  case atStart => exact ⟨(0), (by first | rfl | (simp; done) | (simp [*]; done)), H', ⟨Nat.le_refl _⟩, ⟨by repeat (first | (with_reducible first | exact HB.out | apply below_alloc | apply pw_below_drewN | apply below_drew1) | exact HB.out)⟩⟩
  case round =>
    clear H'
    try clear c1
    try clear c2
    try clear c2b0
    try clear c2b1
    try clear c2b2
    try clear p2
    obtain ⟨x10_1, rfl, HA, HK1, HB⟩ := hrel
    cases gk with
    | zero => exact absurd HA.out (by simp [impl_goodFields.l0])
    | succ k1 =>
      have H := HA.out
      clear HA
      simp only [impl_goodFields.l0] at H
      by_cases c3 : x10_1 < (l0.length : Int)
      rotate_left
      · rw [if_neg c3] at H
        have c3b0 : decide (x10_1 < (l0.length : Int)) = false := decide_eq_false c3
        clear c3
        obtain rfl := Option.some.inj H
        go_wp2
        go_ret
        exact ⟨by first | rfl | (simp [errW_none, errW_some] <;> rfl) | (simp [*, errW_none, errW_some] <;> rfl), by repeat (first | (with_reducible first | exact HB.out | apply below_alloc | apply pw_below_drewN | apply below_drew1) | exact HB.out)⟩
      rw [if_pos c3] at H
      have c3b0 : decide (x10_1 < (l0.length : Int)) = true := decide_eq_true c3
      clear c3
      by_cases c4 : 0 ≤ x10_1
      rotate_left
      · rw [if_neg c4] at H
        exact absurd H (by simp)
      rw [if_pos c4] at H
      have c4b0 : decide (0 ≤ x10_1) = true := decide_eq_true c4
      clear c4
      by_cases c5 : x10_1 < (l0.length : Int)
      rotate_left
      · rw [if_neg c5] at H
        exact absurd H (by simp)
      rw [if_pos c5] at H
      have c5b0 : decide (x10_1 < (l0.length : Int)) = true := decide_eq_true c5
      clear c5
      by_cases c6 : ((rd_T86 l0 x10_1).f0) < 0
      · rw [if_pos c6] at H
        have c6b0 : decide (((rd_T86 l0 x10_1).f0) < 0) = true := decide_eq_true c6
        clear c6
        obtain rfl := Option.some.inj H
        have p169 : 0 ≤ (x10_1 : Int) := of_decide_eq_true (by first | (with_reducible assumption) | assumption)
        have q169 : x10_1 < (l0.length : Int) := of_decide_eq_true (by first | (with_reducible assumption) | assumption)
        obtain ⟨ad169, e169, hx169_0, hx169_1⟩ := at_T86 HR0.out x10_1 p169 q169
        cases e169
        replace hx169_0 := (HB.out.cell (World.block_lt_of_cell? w _ hx169_0)).trans hx169_0
        replace hx169_1 := (HB.out.cell (World.block_lt_of_cell? w _ hx169_1)).trans hx169_1
        replace p169 := eq_true p169
        replace q169 := eq_true q169
        go_wp2_with (first | ((with_reducible refine gate_dst (N := 4) rfl ?_); refine box_event ?hg (N := 4) ?hd (cs := #[.int .i64 0, .int .u64 0]) (t := 86) ?hr ?_; (case hd => rfl); (case hg => rfl); (case hr => first | (go_simp; done) | (go_simp; rfl)); intro gb170 hg w7 hbox hb; have n0_ := Aside0.mk (below_step (by repeat (first | (with_reducible first | exact HB.out | apply below_alloc | apply pw_below_drewN | apply below_drew1) | exact HB.out)) hb); have n1_ := Aside0.mk (hbox); have n2_ := Aside0.mk ((by rw [hg]; exact (below_size (by repeat (first | (with_reducible first | exact HB.out | apply below_alloc | apply pw_below_drewN | apply below_drew1) | exact HB.out))) : w.heap.size ≤ gb170)); have n3_ := n2_; clear HB; have HB := n0_; have BK170 := n1_; have GW170 := n2_; have GE170 := n3_; clear n0_ n1_ n2_ n3_; clear hb hbox hg; have hcz8_0 : w7.cell? ⟨gb170, 0, none⟩ = some (.int .i64 0) := (blk_cell BK170.out 0).trans rfl; have hcz8_1 : w7.cell? ⟨gb170, 1, none⟩ = some (.int .u64 0) := (blk_cell BK170.out 1).trans rfl; have hfz8_0 := blk_frozen BK170.out 0; have hfz8_1 := blk_frozen BK170.out 1))
        go_ret
        exact ⟨by first | rfl | (simp [errW_none, errW_some] <;> rfl) | (simp [*, errW_none, errW_some] <;> rfl), by repeat (first | (with_reducible first | exact HB.out | apply below_alloc | apply pw_below_drewN | apply below_drew1 | refine below_set ?_ GE170.out) | exact HB.out)⟩
      rw [if_neg c6] at H
      have c6b0 : decide (((rd_T86 l0 x10_1).f0) < 0) = false := decide_eq_false c6
      clear c6
      by_cases c9 : ((rd_T86 l0 x10_1).f0) > 64
      · rw [if_pos c9] at H
        have c9b0 : decide (64 < ((rd_T86 l0 x10_1).f0)) = true := decide_eq_true c9
        clear c9
        obtain rfl := Option.some.inj H
        have p169 : 0 ≤ (x10_1 : Int) := of_decide_eq_true (by first | (with_reducible assumption) | assumption)
        have q169 : x10_1 < (l0.length : Int) := of_decide_eq_true (by first | (with_reducible assumption) | assumption)
        obtain ⟨ad169, e169, hx169_0, hx169_1⟩ := at_T86 HR0.out x10_1 p169 q169
        cases e169
        replace hx169_0 := (HB.out.cell (World.block_lt_of_cell? w _ hx169_0)).trans hx169_0
        replace hx169_1 := (HB.out.cell (World.block_lt_of_cell? w _ hx169_1)).trans hx169_1
        replace p169 := eq_true p169
        replace q169 := eq_true q169
        go_wp2_with (first | ((with_reducible refine gate_dst (N := 4) rfl ?_); refine box_event ?hg (N := 4) ?hd (cs := #[.int .i64 0, .int .u64 0]) (t := 86) ?hr ?_; (case hd => rfl); (case hg => rfl); (case hr => first | (go_simp; done) | (go_simp; rfl)); intro gb170 hg w10 hbox hb; have n0_ := Aside0.mk (below_step (by repeat (first | (with_reducible first | exact HB.out | apply below_alloc | apply pw_below_drewN | apply below_drew1) | exact HB.out)) hb); have n1_ := Aside0.mk (hbox); have n2_ := Aside0.mk ((by rw [hg]; exact (below_size (by repeat (first | (with_reducible first | exact HB.out | apply below_alloc | apply pw_below_drewN | apply below_drew1) | exact HB.out))) : w.heap.size ≤ gb170)); have n3_ := n2_; clear HB; have HB := n0_; have BK170 := n1_; have GW170 := n2_; have GE170 := n3_; clear n0_ n1_ n2_ n3_; clear hb hbox hg; have hcz11_0 : w10.cell? ⟨gb170, 0, none⟩ = some (.int .i64 0) := (blk_cell BK170.out 0).trans rfl; have hcz11_1 : w10.cell? ⟨gb170, 1, none⟩ = some (.int .u64 0) := (blk_cell BK170.out 1).trans rfl; have hfz11_0 := blk_frozen BK170.out 0; have hfz11_1 := blk_frozen BK170.out 1))
        go_ret
        exact ⟨by first | rfl | (simp [errW_none, errW_some] <;> rfl) | (simp [*, errW_none, errW_some] <;> rfl), by repeat (first | (with_reducible first | exact HB.out | apply below_alloc | apply pw_below_drewN | apply below_drew1 | refine below_set ?_ GE170.out) | exact HB.out)⟩
      rw [if_neg c9] at H
      have c9b0 : decide (64 < ((rd_T86 l0 x10_1).f0)) = false := decide_eq_false c9
      clear c9
      have H' := Aside0.mk H
      clear H
      have p169 : 0 ≤ (x10_1 : Int) := of_decide_eq_true (by first | (with_reducible assumption) | assumption)
      have q169 : x10_1 < (l0.length : Int) := of_decide_eq_true (by first | (with_reducible assumption) | assumption)
      obtain ⟨ad169, e169, hx169_0, hx169_1⟩ := at_T86 HR0.out x10_1 p169 q169
      cases e169
      replace hx169_0 := (HB.out.cell (World.block_lt_of_cell? w _ hx169_0)).trans hx169_0
      replace hx169_1 := (HB.out.cell (World.block_lt_of_cell? w _ hx169_1)).trans hx169_1
      replace p169 := eq_true p169
      replace q169 := eq_true q169
      go_wp2_with (first | ((with_reducible refine gate_dst (N := 4) rfl ?_); refine box_event ?hg (N := 4) ?hd (cs := #[.int .i64 0, .int .u64 0]) (t := 86) ?hr ?_; (case hd => rfl); (case hg => rfl); (case hr => first | (go_simp; done) | (go_simp; rfl)); intro gb170 hg w12 hbox hb; have n0_ := Aside0.mk (below_step (by repeat (first | (with_reducible first | exact HB.out | apply below_alloc | apply pw_below_drewN | apply below_drew1) | exact HB.out)) hb); have n1_ := Aside0.mk (hbox); have n2_ := Aside0.mk ((by rw [hg]; exact (below_size (by repeat (first | (with_reducible first | exact HB.out | apply below_alloc | apply pw_below_drewN | apply below_drew1) | exact HB.out))) : w.heap.size ≤ gb170)); have n3_ := n2_; clear HB; have HB := n0_; have BK170 := n1_; have GW170 := n2_; have GE170 := n3_; clear n0_ n1_ n2_ n3_; clear hb hbox hg; have hcz13_0 : w12.cell? ⟨gb170, 0, none⟩ = some (.int .i64 0) := (blk_cell BK170.out 0).trans rfl; have hcz13_1 : w12.cell? ⟨gb170, 1, none⟩ = some (.int .u64 0) := (blk_cell BK170.out 1).trans rfl; have hfz13_0 := blk_frozen BK170.out 0; have hfz13_1 := blk_frozen BK170.out 1))
      go_roundg k1
      case measure => have := HK1.out; omega
      case rel => exact ⟨(wrap64 (x10_1 + 1)), (by first | rfl | (simp; done) | (simp [*]; done)), H', ⟨by have := HK1.out; omega⟩, ⟨by repeat (first | (with_reducible first | exact HB.out | apply below_alloc | apply pw_below_drewN | apply below_drew1 | refine below_set ?_ GE170.out) | exact HB.out)⟩⟩

end Go.Proofs.Ytglaedjadlappaa.PFnBits

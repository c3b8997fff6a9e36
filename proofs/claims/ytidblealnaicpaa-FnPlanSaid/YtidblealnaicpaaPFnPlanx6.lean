-- written by myprint.py (a program of this session's over the kit's print)
import Derived.Test.YtidblealnaicpaaPFnPlanx0
import Derived.Test.YtidblealnaicpaaPFnPlanx3
import Derived.Test.YtidblealnaicpaaPFnPlanx4
import Derived.Test.YtidblealnaicpaaPFnPlanx5
namespace Go.Proofs.Ytidblealnaicpaa.PFnPlan
open Go.RowKit Go.Proofs.YtidblealnaicpaaW.PrintWords Go.Proofs.YtidblealnaicpaaW.PrintLast Go.Proofs.YtidblealnaicpaaW.PrintMore
attribute [local go_sem] max2_int min2_int max_two min_two max_three min_three max_four min_four   -- for this text's walks alone
set_option linter.unusedVariables false
set_option linter.unusedSimpArgs false

/-! ### spec_l10Drawn: function 155 -/
mutual
def spec_l10Drawn.j0 : Nat → Int → Int → List Int → Int → Int → Option (List Int × List Int × Int × Int)
  | 0, _, _, _, _, _ => none
  | k + 1, x5, x6, x242000, x242001, x242002 => (spec_l1Cur_one.f x242000 x242001 x242002 30).bind fun bt254 => (if bt254.1 = true then ((spec_l1Cur_pick.f x242000 bt254.2.1 bt254.2.2 3).bind fun bt257 => (spec_l10Drawn.j1 k x5 (wrap64 ((wrap64 (4000 + bt257.1)) - 1)) x242000 bt257.2.1 bt257.2.2)) else (spec_l10Drawn.j1 k x5 x6 x242000 bt254.2.1 bt254.2.2))
def spec_l10Drawn.j1 : Nat → Int → Int → List Int → Int → Int → Option (List Int × List Int × Int × Int)
  | 0, _, _, _, _, _ => none
  | k + 1, x5, x6, x242000, x242001, x242002 => (spec_l1Cur_tone.f k x242000 x242001 x242002 x6 x5).bind fun bt260 => ((spec_l1Cur_one.f x242000 bt260.2.1 bt260.2.2 12).bind fun bt265 => (if bt265.1 = true then (spec_l10Drawn.j2 k x6 bt260.1 (decide (x6 > 0)) x242000 bt265.2.1 bt265.2.2) else (spec_l10Drawn.j2 k x6 bt260.1 false x242000 bt265.2.1 bt265.2.2)))
def spec_l10Drawn.j2 : Nat → Int → List Int → Bool → List Int → Int → Int → Option (List Int × List Int × Int × Int)
  | 0, _, _, _, _, _, _ => none
  | k + 1, x6, x7, x36, x242000, x242001, x242002 => if x36 = true then ((spec_l1Cur_pick.f x242000 x242001 x242002 x6).bind fun bt268 => ((some (([67108863, 67108864, (-67108864), (-67108865)] : List Int) : List Int)).bind fun y271 => ((spec_l1Cur_pick.f x242000 bt268.2.1 bt268.2.2 4).bind fun bt274 => (if 0 ≤ bt274.1 then (if bt274.1 < (y271.length : Int) then (if 0 ≤ bt268.1 then (if bt268.1 < (x7.length : Int) then (some ((x7.set (bt268.1 : Int).toNat (rd y271 bt274.1)), x242000, bt274.2.1, bt274.2.2)) else (none)) else (none)) else (none)) else (none))))) else (some (x7, x242000, x242001, x242002))
end
def spec_l10Drawn.f (k : Nat) (l0 : List Int) : Option (List Int × List Int × Int × Int) := (spec_l1Cur_pick.f l0 0 0 25).bind fun bt242 => ((spec_l1Cur_pick.f l0 bt242.2.1 bt242.2.2 40).bind fun bt245 => ((spec_l1Cur_one.f l0 bt245.2.1 bt245.2.2 3).bind fun bt248 => (if bt248.1 = true then ((spec_l1Cur_pick.f l0 bt248.2.1 bt248.2.2 8).bind fun bt251 => (spec_l10Drawn.j0 k (wrap64 (2 + bt242.1)) (wrap64 (16 * bt251.1)) l0 bt251.2.1 bt251.2.2)) else (spec_l10Drawn.j0 k (wrap64 (2 + bt242.1)) bt245.1 l0 bt248.2.1 bt248.2.2))))
theorem spec_l10Drawn.mono_l : ∀ k, (∀ y0 y1 y2 y3 y4, LeO (spec_l10Drawn.j0 k y0 y1 y2 y3 y4) (spec_l10Drawn.j0 (k + 1) y0 y1 y2 y3 y4)) ∧ (∀ y0 y1 y2 y3 y4, LeO (spec_l10Drawn.j1 k y0 y1 y2 y3 y4) (spec_l10Drawn.j1 (k + 1) y0 y1 y2 y3 y4)) ∧ (∀ y0 y1 y2 y3 y4 y5, LeO (spec_l10Drawn.j2 k y0 y1 y2 y3 y4 y5) (spec_l10Drawn.j2 (k + 1) y0 y1 y2 y3 y4 y5))
  | 0 => ⟨fun _ _ _ _ _ r h => by simp [spec_l10Drawn.j0] at h, fun _ _ _ _ _ r h => by simp [spec_l10Drawn.j1] at h, fun _ _ _ _ _ _ r h => by simp [spec_l10Drawn.j2] at h⟩
  | k + 1 => by
    obtain ⟨ih0, ih1, ih2⟩ := spec_l10Drawn.mono_l k
    refine ⟨?_, ?_, ?_⟩
    · intro y0 y1 y2 y3 y4
      unfold spec_l10Drawn.j0
      repeat' first
      | (with_reducible exact ih0 _ _ _ _ _)
      | (with_reducible exact ih1 _ _ _ _ _)
      | (with_reducible exact ih2 _ _ _ _ _ _)
      | (with_reducible exact spec_l1Cur_tone.mono _ _ _ _ _ _)
      | (with_reducible exact LeO.refl _)
      | (with_reducible exact LeO.none _)
      | (with_reducible refine LeO.ite ?_ ?_)
      | (with_reducible refine LeO.bind ?_ (fun _ => ?_))
      | exact ih0 _ _ _ _ _
      | exact ih1 _ _ _ _ _
      | exact ih2 _ _ _ _ _ _
      | exact spec_l1Cur_tone.mono _ _ _ _ _ _
      | exact LeO.none _
      | refine LeO.ite ?_ ?_
      | refine LeO.bind ?_ (fun _ => ?_)
    · intro y0 y1 y2 y3 y4
      unfold spec_l10Drawn.j1
      repeat' first
      | (with_reducible exact ih0 _ _ _ _ _)
      | (with_reducible exact ih1 _ _ _ _ _)
      | (with_reducible exact ih2 _ _ _ _ _ _)
      | (with_reducible exact spec_l1Cur_tone.mono _ _ _ _ _ _)
      | (with_reducible exact LeO.refl _)
      | (with_reducible exact LeO.none _)
      | (with_reducible refine LeO.ite ?_ ?_)
      | (with_reducible refine LeO.bind ?_ (fun _ => ?_))
      | exact ih0 _ _ _ _ _
      | exact ih1 _ _ _ _ _
      | exact ih2 _ _ _ _ _ _
      | exact spec_l1Cur_tone.mono _ _ _ _ _ _
      | exact LeO.none _
      | refine LeO.ite ?_ ?_
      | refine LeO.bind ?_ (fun _ => ?_)
    · intro y0 y1 y2 y3 y4 y5
      unfold spec_l10Drawn.j2
      repeat' first
      | (with_reducible exact ih0 _ _ _ _ _)
      | (with_reducible exact ih1 _ _ _ _ _)
      | (with_reducible exact ih2 _ _ _ _ _ _)
      | (with_reducible exact spec_l1Cur_tone.mono _ _ _ _ _ _)
      | (with_reducible exact LeO.refl _)
      | (with_reducible exact LeO.none _)
      | (with_reducible refine LeO.ite ?_ ?_)
      | (with_reducible refine LeO.bind ?_ (fun _ => ?_))
      | exact ih0 _ _ _ _ _
      | exact ih1 _ _ _ _ _
      | exact ih2 _ _ _ _ _ _
      | exact spec_l1Cur_tone.mono _ _ _ _ _ _
      | exact LeO.none _
      | refine LeO.ite ?_ ?_
      | refine LeO.bind ?_ (fun _ => ?_)
theorem spec_l10Drawn.mono : ∀ a0 k, LeO (spec_l10Drawn.f k a0) (spec_l10Drawn.f (k + 1) a0) := by
  intro a0 k
  obtain ⟨ih0, ih1, ih2⟩ := spec_l10Drawn.mono_l k
  unfold spec_l10Drawn.f
  repeat' first
      | (with_reducible exact ih0 _ _ _ _ _)
      | (with_reducible exact ih1 _ _ _ _ _)
      | (with_reducible exact ih2 _ _ _ _ _ _)
      | (with_reducible exact spec_l1Cur_tone.mono _ _ _ _ _ _)
      | (with_reducible exact LeO.refl _)
      | (with_reducible exact LeO.none _)
      | (with_reducible refine LeO.ite ?_ ?_)
      | (with_reducible refine LeO.bind ?_ (fun _ => ?_))
      | exact ih0 _ _ _ _ _
      | exact ih1 _ _ _ _ _
      | exact ih2 _ _ _ _ _ _
      | exact spec_l1Cur_tone.mono _ _ _ _ _ _
      | exact LeO.none _
      | refine LeO.ite ?_ ?_
      | refine LeO.bind ?_ (fun _ => ?_)
theorem spec_l10Drawn.bk {w0 w W W2 : World} {g : Nat} (h0 : Below w0.heap.size w0 w) (hB : Below w.heap.size w W) (hb : Below w0.heap.size w0 W2) (hk : KeepBut W W2 g none) (hg : w.heap.size ≤ g) : Below w.heap.size w W2 :=
  ⟨hb.os.trans h0.os.symm, hb.tape.trans h0.tape.symm, hb.output.trans h0.output.symm, Nat.le_trans hB.size hk.1, fun k h => (hk.2 k (Nat.lt_of_lt_of_le h hB.size) (by omega) (by simp)).trans (hB.block k h)⟩
set_option maxHeartbeats 8000000 in
set_option maxRecDepth 100000 in
theorem spec_l10Drawn.calls (k : Nat) (A0 : Option Addr) (c0 : Nat) (l0 : List Int) (r1 : List Int) (r2 : List Int) (r3 : Int) (r4 : Int) (w0 w : World) (hB : Below w0.heap.size w0 w) (hr0 : Kd.C (Kd.int .u8) w0 A0 l0.length l0) (hc0 : l0.length ≤ c0) (h : spec_l10Drawn.f k l0 = some (r1, r2, r3, r4)) :
    Calls Try.prog 155 #[.slice A0 l0.length c0] w fun e w' => ∃ v0_ : Value, ∃ g_ : Nat, e = .returned (.tuple #[v0_, .pointer (some ⟨g_, 0, none⟩)]) ∧ Kd.R (Kd.int .i64) 3 w' w.heap.size (fun _ => True) v0_ r1 ∧ IsS156 w0 w' g_ r2 r3 r4 ∧ Below w.heap.size w w' := by
  have hu156 := Try.underlying156
  have HQ0 := Aside0.mk hr0
  have HR0 := Aside0.mk (Kd.C_below hr0 hB)
  have HC0 := Aside0.mk hc0
  clear hr0 hc0
  have HB := Aside0.mk (Below.refl w.heap.size w)
  have HB0 := Aside0.mk hB
  clear hB
  have H : ((spec_l1Cur_pick.f l0 0 0 25).bind fun bt242 => ((spec_l1Cur_pick.f l0 bt242.2.1 bt242.2.2 40).bind fun bt245 => ((spec_l1Cur_one.f l0 bt245.2.1 bt245.2.2 3).bind fun bt248 => (if bt248.1 = true then ((spec_l1Cur_pick.f l0 bt248.2.1 bt248.2.2 8).bind fun bt251 => (spec_l10Drawn.j0 k (wrap64 (2 + bt242.1)) (wrap64 (16 * bt251.1)) l0 bt251.2.1 bt251.2.2)) else (spec_l10Drawn.j0 k (wrap64 (2 + bt242.1)) bt245.1 l0 bt248.2.1 bt248.2.2))))) = some (r1, r2, r3, r4) := h
  clear h
  replace H := Option.bind_eq_some_iff.mp H
  obtain ⟨⟨t242, t243, t244⟩, A20, H⟩ := H
  replace H : ((spec_l1Cur_pick.f l0 t243 t244 40).bind fun bt245 => ((spec_l1Cur_one.f l0 bt245.2.1 bt245.2.2 3).bind fun bt248 => (if bt248.1 = true then ((spec_l1Cur_pick.f l0 bt248.2.1 bt248.2.2 8).bind fun bt251 => (spec_l10Drawn.j0 k (wrap64 (2 + t242)) (wrap64 (16 * bt251.1)) l0 bt251.2.1 bt251.2.2)) else (spec_l10Drawn.j0 k (wrap64 (2 + t242)) bt245.1 l0 bt248.2.1 bt248.2.2)))) = some (r1, r2, r3, r4) := H
  have A2 := Aside0.mk A20
  clear A20
  replace H := Option.bind_eq_some_iff.mp H
  obtain ⟨⟨t245, t246, t247⟩, A30, H⟩ := H
  replace H : ((spec_l1Cur_one.f l0 t246 t247 3).bind fun bt248 => (if bt248.1 = true then ((spec_l1Cur_pick.f l0 bt248.2.1 bt248.2.2 8).bind fun bt251 => (spec_l10Drawn.j0 k (wrap64 (2 + t242)) (wrap64 (16 * bt251.1)) l0 bt251.2.1 bt251.2.2)) else (spec_l10Drawn.j0 k (wrap64 (2 + t242)) t245 l0 bt248.2.1 bt248.2.2))) = some (r1, r2, r3, r4) := H
  have A3 := Aside0.mk A30
  clear A30
  replace H := Option.bind_eq_some_iff.mp H
  obtain ⟨⟨t248, t249, t250⟩, A40, H⟩ := H
  replace H : (if t248 = true then ((spec_l1Cur_pick.f l0 t249 t250 8).bind fun bt251 => (spec_l10Drawn.j0 k (wrap64 (2 + t242)) (wrap64 (16 * bt251.1)) l0 bt251.2.1 bt251.2.2)) else (spec_l10Drawn.j0 k (wrap64 (2 + t242)) t245 l0 t249 t250)) = some (r1, r2, r3, r4) := H
  have A4 := Aside0.mk A40
  clear A40
  have HC5 := Aside0.mk H
  clear H
  go_enter Try.func155, Try.ntmps155
  go_upto_if 17 with (first | ((with_reducible refine gate_dst (N := 10) rfl ?_); refine box_event ?hg (N := 10) ?hd (cs := #[.slice A0 l0.length c0, .int .i64 0, .int .u64 0]) (t := 156) ?hr ?_; (case hd => rfl); (case hg => rfl); (case hr => first | (go_simp; done) | (go_simp; rfl)); intro gb241 hg w6 hbox hb; have n0_ := Aside0.mk (below_step (by repeat (first | (with_reducible first | exact HB.out | apply below_alloc | apply pw_below_drewN | apply below_drew1) | exact HB.out)) hb); have n1_ := Aside0.mk ((by rw [hg]; exact (below_size (by repeat (first | (with_reducible first | exact HB.out | apply below_alloc | apply pw_below_drewN | apply below_drew1) | exact HB.out))) : w.heap.size ≤ gb241)); have n2_ := Aside0.mk ((show IsS156 w0 w6 gb241 l0 0 0 from ⟨_, _, hbox, (by rw [hg]; exact Nat.le_trans HB0.out.size ((below_size (by repeat (first | (with_reducible first | exact HB.out | apply below_alloc | apply pw_below_drewN | apply below_drew1) | exact HB.out))))), HQ0.out⟩)); have n3_ := n1_; clear HB; have HB := n0_; have GW241 := n1_; have HI241 := n2_; have GS241 := n3_; clear n0_ n1_ n2_ n3_; clear hb hbox hg) | ((with_reducible refine gate_callee (f := 104) rfl ?_); refine goesL_ (some 12) rfl rfl Try.func104 (by kernel_rfl) rfl #[.pointer (some ⟨gb241, 0, none⟩), .int .i64 25] rfl (by (try simp only [List.map_toArray, List.map_cons, List.map_nil]); first | done | rfl | (simp only [List.length_drop, List.length_take]; rfl)) ?_; (with_reducible refine (spec_l1Cur_pick.calls gb241 l0 0 0 25 t242 t243 t244 w0 _ ?side1 ?side2 A2.out).mono ?_); (case side1 => repeat (first | (with_reducible first | exact HI241.out | apply IsS156.alloc | apply IsS156.drewN | apply IsS156.drew | apply IsS156.set_1 | apply IsS156.set_2) | exact HI241.out)); (case side2 => exact below_step HB0.out (by repeat (first | (with_reducible first | exact HB.out | apply below_alloc | apply pw_below_drewN | apply below_drew1 | refine below_set ?_ (IsS156.ge HI241.out)) | exact HB.out))); rintro e w7 ⟨rfl, hi, hb, hk⟩; refine ⟨_, rfl, ?_⟩; have n0_ := Aside0.mk (spec_l10Drawn.bk HB0.out (by repeat (first | (with_reducible first | exact HB.out | apply below_alloc | apply pw_below_drewN | apply below_drew1 | refine below_set ?_ (IsS156.ge HI241.out)) | exact HB.out)) hb hk GS241.out); have n1_ := Aside0.mk (hi); clear HB; clear HI241; have HB := n0_; have HI241 := n1_; clear n0_ n1_; (try clear hb); (try clear hb2); (try clear hk); (try clear hi)) | ((with_reducible refine gate_callee (f := 104) rfl ?_); refine goesL_ (some 15) rfl rfl Try.func104 (by kernel_rfl) rfl #[.pointer (some ⟨gb241, 0, none⟩), .int .i64 40] rfl (by (try simp only [List.map_toArray, List.map_cons, List.map_nil]); first | done | rfl | (simp only [List.length_drop, List.length_take]; rfl)) ?_; (with_reducible refine (spec_l1Cur_pick.calls gb241 l0 t243 t244 40 t245 t246 t247 w0 _ ?side1 ?side2 A3.out).mono ?_); (case side1 => repeat (first | (with_reducible first | exact HI241.out | apply IsS156.alloc | apply IsS156.drewN | apply IsS156.drew | apply IsS156.set_1 | apply IsS156.set_2) | exact HI241.out)); (case side2 => exact below_step HB0.out (by repeat (first | (with_reducible first | exact HB.out | apply below_alloc | apply pw_below_drewN | apply below_drew1 | refine below_set ?_ (IsS156.ge HI241.out)) | exact HB.out))); rintro e w8 ⟨rfl, hi, hb, hk⟩; refine ⟨_, rfl, ?_⟩; have n0_ := Aside0.mk (spec_l10Drawn.bk HB0.out (by repeat (first | (with_reducible first | exact HB.out | apply below_alloc | apply pw_below_drewN | apply below_drew1 | refine below_set ?_ (IsS156.ge HI241.out)) | exact HB.out)) hb hk GS241.out); have n1_ := Aside0.mk (hi); clear HB; clear HI241; have HB := n0_; have HI241 := n1_; clear n0_ n1_; (try clear hb); (try clear hb2); (try clear hk); (try clear hi)) | ((with_reducible refine gate_callee (f := 105) rfl ?_); refine goesL_ (some 17) rfl rfl Try.func105 (by kernel_rfl) rfl #[.pointer (some ⟨gb241, 0, none⟩), .int .i64 3] rfl (by (try simp only [List.map_toArray, List.map_cons, List.map_nil]); first | done | rfl | (simp only [List.length_drop, List.length_take]; rfl)) ?_; (with_reducible refine (spec_l1Cur_one.calls gb241 l0 t246 t247 3 t248 t249 t250 w0 _ ?side1 ?side2 A4.out).mono ?_); (case side1 => repeat (first | (with_reducible first | exact HI241.out | apply IsS156.alloc | apply IsS156.drewN | apply IsS156.drew | apply IsS156.set_1 | apply IsS156.set_2) | exact HI241.out)); (case side2 => exact below_step HB0.out (by repeat (first | (with_reducible first | exact HB.out | apply below_alloc | apply pw_below_drewN | apply below_drew1 | refine below_set ?_ (IsS156.ge HI241.out)) | exact HB.out))); rintro e w9 ⟨rfl, hi, hb, hk⟩; refine ⟨_, rfl, ?_⟩; have n0_ := Aside0.mk (spec_l10Drawn.bk HB0.out (by repeat (first | (with_reducible first | exact HB.out | apply below_alloc | apply pw_below_drewN | apply below_drew1 | refine below_set ?_ (IsS156.ge HI241.out)) | exact HB.out)) hb hk GS241.out); have n1_ := Aside0.mk (hi); clear HB; clear HI241; have HB := n0_; have HI241 := n1_; clear n0_ n1_; (try clear hb); (try clear hb2); (try clear hk); (try clear hi)))
  (try simp only [Act.put, List.setIfInBounds_toArray, List.set_cons_zero, List.set_cons_succ])
  go_cut [6] (fun v6 wc => ∃ (kq : Nat) (x6_4 : Int) (x242001_4 : Int) (x242002_4 : Int), v6 = .int .i64 x6_4 ∧ Aside0 (spec_l10Drawn.j0 kq (wrap64 (2 + t242)) x6_4 l0 x242001_4 x242002_4 = some (r1, r2, r3, r4)) ∧ Aside0 (kq ≤ k) ∧ Aside0 (IsS156 w0 wc gb241 l0 x242001_4 x242002_4) ∧ Aside0 (Below w.heap.size w wc))
  case first =>
    have H := HC5.out
    clear HC5
    by_cases c10 : t248 = true
    rotate_left
    · replace c10 := Bool.eq_false_iff.mpr c10
      subst c10
      have H1 : (spec_l10Drawn.j0 k (wrap64 (2 + t242)) t245 l0 t249 t250) = some (r1, r2, r3, r4) := by rw [if_neg (show ¬ (false = true) by decide)] at H; exact H
      clear H
      have H := H1
      clear H1
      have H' := Aside0.mk H
      clear H
      go_wp2
      go_meet
      case rel => exact ⟨_, (t245), (t249), (t250), (by first | rfl | (simp; done) | (simp [*]; done)), H', ⟨by first | omega | exact Nat.le_refl _⟩, ⟨by repeat (first | (with_reducible first | exact HI241.out | apply IsS156.alloc | apply IsS156.drewN | apply IsS156.drew | apply IsS156.set_1 | apply IsS156.set_2) | exact HI241.out)⟩, ⟨by repeat (first | (with_reducible first | exact HB.out | apply below_alloc | apply pw_below_drewN | apply below_drew1 | refine below_set ?_ (IsS156.ge HI241.out)) | exact HB.out)⟩⟩
    subst c10
    have H1 : ((spec_l1Cur_pick.f l0 t249 t250 8).bind fun bt251 => (spec_l10Drawn.j0 k (wrap64 (2 + t242)) (wrap64 (16 * bt251.1)) l0 bt251.2.1 bt251.2.2)) = some (r1, r2, r3, r4) := by rw [if_pos rfl] at H; exact H
    clear H
    have H := H1
    clear H1
    replace H := Option.bind_eq_some_iff.mp H
    obtain ⟨⟨t251, t252, t253⟩, A110, H⟩ := H
    replace H : (spec_l10Drawn.j0 k (wrap64 (2 + t242)) (wrap64 (16 * t251)) l0 t252 t253) = some (r1, r2, r3, r4) := H
    have A11 := Aside0.mk A110
    clear A110
    have H' := Aside0.mk H
    clear H
    go_wp2_with (first | ((with_reducible refine gate_callee (f := 104) rfl ?_); refine goesL_ (some 19) rfl rfl Try.func104 (by kernel_rfl) rfl #[.pointer (some ⟨gb241, 0, none⟩), .int .i64 8] rfl (by (try simp only [List.map_toArray, List.map_cons, List.map_nil]); first | done | rfl | (simp only [List.length_drop, List.length_take]; rfl)) ?_; (with_reducible refine (spec_l1Cur_pick.calls gb241 l0 t249 t250 8 t251 t252 t253 w0 _ ?side1 ?side2 A11.out).mono ?_); (case side1 => repeat (first | (with_reducible first | exact HI241.out | apply IsS156.alloc | apply IsS156.drewN | apply IsS156.drew | apply IsS156.set_1 | apply IsS156.set_2) | exact HI241.out)); (case side2 => exact below_step HB0.out (by repeat (first | (with_reducible first | exact HB.out | apply below_alloc | apply pw_below_drewN | apply below_drew1 | refine below_set ?_ (IsS156.ge HI241.out)) | exact HB.out))); rintro e w12 ⟨rfl, hi, hb, hk⟩; refine ⟨_, rfl, ?_⟩; have n0_ := Aside0.mk (spec_l10Drawn.bk HB0.out (by repeat (first | (with_reducible first | exact HB.out | apply below_alloc | apply pw_below_drewN | apply below_drew1 | refine below_set ?_ (IsS156.ge HI241.out)) | exact HB.out)) hb hk GS241.out); have n1_ := Aside0.mk (hi); clear HB; clear HI241; have HB := n0_; have HI241 := n1_; clear n0_ n1_; (try clear hb); (try clear hb2); (try clear hk); (try clear hi)))
    go_meet
    case rel => exact ⟨_, (wrap64 (16 * t251)), (t252), (t253), (by first | rfl | (simp; done) | (simp [*]; done)), H', ⟨by first | omega | exact Nat.le_refl _⟩, ⟨by repeat (first | (with_reducible first | exact HI241.out | apply IsS156.alloc | apply IsS156.drewN | apply IsS156.drew | apply IsS156.set_1 | apply IsS156.set_2) | exact HI241.out)⟩, ⟨by repeat (first | (with_reducible first | exact HB.out | apply below_alloc | apply pw_below_drewN | apply below_drew1 | refine below_set ?_ (IsS156.ge HI241.out)) | exact HB.out)⟩⟩
  case rest =>
    clear HC5
    try clear c1
    try clear p2
    try clear p6
    try clear c10
    obtain ⟨kq, x6_4, x242001_4, x242002_4, rfl, HA, HJ4, HI241, HB⟩ := hcut
    cases kq with
    | zero => exact absurd HA.out (by simp [spec_l10Drawn.j0])
    | succ kj4 =>
      have H := HA.out
      clear HA
      simp only [spec_l10Drawn.j0] at H
      replace H := Option.bind_eq_some_iff.mp H
      obtain ⟨⟨t254, t255, t256⟩, A130, H⟩ := H
      replace H : (if t254 = true then ((spec_l1Cur_pick.f l0 t255 t256 3).bind fun bt257 => (spec_l10Drawn.j1 kj4 (wrap64 (2 + t242)) (wrap64 ((wrap64 (4000 + bt257.1)) - 1)) l0 bt257.2.1 bt257.2.2)) else (spec_l10Drawn.j1 kj4 (wrap64 (2 + t242)) x6_4 l0 t255 t256)) = some (r1, r2, r3, r4) := H
      have A13 := Aside0.mk A130
      clear A130
      have HC14 := Aside0.mk H
      clear H
      go_upto_if 22 with (first | ((with_reducible refine gate_callee (f := 105) rfl ?_); refine goesL_ (some 22) rfl rfl Try.func105 (by kernel_rfl) rfl #[.pointer (some ⟨gb241, 0, none⟩), .int .i64 30] rfl (by (try simp only [List.map_toArray, List.map_cons, List.map_nil]); first | done | rfl | (simp only [List.length_drop, List.length_take]; rfl)) ?_; (with_reducible refine (spec_l1Cur_one.calls gb241 l0 x242001_4 x242002_4 30 t254 t255 t256 w0 _ ?side1 ?side2 A13.out).mono ?_); (case side1 => repeat (first | (with_reducible first | exact HI241.out | apply IsS156.alloc | apply IsS156.drewN | apply IsS156.drew | apply IsS156.set_1 | apply IsS156.set_2) | exact HI241.out)); (case side2 => exact below_step HB0.out (by repeat (first | (with_reducible first | exact HB.out | apply below_alloc | apply pw_below_drewN | apply below_drew1 | refine below_set ?_ (IsS156.ge HI241.out)) | exact HB.out))); rintro e w15 ⟨rfl, hi, hb, hk⟩; refine ⟨_, rfl, ?_⟩; have n0_ := Aside0.mk (spec_l10Drawn.bk HB0.out (by repeat (first | (with_reducible first | exact HB.out | apply below_alloc | apply pw_below_drewN | apply below_drew1 | refine below_set ?_ (IsS156.ge HI241.out)) | exact HB.out)) hb hk GS241.out); have n1_ := Aside0.mk (hi); clear HB; clear HI241; have HB := n0_; have HI241 := n1_; clear n0_ n1_; (try clear hb); (try clear hb2); (try clear hk); (try clear hi)))
      (try simp only [Act.put, List.setIfInBounds_toArray, List.set_cons_zero, List.set_cons_succ])
      go_cut [6] (fun v6 wc => ∃ (kq : Nat) (x6_13 : Int) (x242001_13 : Int) (x242002_13 : Int), v6 = .int .i64 x6_13 ∧ Aside0 (spec_l10Drawn.j1 kq (wrap64 (2 + t242)) x6_13 l0 x242001_13 x242002_13 = some (r1, r2, r3, r4)) ∧ Aside0 (kq ≤ kj4) ∧ Aside0 (IsS156 w0 wc gb241 l0 x242001_13 x242002_13) ∧ Aside0 (Below w.heap.size w wc))
      case first =>
        have H := HC14.out
        clear HC14
        by_cases c16 : t254 = true
        rotate_left
        · replace c16 := Bool.eq_false_iff.mpr c16
          subst c16
          have H1 : (spec_l10Drawn.j1 kj4 (wrap64 (2 + t242)) x6_4 l0 t255 t256) = some (r1, r2, r3, r4) := by rw [if_neg (show ¬ (false = true) by decide)] at H; exact H
          clear H
          have H := H1
          clear H1
          have H' := Aside0.mk H
          clear H
          go_wp2
          go_meet
          case rel => exact ⟨_, (x6_4), (t255), (t256), (by first | rfl | (simp; done) | (simp [*]; done)), H', ⟨by have := HJ4.out; first | omega | exact Nat.le_refl _⟩, ⟨by repeat (first | (with_reducible first | exact HI241.out | apply IsS156.alloc | apply IsS156.drewN | apply IsS156.drew | apply IsS156.set_1 | apply IsS156.set_2) | exact HI241.out)⟩, ⟨by repeat (first | (with_reducible first | exact HB.out | apply below_alloc | apply pw_below_drewN | apply below_drew1 | refine below_set ?_ (IsS156.ge HI241.out)) | exact HB.out)⟩⟩
        subst c16
        have H1 : ((spec_l1Cur_pick.f l0 t255 t256 3).bind fun bt257 => (spec_l10Drawn.j1 kj4 (wrap64 (2 + t242)) (wrap64 ((wrap64 (4000 + bt257.1)) - 1)) l0 bt257.2.1 bt257.2.2)) = some (r1, r2, r3, r4) := by rw [if_pos rfl] at H; exact H
        clear H
        have H := H1
        clear H1
        replace H := Option.bind_eq_some_iff.mp H
        obtain ⟨⟨t257, t258, t259⟩, A170, H⟩ := H
        replace H : (spec_l10Drawn.j1 kj4 (wrap64 (2 + t242)) (wrap64 ((wrap64 (4000 + t257)) - 1)) l0 t258 t259) = some (r1, r2, r3, r4) := H
        have A17 := Aside0.mk A170
        clear A170
        have H' := Aside0.mk H
        clear H
        go_wp2_with (first | ((with_reducible refine gate_callee (f := 104) rfl ?_); refine goesL_ (some 24) rfl rfl Try.func104 (by kernel_rfl) rfl #[.pointer (some ⟨gb241, 0, none⟩), .int .i64 3] rfl (by (try simp only [List.map_toArray, List.map_cons, List.map_nil]); first | done | rfl | (simp only [List.length_drop, List.length_take]; rfl)) ?_; (with_reducible refine (spec_l1Cur_pick.calls gb241 l0 t255 t256 3 t257 t258 t259 w0 _ ?side1 ?side2 A17.out).mono ?_); (case side1 => repeat (first | (with_reducible first | exact HI241.out | apply IsS156.alloc | apply IsS156.drewN | apply IsS156.drew | apply IsS156.set_1 | apply IsS156.set_2) | exact HI241.out)); (case side2 => exact below_step HB0.out (by repeat (first | (with_reducible first | exact HB.out | apply below_alloc | apply pw_below_drewN | apply below_drew1 | refine below_set ?_ (IsS156.ge HI241.out)) | exact HB.out))); rintro e w18 ⟨rfl, hi, hb, hk⟩; refine ⟨_, rfl, ?_⟩; have n0_ := Aside0.mk (spec_l10Drawn.bk HB0.out (by repeat (first | (with_reducible first | exact HB.out | apply below_alloc | apply pw_below_drewN | apply below_drew1 | refine below_set ?_ (IsS156.ge HI241.out)) | exact HB.out)) hb hk GS241.out); have n1_ := Aside0.mk (hi); clear HB; clear HI241; have HB := n0_; have HI241 := n1_; clear n0_ n1_; (try clear hb); (try clear hb2); (try clear hk); (try clear hi)))
        go_meet
        case rel => exact ⟨_, (wrap64 ((wrap64 (4000 + t257)) - 1)), (t258), (t259), (by first | rfl | (simp; done) | (simp [*]; done)), H', ⟨by have := HJ4.out; first | omega | exact Nat.le_refl _⟩, ⟨by repeat (first | (with_reducible first | exact HI241.out | apply IsS156.alloc | apply IsS156.drewN | apply IsS156.drew | apply IsS156.set_1 | apply IsS156.set_2) | exact HI241.out)⟩, ⟨by repeat (first | (with_reducible first | exact HB.out | apply below_alloc | apply pw_below_drewN | apply below_drew1 | refine below_set ?_ (IsS156.ge HI241.out)) | exact HB.out)⟩⟩
      case rest =>
        clear HC14
        try clear c1
        try clear p2
        try clear p6
        try clear c10
        try clear c15
        try clear c16
        try clear p2
        try clear p6
        obtain ⟨kq, x6_13, x242001_13, x242002_13, rfl, HA, HJ13, HI241, HB⟩ := hcut
        cases kq with
        | zero => exact absurd HA.out (by simp [spec_l10Drawn.j1])
        | succ kj13 =>
          have H := HA.out
          clear HA
          simp only [spec_l10Drawn.j1] at H
          replace H := Option.bind_eq_some_iff.mp H
          obtain ⟨⟨t260, t263, t264⟩, A190, H⟩ := H
          replace H : ((spec_l1Cur_one.f l0 t263 t264 12).bind fun bt265 => (if bt265.1 = true then (spec_l10Drawn.j2 kj13 x6_13 t260 (decide (x6_13 > 0)) l0 bt265.2.1 bt265.2.2) else (spec_l10Drawn.j2 kj13 x6_13 t260 false l0 bt265.2.1 bt265.2.2))) = some (r1, r2, r3, r4) := H
          have A19 := Aside0.mk A190
          clear A190
          have HC20 := Aside0.mk H
          clear H
          go_upto_region 9 with (first | ((with_reducible refine gate_callee (f := 204) rfl ?_); refine goesL_ (some 30) rfl rfl Try.func204 (by kernel_rfl) rfl #[.pointer (some ⟨gb241, 0, none⟩), .int .i64 x6_13, .int .i64 (wrap64 (2 + t242))] rfl (by (try simp only [List.map_toArray, List.map_cons, List.map_nil]); first | done | rfl | (simp only [List.length_drop, List.length_take]; rfl)) ?_; (with_reducible refine (spec_l1Cur_tone.calls kj13 gb241 l0 x242001_13 x242002_13 x6_13 (wrap64 (2 + t242)) t260 t263 t264 w0 _ ?side1 ?side2 A19.out).mono ?_); (case side1 => repeat (first | (with_reducible first | exact HI241.out | apply IsS156.alloc | apply IsS156.drewN | apply IsS156.drew | apply IsS156.set_1 | apply IsS156.set_2) | exact HI241.out)); (case side2 => exact below_step HB0.out (by repeat (first | (with_reducible first | exact HB.out | apply below_alloc | apply pw_below_drewN | apply below_drew1 | refine below_set ?_ (IsS156.ge HI241.out)) | exact HB.out))); rintro e w21 ⟨v261, rfl, ho0, hi, hb, hk⟩; refine ⟨_, rfl, ?_⟩; have n0_ := Aside0.mk (Kd.R_lower ho0 (below_size (by repeat (first | (with_reducible first | exact HB.out | apply below_alloc | apply pw_below_drewN | apply below_drew1 | refine below_set ?_ (IsS156.ge HI241.out)) | exact HB.out)))); have n1_ := Aside0.mk (spec_l10Drawn.bk HB0.out (by repeat (first | (with_reducible first | exact HB.out | apply below_alloc | apply pw_below_drewN | apply below_drew1 | refine below_set ?_ (IsS156.ge HI241.out)) | exact HB.out)) hb hk GS241.out); have n2_ := Aside0.mk (hi); clear HB; clear HI241; have HO262 := n0_; have HB := n1_; have HI241 := n2_; clear n0_ n1_ n2_; (try clear hb); (try clear hb2); (try clear hk); (try clear hi); (try clear ho0)))
          (try simp only [Act.put, List.setIfInBounds_toArray, List.set_cons_zero, List.set_cons_succ])
          go_cut [36] (fun v36 wc => ∃ (kq : Nat) (x36_19 : Bool) (x242001_19 : Int) (x242002_19 : Int), v36 = .bool x36_19 ∧ Aside0 (spec_l10Drawn.j2 kq x6_13 t260 x36_19 l0 x242001_19 x242002_19 = some (r1, r2, r3, r4)) ∧ Aside0 (kq ≤ kj13) ∧ Aside0 (Kd.R (Kd.int .i64) 3 wc w.heap.size (fun _ => True) v261 t260) ∧ Aside0 (IsS156 w0 wc gb241 l0 x242001_19 x242002_19) ∧ Aside0 (Below w.heap.size w wc))
          case first =>
            have H := HC20.out
            clear HC20
            replace H := Option.bind_eq_some_iff.mp H
            obtain ⟨⟨t265, t266, t267⟩, A220, H⟩ := H
            replace H : (if t265 = true then (spec_l10Drawn.j2 kj13 x6_13 t260 (decide (x6_13 > 0)) l0 t266 t267) else (spec_l10Drawn.j2 kj13 x6_13 t260 false l0 t266 t267)) = some (r1, r2, r3, r4) := H
            have A22 := Aside0.mk A220
            clear A220
            by_cases c23 : t265 = true
            · subst c23
              have H1 : (spec_l10Drawn.j2 kj13 x6_13 t260 (decide (x6_13 > 0)) l0 t266 t267) = some (r1, r2, r3, r4) := by rw [if_pos rfl] at H; exact H
              clear H
              have H := H1
              clear H1
              have H' := Aside0.mk H
              clear H
              go_wp2_with (first | ((with_reducible refine gate_callee (f := 105) rfl ?_); refine goesL_ (some 32) rfl rfl Try.func105 (by kernel_rfl) rfl #[.pointer (some ⟨gb241, 0, none⟩), .int .i64 12] rfl (by (try simp only [List.map_toArray, List.map_cons, List.map_nil]); first | done | rfl | (simp only [List.length_drop, List.length_take]; rfl)) ?_; (with_reducible refine (spec_l1Cur_one.calls gb241 l0 t263 t264 12 true t266 t267 w0 _ ?side1 ?side2 A22.out).mono ?_); (case side1 => repeat (first | (with_reducible first | exact HI241.out | apply IsS156.alloc | apply IsS156.drewN | apply IsS156.drew | apply IsS156.set_1 | apply IsS156.set_2) | exact HI241.out)); (case side2 => exact below_step HB0.out (by repeat (first | (with_reducible first | exact HB.out | apply below_alloc | apply pw_below_drewN | apply below_drew1 | refine below_set ?_ (IsS156.ge HI241.out)) | exact HB.out))); rintro e w24 ⟨rfl, hi, hb, hk⟩; refine ⟨_, rfl, ?_⟩; have n0_ := Aside0.mk (Kd.R_mono (Kd.R_keep (IsS156.apart (show IsS156 w0 _ gb241 l0 t263 t264 from by repeat (first | (with_reducible first | exact HI241.out | apply IsS156.alloc | apply IsS156.drewN | apply IsS156.drew | apply IsS156.set_1 | apply IsS156.set_2) | exact HI241.out)) (by (with_reducible repeat (first | apply Kd.R_alloc | apply Kd.R_drewN | apply Kd.R_drew)); exact HO262.out) (by decide)) hk (fun _ h => h.2)) (fun _ h => h.1)); have n1_ := Aside0.mk (spec_l10Drawn.bk HB0.out (by repeat (first | (with_reducible first | exact HB.out | apply below_alloc | apply pw_below_drewN | apply below_drew1 | refine below_set ?_ (IsS156.ge HI241.out)) | exact HB.out)) hb hk GS241.out); have n2_ := Aside0.mk (hi); clear HO262; clear HB; clear HI241; have HO262 := n0_; have HB := n1_; have HI241 := n2_; clear n0_ n1_ n2_; (try clear hb); (try clear hb2); (try clear hk); (try clear hi)))
              go_meet
              case rel => exact ⟨_, (decide (x6_13 > 0)), (t266), (t267), (by first | rfl | (simp; done) | (simp [*]; done)), H', ⟨by have := HJ4.out; have := HJ13.out; first | omega | exact Nat.le_refl _⟩, ⟨by (with_reducible repeat (first | apply Kd.R_alloc | apply Kd.R_drewN | apply Kd.R_drew)); exact HO262.out⟩, ⟨by repeat (first | (with_reducible first | exact HI241.out | apply IsS156.alloc | apply IsS156.drewN | apply IsS156.drew | apply IsS156.set_1 | apply IsS156.set_2) | exact HI241.out)⟩, ⟨by repeat (first | (with_reducible first | exact HB.out | apply below_alloc | apply pw_below_drewN | apply below_drew1 | refine below_set ?_ (IsS156.ge HI241.out)) | exact HB.out)⟩⟩
            replace c23 := Bool.eq_false_iff.mpr c23
            subst c23
            have H1 : (spec_l10Drawn.j2 kj13 x6_13 t260 false l0 t266 t267) = some (r1, r2, r3, r4) := by rw [if_neg (show ¬ (false = true) by decide)] at H; exact H
            clear H
            have H := H1
            clear H1
            have H' := Aside0.mk H
            clear H
            go_wp2_with (first | ((with_reducible refine gate_callee (f := 105) rfl ?_); refine goesL_ (some 32) rfl rfl Try.func105 (by kernel_rfl) rfl #[.pointer (some ⟨gb241, 0, none⟩), .int .i64 12] rfl (by (try simp only [List.map_toArray, List.map_cons, List.map_nil]); first | done | rfl | (simp only [List.length_drop, List.length_take]; rfl)) ?_; (with_reducible refine (spec_l1Cur_one.calls gb241 l0 t263 t264 12 false t266 t267 w0 _ ?side1 ?side2 A22.out).mono ?_); (case side1 => repeat (first | (with_reducible first | exact HI241.out | apply IsS156.alloc | apply IsS156.drewN | apply IsS156.drew | apply IsS156.set_1 | apply IsS156.set_2) | exact HI241.out)); (case side2 => exact below_step HB0.out (by repeat (first | (with_reducible first | exact HB.out | apply below_alloc | apply pw_below_drewN | apply below_drew1 | refine below_set ?_ (IsS156.ge HI241.out)) | exact HB.out))); rintro e w25 ⟨rfl, hi, hb, hk⟩; refine ⟨_, rfl, ?_⟩; have n0_ := Aside0.mk (Kd.R_mono (Kd.R_keep (IsS156.apart (show IsS156 w0 _ gb241 l0 t263 t264 from by repeat (first | (with_reducible first | exact HI241.out | apply IsS156.alloc | apply IsS156.drewN | apply IsS156.drew | apply IsS156.set_1 | apply IsS156.set_2) | exact HI241.out)) (by (with_reducible repeat (first | apply Kd.R_alloc | apply Kd.R_drewN | apply Kd.R_drew)); exact HO262.out) (by decide)) hk (fun _ h => h.2)) (fun _ h => h.1)); have n1_ := Aside0.mk (spec_l10Drawn.bk HB0.out (by repeat (first | (with_reducible first | exact HB.out | apply below_alloc | apply pw_below_drewN | apply below_drew1 | refine below_set ?_ (IsS156.ge HI241.out)) | exact HB.out)) hb hk GS241.out); have n2_ := Aside0.mk (hi); clear HO262; clear HB; clear HI241; have HO262 := n0_; have HB := n1_; have HI241 := n2_; clear n0_ n1_ n2_; (try clear hb); (try clear hb2); (try clear hk); (try clear hi)))
            go_meet
            case rel => exact ⟨_, (false), (t266), (t267), (by first | rfl | (simp; done) | (simp [*]; done)), H', ⟨by have := HJ4.out; have := HJ13.out; first | omega | exact Nat.le_refl _⟩, ⟨by (with_reducible repeat (first | apply Kd.R_alloc | apply Kd.R_drewN | apply Kd.R_drew)); exact HO262.out⟩, ⟨by repeat (first | (with_reducible first | exact HI241.out | apply IsS156.alloc | apply IsS156.drewN | apply IsS156.drew | apply IsS156.set_1 | apply IsS156.set_2) | exact HI241.out)⟩, ⟨by repeat (first | (with_reducible first | exact HB.out | apply below_alloc | apply pw_below_drewN | apply below_drew1 | refine below_set ?_ (IsS156.ge HI241.out)) | exact HB.out)⟩⟩
          case rest =>
            clear HC20
            try clear c1
            try clear c2
            try clear p2
            try clear p6
            try clear c10
            try clear c15
            try clear c16
            try clear c20
            try clear c23
            try clear p2
            try clear p6
            obtain ⟨kq, x36_19, x242001_19, x242002_19, rfl, HA, HJ19, HO_7, HI241, HB⟩ := hcut
            cases kq with
            | zero => exact absurd HA.out (by simp [spec_l10Drawn.j2])
            | succ kj19 =>
              have H := HA.out
              clear HA
              simp only [spec_l10Drawn.j2] at H
              by_cases c26 : x36_19 = true
              rotate_left
              · replace c26 := Bool.eq_false_iff.mpr c26
                subst c26
                have H1 : (some (t260, l0, x242001_19, x242002_19)) = some (r1, r2, r3, r4) := by rw [if_neg (show ¬ (false = true) by decide)] at H; exact H
                clear H
                have H := H1
                clear H1
                simp only [Option.some.injEq, Prod.mk.injEq] at H
                obtain ⟨rfl, rfl, rfl, rfl⟩ := H
                go_wp2
                go_ret2
                exact ⟨_, _, by first | rfl | (simp [errW_none, errW_some] <;> rfl) | (simp [*, errW_none, errW_some] <;> rfl), by (with_reducible repeat (first | apply Kd.R_alloc | apply Kd.R_drewN | apply Kd.R_drew)); exact HO_7.out, by repeat (first | (with_reducible first | exact HI241.out | apply IsS156.alloc | apply IsS156.drewN | apply IsS156.drew | apply IsS156.set_1 | apply IsS156.set_2) | exact HI241.out), by repeat (first | (with_reducible first | exact HB.out | apply below_alloc | apply pw_below_drewN | apply below_drew1 | refine below_set ?_ (IsS156.ge HI241.out)) | exact HB.out)⟩
              subst c26
              have H1 : ((spec_l1Cur_pick.f l0 x242001_19 x242002_19 x6_13).bind fun bt268 => ((some (([67108863, 67108864, (-67108864), (-67108865)] : List Int) : List Int)).bind fun y271 => ((spec_l1Cur_pick.f l0 bt268.2.1 bt268.2.2 4).bind fun bt274 => (if 0 ≤ bt274.1 then (if bt274.1 < (y271.length : Int) then (if 0 ≤ bt268.1 then (if bt268.1 < (t260.length : Int) then (some ((t260.set (bt268.1 : Int).toNat (rd y271 bt274.1)), l0, bt274.2.1, bt274.2.2)) else (none)) else (none)) else (none)) else (none))))) = some (r1, r2, r3, r4) := by rw [if_pos rfl] at H; exact H
              clear H
              have H := H1
              clear H1
              replace H := Option.bind_eq_some_iff.mp H
              obtain ⟨⟨t268, t269, t270⟩, A270, H⟩ := H
              replace H : ((some (([67108863, 67108864, (-67108864), (-67108865)] : List Int) : List Int)).bind fun y271 => ((spec_l1Cur_pick.f l0 t269 t270 4).bind fun bt274 => (if 0 ≤ bt274.1 then (if bt274.1 < (y271.length : Int) then (if 0 ≤ t268 then (if t268 < (t260.length : Int) then (some ((t260.set (t268 : Int).toNat (rd y271 bt274.1)), l0, bt274.2.1, bt274.2.2)) else (none)) else (none)) else (none)) else (none)))) = some (r1, r2, r3, r4) := H
              have A27 := Aside0.mk A270
              clear A270
              obtain ⟨y271, hy271⟩ : ∃ y_ : List Int, y_ = (([67108863, 67108864, (-67108864), (-67108865)] : List Int)) := ⟨_, rfl⟩
              replace H : ((spec_l1Cur_pick.f l0 t269 t270 4).bind fun bt274 => (if 0 ≤ bt274.1 then (if bt274.1 < (y271.length : Int) then (if 0 ≤ t268 then (if t268 < (t260.length : Int) then (some ((t260.set (t268 : Int).toNat (rd y271 bt274.1)), l0, bt274.2.1, bt274.2.2)) else (none)) else (none)) else (none)) else (none))) = some (r1, r2, r3, r4) := by first | (rw [hy271]; with_reducible exact H) | (have H2_ := (Option.bind_some _ _).symm.trans H; rw [hy271]; with_reducible exact H2_) | (have H2_ := (Option.bind_some _ _).symm.trans H; with_reducible exact H2_) | with_reducible exact H | (rw [hy271]; exact H) | exact H
              have Ny271 := Aside0.mk hy271
              clear hy271
              replace H := Option.bind_eq_some_iff.mp H
              obtain ⟨⟨t274, t275, t276⟩, A280, H⟩ := H
              replace H : (if 0 ≤ t274 then (if t274 < (y271.length : Int) then (if 0 ≤ t268 then (if t268 < (t260.length : Int) then (some ((t260.set (t268 : Int).toNat (rd y271 t274)), l0, t275, t276)) else (none)) else (none)) else (none)) else (none)) = some (r1, r2, r3, r4) := H
              have A28 := Aside0.mk A280
              clear A280
              by_cases c29 : 0 ≤ t274
              rotate_left
              · rw [if_neg c29] at H
                exact absurd H (by simp)
              rw [if_pos c29] at H
              have c29b0 : decide (0 ≤ t274) = true := decide_eq_true c29
              clear c29
              by_cases c30 : t274 < (y271.length : Int)
              rotate_left
              · rw [if_neg c30] at H
                exact absurd H (by simp)
              rw [if_pos c30] at H
              have c30b0 : decide (t274 < (y271.length : Int)) = true := decide_eq_true c30
              clear c30
              by_cases c31 : 0 ≤ t268
              rotate_left
              · rw [if_neg c31] at H
                exact absurd H (by simp)
              rw [if_pos c31] at H
              have c31b0 : decide (0 ≤ t268) = true := decide_eq_true c31
              clear c31
              by_cases c32 : t268 < (t260.length : Int)
              rotate_left
              · rw [if_neg c32] at H
                exact absurd H (by simp)
              rw [if_pos c32] at H
              have c32b0 : decide (t268 < (t260.length : Int)) = true := decide_eq_true c32
              clear c32
              obtain ⟨y278, hy278⟩ : ∃ y_ : List Int, y_ = (t260.set (t268 : Int).toNat (rd y271 t274)) := ⟨_, rfl⟩
              replace H : (some (y278, l0, t275, t276)) = some (r1, r2, r3, r4) := by first | (rw [hy278]; with_reducible exact H) | (have H2_ := (Option.bind_some _ _).symm.trans H; rw [hy278]; with_reducible exact H2_) | (have H2_ := (Option.bind_some _ _).symm.trans H; with_reducible exact H2_) | with_reducible exact H | (rw [hy278]; exact H) | exact H
              have Ny278 := Aside0.mk hy278
              clear hy278
              simp only [Option.some.injEq, Prod.mk.injEq] at H
              obtain ⟨rfl, rfl, rfl, rfl⟩ := H
              go_wp2_with (first | ((with_reducible refine gate_callee (f := 104) rfl ?_); refine goesL_ (some 40) rfl rfl Try.func104 (by kernel_rfl) rfl #[.pointer (some ⟨gb241, 0, none⟩), .int .i64 x6_13] rfl (by (try simp only [List.map_toArray, List.map_cons, List.map_nil]); first | done | rfl | (simp only [List.length_drop, List.length_take]; rfl)) ?_; (with_reducible refine (spec_l1Cur_pick.calls gb241 l0 x242001_19 x242002_19 x6_13 t268 t269 t270 w0 _ ?side1 ?side2 A27.out).mono ?_); (case side1 => repeat (first | (with_reducible first | exact HI241.out | apply IsS156.alloc | apply IsS156.drewN | apply IsS156.drew | apply IsS156.set_1 | apply IsS156.set_2) | exact HI241.out)); (case side2 => exact below_step HB0.out (by repeat (first | (with_reducible first | exact HB.out | apply below_alloc | apply pw_below_drewN | apply below_drew1 | refine below_set ?_ (IsS156.ge HI241.out)) | exact HB.out))); rintro e w34 ⟨rfl, hi, hb, hk⟩; refine ⟨_, rfl, ?_⟩; have n0_ := Aside0.mk (Kd.R_mono (Kd.R_keep (IsS156.apart (show IsS156 w0 _ gb241 l0 x242001_19 x242002_19 from by repeat (first | (with_reducible first | exact HI241.out | apply IsS156.alloc | apply IsS156.drewN | apply IsS156.drew | apply IsS156.set_1 | apply IsS156.set_2) | exact HI241.out)) (by (with_reducible repeat (first | apply Kd.R_alloc | apply Kd.R_drewN | apply Kd.R_drew)); exact HO_7.out) (by decide)) hk (fun _ h => h.2)) (fun _ h => h.1)); have n1_ := Aside0.mk (spec_l10Drawn.bk HB0.out (by repeat (first | (with_reducible first | exact HB.out | apply below_alloc | apply pw_below_drewN | apply below_drew1 | refine below_set ?_ (IsS156.ge HI241.out)) | exact HB.out)) hb hk GS241.out); have n2_ := Aside0.mk (hi); clear HO_7; clear HB; clear HI241; have HO_7 := n0_; have HB := n1_; have HI241 := n2_; clear n0_ n1_ n2_; (try clear hb); (try clear hb2); (try clear hk); (try clear hi)) | ((with_reducible refine gate_dst (N := 41) rfl ?_); refine Kd.R_lit (Kd.int .i64) _ 3 ?hg (N := 41) ?hd (xs := ([67108863, 67108864, (-67108864), (-67108865)] : List Int)) (inner := [.int .i64 67108863, .int .i64 67108864, .int .i64 (-67108864), .int .i64 (-67108865)]) (ok := fun _ => True) (okp := fun _ => True) ?hr ?hp (fun _ hk => hk) trivial (Below.refl _ _) (Nat.le_refl _) (by simp) ?_; (case hd => rfl); (case hg => rfl); (case hr => first | (go_simp; done) | (go_simp; rfl)); (case hp => exact (Reps.one (show Kd.M (Kd.int .i64) _ _ _ 67108863 [.int .i64 67108863] from rfl) (Reps.one (show Kd.M (Kd.int .i64) _ _ _ 67108864 [.int .i64 67108864] from rfl) (Reps.one (show Kd.M (Kd.int .i64) _ _ _ (-67108864) [.int .i64 (-67108864)] from rfl) (Reps.one (show Kd.M (Kd.int .i64) _ _ _ (-67108865) [.int .i64 (-67108865)] from rfl) (Reps.none _ _)))))); intro v272 w35 ho36 hb hg_ hnew_; clear hg_ hnew_; (first | rw [← Ny271.out] at ho36 | (simp only [Int.reduceToNat] at ho36; rw [← Ny271.out] at ho36)); have n0_ := Aside0.mk (Kd.R_elder' (by (with_reducible repeat (first | apply Kd.R_alloc | apply Kd.R_drewN | apply Kd.R_drew)); exact HO_7.out) (Kd.R_base ho36) hb); have n1_ := Aside0.mk (Kd.R_lower (Kd.R_new' ho36 (Kd.R_lt (by (with_reducible repeat (first | apply Kd.R_alloc | apply Kd.R_drewN | apply Kd.R_drew)); exact HO_7.out))) (below_size (by repeat (first | (with_reducible first | exact HB.out | apply below_alloc | apply pw_below_drewN | apply below_drew1 | refine below_set ?_ (IsS156.ge HI241.out)) | exact HB.out)))); have n2_ := Aside0.mk (IsS156.below (by repeat (first | (with_reducible first | exact HI241.out | apply IsS156.alloc | apply IsS156.drewN | apply IsS156.drew | apply IsS156.set_1 | apply IsS156.set_2) | exact HI241.out)) hb); have n3_ := Aside0.mk (below_step (by repeat (first | (with_reducible first | exact HB.out | apply below_alloc | apply pw_below_drewN | apply below_drew1 | refine below_set ?_ (IsS156.ge HI241.out)) | exact HB.out)) hb); clear HO_7; clear HI241; clear HB; have HO_7 := n0_; have HO273 := n1_; have HI241 := n2_; have HB := n3_; clear n0_ n1_ n2_ n3_; clear hb ho36) | ((with_reducible refine gate_callee (f := 104) rfl ?_); refine goesL_ (some 43) rfl rfl Try.func104 (by kernel_rfl) rfl #[.pointer (some ⟨gb241, 0, none⟩), .int .i64 4] rfl (by (try simp only [List.map_toArray, List.map_cons, List.map_nil]); first | done | rfl | (simp only [List.length_drop, List.length_take]; rfl)) ?_; (with_reducible refine (spec_l1Cur_pick.calls gb241 l0 t269 t270 4 t274 t275 t276 w0 _ ?side1 ?side2 A28.out).mono ?_); (case side1 => repeat (first | (with_reducible first | exact HI241.out | apply IsS156.alloc | apply IsS156.drewN | apply IsS156.drew | apply IsS156.set_1 | apply IsS156.set_2) | exact HI241.out)); (case side2 => exact below_step HB0.out (by repeat (first | (with_reducible first | exact HB.out | apply below_alloc | apply pw_below_drewN | apply below_drew1 | refine below_set ?_ (IsS156.ge HI241.out)) | exact HB.out))); rintro e w37 ⟨rfl, hi, hb, hk⟩; refine ⟨_, rfl, ?_⟩; have n0_ := Aside0.mk (Kd.R_mono (Kd.R_keep (IsS156.apart (show IsS156 w0 _ gb241 l0 t269 t270 from by repeat (first | (with_reducible first | exact HI241.out | apply IsS156.alloc | apply IsS156.drewN | apply IsS156.drew | apply IsS156.set_1 | apply IsS156.set_2) | exact HI241.out)) (by (with_reducible repeat (first | apply Kd.R_alloc | apply Kd.R_drewN | apply Kd.R_drew)); exact HO_7.out) (by decide)) hk (fun _ h => h.2)) (fun _ h => h.1)); have n1_ := Aside0.mk (Kd.R_mono (Kd.R_keep (IsS156.apart (show IsS156 w0 _ gb241 l0 t269 t270 from by repeat (first | (with_reducible first | exact HI241.out | apply IsS156.alloc | apply IsS156.drewN | apply IsS156.drew | apply IsS156.set_1 | apply IsS156.set_2) | exact HI241.out)) (by (with_reducible repeat (first | apply Kd.R_alloc | apply Kd.R_drewN | apply Kd.R_drew)); exact HO273.out) (by decide)) hk (fun _ h => h.2)) (fun _ h => h.1)); have n2_ := Aside0.mk (spec_l10Drawn.bk HB0.out (by repeat (first | (with_reducible first | exact HB.out | apply below_alloc | apply pw_below_drewN | apply below_drew1 | refine below_set ?_ (IsS156.ge HI241.out)) | exact HB.out)) hb hk GS241.out); have n3_ := Aside0.mk (hi); clear HO_7; clear HO273; clear HB; clear HI241; have HO_7 := n0_; have HO273 := n1_; have HB := n2_; have HI241 := n3_; clear n0_ n1_ n2_ n3_; (try clear hb); (try clear hb2); (try clear hk); (try clear hi); obtain ⟨Ao38, co38, eo38⟩ := Kd.R_slice HO273.out; subst eo38; have p277 : 0 ≤ (t274 : Int) := of_decide_eq_true (by first | (with_reducible assumption) | assumption); have q277 : t274 < (y271.length : Int) := of_decide_eq_true (by first | (with_reducible assumption) | assumption); obtain ⟨ad277, e277, hx277_0⟩ := Kd.at_int (Kd.R_reads' HO273.out).2.2 t274 p277 q277; cases e277; replace p277 := eq_true p277; replace q277 := eq_true q277; have p33 : 0 ≤ (t268 : Int) := of_decide_eq_true (by first | (with_reducible assumption) | assumption); have q33 : (t268 : Int) < ((t260.length : Int) : Int) := of_decide_eq_true (by first | (with_reducible assumption) | assumption); obtain ⟨go33, co33, eo33, gb33, gl33, cl33, HG33⟩ := Kd.R_form HO_7.out (by omega); (first | cases eo33 | (injection eo33 with ea_ en_ ec_; (first | subst ea_ | (injection ea_ with ea_; subst ea_)); subst ec_; clear en_)); have GB33 := Aside0.mk gb33; have GG33 := Aside0.mk HG33; clear gb33 gl33 HG33; obtain ⟨hx33_0, hf33_0⟩ := Kd.R_celln 0 HO_7.out (t268 : Int) p33 q33; replace p33 := eq_true p33; replace q33 := eq_true q33; have n_ := Aside0.mk (Kd.R_mono (ok' := (fun k_ => some k_ ≠ (.slice (some ad277) y271.length co38 : Value).ownBlock)) HO_7.out (fun k_ hk => hk.2)); clear HO_7; have HO_7 := n_; clear n_; obtain ⟨hy39_, hz39_⟩ := Kd.R_celln 0 HO_7.out (t268 : Int) (of_decide_eq_true (by first | (with_reducible assumption) | assumption)) (of_decide_eq_true (by first | (with_reducible assumption) | assumption)); have HP39 := Kd.R_putg HO_7.out (t268 : Int) (rd y271 t274)) | ((with_reducible refine gate_store (t := 3) (p := 46) rfl ?_); refine store_event (t := 3) (p := 46) (v := ?vo_w40) (w1 := (w37.setCell ⟨go33, (t268 : Int).toNat, none⟩ (.int .i64 (rd y271 t274)))) ?hg ?ho ?hn ?hr ?_; (case ho => rfl); (case hg => rfl); (case hn => rfl); (case hr => first | (go_simp; done) | (go_simp; rfl)); intro w40 hw; have hg : w37.grownBy w40 (some go33) := (by rw [hw]; exact HP39.2); have hp_ : Kd.R (Kd.int .i64) 3 w40 w.heap.size (fun k_ => some k_ ≠ (.slice (some ad277) y271.length co38 : Value).ownBlock) (.slice (some ⟨go33, 0, none⟩) t260.length co33) y278 := (by rw [hw, Ny278.out]; exact HP39.1); clear HP39; have n0_ := Aside0.mk (hp_); have n1_ := Aside0.mk (IsS156.grown (by repeat (first | (with_reducible first | exact HI241.out | apply IsS156.alloc | apply IsS156.drewN | apply IsS156.drew | apply IsS156.set_1 | apply IsS156.set_2) | exact HI241.out)) hg (IsS156.own_ne HI241.out HO_7.out (by decide))); have n2_ := Aside0.mk (Kd.R_after (v := (.slice (some ⟨go33, 0, none⟩) t260.length co33)) (v1 := (.slice (some ⟨go33, 0, none⟩) t260.length co33)) (ok := (fun _ => True)) (by (with_reducible repeat (first | apply Kd.R_alloc | apply Kd.R_drewN | apply Kd.R_drew)); exact HO273.out) hg (.inl rfl)); have n3_ := Aside0.mk ((by rw [hw]; exact below_set (HB.out) GB33.out : Below w.heap.size w w40)); clear HO_7; clear HI241; clear HO273; clear HB; have HO_7 := n0_; have HI241 := n1_; have HO273 := n2_; have HB := n3_; clear n0_ n1_ n2_ n3_; clear hg hw hp_))
              go_ret2
              exact ⟨_, _, by first | rfl | (simp [errW_none, errW_some] <;> rfl) | (simp [*, errW_none, errW_some] <;> rfl), by (with_reducible repeat (first | apply Kd.R_alloc | apply Kd.R_drewN | apply Kd.R_drew)); exact Kd.R_mono HO_7.out (fun _ hk => trivial), by repeat (first | (with_reducible first | exact HI241.out | apply IsS156.alloc | apply IsS156.drewN | apply IsS156.drew | apply IsS156.set_1 | apply IsS156.set_2) | exact HI241.out), by repeat (first | (with_reducible first | exact HB.out | apply below_alloc | apply pw_below_drewN | apply below_drew1 | refine below_set ?_ (IsS156.ge HI241.out)) | exact HB.out)⟩

/-! ### spec_DrawBestPlan: function 72 -/
def spec_DrawBestPlan.f (k : Nat) (l0 : List Int) : Option (List Int) := (spec_l10Drawn.f k l0).bind fun bt279 => (some bt279.1)
theorem spec_DrawBestPlan.mono : ∀ a0 k, LeO (spec_DrawBestPlan.f k a0) (spec_DrawBestPlan.f (k + 1) a0) := by
  intro a0 k
  unfold spec_DrawBestPlan.f
  repeat' first
      | (with_reducible exact spec_l10Drawn.mono _ _)
      | (with_reducible exact LeO.refl _)
      | (with_reducible exact LeO.none _)
      | (with_reducible refine LeO.ite ?_ ?_)
      | (with_reducible refine LeO.bind ?_ (fun _ => ?_))
      | exact spec_l10Drawn.mono _ _
      | exact LeO.none _
      | refine LeO.ite ?_ ?_
      | refine LeO.bind ?_ (fun _ => ?_)
set_option maxHeartbeats 8000000 in
set_option maxRecDepth 100000 in
theorem spec_DrawBestPlan.calls (k : Nat) (A0 : Option Addr) (c0 : Nat) (l0 : List Int) (r : List Int) (w : World) (hr0 : Kd.C (Kd.int .u8) w A0 l0.length l0) (hc0 : l0.length ≤ c0) (h : spec_DrawBestPlan.f k l0 = some r) :
    Calls Try.prog 72 #[.slice A0 l0.length c0] w fun e w' => ∃ v0_ : Value, e = .returned (v0_) ∧ Kd.R (Kd.int .i64) 3 w' w.heap.size (fun _ => True) v0_ r ∧ Below w.heap.size w w' := by
  have HR0 := Aside0.mk hr0
  have HC0 := Aside0.mk hc0
  clear hr0 hc0
  have HB := Aside0.mk (Below.refl w.heap.size w)
  have H : ((spec_l10Drawn.f k l0).bind fun bt279 => (some bt279.1)) = some r := h
  clear h
  replace H := Option.bind_eq_some_iff.mp H
  obtain ⟨⟨t279, t282, t283, t284⟩, A20, H⟩ := H
  replace H : (some t279) = some r := H
  have A2 := Aside0.mk A20
  clear A20
  obtain rfl := Option.some.inj H
  go_enter Try.func72, Try.ntmps72
  go_wp2_with (first | ((with_reducible refine gate_callee (f := 155) rfl ?_); refine goesL_ (some 7) rfl rfl Try.func155 (by kernel_rfl) rfl #[.slice A0 l0.length c0] rfl (by (try simp only [List.map_toArray, List.map_cons, List.map_nil]); first | done | rfl | (simp only [List.length_drop, List.length_take]; rfl)) ?_; (with_reducible refine (spec_l10Drawn.calls k _ _ l0 t279 t282 t283 t284 w _ ?side1 ?side2 ?side3 A2.out).mono ?_); (case side1 => repeat (first | (with_reducible first | exact HB.out | apply below_alloc | apply pw_below_drewN | apply below_drew1) | exact HB.out)); (case side2 => exact HR0.out); (case side3 => exact HC0.out); rintro e w3 ⟨v280, g285, rfl, ho0, hi, hb⟩; refine ⟨_, rfl, ?_⟩; have n0_ := Aside0.mk (Kd.R_lower ho0 (below_size (by repeat (first | (with_reducible first | exact HB.out | apply below_alloc | apply pw_below_drewN | apply below_drew1) | exact HB.out)))); have n1_ := Aside0.mk (below_step (by repeat (first | (with_reducible first | exact HB.out | apply below_alloc | apply pw_below_drewN | apply below_drew1) | exact HB.out)) hb); have n2_ := Aside0.mk (hi); clear HB; have HO281 := n0_; have HB := n1_; have HI285 := n2_; clear n0_ n1_ n2_; (try clear hb); (try clear hb2); (try clear hk); (try clear hi); (try clear ho0)))
  go_ret
  exact ⟨_, by first | rfl | (simp [errW_none, errW_some] <;> rfl) | (simp [*, errW_none, errW_some] <;> rfl), by (with_reducible repeat (first | apply Kd.R_alloc | apply Kd.R_drewN | apply Kd.R_drew)); exact HO281.out, by repeat (first | (with_reducible first | exact HB.out | apply below_alloc | apply pw_below_drewN | apply below_drew1 | refine below_set ?_ (IsS156.ge HI285.out)) | exact HB.out)⟩

/-! ### impl_PlanCost: function 73 -/
mutual
def impl_PlanCost.j0 : Nat → List Int → Bool → Int → Int → List Int → Option (Int)
  | 0, _, _, _, _, _ => none
  | k + 1, x1, x36, x287000, x287001, x287002 => if x36 = true then (some (-1)) else ((impl_Residue.f k x287000 x1).bind fun t290 => (impl_PlanCost.l0 k t290 (wrap64 (6 + (wrap64 (26 * x287000)))) x287002 (x287002.length : Int) 0 x287000 x287001 x287002))
def impl_PlanCost.l0 : Nat → List Int → Int → List Int → Int → Int → Int → Int → List Int → Option (Int)
  | 0, _, _, _, _, _, _, _, _ => none
  | k + 1, x5, x6, x46, x47, x48, x287000, x287001, x287002 => if x48 < x47 then (if 0 ≤ x48 then (if x48 < (x46.length : Int) then ((impl_zpart.f x287000 x287001 x5 x48).bind fun t294 => ((impl_zkeyCost.f k (rd x46 x48) t294).bind fun t297 => (impl_PlanCost.l0 k x5 (wrap64 (x6 + t297)) x46 x47 (wrap64 (x48 + 1)) x287000 x287001 x287002))) else (none)) else (none)) else (some x6)
end
def impl_PlanCost.f (k : Nat) (a0_0 : Int) (a0_1 : Int) (l0_2 : List Int) (l1 : List Int) : Option (Int) := (impl_zlist.f k l1).bind fun t287 => (if t287 = true then ((impl_zfits.f a0_0 a0_1 (l1.length : Int)).bind fun t288 => (if t288 = true then (if 0 ≤ a0_1 then (if (l0_2.length : Int) = (shl .i64 1 a0_1) then ((impl_zrange.f k l0_2 0 25 16).bind fun t289 => (impl_PlanCost.j0 k l1 (!t289) a0_0 a0_1 l0_2)) else (impl_PlanCost.j0 k l1 true a0_0 a0_1 l0_2)) else (none)) else (impl_PlanCost.j0 k l1 true a0_0 a0_1 l0_2))) else (impl_PlanCost.j0 k l1 true a0_0 a0_1 l0_2))
theorem impl_PlanCost.mono_l : ∀ k, (∀ y0 y1 y2 y3 y4, LeO (impl_PlanCost.j0 k y0 y1 y2 y3 y4) (impl_PlanCost.j0 (k + 1) y0 y1 y2 y3 y4)) ∧ (∀ y0 y1 y2 y3 y4 y5 y6 y7, LeO (impl_PlanCost.l0 k y0 y1 y2 y3 y4 y5 y6 y7) (impl_PlanCost.l0 (k + 1) y0 y1 y2 y3 y4 y5 y6 y7))
  | 0 => ⟨fun _ _ _ _ _ r h => by simp [impl_PlanCost.j0] at h, fun _ _ _ _ _ _ _ _ r h => by simp [impl_PlanCost.l0] at h⟩
  | k + 1 => by
    obtain ⟨ih0, ih1⟩ := impl_PlanCost.mono_l k
    refine ⟨?_, ?_⟩
    · intro y0 y1 y2 y3 y4
      unfold impl_PlanCost.j0
      repeat' first
      | (with_reducible exact ih0 _ _ _ _ _)
      | (with_reducible exact ih1 _ _ _ _ _ _ _ _)
      | (with_reducible exact impl_Residue.mono _ _ _)
      | (with_reducible exact impl_zkeyCost.mono _ _ _)
      | (with_reducible exact impl_zlist.mono _ _)
      | (with_reducible exact impl_zrange.mono _ _ _ _ _)
      | (with_reducible exact LeO.refl _)
      | (with_reducible exact LeO.none _)
      | (with_reducible refine LeO.ite ?_ ?_)
      | (with_reducible refine LeO.bind ?_ (fun _ => ?_))
      | exact ih0 _ _ _ _ _
      | exact ih1 _ _ _ _ _ _ _ _
      | exact impl_Residue.mono _ _ _
      | exact impl_zkeyCost.mono _ _ _
      | exact impl_zlist.mono _ _
      | exact impl_zrange.mono _ _ _ _ _
      | exact LeO.none _
      | refine LeO.ite ?_ ?_
      | refine LeO.bind ?_ (fun _ => ?_)
    · intro y0 y1 y2 y3 y4 y5 y6 y7
      unfold impl_PlanCost.l0
      repeat' first
      | (with_reducible exact ih0 _ _ _ _ _)
      | (with_reducible exact ih1 _ _ _ _ _ _ _ _)
      | (with_reducible exact impl_Residue.mono _ _ _)
      | (with_reducible exact impl_zkeyCost.mono _ _ _)
      | (with_reducible exact impl_zlist.mono _ _)
      | (with_reducible exact impl_zrange.mono _ _ _ _ _)
      | (with_reducible exact LeO.refl _)
      | (with_reducible exact LeO.none _)
      | (with_reducible refine LeO.ite ?_ ?_)
      | (with_reducible refine LeO.bind ?_ (fun _ => ?_))
      | exact ih0 _ _ _ _ _
      | exact ih1 _ _ _ _ _ _ _ _
      | exact impl_Residue.mono _ _ _
      | exact impl_zkeyCost.mono _ _ _
      | exact impl_zlist.mono _ _
      | exact impl_zrange.mono _ _ _ _ _
      | exact LeO.none _
      | refine LeO.ite ?_ ?_
      | refine LeO.bind ?_ (fun _ => ?_)
theorem impl_PlanCost.mono : ∀ a0 a1 a2 a3 k, LeO (impl_PlanCost.f k a0 a1 a2 a3) (impl_PlanCost.f (k + 1) a0 a1 a2 a3) := by
  intro a0 a1 a2 a3 k
  obtain ⟨ih0, ih1⟩ := impl_PlanCost.mono_l k
  unfold impl_PlanCost.f
  repeat' first
      | (with_reducible exact ih0 _ _ _ _ _)
      | (with_reducible exact ih1 _ _ _ _ _ _ _ _)
      | (with_reducible exact impl_Residue.mono _ _ _)
      | (with_reducible exact impl_zkeyCost.mono _ _ _)
      | (with_reducible exact impl_zlist.mono _ _)
      | (with_reducible exact impl_zrange.mono _ _ _ _ _)
      | (with_reducible exact LeO.refl _)
      | (with_reducible exact LeO.none _)
      | (with_reducible refine LeO.ite ?_ ?_)
      | (with_reducible refine LeO.bind ?_ (fun _ => ?_))
      | exact ih0 _ _ _ _ _
      | exact ih1 _ _ _ _ _ _ _ _
      | exact impl_Residue.mono _ _ _
      | exact impl_zkeyCost.mono _ _ _
      | exact impl_zlist.mono _ _
      | exact impl_zrange.mono _ _ _ _ _
      | exact LeO.none _
      | refine LeO.ite ?_ ?_
      | refine LeO.bind ?_ (fun _ => ?_)
set_option maxHeartbeats 8000000 in
set_option maxRecDepth 100000 in
theorem impl_PlanCost.calls (k : Nat) (a0_0 : Int) (a0_1 : Int) (A0_2 : Option Addr) (c0_2 : Nat) (l0_2 : List Int) (A1 : Option Addr) (c1 : Nat) (l1 : List Int) (r : Int) (w : World) (hr0_2 : Kd.C (Kd.int .i64) w A0_2 l0_2.length l0_2) (hc0_2 : l0_2.length ≤ c0_2) (hr1 : Kd.C (Kd.int .i64) w A1 l1.length l1) (hc1 : l1.length ≤ c1) (h : impl_PlanCost.f k a0_0 a0_1 l0_2 l1 = some r) :
    Calls Try.prog 73 #[.agg #[.int .i64 a0_0, .int .i64 a0_1, .slice A0_2 l0_2.length c0_2], .slice A1 l1.length c1] w fun e w' => e = .returned (.int .i64 r) ∧ Below w.heap.size w w' := by
  have hu24 := Try.underlying24
  have HR0_2 := Aside0.mk hr0_2
  have HC0_2 := Aside0.mk hc0_2
  clear hr0_2 hc0_2
  have HR1 := Aside0.mk hr1
  have HC1 := Aside0.mk hc1
  clear hr1 hc1
  have HB := Aside0.mk (Below.refl w.heap.size w)
  have H : ((impl_zlist.f k l1).bind fun t287 => (if t287 = true then ((impl_zfits.f a0_0 a0_1 (l1.length : Int)).bind fun t288 => (if t288 = true then (if 0 ≤ a0_1 then (if (l0_2.length : Int) = (shl .i64 1 a0_1) then ((impl_zrange.f k l0_2 0 25 16).bind fun t289 => (impl_PlanCost.j0 k l1 (!t289) a0_0 a0_1 l0_2)) else (impl_PlanCost.j0 k l1 true a0_0 a0_1 l0_2)) else (none)) else (impl_PlanCost.j0 k l1 true a0_0 a0_1 l0_2))) else (impl_PlanCost.j0 k l1 true a0_0 a0_1 l0_2))) = some r := h
  clear h
  have HC3 := Aside0.mk H
  clear H
  go_enter Try.func73, Try.ntmps73
  go_upto_region 1 with (first | ((with_reducible refine gate_dst (N := 2) rfl ?_); (try (refine gate_guard (by rfl) ?_; dsimp only)); refine box_event ?hg (N := 2) ?hd (cs := #[.int .i64 a0_0, .int .i64 a0_1, .slice A0_2 l0_2.length c0_2]) (t := 24) ?hr ?_; (case hd => rfl); (case hg => rfl); (case hr => first | (go_simp; done) | (go_simp; rfl)); intro gb286 hg w4 hbox hb; have n0_ := Aside0.mk (below_step (by repeat (first | (with_reducible first | exact HB.out | apply below_alloc | apply pw_below_drewN | apply below_drew1) | exact HB.out)) hb); have n1_ := Aside0.mk (hbox); have n2_ := Aside0.mk ((by rw [hg]; exact (below_size (by repeat (first | (with_reducible first | exact HB.out | apply below_alloc | apply pw_below_drewN | apply below_drew1) | exact HB.out))) : w.heap.size ≤ gb286)); have n3_ := n2_; clear HB; have HB := n0_; have BK286 := n1_; have GW286 := n2_; have GE286 := n3_; clear n0_ n1_ n2_ n3_; clear hb hbox hg))
  repeat (go_quiet (first | ((with_reducible refine gate_dst (N := 2) rfl ?_); (try (refine gate_guard (by rfl) ?_; dsimp only)); refine box_event ?hg (N := 2) ?hd (cs := #[.int .i64 a0_0, .int .i64 a0_1, .slice A0_2 l0_2.length c0_2]) (t := 24) ?hr ?_; (case hd => rfl); (case hg => rfl); (case hr => first | (go_simp; done) | (go_simp; rfl)); intro gb286 hg w4 hbox hb; have n0_ := Aside0.mk (below_step (by repeat (first | (with_reducible first | exact HB.out | apply below_alloc | apply pw_below_drewN | apply below_drew1) | exact HB.out)) hb); have n1_ := Aside0.mk (hbox); have n2_ := Aside0.mk ((by rw [hg]; exact (below_size (by repeat (first | (with_reducible first | exact HB.out | apply below_alloc | apply pw_below_drewN | apply below_drew1) | exact HB.out))) : w.heap.size ≤ gb286)); have n3_ := n2_; clear HB; have HB := n0_; have BK286 := n1_; have GW286 := n2_; have GE286 := n3_; clear n0_ n1_ n2_ n3_; clear hb hbox hg)); go_upto_region 1 with (first | ((with_reducible refine gate_dst (N := 2) rfl ?_); (try (refine gate_guard (by rfl) ?_; dsimp only)); refine box_event ?hg (N := 2) ?hd (cs := #[.int .i64 a0_0, .int .i64 a0_1, .slice A0_2 l0_2.length c0_2]) (t := 24) ?hr ?_; (case hd => rfl); (case hg => rfl); (case hr => first | (go_simp; done) | (go_simp; rfl)); intro gb286 hg w4 hbox hb; have n0_ := Aside0.mk (below_step (by repeat (first | (with_reducible first | exact HB.out | apply below_alloc | apply pw_below_drewN | apply below_drew1) | exact HB.out)) hb); have n1_ := Aside0.mk (hbox); have n2_ := Aside0.mk ((by rw [hg]; exact (below_size (by repeat (first | (with_reducible first | exact HB.out | apply below_alloc | apply pw_below_drewN | apply below_drew1) | exact HB.out))) : w.heap.size ≤ gb286)); have n3_ := n2_; clear HB; have HB := n0_; have BK286 := n1_; have GW286 := n2_; have GE286 := n3_; clear n0_ n1_ n2_ n3_; clear hb hbox hg)))
  (try simp only [Act.put, List.setIfInBounds_toArray, List.set_cons_zero, List.set_cons_succ])
  go_cut [36] (fun v36 wc => ∃ (kq : Nat) (x36_2 : Bool), v36 = .bool x36_2 ∧ Aside0 (impl_PlanCost.j0 kq l1 x36_2 a0_0 a0_1 l0_2 = some r) ∧ Aside0 (kq ≤ k) ∧ Aside0 (wc.heap[gb286]? = some (.cells #[.int .i64 a0_0, .int .i64 a0_1, (.slice A0_2 l0_2.length c0_2)] 24 (0, 0))) ∧ Aside0 (Below w.heap.size w wc))
  case first =>
    have H := HC3.out
    clear HC3
    replace H := Option.bind_eq_some_iff.mp H
    obtain ⟨t287, A50, H⟩ := H
    replace H : (if t287 = true then ((impl_zfits.f a0_0 a0_1 (l1.length : Int)).bind fun t288 => (if t288 = true then (if 0 ≤ a0_1 then (if (l0_2.length : Int) = (shl .i64 1 a0_1) then ((impl_zrange.f k l0_2 0 25 16).bind fun t289 => (impl_PlanCost.j0 k l1 (!t289) a0_0 a0_1 l0_2)) else (impl_PlanCost.j0 k l1 true a0_0 a0_1 l0_2)) else (none)) else (impl_PlanCost.j0 k l1 true a0_0 a0_1 l0_2))) else (impl_PlanCost.j0 k l1 true a0_0 a0_1 l0_2)) = some r := H
    have A5 := Aside0.mk A50
    clear A50
    by_cases c6 : t287 = true
    rotate_left
    · replace c6 := Bool.eq_false_iff.mpr c6
      subst c6
      have H1 : (impl_PlanCost.j0 k l1 true a0_0 a0_1 l0_2) = some r := by rw [if_neg (show ¬ (false = true) by decide)] at H; exact H
      clear H
      have H := H1
      clear H1
      have H' := Aside0.mk H
      clear H
      iterate 3 (try go_wp2_with (first | (go_at_call 78; (with_reducible refine (impl_zlist.calls k _ _ l1 false _ ?side1 ?side2 A5.out).mono ?_); (case side1 => repeat (first | exact (Kd.C_below HR1.out HB.out) | (with_reducible refine Kd.C_alloc ?_ _) | (with_reducible refine Kd.C_drewN ?_ _) | (with_reducible refine Kd.C_drew ?_))); (case side2 => exact HC1.out); rintro e w' ⟨rfl, ⟨nd, rfl⟩⟩; (try first | exact ⟨rfl, _, World.drewN_drewN _ _ _⟩ | exact ⟨rfl, _, Eq.trans (World.drewN_drewN _ _ _) (congrArg (World.drewN _) (Nat.add_assoc _ _ _))⟩))); try go_quiet (first | (go_at_call 78; (with_reducible refine (impl_zlist.calls k _ _ l1 false _ ?side1 ?side2 A5.out).mono ?_); (case side1 => repeat (first | exact (Kd.C_below HR1.out HB.out) | (with_reducible refine Kd.C_alloc ?_ _) | (with_reducible refine Kd.C_drewN ?_ _) | (with_reducible refine Kd.C_drew ?_))); (case side2 => exact HC1.out); rintro e w' ⟨rfl, ⟨nd, rfl⟩⟩; (try first | exact ⟨rfl, _, World.drewN_drewN _ _ _⟩ | exact ⟨rfl, _, Eq.trans (World.drewN_drewN _ _ _) (congrArg (World.drewN _) (Nat.add_assoc _ _ _))⟩))))
      go_meet
      case rel => exact ⟨_, (true), (by first | rfl | (simp; done) | (simp [*]; done)), H', ⟨by first | omega | exact Nat.le_refl _⟩, ⟨by (with_reducible repeat (first | refine blk_drewN ?_ _ | refine blk_drew ?_ | refine blk_alloc ?_ _)); exact BK286.out⟩, ⟨by repeat (first | (with_reducible first | exact HB.out | apply below_alloc | apply pw_below_drewN | apply below_drew1 | refine below_set ?_ GE286.out) | exact HB.out)⟩⟩
    subst c6
    have H1 : ((impl_zfits.f a0_0 a0_1 (l1.length : Int)).bind fun t288 => (if t288 = true then (if 0 ≤ a0_1 then (if (l0_2.length : Int) = (shl .i64 1 a0_1) then ((impl_zrange.f k l0_2 0 25 16).bind fun t289 => (impl_PlanCost.j0 k l1 (!t289) a0_0 a0_1 l0_2)) else (impl_PlanCost.j0 k l1 true a0_0 a0_1 l0_2)) else (none)) else (impl_PlanCost.j0 k l1 true a0_0 a0_1 l0_2))) = some r := by rw [if_pos rfl] at H; exact H
    clear H
    have H := H1
    clear H1
    replace H := Option.bind_eq_some_iff.mp H
    obtain ⟨t288, A70, H⟩ := H
    replace H : (if t288 = true then (if 0 ≤ a0_1 then (if (l0_2.length : Int) = (shl .i64 1 a0_1) then ((impl_zrange.f k l0_2 0 25 16).bind fun t289 => (impl_PlanCost.j0 k l1 (!t289) a0_0 a0_1 l0_2)) else (impl_PlanCost.j0 k l1 true a0_0 a0_1 l0_2)) else (none)) else (impl_PlanCost.j0 k l1 true a0_0 a0_1 l0_2)) = some r := H
    have A7 := Aside0.mk A70
    clear A70
    by_cases c8 : t288 = true
    rotate_left
    · replace c8 := Bool.eq_false_iff.mpr c8
      subst c8
      have H1 : (impl_PlanCost.j0 k l1 true a0_0 a0_1 l0_2) = some r := by rw [if_neg (show ¬ (false = true) by decide)] at H; exact H
      clear H
      have H := H1
      clear H1
      have H' := Aside0.mk H
      clear H
      have hcz15_0 : w4.cell? ⟨gb286, 0, none⟩ = some (.int .i64 a0_0) := (blk_cell BK286.out 0).trans rfl; have hcz15_1 : w4.cell? ⟨gb286, 1, none⟩ = some (.int .i64 a0_1) := (blk_cell BK286.out 1).trans rfl; have hcz15_2 : w4.cell? ⟨gb286, 2, none⟩ = some (.slice A0_2 l0_2.length c0_2) := (blk_cell BK286.out 2).trans rfl; have hfz15_0 := blk_frozen BK286.out 0; have hfz15_1 := blk_frozen BK286.out 1; have hfz15_2 := blk_frozen BK286.out 2
      iterate 3 (try go_wp2_with (first | (go_at_call 78; (with_reducible refine (impl_zlist.calls k _ _ l1 true _ ?side1 ?side2 A5.out).mono ?_); (case side1 => repeat (first | exact (Kd.C_below HR1.out HB.out) | (with_reducible refine Kd.C_alloc ?_ _) | (with_reducible refine Kd.C_drewN ?_ _) | (with_reducible refine Kd.C_drew ?_))); (case side2 => exact HC1.out); rintro e w' ⟨rfl, ⟨nd, rfl⟩⟩; (try first | exact ⟨rfl, _, World.drewN_drewN _ _ _⟩ | exact ⟨rfl, _, Eq.trans (World.drewN_drewN _ _ _) (congrArg (World.drewN _) (Nat.add_assoc _ _ _))⟩)) | (go_at_call 80; (with_reducible refine (impl_zfits.calls a0_0 a0_1 (l1.length : Int) false _ A7.out).mono ?_); rintro e w' ⟨rfl, ⟨nd, rfl⟩⟩; (try first | exact ⟨rfl, _, World.drewN_drewN _ _ _⟩ | exact ⟨rfl, _, Eq.trans (World.drewN_drewN _ _ _) (congrArg (World.drewN _) (Nat.add_assoc _ _ _))⟩))); try go_quiet (first | (go_at_call 78; (with_reducible refine (impl_zlist.calls k _ _ l1 true _ ?side1 ?side2 A5.out).mono ?_); (case side1 => repeat (first | exact (Kd.C_below HR1.out HB.out) | (with_reducible refine Kd.C_alloc ?_ _) | (with_reducible refine Kd.C_drewN ?_ _) | (with_reducible refine Kd.C_drew ?_))); (case side2 => exact HC1.out); rintro e w' ⟨rfl, ⟨nd, rfl⟩⟩; (try first | exact ⟨rfl, _, World.drewN_drewN _ _ _⟩ | exact ⟨rfl, _, Eq.trans (World.drewN_drewN _ _ _) (congrArg (World.drewN _) (Nat.add_assoc _ _ _))⟩)) | (go_at_call 80; (with_reducible refine (impl_zfits.calls a0_0 a0_1 (l1.length : Int) false _ A7.out).mono ?_); rintro e w' ⟨rfl, ⟨nd, rfl⟩⟩; (try first | exact ⟨rfl, _, World.drewN_drewN _ _ _⟩ | exact ⟨rfl, _, Eq.trans (World.drewN_drewN _ _ _) (congrArg (World.drewN _) (Nat.add_assoc _ _ _))⟩))))
      go_meet
      case rel => exact ⟨_, (true), (by first | rfl | (simp; done) | (simp [*]; done)), H', ⟨by first | omega | exact Nat.le_refl _⟩, ⟨by (with_reducible repeat (first | refine blk_drewN ?_ _ | refine blk_drew ?_ | refine blk_alloc ?_ _)); exact BK286.out⟩, ⟨by repeat (first | (with_reducible first | exact HB.out | apply below_alloc | apply pw_below_drewN | apply below_drew1 | refine below_set ?_ GE286.out) | exact HB.out)⟩⟩
    subst c8
    have H1 : (if 0 ≤ a0_1 then (if (l0_2.length : Int) = (shl .i64 1 a0_1) then ((impl_zrange.f k l0_2 0 25 16).bind fun t289 => (impl_PlanCost.j0 k l1 (!t289) a0_0 a0_1 l0_2)) else (impl_PlanCost.j0 k l1 true a0_0 a0_1 l0_2)) else (none)) = some r := by rw [if_pos rfl] at H; exact H
    clear H
    have H := H1
    clear H1
    by_cases c9 : 0 ≤ a0_1
    rotate_left
    · rw [if_neg c9] at H
      exact absurd H (by simp)
    rw [if_pos c9] at H
    have c9b0 := eq_true c9
    have c9b1 : decide (0 ≤ a0_1) = true := decide_eq_true c9
    clear c9
    obtain ⟨ji10, hji10⟩ : ∃ j_ : Int, (shl .i64 1 a0_1) = j_ := ⟨_, rfl⟩
    replace H : (if (l0_2.length : Int) = (ji10) then ((impl_zrange.f k l0_2 0 25 16).bind fun t289 => (impl_PlanCost.j0 k l1 (!t289) a0_0 a0_1 l0_2)) else (impl_PlanCost.j0 k l1 true a0_0 a0_1 l0_2)) = some r := by first | (rw [hji10] at H; exact H) | (simp only [hji10] at H ⊢; exact H)
    (try rw [hji10] at A5)
    (try rw [hji10] at A7)
    have hji10_ : (IntKind.i64.wrap (1 * 2 ^ min a0_1.toNat 64)) = ji10 := hji10
    have hji10z : a0_1 ≤ 64 → (IntKind.i64.wrap (1 * 2 ^ a0_1.toNat)) = ji10 := shl_small hji10
    have hji10u : (IntKind.i64.wrap (2 ^ min a0_1.toNat 64)) = ji10 := by have h_ := hji10_; rw [Int.one_mul] at h_; exact h_
    have hji10v : a0_1 ≤ 64 → (IntKind.i64.wrap (2 ^ a0_1.toNat)) = ji10 := fun hle_ => by have h_ := hji10z hle_; rw [Int.one_mul] at h_; exact h_
    have hji10y : (wrap64 (1 * 2 ^ min a0_1.toNat 64)) = ji10 := (i64_w _).symm.trans hji10_
    have hji10x : a0_1 ≤ 64 → (wrap64 (1 * 2 ^ a0_1.toNat)) = ji10 := fun h_ => (i64_w _).symm.trans (hji10z h_)
    by_cases c11 : (l0_2.length : Int) = (ji10)
    rotate_left
    · rw [if_neg c11] at H
      have c11b0 : ((l0_2.length : Int) == (ji10)) = false := beq_eq_false_iff_ne.mpr c11
      have c11b1 : ((l0_2.length : Int) != (ji10)) = true := bne_iff_ne.mpr c11
      (first | rw [c11b0] | (simp only [i64_w, i32_w]; rw [c11b0]) | skip)
      have H' := Aside0.mk H
      clear H
      have hcz14_0 : w4.cell? ⟨gb286, 0, none⟩ = some (.int .i64 a0_0) := (blk_cell BK286.out 0).trans rfl; have hcz14_1 : w4.cell? ⟨gb286, 1, none⟩ = some (.int .i64 a0_1) := (blk_cell BK286.out 1).trans rfl; have hcz14_2 : w4.cell? ⟨gb286, 2, none⟩ = some (.slice A0_2 l0_2.length c0_2) := (blk_cell BK286.out 2).trans rfl; have hfz14_0 := blk_frozen BK286.out 0; have hfz14_1 := blk_frozen BK286.out 1; have hfz14_2 := blk_frozen BK286.out 2
      iterate 3 (try go_wp2_with (first | (go_at_call 78; (with_reducible refine (impl_zlist.calls k _ _ l1 true _ ?side1 ?side2 A5.out).mono ?_); (case side1 => repeat (first | exact (Kd.C_below HR1.out HB.out) | (with_reducible refine Kd.C_alloc ?_ _) | (with_reducible refine Kd.C_drewN ?_ _) | (with_reducible refine Kd.C_drew ?_))); (case side2 => exact HC1.out); rintro e w' ⟨rfl, ⟨nd, rfl⟩⟩; (try first | exact ⟨rfl, _, World.drewN_drewN _ _ _⟩ | exact ⟨rfl, _, Eq.trans (World.drewN_drewN _ _ _) (congrArg (World.drewN _) (Nat.add_assoc _ _ _))⟩)) | (go_at_call 80; (with_reducible refine (impl_zfits.calls a0_0 a0_1 (l1.length : Int) true _ A7.out).mono ?_); rintro e w' ⟨rfl, ⟨nd, rfl⟩⟩; (try first | exact ⟨rfl, _, World.drewN_drewN _ _ _⟩ | exact ⟨rfl, _, Eq.trans (World.drewN_drewN _ _ _) (congrArg (World.drewN _) (Nat.add_assoc _ _ _))⟩))); try go_quiet (first | (go_at_call 78; (with_reducible refine (impl_zlist.calls k _ _ l1 true _ ?side1 ?side2 A5.out).mono ?_); (case side1 => repeat (first | exact (Kd.C_below HR1.out HB.out) | (with_reducible refine Kd.C_alloc ?_ _) | (with_reducible refine Kd.C_drewN ?_ _) | (with_reducible refine Kd.C_drew ?_))); (case side2 => exact HC1.out); rintro e w' ⟨rfl, ⟨nd, rfl⟩⟩; (try first | exact ⟨rfl, _, World.drewN_drewN _ _ _⟩ | exact ⟨rfl, _, Eq.trans (World.drewN_drewN _ _ _) (congrArg (World.drewN _) (Nat.add_assoc _ _ _))⟩)) | (go_at_call 80; (with_reducible refine (impl_zfits.calls a0_0 a0_1 (l1.length : Int) true _ A7.out).mono ?_); rintro e w' ⟨rfl, ⟨nd, rfl⟩⟩; (try first | exact ⟨rfl, _, World.drewN_drewN _ _ _⟩ | exact ⟨rfl, _, Eq.trans (World.drewN_drewN _ _ _) (congrArg (World.drewN _) (Nat.add_assoc _ _ _))⟩))))
      go_meet
      case rel => exact ⟨_, (true), (by first | rfl | (simp; done) | (simp [*]; done)), H', ⟨by first | omega | exact Nat.le_refl _⟩, ⟨by (with_reducible repeat (first | refine blk_drewN ?_ _ | refine blk_drew ?_ | refine blk_alloc ?_ _)); exact BK286.out⟩, ⟨by repeat (first | (with_reducible first | exact HB.out | apply below_alloc | apply pw_below_drewN | apply below_drew1 | refine below_set ?_ GE286.out) | exact HB.out)⟩⟩
    rw [if_pos c11] at H
    have c11b0 : ((l0_2.length : Int) == (ji10)) = true := beq_iff_eq.mpr c11
    have c11b1 : ((l0_2.length : Int) != (ji10)) = false := bne_eq_false_iff_eq.mpr c11
    clear c11
    (first | rw [c11b0] | (simp only [i64_w, i32_w]; rw [c11b0]) | skip)
    replace H := Option.bind_eq_some_iff.mp H
    obtain ⟨t289, A120, H⟩ := H
    replace H : (impl_PlanCost.j0 k l1 (!t289) a0_0 a0_1 l0_2) = some r := H
    have A12 := Aside0.mk A120
    clear A120
    have H' := Aside0.mk H
    clear H
    have hcz13_0 : w4.cell? ⟨gb286, 0, none⟩ = some (.int .i64 a0_0) := (blk_cell BK286.out 0).trans rfl; have hcz13_1 : w4.cell? ⟨gb286, 1, none⟩ = some (.int .i64 a0_1) := (blk_cell BK286.out 1).trans rfl; have hcz13_2 : w4.cell? ⟨gb286, 2, none⟩ = some (.slice A0_2 l0_2.length c0_2) := (blk_cell BK286.out 2).trans rfl; have hfz13_0 := blk_frozen BK286.out 0; have hfz13_1 := blk_frozen BK286.out 1; have hfz13_2 := blk_frozen BK286.out 2
    iterate 3 (try go_wp2_with (first | (go_at_call 78; (with_reducible refine (impl_zlist.calls k _ _ l1 true _ ?side1 ?side2 A5.out).mono ?_); (case side1 => repeat (first | exact (Kd.C_below HR1.out HB.out) | (with_reducible refine Kd.C_alloc ?_ _) | (with_reducible refine Kd.C_drewN ?_ _) | (with_reducible refine Kd.C_drew ?_))); (case side2 => exact HC1.out); rintro e w' ⟨rfl, ⟨nd, rfl⟩⟩; (try first | exact ⟨rfl, _, World.drewN_drewN _ _ _⟩ | exact ⟨rfl, _, Eq.trans (World.drewN_drewN _ _ _) (congrArg (World.drewN _) (Nat.add_assoc _ _ _))⟩)) | (go_at_call 80; (with_reducible refine (impl_zfits.calls a0_0 a0_1 (l1.length : Int) true _ A7.out).mono ?_); rintro e w' ⟨rfl, ⟨nd, rfl⟩⟩; (try first | exact ⟨rfl, _, World.drewN_drewN _ _ _⟩ | exact ⟨rfl, _, Eq.trans (World.drewN_drewN _ _ _) (congrArg (World.drewN _) (Nat.add_assoc _ _ _))⟩)) | (go_at_call 156; (with_reducible refine (impl_zrange.calls k _ _ l0_2 0 25 16 t289 _ ?side1 ?side2 A12.out).mono ?_); (case side1 => repeat (first | exact (Kd.C_below HR0_2.out (by repeat (first | (with_reducible first | exact HB.out | apply below_alloc | apply pw_below_drewN | apply below_drew1 | refine below_set ?_ GE286.out) | exact HB.out))) | (with_reducible refine Kd.C_alloc ?_ _) | (with_reducible refine Kd.C_drewN ?_ _) | (with_reducible refine Kd.C_drew ?_))); (case side2 => exact HC0_2.out); rintro e w' ⟨rfl, ⟨nd, rfl⟩⟩; (try first | exact ⟨rfl, _, World.drewN_drewN _ _ _⟩ | exact ⟨rfl, _, Eq.trans (World.drewN_drewN _ _ _) (congrArg (World.drewN _) (Nat.add_assoc _ _ _))⟩))); try go_quiet (first | (go_at_call 78; (with_reducible refine (impl_zlist.calls k _ _ l1 true _ ?side1 ?side2 A5.out).mono ?_); (case side1 => repeat (first | exact (Kd.C_below HR1.out HB.out) | (with_reducible refine Kd.C_alloc ?_ _) | (with_reducible refine Kd.C_drewN ?_ _) | (with_reducible refine Kd.C_drew ?_))); (case side2 => exact HC1.out); rintro e w' ⟨rfl, ⟨nd, rfl⟩⟩; (try first | exact ⟨rfl, _, World.drewN_drewN _ _ _⟩ | exact ⟨rfl, _, Eq.trans (World.drewN_drewN _ _ _) (congrArg (World.drewN _) (Nat.add_assoc _ _ _))⟩)) | (go_at_call 80; (with_reducible refine (impl_zfits.calls a0_0 a0_1 (l1.length : Int) true _ A7.out).mono ?_); rintro e w' ⟨rfl, ⟨nd, rfl⟩⟩; (try first | exact ⟨rfl, _, World.drewN_drewN _ _ _⟩ | exact ⟨rfl, _, Eq.trans (World.drewN_drewN _ _ _) (congrArg (World.drewN _) (Nat.add_assoc _ _ _))⟩)) | (go_at_call 156; (with_reducible refine (impl_zrange.calls k _ _ l0_2 0 25 16 t289 _ ?side1 ?side2 A12.out).mono ?_); (case side1 => repeat (first | exact (Kd.C_below HR0_2.out (by repeat (first | (with_reducible first | exact HB.out | apply below_alloc | apply pw_below_drewN | apply below_drew1 | refine below_set ?_ GE286.out) | exact HB.out))) | (with_reducible refine Kd.C_alloc ?_ _) | (with_reducible refine Kd.C_drewN ?_ _) | (with_reducible refine Kd.C_drew ?_))); (case side2 => exact HC0_2.out); rintro e w' ⟨rfl, ⟨nd, rfl⟩⟩; (try first | exact ⟨rfl, _, World.drewN_drewN _ _ _⟩ | exact ⟨rfl, _, Eq.trans (World.drewN_drewN _ _ _) (congrArg (World.drewN _) (Nat.add_assoc _ _ _))⟩))))
    go_meet
    case rel => exact ⟨_, (!t289), (by first | rfl | (simp; done) | (simp [*]; done)), H', ⟨by first | omega | exact Nat.le_refl _⟩, ⟨by (with_reducible repeat (first | refine blk_drewN ?_ _ | refine blk_drew ?_ | refine blk_alloc ?_ _)); exact BK286.out⟩, ⟨by repeat (first | (with_reducible first | exact HB.out | apply below_alloc | apply pw_below_drewN | apply below_drew1 | refine below_set ?_ GE286.out) | exact HB.out)⟩⟩
  case rest =>
    clear HC3
    try clear c1
    try clear p2
    try clear c6
    try clear p6
    try clear c7
    try clear c8
    try clear c9
    try clear c9b0
    try clear c9b1
    try clear c11
    try clear c11b0
    try clear c11b1
    try clear hcz13_0
    try clear hcz13_1
    try clear hcz13_2
    try clear hcz14_0
    try clear hcz14_1
    try clear hcz14_2
    try clear hcz15_0
    try clear hcz15_1
    try clear hcz15_2
    try clear hfz13_0
    try clear hfz13_1
    try clear hfz13_2
    try clear hfz14_0
    try clear hfz14_1
    try clear hfz14_2
    try clear hfz15_0
    try clear hfz15_1
    try clear hfz15_2
    obtain ⟨kq, x36_2, rfl, HA, HJ2, BK286, HB⟩ := hcut
    cases kq with
    | zero => exact absurd HA.out (by simp [impl_PlanCost.j0])
    | succ kj2 =>
      have H := HA.out
      clear HA
      simp only [impl_PlanCost.j0] at H
      by_cases c16 : x36_2 = true
      · subst c16
        have H1 : (some (-1)) = some r := by rw [if_pos rfl] at H; exact H
        clear H
        have H := H1
        clear H1
        obtain rfl := Option.some.inj H
        go_wp2
        repeat (go_quiet (fail); try go_wp2)
        go_ret
        exact ⟨by first | rfl | (simp [errW_none, errW_some] <;> rfl) | (simp [*, errW_none, errW_some] <;> rfl), by repeat (first | (with_reducible first | exact HB.out | apply below_alloc | apply pw_below_drewN | apply below_drew1 | refine below_set ?_ GE286.out) | exact HB.out)⟩
      replace c16 := Bool.eq_false_iff.mpr c16
      subst c16
      have H1 : ((impl_Residue.f kj2 a0_0 l1).bind fun t290 => (impl_PlanCost.l0 kj2 t290 (wrap64 (6 + (wrap64 (26 * a0_0)))) l0_2 (l0_2.length : Int) 0 a0_0 a0_1 l0_2)) = some r := by rw [if_neg (show ¬ (false = true) by decide)] at H; exact H
      clear H
      have H := H1
      clear H1
      replace H := Option.bind_eq_some_iff.mp H
      obtain ⟨t290, A170, H⟩ := H
      replace H : (impl_PlanCost.l0 kj2 t290 (wrap64 (6 + (wrap64 (26 * a0_0)))) l0_2 (l0_2.length : Int) 0 a0_0 a0_1 l0_2) = some r := H
      have A17 := Aside0.mk A170
      clear A170
      have H' := Aside0.mk H
      clear H
      have hcz18_0 : wc.cell? ⟨gb286, 0, none⟩ = some (.int .i64 a0_0) := (blk_cell BK286.out 0).trans rfl
      have hcz18_1 : wc.cell? ⟨gb286, 1, none⟩ = some (.int .i64 a0_1) := (blk_cell BK286.out 1).trans rfl
      have hcz18_2 : wc.cell? ⟨gb286, 2, none⟩ = some (.slice A0_2 l0_2.length c0_2) := (blk_cell BK286.out 2).trans rfl
      have hfz18_0 := blk_frozen BK286.out 0
      have hfz18_1 := blk_frozen BK286.out 1
      have hfz18_2 := blk_frozen BK286.out 2
      iterate 3 (try go_wp2_with (first | (go_at_call 79; (with_reducible refine (impl_Residue.calls kj2 a0_0 _ _ l1 t290 _ ?side1 ?side2 A17.out).mono ?_); (case side1 => repeat (first | exact (Kd.C_below HR1.out HB.out) | (with_reducible refine Kd.C_alloc ?_ _) | (with_reducible refine Kd.C_drewN ?_ _) | (with_reducible refine Kd.C_drew ?_))); (case side2 => exact HC1.out); rintro e w19 ⟨v291, rfl, ho0, hb⟩; have n0_ := Aside0.mk (Kd.R_lower ho0 (below_size (by repeat (first | (with_reducible first | exact HB.out | apply below_alloc | apply pw_below_drewN | apply below_drew1 | refine below_set ?_ GE286.out) | exact HB.out)))); have n1_ := Aside0.mk (blk_below (g := gb286) (o := .cells #[.int .i64 a0_0, .int .i64 a0_1, .slice A0_2 l0_2.length c0_2] 24 (0, 0)) (by (with_reducible repeat (first | refine blk_drewN ?_ _ | refine blk_drew ?_ | refine blk_alloc ?_ _)); exact BK286.out) hb); have n2_ := Aside0.mk (below_step (by repeat (first | (with_reducible first | exact HB.out | apply below_alloc | apply pw_below_drewN | apply below_drew1 | refine below_set ?_ GE286.out) | exact HB.out)) hb); clear BK286; clear HB; have HO292 := n0_; have BK286 := n1_; have HB := n2_; clear n0_ n1_ n2_; (try clear hb); (try clear hb2); (try clear hk); (try clear hi); (try clear ho0); have hcz20_0 : w19.cell? ⟨gb286, 0, none⟩ = some (.int .i64 a0_0) := (blk_cell BK286.out 0).trans rfl; have hcz20_1 : w19.cell? ⟨gb286, 1, none⟩ = some (.int .i64 a0_1) := (blk_cell BK286.out 1).trans rfl; have hcz20_2 : w19.cell? ⟨gb286, 2, none⟩ = some (.slice A0_2 l0_2.length c0_2) := (blk_cell BK286.out 2).trans rfl; have hfz20_0 := blk_frozen BK286.out 0; have hfz20_1 := blk_frozen BK286.out 1; have hfz20_2 := blk_frozen BK286.out 2)); try go_quiet (first | (go_at_call 79; (with_reducible refine (impl_Residue.calls kj2 a0_0 _ _ l1 t290 _ ?side1 ?side2 A17.out).mono ?_); (case side1 => repeat (first | exact (Kd.C_below HR1.out HB.out) | (with_reducible refine Kd.C_alloc ?_ _) | (with_reducible refine Kd.C_drewN ?_ _) | (with_reducible refine Kd.C_drew ?_))); (case side2 => exact HC1.out); rintro e w19 ⟨v291, rfl, ho0, hb⟩; have n0_ := Aside0.mk (Kd.R_lower ho0 (below_size (by repeat (first | (with_reducible first | exact HB.out | apply below_alloc | apply pw_below_drewN | apply below_drew1 | refine below_set ?_ GE286.out) | exact HB.out)))); have n1_ := Aside0.mk (blk_below (g := gb286) (o := .cells #[.int .i64 a0_0, .int .i64 a0_1, .slice A0_2 l0_2.length c0_2] 24 (0, 0)) (by (with_reducible repeat (first | refine blk_drewN ?_ _ | refine blk_drew ?_ | refine blk_alloc ?_ _)); exact BK286.out) hb); have n2_ := Aside0.mk (below_step (by repeat (first | (with_reducible first | exact HB.out | apply below_alloc | apply pw_below_drewN | apply below_drew1 | refine below_set ?_ GE286.out) | exact HB.out)) hb); clear BK286; clear HB; have HO292 := n0_; have BK286 := n1_; have HB := n2_; clear n0_ n1_ n2_; (try clear hb); (try clear hb2); (try clear hk); (try clear hi); (try clear ho0); have hcz20_0 : w19.cell? ⟨gb286, 0, none⟩ = some (.int .i64 a0_0) := (blk_cell BK286.out 0).trans rfl; have hcz20_1 : w19.cell? ⟨gb286, 1, none⟩ = some (.int .i64 a0_1) := (blk_cell BK286.out 1).trans rfl; have hcz20_2 : w19.cell? ⟨gb286, 2, none⟩ = some (.slice A0_2 l0_2.length c0_2) := (blk_cell BK286.out 2).trans rfl; have hfz20_0 := blk_frozen BK286.out 0; have hfz20_1 := blk_frozen BK286.out 1; have hfz20_2 := blk_frozen BK286.out 2)))
      go_loopg [6, 48] kj2 (fun kq v6 v48 w' => ∃ (x6_2 : Int) (x48_2 : Int), v6 = .int .i64 x6_2 ∧ v48 = .int .i64 x48_2 ∧ Aside0 (impl_PlanCost.l0 kq t290 x6_2 l0_2 (l0_2.length : Int) x48_2 a0_0 a0_1 l0_2 = some r) ∧ Aside0 (kq ≤ kj2) ∧ Aside0 (Kd.R (Kd.int .i64) 3 w' w.heap.size (fun _ => True) v291 t290) ∧ Aside0 (w'.heap[gb286]? = some (.cells #[.int .i64 a0_0, .int .i64 a0_1, (.slice A0_2 l0_2.length c0_2)] 24 (0, 0))) ∧ Aside0 (Below w.heap.size w w'))
      case atStart => exact ⟨(wrap64 (6 + (wrap64 (26 * a0_0)))), (0), (by first | rfl | (simp; done) | (simp [*]; done)), (by first | rfl | (simp; done) | (simp [*]; done)), H', ⟨Nat.le_refl _⟩, ⟨by (with_reducible repeat (first | apply Kd.R_alloc | apply Kd.R_drewN | apply Kd.R_drew)); exact HO292.out⟩, ⟨by (with_reducible repeat (first | refine blk_drewN ?_ _ | refine blk_drew ?_ | refine blk_alloc ?_ _)); exact BK286.out⟩, ⟨by repeat (first | (with_reducible first | exact HB.out | apply below_alloc | apply pw_below_drewN | apply below_drew1 | refine below_set ?_ GE286.out) | exact HB.out)⟩⟩
      case round =>
        clear H'
        try clear c1
        try clear p2
        try clear c6
        try clear p6
        try clear c7
        try clear c8
        try clear c9
        try clear c9b0
        try clear c9b1
        try clear c11
        try clear c11b0
        try clear c11b1
        try clear c16
        try clear hcz13_0
        try clear hcz13_1
        try clear hcz13_2
        try clear hcz14_0
        try clear hcz14_1
        try clear hcz14_2
        try clear hcz15_0
        try clear hcz15_1
        try clear hcz15_2
        try clear hcz18_0
        try clear hcz18_1
        try clear hcz18_2
        try clear hcz20_0
        try clear hcz20_1
        try clear hcz20_2
        try clear hfz13_0
        try clear hfz13_1
        try clear hfz13_2
        try clear hfz14_0
        try clear hfz14_1
        try clear hfz14_2
        try clear hfz15_0
        try clear hfz15_1
        try clear hfz15_2
        try clear hfz18_0
        try clear hfz18_1
        try clear hfz18_2
        try clear hfz20_0
        try clear hfz20_1
        try clear hfz20_2
        try clear p2
        try clear p6
        obtain ⟨x6_2, x48_2, rfl, rfl, HA, HK2, HO_5, BK286, HB⟩ := hrel
        cases gk with
        | zero => exact absurd HA.out (by simp [impl_PlanCost.l0])
        | succ k2 =>
          have H := HA.out
          clear HA
          simp only [impl_PlanCost.l0] at H
          by_cases c21 : x48_2 < (l0_2.length : Int)
          rotate_left
          · rw [if_neg c21] at H
            have c21b0 : decide (x48_2 < (l0_2.length : Int)) = false := decide_eq_false c21
            clear c21
            obtain rfl := Option.some.inj H
            go_wp2
            repeat (go_quiet (fail); try go_wp2)
            go_ret
            exact ⟨by first | rfl | (simp [errW_none, errW_some] <;> rfl) | (simp [*, errW_none, errW_some] <;> rfl), by repeat (first | (with_reducible first | exact HB.out | apply below_alloc | apply pw_below_drewN | apply below_drew1 | refine below_set ?_ GE286.out) | exact HB.out)⟩
          rw [if_pos c21] at H
          have c21b0 : decide (x48_2 < (l0_2.length : Int)) = true := decide_eq_true c21
          clear c21
          by_cases c22 : 0 ≤ x48_2
          rotate_left
          · rw [if_neg c22] at H
            exact absurd H (by simp)
          rw [if_pos c22] at H
          have c22b0 : decide (0 ≤ x48_2) = true := decide_eq_true c22
          clear c22
          by_cases c23 : x48_2 < (l0_2.length : Int)
          rotate_left
          · rw [if_neg c23] at H
            exact absurd H (by simp)
          rw [if_pos c23] at H
          have c23b0 : decide (x48_2 < (l0_2.length : Int)) = true := decide_eq_true c23
          clear c23
          replace H := Option.bind_eq_some_iff.mp H
          obtain ⟨t294, A240, H⟩ := H
          replace H : ((impl_zkeyCost.f k2 (rd l0_2 x48_2) t294).bind fun t297 => (impl_PlanCost.l0 k2 t290 (wrap64 (x6_2 + t297)) l0_2 (l0_2.length : Int) (wrap64 (x48_2 + 1)) a0_0 a0_1 l0_2)) = some r := H
          have A24 := Aside0.mk A240
          clear A240
          replace H := Option.bind_eq_some_iff.mp H
          obtain ⟨t297, A250, H⟩ := H
          replace H : (impl_PlanCost.l0 k2 t290 (wrap64 (x6_2 + t297)) l0_2 (l0_2.length : Int) (wrap64 (x48_2 + 1)) a0_0 a0_1 l0_2) = some r := H
          have A25 := Aside0.mk A250
          clear A250
          have H' := Aside0.mk H
          clear H
          have p293 : 0 ≤ (x48_2 : Int) := of_decide_eq_true (by first | (with_reducible assumption) | assumption)
          have q293 : x48_2 < (l0_2.length : Int) := of_decide_eq_true (by first | (with_reducible assumption) | assumption)
          obtain ⟨ad293, e293, hx293_0⟩ := Kd.at_int HR0_2.out x48_2 p293 q293
          cases e293
          replace hx293_0 := (HB.out.cell (World.block_lt_of_cell? w _ hx293_0)).trans hx293_0
          replace p293 := eq_true p293
          replace q293 := eq_true q293
          have hcz26_0 : wr.cell? ⟨gb286, 0, none⟩ = some (.int .i64 a0_0) := (blk_cell BK286.out 0).trans rfl
          have hcz26_1 : wr.cell? ⟨gb286, 1, none⟩ = some (.int .i64 a0_1) := (blk_cell BK286.out 1).trans rfl
          have hcz26_2 : wr.cell? ⟨gb286, 2, none⟩ = some (.slice (some ad293) l0_2.length c0_2) := (blk_cell BK286.out 2).trans rfl
          have hfz26_0 := blk_frozen BK286.out 0
          have hfz26_1 := blk_frozen BK286.out 1
          have hfz26_2 := blk_frozen BK286.out 2
          obtain ⟨Ao27, co27, eo27⟩ := Kd.R_slice HO_5.out
          subst eo27
          iterate 3 (try go_wp2_with (first | (go_at_call 81; (with_reducible refine (impl_zpart.calls a0_0 a0_1 (fun k_ => some k_ = (.slice Ao27 t290.length co27 : Value).ownBlock) _ _ t290 x48_2 t294 _ ?side1 A24.out).mono ?_); (case side1 => exact Kd.R_V (Kd.R_tight rfl (Kd.R_types (HO_5.out) BK286.out (by decide)))); rintro e w28 ⟨v295, rfl, ho0, hb⟩; have n0_ := Aside0.mk (Kd.R_below (by (with_reducible repeat (first | apply Kd.R_alloc | apply Kd.R_drewN | apply Kd.R_drew)); exact HO_5.out) hb); have n1_ := Aside0.mk (Kd.V_lower (Kd.V_mono (ok' := fun k_ => k_ ≠ gb286) ho0 (fun k_ hk_ => Or.elim hk_ (fun hs_ => ((Kd.R_types (HO_5.out) BK286.out (by decide)).1 k_ hs_.symm).2) (fun hn_ => (Kd.freshB (g := gb286) (o := .cells #[.int .i64 a0_0, .int .i64 a0_1, .slice (some ad293) l0_2.length c0_2] 24 (0, 0)) (by (with_reducible repeat (first | refine blk_drewN ?_ _ | refine blk_drew ?_ | refine blk_alloc ?_ _)); exact BK286.out) k_ hn_)))) (below_size (by repeat (first | (with_reducible first | exact HB.out | apply below_alloc | apply pw_below_drewN | apply below_drew1 | refine below_set ?_ GE286.out) | exact HB.out)))); have n2_ := Aside0.mk (blk_below (g := gb286) (o := .cells #[.int .i64 a0_0, .int .i64 a0_1, .slice (some ad293) l0_2.length c0_2] 24 (0, 0)) (by (with_reducible repeat (first | refine blk_drewN ?_ _ | refine blk_drew ?_ | refine blk_alloc ?_ _)); exact BK286.out) hb); have n3_ := Aside0.mk (below_step (by repeat (first | (with_reducible first | exact HB.out | apply below_alloc | apply pw_below_drewN | apply below_drew1 | refine below_set ?_ GE286.out) | exact HB.out)) hb); clear HO_5; clear BK286; clear HB; have HO_5 := n0_; have HO296 := n1_; have BK286 := n2_; have HB := n3_; clear n0_ n1_ n2_ n3_; (try clear hb); (try clear hb2); (try clear hk); (try clear hi); (try clear ho0); obtain ⟨Ao29, co29, eo29⟩ := Kd.V_slice HO296.out; subst eo29) | (go_at_call 82; (with_reducible refine (impl_zkeyCost.calls k2 (rd l0_2 x48_2) _ _ t294 t297 _ ?side1 ?side2 A25.out).mono ?_); (case side1 => repeat (first | exact (Kd.V_reads' HO296.out).2.2 | (with_reducible refine Kd.C_alloc ?_ _) | (with_reducible refine Kd.C_drewN ?_ _) | (with_reducible refine Kd.C_drew ?_))); (case side2 => exact (Kd.V_reads' HO296.out).2.1); rintro e w' ⟨rfl, ⟨nd, rfl⟩⟩; (try first | exact ⟨rfl, _, World.drewN_drewN _ _ _⟩ | exact ⟨rfl, _, Eq.trans (World.drewN_drewN _ _ _) (congrArg (World.drewN _) (Nat.add_assoc _ _ _))⟩))); try go_quiet (first | (go_at_call 81; (with_reducible refine (impl_zpart.calls a0_0 a0_1 (fun k_ => some k_ = (.slice Ao27 t290.length co27 : Value).ownBlock) _ _ t290 x48_2 t294 _ ?side1 A24.out).mono ?_); (case side1 => exact Kd.R_V (Kd.R_tight rfl (Kd.R_types (HO_5.out) BK286.out (by decide)))); rintro e w28 ⟨v295, rfl, ho0, hb⟩; have n0_ := Aside0.mk (Kd.R_below (by (with_reducible repeat (first | apply Kd.R_alloc | apply Kd.R_drewN | apply Kd.R_drew)); exact HO_5.out) hb); have n1_ := Aside0.mk (Kd.V_lower (Kd.V_mono (ok' := fun k_ => k_ ≠ gb286) ho0 (fun k_ hk_ => Or.elim hk_ (fun hs_ => ((Kd.R_types (HO_5.out) BK286.out (by decide)).1 k_ hs_.symm).2) (fun hn_ => (Kd.freshB (g := gb286) (o := .cells #[.int .i64 a0_0, .int .i64 a0_1, .slice (some ad293) l0_2.length c0_2] 24 (0, 0)) (by (with_reducible repeat (first | refine blk_drewN ?_ _ | refine blk_drew ?_ | refine blk_alloc ?_ _)); exact BK286.out) k_ hn_)))) (below_size (by repeat (first | (with_reducible first | exact HB.out | apply below_alloc | apply pw_below_drewN | apply below_drew1 | refine below_set ?_ GE286.out) | exact HB.out)))); have n2_ := Aside0.mk (blk_below (g := gb286) (o := .cells #[.int .i64 a0_0, .int .i64 a0_1, .slice (some ad293) l0_2.length c0_2] 24 (0, 0)) (by (with_reducible repeat (first | refine blk_drewN ?_ _ | refine blk_drew ?_ | refine blk_alloc ?_ _)); exact BK286.out) hb); have n3_ := Aside0.mk (below_step (by repeat (first | (with_reducible first | exact HB.out | apply below_alloc | apply pw_below_drewN | apply below_drew1 | refine below_set ?_ GE286.out) | exact HB.out)) hb); clear HO_5; clear BK286; clear HB; have HO_5 := n0_; have HO296 := n1_; have BK286 := n2_; have HB := n3_; clear n0_ n1_ n2_ n3_; (try clear hb); (try clear hb2); (try clear hk); (try clear hi); (try clear ho0); obtain ⟨Ao29, co29, eo29⟩ := Kd.V_slice HO296.out; subst eo29) | (go_at_call 82; (with_reducible refine (impl_zkeyCost.calls k2 (rd l0_2 x48_2) _ _ t294 t297 _ ?side1 ?side2 A25.out).mono ?_); (case side1 => repeat (first | exact (Kd.V_reads' HO296.out).2.2 | (with_reducible refine Kd.C_alloc ?_ _) | (with_reducible refine Kd.C_drewN ?_ _) | (with_reducible refine Kd.C_drew ?_))); (case side2 => exact (Kd.V_reads' HO296.out).2.1); rintro e w' ⟨rfl, ⟨nd, rfl⟩⟩; (try first | exact ⟨rfl, _, World.drewN_drewN _ _ _⟩ | exact ⟨rfl, _, Eq.trans (World.drewN_drewN _ _ _) (congrArg (World.drewN _) (Nat.add_assoc _ _ _))⟩))))
          go_roundg k2
          case measure => have := HJ2.out; have := HK2.out; omega
          case rel => exact ⟨(wrap64 (x6_2 + t297)), (wrap64 (x48_2 + 1)), (by first | rfl | (simp; done) | (simp [*]; done)), (by first | rfl | (simp; done) | (simp [*]; done)), H', ⟨by have := HJ2.out; have := HK2.out; omega⟩, ⟨by (with_reducible repeat (first | apply Kd.R_alloc | apply Kd.R_drewN | apply Kd.R_drew)); exact HO_5.out⟩, ⟨by (with_reducible repeat (first | refine blk_drewN ?_ _ | refine blk_drew ?_ | refine blk_alloc ?_ _)); exact BK286.out⟩, ⟨by repeat (first | (with_reducible first | exact HB.out | apply below_alloc | apply pw_below_drewN | apply below_drew1 | refine below_set ?_ GE286.out) | exact HB.out)⟩⟩

end Go.Proofs.Ytidblealnaicpaa.PFnPlan

-- written by myprint.py (a program of this session's over the kit's print)
import Derived.Test.YtidblealnaicpaaPFnSizesx0
import Derived.Test.YtidblealnaicpaaPFnSizesx1
import Derived.Test.YtidblealnaicpaaPFnSizesx2
namespace Go.Proofs.Ytidblealnaicpaa.PFnSizes
open Go.RowKit Go.Proofs.YtidblealnaicpaaW.PrintWords Go.Proofs.YtidblealnaicpaaW.PrintLast Go.Proofs.YtidblealnaicpaaW.PrintMore
attribute [local go_sem] max2_int min2_int max_two min_two max_three min_three max_four min_four   -- for this text's walks alone
set_option linter.unusedVariables false
set_option linter.unusedSimpArgs false

/-! ### spec_l7Plane: function 129 -/
def spec_l7Plane.j0 : Nat → List Int → Int → Int → Int → Int → List Int → Option (Int × Int × List Int × Int × Int)
 | 0, _, _, _, _, _, _ => none
 | k + 1, x2000, x2001, x2002, x164000, x164001, x164002 => (spec_l1Cur_pick.f x2000 x2001 x2002 16).bind fun bt175 => (if bt175.1 = 0 then ((spec_l1Cur_pick.f x2000 bt175.2.1 bt175.2.2 3).bind fun bt178 => (some (wrap64 (x164000 + (wrap64 (bt178.1 - 1))), x164001, x164002, bt178.2.1, bt178.2.2))) else (if bt175.1 = 1 then ((some (([(-1), 256] : List Int) : List Int)).bind fun y181 => ((spec_l1Cur_pick.f x2000 bt175.2.1 bt175.2.2 2).bind fun bt184 => (if 0 ≤ bt184.1 then (if bt184.1 < (y181.length : Int) then (if 0 < (x164002.length : Int) then (some (x164000, x164001, (x164002.set (0 : Int).toNat (rd y181 bt184.1)), bt184.2.1, bt184.2.2)) else (none)) else (none)) else (none)))) else (some (x164000, x164001, x164002, bt175.2.1, bt175.2.2))))
def spec_l7Plane.f (k : Nat) (l0 : List Int) (s1_0 : List Int) (s1_1 : Int) (s1_2 : Int) : Option (Int × Int × List Int × Int × Int) := (spec_l1Cur_plane.f k s1_0 s1_1 s1_2 9).bind fun bt156 => ((spec_l1Cur_one.f s1_0 bt156.2.2.2.1 bt156.2.2.2.2 3).bind fun bt164 => (if bt164.1 = true then ((spec_l1Size.f l0 10 30).bind fun t167 => ((spec_l1Cur_plane.f k s1_0 bt164.2.1 bt164.2.2 (wrap64 (1 + t167))).bind fun bt168 => (spec_l7Plane.j0 k s1_0 bt168.2.2.2.1 bt168.2.2.2.2 bt168.1 bt168.2.1 bt168.2.2.1))) else (spec_l7Plane.j0 k s1_0 bt164.2.1 bt164.2.2 bt156.1 bt156.2.1 bt156.2.2.1)))
theorem spec_l7Plane.mono_l : ∀ k, (∀ y0 y1 y2 y3 y4 y5, LeO (spec_l7Plane.j0 k y0 y1 y2 y3 y4 y5) (spec_l7Plane.j0 (k + 1) y0 y1 y2 y3 y4 y5))
 | 0 => fun _ _ _ _ _ _ r h => by simp [spec_l7Plane.j0] at h
 | k + 1 => by
  have ih0 := spec_l7Plane.mono_l k
  ·intro y0 y1 y2 y3 y4 y5
   unfold spec_l7Plane.j0
   repeat' first
   | (with_reducible exact ih0 _ _ _ _ _ _)
   | (with_reducible exact spec_l1Cur_plane.mono _ _ _ _ _)
   | (with_reducible exact LeO.refl _)
   | (with_reducible exact LeO.none _)
   | (with_reducible refine LeO.ite ?_ ?_)
   | (with_reducible refine LeO.bind ?_ (fun _ => ?_))
   | exact ih0 _ _ _ _ _ _
   | exact spec_l1Cur_plane.mono _ _ _ _ _
   | exact LeO.none _
   | refine LeO.ite ?_ ?_
   | refine LeO.bind ?_ (fun _ => ?_)
theorem spec_l7Plane.mono : ∀ a0 a1 a2 a3 k, LeO (spec_l7Plane.f k a0 a1 a2 a3) (spec_l7Plane.f (k + 1) a0 a1 a2 a3) := by
 intro a0 a1 a2 a3 k
 have ih0 := spec_l7Plane.mono_l k
 unfold spec_l7Plane.f
 repeat' first
   | (with_reducible exact ih0 _ _ _ _ _ _)
   | (with_reducible exact spec_l1Cur_plane.mono _ _ _ _ _)
   | (with_reducible exact LeO.refl _)
   | (with_reducible exact LeO.none _)
   | (with_reducible refine LeO.ite ?_ ?_)
   | (with_reducible refine LeO.bind ?_ (fun _ => ?_))
   | exact ih0 _ _ _ _ _ _
   | exact spec_l1Cur_plane.mono _ _ _ _ _
   | exact LeO.none _
   | refine LeO.ite ?_ ?_
   | refine LeO.bind ?_ (fun _ => ?_)
def spec_l7Plane.T6 : Bool × List (List Nat × List Nat) := (true, [([], []), ([0], [0]), ([], []), ([2], [2]), ([3], [3]), ([1, 4], [1, 4]), ([0, 1, 2, 3, 4, 5], []), ([6, 5, 3, 0, 1, 2, 3, 4, 5], [5, 6])])
def spec_l7Plane.B6 : List Nat := [0, 1, 0, 4, 12, 31, 63, 127]
theorem spec_l7Plane.tab6 : rtab .any (opsOf Try.f129 6) = spec_l7Plane.T6 := by kernel_rfl
theorem spec_l7Plane.bits6 : waitsOk spec_l7Plane.T6.2 spec_l7Plane.B6 = true := by kernel_rfl
def spec_l7Plane.T8 : Bool × List (List Nat × List Nat) := (true, [([], []), ([0], [0]), ([], []), ([], []), ([3], [3]), ([2, 4], [2, 4]), ([5], [5]), ([1, 0, 1, 2, 3, 4, 5, 6], [1]), ([7, 6, 4, 0, 1, 2, 3, 4, 5, 6], [6, 7])])
def spec_l7Plane.B8 : List Nat := [0, 1, 0, 0, 8, 28, 60, 127, 255]
theorem spec_l7Plane.tab8 : rtab .any (opsOf Try.f129 8) = spec_l7Plane.T8 := by kernel_rfl
theorem spec_l7Plane.bits8 : waitsOk spec_l7Plane.T8.2 spec_l7Plane.B8 = true := by kernel_rfl
set_option maxHeartbeats 8000000 in
set_option maxRecDepth 100000 in
theorem spec_l7Plane.calls (k : Nat) (A0 : Option Addr) (c0 : Nat) (l0 : List Int) (g : Nat) (s1_0 : List Int) (s1_1 : Int) (s1_2 : Int) (r1 : Int) (r2 : Int) (r3 : List Int) (r4 : Int) (r5 : Int) (w0 w : World) (hI : IsS156 w0 w g s1_0 s1_1 s1_2) (hB : Below w0.heap.size w0 w) (hr0 : Kd.C (Kd.int .u8) w A0 l0.length l0) (hc0 : l0.length ≤ c0) (hf0 : ∀ ad, A0 = some ad → 0 < l0.length → ad.block ≠ g) (h : spec_l7Plane.f k l0 s1_0 s1_1 s1_2 = some (r1, r2, r3, r4, r5)) :
  Calls Try.prog 129 #[.slice A0 l0.length c0, .pointer (some ⟨g, 0, none⟩)] w fun e w' => ∃ v2_ : Value, e = .returned (.agg #[.int .i64 r1, .int .i64 r2, v2_]) ∧ Kd.R (Kd.int .i64) 3 w' w.heap.size (fun _ => True) v2_ r3 ∧ IsS156 w0 w' g s1_0 r4 r5 ∧ Below w0.heap.size w0 w' ∧ KeepBut w w' g none := by
 have hu82 := Try.underlying82
 have HR0 := Zam hr0
 have HC0 := Zam hc0
 clear hr0 hc0
 have HI1 := Zam hI
 have HK := Zam (KeepBut.refl w g none)
 have HL := Zam hB.size
 clear hI
 have HW0 := Zam hB.size
 have HB := Zam hB
 clear hB
 have H : ((spec_l1Cur_plane.f k s1_0 s1_1 s1_2 9).bind fun bt156 => ((spec_l1Cur_one.f s1_0 bt156.2.2.2.1 bt156.2.2.2.2 3).bind fun bt164 => (if bt164.1 = true then ((spec_l1Size.f l0 10 30).bind fun t167 => ((spec_l1Cur_plane.f k s1_0 bt164.2.1 bt164.2.2 (wrap64 (1 + t167))).bind fun bt168 => (spec_l7Plane.j0 k s1_0 bt168.2.2.2.1 bt168.2.2.2.2 bt168.1 bt168.2.1 bt168.2.2.1))) else (spec_l7Plane.j0 k s1_0 bt164.2.1 bt164.2.2 bt156.1 bt156.2.1 bt156.2.2.1)))) = some (r1, r2, r3, r4, r5) := h
 clear h
 replace H := Zob.mp H
 obtain ⟨⟨t156, t157, t158, t161, t162⟩, A30, H⟩ := H
 replace H : ((spec_l1Cur_one.f s1_0 t161 t162 3).bind fun bt164 => (if bt164.1 = true then ((spec_l1Size.f l0 10 30).bind fun t167 => ((spec_l1Cur_plane.f k s1_0 bt164.2.1 bt164.2.2 (wrap64 (1 + t167))).bind fun bt168 => (spec_l7Plane.j0 k s1_0 bt168.2.2.2.1 bt168.2.2.2.2 bt168.1 bt168.2.1 bt168.2.2.1))) else (spec_l7Plane.j0 k s1_0 bt164.2.1 bt164.2.2 t156 t157 t158))) = some (r1, r2, r3, r4, r5) := H
 have A3 := Zam A30
 clear A30
 replace H := Zob.mp H
 obtain ⟨⟨t164, t165, t166⟩, A40, H⟩ := H
 replace H : (if t164 = true then ((spec_l1Size.f l0 10 30).bind fun t167 => ((spec_l1Cur_plane.f k s1_0 t165 t166 (wrap64 (1 + t167))).bind fun bt168 => (spec_l7Plane.j0 k s1_0 bt168.2.2.2.1 bt168.2.2.2.2 bt168.1 bt168.2.1 bt168.2.2.1))) else (spec_l7Plane.j0 k s1_0 t165 t166 t156 t157 t158)) = some (r1, r2, r3, r4, r5) := H
 have A4 := Zam A40
 clear A40
 have HC5 := Zam H
 clear H
 go_enter Try.func129, Try.ntmps129
 go_upto_if 9 with (first | ((with_reducible refine gate_dst (N := 4) rfl ?_); refine box_event ?hg (N := 4) ?hd (cs := #[.int .i64 0, .int .i64 0, .slice none 0 0]) (t := 82) ?hr ?_; (case hd => rfl); (case hg => rfl); (case hr => first | (go_simp; done) | (go_simp; rfl)); intro gb155 hg w6 hbox hb; have n0_ := Zam (IsS156.below (by repeat (first | (with_reducible first | exact HI1.out | apply IsS156.alloc | apply IsS156.drewN | apply IsS156.drew | apply IsS156.set_1 | apply IsS156.set_2) | exact HI1.out)) hb); have n1_ := Zam (KeepBut.trans (by repeat (first | (with_reducible first | exact HK.out | apply KeepBut.set_ | apply keep_drewN | apply keep_drew | apply keep_alloc) | exact HK.out)) (KeepBut.of_below hb g none) (.inl rfl)); have n2_ := Zam (ZbS (by repeat (first | (with_reducible first | exact HB.out | apply ZhA | apply ZhW | apply ZhD | refine ZhS ?_ (IsS156.ge HI1.out)) | exact HB.out)) hb); have n3_ := Zam (hbox); have n4_ := Zam ((by rw [hg]; exact (keep_size (w := w) (g := g) (row := none) (by repeat (first | (with_reducible first | exact HK.out | apply KeepBut.set_ | apply keep_drewN | apply keep_drew | apply keep_alloc) | exact HK.out))) : w.heap.size ≤ gb155)); have n5_ := Zam ((Nat.le_trans HW0.out (by rw [hg]; exact (keep_size (w := w) (g := g) (row := none) (by repeat (first | (with_reducible first | exact HK.out | apply KeepBut.set_ | apply keep_drewN | apply keep_drew | apply keep_alloc) | exact HK.out))) : w.heap.size ≤ gb155) : w0.heap.size ≤ gb155)); have n6_ := Zam ((by rw [hg]; exact Nat.ne_of_lt (IsS156.lt (show IsS156 w0 _ g s1_0 s1_1 s1_2 from by repeat (first | (with_reducible first | exact HI1.out | apply IsS156.alloc | apply IsS156.drewN | apply IsS156.drew | apply IsS156.set_1 | apply IsS156.set_2) | exact HI1.out))) : g ≠ gb155)); have n7_ := Zam ((by rw [hg]; exact Nat.ne_of_gt (IsS156.lt (show IsS156 w0 _ g s1_0 s1_1 s1_2 from by repeat (first | (with_reducible first | exact HI1.out | apply IsS156.alloc | apply IsS156.drewN | apply IsS156.drew | apply IsS156.set_1 | apply IsS156.set_2) | exact HI1.out))) : gb155 ≠ g)); clear HI1 HK HB; have HI1 := n0_; have HK := n1_; have HB := n2_; have BK155 := n3_; have GW155 := n4_; have GE155 := n5_; have NB1_155 := n6_; have NB155_1 := n7_; clear n0_ n1_ n2_ n3_ n4_ n5_ n6_ n7_; clear hb hbox hg) | ((with_reducible refine gate_callee (f := 201) rfl ?_); refine goesL_ (some 7) rfl rfl Try.func201 (by kernel_rfl) rfl #[.pointer (some ⟨g, 0, none⟩), .int .i64 9] rfl (by (try simp only [Zm1, Zm2, Zm3]); first | done | rfl | (simp only [ZlL, ZlT]; rfl)) ?_; (with_reducible refine (spec_l1Cur_plane.calls k g s1_0 s1_1 s1_2 9 t156 t157 t158 t161 t162 w0 _ ?side1 ?side2 A3.out).mono ?_); (case side1 => repeat (first | (with_reducible first | exact HI1.out | apply IsS156.alloc | apply IsS156.drewN | apply IsS156.drew | apply IsS156.set_1 | apply IsS156.set_2 | refine IsS156.far ?_ NB1_155.out _) | exact HI1.out)); (case side2 => repeat (first | (with_reducible first | exact HB.out | apply ZhA | apply ZhW | apply ZhD | refine ZhS ?_ (IsS156.ge HI1.out) | refine ZhS ?_ GE155.out) | exact HB.out)); rintro e w7 ⟨v159, rfl, ho0, hi, hb, hk⟩; refine ⟨_, rfl, ?_⟩; have n0_ := Zam (KeepBut.blk hk (g' := gb155) (o := .cells #[.int .i64 0, .int .i64 0, .slice none 0 0] 82 (0, 0)) (by (with_reducible repeat (first | refine ZbW ?_ _ | refine ZbD ?_ | refine ZbA ?_ _)); exact BK155.out) NB155_1.out (by simp)); have n1_ := Zam (Kd.R_lower ho0 (keep_size (w := w) (g := g) (row := none) (by repeat (first | (with_reducible first | exact HK.out | apply KeepBut.set_ | apply keep_drewN | apply keep_drew | apply keep_alloc | refine keep_far ?_ GW155.out _) | exact HK.out)))); have n2_ := Zam (KeepBut.trans (by repeat (first | (with_reducible first | exact HK.out | apply KeepBut.set_ | apply keep_drewN | apply keep_drew | apply keep_alloc | refine keep_far ?_ GW155.out _) | exact HK.out)) hk (.inl rfl)); have n3_ := Zam (hb); have n4_ := Zam (hi); clear BK155 HK HB HI1; have BK155 := n0_; have HO160 := n1_; have HK := n2_; have HB := n3_; have HI1 := n4_; clear n0_ n1_ n2_ n3_ n4_; (try clear hb); (try clear hb2); (try clear hk); (try clear hi); (try clear ho0)) | ((with_reducible refine gate_dst (N := 5) rfl ?_); refine box_event ?hg (N := 5) ?hd (cs := #[.int .i64 0, .int .i64 0, .slice none 0 0]) (t := 82) ?hr ?_; (case hd => rfl); (case hg => rfl); (case hr => first | (go_simp; done) | (go_simp; rfl)); intro gb163 hg w8 hbox hb; have n0_ := Zam (Kd.R_below (by (with_reducible repeat (first | apply ZrA | apply ZrW | apply ZrD)); exact HO160.out) hb); have n1_ := Zam (IsS156.below (by repeat (first | (with_reducible first | exact HI1.out | apply IsS156.alloc | apply IsS156.drewN | apply IsS156.drew | apply IsS156.set_1 | apply IsS156.set_2 | refine IsS156.far ?_ NB1_155.out _) | exact HI1.out)) hb); have n2_ := Zam (ZbB (g := gb155) (o := .cells #[.int .i64 0, .int .i64 0, .slice none 0 0] 82 (0, 0)) (by (with_reducible repeat (first | refine ZbW ?_ _ | refine ZbD ?_ | refine ZbA ?_ _)); exact BK155.out) hb); have n3_ := Zam (KeepBut.trans (by repeat (first | (with_reducible first | exact HK.out | apply KeepBut.set_ | apply keep_drewN | apply keep_drew | apply keep_alloc | refine keep_far ?_ GW155.out _) | exact HK.out)) (KeepBut.of_below hb g none) (.inl rfl)); have n4_ := Zam (ZbS (by repeat (first | (with_reducible first | exact HB.out | apply ZhA | apply ZhW | apply ZhD | refine ZhS ?_ (IsS156.ge HI1.out) | refine ZhS ?_ GE155.out) | exact HB.out)) hb); have n5_ := Zam (hbox); have n6_ := Zam ((by rw [hg]; exact (keep_size (w := w) (g := g) (row := none) (by repeat (first | (with_reducible first | exact HK.out | apply KeepBut.set_ | apply keep_drewN | apply keep_drew | apply keep_alloc | refine keep_far ?_ GW155.out _) | exact HK.out))) : w.heap.size ≤ gb163)); have n7_ := Zam ((Nat.le_trans HW0.out (by rw [hg]; exact (keep_size (w := w) (g := g) (row := none) (by repeat (first | (with_reducible first | exact HK.out | apply KeepBut.set_ | apply keep_drewN | apply keep_drew | apply keep_alloc | refine keep_far ?_ GW155.out _) | exact HK.out))) : w.heap.size ≤ gb163) : w0.heap.size ≤ gb163)); have n8_ := Zam ((by rw [hg]; exact Nat.ne_of_lt (blk_lt (g := gb155) (o := .cells #[.int .i64 0, .int .i64 0, .slice none 0 0] 82 (0, 0)) (by (with_reducible repeat (first | refine ZbW ?_ _ | refine ZbD ?_ | refine ZbA ?_ _)); exact BK155.out)) : gb155 ≠ gb163)); have n9_ := Zam ((by rw [hg]; exact Nat.ne_of_gt (blk_lt (g := gb155) (o := .cells #[.int .i64 0, .int .i64 0, .slice none 0 0] 82 (0, 0)) (by (with_reducible repeat (first | refine ZbW ?_ _ | refine ZbD ?_ | refine ZbA ?_ _)); exact BK155.out)) : gb163 ≠ gb155)); have n10_ := Zam ((by rw [hg]; exact Nat.ne_of_lt (IsS156.lt (show IsS156 w0 _ g s1_0 t161 t162 from by repeat (first | (with_reducible first | exact HI1.out | apply IsS156.alloc | apply IsS156.drewN | apply IsS156.drew | apply IsS156.set_1 | apply IsS156.set_2 | refine IsS156.far ?_ NB1_155.out _) | exact HI1.out))) : g ≠ gb163)); have n11_ := Zam ((by rw [hg]; exact Nat.ne_of_gt (IsS156.lt (show IsS156 w0 _ g s1_0 t161 t162 from by repeat (first | (with_reducible first | exact HI1.out | apply IsS156.alloc | apply IsS156.drewN | apply IsS156.drew | apply IsS156.set_1 | apply IsS156.set_2 | refine IsS156.far ?_ NB1_155.out _) | exact HI1.out))) : gb163 ≠ g)); clear HO160 HI1 BK155 HK HB; have HO160 := n0_; have HI1 := n1_; have BK155 := n2_; have HK := n3_; have HB := n4_; have BK163 := n5_; have GW163 := n6_; have GE163 := n7_; have NB155_163 := n8_; have NB163_155 := n9_; have NB1_163 := n10_; have NB163_1 := n11_; clear n0_ n1_ n2_ n3_ n4_ n5_ n6_ n7_ n8_ n9_ n10_ n11_; clear hb hbox hg; have hnb9 := NB163_155.out; have hnc9 := NB155_163.out; have hnb10 := NB163_1.out; have hnc10 := NB1_163.out; have hcz11_0 : w8.cell? ⟨gb163, 0, none⟩ = some (.int .i64 0) := (ZbC BK163.out 0).trans rfl; have hcz11_1 : w8.cell? ⟨gb163, 1, none⟩ = some (.int .i64 0) := (ZbC BK163.out 1).trans rfl; have hcz11_2 : w8.cell? ⟨gb163, 2, none⟩ = some (.slice none 0 0) := (ZbC BK163.out 2).trans rfl; have hfz11_0 := ZbF BK163.out 0; have hfz11_1 := ZbF BK163.out 1; have hfz11_2 := ZbF BK163.out 2; obtain ⟨Ao12, co12, eo12⟩ := Kd.R_slice HO160.out; subst eo12) | ((with_reducible refine gate_callee (f := 105) rfl ?_); refine goesL_ (some 9) rfl rfl Try.func105 (by kernel_rfl) rfl #[.pointer (some ⟨g, 0, none⟩), .int .i64 3] rfl (by (try simp only [Zm1, Zm2, Zm3]); first | done | rfl | (simp only [ZlL, ZlT]; rfl)) ?_; (with_reducible refine (spec_l1Cur_one.calls g s1_0 t161 t162 3 t164 t165 t166 w0 _ ?side1 ?side2 A4.out).mono ?_); (case side1 => repeat (first | (with_reducible first | exact HI1.out | apply IsS156.alloc | apply IsS156.drewN | apply IsS156.drew | apply IsS156.set_1 | apply IsS156.set_2 | refine IsS156.far ?_ NB1_155.out _ | refine IsS156.far ?_ NB1_163.out _) | exact HI1.out)); (case side2 => repeat (first | (with_reducible first | exact HB.out | apply ZhA | apply ZhW | apply ZhD | refine ZhS ?_ (IsS156.ge HI1.out) | refine ZhS ?_ GE155.out | refine ZhS ?_ GE163.out) | exact HB.out)); rintro e w13 ⟨rfl, hi, hb, hk⟩; refine ⟨_, rfl, ?_⟩; have n0_ := Zam (KeepBut.blk hk (g' := gb155) (o := .cells #[.int .i64 0, .int .i64 0, .slice none 0 0] 82 (0, 0)) (by (with_reducible repeat (first | refine ZbW ?_ _ | refine ZbD ?_ | refine ZbA ?_ _)); refine blk_far ?_ NB155_163.out _; (with_reducible repeat (first | refine ZbW ?_ _ | refine ZbD ?_ | refine ZbA ?_ _)); refine blk_far ?_ NB155_163.out _; (with_reducible repeat (first | refine ZbW ?_ _ | refine ZbD ?_ | refine ZbA ?_ _)); refine blk_far ?_ NB155_163.out _; (with_reducible repeat (first | refine ZbW ?_ _ | refine ZbD ?_ | refine ZbA ?_ _)); exact BK155.out) NB155_1.out (by simp)); have n1_ := Zam (Kd.R_mono (Kd.R_keep (IsS156.apart (show IsS156 w0 _ g s1_0 t161 t162 from by repeat (first | (with_reducible first | exact HI1.out | apply IsS156.alloc | apply IsS156.drewN | apply IsS156.drew | apply IsS156.set_1 | apply IsS156.set_2 | refine IsS156.far ?_ NB1_155.out _ | refine IsS156.far ?_ NB1_163.out _) | exact HI1.out)) (by (with_reducible repeat (first | apply ZrA | apply ZrW | apply ZrD)); exact (Kd.R_mono (set3_R (Kd.R_types HO160.out BK163.out (by decide)) (fun _ hk => hk.2)) (fun _ h_ => h_.1))) (by decide)) hk (fun _ h => h.2)) (fun _ h => h.1)); have n2_ := Zam (KeepBut.blk hk (g' := gb163) (o := .cells #[.int .i64 t156, .int .i64 t157, .slice Ao12 t158.length co12] 82 (0, 0)) (by (with_reducible repeat (first | refine ZbW ?_ _ | refine ZbD ?_ | refine ZbA ?_ _)); exact set3_blk (by (with_reducible repeat (first | refine ZbW ?_ _ | refine ZbD ?_ | refine ZbA ?_ _)); exact BK163.out)) NB163_1.out (by simp)); have n3_ := Zam (KeepBut.trans (by repeat (first | (with_reducible first | exact HK.out | apply KeepBut.set_ | apply keep_drewN | apply keep_drew | apply keep_alloc | refine keep_far ?_ GW155.out _ | refine keep_far ?_ GW163.out _) | exact HK.out)) hk (.inl rfl)); have n4_ := Zam (hb); have n5_ := Zam (hi); clear BK155 HO160 BK163 HK HB HI1; have BK155 := n0_; have HO160 := n1_; have BK163 := n2_; have HK := n3_; have HB := n4_; have HI1 := n5_; clear n0_ n1_ n2_ n3_ n4_ n5_; (try clear hb); (try clear hb2); (try clear hk); (try clear hi)))
 (try simp only [Act.put, Zl1, Zl2, Zl3])
 go_cut [] (fun wc => ∃ (kq : Nat) (x2001_4 : Int) (x2002_4 : Int) (x164000_4 : Int) (x164001_4 : Int) (x164002_4 : List Int) (u164002 : Value), Aside0 (spec_l7Plane.j0 kq s1_0 x2001_4 x2002_4 x164000_4 x164001_4 x164002_4 = some (r1, r2, r3, r4, r5)) ∧ Aside0 (kq ≤ k) ∧ Aside0 (Kd.R (Kd.int .i64) 3 wc w.heap.size (fun _ => True) u164002 x164002_4) ∧ Aside0 (wc.heap[gb155]? = some (.cells #[.int .i64 0, .int .i64 0, (.slice none 0 0)] 82 (0, 0))) ∧ Aside0 (wc.heap[gb163]? = some (.cells #[.int .i64 x164000_4, .int .i64 x164001_4, u164002] 82 (0, 0))) ∧ Aside0 (IsS156 w0 wc g s1_0 x2001_4 x2002_4) ∧ Aside0 (KeepBut w wc g none) ∧ Aside0 (Below w0.heap.size w0 wc))
 case first =>
  have H := HC5.out
  clear HC5
  by_cases c14 : t164 = true
  rotate_left
  ·replace c14 := Bool.eq_false_iff.mpr c14
   subst c14
   replace H : (spec_l7Plane.j0 k s1_0 t165 t166 t156 t157 t158) = some (r1, r2, r3, r4, r5) := by rw [if_neg (show ¬ (false = true) by decide)] at H; exact H
   have H' := Zam H
   clear H
   go_wp2
   go_meet
   case rel => exact ⟨_, (t165), (t166), (t156), (t157), (t158), (.slice Ao12 t158.length co12), H', ⟨by first | omega | exact Nat.le_refl _⟩, ⟨by (with_reducible repeat (first | apply ZrA | apply ZrW | apply ZrD)); exact HO160.out⟩, ⟨by (with_reducible repeat (first | refine ZbW ?_ _ | refine ZbD ?_ | refine ZbA ?_ _)); exact BK155.out⟩, ⟨by (with_reducible repeat (first | refine ZbW ?_ _ | refine ZbD ?_ | refine ZbA ?_ _)); exact BK163.out⟩, ⟨by repeat (first | (with_reducible first | exact HI1.out | apply IsS156.alloc | apply IsS156.drewN | apply IsS156.drew | apply IsS156.set_1 | apply IsS156.set_2 | refine IsS156.far ?_ NB1_155.out _ | refine IsS156.far ?_ NB1_163.out _) | exact HI1.out)⟩, ⟨by repeat (first | (with_reducible first | exact HK.out | apply KeepBut.set_ | apply keep_drewN | apply keep_drew | apply keep_alloc | refine keep_far ?_ GW155.out _ | refine keep_far ?_ GW163.out _) | exact HK.out)⟩, ⟨by repeat (first | (with_reducible first | exact HB.out | apply ZhA | apply ZhW | apply ZhD | refine ZhS ?_ (IsS156.ge HI1.out) | refine ZhS ?_ GE155.out | refine ZhS ?_ GE163.out) | exact HB.out)⟩⟩
  subst c14
  replace H : ((spec_l1Size.f l0 10 30).bind fun t167 => ((spec_l1Cur_plane.f k s1_0 t165 t166 (wrap64 (1 + t167))).bind fun bt168 => (spec_l7Plane.j0 k s1_0 bt168.2.2.2.1 bt168.2.2.2.2 bt168.1 bt168.2.1 bt168.2.2.1))) = some (r1, r2, r3, r4, r5) := by rw [if_pos rfl] at H; exact H
  replace H := Zob.mp H
  obtain ⟨t167, A150, H⟩ := H
  replace H : ((spec_l1Cur_plane.f k s1_0 t165 t166 (wrap64 (1 + t167))).bind fun bt168 => (spec_l7Plane.j0 k s1_0 bt168.2.2.2.1 bt168.2.2.2.2 bt168.1 bt168.2.1 bt168.2.2.1)) = some (r1, r2, r3, r4, r5) := H
  have A15 := Zam A150
  clear A150
  replace H := Zob.mp H
  obtain ⟨⟨t168, t169, t170, t173, t174⟩, A160, H⟩ := H
  replace H : (spec_l7Plane.j0 k s1_0 t173 t174 t168 t169 t170) = some (r1, r2, r3, r4, r5) := H
  have A16 := Zam A160
  clear A160
  have H' := Zam H
  clear H
  go_wp2_with (first | ((with_reducible refine gate_callee (f := 202) rfl ?_); refine goesL_ (some 12) rfl rfl Try.func202 (by kernel_rfl) rfl #[.slice A0 l0.length c0, .int .i64 10, .int .i64 30] rfl (by (try simp only [Zm1, Zm2, Zm3]); first | done | rfl | (simp only [ZlL, ZlT]; rfl)) ?_; (with_reducible refine (spec_l1Size.calls _ _ l0 10 30 t167 _ ?side1 ?side2 A15.out).mono ?_); (case side1 => exact Kd.C_keep 0 HR0.out (by repeat (first | (with_reducible first | exact HK.out | apply KeepBut.set_ | apply keep_drewN | apply keep_drew | apply keep_alloc | refine keep_far ?_ GW155.out _ | refine keep_far ?_ GW163.out _) | exact HK.out)) hf0); (case side2 => exact HC0.out); rintro e w' ⟨rfl, ⟨nd, rfl⟩⟩; refine ⟨_, rfl, ?_⟩; (try (rw [drewN_self w13]; generalize hq_ : World.drewN w13 _ = w13; have n0_ : Aside0 (Kd.R (Kd.int .i64) 3 w13 w.heap.size (fun _ => True) (.slice Ao12 t158.length co12) t158) := ⟨by rw [← hq_]; exact (by (with_reducible repeat (first | apply ZrA | apply ZrW | apply ZrD)); exact HO160.out)⟩; have n1_ : Aside0 (w13.heap[gb155]? = some (.cells #[.int .i64 0, .int .i64 0, .slice none 0 0] 82 (0, 0))) := ⟨by rw [← hq_]; exact (by (with_reducible repeat (first | refine ZbW ?_ _ | refine ZbD ?_ | refine ZbA ?_ _)); exact BK155.out)⟩; have n2_ : Aside0 (w13.heap[gb163]? = some (.cells #[.int .i64 t156, .int .i64 t157, .slice Ao12 t158.length co12] 82 (0, 0))) := ⟨by rw [← hq_]; exact (by (with_reducible repeat (first | refine ZbW ?_ _ | refine ZbD ?_ | refine ZbA ?_ _)); exact BK163.out)⟩; have n3_ : Aside0 (IsS156 w0 w13 g s1_0 t165 t166) := ⟨by rw [← hq_]; exact (by repeat (first | (with_reducible first | exact HI1.out | apply IsS156.alloc | apply IsS156.drewN | apply IsS156.drew | apply IsS156.set_1 | apply IsS156.set_2 | refine IsS156.far ?_ NB1_155.out _ | refine IsS156.far ?_ NB1_163.out _) | exact HI1.out))⟩; have n4_ : Aside0 (KeepBut w w13 g none) := ⟨by rw [← hq_]; exact (by repeat (first | (with_reducible first | exact HK.out | apply KeepBut.set_ | apply keep_drewN | apply keep_drew | apply keep_alloc | refine keep_far ?_ GW155.out _ | refine keep_far ?_ GW163.out _) | exact HK.out))⟩; have n5_ : Aside0 (Below w0.heap.size w0 w13) := ⟨by rw [← hq_]; exact (by repeat (first | (with_reducible first | exact HB.out | apply ZhA | apply ZhW | apply ZhD | refine ZhS ?_ (IsS156.ge HI1.out) | refine ZhS ?_ GE155.out | refine ZhS ?_ GE163.out) | exact HB.out))⟩; clear HO160 BK155 BK163 HI1 HK HB hq_; have HO160 := n0_; have BK155 := n1_; have BK163 := n2_; have HI1 := n3_; have HK := n4_; have HB := n5_; clear n0_ n1_ n2_ n3_ n4_ n5_))) | ((with_reducible refine gate_callee (f := 201) rfl ?_); refine goesL_ (some 14) rfl rfl Try.func201 (by kernel_rfl) rfl #[.pointer (some ⟨g, 0, none⟩), .int .i64 (wrap64 (1 + t167))] rfl (by (try simp only [Zm1, Zm2, Zm3]); first | done | rfl | (simp only [ZlL, ZlT]; rfl)) ?_; (with_reducible refine (spec_l1Cur_plane.calls k g s1_0 t165 t166 (wrap64 (1 + t167)) t168 t169 t170 t173 t174 w0 _ ?side1 ?side2 A16.out).mono ?_); (case side1 => repeat (first | (with_reducible first | exact HI1.out | apply IsS156.alloc | apply IsS156.drewN | apply IsS156.drew | apply IsS156.set_1 | apply IsS156.set_2 | refine IsS156.far ?_ NB1_155.out _ | refine IsS156.far ?_ NB1_163.out _) | exact HI1.out)); (case side2 => repeat (first | (with_reducible first | exact HB.out | apply ZhA | apply ZhW | apply ZhD | refine ZhS ?_ (IsS156.ge HI1.out) | refine ZhS ?_ GE155.out | refine ZhS ?_ GE163.out) | exact HB.out)); rintro e w17 ⟨v171, rfl, ho0, hi, hb, hk⟩; refine ⟨_, rfl, ?_⟩; have n0_ := Zam (KeepBut.blk hk (g' := gb155) (o := .cells #[.int .i64 0, .int .i64 0, .slice none 0 0] 82 (0, 0)) (by (with_reducible repeat (first | refine ZbW ?_ _ | refine ZbD ?_ | refine ZbA ?_ _)); exact BK155.out) NB155_1.out (by simp)); have n1_ := Zam (Kd.R_mono (Kd.R_told (Kd.R_oldK (IsS156.apart (show IsS156 w0 _ g s1_0 t165 t166 from by repeat (first | (with_reducible first | exact HI1.out | apply IsS156.alloc | apply IsS156.drewN | apply IsS156.drew | apply IsS156.set_1 | apply IsS156.set_2 | refine IsS156.far ?_ NB1_155.out _ | refine IsS156.far ?_ NB1_163.out _) | exact HI1.out)) (by (with_reducible repeat (first | apply ZrA | apply ZrW | apply ZrD)); exact HO160.out) (by decide)) hk) (Kd.R_base ho0)) (fun _ h_ => h_.1)); have n2_ := Zam (KeepBut.blk hk (g' := gb163) (o := .cells #[.int .i64 t156, .int .i64 t157, .slice Ao12 t158.length co12] 82 (0, 0)) (by (with_reducible repeat (first | refine ZbW ?_ _ | refine ZbD ?_ | refine ZbA ?_ _)); exact BK163.out) NB163_1.out (by simp)); have n3_ := Zam (Kd.R_lower (Kd.R_new' ho0 (Kd.R_lt (by (with_reducible repeat (first | apply ZrA | apply ZrW | apply ZrD)); exact HO160.out))) (keep_size (w := w) (g := g) (row := none) (by repeat (first | (with_reducible first | exact HK.out | apply KeepBut.set_ | apply keep_drewN | apply keep_drew | apply keep_alloc | refine keep_far ?_ GW155.out _ | refine keep_far ?_ GW163.out _) | exact HK.out)))); have n4_ := Zam (KeepBut.trans (by repeat (first | (with_reducible first | exact HK.out | apply KeepBut.set_ | apply keep_drewN | apply keep_drew | apply keep_alloc | refine keep_far ?_ GW155.out _ | refine keep_far ?_ GW163.out _) | exact HK.out)) hk (.inl rfl)); have n5_ := Zam (hb); have n6_ := Zam (hi); clear BK155 HO160 BK163 HK HB HI1; have BK155 := n0_; have HO160 := n1_; have BK163 := n2_; have HO172 := n3_; have HK := n4_; have HB := n5_; have HI1 := n6_; clear n0_ n1_ n2_ n3_ n4_ n5_ n6_; (try clear hb); (try clear hb2); (try clear hk); (try clear hi); (try clear ho0); have hnb18 := NB163_155.out; have hnc18 := NB155_163.out; have hnb19 := NB163_1.out; have hnc19 := NB1_163.out; have hcz20_0 : w17.cell? ⟨gb163, 0, none⟩ = some (.int .i64 t156) := (ZbC BK163.out 0).trans rfl; have hcz20_1 : w17.cell? ⟨gb163, 1, none⟩ = some (.int .i64 t157) := (ZbC BK163.out 1).trans rfl; have hcz20_2 : w17.cell? ⟨gb163, 2, none⟩ = some (.slice Ao12 t158.length co12) := (ZbC BK163.out 2).trans rfl; have hfz20_0 := ZbF BK163.out 0; have hfz20_1 := ZbF BK163.out 1; have hfz20_2 := ZbF BK163.out 2; obtain ⟨Ao21, co21, eo21⟩ := Kd.R_slice HO172.out; subst eo21))
  go_meet
  case rel => exact ⟨_, (t173), (t174), (t168), (t169), (t170), (.slice Ao21 t170.length co21), H', ⟨by first | omega | exact Nat.le_refl _⟩, ⟨by (with_reducible repeat (first | apply ZrA | apply ZrW | apply ZrD)); exact Kd.R_mono (set3_R (Kd.R_types HO172.out BK163.out (by decide)) (fun _ hk => hk.2)) (fun _ hk => trivial)⟩, ⟨by (with_reducible repeat (first | refine ZbW ?_ _ | refine ZbD ?_ | refine ZbA ?_ _)); refine blk_far ?_ NB155_163.out _; (with_reducible repeat (first | refine ZbW ?_ _ | refine ZbD ?_ | refine ZbA ?_ _)); refine blk_far ?_ NB155_163.out _; (with_reducible repeat (first | refine ZbW ?_ _ | refine ZbD ?_ | refine ZbA ?_ _)); refine blk_far ?_ NB155_163.out _; (with_reducible repeat (first | refine ZbW ?_ _ | refine ZbD ?_ | refine ZbA ?_ _)); exact BK155.out⟩, ⟨by (with_reducible repeat (first | refine ZbW ?_ _ | refine ZbD ?_ | refine ZbA ?_ _)); refine blk_put (cs := #[.int .i64 t168, .int .i64 t169, .slice Ao12 t158.length co12]) ?_ 2 _ rfl; (with_reducible repeat (first | refine ZbW ?_ _ | refine ZbD ?_ | refine ZbA ?_ _)); refine blk_put (cs := #[.int .i64 t168, .int .i64 t157, .slice Ao12 t158.length co12]) ?_ 1 _ rfl; (with_reducible repeat (first | refine ZbW ?_ _ | refine ZbD ?_ | refine ZbA ?_ _)); refine blk_put (cs := #[.int .i64 t156, .int .i64 t157, .slice Ao12 t158.length co12]) ?_ 0 _ rfl; (with_reducible repeat (first | refine ZbW ?_ _ | refine ZbD ?_ | refine ZbA ?_ _)); exact BK163.out⟩, ⟨by repeat (first | (with_reducible first | exact HI1.out | apply IsS156.alloc | apply IsS156.drewN | apply IsS156.drew | apply IsS156.set_1 | apply IsS156.set_2 | refine IsS156.far ?_ NB1_155.out _ | refine IsS156.far ?_ NB1_163.out _) | exact HI1.out)⟩, ⟨by repeat (first | (with_reducible first | exact HK.out | apply KeepBut.set_ | apply keep_drewN | apply keep_drew | apply keep_alloc | refine keep_far ?_ GW155.out _ | refine keep_far ?_ GW163.out _) | exact HK.out)⟩, ⟨by repeat (first | (with_reducible first | exact HB.out | apply ZhA | apply ZhW | apply ZhD | refine ZhS ?_ (IsS156.ge HI1.out) | refine ZhS ?_ GE155.out | refine ZhS ?_ GE163.out) | exact HB.out)⟩⟩
 case rest =>
  clear HC5
  try clear c1
  try clear c2
  try clear p2
  try clear p6
  try clear c9
  try clear c10
  try clear c12
  try clear c14
  try clear c18
  try clear c19
  try clear c20
  try clear hcz11_0
  try clear hcz11_1
  try clear hcz11_2
  try clear hcz20_0
  try clear hcz20_1
  try clear hcz20_2
  try clear hfz11_0
  try clear hfz11_1
  try clear hfz11_2
  try clear hfz20_0
  try clear hfz20_1
  try clear hfz20_2
  obtain ⟨kq, x2001_4, x2002_4, x164000_4, x164001_4, x164002_4, u164002, HA, HJ4, HO_164002, BK155, BK163, HI1, HK, HB⟩ := hcut
  cases kq with
  | zero => exact absurd HA.out (by simp [spec_l7Plane.j0])
  | succ kj4 =>
   have H := HA.out
   clear HA
   simp only [spec_l7Plane.j0] at H
   replace H := Zob.mp H
   obtain ⟨⟨t175, t176, t177⟩, A220, H⟩ := H
   replace H : (if t175 = 0 then ((spec_l1Cur_pick.f s1_0 t176 t177 3).bind fun bt178 => (some (wrap64 (x164000_4 + (wrap64 (bt178.1 - 1))), x164001_4, x164002_4, bt178.2.1, bt178.2.2))) else (if t175 = 1 then ((some (([(-1), 256] : List Int) : List Int)).bind fun y181 => ((spec_l1Cur_pick.f s1_0 t176 t177 2).bind fun bt184 => (if 0 ≤ bt184.1 then (if bt184.1 < (y181.length : Int) then (if 0 < (x164002_4.length : Int) then (some (x164000_4, x164001_4, (x164002_4.set (0 : Int).toNat (rd y181 bt184.1)), bt184.2.1, bt184.2.2)) else (none)) else (none)) else (none)))) else (some (x164000_4, x164001_4, x164002_4, t176, t177)))) = some (r1, r2, r3, r4, r5) := H
   have A22 := Zam A220
   clear A220
   by_cases c23 : t175 = 0
   ·rw [if_pos c23] at H
    have c23b0 : (t175 == 0) = true := beq_iff_eq.mpr c23
    have c23b1 : (t175 != 0) = false := bne_eq_false_iff_eq.mpr c23
    clear c23
    replace H := Zob.mp H
    obtain ⟨⟨t178, t179, t180⟩, A240, H⟩ := H
    replace H : (some (wrap64 (x164000_4 + (wrap64 (t178 - 1))), x164001_4, x164002_4, t179, t180)) = some (r1, r2, r3, r4, r5) := H
    have A24 := Zam A240
    clear A240
    simp only [Option.some.injEq, Prod.mk.injEq] at H
    obtain ⟨rfl, rfl, rfl, rfl, rfl⟩ := H
    try go_wp2_with (first | ((with_reducible refine gate_callee (f := 104) rfl ?_); refine goesL_ (some 16) rfl rfl Try.func104 (by kernel_rfl) rfl #[.pointer (some ⟨g, 0, none⟩), .int .i64 16] rfl (by (try simp only [Zm1, Zm2, Zm3]); first | done | rfl | (simp only [ZlL, ZlT]; rfl)) ?_; (with_reducible refine (spec_l1Cur_pick.calls g s1_0 x2001_4 x2002_4 16 t175 t176 t177 w0 _ ?side1 ?side2 A22.out).mono ?_); (case side1 => repeat (first | (with_reducible first | exact HI1.out | apply IsS156.alloc | apply IsS156.drewN | apply IsS156.drew | apply IsS156.set_1 | apply IsS156.set_2 | refine IsS156.far ?_ NB1_155.out _ | refine IsS156.far ?_ NB1_163.out _) | exact HI1.out)); (case side2 => repeat (first | (with_reducible first | exact HB.out | apply ZhA | apply ZhW | apply ZhD | refine ZhS ?_ (IsS156.ge HI1.out) | refine ZhS ?_ GE155.out | refine ZhS ?_ GE163.out) | exact HB.out)); rintro e w25 ⟨rfl, hi, hb, hk⟩; refine ⟨_, rfl, ?_⟩; have n0_ := Zam (Kd.R_mono (Kd.R_keep (IsS156.apart (show IsS156 w0 _ g s1_0 x2001_4 x2002_4 from by repeat (first | (with_reducible first | exact HI1.out | apply IsS156.alloc | apply IsS156.drewN | apply IsS156.drew | apply IsS156.set_1 | apply IsS156.set_2 | refine IsS156.far ?_ NB1_155.out _ | refine IsS156.far ?_ NB1_163.out _) | exact HI1.out)) (by (with_reducible repeat (first | apply ZrA | apply ZrW | apply ZrD)); exact HO_164002.out) (by decide)) hk (fun _ h => h.2)) (fun _ h => h.1)); have n1_ := Zam (KeepBut.blk hk (g' := gb155) (o := .cells #[.int .i64 0, .int .i64 0, .slice none 0 0] 82 (0, 0)) (by (with_reducible repeat (first | refine ZbW ?_ _ | refine ZbD ?_ | refine ZbA ?_ _)); exact BK155.out) NB155_1.out (by simp)); have n2_ := Zam (KeepBut.blk hk (g' := gb163) (o := .cells #[.int .i64 x164000_4, .int .i64 x164001_4, u164002] 82 (0, 0)) (by (with_reducible repeat (first | refine ZbW ?_ _ | refine ZbD ?_ | refine ZbA ?_ _)); exact BK163.out) NB163_1.out (by simp)); have n3_ := Zam (KeepBut.trans (by repeat (first | (with_reducible first | exact HK.out | apply KeepBut.set_ | apply keep_drewN | apply keep_drew | apply keep_alloc | refine keep_far ?_ GW155.out _ | refine keep_far ?_ GW163.out _) | exact HK.out)) hk (.inl rfl)); have n4_ := Zam (hb); have n5_ := Zam (hi); clear HO_164002 BK155 BK163 HK HB HI1; have HO_164002 := n0_; have BK155 := n1_; have BK163 := n2_; have HK := n3_; have HB := n4_; have HI1 := n5_; clear n0_ n1_ n2_ n3_ n4_ n5_; (try clear hb); (try clear hb2); (try clear hk); (try clear hi)))
    have n0_ := Zam (ZrD HO_164002.out)
    have n1_ := Zam (ZbD BK155.out)
    have n2_ := Zam (ZbD BK163.out)
    have n3_ := Zam (IsS156.drew HI1.out)
    have n4_ := Zam (keep_drew HK.out)
    have n5_ := Zam (ZhD HB.out)
    clear HO_164002
    clear BK155
    clear BK163
    clear HI1
    clear HK
    clear HB
    have HO_164002 := n0_
    have BK155 := n1_
    have BK163 := n2_
    have HI1 := n3_
    have HK := n4_
    have HB := n5_
    clear n0_ n1_ n2_ n3_ n4_ n5_
    refine start_ (n := 8) (S := fun w' => w'.cell? ⟨gb163, 0, none⟩ = some (.int .i64 x164000_4) ∧ w'.cell? ⟨gb163, 1, none⟩ = some (.int .i64 x164001_4) ∧ w'.cell? ⟨gb163, 2, none⟩ = some (u164002)) (ds := [7]) #[false, false, false, false, false, false, false, false] (by kernel_rfl) rfl rfl ⟨(ZbC BK163.out 0).trans rfl, (ZbC BK163.out 1).trans rfl, (ZbC BK163.out 2).trans rfl⟩ (fun hHeld => ?_); refine with_tabW spec_l7Plane.tab6 spec_l7Plane.bits6 (fun HT_ HW_ => ?_)
    generalize w25.drew = w26 at HO_164002 BK155 BK163 HI1 HK HB hHeld ⊢
    refine pure_ (i := 0) (N := some 19) (v := ?_) (a' := ?_) #[true, false, false, false, false, false, false, false] rfl rfl (any_of HT_.out (by kernel_rfl)) (fun _ _ _ h => h) (Or.inl ⟨by rfl, ?_⟩) ?_ ?_
    rotate_left
    ·intro w'
     go_simp
     with_reducible rfl
    rotate_left
    ·simp only [Act.put, Zl1, Zl2, Zl3, i64_w, i32_w]
     rfl
    refine pure_ (i := 2) (N := some 21) (v := ?_) (a' := ?_) #[true, false, true, false, false, false, false, false] rfl rfl (any_of HT_.out (by kernel_rfl)) (fun _ _ _ h => h) (Or.inl ⟨by rfl, ?_⟩) ?_ ?_
    rotate_left
    ·intro w'
     go_simp
     with_reducible rfl
    rotate_left
    ·simp only [Act.put, Zl1, Zl2, Zl3, i64_w, i32_w]
     rfl
    refine take_ (i := 1) (N := some 20) (v := ?_) (a' := ?_) #[true, true, true, false, false, false, false, false] rfl rfl (take_ofW HT_.out HW_.out (by kernel_rfl)) (fun _ _ _ h => h) (Or.inl ⟨by rfl, ?_⟩) hHeld ?_ ?_
    rotate_left
    ·rintro w' ⟨s0, s1, s2⟩
     go_simp
     with_reducible rfl
    rotate_left
    ·simp only [Act.put, Zl1, Zl2, Zl3, i64_w, i32_w]
     rfl
    refine one_ (i := 3) (N := some 22) #[true, true, true, true, false, false, false, false] rfl rfl (one_of HT_.out (by kernel_rfl)) (by decide) (fun K hK => ?_)
    refine goes_ Try.func104 (by kernel_rfl) rfl #[.pointer (some ⟨g, 0, none⟩), .int .i64 3] (by rfl) rfl rfl (by (try simp only [Zm1, Zm2, Zm3]); first | done | rfl | (simp only [ZlL, ZlT]; rfl)) ?_
    with_reducible refine (spec_l1Cur_pick.calls g s1_0 t176 t177 3 t178 t179 t180 w0 _ ?side1 ?side2 A24.out).mono ?_
    (case side1 => repeat (first | (with_reducible first | exact HI1.out | apply IsS156.alloc | apply IsS156.drewN | apply IsS156.drew | apply IsS156.set_1 | apply IsS156.set_2 | refine IsS156.far ?_ NB1_155.out _ | refine IsS156.far ?_ NB1_163.out _) | exact HI1.out))
    (case side2 => repeat (first | (with_reducible first | exact HB.out | apply ZhA | apply ZhW | apply ZhD | refine ZhS ?_ (IsS156.ge HI1.out) | refine ZhS ?_ GE155.out | refine ZhS ?_ GE163.out) | exact HB.out))
    rintro e w27 ⟨rfl, hi, hb, hk⟩
    refine ⟨_, rfl, ?_⟩
    have n0_ := Zam (Kd.R_mono (Kd.R_keep (IsS156.apart (show IsS156 w0 _ g s1_0 t176 t177 from by repeat (first | (with_reducible first | exact HI1.out | apply IsS156.alloc | apply IsS156.drewN | apply IsS156.drew | apply IsS156.set_1 | apply IsS156.set_2 | refine IsS156.far ?_ NB1_155.out _ | refine IsS156.far ?_ NB1_163.out _) | exact HI1.out)) (by (with_reducible repeat (first | apply ZrA | apply ZrW | apply ZrD)); exact HO_164002.out) (by decide)) hk (fun _ h => h.2)) (fun _ h => h.1))
    have n1_ := Zam (KeepBut.blk hk (g' := gb155) (o := .cells #[.int .i64 0, .int .i64 0, .slice none 0 0] 82 (0, 0)) (by (with_reducible repeat (first | refine ZbW ?_ _ | refine ZbD ?_ | refine ZbA ?_ _)); exact BK155.out) NB155_1.out (by simp))
    have n2_ := Zam (KeepBut.blk hk (g' := gb163) (o := .cells #[.int .i64 x164000_4, .int .i64 x164001_4, u164002] 82 (0, 0)) (by (with_reducible repeat (first | refine ZbW ?_ _ | refine ZbD ?_ | refine ZbA ?_ _)); exact BK163.out) NB163_1.out (by simp))
    have n3_ := Zam (KeepBut.trans (by repeat (first | (with_reducible first | exact HK.out | apply KeepBut.set_ | apply keep_drewN | apply keep_drew | apply keep_alloc | refine keep_far ?_ GW155.out _ | refine keep_far ?_ GW163.out _) | exact HK.out)) hk (.inl rfl))
    have n4_ := Zam (hb)
    have n5_ := Zam (hi)
    clear HO_164002
    clear BK155
    clear BK163
    clear HK
    clear HB
    clear HI1
    have HO_164002 := n0_
    have BK155 := n1_
    have BK163 := n2_
    have HK := n3_
    have HB := n4_
    have HI1 := n5_
    clear n0_ n1_ n2_ n3_ n4_ n5_
    (try clear hb)
    (try clear hb2)
    (try clear hk)
    (try clear hi)
    refine hK.out _ _ ⟨(ZbC BK163.out 0).trans rfl, (ZbC BK163.out 1).trans rfl, (ZbC BK163.out 2).trans rfl⟩ (fun hHeld => ?_)
    clear hK K
    refine norm_ (a' := ?_) ?_ ?_
    rotate_left
    ·show Act.put _ (some 22) _ = _
     simp only [Act.put, Zl1, Zl2, Zl3, i64_w, i32_w]
     rfl
    refine pure_ (i := 4) (N := some 23) (v := ?_) (a' := ?_) #[true, true, true, true, true, false, false, false] rfl rfl (any_of HT_.out (by kernel_rfl)) (fun _ _ _ h => h) (Or.inl ⟨by rfl, ?_⟩) ?_ ?_
    rotate_left
    ·intro w'
     go_simp
     with_reducible rfl
    rotate_left
    ·simp only [Act.put, Zl1, Zl2, Zl3, i64_w, i32_w]
     rfl
    refine pure_ (i := 5) (N := some 24) (v := ?_) (a' := ?_) #[true, true, true, true, true, true, false, false] rfl rfl (any_of HT_.out (by kernel_rfl)) (fun _ _ _ h => h) (Or.inl ⟨by rfl, ?_⟩) ?_ ?_
    rotate_left
    ·intro w'
     go_simp
     with_reducible rfl
    rotate_left
    ·simp only [Act.put, Zl1, Zl2, Zl3, i64_w, i32_w]
     rfl
    refine pure_ (i := 6) (N := some 25) (v := ?_) (a' := ?_) #[true, true, true, true, true, true, true, false] rfl rfl (any_of HT_.out (by kernel_rfl)) (fun _ _ _ h => h) (Or.inl ⟨by rfl, ?_⟩) ?_ ?_
    rotate_left
    ·intro w'
     go_simp
     with_reducible rfl
    rotate_left
    ·simp only [Act.put, Zl1, Zl2, Zl3, i64_w, i32_w]
     rfl
    refine last_ (i := 7) (N := none) #[true, true, true, true, true, true, true, true] rfl rfl (one_of HT_.out (by kernel_rfl)) (by decide) (fun K hK => ?_)
    have hs28 : w27.cell? ⟨gb163, 0, none⟩ = some (.int .i64 x164000_4) := (ZbC BK163.out 0).trans rfl
    have hfs28 := ZbF BK163.out 0
    have hns28_0 := NB155_163.out
    have hms28_0 := NB163_155.out
    refine skip_ (w1 := ?_) (by rfl) rfl ?_ ?_
    rotate_left
    ·go_simp
     rfl
    refine hK.out _ _ ?_
    clear hK K
    refine done_ (done_of HT_.out (by kernel_rfl)) ?_
    have hnb29 := NB163_155.out
    have hnc29 := NB155_163.out
    have hnb30 := NB163_1.out
    have hnc30 := NB1_163.out
    have hcz31_0 : w27.cell? ⟨gb163, 0, none⟩ = some (.int .i64 x164000_4) := (ZbC BK163.out 0).trans rfl
    have hcz31_1 : w27.cell? ⟨gb163, 1, none⟩ = some (.int .i64 x164001_4) := (ZbC BK163.out 1).trans rfl
    have hcz31_2 : w27.cell? ⟨gb163, 2, none⟩ = some (u164002) := (ZbC BK163.out 2).trans rfl
    have hfz31_0 := ZbF BK163.out 0
    have hfz31_1 := ZbF BK163.out 1
    have hfz31_2 := ZbF BK163.out 2
    have hnb32 := NB155_1.out
    have hnc32 := NB1_155.out
    have hcz33_0 : w27.cell? ⟨gb155, 0, none⟩ = some (.int .i64 0) := (ZbC BK155.out 0).trans rfl
    have hcz33_1 : w27.cell? ⟨gb155, 1, none⟩ = some (.int .i64 0) := (ZbC BK155.out 1).trans rfl
    have hcz33_2 : w27.cell? ⟨gb155, 2, none⟩ = some (.slice none 0 0) := (ZbC BK155.out 2).trans rfl
    have hfz33_0 := ZbF BK155.out 0
    have hfz33_1 := ZbF BK155.out 1
    have hfz33_2 := ZbF BK155.out 2
    obtain ⟨Ao34, co34, eo34⟩ := Kd.R_slice HO_164002.out
    subst eo34
    try go_wp2
    refine bodyPost_ret (results_cell_row rfl _ _ gb155 82 #[.int .i64 (wrap64 (x164000_4 + (wrap64 (t178 - 1)))), .int .i64 x164001_4, .slice Ao34 x164002_4.length co34] (0, 0) _ rfl (by (with_reducible repeat (first | refine ZbW ?_ _ | refine ZbD ?_ | refine ZbA ?_ _)); refine blk_put (cs := #[.int .i64 (wrap64 (x164000_4 + (wrap64 (t178 - 1)))), .int .i64 x164001_4, .slice none 0 0]) ?_ 2 _ rfl; (with_reducible repeat (first | refine ZbW ?_ _ | refine ZbD ?_ | refine ZbA ?_ _)); refine blk_put (cs := #[.int .i64 (wrap64 (x164000_4 + (wrap64 (t178 - 1)))), .int .i64 0, .slice none 0 0]) ?_ 1 _ rfl; (with_reducible repeat (first | refine ZbW ?_ _ | refine ZbD ?_ | refine ZbA ?_ _)); refine blk_put (cs := #[.int .i64 0, .int .i64 0, .slice none 0 0]) ?_ 0 _ rfl; (with_reducible repeat (first | refine ZbW ?_ _ | refine ZbD ?_ | refine ZbA ?_ _)); refine blk_far ?_ NB155_163.out _; (with_reducible repeat (first | refine ZbW ?_ _ | refine ZbD ?_ | refine ZbA ?_ _)); exact BK155.out) Try.underlying82 rfl (by kernel_rfl)) rfl ?_
    exact ⟨_, by first | rfl | (simp [*, errW_none, errW_some] <;> rfl), by (with_reducible repeat (first | apply ZrA | apply ZrW | apply ZrD)); exact Kd.R_mono (set3_R (Kd.R_far (p := ⟨gb163, 0, none⟩) (Kd.R_types (Kd.R_types HO_164002.out BK163.out (by decide)) BK155.out (by decide)) (fun _ hk => hk.1.2) (.int .i64 (wrap64 (x164000_4 + (wrap64 (t178 - 1)))))) (fun _ hk => hk.2)) (fun _ hk => trivial), by repeat (first | (with_reducible first | exact HI1.out | apply IsS156.alloc | apply IsS156.drewN | apply IsS156.drew | apply IsS156.set_1 | apply IsS156.set_2 | refine IsS156.far ?_ NB1_155.out _ | refine IsS156.far ?_ NB1_163.out _) | exact HI1.out), by repeat (first | (with_reducible first | exact HB.out | apply ZhA | apply ZhW | apply ZhD | refine ZhS ?_ (IsS156.ge HI1.out) | refine ZhS ?_ GE155.out | refine ZhS ?_ GE163.out) | exact HB.out), by repeat (first | (with_reducible first | exact HK.out | apply KeepBut.set_ | apply keep_drewN | apply keep_drew | apply keep_alloc | refine keep_far ?_ GW155.out _ | refine keep_far ?_ GW163.out _) | exact HK.out)⟩
   rw [if_neg c23] at H
   have c23b0 : (t175 == 0) = false := beq_eq_false_iff_ne.mpr c23
   have c23b1 : (t175 != 0) = true := bne_iff_ne.mpr c23
   by_cases c35 : t175 = 1
   rotate_left
   ·rw [if_neg c35] at H
    have c35b0 : (t175 == 1) = false := beq_eq_false_iff_ne.mpr c35
    have c35b1 : (t175 != 1) = true := bne_iff_ne.mpr c35
    simp only [Option.some.injEq, Prod.mk.injEq] at H
    obtain ⟨rfl, rfl, rfl, rfl, rfl⟩ := H
    go_wp2_with (first | ((with_reducible refine gate_callee (f := 104) rfl ?_); refine goesL_ (some 16) rfl rfl Try.func104 (by kernel_rfl) rfl #[.pointer (some ⟨g, 0, none⟩), .int .i64 16] rfl (by (try simp only [Zm1, Zm2, Zm3]); first | done | rfl | (simp only [ZlL, ZlT]; rfl)) ?_; (with_reducible refine (spec_l1Cur_pick.calls g s1_0 x2001_4 x2002_4 16 t175 t176 t177 w0 _ ?side1 ?side2 A22.out).mono ?_); (case side1 => repeat (first | (with_reducible first | exact HI1.out | apply IsS156.alloc | apply IsS156.drewN | apply IsS156.drew | apply IsS156.set_1 | apply IsS156.set_2 | refine IsS156.far ?_ NB1_155.out _ | refine IsS156.far ?_ NB1_163.out _) | exact HI1.out)); (case side2 => repeat (first | (with_reducible first | exact HB.out | apply ZhA | apply ZhW | apply ZhD | refine ZhS ?_ (IsS156.ge HI1.out) | refine ZhS ?_ GE155.out | refine ZhS ?_ GE163.out) | exact HB.out)); rintro e w56 ⟨rfl, hi, hb, hk⟩; refine ⟨_, rfl, ?_⟩; have n0_ := Zam (Kd.R_mono (Kd.R_keep (IsS156.apart (show IsS156 w0 _ g s1_0 x2001_4 x2002_4 from by repeat (first | (with_reducible first | exact HI1.out | apply IsS156.alloc | apply IsS156.drewN | apply IsS156.drew | apply IsS156.set_1 | apply IsS156.set_2 | refine IsS156.far ?_ NB1_155.out _ | refine IsS156.far ?_ NB1_163.out _) | exact HI1.out)) (by (with_reducible repeat (first | apply ZrA | apply ZrW | apply ZrD)); exact HO_164002.out) (by decide)) hk (fun _ h => h.2)) (fun _ h => h.1)); have n1_ := Zam (KeepBut.blk hk (g' := gb155) (o := .cells #[.int .i64 0, .int .i64 0, .slice none 0 0] 82 (0, 0)) (by (with_reducible repeat (first | refine ZbW ?_ _ | refine ZbD ?_ | refine ZbA ?_ _)); exact BK155.out) NB155_1.out (by simp)); have n2_ := Zam (KeepBut.blk hk (g' := gb163) (o := .cells #[.int .i64 x164000_4, .int .i64 x164001_4, u164002] 82 (0, 0)) (by (with_reducible repeat (first | refine ZbW ?_ _ | refine ZbD ?_ | refine ZbA ?_ _)); exact BK163.out) NB163_1.out (by simp)); have n3_ := Zam (KeepBut.trans (by repeat (first | (with_reducible first | exact HK.out | apply KeepBut.set_ | apply keep_drewN | apply keep_drew | apply keep_alloc | refine keep_far ?_ GW155.out _ | refine keep_far ?_ GW163.out _) | exact HK.out)) hk (.inl rfl)); have n4_ := Zam (hb); have n5_ := Zam (hi); clear HO_164002 BK155 BK163 HK HB HI1; have HO_164002 := n0_; have BK155 := n1_; have BK163 := n2_; have HK := n3_; have HB := n4_; have HI1 := n5_; clear n0_ n1_ n2_ n3_ n4_ n5_; (try clear hb); (try clear hb2); (try clear hk); (try clear hi); have hnb57 := NB163_155.out; have hnc57 := NB155_163.out; have hnb58 := NB163_1.out; have hnc58 := NB1_163.out; have hcz59_0 : w56.cell? ⟨gb163, 0, none⟩ = some (.int .i64 x164000_4) := (ZbC BK163.out 0).trans rfl; have hcz59_1 : w56.cell? ⟨gb163, 1, none⟩ = some (.int .i64 x164001_4) := (ZbC BK163.out 1).trans rfl; have hcz59_2 : w56.cell? ⟨gb163, 2, none⟩ = some (u164002) := (ZbC BK163.out 2).trans rfl; have hfz59_0 := ZbF BK163.out 0; have hfz59_1 := ZbF BK163.out 1; have hfz59_2 := ZbF BK163.out 2; have hnb60 := NB155_1.out; have hnc60 := NB1_155.out; have hcz61_0 : w56.cell? ⟨gb155, 0, none⟩ = some (.int .i64 0) := (ZbC BK155.out 0).trans rfl; have hcz61_1 : w56.cell? ⟨gb155, 1, none⟩ = some (.int .i64 0) := (ZbC BK155.out 1).trans rfl; have hcz61_2 : w56.cell? ⟨gb155, 2, none⟩ = some (.slice none 0 0) := (ZbC BK155.out 2).trans rfl; have hfz61_0 := ZbF BK155.out 0; have hfz61_1 := ZbF BK155.out 1; have hfz61_2 := ZbF BK155.out 2; obtain ⟨Ao62, co62, eo62⟩ := Kd.R_slice HO_164002.out; subst eo62))
    refine bodyPost_ret (results_cell_row rfl _ _ gb155 82 #[.int .i64 x164000_4, .int .i64 x164001_4, .slice Ao62 x164002_4.length co62] (0, 0) _ rfl (set3_blk BK155.out) Try.underlying82 rfl (by kernel_rfl)) rfl ?_
    exact ⟨_, by first | rfl | (simp [*, errW_none, errW_some] <;> rfl), by (with_reducible repeat (first | apply ZrA | apply ZrW | apply ZrD)); exact Kd.R_mono (set3_R (Kd.R_types HO_164002.out BK155.out (by decide)) (fun _ hk => hk.2)) (fun _ hk => trivial), by repeat (first | (with_reducible first | exact HI1.out | apply IsS156.alloc | apply IsS156.drewN | apply IsS156.drew | apply IsS156.set_1 | apply IsS156.set_2 | refine IsS156.far ?_ NB1_155.out _ | refine IsS156.far ?_ NB1_163.out _) | exact HI1.out), by repeat (first | (with_reducible first | exact HB.out | apply ZhA | apply ZhW | apply ZhD | refine ZhS ?_ (IsS156.ge HI1.out) | refine ZhS ?_ GE155.out | refine ZhS ?_ GE163.out) | exact HB.out), by repeat (first | (with_reducible first | exact HK.out | apply KeepBut.set_ | apply keep_drewN | apply keep_drew | apply keep_alloc | refine keep_far ?_ GW155.out _ | refine keep_far ?_ GW163.out _) | exact HK.out)⟩
   rw [if_pos c35] at H
   have c35b0 : (t175 == 1) = true := beq_iff_eq.mpr c35
   have c35b1 : (t175 != 1) = false := bne_eq_false_iff_eq.mpr c35
   clear c35
   obtain ⟨y181, hy181⟩ : ∃ y_ : List Int, y_ = (([(-1), 256] : List Int)) := ⟨_, rfl⟩
   replace H : ((spec_l1Cur_pick.f s1_0 t176 t177 2).bind fun bt184 => (if 0 ≤ bt184.1 then (if bt184.1 < (y181.length : Int) then (if 0 < (x164002_4.length : Int) then (some (x164000_4, x164001_4, (x164002_4.set (0 : Int).toNat (rd y181 bt184.1)), bt184.2.1, bt184.2.2)) else (none)) else (none)) else (none))) = some (r1, r2, r3, r4, r5) := by first | (rw [hy181]; with_reducible exact H) | (have H2_ := (Option.bind_some _ _).symm.trans H; rw [hy181]; with_reducible exact H2_) | (have H2_ := (Option.bind_some _ _).symm.trans H; with_reducible exact H2_) | with_reducible exact H | (rw [hy181]; exact H) | exact H
   have Ny181 := Zam hy181
   clear hy181
   replace H := Zob.mp H
   obtain ⟨⟨t184, t185, t186⟩, A360, H⟩ := H
   replace H : (if 0 ≤ t184 then (if t184 < (y181.length : Int) then (if 0 < (x164002_4.length : Int) then (some (x164000_4, x164001_4, (x164002_4.set (0 : Int).toNat (rd y181 t184)), t185, t186)) else (none)) else (none)) else (none)) = some (r1, r2, r3, r4, r5) := H
   have A36 := Zam A360
   clear A360
   by_cases c37 : 0 ≤ t184
   rotate_left
   ·rw [if_neg c37] at H
    exact absurd H (by simp)
   rw [if_pos c37] at H
   have c37b0 : decide (0 ≤ t184) = true := decide_eq_true c37
   clear c37
   by_cases c38 : t184 < (y181.length : Int)
   rotate_left
   ·rw [if_neg c38] at H
    exact absurd H (by simp)
   rw [if_pos c38] at H
   have c38b0 : decide (t184 < (y181.length : Int)) = true := decide_eq_true c38
   clear c38
   by_cases c39 : 0 < (x164002_4.length : Int)
   rotate_left
   ·rw [if_neg c39] at H
    exact absurd H (by simp)
   rw [if_pos c39] at H
   have c39b0 : decide (0 < (x164002_4.length : Int)) = true := decide_eq_true c39
   have c39b1 : decide (0 < x164002_4.length) = true := decide_eq_true (by omega)
   have c39b2 : 0 < x164002_4.length := by omega
   clear c39
   obtain ⟨y188, hy188⟩ : ∃ y_ : List Int, y_ = (x164002_4.set (0 : Int).toNat (rd y181 t184)) := ⟨_, rfl⟩
   replace H : (some (x164000_4, x164001_4, y188, t185, t186)) = some (r1, r2, r3, r4, r5) := by first | (rw [hy188]; with_reducible exact H) | (have H2_ := (Option.bind_some _ _).symm.trans H; rw [hy188]; with_reducible exact H2_) | (have H2_ := (Option.bind_some _ _).symm.trans H; with_reducible exact H2_) | with_reducible exact H | (rw [hy188]; exact H) | exact H
   have Ny188 := Zam hy188
   clear hy188
   simp only [Option.some.injEq, Prod.mk.injEq] at H
   obtain ⟨rfl, rfl, rfl, rfl, rfl⟩ := H
   try go_wp2_with (first | ((with_reducible refine gate_callee (f := 104) rfl ?_); refine goesL_ (some 16) rfl rfl Try.func104 (by kernel_rfl) rfl #[.pointer (some ⟨g, 0, none⟩), .int .i64 16] rfl (by (try simp only [Zm1, Zm2, Zm3]); first | done | rfl | (simp only [ZlL, ZlT]; rfl)) ?_; (with_reducible refine (spec_l1Cur_pick.calls g s1_0 x2001_4 x2002_4 16 t175 t176 t177 w0 _ ?side1 ?side2 A22.out).mono ?_); (case side1 => repeat (first | (with_reducible first | exact HI1.out | apply IsS156.alloc | apply IsS156.drewN | apply IsS156.drew | apply IsS156.set_1 | apply IsS156.set_2 | refine IsS156.far ?_ NB1_155.out _ | refine IsS156.far ?_ NB1_163.out _) | exact HI1.out)); (case side2 => repeat (first | (with_reducible first | exact HB.out | apply ZhA | apply ZhW | apply ZhD | refine ZhS ?_ (IsS156.ge HI1.out) | refine ZhS ?_ GE155.out | refine ZhS ?_ GE163.out) | exact HB.out)); rintro e w41 ⟨rfl, hi, hb, hk⟩; refine ⟨_, rfl, ?_⟩; have n0_ := Zam (Kd.R_mono (Kd.R_keep (IsS156.apart (show IsS156 w0 _ g s1_0 x2001_4 x2002_4 from by repeat (first | (with_reducible first | exact HI1.out | apply IsS156.alloc | apply IsS156.drewN | apply IsS156.drew | apply IsS156.set_1 | apply IsS156.set_2 | refine IsS156.far ?_ NB1_155.out _ | refine IsS156.far ?_ NB1_163.out _) | exact HI1.out)) (by (with_reducible repeat (first | apply ZrA | apply ZrW | apply ZrD)); exact HO_164002.out) (by decide)) hk (fun _ h => h.2)) (fun _ h => h.1)); have n1_ := Zam (KeepBut.blk hk (g' := gb155) (o := .cells #[.int .i64 0, .int .i64 0, .slice none 0 0] 82 (0, 0)) (by (with_reducible repeat (first | refine ZbW ?_ _ | refine ZbD ?_ | refine ZbA ?_ _)); exact BK155.out) NB155_1.out (by simp)); have n2_ := Zam (KeepBut.blk hk (g' := gb163) (o := .cells #[.int .i64 x164000_4, .int .i64 x164001_4, u164002] 82 (0, 0)) (by (with_reducible repeat (first | refine ZbW ?_ _ | refine ZbD ?_ | refine ZbA ?_ _)); exact BK163.out) NB163_1.out (by simp)); have n3_ := Zam (KeepBut.trans (by repeat (first | (with_reducible first | exact HK.out | apply KeepBut.set_ | apply keep_drewN | apply keep_drew | apply keep_alloc | refine keep_far ?_ GW155.out _ | refine keep_far ?_ GW163.out _) | exact HK.out)) hk (.inl rfl)); have n4_ := Zam (hb); have n5_ := Zam (hi); clear HO_164002 BK155 BK163 HK HB HI1; have HO_164002 := n0_; have BK155 := n1_; have BK163 := n2_; have HK := n3_; have HB := n4_; have HI1 := n5_; clear n0_ n1_ n2_ n3_ n4_ n5_; (try clear hb); (try clear hb2); (try clear hk); (try clear hi)))
   have pi187 : (0 ≤ (t184 : Int)) = True := eq_true (of_decide_eq_true (by first | (with_reducible assumption) | assumption))
   have qi187 : (t184 < (y181.length : Int)) = True := eq_true (of_decide_eq_true (by first | (with_reducible assumption) | assumption))
   have n0_ := Zam (ZrD HO_164002.out)
   have n1_ := Zam (ZbD BK155.out)
   have n2_ := Zam (ZbD BK163.out)
   have n3_ := Zam (IsS156.drew HI1.out)
   have n4_ := Zam (keep_drew HK.out)
   have n5_ := Zam (ZhD HB.out)
   clear HO_164002
   clear BK155
   clear BK163
   clear HI1
   clear HK
   clear HB
   have HO_164002 := n0_
   have BK155 := n1_
   have BK163 := n2_
   have HI1 := n3_
   have HK := n4_
   have HB := n5_
   clear n0_ n1_ n2_ n3_ n4_ n5_
   refine start_ (n := 9) (S := fun w' => w'.cell? ⟨gb163, 0, none⟩ = some (.int .i64 x164000_4) ∧ w'.cell? ⟨gb163, 1, none⟩ = some (.int .i64 x164001_4) ∧ w'.cell? ⟨gb163, 2, none⟩ = some (u164002)) (ds := [8]) #[false, false, false, false, false, false, false, false, false] (by kernel_rfl) rfl rfl ⟨(ZbC BK163.out 0).trans rfl, (ZbC BK163.out 1).trans rfl, (ZbC BK163.out 2).trans rfl⟩ (fun hHeld => ?_); refine with_tabW spec_l7Plane.tab8 spec_l7Plane.bits8 (fun HT_ HW_ => ?_)
   generalize w41.drew = w42 at HO_164002 BK155 BK163 HI1 HK HB hHeld ⊢
   refine pure_ (i := 0) (N := some 28) (v := ?_) (a' := ?_) #[true, false, false, false, false, false, false, false, false] rfl rfl (any_of HT_.out (by kernel_rfl)) (fun _ _ _ h => h) (Or.inl ⟨by rfl, ?_⟩) ?_ ?_
   rotate_left
   ·intro w'
    go_simp
    with_reducible rfl
   rotate_left
   ·simp only [Act.put, Zl1, Zl2, Zl3, i64_w, i32_w]
    rfl
   refine pure_ (i := 3) (N := some 31) (v := ?_) (a' := ?_) #[true, false, false, true, false, false, false, false, false] rfl rfl (any_of HT_.out (by kernel_rfl)) (fun _ _ _ h => h) (Or.inl ⟨by rfl, ?_⟩) ?_ ?_
   rotate_left
   ·intro w'
    go_simp
    with_reducible rfl
   rotate_left
   ·simp only [Act.put, Zl1, Zl2, Zl3, i64_w, i32_w]
    rfl
   refine take_ (i := 1) (N := some 29) (v := ?_) (a' := ?_) #[true, true, false, true, false, false, false, false, false] rfl rfl (take_ofW HT_.out HW_.out (by kernel_rfl)) (fun _ _ _ h => h) (Or.inl ⟨by rfl, ?_⟩) hHeld ?_ ?_
   rotate_left
   ·rintro w' ⟨s0, s1, s2⟩
    go_simp
    with_reducible rfl
   rotate_left
   ·simp only [Act.put, Zl1, Zl2, Zl3, i64_w, i32_w]
    rfl
   refine join_ (σ := Value × Addr) 4 #[true, true, true, true, true, false, false, false, false] (fun s_ => [(30, s_.1), (32, .int .i64 t184)]) (fun s_ w' => (w'.cell? ⟨gb163, 0, none⟩ = some (.int .i64 x164000_4) ∧ w'.cell? ⟨gb163, 1, none⟩ = some (.int .i64 x164001_4) ∧ w'.cell? ⟨gb163, 2, none⟩ = some (u164002)) ∧ (Kd.R (Kd.int .i64) 3 w' w.heap.size (fun k_ => some k_ ≠ (u164002 : Value).ownBlock) s_.1 y181) ∧ (Kd.R (Kd.int .i64) 3 w' w.heap.size (fun k_ => some k_ ≠ (s_.1 : Value).ownBlock) u164002 x164002_4) ∧ (∃ c_, (s_.1 : Value) = .slice (some s_.2) y181.length c_) ∧ (w'.heap[gb155]? = some (.cells #[.int .i64 0, .int .i64 0, .slice none 0 0] 82 (0, 0))) ∧ (w'.heap[gb163]? = some (.cells #[.int .i64 x164000_4, .int .i64 x164001_4, u164002] 82 (0, 0))) ∧ (IsS156 w0 w' g s1_0 t185 t186) ∧ (KeepBut w w' g none) ∧ (Below w0.heap.size w0 w')) ?_ ?_
   rotate_left
   ·intro hCont
    refine two_ (i := 2) (j := 4) (Ni := some 30) (Nj := some 32) #[true, true, true, true, false, false, false, false, false] #[true, true, false, true, true, false, false, false, false] rfl rfl rfl rfl (two_of HT_.out (by kernel_rfl)) (by decide) (by decide) (fun K hK => ?_) (fun K hK => ?_)
    ·skip
     refine Kd.R_lit_step (Kd.int .i64) _ 3 ?hg (N := 30) ?hd (xs := ([(-1), 256] : List Int)) (inner := [.int .i64 (-1), .int .i64 256]) (ok := fun _ => True) (okp := fun _ => True) ?hr ?hp (fun _ hk => hk) trivial (Below.refl _ _) (Nat.le_refl _) (by simp) ?_; (case hd => rfl); (case hg => rfl); (case hr => first | (go_simp; done) | (go_simp; rfl)); (case hp => exact (Reps.one (show Kd.M (Kd.int .i64) _ _ _ (-1) [.int .i64 (-1)] from rfl) (Reps.one (show Kd.M (Kd.int .i64) _ _ _ 256 [.int .i64 256] from rfl) (Reps.none _ _))))
     intro v182 w43 ho44 hb hg_ hnew_
     clear hg_ hnew_
     (first | rw [← Ny181.out] at ho44 | (simp only [Int.reduceToNat] at ho44; rw [← Ny181.out] at ho44))
     have n0_ := Zam (Kd.R_elder' (by (with_reducible repeat (first | apply ZrA | apply ZrW | apply ZrD)); exact HO_164002.out) (Kd.R_base ho44) hb)
     have n1_ := Zam (Kd.R_lower (Kd.R_new' ho44 (Kd.R_lt (by (with_reducible repeat (first | apply ZrA | apply ZrW | apply ZrD)); exact HO_164002.out))) (keep_size (w := w) (g := g) (row := none) (by repeat (first | (with_reducible first | exact HK.out | apply KeepBut.set_ | apply keep_drewN | apply keep_drew | apply keep_alloc | refine keep_far ?_ GW155.out _ | refine keep_far ?_ GW163.out _) | exact HK.out))))
     have n2_ := Zam (ZbB (g := gb155) (o := .cells #[.int .i64 0, .int .i64 0, .slice none 0 0] 82 (0, 0)) (by (with_reducible repeat (first | refine ZbW ?_ _ | refine ZbD ?_ | refine ZbA ?_ _)); exact BK155.out) hb)
     have n3_ := Zam (ZbB (g := gb163) (o := .cells #[.int .i64 x164000_4, .int .i64 x164001_4, u164002] 82 (0, 0)) (by (with_reducible repeat (first | refine ZbW ?_ _ | refine ZbD ?_ | refine ZbA ?_ _)); exact BK163.out) hb)
     have n4_ := Zam (IsS156.below (by repeat (first | (with_reducible first | exact HI1.out | apply IsS156.alloc | apply IsS156.drewN | apply IsS156.drew | apply IsS156.set_1 | apply IsS156.set_2 | refine IsS156.far ?_ NB1_155.out _ | refine IsS156.far ?_ NB1_163.out _) | exact HI1.out)) hb)
     have n5_ := Zam (KeepBut.trans (by repeat (first | (with_reducible first | exact HK.out | apply KeepBut.set_ | apply keep_drewN | apply keep_drew | apply keep_alloc | refine keep_far ?_ GW155.out _ | refine keep_far ?_ GW163.out _) | exact HK.out)) (KeepBut.of_below hb g none) (.inl rfl))
     have n6_ := Zam (ZbS (by repeat (first | (with_reducible first | exact HB.out | apply ZhA | apply ZhW | apply ZhD | refine ZhS ?_ (IsS156.ge HI1.out) | refine ZhS ?_ GE155.out | refine ZhS ?_ GE163.out) | exact HB.out)) hb)
     clear HO_164002
     clear BK155
     clear BK163
     clear HI1
     clear HK
     clear HB
     have HO_164002 := n0_
     have HO183 := n1_
     have BK155 := n2_
     have BK163 := n3_
     have HI1 := n4_
     have HK := n5_
     have HB := n6_
     clear n0_ n1_ n2_ n3_ n4_ n5_ n6_
     clear hb ho44
     obtain ⟨Ao45, co45, eo45⟩ := Kd.R_slice HO183.out
     subst eo45
     obtain ⟨ado45, fo45, _⟩ := Kd.at_int (Kd.R_reads' HO183.out).2.2 0 (by decide) (by rw [Ny181.out]; simp)
     cases fo45
     refine hK.out _ _ ⟨(ZbC BK163.out 0).trans rfl, (ZbC BK163.out 1).trans rfl, (ZbC BK163.out 2).trans rfl⟩ (fun hHeld => ?_)
     clear hK K
     refine norm_ (a' := ?_) ?_ ?_
     rotate_left
     ·show Act.put _ (some 30) _ = _
      simp only [Act.put, Zl1, Zl2, Zl3, i64_w, i32_w]
      rfl
     refine one_ (i := 4) (N := some 32) #[true, true, true, true, true, false, false, false, false] rfl rfl (one_of HT_.out (by kernel_rfl)) (by decide) (fun K hK => ?_)
     refine goes_ Try.func104 (by kernel_rfl) rfl #[.pointer (some ⟨g, 0, none⟩), .int .i64 2] (by rfl) rfl rfl (by (try simp only [Zm1, Zm2, Zm3]); first | done | rfl | (simp only [ZlL, ZlT]; rfl)) ?_
     with_reducible refine (spec_l1Cur_pick.calls g s1_0 t176 t177 2 t184 t185 t186 w0 _ ?side1 ?side2 A36.out).mono ?_
     (case side1 => repeat (first | (with_reducible first | exact HI1.out | apply IsS156.alloc | apply IsS156.drewN | apply IsS156.drew | apply IsS156.set_1 | apply IsS156.set_2 | refine IsS156.far ?_ NB1_155.out _ | refine IsS156.far ?_ NB1_163.out _) | exact HI1.out))
     (case side2 => repeat (first | (with_reducible first | exact HB.out | apply ZhA | apply ZhW | apply ZhD | refine ZhS ?_ (IsS156.ge HI1.out) | refine ZhS ?_ GE155.out | refine ZhS ?_ GE163.out) | exact HB.out))
     rintro e w46 ⟨rfl, hi, hb, hk⟩
     refine ⟨_, rfl, ?_⟩
     have n0_ := Zam (Kd.R_mono (Kd.R_keep (IsS156.apart (show IsS156 w0 _ g s1_0 t176 t177 from by repeat (first | (with_reducible first | exact HI1.out | apply IsS156.alloc | apply IsS156.drewN | apply IsS156.drew | apply IsS156.set_1 | apply IsS156.set_2 | refine IsS156.far ?_ NB1_155.out _ | refine IsS156.far ?_ NB1_163.out _) | exact HI1.out)) (by (with_reducible repeat (first | apply ZrA | apply ZrW | apply ZrD)); exact HO_164002.out) (by decide)) hk (fun _ h => h.2)) (fun _ h => h.1))
     have n1_ := Zam (KeepBut.blk hk (g' := gb155) (o := .cells #[.int .i64 0, .int .i64 0, .slice none 0 0] 82 (0, 0)) (by (with_reducible repeat (first | refine ZbW ?_ _ | refine ZbD ?_ | refine ZbA ?_ _)); exact BK155.out) NB155_1.out (by simp))
     have n2_ := Zam (KeepBut.blk hk (g' := gb163) (o := .cells #[.int .i64 x164000_4, .int .i64 x164001_4, u164002] 82 (0, 0)) (by (with_reducible repeat (first | refine ZbW ?_ _ | refine ZbD ?_ | refine ZbA ?_ _)); exact BK163.out) NB163_1.out (by simp))
     have n3_ := Zam (Kd.R_mono (Kd.R_keep (IsS156.apart (show IsS156 w0 _ g s1_0 t176 t177 from by repeat (first | (with_reducible first | exact HI1.out | apply IsS156.alloc | apply IsS156.drewN | apply IsS156.drew | apply IsS156.set_1 | apply IsS156.set_2 | refine IsS156.far ?_ NB1_155.out _ | refine IsS156.far ?_ NB1_163.out _) | exact HI1.out)) (by (with_reducible repeat (first | apply ZrA | apply ZrW | apply ZrD)); exact HO183.out) (by decide)) hk (fun _ h => h.2)) (fun _ h => h.1))
     have n4_ := Zam (KeepBut.trans (by repeat (first | (with_reducible first | exact HK.out | apply KeepBut.set_ | apply keep_drewN | apply keep_drew | apply keep_alloc | refine keep_far ?_ GW155.out _ | refine keep_far ?_ GW163.out _) | exact HK.out)) hk (.inl rfl))
     have n5_ := Zam (hb)
     have n6_ := Zam (hi)
     clear HO_164002
     clear BK155
     clear BK163
     clear HO183
     clear HK
     clear HB
     clear HI1
     have HO_164002 := n0_
     have BK155 := n1_
     have BK163 := n2_
     have HO183 := n3_
     have HK := n4_
     have HB := n5_
     have HI1 := n6_
     clear n0_ n1_ n2_ n3_ n4_ n5_ n6_
     (try clear hb)
     (try clear hb2)
     (try clear hk)
     (try clear hi)
     refine hK.out _ _ ⟨(ZbC BK163.out 0).trans rfl, (ZbC BK163.out 1).trans rfl, (ZbC BK163.out 2).trans rfl⟩ (fun hHeld => ?_)
     clear hK K
     refine norm_ (a' := ?_) ?_ ?_
     rotate_left
     ·show Act.put _ (some 32) _ = _
      simp only [Act.put, Zl1, Zl2, Zl3, i64_w, i32_w]
      rfl
     exact norm_ (by simp only [putAll, Act.put, Zl1, Zl2, Zl3]) (hCont (.slice (some ado45) y181.length co45, ado45) _ ⟨hHeld, (by (with_reducible repeat (first | apply ZrA | apply ZrW | apply ZrD)); exact Kd.R_mono HO183.out (fun _ hk => hk.2)), (by (with_reducible repeat (first | apply ZrA | apply ZrW | apply ZrD)); exact Kd.R_mono HO_164002.out (fun _ hk => hk.2)), ⟨_, rfl⟩, (by (with_reducible repeat (first | refine ZbW ?_ _ | refine ZbD ?_ | refine ZbA ?_ _)); exact BK155.out), (by (with_reducible repeat (first | refine ZbW ?_ _ | refine ZbD ?_ | refine ZbA ?_ _)); exact BK163.out), (by repeat (first | (with_reducible first | exact HI1.out | apply IsS156.alloc | apply IsS156.drewN | apply IsS156.drew | apply IsS156.set_1 | apply IsS156.set_2 | refine IsS156.far ?_ NB1_155.out _ | refine IsS156.far ?_ NB1_163.out _) | exact HI1.out)), (by repeat (first | (with_reducible first | exact HK.out | apply KeepBut.set_ | apply keep_drewN | apply keep_drew | apply keep_alloc | refine keep_far ?_ GW155.out _ | refine keep_far ?_ GW163.out _) | exact HK.out)), (by repeat (first | (with_reducible first | exact HB.out | apply ZhA | apply ZhW | apply ZhD | refine ZhS ?_ (IsS156.ge HI1.out) | refine ZhS ?_ GE155.out | refine ZhS ?_ GE163.out) | exact HB.out))⟩)
    ·skip
     refine goes_ Try.func104 (by kernel_rfl) rfl #[.pointer (some ⟨g, 0, none⟩), .int .i64 2] (by rfl) rfl rfl (by (try simp only [Zm1, Zm2, Zm3]); first | done | rfl | (simp only [ZlL, ZlT]; rfl)) ?_
     with_reducible refine (spec_l1Cur_pick.calls g s1_0 t176 t177 2 t184 t185 t186 w0 _ ?side1 ?side2 A36.out).mono ?_
     (case side1 => repeat (first | (with_reducible first | exact HI1.out | apply IsS156.alloc | apply IsS156.drewN | apply IsS156.drew | apply IsS156.set_1 | apply IsS156.set_2 | refine IsS156.far ?_ NB1_155.out _ | refine IsS156.far ?_ NB1_163.out _) | exact HI1.out))
     (case side2 => repeat (first | (with_reducible first | exact HB.out | apply ZhA | apply ZhW | apply ZhD | refine ZhS ?_ (IsS156.ge HI1.out) | refine ZhS ?_ GE155.out | refine ZhS ?_ GE163.out) | exact HB.out))
     rintro e w43 ⟨rfl, hi, hb, hk⟩
     refine ⟨_, rfl, ?_⟩
     have n0_ := Zam (Kd.R_mono (Kd.R_keep (IsS156.apart (show IsS156 w0 _ g s1_0 t176 t177 from by repeat (first | (with_reducible first | exact HI1.out | apply IsS156.alloc | apply IsS156.drewN | apply IsS156.drew | apply IsS156.set_1 | apply IsS156.set_2 | refine IsS156.far ?_ NB1_155.out _ | refine IsS156.far ?_ NB1_163.out _) | exact HI1.out)) (by (with_reducible repeat (first | apply ZrA | apply ZrW | apply ZrD)); exact HO_164002.out) (by decide)) hk (fun _ h => h.2)) (fun _ h => h.1))
     have n1_ := Zam (KeepBut.blk hk (g' := gb155) (o := .cells #[.int .i64 0, .int .i64 0, .slice none 0 0] 82 (0, 0)) (by (with_reducible repeat (first | refine ZbW ?_ _ | refine ZbD ?_ | refine ZbA ?_ _)); exact BK155.out) NB155_1.out (by simp))
     have n2_ := Zam (KeepBut.blk hk (g' := gb163) (o := .cells #[.int .i64 x164000_4, .int .i64 x164001_4, u164002] 82 (0, 0)) (by (with_reducible repeat (first | refine ZbW ?_ _ | refine ZbD ?_ | refine ZbA ?_ _)); exact BK163.out) NB163_1.out (by simp))
     have n3_ := Zam (KeepBut.trans (by repeat (first | (with_reducible first | exact HK.out | apply KeepBut.set_ | apply keep_drewN | apply keep_drew | apply keep_alloc | refine keep_far ?_ GW155.out _ | refine keep_far ?_ GW163.out _) | exact HK.out)) hk (.inl rfl))
     have n4_ := Zam (hb)
     have n5_ := Zam (hi)
     clear HO_164002
     clear BK155
     clear BK163
     clear HK
     clear HB
     clear HI1
     have HO_164002 := n0_
     have BK155 := n1_
     have BK163 := n2_
     have HK := n3_
     have HB := n4_
     have HI1 := n5_
     clear n0_ n1_ n2_ n3_ n4_ n5_
     (try clear hb)
     (try clear hb2)
     (try clear hk)
     (try clear hi)
     refine hK.out _ _ ⟨(ZbC BK163.out 0).trans rfl, (ZbC BK163.out 1).trans rfl, (ZbC BK163.out 2).trans rfl⟩ (fun hHeld => ?_)
     clear hK K
     refine norm_ (a' := ?_) ?_ ?_
     rotate_left
     ·show Act.put _ (some 32) _ = _
      simp only [Act.put, Zl1, Zl2, Zl3, i64_w, i32_w]
      rfl
     refine one_ (i := 2) (N := some 30) #[true, true, true, true, true, false, false, false, false] rfl rfl (one_of HT_.out (by kernel_rfl)) (by decide) (fun K hK => ?_)
     refine Kd.R_lit_step (Kd.int .i64) _ 3 ?hg (N := 30) ?hd (xs := ([(-1), 256] : List Int)) (inner := [.int .i64 (-1), .int .i64 256]) (ok := fun _ => True) (okp := fun _ => True) ?hr ?hp (fun _ hk => hk) trivial (Below.refl _ _) (Nat.le_refl _) (by simp) ?_; (case hd => rfl); (case hg => rfl); (case hr => first | (go_simp; done) | (go_simp; rfl)); (case hp => exact (Reps.one (show Kd.M (Kd.int .i64) _ _ _ (-1) [.int .i64 (-1)] from rfl) (Reps.one (show Kd.M (Kd.int .i64) _ _ _ 256 [.int .i64 256] from rfl) (Reps.none _ _))))
     intro v182 w44 ho45 hb hg_ hnew_
     clear hg_ hnew_
     (first | rw [← Ny181.out] at ho45 | (simp only [Int.reduceToNat] at ho45; rw [← Ny181.out] at ho45))
     have n0_ := Zam (Kd.R_elder' (by (with_reducible repeat (first | apply ZrA | apply ZrW | apply ZrD)); exact HO_164002.out) (Kd.R_base ho45) hb)
     have n1_ := Zam (Kd.R_lower (Kd.R_new' ho45 (Kd.R_lt (by (with_reducible repeat (first | apply ZrA | apply ZrW | apply ZrD)); exact HO_164002.out))) (keep_size (w := w) (g := g) (row := none) (by repeat (first | (with_reducible first | exact HK.out | apply KeepBut.set_ | apply keep_drewN | apply keep_drew | apply keep_alloc | refine keep_far ?_ GW155.out _ | refine keep_far ?_ GW163.out _) | exact HK.out))))
     have n2_ := Zam (ZbB (g := gb155) (o := .cells #[.int .i64 0, .int .i64 0, .slice none 0 0] 82 (0, 0)) (by (with_reducible repeat (first | refine ZbW ?_ _ | refine ZbD ?_ | refine ZbA ?_ _)); exact BK155.out) hb)
     have n3_ := Zam (ZbB (g := gb163) (o := .cells #[.int .i64 x164000_4, .int .i64 x164001_4, u164002] 82 (0, 0)) (by (with_reducible repeat (first | refine ZbW ?_ _ | refine ZbD ?_ | refine ZbA ?_ _)); exact BK163.out) hb)
     have n4_ := Zam (IsS156.below (by repeat (first | (with_reducible first | exact HI1.out | apply IsS156.alloc | apply IsS156.drewN | apply IsS156.drew | apply IsS156.set_1 | apply IsS156.set_2 | refine IsS156.far ?_ NB1_155.out _ | refine IsS156.far ?_ NB1_163.out _) | exact HI1.out)) hb)
     have n5_ := Zam (KeepBut.trans (by repeat (first | (with_reducible first | exact HK.out | apply KeepBut.set_ | apply keep_drewN | apply keep_drew | apply keep_alloc | refine keep_far ?_ GW155.out _ | refine keep_far ?_ GW163.out _) | exact HK.out)) (KeepBut.of_below hb g none) (.inl rfl))
     have n6_ := Zam (ZbS (by repeat (first | (with_reducible first | exact HB.out | apply ZhA | apply ZhW | apply ZhD | refine ZhS ?_ (IsS156.ge HI1.out) | refine ZhS ?_ GE155.out | refine ZhS ?_ GE163.out) | exact HB.out)) hb)
     clear HO_164002
     clear BK155
     clear BK163
     clear HI1
     clear HK
     clear HB
     have HO_164002 := n0_
     have HO183 := n1_
     have BK155 := n2_
     have BK163 := n3_
     have HI1 := n4_
     have HK := n5_
     have HB := n6_
     clear n0_ n1_ n2_ n3_ n4_ n5_ n6_
     clear hb ho45
     obtain ⟨Ao46, co46, eo46⟩ := Kd.R_slice HO183.out
     subst eo46
     obtain ⟨ado46, fo46, _⟩ := Kd.at_int (Kd.R_reads' HO183.out).2.2 0 (by decide) (by rw [Ny181.out]; simp)
     cases fo46
     refine hK.out _ _ ⟨(ZbC BK163.out 0).trans rfl, (ZbC BK163.out 1).trans rfl, (ZbC BK163.out 2).trans rfl⟩ (fun hHeld => ?_)
     clear hK K
     refine norm_ (a' := ?_) ?_ ?_
     rotate_left
     ·show Act.put _ (some 30) _ = _
      simp only [Act.put, Zl1, Zl2, Zl3, i64_w, i32_w]
      rfl
     exact norm_ (by simp only [putAll, Act.put, Zl1, Zl2, Zl3]) (hCont (.slice (some ado46) y181.length co46, ado46) _ ⟨hHeld, (by (with_reducible repeat (first | apply ZrA | apply ZrW | apply ZrD)); exact Kd.R_mono HO183.out (fun _ hk => hk.2)), (by (with_reducible repeat (first | apply ZrA | apply ZrW | apply ZrD)); exact Kd.R_mono HO_164002.out (fun _ hk => hk.2)), ⟨_, rfl⟩, (by (with_reducible repeat (first | refine ZbW ?_ _ | refine ZbD ?_ | refine ZbA ?_ _)); exact BK155.out), (by (with_reducible repeat (first | refine ZbW ?_ _ | refine ZbD ?_ | refine ZbA ?_ _)); exact BK163.out), (by repeat (first | (with_reducible first | exact HI1.out | apply IsS156.alloc | apply IsS156.drewN | apply IsS156.drew | apply IsS156.set_1 | apply IsS156.set_2 | refine IsS156.far ?_ NB1_155.out _ | refine IsS156.far ?_ NB1_163.out _) | exact HI1.out)), (by repeat (first | (with_reducible first | exact HK.out | apply KeepBut.set_ | apply keep_drewN | apply keep_drew | apply keep_alloc | refine keep_far ?_ GW155.out _ | refine keep_far ?_ GW163.out _) | exact HK.out)), (by repeat (first | (with_reducible first | exact HB.out | apply ZhA | apply ZhW | apply ZhD | refine ZhS ?_ (IsS156.ge HI1.out) | refine ZhS ?_ GE155.out | refine ZhS ?_ GE163.out) | exact HB.out))⟩)
   rintro ⟨v182, adz_v182⟩ w47 ⟨hS_, h0_, h1_, h2_, h3_, h4_, h5_, h6_, h7_⟩
   have n0_ : Aside0 (Kd.R (Kd.int .i64) 3 w47 w.heap.size (fun k_ => some k_ ≠ (u164002 : Value).ownBlock) v182 y181) := ⟨h0_⟩
   have n1_ : Aside0 (Kd.R (Kd.int .i64) 3 w47 w.heap.size (fun k_ => some k_ ≠ (v182 : Value).ownBlock) u164002 x164002_4) := ⟨h1_⟩
   have n2_ : Aside0 (∃ c_, (v182 : Value) = .slice (some adz_v182) y181.length c_) := ⟨h2_⟩
   have n3_ : Aside0 (w47.heap[gb155]? = some (.cells #[.int .i64 0, .int .i64 0, .slice none 0 0] 82 (0, 0))) := ⟨h3_⟩
   have n4_ : Aside0 (w47.heap[gb163]? = some (.cells #[.int .i64 x164000_4, .int .i64 x164001_4, u164002] 82 (0, 0))) := ⟨h4_⟩
   have n5_ : Aside0 (IsS156 w0 w47 g s1_0 t185 t186) := ⟨h5_⟩
   have n6_ : Aside0 (KeepBut w w47 g none) := ⟨h6_⟩
   have n7_ : Aside0 (Below w0.heap.size w0 w47) := ⟨h7_⟩
   clear HO_164002
   clear BK155
   clear BK163
   clear HI1
   clear HK
   clear HB
   clear h0_ h1_ h2_ h3_ h4_ h5_ h6_ h7_
   have HO183 := n0_
   have HO_164002 := n1_
   have HA_HO183 := n2_
   have BK155 := n3_
   have BK163 := n4_
   have HI1 := n5_
   have HK := n6_
   have HB := n7_
   clear n0_ n1_ n2_ n3_ n4_ n5_ n6_ n7_
   have hHeld : w47.cell? ⟨gb163, 0, none⟩ = some (.int .i64 x164000_4) ∧ w47.cell? ⟨gb163, 1, none⟩ = some (.int .i64 x164001_4) ∧ w47.cell? ⟨gb163, 2, none⟩ = some (u164002) := hS_
   obtain ⟨co48, eo48⟩ := HA_HO183.out
   clear HA_HO183
   subst eo48
   have p40 : 0 ≤ (0 : Int) := (by omega)
   have q40 : (0 : Int) < ((x164002_4.length : Int) : Int) := of_decide_eq_true (by first | (with_reducible assumption) | assumption)
   have qi40 : (0 < x164002_4.length) = True := eq_true (by omega)
   obtain ⟨go40, co40, eo40, gb40, gl40, cl40, HG40⟩ := Kd.R_form HO_164002.out (by omega)
   (first | cases eo40 | (injection eo40 with ea_ en_ ec_; (first | subst ea_ | (injection ea_ with ea_; subst ea_)); subst ec_; clear en_))
   have GB40 := Zam gb40
   have GG40 := Zam HG40
   clear gb40 gl40 HG40
   obtain ⟨hx40_0, hf40_0⟩ := Kd.R_celln 0 HO_164002.out (0 : Int) p40 q40
   (try rw [show ((0 : Int)).toNat = 0 from rfl] at hx40_0)
   (try simp only [Nat.reduceMul, Nat.zero_mul, Nat.zero_add, Nat.reduceAdd] at hx40_0)
   (try rw [show ((0 : Int)).toNat = 0 from rfl] at hf40_0)
   (try simp only [Nat.reduceMul, Nat.zero_mul, Nat.zero_add, Nat.reduceAdd] at hf40_0)
   replace p40 := eq_true p40
   replace q40 := eq_true q40
   have HN1_go40 := Zam (show g ≠ go40 from by have h_ := IsS156.own_ne HI1.out HO_164002.out (by decide); intro e_; exact h_ (by rw [e_]; rfl))
   have HP49 := Kd.R_putn HO_164002.out (0 : Int) (rd y181 t184)
   rw [← Ny188.out] at HP49
   have HQ49 := Zam HP49
   clear HP49
   refine norm_ (a' := ?_) ?_ ?_
   rotate_left
   ·simp only [putAll, Act.put, Zl1, Zl2, Zl3]
    rfl
   refine pure_ (i := 5) (N := some 33) (v := ?_) (a' := ?_) #[true, true, true, true, true, true, false, false, false] rfl rfl (any_of HT_.out (by kernel_rfl)) (fun _ _ _ h => h) (Or.inl ⟨by rfl, ?_⟩) ?_ ?_
   rotate_left
   ·intro w'
    go_simp
    with_reducible rfl
   rotate_left
   ·simp only [Act.put, Zl1, Zl2, Zl3, i64_w, i32_w]
    rfl
   refine one_ (i := 6) (N := some 34) #[true, true, true, true, true, true, true, false, false] rfl rfl (one_of HT_.out (by kernel_rfl)) (by decide) (fun K hK => ?_)
   (have p187 : 0 ≤ (t184 : Int) := of_decide_eq_true (by first | (with_reducible assumption) | assumption); have q187 : t184 < (y181.length : Int) := of_decide_eq_true (by first | (with_reducible assumption) | assumption); obtain ⟨ad187, e187, hx187_0⟩ := Kd.at_int (Kd.R_reads' HO183.out).2.2 t184 p187 q187; obtain rfl : adz_v182 = ad187 := (by injection e187))
   refine value_ (w1 := ?_) (v := ?_) (by rfl) rfl ?_ ?_
   rotate_left 2
   ·go_simp
    constructor
    ·rfl
    ·rfl
   clear hx187_0
   refine hK.out _ _ ⟨(ZbC BK163.out 0).trans rfl, (ZbC BK163.out 1).trans rfl, (ZbC BK163.out 2).trans rfl⟩ (fun hHeld => ?_)
   clear hK K
   refine norm_ (a' := ?_) ?_ ?_
   rotate_left
   ·show Act.put _ (some 34) _ = _
    simp only [Act.put, Zl1, Zl2, Zl3, i64_w, i32_w]
    rfl
   refine pure_ (i := 7) (N := some 35) (v := ?_) (a' := ?_) #[true, true, true, true, true, true, true, true, false] rfl rfl (any_of HT_.out (by kernel_rfl)) (fun _ _ _ h => h) (Or.inl ⟨by rfl, ?_⟩) ?_ ?_
   rotate_left
   ·intro w'
    go_simp
    with_reducible rfl
   rotate_left
   ·simp only [Act.put, Zl1, Zl2, Zl3, i64_w, i32_w]
    rfl
   refine last_ (i := 8) (N := none) #[true, true, true, true, true, true, true, true, true] rfl rfl (one_of HT_.out (by kernel_rfl)) (by decide) (fun K hK => ?_)
   refine skip_ (w1 := ?_) (by rfl) rfl ?_ ?_
   rotate_left
   ·go_simp
    rfl
   refine hK.out _ _ ?_
   clear hK K
   refine done_ (done_of HT_.out (by kernel_rfl)) ?_
   have n0_ : Aside0 (Kd.R (Kd.int .i64) 3 (w47.setCell ⟨go40, 0, none⟩ (.int .i64 (rd y181 t184))) w.heap.size (fun k_ => some k_ ≠ (.slice (some adz_v182) y181.length co48 : Value).ownBlock) (.slice (some ⟨go40, 0, none⟩) x164002_4.length co40) y188) := ⟨by (with_reducible repeat (first | apply ZrA | apply ZrW | apply ZrD)); exact HQ49.out⟩
   have n1_ : Aside0 (Kd.R (Kd.int .i64) 3 (w47.setCell ⟨go40, 0, none⟩ (.int .i64 (rd y181 t184))) w.heap.size (fun k_ => some k_ ≠ (.slice (some ⟨go40, 0, none⟩) x164002_4.length co40 : Value).ownBlock) (.slice (some adz_v182) y181.length co48) y181) := ⟨by (with_reducible repeat (first | apply ZrA | apply ZrW | apply ZrD)); exact Kd.R_mono (Kd.R_far (p := ⟨go40, 0, none⟩) (Kd.R_mono HO183.out (fun k_ hk => (⟨hk, fun e_ => hk (by rw [e_]; rfl)⟩ : _ ∧ k_ ≠ go40))) (fun _ hk => hk.2) (.int .i64 (rd y181 t184))) (fun _ hk => hk.1)⟩
   have n2_ : Aside0 ((w47.setCell ⟨go40, 0, none⟩ (.int .i64 (rd y181 t184))).heap[gb155]? = some (.cells #[.int .i64 0, .int .i64 0, .slice none 0 0] 82 (0, 0))) := ⟨by (with_reducible repeat (first | refine ZbW ?_ _ | refine ZbD ?_ | refine ZbA ?_ _)); refine blk_far ?_ (by have h_ := Kd.R_ne HO_164002.out BK155.out (by decide); intro e_; exact h_ (by rw [e_]; rfl)) _; (with_reducible repeat (first | refine ZbW ?_ _ | refine ZbD ?_ | refine ZbA ?_ _)); exact BK155.out⟩
   have n3_ : Aside0 ((w47.setCell ⟨go40, 0, none⟩ (.int .i64 (rd y181 t184))).heap[gb163]? = some (.cells #[.int .i64 x164000_4, .int .i64 x164001_4, .slice (some ⟨go40, 0, none⟩) x164002_4.length co40] 82 (0, 0))) := ⟨by (with_reducible repeat (first | refine ZbW ?_ _ | refine ZbD ?_ | refine ZbA ?_ _)); refine blk_far ?_ (by have h_ := Kd.R_ne HO_164002.out BK163.out (by decide); intro e_; exact h_ (by rw [e_]; rfl)) _; (with_reducible repeat (first | refine ZbW ?_ _ | refine ZbD ?_ | refine ZbA ?_ _)); exact BK163.out⟩
   have n4_ : Aside0 (IsS156 w0 (w47.setCell ⟨go40, 0, none⟩ (.int .i64 (rd y181 t184))) g s1_0 t185 t186) := ⟨by repeat (first | (with_reducible first | exact HI1.out | apply IsS156.alloc | apply IsS156.drewN | apply IsS156.drew | apply IsS156.set_1 | apply IsS156.set_2 | refine IsS156.far ?_ HN1_go40.out _ | refine IsS156.far ?_ NB1_155.out _ | refine IsS156.far ?_ NB1_163.out _) | exact HI1.out)⟩
   have n5_ : Aside0 (KeepBut w (w47.setCell ⟨go40, 0, none⟩ (.int .i64 (rd y181 t184))) g none) := ⟨by repeat (first | (with_reducible first | exact HK.out | apply KeepBut.set_ | apply keep_drewN | apply keep_drew | apply keep_alloc | refine keep_far ?_ GB40.out _ | refine keep_far ?_ GW155.out _ | refine keep_far ?_ GW163.out _) | exact HK.out)⟩
   have n6_ : Aside0 (Below w0.heap.size w0 (w47.setCell ⟨go40, 0, none⟩ (.int .i64 (rd y181 t184)))) := ⟨by repeat (first | (with_reducible first | exact HB.out | apply ZhA | apply ZhW | apply ZhD | refine ZhS ?_ (Nat.le_trans HL.out GB40.out) | refine ZhS ?_ (IsS156.ge HI1.out) | refine ZhS ?_ GE155.out | refine ZhS ?_ GE163.out) | exact HB.out)⟩
   (try clear HO_164002)
   (try clear HO183)
   (try clear BK155)
   (try clear BK163)
   (try clear HI1)
   (try clear HK)
   (try clear HB)
   generalize (w47.setCell ⟨go40, 0, none⟩ (.int .i64 (rd y181 t184))) = w50 at n0_ n1_ n2_ n3_ n4_ n5_ n6_ ⊢
   have HO_164002 := n0_
   have HO183 := n1_
   have BK155 := n2_
   have BK163 := n3_
   have HI1 := n4_
   have HK := n5_
   have HB := n6_
   clear n0_ n1_ n2_ n3_ n4_ n5_ n6_
   have hnb51 := NB163_155.out
   have hnc51 := NB155_163.out
   have hnb52 := NB163_1.out
   have hnc52 := NB1_163.out
   have hcz53_0 : w50.cell? ⟨gb163, 0, none⟩ = some (.int .i64 x164000_4) := (ZbC BK163.out 0).trans rfl
   have hcz53_1 : w50.cell? ⟨gb163, 1, none⟩ = some (.int .i64 x164001_4) := (ZbC BK163.out 1).trans rfl
   have hcz53_2 : w50.cell? ⟨gb163, 2, none⟩ = some (.slice (some ⟨go40, 0, none⟩) x164002_4.length co40) := (ZbC BK163.out 2).trans rfl
   have hfz53_0 := ZbF BK163.out 0
   have hfz53_1 := ZbF BK163.out 1
   have hfz53_2 := ZbF BK163.out 2
   have hnb54 := NB155_1.out
   have hnc54 := NB1_155.out
   have hcz55_0 : w50.cell? ⟨gb155, 0, none⟩ = some (.int .i64 0) := (ZbC BK155.out 0).trans rfl
   have hcz55_1 : w50.cell? ⟨gb155, 1, none⟩ = some (.int .i64 0) := (ZbC BK155.out 1).trans rfl
   have hcz55_2 : w50.cell? ⟨gb155, 2, none⟩ = some (.slice none 0 0) := (ZbC BK155.out 2).trans rfl
   have hfz55_0 := ZbF BK155.out 0
   have hfz55_1 := ZbF BK155.out 1
   have hfz55_2 := ZbF BK155.out 2
   try go_wp2
   refine bodyPost_ret (results_cell_row rfl _ _ gb155 82 #[.int .i64 x164000_4, .int .i64 x164001_4, .slice (some ⟨go40, 0, none⟩) x164002_4.length co40] (0, 0) _ rfl (set3_blk BK155.out) Try.underlying82 rfl (by kernel_rfl)) rfl ?_
   exact ⟨_, by first | rfl | (simp [*, errW_none, errW_some] <;> rfl), by (with_reducible repeat (first | apply ZrA | apply ZrW | apply ZrD)); exact Kd.R_mono (set3_R (Kd.R_types HO_164002.out BK155.out (by decide)) (fun _ hk => hk.2)) (fun _ hk => trivial), by repeat (first | (with_reducible first | exact HI1.out | apply IsS156.alloc | apply IsS156.drewN | apply IsS156.drew | apply IsS156.set_1 | apply IsS156.set_2 | refine IsS156.far ?_ NB1_155.out _ | refine IsS156.far ?_ NB1_163.out _) | exact HI1.out), by repeat (first | (with_reducible first | exact HB.out | apply ZhA | apply ZhW | apply ZhD | refine ZhS ?_ (IsS156.ge HI1.out) | refine ZhS ?_ GE155.out | refine ZhS ?_ GE163.out) | exact HB.out), by repeat (first | (with_reducible first | exact HK.out | apply KeepBut.set_ | apply keep_drewN | apply keep_drew | apply keep_alloc | refine keep_far ?_ GW155.out _ | refine keep_far ?_ GW163.out _) | exact HK.out)⟩

/-! ### spec_DrawResize: function 57 -/
def spec_DrawResize.f (k : Nat) (l0 : List Int) : Option (Int × Int × List Int × Int × Int) := (spec_l7Plane.f k l0 l0 0 0).bind fun bt191 => ((spec_l1Cur_pick.f l0 bt191.2.2.2.1 bt191.2.2.2.2 20).bind fun bt199 => ((spec_l1Cur_pick.f l0 bt199.2.1 bt199.2.2 20).bind fun bt202 => ((spec_l1Cur_pick.f l0 bt202.2.1 bt202.2.2 14).bind fun bt205 => (if bt205.1 = 0 then ((spec_l1Cur_pick.f l0 bt205.2.1 bt205.2.2 2).bind fun bt208 => ((spec_l1Cur_pick.f l0 bt208.2.1 bt208.2.2 9).bind fun bt211 => (some (bt191.1, bt191.2.1, bt191.2.2.1, wrap64 (512 + bt208.1), wrap64 (1 + bt211.1))))) else (if bt205.1 = 1 then ((spec_l1Cur_pick.f l0 bt205.2.1 bt205.2.2 2).bind fun bt214 => (some (bt191.1, bt191.2.1, bt191.2.2.1, wrap64 (1 + bt199.1), bt214.1))) else (some (bt191.1, bt191.2.1, bt191.2.2.1, wrap64 (1 + bt199.1), wrap64 (1 + bt202.1))))))))
theorem spec_DrawResize.mono : ∀ a0 k, LeO (spec_DrawResize.f k a0) (spec_DrawResize.f (k + 1) a0) := by
 intro a0 k
 unfold spec_DrawResize.f
 repeat' first
   | (with_reducible exact spec_l7Plane.mono _ _ _ _ _)
   | (with_reducible exact LeO.refl _)
   | (with_reducible exact LeO.none _)
   | (with_reducible refine LeO.ite ?_ ?_)
   | (with_reducible refine LeO.bind ?_ (fun _ => ?_))
   | exact spec_l7Plane.mono _ _ _ _ _
   | exact LeO.none _
   | refine LeO.ite ?_ ?_
   | refine LeO.bind ?_ (fun _ => ?_)
set_option maxHeartbeats 8000000 in
set_option maxRecDepth 100000 in
theorem spec_DrawResize.calls (k : Nat) (A0 : Option Addr) (c0 : Nat) (l0 : List Int) (r1 : Int) (r2 : Int) (r3 : List Int) (r4 : Int) (r5 : Int) (w : World) (hr0 : Kd.C (Kd.int .u8) w A0 l0.length l0) (hc0 : l0.length ≤ c0) (h : spec_DrawResize.f k l0 = some (r1, r2, r3, r4, r5)) :
  Calls Try.prog 57 #[.slice A0 l0.length c0] w fun e w' => ∃ v2_ : Value, e = .returned (.tuple #[.agg #[.int .i64 r1, .int .i64 r2, v2_], .int .i64 r4, .int .i64 r5]) ∧ Kd.R (Kd.int .i64) 3 w' w.heap.size (fun _ => True) v2_ r3 ∧ Below w.heap.size w w' := by
 have hu82 := Try.underlying82
 have hu156 := Try.underlying156
 have HR0 := Zam hr0
 have HC0 := Zam hc0
 clear hr0 hc0
 have HB := Zam (Below.refl w.heap.size w)
 have H : ((spec_l7Plane.f k l0 l0 0 0).bind fun bt191 => ((spec_l1Cur_pick.f l0 bt191.2.2.2.1 bt191.2.2.2.2 20).bind fun bt199 => ((spec_l1Cur_pick.f l0 bt199.2.1 bt199.2.2 20).bind fun bt202 => ((spec_l1Cur_pick.f l0 bt202.2.1 bt202.2.2 14).bind fun bt205 => (if bt205.1 = 0 then ((spec_l1Cur_pick.f l0 bt205.2.1 bt205.2.2 2).bind fun bt208 => ((spec_l1Cur_pick.f l0 bt208.2.1 bt208.2.2 9).bind fun bt211 => (some (bt191.1, bt191.2.1, bt191.2.2.1, wrap64 (512 + bt208.1), wrap64 (1 + bt211.1))))) else (if bt205.1 = 1 then ((spec_l1Cur_pick.f l0 bt205.2.1 bt205.2.2 2).bind fun bt214 => (some (bt191.1, bt191.2.1, bt191.2.2.1, wrap64 (1 + bt199.1), bt214.1))) else (some (bt191.1, bt191.2.1, bt191.2.2.1, wrap64 (1 + bt199.1), wrap64 (1 + bt202.1))))))))) = some (r1, r2, r3, r4, r5) := h
 clear h
 replace H := Zob.mp H
 obtain ⟨⟨t191, t192, t193, t196, t197⟩, A20, H⟩ := H
 replace H : ((spec_l1Cur_pick.f l0 t196 t197 20).bind fun bt199 => ((spec_l1Cur_pick.f l0 bt199.2.1 bt199.2.2 20).bind fun bt202 => ((spec_l1Cur_pick.f l0 bt202.2.1 bt202.2.2 14).bind fun bt205 => (if bt205.1 = 0 then ((spec_l1Cur_pick.f l0 bt205.2.1 bt205.2.2 2).bind fun bt208 => ((spec_l1Cur_pick.f l0 bt208.2.1 bt208.2.2 9).bind fun bt211 => (some (t191, t192, t193, wrap64 (512 + bt208.1), wrap64 (1 + bt211.1))))) else (if bt205.1 = 1 then ((spec_l1Cur_pick.f l0 bt205.2.1 bt205.2.2 2).bind fun bt214 => (some (t191, t192, t193, wrap64 (1 + bt199.1), bt214.1))) else (some (t191, t192, t193, wrap64 (1 + bt199.1), wrap64 (1 + bt202.1)))))))) = some (r1, r2, r3, r4, r5) := H
 have A2 := Zam A20
 clear A20
 replace H := Zob.mp H
 obtain ⟨⟨t199, t200, t201⟩, A30, H⟩ := H
 replace H : ((spec_l1Cur_pick.f l0 t200 t201 20).bind fun bt202 => ((spec_l1Cur_pick.f l0 bt202.2.1 bt202.2.2 14).bind fun bt205 => (if bt205.1 = 0 then ((spec_l1Cur_pick.f l0 bt205.2.1 bt205.2.2 2).bind fun bt208 => ((spec_l1Cur_pick.f l0 bt208.2.1 bt208.2.2 9).bind fun bt211 => (some (t191, t192, t193, wrap64 (512 + bt208.1), wrap64 (1 + bt211.1))))) else (if bt205.1 = 1 then ((spec_l1Cur_pick.f l0 bt205.2.1 bt205.2.2 2).bind fun bt214 => (some (t191, t192, t193, wrap64 (1 + t199), bt214.1))) else (some (t191, t192, t193, wrap64 (1 + t199), wrap64 (1 + bt202.1))))))) = some (r1, r2, r3, r4, r5) := H
 have A3 := Zam A30
 clear A30
 replace H := Zob.mp H
 obtain ⟨⟨t202, t203, t204⟩, A40, H⟩ := H
 replace H : ((spec_l1Cur_pick.f l0 t203 t204 14).bind fun bt205 => (if bt205.1 = 0 then ((spec_l1Cur_pick.f l0 bt205.2.1 bt205.2.2 2).bind fun bt208 => ((spec_l1Cur_pick.f l0 bt208.2.1 bt208.2.2 9).bind fun bt211 => (some (t191, t192, t193, wrap64 (512 + bt208.1), wrap64 (1 + bt211.1))))) else (if bt205.1 = 1 then ((spec_l1Cur_pick.f l0 bt205.2.1 bt205.2.2 2).bind fun bt214 => (some (t191, t192, t193, wrap64 (1 + t199), bt214.1))) else (some (t191, t192, t193, wrap64 (1 + t199), wrap64 (1 + t202)))))) = some (r1, r2, r3, r4, r5) := H
 have A4 := Zam A40
 clear A40
 replace H := Zob.mp H
 obtain ⟨⟨t205, t206, t207⟩, A50, H⟩ := H
 replace H : (if t205 = 0 then ((spec_l1Cur_pick.f l0 t206 t207 2).bind fun bt208 => ((spec_l1Cur_pick.f l0 bt208.2.1 bt208.2.2 9).bind fun bt211 => (some (t191, t192, t193, wrap64 (512 + bt208.1), wrap64 (1 + bt211.1))))) else (if t205 = 1 then ((spec_l1Cur_pick.f l0 t206 t207 2).bind fun bt214 => (some (t191, t192, t193, wrap64 (1 + t199), bt214.1))) else (some (t191, t192, t193, wrap64 (1 + t199), wrap64 (1 + t202))))) = some (r1, r2, r3, r4, r5) := H
 have A5 := Zam A50
 clear A50
 by_cases c6 : t205 = 0
 ·rw [if_pos c6] at H
  have c6b0 : (t205 == 0) = true := beq_iff_eq.mpr c6
  have c6b1 : (t205 != 0) = false := bne_eq_false_iff_eq.mpr c6
  clear c6
  replace H := Zob.mp H
  obtain ⟨⟨t208, t209, t210⟩, A70, H⟩ := H
  replace H : ((spec_l1Cur_pick.f l0 t209 t210 9).bind fun bt211 => (some (t191, t192, t193, wrap64 (512 + t208), wrap64 (1 + bt211.1)))) = some (r1, r2, r3, r4, r5) := H
  have A7 := Zam A70
  clear A70
  replace H := Zob.mp H
  obtain ⟨⟨t211, t212, t213⟩, A80, H⟩ := H
  replace H : (some (t191, t192, t193, wrap64 (512 + t208), wrap64 (1 + t211))) = some (r1, r2, r3, r4, r5) := H
  have A8 := Zam A80
  clear A80
  simp only [Option.some.injEq, Prod.mk.injEq] at H
  obtain ⟨rfl, rfl, rfl, rfl, rfl⟩ := H
  go_enter Try.func57, Try.ntmps57
  go_wp2_with (first | ((with_reducible refine gate_dst (N := 2) rfl ?_); refine box_event ?hg (N := 2) ?hd (cs := #[.int .i64 0, .int .i64 0, .slice none 0 0]) (t := 82) ?hr ?_; (case hd => rfl); (case hg => rfl); (case hr => first | (go_simp; done) | (go_simp; rfl)); intro gb189 hg w9 hbox hb; have n0_ := Zam (ZbS (by repeat (first | (with_reducible first | exact HB.out | apply ZhA | apply ZhW | apply ZhD) | exact HB.out)) hb); have n1_ := Zam (hbox); have n2_ := Zam ((by rw [hg]; exact (below_size (by repeat (first | (with_reducible first | exact HB.out | apply ZhA | apply ZhW | apply ZhD) | exact HB.out))) : w.heap.size ≤ gb189)); have n3_ := n2_; clear HB; have HB := n0_; have BK189 := n1_; have GW189 := n2_; have GE189 := n3_; clear n0_ n1_ n2_ n3_; clear hb hbox hg) | ((with_reducible refine gate_dst (N := 11) rfl ?_); refine box_event ?hg (N := 11) ?hd (cs := #[.slice A0 l0.length c0, .int .i64 0, .int .u64 0]) (t := 156) ?hr ?_; (case hd => rfl); (case hg => rfl); (case hr => first | (go_simp; done) | (go_simp; rfl)); intro gb190 hg w10 hbox hb; have n0_ := Zam (ZbB (g := gb189) (o := .cells #[.int .i64 0, .int .i64 0, .slice none 0 0] 82 (0, 0)) (by (with_reducible repeat (first | refine ZbW ?_ _ | refine ZbD ?_ | refine ZbA ?_ _)); exact BK189.out) hb); have n1_ := Zam (ZbS (by repeat (first | (with_reducible first | exact HB.out | apply ZhA | apply ZhW | apply ZhD | refine ZhS ?_ GE189.out) | exact HB.out)) hb); have n2_ := Zam ((by rw [hg]; exact (below_size (by repeat (first | (with_reducible first | exact HB.out | apply ZhA | apply ZhW | apply ZhD | refine ZhS ?_ GE189.out) | exact HB.out))) : w.heap.size ≤ gb190)); have n3_ := Zam ((show IsS156 w w10 gb190 l0 0 0 from ⟨_, _, hbox, (by rw [hg]; exact (below_size (by repeat (first | (with_reducible first | exact HB.out | apply ZhA | apply ZhW | apply ZhD | refine ZhS ?_ GE189.out) | exact HB.out)))), HR0.out⟩)); have n4_ := Zam ((by rw [hg]; exact Nat.ne_of_lt (blk_lt (g := gb189) (o := .cells #[.int .i64 0, .int .i64 0, .slice none 0 0] 82 (0, 0)) (by (with_reducible repeat (first | refine ZbW ?_ _ | refine ZbD ?_ | refine ZbA ?_ _)); exact BK189.out)) : gb189 ≠ gb190)); have n5_ := Zam ((by rw [hg]; exact Nat.ne_of_gt (blk_lt (g := gb189) (o := .cells #[.int .i64 0, .int .i64 0, .slice none 0 0] 82 (0, 0)) (by (with_reducible repeat (first | refine ZbW ?_ _ | refine ZbD ?_ | refine ZbA ?_ _)); exact BK189.out)) : gb190 ≠ gb189)); clear BK189 HB; have BK189 := n0_; have HB := n1_; have GW190 := n2_; have HI190 := n3_; have NB189_190 := n4_; have NB190_189 := n5_; clear n0_ n1_ n2_ n3_ n4_ n5_; clear hb hbox hg) | ((with_reducible refine gate_callee (f := 129) rfl ?_); refine goesL_ (some 14) rfl rfl Try.func129 (by kernel_rfl) rfl #[.slice A0 l0.length c0, .pointer (some ⟨gb190, 0, none⟩)] rfl (by (try simp only [Zm1, Zm2, Zm3]); first | done | rfl | (simp only [ZlL, ZlT]; rfl)) ?_; (with_reducible refine (spec_l7Plane.calls k _ _ l0 gb190 l0 0 0 t191 t192 t193 t196 t197 w _ ?side1 ?side2 ?side3 ?side4 ?side5 A2.out).mono ?_); (case side1 => repeat (first | (with_reducible first | exact HI190.out | apply IsS156.alloc | apply IsS156.drewN | apply IsS156.drew | apply IsS156.set_1 | apply IsS156.set_2 | refine IsS156.far ?_ NB190_189.out _) | exact HI190.out)); (case side2 => repeat (first | (with_reducible first | exact HB.out | apply ZhA | apply ZhW | apply ZhD | refine ZhS ?_ (IsS156.ge HI190.out) | refine ZhS ?_ GE189.out) | exact HB.out)); (case side3 => repeat (first | exact (Kd.C_below HR0.out HB.out) | (with_reducible refine Kd.C_alloc ?_ _) | (with_reducible refine Kd.C_drewN ?_ _) | (with_reducible refine Kd.C_drew ?_))); (case side4 => exact HC0.out); (case side5 => exact Kd.far_C 0 HR0.out (IsS156.ge HI190.out)); rintro e w11 ⟨v194, rfl, ho0, hi, hb, hk⟩; refine ⟨_, rfl, ?_⟩; have n0_ := Zam (KeepBut.blk hk (g' := gb189) (o := .cells #[.int .i64 0, .int .i64 0, .slice none 0 0] 82 (0, 0)) (by (with_reducible repeat (first | refine ZbW ?_ _ | refine ZbD ?_ | refine ZbA ?_ _)); exact BK189.out) NB189_190.out (by simp)); have n1_ := Zam (Kd.R_lower ho0 (below_size (by repeat (first | (with_reducible first | exact HB.out | apply ZhA | apply ZhW | apply ZhD | refine ZhS ?_ (IsS156.ge HI190.out) | refine ZhS ?_ GE189.out) | exact HB.out)))); have n2_ := Zam (hb); have n3_ := Zam (hi); clear BK189 HB HI190; have BK189 := n0_; have HO195 := n1_; have HB := n2_; have HI190 := n3_; clear n0_ n1_ n2_ n3_; (try clear hb); (try clear hb2); (try clear hk); (try clear hi); (try clear ho0)) | ((with_reducible refine gate_dst (N := 6) rfl ?_); refine box_event ?hg (N := 6) ?hd (cs := #[.int .i64 0, .int .i64 0, .slice none 0 0]) (t := 82) ?hr ?_; (case hd => rfl); (case hg => rfl); (case hr => first | (go_simp; done) | (go_simp; rfl)); intro gb198 hg w12 hbox hb; have n0_ := Zam (Kd.R_below (by (with_reducible repeat (first | apply ZrA | apply ZrW | apply ZrD)); exact HO195.out) hb); have n1_ := Zam (ZbB (g := gb189) (o := .cells #[.int .i64 0, .int .i64 0, .slice none 0 0] 82 (0, 0)) (by (with_reducible repeat (first | refine ZbW ?_ _ | refine ZbD ?_ | refine ZbA ?_ _)); exact BK189.out) hb); have n2_ := Zam (IsS156.below (by repeat (first | (with_reducible first | exact HI190.out | apply IsS156.alloc | apply IsS156.drewN | apply IsS156.drew | apply IsS156.set_1 | apply IsS156.set_2 | refine IsS156.far ?_ NB190_189.out _) | exact HI190.out)) hb); have n3_ := Zam (ZbS (by repeat (first | (with_reducible first | exact HB.out | apply ZhA | apply ZhW | apply ZhD | refine ZhS ?_ (IsS156.ge HI190.out) | refine ZhS ?_ GE189.out) | exact HB.out)) hb); have n4_ := Zam (hbox); have n5_ := Zam ((by rw [hg]; exact (below_size (by repeat (first | (with_reducible first | exact HB.out | apply ZhA | apply ZhW | apply ZhD | refine ZhS ?_ (IsS156.ge HI190.out) | refine ZhS ?_ GE189.out) | exact HB.out))) : w.heap.size ≤ gb198)); have n6_ := n5_; have n7_ := Zam ((by rw [hg]; exact Nat.ne_of_lt (blk_lt (g := gb189) (o := .cells #[.int .i64 0, .int .i64 0, .slice none 0 0] 82 (0, 0)) (by (with_reducible repeat (first | refine ZbW ?_ _ | refine ZbD ?_ | refine ZbA ?_ _)); exact BK189.out)) : gb189 ≠ gb198)); have n8_ := Zam ((by rw [hg]; exact Nat.ne_of_gt (blk_lt (g := gb189) (o := .cells #[.int .i64 0, .int .i64 0, .slice none 0 0] 82 (0, 0)) (by (with_reducible repeat (first | refine ZbW ?_ _ | refine ZbD ?_ | refine ZbA ?_ _)); exact BK189.out)) : gb198 ≠ gb189)); have n9_ := Zam ((by rw [hg]; exact Nat.ne_of_lt (IsS156.lt (show IsS156 w _ gb190 l0 t196 t197 from by repeat (first | (with_reducible first | exact HI190.out | apply IsS156.alloc | apply IsS156.drewN | apply IsS156.drew | apply IsS156.set_1 | apply IsS156.set_2 | refine IsS156.far ?_ NB190_189.out _) | exact HI190.out))) : gb190 ≠ gb198)); have n10_ := Zam ((by rw [hg]; exact Nat.ne_of_gt (IsS156.lt (show IsS156 w _ gb190 l0 t196 t197 from by repeat (first | (with_reducible first | exact HI190.out | apply IsS156.alloc | apply IsS156.drewN | apply IsS156.drew | apply IsS156.set_1 | apply IsS156.set_2 | refine IsS156.far ?_ NB190_189.out _) | exact HI190.out))) : gb198 ≠ gb190)); clear HO195 BK189 HI190 HB; have HO195 := n0_; have BK189 := n1_; have HI190 := n2_; have HB := n3_; have BK198 := n4_; have GW198 := n5_; have GE198 := n6_; have NB189_198 := n7_; have NB198_189 := n8_; have NB190_198 := n9_; have NB198_190 := n10_; clear n0_ n1_ n2_ n3_ n4_ n5_ n6_ n7_ n8_ n9_ n10_; clear hb hbox hg; have hnb13 := NB198_189.out; have hnc13 := NB189_198.out; have hnb14 := NB198_190.out; have hnc14 := NB190_198.out; have hcz15_0 : w12.cell? ⟨gb198, 0, none⟩ = some (.int .i64 0) := (ZbC BK198.out 0).trans rfl; have hcz15_1 : w12.cell? ⟨gb198, 1, none⟩ = some (.int .i64 0) := (ZbC BK198.out 1).trans rfl; have hcz15_2 : w12.cell? ⟨gb198, 2, none⟩ = some (.slice none 0 0) := (ZbC BK198.out 2).trans rfl; have hfz15_0 := ZbF BK198.out 0; have hfz15_1 := ZbF BK198.out 1; have hfz15_2 := ZbF BK198.out 2; obtain ⟨Ao16, co16, eo16⟩ := Kd.R_slice HO195.out; subst eo16) | ((with_reducible refine gate_callee (f := 104) rfl ?_); refine goesL_ (some 16) rfl rfl Try.func104 (by kernel_rfl) rfl #[.pointer (some ⟨gb190, 0, none⟩), .int .i64 20] rfl (by (try simp only [Zm1, Zm2, Zm3]); first | done | rfl | (simp only [ZlL, ZlT]; rfl)) ?_; (with_reducible refine (spec_l1Cur_pick.calls gb190 l0 t196 t197 20 t199 t200 t201 w _ ?side1 ?side2 A3.out).mono ?_); (case side1 => repeat (first | (with_reducible first | exact HI190.out | apply IsS156.alloc | apply IsS156.drewN | apply IsS156.drew | apply IsS156.set_1 | apply IsS156.set_2 | refine IsS156.far ?_ NB190_189.out _ | refine IsS156.far ?_ NB190_198.out _) | exact HI190.out)); (case side2 => repeat (first | (with_reducible first | exact HB.out | apply ZhA | apply ZhW | apply ZhD | refine ZhS ?_ (IsS156.ge HI190.out) | refine ZhS ?_ GE189.out | refine ZhS ?_ GE198.out) | exact HB.out)); rintro e w17 ⟨rfl, hi, hb, hk⟩; refine ⟨_, rfl, ?_⟩; have n0_ := Zam (KeepBut.blk hk (g' := gb189) (o := .cells #[.int .i64 0, .int .i64 0, .slice none 0 0] 82 (0, 0)) (by (with_reducible repeat (first | refine ZbW ?_ _ | refine ZbD ?_ | refine ZbA ?_ _)); refine blk_far ?_ NB189_198.out _; (with_reducible repeat (first | refine ZbW ?_ _ | refine ZbD ?_ | refine ZbA ?_ _)); refine blk_far ?_ NB189_198.out _; (with_reducible repeat (first | refine ZbW ?_ _ | refine ZbD ?_ | refine ZbA ?_ _)); refine blk_far ?_ NB189_198.out _; (with_reducible repeat (first | refine ZbW ?_ _ | refine ZbD ?_ | refine ZbA ?_ _)); exact BK189.out) NB189_190.out (by simp)); have n1_ := Zam (Kd.R_mono (Kd.R_keep (IsS156.apart (show IsS156 w _ gb190 l0 t196 t197 from by repeat (first | (with_reducible first | exact HI190.out | apply IsS156.alloc | apply IsS156.drewN | apply IsS156.drew | apply IsS156.set_1 | apply IsS156.set_2 | refine IsS156.far ?_ NB190_189.out _ | refine IsS156.far ?_ NB190_198.out _) | exact HI190.out)) (by (with_reducible repeat (first | apply ZrA | apply ZrW | apply ZrD)); exact (Kd.R_mono (set3_R (Kd.R_types HO195.out BK198.out (by decide)) (fun _ hk => hk.2)) (fun _ h_ => h_.1))) (by decide)) hk (fun _ h => h.2)) (fun _ h => h.1)); have n2_ := Zam (KeepBut.blk hk (g' := gb198) (o := .cells #[.int .i64 t191, .int .i64 t192, .slice Ao16 t193.length co16] 82 (0, 0)) (by (with_reducible repeat (first | refine ZbW ?_ _ | refine ZbD ?_ | refine ZbA ?_ _)); exact set3_blk (by (with_reducible repeat (first | refine ZbW ?_ _ | refine ZbD ?_ | refine ZbA ?_ _)); exact BK198.out)) NB198_190.out (by simp)); have n3_ := Zam (hb); have n4_ := Zam (hi); clear BK189 HO195 BK198 HB HI190; have BK189 := n0_; have HO195 := n1_; have BK198 := n2_; have HB := n3_; have HI190 := n4_; clear n0_ n1_ n2_ n3_ n4_; (try clear hb); (try clear hb2); (try clear hk); (try clear hi)) | ((with_reducible refine gate_callee (f := 104) rfl ?_); refine goesL_ (some 19) rfl rfl Try.func104 (by kernel_rfl) rfl #[.pointer (some ⟨gb190, 0, none⟩), .int .i64 20] rfl (by (try simp only [Zm1, Zm2, Zm3]); first | done | rfl | (simp only [ZlL, ZlT]; rfl)) ?_; (with_reducible refine (spec_l1Cur_pick.calls gb190 l0 t200 t201 20 t202 t203 t204 w _ ?side1 ?side2 A4.out).mono ?_); (case side1 => repeat (first | (with_reducible first | exact HI190.out | apply IsS156.alloc | apply IsS156.drewN | apply IsS156.drew | apply IsS156.set_1 | apply IsS156.set_2 | refine IsS156.far ?_ NB190_189.out _ | refine IsS156.far ?_ NB190_198.out _) | exact HI190.out)); (case side2 => repeat (first | (with_reducible first | exact HB.out | apply ZhA | apply ZhW | apply ZhD | refine ZhS ?_ (IsS156.ge HI190.out) | refine ZhS ?_ GE189.out | refine ZhS ?_ GE198.out) | exact HB.out)); rintro e w18 ⟨rfl, hi, hb, hk⟩; refine ⟨_, rfl, ?_⟩; have n0_ := Zam (KeepBut.blk hk (g' := gb189) (o := .cells #[.int .i64 0, .int .i64 0, .slice none 0 0] 82 (0, 0)) (by (with_reducible repeat (first | refine ZbW ?_ _ | refine ZbD ?_ | refine ZbA ?_ _)); exact BK189.out) NB189_190.out (by simp)); have n1_ := Zam (Kd.R_mono (Kd.R_keep (IsS156.apart (show IsS156 w _ gb190 l0 t200 t201 from by repeat (first | (with_reducible first | exact HI190.out | apply IsS156.alloc | apply IsS156.drewN | apply IsS156.drew | apply IsS156.set_1 | apply IsS156.set_2 | refine IsS156.far ?_ NB190_189.out _ | refine IsS156.far ?_ NB190_198.out _) | exact HI190.out)) (by (with_reducible repeat (first | apply ZrA | apply ZrW | apply ZrD)); exact HO195.out) (by decide)) hk (fun _ h => h.2)) (fun _ h => h.1)); have n2_ := Zam (KeepBut.blk hk (g' := gb198) (o := .cells #[.int .i64 t191, .int .i64 t192, .slice Ao16 t193.length co16] 82 (0, 0)) (by (with_reducible repeat (first | refine ZbW ?_ _ | refine ZbD ?_ | refine ZbA ?_ _)); exact BK198.out) NB198_190.out (by simp)); have n3_ := Zam (hb); have n4_ := Zam (hi); clear BK189 HO195 BK198 HB HI190; have BK189 := n0_; have HO195 := n1_; have BK198 := n2_; have HB := n3_; have HI190 := n4_; clear n0_ n1_ n2_ n3_ n4_; (try clear hb); (try clear hb2); (try clear hk); (try clear hi)) | ((with_reducible refine gate_callee (f := 104) rfl ?_); refine goesL_ (some 22) rfl rfl Try.func104 (by kernel_rfl) rfl #[.pointer (some ⟨gb190, 0, none⟩), .int .i64 14] rfl (by (try simp only [Zm1, Zm2, Zm3]); first | done | rfl | (simp only [ZlL, ZlT]; rfl)) ?_; (with_reducible refine (spec_l1Cur_pick.calls gb190 l0 t203 t204 14 t205 t206 t207 w _ ?side1 ?side2 A5.out).mono ?_); (case side1 => repeat (first | (with_reducible first | exact HI190.out | apply IsS156.alloc | apply IsS156.drewN | apply IsS156.drew | apply IsS156.set_1 | apply IsS156.set_2 | refine IsS156.far ?_ NB190_189.out _ | refine IsS156.far ?_ NB190_198.out _) | exact HI190.out)); (case side2 => repeat (first | (with_reducible first | exact HB.out | apply ZhA | apply ZhW | apply ZhD | refine ZhS ?_ (IsS156.ge HI190.out) | refine ZhS ?_ GE189.out | refine ZhS ?_ GE198.out) | exact HB.out)); rintro e w19 ⟨rfl, hi, hb, hk⟩; refine ⟨_, rfl, ?_⟩; have n0_ := Zam (KeepBut.blk hk (g' := gb189) (o := .cells #[.int .i64 0, .int .i64 0, .slice none 0 0] 82 (0, 0)) (by (with_reducible repeat (first | refine ZbW ?_ _ | refine ZbD ?_ | refine ZbA ?_ _)); exact BK189.out) NB189_190.out (by simp)); have n1_ := Zam (Kd.R_mono (Kd.R_keep (IsS156.apart (show IsS156 w _ gb190 l0 t203 t204 from by repeat (first | (with_reducible first | exact HI190.out | apply IsS156.alloc | apply IsS156.drewN | apply IsS156.drew | apply IsS156.set_1 | apply IsS156.set_2 | refine IsS156.far ?_ NB190_189.out _ | refine IsS156.far ?_ NB190_198.out _) | exact HI190.out)) (by (with_reducible repeat (first | apply ZrA | apply ZrW | apply ZrD)); exact HO195.out) (by decide)) hk (fun _ h => h.2)) (fun _ h => h.1)); have n2_ := Zam (KeepBut.blk hk (g' := gb198) (o := .cells #[.int .i64 t191, .int .i64 t192, .slice Ao16 t193.length co16] 82 (0, 0)) (by (with_reducible repeat (first | refine ZbW ?_ _ | refine ZbD ?_ | refine ZbA ?_ _)); exact BK198.out) NB198_190.out (by simp)); have n3_ := Zam (hb); have n4_ := Zam (hi); clear BK189 HO195 BK198 HB HI190; have BK189 := n0_; have HO195 := n1_; have BK198 := n2_; have HB := n3_; have HI190 := n4_; clear n0_ n1_ n2_ n3_ n4_; (try clear hb); (try clear hb2); (try clear hk); (try clear hi)) | ((with_reducible refine gate_callee (f := 104) rfl ?_); refine goesL_ (some 26) rfl rfl Try.func104 (by kernel_rfl) rfl #[.pointer (some ⟨gb190, 0, none⟩), .int .i64 2] rfl (by (try simp only [Zm1, Zm2, Zm3]); first | done | rfl | (simp only [ZlL, ZlT]; rfl)) ?_; (with_reducible refine (spec_l1Cur_pick.calls gb190 l0 t206 t207 2 t208 t209 t210 w _ ?side1 ?side2 A7.out).mono ?_); (case side1 => repeat (first | (with_reducible first | exact HI190.out | apply IsS156.alloc | apply IsS156.drewN | apply IsS156.drew | apply IsS156.set_1 | apply IsS156.set_2 | refine IsS156.far ?_ NB190_189.out _ | refine IsS156.far ?_ NB190_198.out _) | exact HI190.out)); (case side2 => repeat (first | (with_reducible first | exact HB.out | apply ZhA | apply ZhW | apply ZhD | refine ZhS ?_ (IsS156.ge HI190.out) | refine ZhS ?_ GE189.out | refine ZhS ?_ GE198.out) | exact HB.out)); rintro e w20 ⟨rfl, hi, hb, hk⟩; refine ⟨_, rfl, ?_⟩; have n0_ := Zam (KeepBut.blk hk (g' := gb189) (o := .cells #[.int .i64 0, .int .i64 0, .slice none 0 0] 82 (0, 0)) (by (with_reducible repeat (first | refine ZbW ?_ _ | refine ZbD ?_ | refine ZbA ?_ _)); exact BK189.out) NB189_190.out (by simp)); have n1_ := Zam (Kd.R_mono (Kd.R_keep (IsS156.apart (show IsS156 w _ gb190 l0 t206 t207 from by repeat (first | (with_reducible first | exact HI190.out | apply IsS156.alloc | apply IsS156.drewN | apply IsS156.drew | apply IsS156.set_1 | apply IsS156.set_2 | refine IsS156.far ?_ NB190_189.out _ | refine IsS156.far ?_ NB190_198.out _) | exact HI190.out)) (by (with_reducible repeat (first | apply ZrA | apply ZrW | apply ZrD)); exact HO195.out) (by decide)) hk (fun _ h => h.2)) (fun _ h => h.1)); have n2_ := Zam (KeepBut.blk hk (g' := gb198) (o := .cells #[.int .i64 t191, .int .i64 t192, .slice Ao16 t193.length co16] 82 (0, 0)) (by (with_reducible repeat (first | refine ZbW ?_ _ | refine ZbD ?_ | refine ZbA ?_ _)); exact BK198.out) NB198_190.out (by simp)); have n3_ := Zam (hb); have n4_ := Zam (hi); clear BK189 HO195 BK198 HB HI190; have BK189 := n0_; have HO195 := n1_; have BK198 := n2_; have HB := n3_; have HI190 := n4_; clear n0_ n1_ n2_ n3_ n4_; (try clear hb); (try clear hb2); (try clear hk); (try clear hi)) | ((with_reducible refine gate_callee (f := 104) rfl ?_); refine goesL_ (some 29) rfl rfl Try.func104 (by kernel_rfl) rfl #[.pointer (some ⟨gb190, 0, none⟩), .int .i64 9] rfl (by (try simp only [Zm1, Zm2, Zm3]); first | done | rfl | (simp only [ZlL, ZlT]; rfl)) ?_; (with_reducible refine (spec_l1Cur_pick.calls gb190 l0 t209 t210 9 t211 t212 t213 w _ ?side1 ?side2 A8.out).mono ?_); (case side1 => repeat (first | (with_reducible first | exact HI190.out | apply IsS156.alloc | apply IsS156.drewN | apply IsS156.drew | apply IsS156.set_1 | apply IsS156.set_2 | refine IsS156.far ?_ NB190_189.out _ | refine IsS156.far ?_ NB190_198.out _) | exact HI190.out)); (case side2 => repeat (first | (with_reducible first | exact HB.out | apply ZhA | apply ZhW | apply ZhD | refine ZhS ?_ (IsS156.ge HI190.out) | refine ZhS ?_ GE189.out | refine ZhS ?_ GE198.out) | exact HB.out)); rintro e w21 ⟨rfl, hi, hb, hk⟩; refine ⟨_, rfl, ?_⟩; have n0_ := Zam (KeepBut.blk hk (g' := gb189) (o := .cells #[.int .i64 0, .int .i64 0, .slice none 0 0] 82 (0, 0)) (by (with_reducible repeat (first | refine ZbW ?_ _ | refine ZbD ?_ | refine ZbA ?_ _)); exact BK189.out) NB189_190.out (by simp)); have n1_ := Zam (Kd.R_mono (Kd.R_keep (IsS156.apart (show IsS156 w _ gb190 l0 t209 t210 from by repeat (first | (with_reducible first | exact HI190.out | apply IsS156.alloc | apply IsS156.drewN | apply IsS156.drew | apply IsS156.set_1 | apply IsS156.set_2 | refine IsS156.far ?_ NB190_189.out _ | refine IsS156.far ?_ NB190_198.out _) | exact HI190.out)) (by (with_reducible repeat (first | apply ZrA | apply ZrW | apply ZrD)); exact HO195.out) (by decide)) hk (fun _ h => h.2)) (fun _ h => h.1)); have n2_ := Zam (KeepBut.blk hk (g' := gb198) (o := .cells #[.int .i64 t191, .int .i64 t192, .slice Ao16 t193.length co16] 82 (0, 0)) (by (with_reducible repeat (first | refine ZbW ?_ _ | refine ZbD ?_ | refine ZbA ?_ _)); exact BK198.out) NB198_190.out (by simp)); have n3_ := Zam (hb); have n4_ := Zam (hi); clear BK189 HO195 BK198 HB HI190; have BK189 := n0_; have HO195 := n1_; have BK198 := n2_; have HB := n3_; have HI190 := n4_; clear n0_ n1_ n2_ n3_ n4_; (try clear hb); (try clear hb2); (try clear hk); (try clear hi); have hcz22_0 : w21.cell? ⟨gb198, 0, none⟩ = some (.int .i64 t191) := (ZbC BK198.out 0).trans rfl; have hcz22_1 : w21.cell? ⟨gb198, 1, none⟩ = some (.int .i64 t192) := (ZbC BK198.out 1).trans rfl; have hcz22_2 : w21.cell? ⟨gb198, 2, none⟩ = some (.slice Ao16 t193.length co16) := (ZbC BK198.out 2).trans rfl; have hfz22_0 := ZbF BK198.out 0; have hfz22_1 := ZbF BK198.out 1; have hfz22_2 := ZbF BK198.out 2; have hnb23 := NB189_190.out; have hnc23 := NB190_189.out; have hcz24_0 : w21.cell? ⟨gb189, 0, none⟩ = some (.int .i64 0) := (ZbC BK189.out 0).trans rfl; have hcz24_1 : w21.cell? ⟨gb189, 1, none⟩ = some (.int .i64 0) := (ZbC BK189.out 1).trans rfl; have hcz24_2 : w21.cell? ⟨gb189, 2, none⟩ = some (.slice none 0 0) := (ZbC BK189.out 2).trans rfl; have hfz24_0 := ZbF BK189.out 0; have hfz24_1 := ZbF BK189.out 1; have hfz24_2 := ZbF BK189.out 2))
  refine bodyPost_ret (results_ctt rfl _ _ gb189 82 #[.int .i64 t191, .int .i64 t192, .slice Ao16 t193.length co16] (0, 0) _ rfl (set3_blk BK189.out) Try.underlying82 rfl (by kernel_rfl)) rfl ?_
  exact ⟨_, by first | rfl | (simp [*, errW_none, errW_some] <;> rfl), by (with_reducible repeat (first | apply ZrA | apply ZrW | apply ZrD)); exact Kd.R_mono (set3_R (Kd.R_types HO195.out BK189.out (by decide)) (fun _ hk => hk.2)) (fun _ hk => trivial), by repeat (first | (with_reducible first | exact HB.out | apply ZhA | apply ZhW | apply ZhD | refine ZhS ?_ (IsS156.ge HI190.out) | refine ZhS ?_ GE189.out | refine ZhS ?_ GE198.out) | exact HB.out)⟩
 rw [if_neg c6] at H
 have c6b0 : (t205 == 0) = false := beq_eq_false_iff_ne.mpr c6
 have c6b1 : (t205 != 0) = true := bne_iff_ne.mpr c6
 by_cases c25 : t205 = 1
 rotate_left
 ·rw [if_neg c25] at H
  have c25b0 : (t205 == 1) = false := beq_eq_false_iff_ne.mpr c25
  have c25b1 : (t205 != 1) = true := bne_iff_ne.mpr c25
  simp only [Option.some.injEq, Prod.mk.injEq] at H
  obtain ⟨rfl, rfl, rfl, rfl, rfl⟩ := H
  go_enter Try.func57, Try.ntmps57
  go_wp2_with (first | ((with_reducible refine gate_dst (N := 2) rfl ?_); refine box_event ?hg (N := 2) ?hd (cs := #[.int .i64 0, .int .i64 0, .slice none 0 0]) (t := 82) ?hr ?_; (case hd => rfl); (case hg => rfl); (case hr => first | (go_simp; done) | (go_simp; rfl)); intro gb189 hg w42 hbox hb; have n0_ := Zam (ZbS (by repeat (first | (with_reducible first | exact HB.out | apply ZhA | apply ZhW | apply ZhD) | exact HB.out)) hb); have n1_ := Zam (hbox); have n2_ := Zam ((by rw [hg]; exact (below_size (by repeat (first | (with_reducible first | exact HB.out | apply ZhA | apply ZhW | apply ZhD) | exact HB.out))) : w.heap.size ≤ gb189)); have n3_ := n2_; clear HB; have HB := n0_; have BK189 := n1_; have GW189 := n2_; have GE189 := n3_; clear n0_ n1_ n2_ n3_; clear hb hbox hg) | ((with_reducible refine gate_dst (N := 11) rfl ?_); refine box_event ?hg (N := 11) ?hd (cs := #[.slice A0 l0.length c0, .int .i64 0, .int .u64 0]) (t := 156) ?hr ?_; (case hd => rfl); (case hg => rfl); (case hr => first | (go_simp; done) | (go_simp; rfl)); intro gb190 hg w43 hbox hb; have n0_ := Zam (ZbB (g := gb189) (o := .cells #[.int .i64 0, .int .i64 0, .slice none 0 0] 82 (0, 0)) (by (with_reducible repeat (first | refine ZbW ?_ _ | refine ZbD ?_ | refine ZbA ?_ _)); exact BK189.out) hb); have n1_ := Zam (ZbS (by repeat (first | (with_reducible first | exact HB.out | apply ZhA | apply ZhW | apply ZhD | refine ZhS ?_ GE189.out) | exact HB.out)) hb); have n2_ := Zam ((by rw [hg]; exact (below_size (by repeat (first | (with_reducible first | exact HB.out | apply ZhA | apply ZhW | apply ZhD | refine ZhS ?_ GE189.out) | exact HB.out))) : w.heap.size ≤ gb190)); have n3_ := Zam ((show IsS156 w w43 gb190 l0 0 0 from ⟨_, _, hbox, (by rw [hg]; exact (below_size (by repeat (first | (with_reducible first | exact HB.out | apply ZhA | apply ZhW | apply ZhD | refine ZhS ?_ GE189.out) | exact HB.out)))), HR0.out⟩)); have n4_ := Zam ((by rw [hg]; exact Nat.ne_of_lt (blk_lt (g := gb189) (o := .cells #[.int .i64 0, .int .i64 0, .slice none 0 0] 82 (0, 0)) (by (with_reducible repeat (first | refine ZbW ?_ _ | refine ZbD ?_ | refine ZbA ?_ _)); exact BK189.out)) : gb189 ≠ gb190)); have n5_ := Zam ((by rw [hg]; exact Nat.ne_of_gt (blk_lt (g := gb189) (o := .cells #[.int .i64 0, .int .i64 0, .slice none 0 0] 82 (0, 0)) (by (with_reducible repeat (first | refine ZbW ?_ _ | refine ZbD ?_ | refine ZbA ?_ _)); exact BK189.out)) : gb190 ≠ gb189)); clear BK189 HB; have BK189 := n0_; have HB := n1_; have GW190 := n2_; have HI190 := n3_; have NB189_190 := n4_; have NB190_189 := n5_; clear n0_ n1_ n2_ n3_ n4_ n5_; clear hb hbox hg) | ((with_reducible refine gate_callee (f := 129) rfl ?_); refine goesL_ (some 14) rfl rfl Try.func129 (by kernel_rfl) rfl #[.slice A0 l0.length c0, .pointer (some ⟨gb190, 0, none⟩)] rfl (by (try simp only [Zm1, Zm2, Zm3]); first | done | rfl | (simp only [ZlL, ZlT]; rfl)) ?_; (with_reducible refine (spec_l7Plane.calls k _ _ l0 gb190 l0 0 0 t191 t192 t193 t196 t197 w _ ?side1 ?side2 ?side3 ?side4 ?side5 A2.out).mono ?_); (case side1 => repeat (first | (with_reducible first | exact HI190.out | apply IsS156.alloc | apply IsS156.drewN | apply IsS156.drew | apply IsS156.set_1 | apply IsS156.set_2 | refine IsS156.far ?_ NB190_189.out _) | exact HI190.out)); (case side2 => repeat (first | (with_reducible first | exact HB.out | apply ZhA | apply ZhW | apply ZhD | refine ZhS ?_ (IsS156.ge HI190.out) | refine ZhS ?_ GE189.out) | exact HB.out)); (case side3 => repeat (first | exact (Kd.C_below HR0.out HB.out) | (with_reducible refine Kd.C_alloc ?_ _) | (with_reducible refine Kd.C_drewN ?_ _) | (with_reducible refine Kd.C_drew ?_))); (case side4 => exact HC0.out); (case side5 => exact Kd.far_C 0 HR0.out (IsS156.ge HI190.out)); rintro e w44 ⟨v194, rfl, ho0, hi, hb, hk⟩; refine ⟨_, rfl, ?_⟩; have n0_ := Zam (KeepBut.blk hk (g' := gb189) (o := .cells #[.int .i64 0, .int .i64 0, .slice none 0 0] 82 (0, 0)) (by (with_reducible repeat (first | refine ZbW ?_ _ | refine ZbD ?_ | refine ZbA ?_ _)); exact BK189.out) NB189_190.out (by simp)); have n1_ := Zam (Kd.R_lower ho0 (below_size (by repeat (first | (with_reducible first | exact HB.out | apply ZhA | apply ZhW | apply ZhD | refine ZhS ?_ (IsS156.ge HI190.out) | refine ZhS ?_ GE189.out) | exact HB.out)))); have n2_ := Zam (hb); have n3_ := Zam (hi); clear BK189 HB HI190; have BK189 := n0_; have HO195 := n1_; have HB := n2_; have HI190 := n3_; clear n0_ n1_ n2_ n3_; (try clear hb); (try clear hb2); (try clear hk); (try clear hi); (try clear ho0)) | ((with_reducible refine gate_dst (N := 6) rfl ?_); refine box_event ?hg (N := 6) ?hd (cs := #[.int .i64 0, .int .i64 0, .slice none 0 0]) (t := 82) ?hr ?_; (case hd => rfl); (case hg => rfl); (case hr => first | (go_simp; done) | (go_simp; rfl)); intro gb198 hg w45 hbox hb; have n0_ := Zam (Kd.R_below (by (with_reducible repeat (first | apply ZrA | apply ZrW | apply ZrD)); exact HO195.out) hb); have n1_ := Zam (ZbB (g := gb189) (o := .cells #[.int .i64 0, .int .i64 0, .slice none 0 0] 82 (0, 0)) (by (with_reducible repeat (first | refine ZbW ?_ _ | refine ZbD ?_ | refine ZbA ?_ _)); exact BK189.out) hb); have n2_ := Zam (IsS156.below (by repeat (first | (with_reducible first | exact HI190.out | apply IsS156.alloc | apply IsS156.drewN | apply IsS156.drew | apply IsS156.set_1 | apply IsS156.set_2 | refine IsS156.far ?_ NB190_189.out _) | exact HI190.out)) hb); have n3_ := Zam (ZbS (by repeat (first | (with_reducible first | exact HB.out | apply ZhA | apply ZhW | apply ZhD | refine ZhS ?_ (IsS156.ge HI190.out) | refine ZhS ?_ GE189.out) | exact HB.out)) hb); have n4_ := Zam (hbox); have n5_ := Zam ((by rw [hg]; exact (below_size (by repeat (first | (with_reducible first | exact HB.out | apply ZhA | apply ZhW | apply ZhD | refine ZhS ?_ (IsS156.ge HI190.out) | refine ZhS ?_ GE189.out) | exact HB.out))) : w.heap.size ≤ gb198)); have n6_ := n5_; have n7_ := Zam ((by rw [hg]; exact Nat.ne_of_lt (blk_lt (g := gb189) (o := .cells #[.int .i64 0, .int .i64 0, .slice none 0 0] 82 (0, 0)) (by (with_reducible repeat (first | refine ZbW ?_ _ | refine ZbD ?_ | refine ZbA ?_ _)); exact BK189.out)) : gb189 ≠ gb198)); have n8_ := Zam ((by rw [hg]; exact Nat.ne_of_gt (blk_lt (g := gb189) (o := .cells #[.int .i64 0, .int .i64 0, .slice none 0 0] 82 (0, 0)) (by (with_reducible repeat (first | refine ZbW ?_ _ | refine ZbD ?_ | refine ZbA ?_ _)); exact BK189.out)) : gb198 ≠ gb189)); have n9_ := Zam ((by rw [hg]; exact Nat.ne_of_lt (IsS156.lt (show IsS156 w _ gb190 l0 t196 t197 from by repeat (first | (with_reducible first | exact HI190.out | apply IsS156.alloc | apply IsS156.drewN | apply IsS156.drew | apply IsS156.set_1 | apply IsS156.set_2 | refine IsS156.far ?_ NB190_189.out _) | exact HI190.out))) : gb190 ≠ gb198)); have n10_ := Zam ((by rw [hg]; exact Nat.ne_of_gt (IsS156.lt (show IsS156 w _ gb190 l0 t196 t197 from by repeat (first | (with_reducible first | exact HI190.out | apply IsS156.alloc | apply IsS156.drewN | apply IsS156.drew | apply IsS156.set_1 | apply IsS156.set_2 | refine IsS156.far ?_ NB190_189.out _) | exact HI190.out))) : gb198 ≠ gb190)); clear HO195 BK189 HI190 HB; have HO195 := n0_; have BK189 := n1_; have HI190 := n2_; have HB := n3_; have BK198 := n4_; have GW198 := n5_; have GE198 := n6_; have NB189_198 := n7_; have NB198_189 := n8_; have NB190_198 := n9_; have NB198_190 := n10_; clear n0_ n1_ n2_ n3_ n4_ n5_ n6_ n7_ n8_ n9_ n10_; clear hb hbox hg; have hnb46 := NB198_189.out; have hnc46 := NB189_198.out; have hnb47 := NB198_190.out; have hnc47 := NB190_198.out; have hcz48_0 : w45.cell? ⟨gb198, 0, none⟩ = some (.int .i64 0) := (ZbC BK198.out 0).trans rfl; have hcz48_1 : w45.cell? ⟨gb198, 1, none⟩ = some (.int .i64 0) := (ZbC BK198.out 1).trans rfl; have hcz48_2 : w45.cell? ⟨gb198, 2, none⟩ = some (.slice none 0 0) := (ZbC BK198.out 2).trans rfl; have hfz48_0 := ZbF BK198.out 0; have hfz48_1 := ZbF BK198.out 1; have hfz48_2 := ZbF BK198.out 2; obtain ⟨Ao49, co49, eo49⟩ := Kd.R_slice HO195.out; subst eo49) | ((with_reducible refine gate_callee (f := 104) rfl ?_); refine goesL_ (some 16) rfl rfl Try.func104 (by kernel_rfl) rfl #[.pointer (some ⟨gb190, 0, none⟩), .int .i64 20] rfl (by (try simp only [Zm1, Zm2, Zm3]); first | done | rfl | (simp only [ZlL, ZlT]; rfl)) ?_; (with_reducible refine (spec_l1Cur_pick.calls gb190 l0 t196 t197 20 t199 t200 t201 w _ ?side1 ?side2 A3.out).mono ?_); (case side1 => repeat (first | (with_reducible first | exact HI190.out | apply IsS156.alloc | apply IsS156.drewN | apply IsS156.drew | apply IsS156.set_1 | apply IsS156.set_2 | refine IsS156.far ?_ NB190_189.out _ | refine IsS156.far ?_ NB190_198.out _) | exact HI190.out)); (case side2 => repeat (first | (with_reducible first | exact HB.out | apply ZhA | apply ZhW | apply ZhD | refine ZhS ?_ (IsS156.ge HI190.out) | refine ZhS ?_ GE189.out | refine ZhS ?_ GE198.out) | exact HB.out)); rintro e w50 ⟨rfl, hi, hb, hk⟩; refine ⟨_, rfl, ?_⟩; have n0_ := Zam (KeepBut.blk hk (g' := gb189) (o := .cells #[.int .i64 0, .int .i64 0, .slice none 0 0] 82 (0, 0)) (by (with_reducible repeat (first | refine ZbW ?_ _ | refine ZbD ?_ | refine ZbA ?_ _)); refine blk_far ?_ NB189_198.out _; (with_reducible repeat (first | refine ZbW ?_ _ | refine ZbD ?_ | refine ZbA ?_ _)); refine blk_far ?_ NB189_198.out _; (with_reducible repeat (first | refine ZbW ?_ _ | refine ZbD ?_ | refine ZbA ?_ _)); refine blk_far ?_ NB189_198.out _; (with_reducible repeat (first | refine ZbW ?_ _ | refine ZbD ?_ | refine ZbA ?_ _)); exact BK189.out) NB189_190.out (by simp)); have n1_ := Zam (Kd.R_mono (Kd.R_keep (IsS156.apart (show IsS156 w _ gb190 l0 t196 t197 from by repeat (first | (with_reducible first | exact HI190.out | apply IsS156.alloc | apply IsS156.drewN | apply IsS156.drew | apply IsS156.set_1 | apply IsS156.set_2 | refine IsS156.far ?_ NB190_189.out _ | refine IsS156.far ?_ NB190_198.out _) | exact HI190.out)) (by (with_reducible repeat (first | apply ZrA | apply ZrW | apply ZrD)); exact (Kd.R_mono (set3_R (Kd.R_types HO195.out BK198.out (by decide)) (fun _ hk => hk.2)) (fun _ h_ => h_.1))) (by decide)) hk (fun _ h => h.2)) (fun _ h => h.1)); have n2_ := Zam (KeepBut.blk hk (g' := gb198) (o := .cells #[.int .i64 t191, .int .i64 t192, .slice Ao49 t193.length co49] 82 (0, 0)) (by (with_reducible repeat (first | refine ZbW ?_ _ | refine ZbD ?_ | refine ZbA ?_ _)); exact set3_blk (by (with_reducible repeat (first | refine ZbW ?_ _ | refine ZbD ?_ | refine ZbA ?_ _)); exact BK198.out)) NB198_190.out (by simp)); have n3_ := Zam (hb); have n4_ := Zam (hi); clear BK189 HO195 BK198 HB HI190; have BK189 := n0_; have HO195 := n1_; have BK198 := n2_; have HB := n3_; have HI190 := n4_; clear n0_ n1_ n2_ n3_ n4_; (try clear hb); (try clear hb2); (try clear hk); (try clear hi)) | ((with_reducible refine gate_callee (f := 104) rfl ?_); refine goesL_ (some 19) rfl rfl Try.func104 (by kernel_rfl) rfl #[.pointer (some ⟨gb190, 0, none⟩), .int .i64 20] rfl (by (try simp only [Zm1, Zm2, Zm3]); first | done | rfl | (simp only [ZlL, ZlT]; rfl)) ?_; (with_reducible refine (spec_l1Cur_pick.calls gb190 l0 t200 t201 20 t202 t203 t204 w _ ?side1 ?side2 A4.out).mono ?_); (case side1 => repeat (first | (with_reducible first | exact HI190.out | apply IsS156.alloc | apply IsS156.drewN | apply IsS156.drew | apply IsS156.set_1 | apply IsS156.set_2 | refine IsS156.far ?_ NB190_189.out _ | refine IsS156.far ?_ NB190_198.out _) | exact HI190.out)); (case side2 => repeat (first | (with_reducible first | exact HB.out | apply ZhA | apply ZhW | apply ZhD | refine ZhS ?_ (IsS156.ge HI190.out) | refine ZhS ?_ GE189.out | refine ZhS ?_ GE198.out) | exact HB.out)); rintro e w51 ⟨rfl, hi, hb, hk⟩; refine ⟨_, rfl, ?_⟩; have n0_ := Zam (KeepBut.blk hk (g' := gb189) (o := .cells #[.int .i64 0, .int .i64 0, .slice none 0 0] 82 (0, 0)) (by (with_reducible repeat (first | refine ZbW ?_ _ | refine ZbD ?_ | refine ZbA ?_ _)); exact BK189.out) NB189_190.out (by simp)); have n1_ := Zam (Kd.R_mono (Kd.R_keep (IsS156.apart (show IsS156 w _ gb190 l0 t200 t201 from by repeat (first | (with_reducible first | exact HI190.out | apply IsS156.alloc | apply IsS156.drewN | apply IsS156.drew | apply IsS156.set_1 | apply IsS156.set_2 | refine IsS156.far ?_ NB190_189.out _ | refine IsS156.far ?_ NB190_198.out _) | exact HI190.out)) (by (with_reducible repeat (first | apply ZrA | apply ZrW | apply ZrD)); exact HO195.out) (by decide)) hk (fun _ h => h.2)) (fun _ h => h.1)); have n2_ := Zam (KeepBut.blk hk (g' := gb198) (o := .cells #[.int .i64 t191, .int .i64 t192, .slice Ao49 t193.length co49] 82 (0, 0)) (by (with_reducible repeat (first | refine ZbW ?_ _ | refine ZbD ?_ | refine ZbA ?_ _)); exact BK198.out) NB198_190.out (by simp)); have n3_ := Zam (hb); have n4_ := Zam (hi); clear BK189 HO195 BK198 HB HI190; have BK189 := n0_; have HO195 := n1_; have BK198 := n2_; have HB := n3_; have HI190 := n4_; clear n0_ n1_ n2_ n3_ n4_; (try clear hb); (try clear hb2); (try clear hk); (try clear hi)) | ((with_reducible refine gate_callee (f := 104) rfl ?_); refine goesL_ (some 22) rfl rfl Try.func104 (by kernel_rfl) rfl #[.pointer (some ⟨gb190, 0, none⟩), .int .i64 14] rfl (by (try simp only [Zm1, Zm2, Zm3]); first | done | rfl | (simp only [ZlL, ZlT]; rfl)) ?_; (with_reducible refine (spec_l1Cur_pick.calls gb190 l0 t203 t204 14 t205 t206 t207 w _ ?side1 ?side2 A5.out).mono ?_); (case side1 => repeat (first | (with_reducible first | exact HI190.out | apply IsS156.alloc | apply IsS156.drewN | apply IsS156.drew | apply IsS156.set_1 | apply IsS156.set_2 | refine IsS156.far ?_ NB190_189.out _ | refine IsS156.far ?_ NB190_198.out _) | exact HI190.out)); (case side2 => repeat (first | (with_reducible first | exact HB.out | apply ZhA | apply ZhW | apply ZhD | refine ZhS ?_ (IsS156.ge HI190.out) | refine ZhS ?_ GE189.out | refine ZhS ?_ GE198.out) | exact HB.out)); rintro e w52 ⟨rfl, hi, hb, hk⟩; refine ⟨_, rfl, ?_⟩; have n0_ := Zam (KeepBut.blk hk (g' := gb189) (o := .cells #[.int .i64 0, .int .i64 0, .slice none 0 0] 82 (0, 0)) (by (with_reducible repeat (first | refine ZbW ?_ _ | refine ZbD ?_ | refine ZbA ?_ _)); exact BK189.out) NB189_190.out (by simp)); have n1_ := Zam (Kd.R_mono (Kd.R_keep (IsS156.apart (show IsS156 w _ gb190 l0 t203 t204 from by repeat (first | (with_reducible first | exact HI190.out | apply IsS156.alloc | apply IsS156.drewN | apply IsS156.drew | apply IsS156.set_1 | apply IsS156.set_2 | refine IsS156.far ?_ NB190_189.out _ | refine IsS156.far ?_ NB190_198.out _) | exact HI190.out)) (by (with_reducible repeat (first | apply ZrA | apply ZrW | apply ZrD)); exact HO195.out) (by decide)) hk (fun _ h => h.2)) (fun _ h => h.1)); have n2_ := Zam (KeepBut.blk hk (g' := gb198) (o := .cells #[.int .i64 t191, .int .i64 t192, .slice Ao49 t193.length co49] 82 (0, 0)) (by (with_reducible repeat (first | refine ZbW ?_ _ | refine ZbD ?_ | refine ZbA ?_ _)); exact BK198.out) NB198_190.out (by simp)); have n3_ := Zam (hb); have n4_ := Zam (hi); clear BK189 HO195 BK198 HB HI190; have BK189 := n0_; have HO195 := n1_; have BK198 := n2_; have HB := n3_; have HI190 := n4_; clear n0_ n1_ n2_ n3_ n4_; (try clear hb); (try clear hb2); (try clear hk); (try clear hi); have hcz53_0 : w52.cell? ⟨gb198, 0, none⟩ = some (.int .i64 t191) := (ZbC BK198.out 0).trans rfl; have hcz53_1 : w52.cell? ⟨gb198, 1, none⟩ = some (.int .i64 t192) := (ZbC BK198.out 1).trans rfl; have hcz53_2 : w52.cell? ⟨gb198, 2, none⟩ = some (.slice Ao49 t193.length co49) := (ZbC BK198.out 2).trans rfl; have hfz53_0 := ZbF BK198.out 0; have hfz53_1 := ZbF BK198.out 1; have hfz53_2 := ZbF BK198.out 2; have hnb54 := NB189_190.out; have hnc54 := NB190_189.out; have hcz55_0 : w52.cell? ⟨gb189, 0, none⟩ = some (.int .i64 0) := (ZbC BK189.out 0).trans rfl; have hcz55_1 : w52.cell? ⟨gb189, 1, none⟩ = some (.int .i64 0) := (ZbC BK189.out 1).trans rfl; have hcz55_2 : w52.cell? ⟨gb189, 2, none⟩ = some (.slice none 0 0) := (ZbC BK189.out 2).trans rfl; have hfz55_0 := ZbF BK189.out 0; have hfz55_1 := ZbF BK189.out 1; have hfz55_2 := ZbF BK189.out 2))
  refine bodyPost_ret (results_ctt rfl _ _ gb189 82 #[.int .i64 t191, .int .i64 t192, .slice Ao49 t193.length co49] (0, 0) _ rfl (set3_blk BK189.out) Try.underlying82 rfl (by kernel_rfl)) rfl ?_
  exact ⟨_, by first | rfl | (simp [*, errW_none, errW_some] <;> rfl), by (with_reducible repeat (first | apply ZrA | apply ZrW | apply ZrD)); exact Kd.R_mono (set3_R (Kd.R_types HO195.out BK189.out (by decide)) (fun _ hk => hk.2)) (fun _ hk => trivial), by repeat (first | (with_reducible first | exact HB.out | apply ZhA | apply ZhW | apply ZhD | refine ZhS ?_ (IsS156.ge HI190.out) | refine ZhS ?_ GE189.out | refine ZhS ?_ GE198.out) | exact HB.out)⟩
 rw [if_pos c25] at H
 have c25b0 : (t205 == 1) = true := beq_iff_eq.mpr c25
 have c25b1 : (t205 != 1) = false := bne_eq_false_iff_eq.mpr c25
 clear c25
 replace H := Zob.mp H
 obtain ⟨⟨t214, t215, t216⟩, A260, H⟩ := H
 replace H : (some (t191, t192, t193, wrap64 (1 + t199), t214)) = some (r1, r2, r3, r4, r5) := H
 have A26 := Zam A260
 clear A260
 simp only [Option.some.injEq, Prod.mk.injEq] at H
 obtain ⟨rfl, rfl, rfl, rfl, rfl⟩ := H
 go_enter Try.func57, Try.ntmps57
 go_wp2_with (first | ((with_reducible refine gate_dst (N := 2) rfl ?_); refine box_event ?hg (N := 2) ?hd (cs := #[.int .i64 0, .int .i64 0, .slice none 0 0]) (t := 82) ?hr ?_; (case hd => rfl); (case hg => rfl); (case hr => first | (go_simp; done) | (go_simp; rfl)); intro gb189 hg w27 hbox hb; have n0_ := Zam (ZbS (by repeat (first | (with_reducible first | exact HB.out | apply ZhA | apply ZhW | apply ZhD) | exact HB.out)) hb); have n1_ := Zam (hbox); have n2_ := Zam ((by rw [hg]; exact (below_size (by repeat (first | (with_reducible first | exact HB.out | apply ZhA | apply ZhW | apply ZhD) | exact HB.out))) : w.heap.size ≤ gb189)); have n3_ := n2_; clear HB; have HB := n0_; have BK189 := n1_; have GW189 := n2_; have GE189 := n3_; clear n0_ n1_ n2_ n3_; clear hb hbox hg) | ((with_reducible refine gate_dst (N := 11) rfl ?_); refine box_event ?hg (N := 11) ?hd (cs := #[.slice A0 l0.length c0, .int .i64 0, .int .u64 0]) (t := 156) ?hr ?_; (case hd => rfl); (case hg => rfl); (case hr => first | (go_simp; done) | (go_simp; rfl)); intro gb190 hg w28 hbox hb; have n0_ := Zam (ZbB (g := gb189) (o := .cells #[.int .i64 0, .int .i64 0, .slice none 0 0] 82 (0, 0)) (by (with_reducible repeat (first | refine ZbW ?_ _ | refine ZbD ?_ | refine ZbA ?_ _)); exact BK189.out) hb); have n1_ := Zam (ZbS (by repeat (first | (with_reducible first | exact HB.out | apply ZhA | apply ZhW | apply ZhD | refine ZhS ?_ GE189.out) | exact HB.out)) hb); have n2_ := Zam ((by rw [hg]; exact (below_size (by repeat (first | (with_reducible first | exact HB.out | apply ZhA | apply ZhW | apply ZhD | refine ZhS ?_ GE189.out) | exact HB.out))) : w.heap.size ≤ gb190)); have n3_ := Zam ((show IsS156 w w28 gb190 l0 0 0 from ⟨_, _, hbox, (by rw [hg]; exact (below_size (by repeat (first | (with_reducible first | exact HB.out | apply ZhA | apply ZhW | apply ZhD | refine ZhS ?_ GE189.out) | exact HB.out)))), HR0.out⟩)); have n4_ := Zam ((by rw [hg]; exact Nat.ne_of_lt (blk_lt (g := gb189) (o := .cells #[.int .i64 0, .int .i64 0, .slice none 0 0] 82 (0, 0)) (by (with_reducible repeat (first | refine ZbW ?_ _ | refine ZbD ?_ | refine ZbA ?_ _)); exact BK189.out)) : gb189 ≠ gb190)); have n5_ := Zam ((by rw [hg]; exact Nat.ne_of_gt (blk_lt (g := gb189) (o := .cells #[.int .i64 0, .int .i64 0, .slice none 0 0] 82 (0, 0)) (by (with_reducible repeat (first | refine ZbW ?_ _ | refine ZbD ?_ | refine ZbA ?_ _)); exact BK189.out)) : gb190 ≠ gb189)); clear BK189 HB; have BK189 := n0_; have HB := n1_; have GW190 := n2_; have HI190 := n3_; have NB189_190 := n4_; have NB190_189 := n5_; clear n0_ n1_ n2_ n3_ n4_ n5_; clear hb hbox hg) | ((with_reducible refine gate_callee (f := 129) rfl ?_); refine goesL_ (some 14) rfl rfl Try.func129 (by kernel_rfl) rfl #[.slice A0 l0.length c0, .pointer (some ⟨gb190, 0, none⟩)] rfl (by (try simp only [Zm1, Zm2, Zm3]); first | done | rfl | (simp only [ZlL, ZlT]; rfl)) ?_; (with_reducible refine (spec_l7Plane.calls k _ _ l0 gb190 l0 0 0 t191 t192 t193 t196 t197 w _ ?side1 ?side2 ?side3 ?side4 ?side5 A2.out).mono ?_); (case side1 => repeat (first | (with_reducible first | exact HI190.out | apply IsS156.alloc | apply IsS156.drewN | apply IsS156.drew | apply IsS156.set_1 | apply IsS156.set_2 | refine IsS156.far ?_ NB190_189.out _) | exact HI190.out)); (case side2 => repeat (first | (with_reducible first | exact HB.out | apply ZhA | apply ZhW | apply ZhD | refine ZhS ?_ (IsS156.ge HI190.out) | refine ZhS ?_ GE189.out) | exact HB.out)); (case side3 => repeat (first | exact (Kd.C_below HR0.out HB.out) | (with_reducible refine Kd.C_alloc ?_ _) | (with_reducible refine Kd.C_drewN ?_ _) | (with_reducible refine Kd.C_drew ?_))); (case side4 => exact HC0.out); (case side5 => exact Kd.far_C 0 HR0.out (IsS156.ge HI190.out)); rintro e w29 ⟨v194, rfl, ho0, hi, hb, hk⟩; refine ⟨_, rfl, ?_⟩; have n0_ := Zam (KeepBut.blk hk (g' := gb189) (o := .cells #[.int .i64 0, .int .i64 0, .slice none 0 0] 82 (0, 0)) (by (with_reducible repeat (first | refine ZbW ?_ _ | refine ZbD ?_ | refine ZbA ?_ _)); exact BK189.out) NB189_190.out (by simp)); have n1_ := Zam (Kd.R_lower ho0 (below_size (by repeat (first | (with_reducible first | exact HB.out | apply ZhA | apply ZhW | apply ZhD | refine ZhS ?_ (IsS156.ge HI190.out) | refine ZhS ?_ GE189.out) | exact HB.out)))); have n2_ := Zam (hb); have n3_ := Zam (hi); clear BK189 HB HI190; have BK189 := n0_; have HO195 := n1_; have HB := n2_; have HI190 := n3_; clear n0_ n1_ n2_ n3_; (try clear hb); (try clear hb2); (try clear hk); (try clear hi); (try clear ho0)) | ((with_reducible refine gate_dst (N := 6) rfl ?_); refine box_event ?hg (N := 6) ?hd (cs := #[.int .i64 0, .int .i64 0, .slice none 0 0]) (t := 82) ?hr ?_; (case hd => rfl); (case hg => rfl); (case hr => first | (go_simp; done) | (go_simp; rfl)); intro gb198 hg w30 hbox hb; have n0_ := Zam (Kd.R_below (by (with_reducible repeat (first | apply ZrA | apply ZrW | apply ZrD)); exact HO195.out) hb); have n1_ := Zam (ZbB (g := gb189) (o := .cells #[.int .i64 0, .int .i64 0, .slice none 0 0] 82 (0, 0)) (by (with_reducible repeat (first | refine ZbW ?_ _ | refine ZbD ?_ | refine ZbA ?_ _)); exact BK189.out) hb); have n2_ := Zam (IsS156.below (by repeat (first | (with_reducible first | exact HI190.out | apply IsS156.alloc | apply IsS156.drewN | apply IsS156.drew | apply IsS156.set_1 | apply IsS156.set_2 | refine IsS156.far ?_ NB190_189.out _) | exact HI190.out)) hb); have n3_ := Zam (ZbS (by repeat (first | (with_reducible first | exact HB.out | apply ZhA | apply ZhW | apply ZhD | refine ZhS ?_ (IsS156.ge HI190.out) | refine ZhS ?_ GE189.out) | exact HB.out)) hb); have n4_ := Zam (hbox); have n5_ := Zam ((by rw [hg]; exact (below_size (by repeat (first | (with_reducible first | exact HB.out | apply ZhA | apply ZhW | apply ZhD | refine ZhS ?_ (IsS156.ge HI190.out) | refine ZhS ?_ GE189.out) | exact HB.out))) : w.heap.size ≤ gb198)); have n6_ := n5_; have n7_ := Zam ((by rw [hg]; exact Nat.ne_of_lt (blk_lt (g := gb189) (o := .cells #[.int .i64 0, .int .i64 0, .slice none 0 0] 82 (0, 0)) (by (with_reducible repeat (first | refine ZbW ?_ _ | refine ZbD ?_ | refine ZbA ?_ _)); exact BK189.out)) : gb189 ≠ gb198)); have n8_ := Zam ((by rw [hg]; exact Nat.ne_of_gt (blk_lt (g := gb189) (o := .cells #[.int .i64 0, .int .i64 0, .slice none 0 0] 82 (0, 0)) (by (with_reducible repeat (first | refine ZbW ?_ _ | refine ZbD ?_ | refine ZbA ?_ _)); exact BK189.out)) : gb198 ≠ gb189)); have n9_ := Zam ((by rw [hg]; exact Nat.ne_of_lt (IsS156.lt (show IsS156 w _ gb190 l0 t196 t197 from by repeat (first | (with_reducible first | exact HI190.out | apply IsS156.alloc | apply IsS156.drewN | apply IsS156.drew | apply IsS156.set_1 | apply IsS156.set_2 | refine IsS156.far ?_ NB190_189.out _) | exact HI190.out))) : gb190 ≠ gb198)); have n10_ := Zam ((by rw [hg]; exact Nat.ne_of_gt (IsS156.lt (show IsS156 w _ gb190 l0 t196 t197 from by repeat (first | (with_reducible first | exact HI190.out | apply IsS156.alloc | apply IsS156.drewN | apply IsS156.drew | apply IsS156.set_1 | apply IsS156.set_2 | refine IsS156.far ?_ NB190_189.out _) | exact HI190.out))) : gb198 ≠ gb190)); clear HO195 BK189 HI190 HB; have HO195 := n0_; have BK189 := n1_; have HI190 := n2_; have HB := n3_; have BK198 := n4_; have GW198 := n5_; have GE198 := n6_; have NB189_198 := n7_; have NB198_189 := n8_; have NB190_198 := n9_; have NB198_190 := n10_; clear n0_ n1_ n2_ n3_ n4_ n5_ n6_ n7_ n8_ n9_ n10_; clear hb hbox hg; have hnb31 := NB198_189.out; have hnc31 := NB189_198.out; have hnb32 := NB198_190.out; have hnc32 := NB190_198.out; have hcz33_0 : w30.cell? ⟨gb198, 0, none⟩ = some (.int .i64 0) := (ZbC BK198.out 0).trans rfl; have hcz33_1 : w30.cell? ⟨gb198, 1, none⟩ = some (.int .i64 0) := (ZbC BK198.out 1).trans rfl; have hcz33_2 : w30.cell? ⟨gb198, 2, none⟩ = some (.slice none 0 0) := (ZbC BK198.out 2).trans rfl; have hfz33_0 := ZbF BK198.out 0; have hfz33_1 := ZbF BK198.out 1; have hfz33_2 := ZbF BK198.out 2; obtain ⟨Ao34, co34, eo34⟩ := Kd.R_slice HO195.out; subst eo34) | ((with_reducible refine gate_callee (f := 104) rfl ?_); refine goesL_ (some 16) rfl rfl Try.func104 (by kernel_rfl) rfl #[.pointer (some ⟨gb190, 0, none⟩), .int .i64 20] rfl (by (try simp only [Zm1, Zm2, Zm3]); first | done | rfl | (simp only [ZlL, ZlT]; rfl)) ?_; (with_reducible refine (spec_l1Cur_pick.calls gb190 l0 t196 t197 20 t199 t200 t201 w _ ?side1 ?side2 A3.out).mono ?_); (case side1 => repeat (first | (with_reducible first | exact HI190.out | apply IsS156.alloc | apply IsS156.drewN | apply IsS156.drew | apply IsS156.set_1 | apply IsS156.set_2 | refine IsS156.far ?_ NB190_189.out _ | refine IsS156.far ?_ NB190_198.out _) | exact HI190.out)); (case side2 => repeat (first | (with_reducible first | exact HB.out | apply ZhA | apply ZhW | apply ZhD | refine ZhS ?_ (IsS156.ge HI190.out) | refine ZhS ?_ GE189.out | refine ZhS ?_ GE198.out) | exact HB.out)); rintro e w35 ⟨rfl, hi, hb, hk⟩; refine ⟨_, rfl, ?_⟩; have n0_ := Zam (KeepBut.blk hk (g' := gb189) (o := .cells #[.int .i64 0, .int .i64 0, .slice none 0 0] 82 (0, 0)) (by (with_reducible repeat (first | refine ZbW ?_ _ | refine ZbD ?_ | refine ZbA ?_ _)); refine blk_far ?_ NB189_198.out _; (with_reducible repeat (first | refine ZbW ?_ _ | refine ZbD ?_ | refine ZbA ?_ _)); refine blk_far ?_ NB189_198.out _; (with_reducible repeat (first | refine ZbW ?_ _ | refine ZbD ?_ | refine ZbA ?_ _)); refine blk_far ?_ NB189_198.out _; (with_reducible repeat (first | refine ZbW ?_ _ | refine ZbD ?_ | refine ZbA ?_ _)); exact BK189.out) NB189_190.out (by simp)); have n1_ := Zam (Kd.R_mono (Kd.R_keep (IsS156.apart (show IsS156 w _ gb190 l0 t196 t197 from by repeat (first | (with_reducible first | exact HI190.out | apply IsS156.alloc | apply IsS156.drewN | apply IsS156.drew | apply IsS156.set_1 | apply IsS156.set_2 | refine IsS156.far ?_ NB190_189.out _ | refine IsS156.far ?_ NB190_198.out _) | exact HI190.out)) (by (with_reducible repeat (first | apply ZrA | apply ZrW | apply ZrD)); exact (Kd.R_mono (set3_R (Kd.R_types HO195.out BK198.out (by decide)) (fun _ hk => hk.2)) (fun _ h_ => h_.1))) (by decide)) hk (fun _ h => h.2)) (fun _ h => h.1)); have n2_ := Zam (KeepBut.blk hk (g' := gb198) (o := .cells #[.int .i64 t191, .int .i64 t192, .slice Ao34 t193.length co34] 82 (0, 0)) (by (with_reducible repeat (first | refine ZbW ?_ _ | refine ZbD ?_ | refine ZbA ?_ _)); exact set3_blk (by (with_reducible repeat (first | refine ZbW ?_ _ | refine ZbD ?_ | refine ZbA ?_ _)); exact BK198.out)) NB198_190.out (by simp)); have n3_ := Zam (hb); have n4_ := Zam (hi); clear BK189 HO195 BK198 HB HI190; have BK189 := n0_; have HO195 := n1_; have BK198 := n2_; have HB := n3_; have HI190 := n4_; clear n0_ n1_ n2_ n3_ n4_; (try clear hb); (try clear hb2); (try clear hk); (try clear hi)) | ((with_reducible refine gate_callee (f := 104) rfl ?_); refine goesL_ (some 19) rfl rfl Try.func104 (by kernel_rfl) rfl #[.pointer (some ⟨gb190, 0, none⟩), .int .i64 20] rfl (by (try simp only [Zm1, Zm2, Zm3]); first | done | rfl | (simp only [ZlL, ZlT]; rfl)) ?_; (with_reducible refine (spec_l1Cur_pick.calls gb190 l0 t200 t201 20 t202 t203 t204 w _ ?side1 ?side2 A4.out).mono ?_); (case side1 => repeat (first | (with_reducible first | exact HI190.out | apply IsS156.alloc | apply IsS156.drewN | apply IsS156.drew | apply IsS156.set_1 | apply IsS156.set_2 | refine IsS156.far ?_ NB190_189.out _ | refine IsS156.far ?_ NB190_198.out _) | exact HI190.out)); (case side2 => repeat (first | (with_reducible first | exact HB.out | apply ZhA | apply ZhW | apply ZhD | refine ZhS ?_ (IsS156.ge HI190.out) | refine ZhS ?_ GE189.out | refine ZhS ?_ GE198.out) | exact HB.out)); rintro e w36 ⟨rfl, hi, hb, hk⟩; refine ⟨_, rfl, ?_⟩; have n0_ := Zam (KeepBut.blk hk (g' := gb189) (o := .cells #[.int .i64 0, .int .i64 0, .slice none 0 0] 82 (0, 0)) (by (with_reducible repeat (first | refine ZbW ?_ _ | refine ZbD ?_ | refine ZbA ?_ _)); exact BK189.out) NB189_190.out (by simp)); have n1_ := Zam (Kd.R_mono (Kd.R_keep (IsS156.apart (show IsS156 w _ gb190 l0 t200 t201 from by repeat (first | (with_reducible first | exact HI190.out | apply IsS156.alloc | apply IsS156.drewN | apply IsS156.drew | apply IsS156.set_1 | apply IsS156.set_2 | refine IsS156.far ?_ NB190_189.out _ | refine IsS156.far ?_ NB190_198.out _) | exact HI190.out)) (by (with_reducible repeat (first | apply ZrA | apply ZrW | apply ZrD)); exact HO195.out) (by decide)) hk (fun _ h => h.2)) (fun _ h => h.1)); have n2_ := Zam (KeepBut.blk hk (g' := gb198) (o := .cells #[.int .i64 t191, .int .i64 t192, .slice Ao34 t193.length co34] 82 (0, 0)) (by (with_reducible repeat (first | refine ZbW ?_ _ | refine ZbD ?_ | refine ZbA ?_ _)); exact BK198.out) NB198_190.out (by simp)); have n3_ := Zam (hb); have n4_ := Zam (hi); clear BK189 HO195 BK198 HB HI190; have BK189 := n0_; have HO195 := n1_; have BK198 := n2_; have HB := n3_; have HI190 := n4_; clear n0_ n1_ n2_ n3_ n4_; (try clear hb); (try clear hb2); (try clear hk); (try clear hi)) | ((with_reducible refine gate_callee (f := 104) rfl ?_); refine goesL_ (some 22) rfl rfl Try.func104 (by kernel_rfl) rfl #[.pointer (some ⟨gb190, 0, none⟩), .int .i64 14] rfl (by (try simp only [Zm1, Zm2, Zm3]); first | done | rfl | (simp only [ZlL, ZlT]; rfl)) ?_; (with_reducible refine (spec_l1Cur_pick.calls gb190 l0 t203 t204 14 t205 t206 t207 w _ ?side1 ?side2 A5.out).mono ?_); (case side1 => repeat (first | (with_reducible first | exact HI190.out | apply IsS156.alloc | apply IsS156.drewN | apply IsS156.drew | apply IsS156.set_1 | apply IsS156.set_2 | refine IsS156.far ?_ NB190_189.out _ | refine IsS156.far ?_ NB190_198.out _) | exact HI190.out)); (case side2 => repeat (first | (with_reducible first | exact HB.out | apply ZhA | apply ZhW | apply ZhD | refine ZhS ?_ (IsS156.ge HI190.out) | refine ZhS ?_ GE189.out | refine ZhS ?_ GE198.out) | exact HB.out)); rintro e w37 ⟨rfl, hi, hb, hk⟩; refine ⟨_, rfl, ?_⟩; have n0_ := Zam (KeepBut.blk hk (g' := gb189) (o := .cells #[.int .i64 0, .int .i64 0, .slice none 0 0] 82 (0, 0)) (by (with_reducible repeat (first | refine ZbW ?_ _ | refine ZbD ?_ | refine ZbA ?_ _)); exact BK189.out) NB189_190.out (by simp)); have n1_ := Zam (Kd.R_mono (Kd.R_keep (IsS156.apart (show IsS156 w _ gb190 l0 t203 t204 from by repeat (first | (with_reducible first | exact HI190.out | apply IsS156.alloc | apply IsS156.drewN | apply IsS156.drew | apply IsS156.set_1 | apply IsS156.set_2 | refine IsS156.far ?_ NB190_189.out _ | refine IsS156.far ?_ NB190_198.out _) | exact HI190.out)) (by (with_reducible repeat (first | apply ZrA | apply ZrW | apply ZrD)); exact HO195.out) (by decide)) hk (fun _ h => h.2)) (fun _ h => h.1)); have n2_ := Zam (KeepBut.blk hk (g' := gb198) (o := .cells #[.int .i64 t191, .int .i64 t192, .slice Ao34 t193.length co34] 82 (0, 0)) (by (with_reducible repeat (first | refine ZbW ?_ _ | refine ZbD ?_ | refine ZbA ?_ _)); exact BK198.out) NB198_190.out (by simp)); have n3_ := Zam (hb); have n4_ := Zam (hi); clear BK189 HO195 BK198 HB HI190; have BK189 := n0_; have HO195 := n1_; have BK198 := n2_; have HB := n3_; have HI190 := n4_; clear n0_ n1_ n2_ n3_ n4_; (try clear hb); (try clear hb2); (try clear hk); (try clear hi)) | ((with_reducible refine gate_callee (f := 104) rfl ?_); refine goesL_ (some 34) rfl rfl Try.func104 (by kernel_rfl) rfl #[.pointer (some ⟨gb190, 0, none⟩), .int .i64 2] rfl (by (try simp only [Zm1, Zm2, Zm3]); first | done | rfl | (simp only [ZlL, ZlT]; rfl)) ?_; (with_reducible refine (spec_l1Cur_pick.calls gb190 l0 t206 t207 2 t214 t215 t216 w _ ?side1 ?side2 A26.out).mono ?_); (case side1 => repeat (first | (with_reducible first | exact HI190.out | apply IsS156.alloc | apply IsS156.drewN | apply IsS156.drew | apply IsS156.set_1 | apply IsS156.set_2 | refine IsS156.far ?_ NB190_189.out _ | refine IsS156.far ?_ NB190_198.out _) | exact HI190.out)); (case side2 => repeat (first | (with_reducible first | exact HB.out | apply ZhA | apply ZhW | apply ZhD | refine ZhS ?_ (IsS156.ge HI190.out) | refine ZhS ?_ GE189.out | refine ZhS ?_ GE198.out) | exact HB.out)); rintro e w38 ⟨rfl, hi, hb, hk⟩; refine ⟨_, rfl, ?_⟩; have n0_ := Zam (KeepBut.blk hk (g' := gb189) (o := .cells #[.int .i64 0, .int .i64 0, .slice none 0 0] 82 (0, 0)) (by (with_reducible repeat (first | refine ZbW ?_ _ | refine ZbD ?_ | refine ZbA ?_ _)); exact BK189.out) NB189_190.out (by simp)); have n1_ := Zam (Kd.R_mono (Kd.R_keep (IsS156.apart (show IsS156 w _ gb190 l0 t206 t207 from by repeat (first | (with_reducible first | exact HI190.out | apply IsS156.alloc | apply IsS156.drewN | apply IsS156.drew | apply IsS156.set_1 | apply IsS156.set_2 | refine IsS156.far ?_ NB190_189.out _ | refine IsS156.far ?_ NB190_198.out _) | exact HI190.out)) (by (with_reducible repeat (first | apply ZrA | apply ZrW | apply ZrD)); exact HO195.out) (by decide)) hk (fun _ h => h.2)) (fun _ h => h.1)); have n2_ := Zam (KeepBut.blk hk (g' := gb198) (o := .cells #[.int .i64 t191, .int .i64 t192, .slice Ao34 t193.length co34] 82 (0, 0)) (by (with_reducible repeat (first | refine ZbW ?_ _ | refine ZbD ?_ | refine ZbA ?_ _)); exact BK198.out) NB198_190.out (by simp)); have n3_ := Zam (hb); have n4_ := Zam (hi); clear BK189 HO195 BK198 HB HI190; have BK189 := n0_; have HO195 := n1_; have BK198 := n2_; have HB := n3_; have HI190 := n4_; clear n0_ n1_ n2_ n3_ n4_; (try clear hb); (try clear hb2); (try clear hk); (try clear hi); have hcz39_0 : w38.cell? ⟨gb198, 0, none⟩ = some (.int .i64 t191) := (ZbC BK198.out 0).trans rfl; have hcz39_1 : w38.cell? ⟨gb198, 1, none⟩ = some (.int .i64 t192) := (ZbC BK198.out 1).trans rfl; have hcz39_2 : w38.cell? ⟨gb198, 2, none⟩ = some (.slice Ao34 t193.length co34) := (ZbC BK198.out 2).trans rfl; have hfz39_0 := ZbF BK198.out 0; have hfz39_1 := ZbF BK198.out 1; have hfz39_2 := ZbF BK198.out 2; have hnb40 := NB189_190.out; have hnc40 := NB190_189.out; have hcz41_0 : w38.cell? ⟨gb189, 0, none⟩ = some (.int .i64 0) := (ZbC BK189.out 0).trans rfl; have hcz41_1 : w38.cell? ⟨gb189, 1, none⟩ = some (.int .i64 0) := (ZbC BK189.out 1).trans rfl; have hcz41_2 : w38.cell? ⟨gb189, 2, none⟩ = some (.slice none 0 0) := (ZbC BK189.out 2).trans rfl; have hfz41_0 := ZbF BK189.out 0; have hfz41_1 := ZbF BK189.out 1; have hfz41_2 := ZbF BK189.out 2))
 refine bodyPost_ret (results_ctt rfl _ _ gb189 82 #[.int .i64 t191, .int .i64 t192, .slice Ao34 t193.length co34] (0, 0) _ rfl (set3_blk BK189.out) Try.underlying82 rfl (by kernel_rfl)) rfl ?_
 exact ⟨_, by first | rfl | (simp [*, errW_none, errW_some] <;> rfl), by (with_reducible repeat (first | apply ZrA | apply ZrW | apply ZrD)); exact Kd.R_mono (set3_R (Kd.R_types HO195.out BK189.out (by decide)) (fun _ hk => hk.2)) (fun _ hk => trivial), by repeat (first | (with_reducible first | exact HB.out | apply ZhA | apply ZhW | apply ZhD | refine ZhS ?_ (IsS156.ge HI190.out) | refine ZhS ?_ GE189.out | refine ZhS ?_ GE198.out) | exact HB.out)⟩

/-! ### spec_l4Sides: function 85 -/
def spec_l4Sides.f (a0 : Int) (a1 : Int) : Option (Bool) := if a0 ≥ 1 then (if a0 ≤ 512 then (if a1 ≥ 1 then (some (decide (a1 ≤ 512))) else (some false)) else (some false)) else (some false)
set_option maxHeartbeats 8000000 in
set_option maxRecDepth 100000 in
theorem spec_l4Sides.calls (a0 : Int) (a1 : Int) (r : Bool) (w : World) (h : spec_l4Sides.f a0 a1 = some r) :
  Calls Try.prog 85 #[.int .i64 a0, .int .i64 a1] w fun e w' => e = .returned (.bool r) ∧ Drawn0 w w' := by
 have H : (if a0 ≥ 1 then (if a0 ≤ 512 then (if a1 ≥ 1 then (some (decide (a1 ≤ 512))) else (some false)) else (some false)) else (some false)) = some r := h
 clear h
 by_cases c3 : a0 ≥ 1
 rw [if_pos c3] at H
 have c3b0 : decide (1 ≤ a0) = true := decide_eq_true c3
 clear c3
 by_cases c4 : a0 ≤ 512
 rw [if_pos c4] at H
 have c4b0 : decide (a0 ≤ 512) = true := decide_eq_true c4
 clear c4
 by_cases c5 : a1 ≥ 1
 rw [if_pos c5] at H
 have c5b0 : decide (1 ≤ a1) = true := decide_eq_true c5
 clear c5
 obtain rfl := Option.some.inj H
 rotate_left
 rw [if_neg c5] at H
 have c5b0 : decide (1 ≤ a1) = false := decide_eq_false c5
 clear c5
 obtain rfl := Option.some.inj H
 rotate_left
 rw [if_neg c4] at H
 have c4b0 : decide (a0 ≤ 512) = false := decide_eq_false c4
 clear c4
 obtain rfl := Option.some.inj H
 rotate_left
 rw [if_neg c3] at H
 have c3b0 : decide (1 ≤ a0) = false := decide_eq_false c3
 clear c3
 obtain rfl := Option.some.inj H
 all_goals
  go_enter Try.func85, Try.ntmps85
  go_wp2
  go_ret
  exact ⟨by first | rfl | (simp; done) | (simp [*]; done), by repeat (first | exact Drawn0.refl _ | apply Drawn0.step)⟩

/-! ### spec_l7Sides: function 130 -/
def spec_l7Sides.f (a0 : Int) (a1 : Int) : Option (Bool) := (spec_l4Sides.f a0 a1).bind fun t217 => (if t217 = true then (some (decide ((wrap64 (a0 * a1)) ≤ 4096))) else (some false))
set_option maxHeartbeats 8000000 in
set_option maxRecDepth 100000 in
theorem spec_l7Sides.calls (a0 : Int) (a1 : Int) (r : Bool) (w : World) (h : spec_l7Sides.f a0 a1 = some r) :
  Calls Try.prog 130 #[.int .i64 a0, .int .i64 a1] w fun e w' => e = .returned (.bool r) ∧ Drawn0 w w' := by
 have H : ((spec_l4Sides.f a0 a1).bind fun t217 => (if t217 = true then (some (decide ((wrap64 (a0 * a1)) ≤ 4096))) else (some false))) = some r := h
 clear h
 replace H := Zob.mp H
 obtain ⟨t217, A30, H⟩ := H
 replace H : (if t217 = true then (some (decide ((wrap64 (a0 * a1)) ≤ 4096))) else (some false)) = some r := H
 have A3 := Zam A30
 clear A30
 by_cases c4 : t217 = true
 ·subst c4
  replace H : (some (decide ((wrap64 (a0 * a1)) ≤ 4096))) = some r := by rw [if_pos rfl] at H; exact H
  obtain rfl := Option.some.inj H
  go_enter Try.func130, Try.ntmps130
  go_wp2_with (first | ((with_reducible refine gate_callee (f := 85) rfl ?_); refine goesL_ (some 7) rfl rfl Try.func85 (by kernel_rfl) rfl #[.int .i64 a0, .int .i64 a1] rfl (by (try simp only [Zm1, Zm2, Zm3]); first | done | rfl | (simp only [ZlL, ZlT]; rfl)) ?_; (with_reducible refine (spec_l4Sides.calls a0 a1 true _ A3.out).mono ?_); rintro e w' ⟨rfl, ⟨nd, rfl⟩⟩; refine ⟨_, rfl, ?_⟩))
  go_ret
  exact ⟨by first | rfl | (simp; done) | (simp [*]; done), by repeat (first | exact Drawn0.refl _ | apply Drawn0.step)⟩
 replace c4 := Bool.eq_false_iff.mpr c4
 subst c4
 replace H : (some false) = some r := by rw [if_neg (show ¬ (false = true) by decide)] at H; exact H
 obtain rfl := Option.some.inj H
 go_enter Try.func130, Try.ntmps130
 go_wp2_with (first | ((with_reducible refine gate_callee (f := 85) rfl ?_); refine goesL_ (some 7) rfl rfl Try.func85 (by kernel_rfl) rfl #[.int .i64 a0, .int .i64 a1] rfl (by (try simp only [Zm1, Zm2, Zm3]); first | done | rfl | (simp only [ZlL, ZlT]; rfl)) ?_; (with_reducible refine (spec_l4Sides.calls a0 a1 false _ A3.out).mono ?_); rintro e w' ⟨rfl, ⟨nd, rfl⟩⟩; refine ⟨_, rfl, ?_⟩))
 go_ret
 exact ⟨by first | rfl | (simp; done) | (simp [*]; done), by repeat (first | exact Drawn0.refl _ | apply Drawn0.step)⟩

end Go.Proofs.Ytidblealnaicpaa.PFnSizes

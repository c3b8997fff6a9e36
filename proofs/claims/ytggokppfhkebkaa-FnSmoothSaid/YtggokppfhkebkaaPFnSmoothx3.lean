-- written by myprint.py (a program of this session's over the kit's print)
import Derived.Test.YtggokppfhkebkaaPFnSmoothx0
import Derived.Test.YtggokppfhkebkaaPFnSmoothx1
import Derived.Test.YtggokppfhkebkaaPFnSmoothx2
namespace Go.Proofs.Ytggokppfhkebkaa.PFnSmooth
open Go.RowKit Go.Proofs.YtggokppfhkebkaaW.PrintWords Go.Proofs.YtggokppfhkebkaaW.PrintLast Go.Proofs.YtggokppfhkebkaaW.PrintMore
attribute [local go_sem] max2_int min2_int max_two min_two max_three min_three max_four min_four   -- for this text's walks alone
set_option linter.unusedVariables false
set_option linter.unusedSimpArgs false

/-! ### spec_l7Plane: function 103 -/
def spec_l7Plane.j0 : Nat → List Int → Int → Int → Int → Int → List Int → Option (Int × Int × List Int × Int × Int)
  | 0, _, _, _, _, _, _ => none
  | k + 1, x2000, x2001, x2002, x166000, x166001, x166002 => (spec_l1Cur_pick.f x2000 x2001 x2002 16).bind fun bt177 => (if bt177.1 = 0 then ((spec_l1Cur_pick.f x2000 bt177.2.1 bt177.2.2 3).bind fun bt180 => (some (wrap64 (x166000 + (wrap64 (bt180.1 - 1))), x166001, x166002, bt180.2.1, bt180.2.2))) else (if bt177.1 = 1 then ((some (([(-1), 256] : List Int) : List Int)).bind fun y183 => ((spec_l1Cur_pick.f x2000 bt177.2.1 bt177.2.2 2).bind fun bt186 => (if 0 ≤ bt186.1 then (if bt186.1 < (y183.length : Int) then (if 0 < (x166002.length : Int) then (some (x166000, x166001, (x166002.set (0 : Int).toNat (rd y183 bt186.1)), bt186.2.1, bt186.2.2)) else (none)) else (none)) else (none)))) else (some (x166000, x166001, x166002, bt177.2.1, bt177.2.2))))
def spec_l7Plane.f (k : Nat) (l0 : List Int) (s1_0 : List Int) (s1_1 : Int) (s1_2 : Int) : Option (Int × Int × List Int × Int × Int) := (spec_l1Cur_plane.f k s1_0 s1_1 s1_2 9).bind fun bt158 => ((spec_l1Cur_one.f s1_0 bt158.2.2.2.1 bt158.2.2.2.2 3).bind fun bt166 => (if bt166.1 = true then ((spec_l1Size.f l0 10 30).bind fun t169 => ((spec_l1Cur_plane.f k s1_0 bt166.2.1 bt166.2.2 (wrap64 (1 + t169))).bind fun bt170 => (spec_l7Plane.j0 k s1_0 bt170.2.2.2.1 bt170.2.2.2.2 bt170.1 bt170.2.1 bt170.2.2.1))) else (spec_l7Plane.j0 k s1_0 bt166.2.1 bt166.2.2 bt158.1 bt158.2.1 bt158.2.2.1)))
theorem spec_l7Plane.mono_l : ∀ k, (∀ y0 y1 y2 y3 y4 y5, LeO (spec_l7Plane.j0 k y0 y1 y2 y3 y4 y5) (spec_l7Plane.j0 (k + 1) y0 y1 y2 y3 y4 y5))
  | 0 => fun _ _ _ _ _ _ r h => by simp [spec_l7Plane.j0] at h
  | k + 1 => by
    have ih0 := spec_l7Plane.mono_l k
    · intro y0 y1 y2 y3 y4 y5
      unfold spec_l7Plane.j0
      repeat' first
      | (with_reducible exact ih0 _ _ _ _ _ _)
      | (with_reducible exact spec_l1Cur_plane.mono _ _ _ _ _)
      | (with_reducible exact LeO.refl _)
      | (with_reducible exact LeO.none _)
      | (with_reducible refine LeO.ite ?_ ?_)
      | (with_reducible refine LeO.bind ?_ (fun _ => ?_))
      | exact ih0 _ _ _ _ _ _
      | exact spec_l1Cur_plane.mono _ _ _ _ _
      | exact LeO.none _
      | refine LeO.ite ?_ ?_
      | refine LeO.bind ?_ (fun _ => ?_)
theorem spec_l7Plane.mono : ∀ a0 a1 a2 a3 k, LeO (spec_l7Plane.f k a0 a1 a2 a3) (spec_l7Plane.f (k + 1) a0 a1 a2 a3) := by
  intro a0 a1 a2 a3 k
  have ih0 := spec_l7Plane.mono_l k
  unfold spec_l7Plane.f
  repeat' first
      | (with_reducible exact ih0 _ _ _ _ _ _)
      | (with_reducible exact spec_l1Cur_plane.mono _ _ _ _ _)
      | (with_reducible exact LeO.refl _)
      | (with_reducible exact LeO.none _)
      | (with_reducible refine LeO.ite ?_ ?_)
      | (with_reducible refine LeO.bind ?_ (fun _ => ?_))
      | exact ih0 _ _ _ _ _ _
      | exact spec_l1Cur_plane.mono _ _ _ _ _
      | exact LeO.none _
      | refine LeO.ite ?_ ?_
      | refine LeO.bind ?_ (fun _ => ?_)
def spec_l7Plane.T6 : Bool × List (List Nat × List Nat) := (true, [([], []), ([0], [0]), ([], []), ([2], [2]), ([3], [3]), ([1, 4], [1, 4]), ([0, 1, 2, 3, 4, 5], []), ([6, 5, 3, 0, 1, 2, 3, 4, 5], [5, 6])])
def spec_l7Plane.B6 : List Nat := [0, 1, 0, 4, 12, 31, 63, 127]
theorem spec_l7Plane.tab6 : rtab .any (opsOf Try.f103 6) = spec_l7Plane.T6 := by kernel_rfl
theorem spec_l7Plane.bits6 : waitsOk spec_l7Plane.T6.2 spec_l7Plane.B6 = true := by kernel_rfl
def spec_l7Plane.T8 : Bool × List (List Nat × List Nat) := (true, [([], []), ([0], [0]), ([], []), ([], []), ([3], [3]), ([2, 4], [2, 4]), ([5], [5]), ([1, 0, 1, 2, 3, 4, 5, 6], [1]), ([7, 6, 4, 0, 1, 2, 3, 4, 5, 6], [6, 7])])
def spec_l7Plane.B8 : List Nat := [0, 1, 0, 0, 8, 28, 60, 127, 255]
theorem spec_l7Plane.tab8 : rtab .any (opsOf Try.f103 8) = spec_l7Plane.T8 := by kernel_rfl
theorem spec_l7Plane.bits8 : waitsOk spec_l7Plane.T8.2 spec_l7Plane.B8 = true := by kernel_rfl
set_option maxHeartbeats 8000000 in
set_option maxRecDepth 100000 in
theorem spec_l7Plane.calls (k : Nat) (A0 : Option Addr) (c0 : Nat) (l0 : List Int) (g : Nat) (s1_0 : List Int) (s1_1 : Int) (s1_2 : Int) (r1 : Int) (r2 : Int) (r3 : List Int) (r4 : Int) (r5 : Int) (w0 w : World) (hI : IsS123 w0 w g s1_0 s1_1 s1_2) (hB : Below w0.heap.size w0 w) (hr0 : Kd.C (Kd.int .u8) w A0 l0.length l0) (hc0 : l0.length ≤ c0) (hf0 : ∀ ad, A0 = some ad → 0 < l0.length → ad.block ≠ g) (h : spec_l7Plane.f k l0 s1_0 s1_1 s1_2 = some (r1, r2, r3, r4, r5)) :
    Calls Try.prog 103 #[.slice A0 l0.length c0, .pointer (some ⟨g, 0, none⟩)] w fun e w' => ∃ v2_ : Value, e = .returned (.agg #[.int .i64 r1, .int .i64 r2, v2_]) ∧ Kd.R (Kd.int .i64) 3 w' w.heap.size (fun _ => True) v2_ r3 ∧ IsS123 w0 w' g s1_0 r4 r5 ∧ Below w0.heap.size w0 w' ∧ KeepBut w w' g none := by
  have hu66 := Try.underlying66
  have HR0 := Aside0.mk hr0
  have HC0 := Aside0.mk hc0
  clear hr0 hc0
  have HI1 := Aside0.mk hI
  have HK := Aside0.mk (KeepBut.refl w g none)
  have HL := Aside0.mk hB.size
  clear hI
  have HW0 := Aside0.mk hB.size
  have HB := Aside0.mk hB
  clear hB
  have H : ((spec_l1Cur_plane.f k s1_0 s1_1 s1_2 9).bind fun bt158 => ((spec_l1Cur_one.f s1_0 bt158.2.2.2.1 bt158.2.2.2.2 3).bind fun bt166 => (if bt166.1 = true then ((spec_l1Size.f l0 10 30).bind fun t169 => ((spec_l1Cur_plane.f k s1_0 bt166.2.1 bt166.2.2 (wrap64 (1 + t169))).bind fun bt170 => (spec_l7Plane.j0 k s1_0 bt170.2.2.2.1 bt170.2.2.2.2 bt170.1 bt170.2.1 bt170.2.2.1))) else (spec_l7Plane.j0 k s1_0 bt166.2.1 bt166.2.2 bt158.1 bt158.2.1 bt158.2.2.1)))) = some (r1, r2, r3, r4, r5) := h
  clear h
  replace H := Option.bind_eq_some_iff.mp H
  obtain ⟨⟨t158, t159, t160, t163, t164⟩, A30, H⟩ := H
  replace H : ((spec_l1Cur_one.f s1_0 t163 t164 3).bind fun bt166 => (if bt166.1 = true then ((spec_l1Size.f l0 10 30).bind fun t169 => ((spec_l1Cur_plane.f k s1_0 bt166.2.1 bt166.2.2 (wrap64 (1 + t169))).bind fun bt170 => (spec_l7Plane.j0 k s1_0 bt170.2.2.2.1 bt170.2.2.2.2 bt170.1 bt170.2.1 bt170.2.2.1))) else (spec_l7Plane.j0 k s1_0 bt166.2.1 bt166.2.2 t158 t159 t160))) = some (r1, r2, r3, r4, r5) := H
  have A3 := Aside0.mk A30
  clear A30
  replace H := Option.bind_eq_some_iff.mp H
  obtain ⟨⟨t166, t167, t168⟩, A40, H⟩ := H
  replace H : (if t166 = true then ((spec_l1Size.f l0 10 30).bind fun t169 => ((spec_l1Cur_plane.f k s1_0 t167 t168 (wrap64 (1 + t169))).bind fun bt170 => (spec_l7Plane.j0 k s1_0 bt170.2.2.2.1 bt170.2.2.2.2 bt170.1 bt170.2.1 bt170.2.2.1))) else (spec_l7Plane.j0 k s1_0 t167 t168 t158 t159 t160)) = some (r1, r2, r3, r4, r5) := H
  have A4 := Aside0.mk A40
  clear A40
  have HC5 := Aside0.mk H
  clear H
  go_enter Try.func103, Try.ntmps103
  go_upto_if 9 with (first | ((with_reducible refine gate_dst (N := 4) rfl ?_); refine box_event ?hg (N := 4) ?hd (cs := #[.int .i64 0, .int .i64 0, .slice none 0 0]) (t := 66) ?hr ?_; (case hd => rfl); (case hg => rfl); (case hr => first | (go_simp; done) | (go_simp; rfl)); intro gb157 hg w6 hbox hb; have n0_ := Aside0.mk (IsS123.below (by repeat (first | (with_reducible first | exact HI1.out | apply IsS123.alloc | apply IsS123.drewN | apply IsS123.drew | apply IsS123.set_1 | apply IsS123.set_2) | exact HI1.out)) hb); have n1_ := Aside0.mk (KeepBut.trans (by repeat (first | (with_reducible first | exact HK.out | apply KeepBut.set_ | apply keep_drewN | apply keep_drew | apply keep_alloc) | exact HK.out)) (KeepBut.of_below hb g none) (.inl rfl)); have n2_ := Aside0.mk (below_step (by repeat (first | (with_reducible first | exact HB.out | apply below_alloc | apply pw_below_drewN | apply below_drew1 | refine below_set ?_ (IsS123.ge HI1.out)) | exact HB.out)) hb); have n3_ := Aside0.mk (hbox); have n4_ := Aside0.mk ((by rw [hg]; exact (keep_size (w := w) (g := g) (row := none) (by repeat (first | (with_reducible first | exact HK.out | apply KeepBut.set_ | apply keep_drewN | apply keep_drew | apply keep_alloc) | exact HK.out))) : w.heap.size ≤ gb157)); have n5_ := Aside0.mk ((Nat.le_trans HW0.out (by rw [hg]; exact (keep_size (w := w) (g := g) (row := none) (by repeat (first | (with_reducible first | exact HK.out | apply KeepBut.set_ | apply keep_drewN | apply keep_drew | apply keep_alloc) | exact HK.out))) : w.heap.size ≤ gb157) : w0.heap.size ≤ gb157)); have n6_ := Aside0.mk ((by rw [hg]; exact Nat.ne_of_lt (IsS123.lt (show IsS123 w0 _ g s1_0 s1_1 s1_2 from by repeat (first | (with_reducible first | exact HI1.out | apply IsS123.alloc | apply IsS123.drewN | apply IsS123.drew | apply IsS123.set_1 | apply IsS123.set_2) | exact HI1.out))) : g ≠ gb157)); have n7_ := Aside0.mk ((by rw [hg]; exact Nat.ne_of_gt (IsS123.lt (show IsS123 w0 _ g s1_0 s1_1 s1_2 from by repeat (first | (with_reducible first | exact HI1.out | apply IsS123.alloc | apply IsS123.drewN | apply IsS123.drew | apply IsS123.set_1 | apply IsS123.set_2) | exact HI1.out))) : gb157 ≠ g)); clear HI1; clear HK; clear HB; have HI1 := n0_; have HK := n1_; have HB := n2_; have BK157 := n3_; have GW157 := n4_; have GE157 := n5_; have NB1_157 := n6_; have NB157_1 := n7_; clear n0_ n1_ n2_ n3_ n4_ n5_ n6_ n7_; clear hb hbox hg) | ((with_reducible refine gate_callee (f := 150) rfl ?_); refine goesL_ (some 7) rfl rfl Try.func150 (by kernel_rfl) rfl #[.pointer (some ⟨g, 0, none⟩), .int .i64 9] rfl (by (try simp only [List.map_toArray, List.map_cons, List.map_nil]); first | done | rfl | (simp only [List.length_drop, List.length_take]; rfl)) ?_; (with_reducible refine (spec_l1Cur_plane.calls k g s1_0 s1_1 s1_2 9 t158 t159 t160 t163 t164 w0 _ ?side1 ?side2 A3.out).mono ?_); (case side1 => repeat (first | (with_reducible first | exact HI1.out | apply IsS123.alloc | apply IsS123.drewN | apply IsS123.drew | apply IsS123.set_1 | apply IsS123.set_2 | refine IsS123.far ?_ NB1_157.out _) | exact HI1.out)); (case side2 => repeat (first | (with_reducible first | exact HB.out | apply below_alloc | apply pw_below_drewN | apply below_drew1 | refine below_set ?_ (IsS123.ge HI1.out) | refine below_set ?_ GE157.out) | exact HB.out)); rintro e w7 ⟨v161, rfl, ho0, hi, hb, hk⟩; refine ⟨_, rfl, ?_⟩; have n0_ := Aside0.mk (KeepBut.blk hk (g' := gb157) (o := .cells #[.int .i64 0, .int .i64 0, .slice none 0 0] 66 (0, 0)) (by (with_reducible repeat (first | refine blk_drewN ?_ _ | refine blk_drew ?_ | refine blk_alloc ?_ _)); exact BK157.out) NB157_1.out (by simp)); have n1_ := Aside0.mk (Kd.R_lower ho0 (keep_size (w := w) (g := g) (row := none) (by repeat (first | (with_reducible first | exact HK.out | apply KeepBut.set_ | apply keep_drewN | apply keep_drew | apply keep_alloc | refine keep_far ?_ GW157.out _) | exact HK.out)))); have n2_ := Aside0.mk (KeepBut.trans (by repeat (first | (with_reducible first | exact HK.out | apply KeepBut.set_ | apply keep_drewN | apply keep_drew | apply keep_alloc | refine keep_far ?_ GW157.out _) | exact HK.out)) hk (.inl rfl)); have n3_ := Aside0.mk (hb); have n4_ := Aside0.mk (hi); clear BK157; clear HK; clear HB; clear HI1; have BK157 := n0_; have HO162 := n1_; have HK := n2_; have HB := n3_; have HI1 := n4_; clear n0_ n1_ n2_ n3_ n4_; (try clear hb); (try clear hb2); (try clear hk); (try clear hi); (try clear ho0)) | ((with_reducible refine gate_dst (N := 5) rfl ?_); refine box_event ?hg (N := 5) ?hd (cs := #[.int .i64 0, .int .i64 0, .slice none 0 0]) (t := 66) ?hr ?_; (case hd => rfl); (case hg => rfl); (case hr => first | (go_simp; done) | (go_simp; rfl)); intro gb165 hg w8 hbox hb; have n0_ := Aside0.mk (Kd.R_below (by (with_reducible repeat (first | apply Kd.R_alloc | apply Kd.R_drewN | apply Kd.R_drew)); exact HO162.out) hb); have n1_ := Aside0.mk (IsS123.below (by repeat (first | (with_reducible first | exact HI1.out | apply IsS123.alloc | apply IsS123.drewN | apply IsS123.drew | apply IsS123.set_1 | apply IsS123.set_2 | refine IsS123.far ?_ NB1_157.out _) | exact HI1.out)) hb); have n2_ := Aside0.mk (blk_below (g := gb157) (o := .cells #[.int .i64 0, .int .i64 0, .slice none 0 0] 66 (0, 0)) (by (with_reducible repeat (first | refine blk_drewN ?_ _ | refine blk_drew ?_ | refine blk_alloc ?_ _)); exact BK157.out) hb); have n3_ := Aside0.mk (KeepBut.trans (by repeat (first | (with_reducible first | exact HK.out | apply KeepBut.set_ | apply keep_drewN | apply keep_drew | apply keep_alloc | refine keep_far ?_ GW157.out _) | exact HK.out)) (KeepBut.of_below hb g none) (.inl rfl)); have n4_ := Aside0.mk (below_step (by repeat (first | (with_reducible first | exact HB.out | apply below_alloc | apply pw_below_drewN | apply below_drew1 | refine below_set ?_ (IsS123.ge HI1.out) | refine below_set ?_ GE157.out) | exact HB.out)) hb); have n5_ := Aside0.mk (hbox); have n6_ := Aside0.mk ((by rw [hg]; exact (keep_size (w := w) (g := g) (row := none) (by repeat (first | (with_reducible first | exact HK.out | apply KeepBut.set_ | apply keep_drewN | apply keep_drew | apply keep_alloc | refine keep_far ?_ GW157.out _) | exact HK.out))) : w.heap.size ≤ gb165)); have n7_ := Aside0.mk ((Nat.le_trans HW0.out (by rw [hg]; exact (keep_size (w := w) (g := g) (row := none) (by repeat (first | (with_reducible first | exact HK.out | apply KeepBut.set_ | apply keep_drewN | apply keep_drew | apply keep_alloc | refine keep_far ?_ GW157.out _) | exact HK.out))) : w.heap.size ≤ gb165) : w0.heap.size ≤ gb165)); have n8_ := Aside0.mk ((by rw [hg]; exact Nat.ne_of_lt (blk_lt (g := gb157) (o := .cells #[.int .i64 0, .int .i64 0, .slice none 0 0] 66 (0, 0)) (by (with_reducible repeat (first | refine blk_drewN ?_ _ | refine blk_drew ?_ | refine blk_alloc ?_ _)); exact BK157.out)) : gb157 ≠ gb165)); have n9_ := Aside0.mk ((by rw [hg]; exact Nat.ne_of_gt (blk_lt (g := gb157) (o := .cells #[.int .i64 0, .int .i64 0, .slice none 0 0] 66 (0, 0)) (by (with_reducible repeat (first | refine blk_drewN ?_ _ | refine blk_drew ?_ | refine blk_alloc ?_ _)); exact BK157.out)) : gb165 ≠ gb157)); have n10_ := Aside0.mk ((by rw [hg]; exact Nat.ne_of_lt (IsS123.lt (show IsS123 w0 _ g s1_0 t163 t164 from by repeat (first | (with_reducible first | exact HI1.out | apply IsS123.alloc | apply IsS123.drewN | apply IsS123.drew | apply IsS123.set_1 | apply IsS123.set_2 | refine IsS123.far ?_ NB1_157.out _) | exact HI1.out))) : g ≠ gb165)); have n11_ := Aside0.mk ((by rw [hg]; exact Nat.ne_of_gt (IsS123.lt (show IsS123 w0 _ g s1_0 t163 t164 from by repeat (first | (with_reducible first | exact HI1.out | apply IsS123.alloc | apply IsS123.drewN | apply IsS123.drew | apply IsS123.set_1 | apply IsS123.set_2 | refine IsS123.far ?_ NB1_157.out _) | exact HI1.out))) : gb165 ≠ g)); clear HO162; clear HI1; clear BK157; clear HK; clear HB; have HO162 := n0_; have HI1 := n1_; have BK157 := n2_; have HK := n3_; have HB := n4_; have BK165 := n5_; have GW165 := n6_; have GE165 := n7_; have NB157_165 := n8_; have NB165_157 := n9_; have NB1_165 := n10_; have NB165_1 := n11_; clear n0_ n1_ n2_ n3_ n4_ n5_ n6_ n7_ n8_ n9_ n10_ n11_; clear hb hbox hg; have hnb9 := NB165_157.out; have hnc9 := NB157_165.out; have hnb10 := NB165_1.out; have hnc10 := NB1_165.out; have hcz11_0 : w8.cell? ⟨gb165, 0, none⟩ = some (.int .i64 0) := (blk_cell BK165.out 0).trans rfl; have hcz11_1 : w8.cell? ⟨gb165, 1, none⟩ = some (.int .i64 0) := (blk_cell BK165.out 1).trans rfl; have hcz11_2 : w8.cell? ⟨gb165, 2, none⟩ = some (.slice none 0 0) := (blk_cell BK165.out 2).trans rfl; have hfz11_0 := blk_frozen BK165.out 0; have hfz11_1 := blk_frozen BK165.out 1; have hfz11_2 := blk_frozen BK165.out 2; obtain ⟨Ao12, co12, eo12⟩ := Kd.R_slice HO162.out; subst eo12) | ((with_reducible refine gate_callee (f := 104) rfl ?_); refine goesL_ (some 9) rfl rfl Try.func104 (by kernel_rfl) rfl #[.pointer (some ⟨g, 0, none⟩), .int .i64 3] rfl (by (try simp only [List.map_toArray, List.map_cons, List.map_nil]); first | done | rfl | (simp only [List.length_drop, List.length_take]; rfl)) ?_; (with_reducible refine (spec_l1Cur_one.calls g s1_0 t163 t164 3 t166 t167 t168 w0 _ ?side1 ?side2 A4.out).mono ?_); (case side1 => repeat (first | (with_reducible first | exact HI1.out | apply IsS123.alloc | apply IsS123.drewN | apply IsS123.drew | apply IsS123.set_1 | apply IsS123.set_2 | refine IsS123.far ?_ NB1_157.out _ | refine IsS123.far ?_ NB1_165.out _) | exact HI1.out)); (case side2 => repeat (first | (with_reducible first | exact HB.out | apply below_alloc | apply pw_below_drewN | apply below_drew1 | refine below_set ?_ (IsS123.ge HI1.out) | refine below_set ?_ GE157.out | refine below_set ?_ GE165.out) | exact HB.out)); rintro e w13 ⟨rfl, hi, hb, hk⟩; refine ⟨_, rfl, ?_⟩; have n0_ := Aside0.mk (KeepBut.blk hk (g' := gb157) (o := .cells #[.int .i64 0, .int .i64 0, .slice none 0 0] 66 (0, 0)) (by (with_reducible repeat (first | refine blk_drewN ?_ _ | refine blk_drew ?_ | refine blk_alloc ?_ _)); refine blk_far ?_ NB157_165.out _; (with_reducible repeat (first | refine blk_drewN ?_ _ | refine blk_drew ?_ | refine blk_alloc ?_ _)); refine blk_far ?_ NB157_165.out _; (with_reducible repeat (first | refine blk_drewN ?_ _ | refine blk_drew ?_ | refine blk_alloc ?_ _)); refine blk_far ?_ NB157_165.out _; (with_reducible repeat (first | refine blk_drewN ?_ _ | refine blk_drew ?_ | refine blk_alloc ?_ _)); exact BK157.out) NB157_1.out (by simp)); have n1_ := Aside0.mk (Kd.R_mono (Kd.R_keep (IsS123.apart (show IsS123 w0 _ g s1_0 t163 t164 from by repeat (first | (with_reducible first | exact HI1.out | apply IsS123.alloc | apply IsS123.drewN | apply IsS123.drew | apply IsS123.set_1 | apply IsS123.set_2 | refine IsS123.far ?_ NB1_157.out _ | refine IsS123.far ?_ NB1_165.out _) | exact HI1.out)) (by (with_reducible repeat (first | apply Kd.R_alloc | apply Kd.R_drewN | apply Kd.R_drew)); exact (Kd.R_mono (Kd.R_far (p := ⟨gb165, 2, none⟩) (Kd.R_far (p := ⟨gb165, 1, none⟩) (Kd.R_far (p := ⟨gb165, 0, none⟩) (Kd.R_types HO162.out BK165.out (by decide)) (fun _ hk => hk.2) (.int .i64 t158)) (fun _ hk => hk.2) (.int .i64 t159)) (fun _ hk => hk.2) (.slice Ao12 t160.length co12)) (fun _ h_ => h_.1))) (by decide)) hk (fun _ h => h.2)) (fun _ h => h.1)); have n2_ := Aside0.mk (KeepBut.blk hk (g' := gb165) (o := .cells #[.int .i64 t158, .int .i64 t159, .slice Ao12 t160.length co12] 66 (0, 0)) (by (with_reducible repeat (first | refine blk_drewN ?_ _ | refine blk_drew ?_ | refine blk_alloc ?_ _)); refine blk_put (cs := #[.int .i64 t158, .int .i64 t159, .slice none 0 0]) ?_ 2 _ rfl; (with_reducible repeat (first | refine blk_drewN ?_ _ | refine blk_drew ?_ | refine blk_alloc ?_ _)); refine blk_put (cs := #[.int .i64 t158, .int .i64 0, .slice none 0 0]) ?_ 1 _ rfl; (with_reducible repeat (first | refine blk_drewN ?_ _ | refine blk_drew ?_ | refine blk_alloc ?_ _)); refine blk_put (cs := #[.int .i64 0, .int .i64 0, .slice none 0 0]) ?_ 0 _ rfl; (with_reducible repeat (first | refine blk_drewN ?_ _ | refine blk_drew ?_ | refine blk_alloc ?_ _)); exact BK165.out) NB165_1.out (by simp)); have n3_ := Aside0.mk (KeepBut.trans (by repeat (first | (with_reducible first | exact HK.out | apply KeepBut.set_ | apply keep_drewN | apply keep_drew | apply keep_alloc | refine keep_far ?_ GW157.out _ | refine keep_far ?_ GW165.out _) | exact HK.out)) hk (.inl rfl)); have n4_ := Aside0.mk (hb); have n5_ := Aside0.mk (hi); clear BK157; clear HO162; clear BK165; clear HK; clear HB; clear HI1; have BK157 := n0_; have HO162 := n1_; have BK165 := n2_; have HK := n3_; have HB := n4_; have HI1 := n5_; clear n0_ n1_ n2_ n3_ n4_ n5_; (try clear hb); (try clear hb2); (try clear hk); (try clear hi)))
  (try simp only [Act.put, List.setIfInBounds_toArray, List.set_cons_zero, List.set_cons_succ])
  go_cut [] (fun wc => ∃ (kq : Nat) (x2001_4 : Int) (x2002_4 : Int) (x166000_4 : Int) (x166001_4 : Int) (x166002_4 : List Int) (u166002 : Value), Aside0 (spec_l7Plane.j0 kq s1_0 x2001_4 x2002_4 x166000_4 x166001_4 x166002_4 = some (r1, r2, r3, r4, r5)) ∧ Aside0 (kq ≤ k) ∧ Aside0 (Kd.R (Kd.int .i64) 3 wc w.heap.size (fun _ => True) u166002 x166002_4) ∧ Aside0 (wc.heap[gb157]? = some (.cells #[.int .i64 0, .int .i64 0, (.slice none 0 0)] 66 (0, 0))) ∧ Aside0 (wc.heap[gb165]? = some (.cells #[.int .i64 x166000_4, .int .i64 x166001_4, u166002] 66 (0, 0))) ∧ Aside0 (IsS123 w0 wc g s1_0 x2001_4 x2002_4) ∧ Aside0 (KeepBut w wc g none) ∧ Aside0 (Below w0.heap.size w0 wc))
  case first =>
    have H := HC5.out
    clear HC5
    by_cases c14 : t166 = true
    rotate_left
    · replace c14 := Bool.eq_false_iff.mpr c14
      subst c14
      have H1 : (spec_l7Plane.j0 k s1_0 t167 t168 t158 t159 t160) = some (r1, r2, r3, r4, r5) := by rw [if_neg (show ¬ (false = true) by decide)] at H; exact H
      clear H
      have H := H1
      clear H1
      have H' := Aside0.mk H
      clear H
      go_wp2
      go_meet
      case rel => exact ⟨_, (t167), (t168), (t158), (t159), (t160), (.slice Ao12 t160.length co12), H', ⟨by first | omega | exact Nat.le_refl _⟩, ⟨by (with_reducible repeat (first | apply Kd.R_alloc | apply Kd.R_drewN | apply Kd.R_drew)); exact HO162.out⟩, ⟨by (with_reducible repeat (first | refine blk_drewN ?_ _ | refine blk_drew ?_ | refine blk_alloc ?_ _)); exact BK157.out⟩, ⟨by (with_reducible repeat (first | refine blk_drewN ?_ _ | refine blk_drew ?_ | refine blk_alloc ?_ _)); exact BK165.out⟩, ⟨by repeat (first | (with_reducible first | exact HI1.out | apply IsS123.alloc | apply IsS123.drewN | apply IsS123.drew | apply IsS123.set_1 | apply IsS123.set_2 | refine IsS123.far ?_ NB1_157.out _ | refine IsS123.far ?_ NB1_165.out _) | exact HI1.out)⟩, ⟨by repeat (first | (with_reducible first | exact HK.out | apply KeepBut.set_ | apply keep_drewN | apply keep_drew | apply keep_alloc | refine keep_far ?_ GW157.out _ | refine keep_far ?_ GW165.out _) | exact HK.out)⟩, ⟨by repeat (first | (with_reducible first | exact HB.out | apply below_alloc | apply pw_below_drewN | apply below_drew1 | refine below_set ?_ (IsS123.ge HI1.out) | refine below_set ?_ GE157.out | refine below_set ?_ GE165.out) | exact HB.out)⟩⟩
    subst c14
    have H1 : ((spec_l1Size.f l0 10 30).bind fun t169 => ((spec_l1Cur_plane.f k s1_0 t167 t168 (wrap64 (1 + t169))).bind fun bt170 => (spec_l7Plane.j0 k s1_0 bt170.2.2.2.1 bt170.2.2.2.2 bt170.1 bt170.2.1 bt170.2.2.1))) = some (r1, r2, r3, r4, r5) := by rw [if_pos rfl] at H; exact H
    clear H
    have H := H1
    clear H1
    replace H := Option.bind_eq_some_iff.mp H
    obtain ⟨t169, A150, H⟩ := H
    replace H : ((spec_l1Cur_plane.f k s1_0 t167 t168 (wrap64 (1 + t169))).bind fun bt170 => (spec_l7Plane.j0 k s1_0 bt170.2.2.2.1 bt170.2.2.2.2 bt170.1 bt170.2.1 bt170.2.2.1)) = some (r1, r2, r3, r4, r5) := H
    have A15 := Aside0.mk A150
    clear A150
    replace H := Option.bind_eq_some_iff.mp H
    obtain ⟨⟨t170, t171, t172, t175, t176⟩, A160, H⟩ := H
    replace H : (spec_l7Plane.j0 k s1_0 t175 t176 t170 t171 t172) = some (r1, r2, r3, r4, r5) := H
    have A16 := Aside0.mk A160
    clear A160
    have H' := Aside0.mk H
    clear H
    go_wp2_with (first | ((with_reducible refine gate_callee (f := 151) rfl ?_); refine goesL_ (some 12) rfl rfl Try.func151 (by kernel_rfl) rfl #[.slice A0 l0.length c0, .int .i64 10, .int .i64 30] rfl (by (try simp only [List.map_toArray, List.map_cons, List.map_nil]); first | done | rfl | (simp only [List.length_drop, List.length_take]; rfl)) ?_; (with_reducible refine (spec_l1Size.calls _ _ l0 10 30 t169 _ ?side1 ?side2 A15.out).mono ?_); (case side1 => exact Kd.C_keep 0 HR0.out (by repeat (first | (with_reducible first | exact HK.out | apply KeepBut.set_ | apply keep_drewN | apply keep_drew | apply keep_alloc | refine keep_far ?_ GW157.out _ | refine keep_far ?_ GW165.out _) | exact HK.out)) hf0); (case side2 => exact HC0.out); rintro e w' ⟨rfl, ⟨nd, rfl⟩⟩; refine ⟨_, rfl, ?_⟩; (try (rw [drewN_self w13]; generalize hq_ : World.drewN w13 _ = w13; have n0_ : Aside0 (Kd.R (Kd.int .i64) 3 w13 w.heap.size (fun _ => True) (.slice Ao12 t160.length co12) t160) := ⟨by rw [← hq_]; exact (by (with_reducible repeat (first | apply Kd.R_alloc | apply Kd.R_drewN | apply Kd.R_drew)); exact HO162.out)⟩; have n1_ : Aside0 (w13.heap[gb157]? = some (.cells #[.int .i64 0, .int .i64 0, .slice none 0 0] 66 (0, 0))) := ⟨by rw [← hq_]; exact (by (with_reducible repeat (first | refine blk_drewN ?_ _ | refine blk_drew ?_ | refine blk_alloc ?_ _)); exact BK157.out)⟩; have n2_ : Aside0 (w13.heap[gb165]? = some (.cells #[.int .i64 t158, .int .i64 t159, .slice Ao12 t160.length co12] 66 (0, 0))) := ⟨by rw [← hq_]; exact (by (with_reducible repeat (first | refine blk_drewN ?_ _ | refine blk_drew ?_ | refine blk_alloc ?_ _)); exact BK165.out)⟩; have n3_ : Aside0 (IsS123 w0 w13 g s1_0 t167 t168) := ⟨by rw [← hq_]; exact (by repeat (first | (with_reducible first | exact HI1.out | apply IsS123.alloc | apply IsS123.drewN | apply IsS123.drew | apply IsS123.set_1 | apply IsS123.set_2 | refine IsS123.far ?_ NB1_157.out _ | refine IsS123.far ?_ NB1_165.out _) | exact HI1.out))⟩; have n4_ : Aside0 (KeepBut w w13 g none) := ⟨by rw [← hq_]; exact (by repeat (first | (with_reducible first | exact HK.out | apply KeepBut.set_ | apply keep_drewN | apply keep_drew | apply keep_alloc | refine keep_far ?_ GW157.out _ | refine keep_far ?_ GW165.out _) | exact HK.out))⟩; have n5_ : Aside0 (Below w0.heap.size w0 w13) := ⟨by rw [← hq_]; exact (by repeat (first | (with_reducible first | exact HB.out | apply below_alloc | apply pw_below_drewN | apply below_drew1 | refine below_set ?_ (IsS123.ge HI1.out) | refine below_set ?_ GE157.out | refine below_set ?_ GE165.out) | exact HB.out))⟩; clear HO162 BK157 BK165 HI1 HK HB hq_; have HO162 := n0_; have BK157 := n1_; have BK165 := n2_; have HI1 := n3_; have HK := n4_; have HB := n5_; clear n0_ n1_ n2_ n3_ n4_ n5_))) | ((with_reducible refine gate_callee (f := 150) rfl ?_); refine goesL_ (some 14) rfl rfl Try.func150 (by kernel_rfl) rfl #[.pointer (some ⟨g, 0, none⟩), .int .i64 (wrap64 (1 + t169))] rfl (by (try simp only [List.map_toArray, List.map_cons, List.map_nil]); first | done | rfl | (simp only [List.length_drop, List.length_take]; rfl)) ?_; (with_reducible refine (spec_l1Cur_plane.calls k g s1_0 t167 t168 (wrap64 (1 + t169)) t170 t171 t172 t175 t176 w0 _ ?side1 ?side2 A16.out).mono ?_); (case side1 => repeat (first | (with_reducible first | exact HI1.out | apply IsS123.alloc | apply IsS123.drewN | apply IsS123.drew | apply IsS123.set_1 | apply IsS123.set_2 | refine IsS123.far ?_ NB1_157.out _ | refine IsS123.far ?_ NB1_165.out _) | exact HI1.out)); (case side2 => repeat (first | (with_reducible first | exact HB.out | apply below_alloc | apply pw_below_drewN | apply below_drew1 | refine below_set ?_ (IsS123.ge HI1.out) | refine below_set ?_ GE157.out | refine below_set ?_ GE165.out) | exact HB.out)); rintro e w17 ⟨v173, rfl, ho0, hi, hb, hk⟩; refine ⟨_, rfl, ?_⟩; have n0_ := Aside0.mk (KeepBut.blk hk (g' := gb157) (o := .cells #[.int .i64 0, .int .i64 0, .slice none 0 0] 66 (0, 0)) (by (with_reducible repeat (first | refine blk_drewN ?_ _ | refine blk_drew ?_ | refine blk_alloc ?_ _)); exact BK157.out) NB157_1.out (by simp)); have n1_ := Aside0.mk (Kd.R_mono (Kd.R_told (Kd.R_oldK (IsS123.apart (show IsS123 w0 _ g s1_0 t167 t168 from by repeat (first | (with_reducible first | exact HI1.out | apply IsS123.alloc | apply IsS123.drewN | apply IsS123.drew | apply IsS123.set_1 | apply IsS123.set_2 | refine IsS123.far ?_ NB1_157.out _ | refine IsS123.far ?_ NB1_165.out _) | exact HI1.out)) (by (with_reducible repeat (first | apply Kd.R_alloc | apply Kd.R_drewN | apply Kd.R_drew)); exact HO162.out) (by decide)) hk) (Kd.R_base ho0)) (fun _ h_ => h_.1)); have n2_ := Aside0.mk (KeepBut.blk hk (g' := gb165) (o := .cells #[.int .i64 t158, .int .i64 t159, .slice Ao12 t160.length co12] 66 (0, 0)) (by (with_reducible repeat (first | refine blk_drewN ?_ _ | refine blk_drew ?_ | refine blk_alloc ?_ _)); exact BK165.out) NB165_1.out (by simp)); have n3_ := Aside0.mk (Kd.R_lower (Kd.R_new' ho0 (Kd.R_lt (by (with_reducible repeat (first | apply Kd.R_alloc | apply Kd.R_drewN | apply Kd.R_drew)); exact HO162.out))) (keep_size (w := w) (g := g) (row := none) (by repeat (first | (with_reducible first | exact HK.out | apply KeepBut.set_ | apply keep_drewN | apply keep_drew | apply keep_alloc | refine keep_far ?_ GW157.out _ | refine keep_far ?_ GW165.out _) | exact HK.out)))); have n4_ := Aside0.mk (KeepBut.trans (by repeat (first | (with_reducible first | exact HK.out | apply KeepBut.set_ | apply keep_drewN | apply keep_drew | apply keep_alloc | refine keep_far ?_ GW157.out _ | refine keep_far ?_ GW165.out _) | exact HK.out)) hk (.inl rfl)); have n5_ := Aside0.mk (hb); have n6_ := Aside0.mk (hi); clear BK157; clear HO162; clear BK165; clear HK; clear HB; clear HI1; have BK157 := n0_; have HO162 := n1_; have BK165 := n2_; have HO174 := n3_; have HK := n4_; have HB := n5_; have HI1 := n6_; clear n0_ n1_ n2_ n3_ n4_ n5_ n6_; (try clear hb); (try clear hb2); (try clear hk); (try clear hi); (try clear ho0); have hnb18 := NB165_157.out; have hnc18 := NB157_165.out; have hnb19 := NB165_1.out; have hnc19 := NB1_165.out; have hcz20_0 : w17.cell? ⟨gb165, 0, none⟩ = some (.int .i64 t158) := (blk_cell BK165.out 0).trans rfl; have hcz20_1 : w17.cell? ⟨gb165, 1, none⟩ = some (.int .i64 t159) := (blk_cell BK165.out 1).trans rfl; have hcz20_2 : w17.cell? ⟨gb165, 2, none⟩ = some (.slice Ao12 t160.length co12) := (blk_cell BK165.out 2).trans rfl; have hfz20_0 := blk_frozen BK165.out 0; have hfz20_1 := blk_frozen BK165.out 1; have hfz20_2 := blk_frozen BK165.out 2; obtain ⟨Ao21, co21, eo21⟩ := Kd.R_slice HO174.out; subst eo21))
    go_meet
    case rel => exact ⟨_, (t175), (t176), (t170), (t171), (t172), (.slice Ao21 t172.length co21), H', ⟨by first | omega | exact Nat.le_refl _⟩, ⟨by (with_reducible repeat (first | apply Kd.R_alloc | apply Kd.R_drewN | apply Kd.R_drew)); exact Kd.R_mono (Kd.R_far (p := ⟨gb165, 2, none⟩) (Kd.R_far (p := ⟨gb165, 1, none⟩) (Kd.R_far (p := ⟨gb165, 0, none⟩) (Kd.R_types HO174.out BK165.out (by decide)) (fun _ hk => hk.2) (.int .i64 t170)) (fun _ hk => hk.2) (.int .i64 t171)) (fun _ hk => hk.2) (.slice Ao21 t172.length co21)) (fun _ hk => trivial)⟩, ⟨by (with_reducible repeat (first | refine blk_drewN ?_ _ | refine blk_drew ?_ | refine blk_alloc ?_ _)); refine blk_far ?_ NB157_165.out _; (with_reducible repeat (first | refine blk_drewN ?_ _ | refine blk_drew ?_ | refine blk_alloc ?_ _)); refine blk_far ?_ NB157_165.out _; (with_reducible repeat (first | refine blk_drewN ?_ _ | refine blk_drew ?_ | refine blk_alloc ?_ _)); refine blk_far ?_ NB157_165.out _; (with_reducible repeat (first | refine blk_drewN ?_ _ | refine blk_drew ?_ | refine blk_alloc ?_ _)); exact BK157.out⟩, ⟨by (with_reducible repeat (first | refine blk_drewN ?_ _ | refine blk_drew ?_ | refine blk_alloc ?_ _)); refine blk_put (cs := #[.int .i64 t170, .int .i64 t171, .slice Ao12 t160.length co12]) ?_ 2 _ rfl; (with_reducible repeat (first | refine blk_drewN ?_ _ | refine blk_drew ?_ | refine blk_alloc ?_ _)); refine blk_put (cs := #[.int .i64 t170, .int .i64 t159, .slice Ao12 t160.length co12]) ?_ 1 _ rfl; (with_reducible repeat (first | refine blk_drewN ?_ _ | refine blk_drew ?_ | refine blk_alloc ?_ _)); refine blk_put (cs := #[.int .i64 t158, .int .i64 t159, .slice Ao12 t160.length co12]) ?_ 0 _ rfl; (with_reducible repeat (first | refine blk_drewN ?_ _ | refine blk_drew ?_ | refine blk_alloc ?_ _)); exact BK165.out⟩, ⟨by repeat (first | (with_reducible first | exact HI1.out | apply IsS123.alloc | apply IsS123.drewN | apply IsS123.drew | apply IsS123.set_1 | apply IsS123.set_2 | refine IsS123.far ?_ NB1_157.out _ | refine IsS123.far ?_ NB1_165.out _) | exact HI1.out)⟩, ⟨by repeat (first | (with_reducible first | exact HK.out | apply KeepBut.set_ | apply keep_drewN | apply keep_drew | apply keep_alloc | refine keep_far ?_ GW157.out _ | refine keep_far ?_ GW165.out _) | exact HK.out)⟩, ⟨by repeat (first | (with_reducible first | exact HB.out | apply below_alloc | apply pw_below_drewN | apply below_drew1 | refine below_set ?_ (IsS123.ge HI1.out) | refine below_set ?_ GE157.out | refine below_set ?_ GE165.out) | exact HB.out)⟩⟩
  case rest =>
    clear HC5
    try clear c1
    try clear p2
    try clear p6
    try clear c9
    try clear c10
    try clear c14
    try clear c15
    try clear c18
    try clear c19
    try clear hcz11_0
    try clear hcz11_1
    try clear hcz11_2
    try clear hcz20_0
    try clear hcz20_1
    try clear hcz20_2
    try clear hfz11_0
    try clear hfz11_1
    try clear hfz11_2
    try clear hfz20_0
    try clear hfz20_1
    try clear hfz20_2
    obtain ⟨kq, x2001_4, x2002_4, x166000_4, x166001_4, x166002_4, u166002, HA, HJ4, HO_166002, BK157, BK165, HI1, HK, HB⟩ := hcut
    cases kq with
    | zero => exact absurd HA.out (by simp [spec_l7Plane.j0])
    | succ kj4 =>
      have H := HA.out
      clear HA
      simp only [spec_l7Plane.j0] at H
      replace H := Option.bind_eq_some_iff.mp H
      obtain ⟨⟨t177, t178, t179⟩, A220, H⟩ := H
      replace H : (if t177 = 0 then ((spec_l1Cur_pick.f s1_0 t178 t179 3).bind fun bt180 => (some (wrap64 (x166000_4 + (wrap64 (bt180.1 - 1))), x166001_4, x166002_4, bt180.2.1, bt180.2.2))) else (if t177 = 1 then ((some (([(-1), 256] : List Int) : List Int)).bind fun y183 => ((spec_l1Cur_pick.f s1_0 t178 t179 2).bind fun bt186 => (if 0 ≤ bt186.1 then (if bt186.1 < (y183.length : Int) then (if 0 < (x166002_4.length : Int) then (some (x166000_4, x166001_4, (x166002_4.set (0 : Int).toNat (rd y183 bt186.1)), bt186.2.1, bt186.2.2)) else (none)) else (none)) else (none)))) else (some (x166000_4, x166001_4, x166002_4, t178, t179)))) = some (r1, r2, r3, r4, r5) := H
      have A22 := Aside0.mk A220
      clear A220
      by_cases c23 : t177 = 0
      · rw [if_pos c23] at H
        have c23b0 : (t177 == 0) = true := beq_iff_eq.mpr c23
        have c23b1 : (t177 != 0) = false := bne_eq_false_iff_eq.mpr c23
        clear c23
        replace H := Option.bind_eq_some_iff.mp H
        obtain ⟨⟨t180, t181, t182⟩, A240, H⟩ := H
        replace H : (some (wrap64 (x166000_4 + (wrap64 (t180 - 1))), x166001_4, x166002_4, t181, t182)) = some (r1, r2, r3, r4, r5) := H
        have A24 := Aside0.mk A240
        clear A240
        simp only [Option.some.injEq, Prod.mk.injEq] at H
        obtain ⟨rfl, rfl, rfl, rfl, rfl⟩ := H
        try go_wp2_with (first | ((with_reducible refine gate_callee (f := 105) rfl ?_); refine goesL_ (some 16) rfl rfl Try.func105 (by kernel_rfl) rfl #[.pointer (some ⟨g, 0, none⟩), .int .i64 16] rfl (by (try simp only [List.map_toArray, List.map_cons, List.map_nil]); first | done | rfl | (simp only [List.length_drop, List.length_take]; rfl)) ?_; (with_reducible refine (spec_l1Cur_pick.calls g s1_0 x2001_4 x2002_4 16 t177 t178 t179 w0 _ ?side1 ?side2 A22.out).mono ?_); (case side1 => repeat (first | (with_reducible first | exact HI1.out | apply IsS123.alloc | apply IsS123.drewN | apply IsS123.drew | apply IsS123.set_1 | apply IsS123.set_2 | refine IsS123.far ?_ NB1_157.out _ | refine IsS123.far ?_ NB1_165.out _) | exact HI1.out)); (case side2 => repeat (first | (with_reducible first | exact HB.out | apply below_alloc | apply pw_below_drewN | apply below_drew1 | refine below_set ?_ (IsS123.ge HI1.out) | refine below_set ?_ GE157.out | refine below_set ?_ GE165.out) | exact HB.out)); rintro e w25 ⟨rfl, hi, hb, hk⟩; refine ⟨_, rfl, ?_⟩; have n0_ := Aside0.mk (Kd.R_mono (Kd.R_keep (IsS123.apart (show IsS123 w0 _ g s1_0 x2001_4 x2002_4 from by repeat (first | (with_reducible first | exact HI1.out | apply IsS123.alloc | apply IsS123.drewN | apply IsS123.drew | apply IsS123.set_1 | apply IsS123.set_2 | refine IsS123.far ?_ NB1_157.out _ | refine IsS123.far ?_ NB1_165.out _) | exact HI1.out)) (by (with_reducible repeat (first | apply Kd.R_alloc | apply Kd.R_drewN | apply Kd.R_drew)); exact HO_166002.out) (by decide)) hk (fun _ h => h.2)) (fun _ h => h.1)); have n1_ := Aside0.mk (KeepBut.blk hk (g' := gb157) (o := .cells #[.int .i64 0, .int .i64 0, .slice none 0 0] 66 (0, 0)) (by (with_reducible repeat (first | refine blk_drewN ?_ _ | refine blk_drew ?_ | refine blk_alloc ?_ _)); exact BK157.out) NB157_1.out (by simp)); have n2_ := Aside0.mk (KeepBut.blk hk (g' := gb165) (o := .cells #[.int .i64 x166000_4, .int .i64 x166001_4, u166002] 66 (0, 0)) (by (with_reducible repeat (first | refine blk_drewN ?_ _ | refine blk_drew ?_ | refine blk_alloc ?_ _)); exact BK165.out) NB165_1.out (by simp)); have n3_ := Aside0.mk (KeepBut.trans (by repeat (first | (with_reducible first | exact HK.out | apply KeepBut.set_ | apply keep_drewN | apply keep_drew | apply keep_alloc | refine keep_far ?_ GW157.out _ | refine keep_far ?_ GW165.out _) | exact HK.out)) hk (.inl rfl)); have n4_ := Aside0.mk (hb); have n5_ := Aside0.mk (hi); clear HO_166002; clear BK157; clear BK165; clear HK; clear HB; clear HI1; have HO_166002 := n0_; have BK157 := n1_; have BK165 := n2_; have HK := n3_; have HB := n4_; have HI1 := n5_; clear n0_ n1_ n2_ n3_ n4_ n5_; (try clear hb); (try clear hb2); (try clear hk); (try clear hi)))
        have n0_ := Aside0.mk (Kd.R_drew HO_166002.out)
        have n1_ := Aside0.mk (blk_drew BK157.out)
        have n2_ := Aside0.mk (blk_drew BK165.out)
        have n3_ := Aside0.mk (IsS123.drew HI1.out)
        have n4_ := Aside0.mk (keep_drew HK.out)
        have n5_ := Aside0.mk (below_drew1 HB.out)
        clear HO_166002
        clear BK157
        clear BK165
        clear HI1
        clear HK
        clear HB
        have HO_166002 := n0_
        have BK157 := n1_
        have BK165 := n2_
        have HI1 := n3_
        have HK := n4_
        have HB := n5_
        clear n0_ n1_ n2_ n3_ n4_ n5_
        refine start_ (n := 8) (S := fun w' => w'.cell? ⟨gb165, 0, none⟩ = some (.int .i64 x166000_4) ∧ w'.cell? ⟨gb165, 1, none⟩ = some (.int .i64 x166001_4) ∧ w'.cell? ⟨gb165, 2, none⟩ = some (u166002)) (ds := [7]) #[false, false, false, false, false, false, false, false] (by kernel_rfl) rfl rfl ⟨(blk_cell BK165.out 0).trans rfl, (blk_cell BK165.out 1).trans rfl, (blk_cell BK165.out 2).trans rfl⟩ (fun hHeld => ?_); refine with_tabW spec_l7Plane.tab6 spec_l7Plane.bits6 (fun HT_ HW_ => ?_)
        generalize w25.drew = w26 at HO_166002 BK157 BK165 HI1 HK HB hHeld ⊢
        refine pure_ (i := 0) (N := some 19) (v := ?_) (a' := ?_) #[true, false, false, false, false, false, false, false] rfl rfl (any_of HT_.out (by kernel_rfl)) (fun _ _ _ h => h) (Or.inl ⟨by rfl, ?_⟩) ?_ ?_
        rotate_left
        · intro w'
          go_simp
          with_reducible rfl
        rotate_left
        · simp only [Act.put, List.setIfInBounds_toArray, List.set_cons_zero, List.set_cons_succ, i64_w, i32_w]
          rfl
        refine pure_ (i := 2) (N := some 21) (v := ?_) (a' := ?_) #[true, false, true, false, false, false, false, false] rfl rfl (any_of HT_.out (by kernel_rfl)) (fun _ _ _ h => h) (Or.inl ⟨by rfl, ?_⟩) ?_ ?_
        rotate_left
        · intro w'
          go_simp
          with_reducible rfl
        rotate_left
        · simp only [Act.put, List.setIfInBounds_toArray, List.set_cons_zero, List.set_cons_succ, i64_w, i32_w]
          rfl
        refine take_ (i := 1) (N := some 20) (v := ?_) (a' := ?_) #[true, true, true, false, false, false, false, false] rfl rfl (take_ofW HT_.out HW_.out (by kernel_rfl)) (fun _ _ _ h => h) (Or.inl ⟨by rfl, ?_⟩) hHeld ?_ ?_
        rotate_left
        · rintro w' ⟨s0, s1, s2⟩
          go_simp
          with_reducible rfl
        rotate_left
        · simp only [Act.put, List.setIfInBounds_toArray, List.set_cons_zero, List.set_cons_succ, i64_w, i32_w]
          rfl
        refine one_ (i := 3) (N := some 22) #[true, true, true, true, false, false, false, false] rfl rfl (one_of HT_.out (by kernel_rfl)) (by decide) (fun K hK => ?_)
        refine goes_ Try.func105 (by kernel_rfl) rfl #[.pointer (some ⟨g, 0, none⟩), .int .i64 3] (by rfl) rfl rfl (by (try simp only [List.map_toArray, List.map_cons, List.map_nil]); first | done | rfl | (simp only [List.length_drop, List.length_take]; rfl)) ?_
        with_reducible refine (spec_l1Cur_pick.calls g s1_0 t178 t179 3 t180 t181 t182 w0 _ ?side1 ?side2 A24.out).mono ?_
        (case side1 => repeat (first | (with_reducible first | exact HI1.out | apply IsS123.alloc | apply IsS123.drewN | apply IsS123.drew | apply IsS123.set_1 | apply IsS123.set_2 | refine IsS123.far ?_ NB1_157.out _ | refine IsS123.far ?_ NB1_165.out _) | exact HI1.out))
        (case side2 => repeat (first | (with_reducible first | exact HB.out | apply below_alloc | apply pw_below_drewN | apply below_drew1 | refine below_set ?_ (IsS123.ge HI1.out) | refine below_set ?_ GE157.out | refine below_set ?_ GE165.out) | exact HB.out))
        rintro e w27 ⟨rfl, hi, hb, hk⟩
        refine ⟨_, rfl, ?_⟩
        have n0_ := Aside0.mk (Kd.R_mono (Kd.R_keep (IsS123.apart (show IsS123 w0 _ g s1_0 t178 t179 from by repeat (first | (with_reducible first | exact HI1.out | apply IsS123.alloc | apply IsS123.drewN | apply IsS123.drew | apply IsS123.set_1 | apply IsS123.set_2 | refine IsS123.far ?_ NB1_157.out _ | refine IsS123.far ?_ NB1_165.out _) | exact HI1.out)) (by (with_reducible repeat (first | apply Kd.R_alloc | apply Kd.R_drewN | apply Kd.R_drew)); exact HO_166002.out) (by decide)) hk (fun _ h => h.2)) (fun _ h => h.1))
        have n1_ := Aside0.mk (KeepBut.blk hk (g' := gb157) (o := .cells #[.int .i64 0, .int .i64 0, .slice none 0 0] 66 (0, 0)) (by (with_reducible repeat (first | refine blk_drewN ?_ _ | refine blk_drew ?_ | refine blk_alloc ?_ _)); exact BK157.out) NB157_1.out (by simp))
        have n2_ := Aside0.mk (KeepBut.blk hk (g' := gb165) (o := .cells #[.int .i64 x166000_4, .int .i64 x166001_4, u166002] 66 (0, 0)) (by (with_reducible repeat (first | refine blk_drewN ?_ _ | refine blk_drew ?_ | refine blk_alloc ?_ _)); exact BK165.out) NB165_1.out (by simp))
        have n3_ := Aside0.mk (KeepBut.trans (by repeat (first | (with_reducible first | exact HK.out | apply KeepBut.set_ | apply keep_drewN | apply keep_drew | apply keep_alloc | refine keep_far ?_ GW157.out _ | refine keep_far ?_ GW165.out _) | exact HK.out)) hk (.inl rfl))
        have n4_ := Aside0.mk (hb)
        have n5_ := Aside0.mk (hi)
        clear HO_166002
        clear BK157
        clear BK165
        clear HK
        clear HB
        clear HI1
        have HO_166002 := n0_
        have BK157 := n1_
        have BK165 := n2_
        have HK := n3_
        have HB := n4_
        have HI1 := n5_
        clear n0_ n1_ n2_ n3_ n4_ n5_
        (try clear hb)
        (try clear hb2)
        (try clear hk)
        (try clear hi)
        refine hK.out _ _ ⟨(blk_cell BK165.out 0).trans rfl, (blk_cell BK165.out 1).trans rfl, (blk_cell BK165.out 2).trans rfl⟩ (fun hHeld => ?_)
        clear hK K
        refine norm_ (a' := ?_) ?_ ?_
        rotate_left
        · show Act.put _ (some 22) _ = _
          simp only [Act.put, List.setIfInBounds_toArray, List.set_cons_zero, List.set_cons_succ, i64_w, i32_w]
          rfl
        refine pure_ (i := 4) (N := some 23) (v := ?_) (a' := ?_) #[true, true, true, true, true, false, false, false] rfl rfl (any_of HT_.out (by kernel_rfl)) (fun _ _ _ h => h) (Or.inl ⟨by rfl, ?_⟩) ?_ ?_
        rotate_left
        · intro w'
          go_simp
          with_reducible rfl
        rotate_left
        · simp only [Act.put, List.setIfInBounds_toArray, List.set_cons_zero, List.set_cons_succ, i64_w, i32_w]
          rfl
        refine pure_ (i := 5) (N := some 24) (v := ?_) (a' := ?_) #[true, true, true, true, true, true, false, false] rfl rfl (any_of HT_.out (by kernel_rfl)) (fun _ _ _ h => h) (Or.inl ⟨by rfl, ?_⟩) ?_ ?_
        rotate_left
        · intro w'
          go_simp
          with_reducible rfl
        rotate_left
        · simp only [Act.put, List.setIfInBounds_toArray, List.set_cons_zero, List.set_cons_succ, i64_w, i32_w]
          rfl
        refine pure_ (i := 6) (N := some 25) (v := ?_) (a' := ?_) #[true, true, true, true, true, true, true, false] rfl rfl (any_of HT_.out (by kernel_rfl)) (fun _ _ _ h => h) (Or.inl ⟨by rfl, ?_⟩) ?_ ?_
        rotate_left
        · intro w'
          go_simp
          with_reducible rfl
        rotate_left
        · simp only [Act.put, List.setIfInBounds_toArray, List.set_cons_zero, List.set_cons_succ, i64_w, i32_w]
          rfl
        refine last_ (i := 7) (N := none) #[true, true, true, true, true, true, true, true] rfl rfl (one_of HT_.out (by kernel_rfl)) (by decide) (fun K hK => ?_)
        have hs28 : w27.cell? ⟨gb165, 0, none⟩ = some (.int .i64 x166000_4) := (blk_cell BK165.out 0).trans rfl
        have hfs28 := blk_frozen BK165.out 0
        have hns28_0 := NB157_165.out
        have hms28_0 := NB165_157.out
        refine skip_ (w1 := ?_) (by rfl) rfl ?_ ?_
        rotate_left
        · go_simp
          rfl
        refine hK.out _ _ ?_
        clear hK K
        refine done_ (done_of HT_.out (by kernel_rfl)) ?_
        have hnb29 := NB165_157.out
        have hnc29 := NB157_165.out
        have hnb30 := NB165_1.out
        have hnc30 := NB1_165.out
        have hcz31_0 : w27.cell? ⟨gb165, 0, none⟩ = some (.int .i64 x166000_4) := (blk_cell BK165.out 0).trans rfl
        have hcz31_1 : w27.cell? ⟨gb165, 1, none⟩ = some (.int .i64 x166001_4) := (blk_cell BK165.out 1).trans rfl
        have hcz31_2 : w27.cell? ⟨gb165, 2, none⟩ = some (u166002) := (blk_cell BK165.out 2).trans rfl
        have hfz31_0 := blk_frozen BK165.out 0
        have hfz31_1 := blk_frozen BK165.out 1
        have hfz31_2 := blk_frozen BK165.out 2
        have hnb32 := NB157_1.out
        have hnc32 := NB1_157.out
        have hcz33_0 : w27.cell? ⟨gb157, 0, none⟩ = some (.int .i64 0) := (blk_cell BK157.out 0).trans rfl
        have hcz33_1 : w27.cell? ⟨gb157, 1, none⟩ = some (.int .i64 0) := (blk_cell BK157.out 1).trans rfl
        have hcz33_2 : w27.cell? ⟨gb157, 2, none⟩ = some (.slice none 0 0) := (blk_cell BK157.out 2).trans rfl
        have hfz33_0 := blk_frozen BK157.out 0
        have hfz33_1 := blk_frozen BK157.out 1
        have hfz33_2 := blk_frozen BK157.out 2
        obtain ⟨Ao34, co34, eo34⟩ := Kd.R_slice HO_166002.out
        subst eo34
        try go_wp2
        refine bodyPost_ret (results_cell_row rfl _ _ gb157 66 #[.int .i64 (wrap64 (x166000_4 + (wrap64 (t180 - 1)))), .int .i64 x166001_4, .slice Ao34 x166002_4.length co34] (0, 0) _ rfl (by (with_reducible repeat (first | refine blk_drewN ?_ _ | refine blk_drew ?_ | refine blk_alloc ?_ _)); refine blk_put (cs := #[.int .i64 (wrap64 (x166000_4 + (wrap64 (t180 - 1)))), .int .i64 x166001_4, .slice none 0 0]) ?_ 2 _ rfl; (with_reducible repeat (first | refine blk_drewN ?_ _ | refine blk_drew ?_ | refine blk_alloc ?_ _)); refine blk_put (cs := #[.int .i64 (wrap64 (x166000_4 + (wrap64 (t180 - 1)))), .int .i64 0, .slice none 0 0]) ?_ 1 _ rfl; (with_reducible repeat (first | refine blk_drewN ?_ _ | refine blk_drew ?_ | refine blk_alloc ?_ _)); refine blk_put (cs := #[.int .i64 0, .int .i64 0, .slice none 0 0]) ?_ 0 _ rfl; (with_reducible repeat (first | refine blk_drewN ?_ _ | refine blk_drew ?_ | refine blk_alloc ?_ _)); refine blk_far ?_ NB157_165.out _; (with_reducible repeat (first | refine blk_drewN ?_ _ | refine blk_drew ?_ | refine blk_alloc ?_ _)); exact BK157.out) Try.underlying66 rfl (by kernel_rfl)) rfl ?_
        exact ⟨_, by first | rfl | (simp [errW_none, errW_some] <;> rfl) | (simp [*, errW_none, errW_some] <;> rfl), by (with_reducible repeat (first | apply Kd.R_alloc | apply Kd.R_drewN | apply Kd.R_drew)); exact Kd.R_mono (Kd.R_far (p := ⟨gb157, 2, none⟩) (Kd.R_far (p := ⟨gb157, 1, none⟩) (Kd.R_far (p := ⟨gb157, 0, none⟩) (Kd.R_far (p := ⟨gb165, 0, none⟩) (Kd.R_types (Kd.R_types HO_166002.out BK165.out (by decide)) BK157.out (by decide)) (fun _ hk => hk.1.2) (.int .i64 (wrap64 (x166000_4 + (wrap64 (t180 - 1)))))) (fun _ hk => hk.2) (.int .i64 (wrap64 (x166000_4 + (wrap64 (t180 - 1)))))) (fun _ hk => hk.2) (.int .i64 x166001_4)) (fun _ hk => hk.2) (.slice Ao34 x166002_4.length co34)) (fun _ hk => trivial), by repeat (first | (with_reducible first | exact HI1.out | apply IsS123.alloc | apply IsS123.drewN | apply IsS123.drew | apply IsS123.set_1 | apply IsS123.set_2 | refine IsS123.far ?_ NB1_157.out _ | refine IsS123.far ?_ NB1_165.out _) | exact HI1.out), by repeat (first | (with_reducible first | exact HB.out | apply below_alloc | apply pw_below_drewN | apply below_drew1 | refine below_set ?_ (IsS123.ge HI1.out) | refine below_set ?_ GE157.out | refine below_set ?_ GE165.out) | exact HB.out), by repeat (first | (with_reducible first | exact HK.out | apply KeepBut.set_ | apply keep_drewN | apply keep_drew | apply keep_alloc | refine keep_far ?_ GW157.out _ | refine keep_far ?_ GW165.out _) | exact HK.out)⟩
      rw [if_neg c23] at H
      have c23b0 : (t177 == 0) = false := beq_eq_false_iff_ne.mpr c23
      have c23b1 : (t177 != 0) = true := bne_iff_ne.mpr c23
      by_cases c35 : t177 = 1
      rotate_left
      · rw [if_neg c35] at H
        have c35b0 : (t177 == 1) = false := beq_eq_false_iff_ne.mpr c35
        have c35b1 : (t177 != 1) = true := bne_iff_ne.mpr c35
        simp only [Option.some.injEq, Prod.mk.injEq] at H
        obtain ⟨rfl, rfl, rfl, rfl, rfl⟩ := H
        go_wp2_with (first | ((with_reducible refine gate_callee (f := 105) rfl ?_); refine goesL_ (some 16) rfl rfl Try.func105 (by kernel_rfl) rfl #[.pointer (some ⟨g, 0, none⟩), .int .i64 16] rfl (by (try simp only [List.map_toArray, List.map_cons, List.map_nil]); first | done | rfl | (simp only [List.length_drop, List.length_take]; rfl)) ?_; (with_reducible refine (spec_l1Cur_pick.calls g s1_0 x2001_4 x2002_4 16 t177 t178 t179 w0 _ ?side1 ?side2 A22.out).mono ?_); (case side1 => repeat (first | (with_reducible first | exact HI1.out | apply IsS123.alloc | apply IsS123.drewN | apply IsS123.drew | apply IsS123.set_1 | apply IsS123.set_2 | refine IsS123.far ?_ NB1_157.out _ | refine IsS123.far ?_ NB1_165.out _) | exact HI1.out)); (case side2 => repeat (first | (with_reducible first | exact HB.out | apply below_alloc | apply pw_below_drewN | apply below_drew1 | refine below_set ?_ (IsS123.ge HI1.out) | refine below_set ?_ GE157.out | refine below_set ?_ GE165.out) | exact HB.out)); rintro e w56 ⟨rfl, hi, hb, hk⟩; refine ⟨_, rfl, ?_⟩; have n0_ := Aside0.mk (Kd.R_mono (Kd.R_keep (IsS123.apart (show IsS123 w0 _ g s1_0 x2001_4 x2002_4 from by repeat (first | (with_reducible first | exact HI1.out | apply IsS123.alloc | apply IsS123.drewN | apply IsS123.drew | apply IsS123.set_1 | apply IsS123.set_2 | refine IsS123.far ?_ NB1_157.out _ | refine IsS123.far ?_ NB1_165.out _) | exact HI1.out)) (by (with_reducible repeat (first | apply Kd.R_alloc | apply Kd.R_drewN | apply Kd.R_drew)); exact HO_166002.out) (by decide)) hk (fun _ h => h.2)) (fun _ h => h.1)); have n1_ := Aside0.mk (KeepBut.blk hk (g' := gb157) (o := .cells #[.int .i64 0, .int .i64 0, .slice none 0 0] 66 (0, 0)) (by (with_reducible repeat (first | refine blk_drewN ?_ _ | refine blk_drew ?_ | refine blk_alloc ?_ _)); exact BK157.out) NB157_1.out (by simp)); have n2_ := Aside0.mk (KeepBut.blk hk (g' := gb165) (o := .cells #[.int .i64 x166000_4, .int .i64 x166001_4, u166002] 66 (0, 0)) (by (with_reducible repeat (first | refine blk_drewN ?_ _ | refine blk_drew ?_ | refine blk_alloc ?_ _)); exact BK165.out) NB165_1.out (by simp)); have n3_ := Aside0.mk (KeepBut.trans (by repeat (first | (with_reducible first | exact HK.out | apply KeepBut.set_ | apply keep_drewN | apply keep_drew | apply keep_alloc | refine keep_far ?_ GW157.out _ | refine keep_far ?_ GW165.out _) | exact HK.out)) hk (.inl rfl)); have n4_ := Aside0.mk (hb); have n5_ := Aside0.mk (hi); clear HO_166002; clear BK157; clear BK165; clear HK; clear HB; clear HI1; have HO_166002 := n0_; have BK157 := n1_; have BK165 := n2_; have HK := n3_; have HB := n4_; have HI1 := n5_; clear n0_ n1_ n2_ n3_ n4_ n5_; (try clear hb); (try clear hb2); (try clear hk); (try clear hi); have hnb57 := NB165_157.out; have hnc57 := NB157_165.out; have hnb58 := NB165_1.out; have hnc58 := NB1_165.out; have hcz59_0 : w56.cell? ⟨gb165, 0, none⟩ = some (.int .i64 x166000_4) := (blk_cell BK165.out 0).trans rfl; have hcz59_1 : w56.cell? ⟨gb165, 1, none⟩ = some (.int .i64 x166001_4) := (blk_cell BK165.out 1).trans rfl; have hcz59_2 : w56.cell? ⟨gb165, 2, none⟩ = some (u166002) := (blk_cell BK165.out 2).trans rfl; have hfz59_0 := blk_frozen BK165.out 0; have hfz59_1 := blk_frozen BK165.out 1; have hfz59_2 := blk_frozen BK165.out 2; have hnb60 := NB157_1.out; have hnc60 := NB1_157.out; have hcz61_0 : w56.cell? ⟨gb157, 0, none⟩ = some (.int .i64 0) := (blk_cell BK157.out 0).trans rfl; have hcz61_1 : w56.cell? ⟨gb157, 1, none⟩ = some (.int .i64 0) := (blk_cell BK157.out 1).trans rfl; have hcz61_2 : w56.cell? ⟨gb157, 2, none⟩ = some (.slice none 0 0) := (blk_cell BK157.out 2).trans rfl; have hfz61_0 := blk_frozen BK157.out 0; have hfz61_1 := blk_frozen BK157.out 1; have hfz61_2 := blk_frozen BK157.out 2; obtain ⟨Ao62, co62, eo62⟩ := Kd.R_slice HO_166002.out; subst eo62))
        refine bodyPost_ret (results_cell_row rfl _ _ gb157 66 #[.int .i64 x166000_4, .int .i64 x166001_4, .slice Ao62 x166002_4.length co62] (0, 0) _ rfl (by (with_reducible repeat (first | refine blk_drewN ?_ _ | refine blk_drew ?_ | refine blk_alloc ?_ _)); refine blk_put (cs := #[.int .i64 x166000_4, .int .i64 x166001_4, .slice none 0 0]) ?_ 2 _ rfl; (with_reducible repeat (first | refine blk_drewN ?_ _ | refine blk_drew ?_ | refine blk_alloc ?_ _)); refine blk_put (cs := #[.int .i64 x166000_4, .int .i64 0, .slice none 0 0]) ?_ 1 _ rfl; (with_reducible repeat (first | refine blk_drewN ?_ _ | refine blk_drew ?_ | refine blk_alloc ?_ _)); refine blk_put (cs := #[.int .i64 0, .int .i64 0, .slice none 0 0]) ?_ 0 _ rfl; (with_reducible repeat (first | refine blk_drewN ?_ _ | refine blk_drew ?_ | refine blk_alloc ?_ _)); exact BK157.out) Try.underlying66 rfl (by kernel_rfl)) rfl ?_
        exact ⟨_, by first | rfl | (simp [errW_none, errW_some] <;> rfl) | (simp [*, errW_none, errW_some] <;> rfl), by (with_reducible repeat (first | apply Kd.R_alloc | apply Kd.R_drewN | apply Kd.R_drew)); exact Kd.R_mono (Kd.R_far (p := ⟨gb157, 2, none⟩) (Kd.R_far (p := ⟨gb157, 1, none⟩) (Kd.R_far (p := ⟨gb157, 0, none⟩) (Kd.R_types HO_166002.out BK157.out (by decide)) (fun _ hk => hk.2) (.int .i64 x166000_4)) (fun _ hk => hk.2) (.int .i64 x166001_4)) (fun _ hk => hk.2) (.slice Ao62 x166002_4.length co62)) (fun _ hk => trivial), by repeat (first | (with_reducible first | exact HI1.out | apply IsS123.alloc | apply IsS123.drewN | apply IsS123.drew | apply IsS123.set_1 | apply IsS123.set_2 | refine IsS123.far ?_ NB1_157.out _ | refine IsS123.far ?_ NB1_165.out _) | exact HI1.out), by repeat (first | (with_reducible first | exact HB.out | apply below_alloc | apply pw_below_drewN | apply below_drew1 | refine below_set ?_ (IsS123.ge HI1.out) | refine below_set ?_ GE157.out | refine below_set ?_ GE165.out) | exact HB.out), by repeat (first | (with_reducible first | exact HK.out | apply KeepBut.set_ | apply keep_drewN | apply keep_drew | apply keep_alloc | refine keep_far ?_ GW157.out _ | refine keep_far ?_ GW165.out _) | exact HK.out)⟩
      rw [if_pos c35] at H
      have c35b0 : (t177 == 1) = true := beq_iff_eq.mpr c35
      have c35b1 : (t177 != 1) = false := bne_eq_false_iff_eq.mpr c35
      clear c35
      obtain ⟨y183, hy183⟩ : ∃ y_ : List Int, y_ = (([(-1), 256] : List Int)) := ⟨_, rfl⟩
      replace H : ((spec_l1Cur_pick.f s1_0 t178 t179 2).bind fun bt186 => (if 0 ≤ bt186.1 then (if bt186.1 < (y183.length : Int) then (if 0 < (x166002_4.length : Int) then (some (x166000_4, x166001_4, (x166002_4.set (0 : Int).toNat (rd y183 bt186.1)), bt186.2.1, bt186.2.2)) else (none)) else (none)) else (none))) = some (r1, r2, r3, r4, r5) := by first | (rw [hy183]; with_reducible exact H) | (have H2_ := (Option.bind_some _ _).symm.trans H; rw [hy183]; with_reducible exact H2_) | (have H2_ := (Option.bind_some _ _).symm.trans H; with_reducible exact H2_) | with_reducible exact H | (rw [hy183]; exact H) | exact H
      have Ny183 := Aside0.mk hy183
      clear hy183
      replace H := Option.bind_eq_some_iff.mp H
      obtain ⟨⟨t186, t187, t188⟩, A360, H⟩ := H
      replace H : (if 0 ≤ t186 then (if t186 < (y183.length : Int) then (if 0 < (x166002_4.length : Int) then (some (x166000_4, x166001_4, (x166002_4.set (0 : Int).toNat (rd y183 t186)), t187, t188)) else (none)) else (none)) else (none)) = some (r1, r2, r3, r4, r5) := H
      have A36 := Aside0.mk A360
      clear A360
      by_cases c37 : 0 ≤ t186
      rotate_left
      · rw [if_neg c37] at H
        exact absurd H (by simp)
      rw [if_pos c37] at H
      have c37b0 : decide (0 ≤ t186) = true := decide_eq_true c37
      clear c37
      by_cases c38 : t186 < (y183.length : Int)
      rotate_left
      · rw [if_neg c38] at H
        exact absurd H (by simp)
      rw [if_pos c38] at H
      have c38b0 : decide (t186 < (y183.length : Int)) = true := decide_eq_true c38
      clear c38
      by_cases c39 : 0 < (x166002_4.length : Int)
      rotate_left
      · rw [if_neg c39] at H
        exact absurd H (by simp)
      rw [if_pos c39] at H
      have c39b0 : decide (0 < (x166002_4.length : Int)) = true := decide_eq_true c39
      have c39b1 : decide (0 < x166002_4.length) = true := decide_eq_true (by omega)
      have c39b2 : 0 < x166002_4.length := by omega
      clear c39
      obtain ⟨y190, hy190⟩ : ∃ y_ : List Int, y_ = (x166002_4.set (0 : Int).toNat (rd y183 t186)) := ⟨_, rfl⟩
      replace H : (some (x166000_4, x166001_4, y190, t187, t188)) = some (r1, r2, r3, r4, r5) := by first | (rw [hy190]; with_reducible exact H) | (have H2_ := (Option.bind_some _ _).symm.trans H; rw [hy190]; with_reducible exact H2_) | (have H2_ := (Option.bind_some _ _).symm.trans H; with_reducible exact H2_) | with_reducible exact H | (rw [hy190]; exact H) | exact H
      have Ny190 := Aside0.mk hy190
      clear hy190
      simp only [Option.some.injEq, Prod.mk.injEq] at H
      obtain ⟨rfl, rfl, rfl, rfl, rfl⟩ := H
      try go_wp2_with (first | ((with_reducible refine gate_callee (f := 105) rfl ?_); refine goesL_ (some 16) rfl rfl Try.func105 (by kernel_rfl) rfl #[.pointer (some ⟨g, 0, none⟩), .int .i64 16] rfl (by (try simp only [List.map_toArray, List.map_cons, List.map_nil]); first | done | rfl | (simp only [List.length_drop, List.length_take]; rfl)) ?_; (with_reducible refine (spec_l1Cur_pick.calls g s1_0 x2001_4 x2002_4 16 t177 t178 t179 w0 _ ?side1 ?side2 A22.out).mono ?_); (case side1 => repeat (first | (with_reducible first | exact HI1.out | apply IsS123.alloc | apply IsS123.drewN | apply IsS123.drew | apply IsS123.set_1 | apply IsS123.set_2 | refine IsS123.far ?_ NB1_157.out _ | refine IsS123.far ?_ NB1_165.out _) | exact HI1.out)); (case side2 => repeat (first | (with_reducible first | exact HB.out | apply below_alloc | apply pw_below_drewN | apply below_drew1 | refine below_set ?_ (IsS123.ge HI1.out) | refine below_set ?_ GE157.out | refine below_set ?_ GE165.out) | exact HB.out)); rintro e w41 ⟨rfl, hi, hb, hk⟩; refine ⟨_, rfl, ?_⟩; have n0_ := Aside0.mk (Kd.R_mono (Kd.R_keep (IsS123.apart (show IsS123 w0 _ g s1_0 x2001_4 x2002_4 from by repeat (first | (with_reducible first | exact HI1.out | apply IsS123.alloc | apply IsS123.drewN | apply IsS123.drew | apply IsS123.set_1 | apply IsS123.set_2 | refine IsS123.far ?_ NB1_157.out _ | refine IsS123.far ?_ NB1_165.out _) | exact HI1.out)) (by (with_reducible repeat (first | apply Kd.R_alloc | apply Kd.R_drewN | apply Kd.R_drew)); exact HO_166002.out) (by decide)) hk (fun _ h => h.2)) (fun _ h => h.1)); have n1_ := Aside0.mk (KeepBut.blk hk (g' := gb157) (o := .cells #[.int .i64 0, .int .i64 0, .slice none 0 0] 66 (0, 0)) (by (with_reducible repeat (first | refine blk_drewN ?_ _ | refine blk_drew ?_ | refine blk_alloc ?_ _)); exact BK157.out) NB157_1.out (by simp)); have n2_ := Aside0.mk (KeepBut.blk hk (g' := gb165) (o := .cells #[.int .i64 x166000_4, .int .i64 x166001_4, u166002] 66 (0, 0)) (by (with_reducible repeat (first | refine blk_drewN ?_ _ | refine blk_drew ?_ | refine blk_alloc ?_ _)); exact BK165.out) NB165_1.out (by simp)); have n3_ := Aside0.mk (KeepBut.trans (by repeat (first | (with_reducible first | exact HK.out | apply KeepBut.set_ | apply keep_drewN | apply keep_drew | apply keep_alloc | refine keep_far ?_ GW157.out _ | refine keep_far ?_ GW165.out _) | exact HK.out)) hk (.inl rfl)); have n4_ := Aside0.mk (hb); have n5_ := Aside0.mk (hi); clear HO_166002; clear BK157; clear BK165; clear HK; clear HB; clear HI1; have HO_166002 := n0_; have BK157 := n1_; have BK165 := n2_; have HK := n3_; have HB := n4_; have HI1 := n5_; clear n0_ n1_ n2_ n3_ n4_ n5_; (try clear hb); (try clear hb2); (try clear hk); (try clear hi)))
      have pi189 : (0 ≤ (t186 : Int)) = True := eq_true (of_decide_eq_true (by first | (with_reducible assumption) | assumption))
      have qi189 : (t186 < (y183.length : Int)) = True := eq_true (of_decide_eq_true (by first | (with_reducible assumption) | assumption))
      have n0_ := Aside0.mk (Kd.R_drew HO_166002.out)
      have n1_ := Aside0.mk (blk_drew BK157.out)
      have n2_ := Aside0.mk (blk_drew BK165.out)
      have n3_ := Aside0.mk (IsS123.drew HI1.out)
      have n4_ := Aside0.mk (keep_drew HK.out)
      have n5_ := Aside0.mk (below_drew1 HB.out)
      clear HO_166002
      clear BK157
      clear BK165
      clear HI1
      clear HK
      clear HB
      have HO_166002 := n0_
      have BK157 := n1_
      have BK165 := n2_
      have HI1 := n3_
      have HK := n4_
      have HB := n5_
      clear n0_ n1_ n2_ n3_ n4_ n5_
      refine start_ (n := 9) (S := fun w' => w'.cell? ⟨gb165, 0, none⟩ = some (.int .i64 x166000_4) ∧ w'.cell? ⟨gb165, 1, none⟩ = some (.int .i64 x166001_4) ∧ w'.cell? ⟨gb165, 2, none⟩ = some (u166002)) (ds := [8]) #[false, false, false, false, false, false, false, false, false] (by kernel_rfl) rfl rfl ⟨(blk_cell BK165.out 0).trans rfl, (blk_cell BK165.out 1).trans rfl, (blk_cell BK165.out 2).trans rfl⟩ (fun hHeld => ?_); refine with_tabW spec_l7Plane.tab8 spec_l7Plane.bits8 (fun HT_ HW_ => ?_)
      generalize w41.drew = w42 at HO_166002 BK157 BK165 HI1 HK HB hHeld ⊢
      refine pure_ (i := 0) (N := some 28) (v := ?_) (a' := ?_) #[true, false, false, false, false, false, false, false, false] rfl rfl (any_of HT_.out (by kernel_rfl)) (fun _ _ _ h => h) (Or.inl ⟨by rfl, ?_⟩) ?_ ?_
      rotate_left
      · intro w'
        go_simp
        with_reducible rfl
      rotate_left
      · simp only [Act.put, List.setIfInBounds_toArray, List.set_cons_zero, List.set_cons_succ, i64_w, i32_w]
        rfl
      refine pure_ (i := 3) (N := some 31) (v := ?_) (a' := ?_) #[true, false, false, true, false, false, false, false, false] rfl rfl (any_of HT_.out (by kernel_rfl)) (fun _ _ _ h => h) (Or.inl ⟨by rfl, ?_⟩) ?_ ?_
      rotate_left
      · intro w'
        go_simp
        with_reducible rfl
      rotate_left
      · simp only [Act.put, List.setIfInBounds_toArray, List.set_cons_zero, List.set_cons_succ, i64_w, i32_w]
        rfl
      refine take_ (i := 1) (N := some 29) (v := ?_) (a' := ?_) #[true, true, false, true, false, false, false, false, false] rfl rfl (take_ofW HT_.out HW_.out (by kernel_rfl)) (fun _ _ _ h => h) (Or.inl ⟨by rfl, ?_⟩) hHeld ?_ ?_
      rotate_left
      · rintro w' ⟨s0, s1, s2⟩
        go_simp
        with_reducible rfl
      rotate_left
      · simp only [Act.put, List.setIfInBounds_toArray, List.set_cons_zero, List.set_cons_succ, i64_w, i32_w]
        rfl
      refine join_ (σ := Value × Addr) 4 #[true, true, true, true, true, false, false, false, false] (fun s_ => [(30, s_.1), (32, .int .i64 t186)]) (fun s_ w' => (w'.cell? ⟨gb165, 0, none⟩ = some (.int .i64 x166000_4) ∧ w'.cell? ⟨gb165, 1, none⟩ = some (.int .i64 x166001_4) ∧ w'.cell? ⟨gb165, 2, none⟩ = some (u166002)) ∧ (Kd.R (Kd.int .i64) 3 w' w.heap.size (fun k_ => some k_ ≠ (u166002 : Value).ownBlock) s_.1 y183) ∧ (Kd.R (Kd.int .i64) 3 w' w.heap.size (fun k_ => some k_ ≠ (s_.1 : Value).ownBlock) u166002 x166002_4) ∧ (∃ c_, (s_.1 : Value) = .slice (some s_.2) y183.length c_) ∧ (w'.heap[gb157]? = some (.cells #[.int .i64 0, .int .i64 0, .slice none 0 0] 66 (0, 0))) ∧ (w'.heap[gb165]? = some (.cells #[.int .i64 x166000_4, .int .i64 x166001_4, u166002] 66 (0, 0))) ∧ (IsS123 w0 w' g s1_0 t187 t188) ∧ (KeepBut w w' g none) ∧ (Below w0.heap.size w0 w')) ?_ ?_
      rotate_left
      · intro hCont
        refine two_ (i := 2) (j := 4) (Ni := some 30) (Nj := some 32) #[true, true, true, true, false, false, false, false, false] #[true, true, false, true, true, false, false, false, false] rfl rfl rfl rfl (two_of HT_.out (by kernel_rfl)) (by decide) (by decide) (fun K hK => ?_) (fun K hK => ?_)
        · skip
          refine Kd.R_lit_step (Kd.int .i64) _ 3 ?hg (N := 30) ?hd (xs := ([(-1), 256] : List Int)) (inner := [.int .i64 (-1), .int .i64 256]) (ok := fun _ => True) (okp := fun _ => True) ?hr ?hp (fun _ hk => hk) trivial (Below.refl _ _) (Nat.le_refl _) (by simp) ?_; (case hd => rfl); (case hg => rfl); (case hr => first | (go_simp; done) | (go_simp; rfl)); (case hp => exact (Reps.one (show Kd.M (Kd.int .i64) _ _ _ (-1) [.int .i64 (-1)] from rfl) (Reps.one (show Kd.M (Kd.int .i64) _ _ _ 256 [.int .i64 256] from rfl) (Reps.none _ _))))
          intro v184 w43 ho44 hb hg_ hnew_
          clear hg_ hnew_
          (first | rw [← Ny183.out] at ho44 | (simp only [Int.reduceToNat] at ho44; rw [← Ny183.out] at ho44))
          have n0_ := Aside0.mk (Kd.R_elder' (by (with_reducible repeat (first | apply Kd.R_alloc | apply Kd.R_drewN | apply Kd.R_drew)); exact HO_166002.out) (Kd.R_base ho44) hb)
          have n1_ := Aside0.mk (Kd.R_lower (Kd.R_new' ho44 (Kd.R_lt (by (with_reducible repeat (first | apply Kd.R_alloc | apply Kd.R_drewN | apply Kd.R_drew)); exact HO_166002.out))) (keep_size (w := w) (g := g) (row := none) (by repeat (first | (with_reducible first | exact HK.out | apply KeepBut.set_ | apply keep_drewN | apply keep_drew | apply keep_alloc | refine keep_far ?_ GW157.out _ | refine keep_far ?_ GW165.out _) | exact HK.out))))
          have n2_ := Aside0.mk (blk_below (g := gb157) (o := .cells #[.int .i64 0, .int .i64 0, .slice none 0 0] 66 (0, 0)) (by (with_reducible repeat (first | refine blk_drewN ?_ _ | refine blk_drew ?_ | refine blk_alloc ?_ _)); exact BK157.out) hb)
          have n3_ := Aside0.mk (blk_below (g := gb165) (o := .cells #[.int .i64 x166000_4, .int .i64 x166001_4, u166002] 66 (0, 0)) (by (with_reducible repeat (first | refine blk_drewN ?_ _ | refine blk_drew ?_ | refine blk_alloc ?_ _)); exact BK165.out) hb)
          have n4_ := Aside0.mk (IsS123.below (by repeat (first | (with_reducible first | exact HI1.out | apply IsS123.alloc | apply IsS123.drewN | apply IsS123.drew | apply IsS123.set_1 | apply IsS123.set_2 | refine IsS123.far ?_ NB1_157.out _ | refine IsS123.far ?_ NB1_165.out _) | exact HI1.out)) hb)
          have n5_ := Aside0.mk (KeepBut.trans (by repeat (first | (with_reducible first | exact HK.out | apply KeepBut.set_ | apply keep_drewN | apply keep_drew | apply keep_alloc | refine keep_far ?_ GW157.out _ | refine keep_far ?_ GW165.out _) | exact HK.out)) (KeepBut.of_below hb g none) (.inl rfl))
          have n6_ := Aside0.mk (below_step (by repeat (first | (with_reducible first | exact HB.out | apply below_alloc | apply pw_below_drewN | apply below_drew1 | refine below_set ?_ (IsS123.ge HI1.out) | refine below_set ?_ GE157.out | refine below_set ?_ GE165.out) | exact HB.out)) hb)
          clear HO_166002
          clear BK157
          clear BK165
          clear HI1
          clear HK
          clear HB
          have HO_166002 := n0_
          have HO185 := n1_
          have BK157 := n2_
          have BK165 := n3_
          have HI1 := n4_
          have HK := n5_
          have HB := n6_
          clear n0_ n1_ n2_ n3_ n4_ n5_ n6_
          clear hb ho44
          obtain ⟨Ao45, co45, eo45⟩ := Kd.R_slice HO185.out
          subst eo45
          obtain ⟨ado45, fo45, _⟩ := Kd.at_int (Kd.R_reads' HO185.out).2.2 0 (by decide) (by rw [Ny183.out]; simp)
          cases fo45
          refine hK.out _ _ ⟨(blk_cell BK165.out 0).trans rfl, (blk_cell BK165.out 1).trans rfl, (blk_cell BK165.out 2).trans rfl⟩ (fun hHeld => ?_)
          clear hK K
          refine norm_ (a' := ?_) ?_ ?_
          rotate_left
          · show Act.put _ (some 30) _ = _
            simp only [Act.put, List.setIfInBounds_toArray, List.set_cons_zero, List.set_cons_succ, i64_w, i32_w]
            rfl
          refine one_ (i := 4) (N := some 32) #[true, true, true, true, true, false, false, false, false] rfl rfl (one_of HT_.out (by kernel_rfl)) (by decide) (fun K hK => ?_)
          refine goes_ Try.func105 (by kernel_rfl) rfl #[.pointer (some ⟨g, 0, none⟩), .int .i64 2] (by rfl) rfl rfl (by (try simp only [List.map_toArray, List.map_cons, List.map_nil]); first | done | rfl | (simp only [List.length_drop, List.length_take]; rfl)) ?_
          with_reducible refine (spec_l1Cur_pick.calls g s1_0 t178 t179 2 t186 t187 t188 w0 _ ?side1 ?side2 A36.out).mono ?_
          (case side1 => repeat (first | (with_reducible first | exact HI1.out | apply IsS123.alloc | apply IsS123.drewN | apply IsS123.drew | apply IsS123.set_1 | apply IsS123.set_2 | refine IsS123.far ?_ NB1_157.out _ | refine IsS123.far ?_ NB1_165.out _) | exact HI1.out))
          (case side2 => repeat (first | (with_reducible first | exact HB.out | apply below_alloc | apply pw_below_drewN | apply below_drew1 | refine below_set ?_ (IsS123.ge HI1.out) | refine below_set ?_ GE157.out | refine below_set ?_ GE165.out) | exact HB.out))
          rintro e w46 ⟨rfl, hi, hb, hk⟩
          refine ⟨_, rfl, ?_⟩
          have n0_ := Aside0.mk (Kd.R_mono (Kd.R_keep (IsS123.apart (show IsS123 w0 _ g s1_0 t178 t179 from by repeat (first | (with_reducible first | exact HI1.out | apply IsS123.alloc | apply IsS123.drewN | apply IsS123.drew | apply IsS123.set_1 | apply IsS123.set_2 | refine IsS123.far ?_ NB1_157.out _ | refine IsS123.far ?_ NB1_165.out _) | exact HI1.out)) (by (with_reducible repeat (first | apply Kd.R_alloc | apply Kd.R_drewN | apply Kd.R_drew)); exact HO_166002.out) (by decide)) hk (fun _ h => h.2)) (fun _ h => h.1))
          have n1_ := Aside0.mk (KeepBut.blk hk (g' := gb157) (o := .cells #[.int .i64 0, .int .i64 0, .slice none 0 0] 66 (0, 0)) (by (with_reducible repeat (first | refine blk_drewN ?_ _ | refine blk_drew ?_ | refine blk_alloc ?_ _)); exact BK157.out) NB157_1.out (by simp))
          have n2_ := Aside0.mk (KeepBut.blk hk (g' := gb165) (o := .cells #[.int .i64 x166000_4, .int .i64 x166001_4, u166002] 66 (0, 0)) (by (with_reducible repeat (first | refine blk_drewN ?_ _ | refine blk_drew ?_ | refine blk_alloc ?_ _)); exact BK165.out) NB165_1.out (by simp))
          have n3_ := Aside0.mk (Kd.R_mono (Kd.R_keep (IsS123.apart (show IsS123 w0 _ g s1_0 t178 t179 from by repeat (first | (with_reducible first | exact HI1.out | apply IsS123.alloc | apply IsS123.drewN | apply IsS123.drew | apply IsS123.set_1 | apply IsS123.set_2 | refine IsS123.far ?_ NB1_157.out _ | refine IsS123.far ?_ NB1_165.out _) | exact HI1.out)) (by (with_reducible repeat (first | apply Kd.R_alloc | apply Kd.R_drewN | apply Kd.R_drew)); exact HO185.out) (by decide)) hk (fun _ h => h.2)) (fun _ h => h.1))
          have n4_ := Aside0.mk (KeepBut.trans (by repeat (first | (with_reducible first | exact HK.out | apply KeepBut.set_ | apply keep_drewN | apply keep_drew | apply keep_alloc | refine keep_far ?_ GW157.out _ | refine keep_far ?_ GW165.out _) | exact HK.out)) hk (.inl rfl))
          have n5_ := Aside0.mk (hb)
          have n6_ := Aside0.mk (hi)
          clear HO_166002
          clear BK157
          clear BK165
          clear HO185
          clear HK
          clear HB
          clear HI1
          have HO_166002 := n0_
          have BK157 := n1_
          have BK165 := n2_
          have HO185 := n3_
          have HK := n4_
          have HB := n5_
          have HI1 := n6_
          clear n0_ n1_ n2_ n3_ n4_ n5_ n6_
          (try clear hb)
          (try clear hb2)
          (try clear hk)
          (try clear hi)
          refine hK.out _ _ ⟨(blk_cell BK165.out 0).trans rfl, (blk_cell BK165.out 1).trans rfl, (blk_cell BK165.out 2).trans rfl⟩ (fun hHeld => ?_)
          clear hK K
          refine norm_ (a' := ?_) ?_ ?_
          rotate_left
          · show Act.put _ (some 32) _ = _
            simp only [Act.put, List.setIfInBounds_toArray, List.set_cons_zero, List.set_cons_succ, i64_w, i32_w]
            rfl
          exact norm_ (by simp only [putAll, Act.put, List.setIfInBounds_toArray, List.set_cons_zero, List.set_cons_succ]) (hCont (.slice (some ado45) y183.length co45, ado45) _ ⟨hHeld, (by (with_reducible repeat (first | apply Kd.R_alloc | apply Kd.R_drewN | apply Kd.R_drew)); exact Kd.R_mono HO185.out (fun _ hk => hk.2)), (by (with_reducible repeat (first | apply Kd.R_alloc | apply Kd.R_drewN | apply Kd.R_drew)); exact Kd.R_mono HO_166002.out (fun _ hk => hk.2)), ⟨_, rfl⟩, (by (with_reducible repeat (first | refine blk_drewN ?_ _ | refine blk_drew ?_ | refine blk_alloc ?_ _)); exact BK157.out), (by (with_reducible repeat (first | refine blk_drewN ?_ _ | refine blk_drew ?_ | refine blk_alloc ?_ _)); exact BK165.out), (by repeat (first | (with_reducible first | exact HI1.out | apply IsS123.alloc | apply IsS123.drewN | apply IsS123.drew | apply IsS123.set_1 | apply IsS123.set_2 | refine IsS123.far ?_ NB1_157.out _ | refine IsS123.far ?_ NB1_165.out _) | exact HI1.out)), (by repeat (first | (with_reducible first | exact HK.out | apply KeepBut.set_ | apply keep_drewN | apply keep_drew | apply keep_alloc | refine keep_far ?_ GW157.out _ | refine keep_far ?_ GW165.out _) | exact HK.out)), (by repeat (first | (with_reducible first | exact HB.out | apply below_alloc | apply pw_below_drewN | apply below_drew1 | refine below_set ?_ (IsS123.ge HI1.out) | refine below_set ?_ GE157.out | refine below_set ?_ GE165.out) | exact HB.out))⟩)
        · skip
          refine goes_ Try.func105 (by kernel_rfl) rfl #[.pointer (some ⟨g, 0, none⟩), .int .i64 2] (by rfl) rfl rfl (by (try simp only [List.map_toArray, List.map_cons, List.map_nil]); first | done | rfl | (simp only [List.length_drop, List.length_take]; rfl)) ?_
          with_reducible refine (spec_l1Cur_pick.calls g s1_0 t178 t179 2 t186 t187 t188 w0 _ ?side1 ?side2 A36.out).mono ?_
          (case side1 => repeat (first | (with_reducible first | exact HI1.out | apply IsS123.alloc | apply IsS123.drewN | apply IsS123.drew | apply IsS123.set_1 | apply IsS123.set_2 | refine IsS123.far ?_ NB1_157.out _ | refine IsS123.far ?_ NB1_165.out _) | exact HI1.out))
          (case side2 => repeat (first | (with_reducible first | exact HB.out | apply below_alloc | apply pw_below_drewN | apply below_drew1 | refine below_set ?_ (IsS123.ge HI1.out) | refine below_set ?_ GE157.out | refine below_set ?_ GE165.out) | exact HB.out))
          rintro e w43 ⟨rfl, hi, hb, hk⟩
          refine ⟨_, rfl, ?_⟩
          have n0_ := Aside0.mk (Kd.R_mono (Kd.R_keep (IsS123.apart (show IsS123 w0 _ g s1_0 t178 t179 from by repeat (first | (with_reducible first | exact HI1.out | apply IsS123.alloc | apply IsS123.drewN | apply IsS123.drew | apply IsS123.set_1 | apply IsS123.set_2 | refine IsS123.far ?_ NB1_157.out _ | refine IsS123.far ?_ NB1_165.out _) | exact HI1.out)) (by (with_reducible repeat (first | apply Kd.R_alloc | apply Kd.R_drewN | apply Kd.R_drew)); exact HO_166002.out) (by decide)) hk (fun _ h => h.2)) (fun _ h => h.1))
          have n1_ := Aside0.mk (KeepBut.blk hk (g' := gb157) (o := .cells #[.int .i64 0, .int .i64 0, .slice none 0 0] 66 (0, 0)) (by (with_reducible repeat (first | refine blk_drewN ?_ _ | refine blk_drew ?_ | refine blk_alloc ?_ _)); exact BK157.out) NB157_1.out (by simp))
          have n2_ := Aside0.mk (KeepBut.blk hk (g' := gb165) (o := .cells #[.int .i64 x166000_4, .int .i64 x166001_4, u166002] 66 (0, 0)) (by (with_reducible repeat (first | refine blk_drewN ?_ _ | refine blk_drew ?_ | refine blk_alloc ?_ _)); exact BK165.out) NB165_1.out (by simp))
          have n3_ := Aside0.mk (KeepBut.trans (by repeat (first | (with_reducible first | exact HK.out | apply KeepBut.set_ | apply keep_drewN | apply keep_drew | apply keep_alloc | refine keep_far ?_ GW157.out _ | refine keep_far ?_ GW165.out _) | exact HK.out)) hk (.inl rfl))
          have n4_ := Aside0.mk (hb)
          have n5_ := Aside0.mk (hi)
          clear HO_166002
          clear BK157
          clear BK165
          clear HK
          clear HB
          clear HI1
          have HO_166002 := n0_
          have BK157 := n1_
          have BK165 := n2_
          have HK := n3_
          have HB := n4_
          have HI1 := n5_
          clear n0_ n1_ n2_ n3_ n4_ n5_
          (try clear hb)
          (try clear hb2)
          (try clear hk)
          (try clear hi)
          refine hK.out _ _ ⟨(blk_cell BK165.out 0).trans rfl, (blk_cell BK165.out 1).trans rfl, (blk_cell BK165.out 2).trans rfl⟩ (fun hHeld => ?_)
          clear hK K
          refine norm_ (a' := ?_) ?_ ?_
          rotate_left
          · show Act.put _ (some 32) _ = _
            simp only [Act.put, List.setIfInBounds_toArray, List.set_cons_zero, List.set_cons_succ, i64_w, i32_w]
            rfl
          refine one_ (i := 2) (N := some 30) #[true, true, true, true, true, false, false, false, false] rfl rfl (one_of HT_.out (by kernel_rfl)) (by decide) (fun K hK => ?_)
          refine Kd.R_lit_step (Kd.int .i64) _ 3 ?hg (N := 30) ?hd (xs := ([(-1), 256] : List Int)) (inner := [.int .i64 (-1), .int .i64 256]) (ok := fun _ => True) (okp := fun _ => True) ?hr ?hp (fun _ hk => hk) trivial (Below.refl _ _) (Nat.le_refl _) (by simp) ?_; (case hd => rfl); (case hg => rfl); (case hr => first | (go_simp; done) | (go_simp; rfl)); (case hp => exact (Reps.one (show Kd.M (Kd.int .i64) _ _ _ (-1) [.int .i64 (-1)] from rfl) (Reps.one (show Kd.M (Kd.int .i64) _ _ _ 256 [.int .i64 256] from rfl) (Reps.none _ _))))
          intro v184 w44 ho45 hb hg_ hnew_
          clear hg_ hnew_
          (first | rw [← Ny183.out] at ho45 | (simp only [Int.reduceToNat] at ho45; rw [← Ny183.out] at ho45))
          have n0_ := Aside0.mk (Kd.R_elder' (by (with_reducible repeat (first | apply Kd.R_alloc | apply Kd.R_drewN | apply Kd.R_drew)); exact HO_166002.out) (Kd.R_base ho45) hb)
          have n1_ := Aside0.mk (Kd.R_lower (Kd.R_new' ho45 (Kd.R_lt (by (with_reducible repeat (first | apply Kd.R_alloc | apply Kd.R_drewN | apply Kd.R_drew)); exact HO_166002.out))) (keep_size (w := w) (g := g) (row := none) (by repeat (first | (with_reducible first | exact HK.out | apply KeepBut.set_ | apply keep_drewN | apply keep_drew | apply keep_alloc | refine keep_far ?_ GW157.out _ | refine keep_far ?_ GW165.out _) | exact HK.out))))
          have n2_ := Aside0.mk (blk_below (g := gb157) (o := .cells #[.int .i64 0, .int .i64 0, .slice none 0 0] 66 (0, 0)) (by (with_reducible repeat (first | refine blk_drewN ?_ _ | refine blk_drew ?_ | refine blk_alloc ?_ _)); exact BK157.out) hb)
          have n3_ := Aside0.mk (blk_below (g := gb165) (o := .cells #[.int .i64 x166000_4, .int .i64 x166001_4, u166002] 66 (0, 0)) (by (with_reducible repeat (first | refine blk_drewN ?_ _ | refine blk_drew ?_ | refine blk_alloc ?_ _)); exact BK165.out) hb)
          have n4_ := Aside0.mk (IsS123.below (by repeat (first | (with_reducible first | exact HI1.out | apply IsS123.alloc | apply IsS123.drewN | apply IsS123.drew | apply IsS123.set_1 | apply IsS123.set_2 | refine IsS123.far ?_ NB1_157.out _ | refine IsS123.far ?_ NB1_165.out _) | exact HI1.out)) hb)
          have n5_ := Aside0.mk (KeepBut.trans (by repeat (first | (with_reducible first | exact HK.out | apply KeepBut.set_ | apply keep_drewN | apply keep_drew | apply keep_alloc | refine keep_far ?_ GW157.out _ | refine keep_far ?_ GW165.out _) | exact HK.out)) (KeepBut.of_below hb g none) (.inl rfl))
          have n6_ := Aside0.mk (below_step (by repeat (first | (with_reducible first | exact HB.out | apply below_alloc | apply pw_below_drewN | apply below_drew1 | refine below_set ?_ (IsS123.ge HI1.out) | refine below_set ?_ GE157.out | refine below_set ?_ GE165.out) | exact HB.out)) hb)
          clear HO_166002
          clear BK157
          clear BK165
          clear HI1
          clear HK
          clear HB
          have HO_166002 := n0_
          have HO185 := n1_
          have BK157 := n2_
          have BK165 := n3_
          have HI1 := n4_
          have HK := n5_
          have HB := n6_
          clear n0_ n1_ n2_ n3_ n4_ n5_ n6_
          clear hb ho45
          obtain ⟨Ao46, co46, eo46⟩ := Kd.R_slice HO185.out
          subst eo46
          obtain ⟨ado46, fo46, _⟩ := Kd.at_int (Kd.R_reads' HO185.out).2.2 0 (by decide) (by rw [Ny183.out]; simp)
          cases fo46
          refine hK.out _ _ ⟨(blk_cell BK165.out 0).trans rfl, (blk_cell BK165.out 1).trans rfl, (blk_cell BK165.out 2).trans rfl⟩ (fun hHeld => ?_)
          clear hK K
          refine norm_ (a' := ?_) ?_ ?_
          rotate_left
          · show Act.put _ (some 30) _ = _
            simp only [Act.put, List.setIfInBounds_toArray, List.set_cons_zero, List.set_cons_succ, i64_w, i32_w]
            rfl
          exact norm_ (by simp only [putAll, Act.put, List.setIfInBounds_toArray, List.set_cons_zero, List.set_cons_succ]) (hCont (.slice (some ado46) y183.length co46, ado46) _ ⟨hHeld, (by (with_reducible repeat (first | apply Kd.R_alloc | apply Kd.R_drewN | apply Kd.R_drew)); exact Kd.R_mono HO185.out (fun _ hk => hk.2)), (by (with_reducible repeat (first | apply Kd.R_alloc | apply Kd.R_drewN | apply Kd.R_drew)); exact Kd.R_mono HO_166002.out (fun _ hk => hk.2)), ⟨_, rfl⟩, (by (with_reducible repeat (first | refine blk_drewN ?_ _ | refine blk_drew ?_ | refine blk_alloc ?_ _)); exact BK157.out), (by (with_reducible repeat (first | refine blk_drewN ?_ _ | refine blk_drew ?_ | refine blk_alloc ?_ _)); exact BK165.out), (by repeat (first | (with_reducible first | exact HI1.out | apply IsS123.alloc | apply IsS123.drewN | apply IsS123.drew | apply IsS123.set_1 | apply IsS123.set_2 | refine IsS123.far ?_ NB1_157.out _ | refine IsS123.far ?_ NB1_165.out _) | exact HI1.out)), (by repeat (first | (with_reducible first | exact HK.out | apply KeepBut.set_ | apply keep_drewN | apply keep_drew | apply keep_alloc | refine keep_far ?_ GW157.out _ | refine keep_far ?_ GW165.out _) | exact HK.out)), (by repeat (first | (with_reducible first | exact HB.out | apply below_alloc | apply pw_below_drewN | apply below_drew1 | refine below_set ?_ (IsS123.ge HI1.out) | refine below_set ?_ GE157.out | refine below_set ?_ GE165.out) | exact HB.out))⟩)
      rintro ⟨v184, adz_v184⟩ w47 ⟨hS_, h0_, h1_, h2_, h3_, h4_, h5_, h6_, h7_⟩
      have n0_ : Aside0 (Kd.R (Kd.int .i64) 3 w47 w.heap.size (fun k_ => some k_ ≠ (u166002 : Value).ownBlock) v184 y183) := ⟨h0_⟩
      have n1_ : Aside0 (Kd.R (Kd.int .i64) 3 w47 w.heap.size (fun k_ => some k_ ≠ (v184 : Value).ownBlock) u166002 x166002_4) := ⟨h1_⟩
      have n2_ : Aside0 (∃ c_, (v184 : Value) = .slice (some adz_v184) y183.length c_) := ⟨h2_⟩
      have n3_ : Aside0 (w47.heap[gb157]? = some (.cells #[.int .i64 0, .int .i64 0, .slice none 0 0] 66 (0, 0))) := ⟨h3_⟩
      have n4_ : Aside0 (w47.heap[gb165]? = some (.cells #[.int .i64 x166000_4, .int .i64 x166001_4, u166002] 66 (0, 0))) := ⟨h4_⟩
      have n5_ : Aside0 (IsS123 w0 w47 g s1_0 t187 t188) := ⟨h5_⟩
      have n6_ : Aside0 (KeepBut w w47 g none) := ⟨h6_⟩
      have n7_ : Aside0 (Below w0.heap.size w0 w47) := ⟨h7_⟩
      clear HO_166002
      clear BK157
      clear BK165
      clear HI1
      clear HK
      clear HB
      clear h0_ h1_ h2_ h3_ h4_ h5_ h6_ h7_
      have HO185 := n0_
      have HO_166002 := n1_
      have HA_HO185 := n2_
      have BK157 := n3_
      have BK165 := n4_
      have HI1 := n5_
      have HK := n6_
      have HB := n7_
      clear n0_ n1_ n2_ n3_ n4_ n5_ n6_ n7_
      have hHeld : w47.cell? ⟨gb165, 0, none⟩ = some (.int .i64 x166000_4) ∧ w47.cell? ⟨gb165, 1, none⟩ = some (.int .i64 x166001_4) ∧ w47.cell? ⟨gb165, 2, none⟩ = some (u166002) := hS_
      obtain ⟨co48, eo48⟩ := HA_HO185.out
      clear HA_HO185
      subst eo48
      have p40 : 0 ≤ (0 : Int) := (by omega)
      have q40 : (0 : Int) < ((x166002_4.length : Int) : Int) := of_decide_eq_true (by first | (with_reducible assumption) | assumption)
      have qi40 : (0 < x166002_4.length) = True := eq_true (by omega)
      obtain ⟨go40, co40, eo40, gb40, gl40, cl40, HG40⟩ := Kd.R_form HO_166002.out (by omega)
      (first | cases eo40 | (injection eo40 with ea_ en_ ec_; (first | subst ea_ | (injection ea_ with ea_; subst ea_)); subst ec_; clear en_))
      have GB40 := Aside0.mk gb40
      have GG40 := Aside0.mk HG40
      clear gb40 gl40 HG40
      obtain ⟨hx40_0, hf40_0⟩ := Kd.R_celln 0 HO_166002.out (0 : Int) p40 q40
      (try rw [show ((0 : Int)).toNat = 0 from rfl] at hx40_0)
      (try simp only [Nat.reduceMul, Nat.zero_mul, Nat.zero_add, Nat.reduceAdd] at hx40_0)
      (try rw [show ((0 : Int)).toNat = 0 from rfl] at hf40_0)
      (try simp only [Nat.reduceMul, Nat.zero_mul, Nat.zero_add, Nat.reduceAdd] at hf40_0)
      replace p40 := eq_true p40
      replace q40 := eq_true q40
      have HN1_go40 := Aside0.mk (show g ≠ go40 from by have h_ := IsS123.own_ne HI1.out HO_166002.out (by decide); intro e_; exact h_ (by rw [e_]; rfl))
      have HP49 := Kd.R_putn HO_166002.out (0 : Int) (rd y183 t186)
      rw [← Ny190.out] at HP49
      have HQ49 := Aside0.mk HP49
      clear HP49
      refine norm_ (a' := ?_) ?_ ?_
      rotate_left
      · simp only [putAll, Act.put, List.setIfInBounds_toArray, List.set_cons_zero, List.set_cons_succ]
        rfl
      refine pure_ (i := 5) (N := some 33) (v := ?_) (a' := ?_) #[true, true, true, true, true, true, false, false, false] rfl rfl (any_of HT_.out (by kernel_rfl)) (fun _ _ _ h => h) (Or.inl ⟨by rfl, ?_⟩) ?_ ?_
      rotate_left
      · intro w'
        go_simp
        with_reducible rfl
      rotate_left
      · simp only [Act.put, List.setIfInBounds_toArray, List.set_cons_zero, List.set_cons_succ, i64_w, i32_w]
        rfl
      refine one_ (i := 6) (N := some 34) #[true, true, true, true, true, true, true, false, false] rfl rfl (one_of HT_.out (by kernel_rfl)) (by decide) (fun K hK => ?_)
      (have p189 : 0 ≤ (t186 : Int) := of_decide_eq_true (by first | (with_reducible assumption) | assumption); have q189 : t186 < (y183.length : Int) := of_decide_eq_true (by first | (with_reducible assumption) | assumption); obtain ⟨ad189, e189, hx189_0⟩ := Kd.at_int (Kd.R_reads' HO185.out).2.2 t186 p189 q189; obtain rfl : adz_v184 = ad189 := (by injection e189))
      refine value_ (w1 := ?_) (v := ?_) (by rfl) rfl ?_ ?_
      rotate_left 2
      · go_simp
        constructor
        · rfl
        · rfl
      clear hx189_0
      refine hK.out _ _ ⟨(blk_cell BK165.out 0).trans rfl, (blk_cell BK165.out 1).trans rfl, (blk_cell BK165.out 2).trans rfl⟩ (fun hHeld => ?_)
      clear hK K
      refine norm_ (a' := ?_) ?_ ?_
      rotate_left
      · show Act.put _ (some 34) _ = _
        simp only [Act.put, List.setIfInBounds_toArray, List.set_cons_zero, List.set_cons_succ, i64_w, i32_w]
        rfl
      refine pure_ (i := 7) (N := some 35) (v := ?_) (a' := ?_) #[true, true, true, true, true, true, true, true, false] rfl rfl (any_of HT_.out (by kernel_rfl)) (fun _ _ _ h => h) (Or.inl ⟨by rfl, ?_⟩) ?_ ?_
      rotate_left
      · intro w'
        go_simp
        with_reducible rfl
      rotate_left
      · simp only [Act.put, List.setIfInBounds_toArray, List.set_cons_zero, List.set_cons_succ, i64_w, i32_w]
        rfl
      refine last_ (i := 8) (N := none) #[true, true, true, true, true, true, true, true, true] rfl rfl (one_of HT_.out (by kernel_rfl)) (by decide) (fun K hK => ?_)
      refine skip_ (w1 := ?_) (by rfl) rfl ?_ ?_
      rotate_left
      · go_simp
        rfl
      refine hK.out _ _ ?_
      clear hK K
      refine done_ (done_of HT_.out (by kernel_rfl)) ?_
      have n0_ : Aside0 (Kd.R (Kd.int .i64) 3 (w47.setCell ⟨go40, 0, none⟩ (.int .i64 (rd y183 t186))) w.heap.size (fun k_ => some k_ ≠ (.slice (some adz_v184) y183.length co48 : Value).ownBlock) (.slice (some ⟨go40, 0, none⟩) x166002_4.length co40) y190) := ⟨by (with_reducible repeat (first | apply Kd.R_alloc | apply Kd.R_drewN | apply Kd.R_drew)); exact HQ49.out⟩
      have n1_ : Aside0 (Kd.R (Kd.int .i64) 3 (w47.setCell ⟨go40, 0, none⟩ (.int .i64 (rd y183 t186))) w.heap.size (fun k_ => some k_ ≠ (.slice (some ⟨go40, 0, none⟩) x166002_4.length co40 : Value).ownBlock) (.slice (some adz_v184) y183.length co48) y183) := ⟨by (with_reducible repeat (first | apply Kd.R_alloc | apply Kd.R_drewN | apply Kd.R_drew)); exact Kd.R_mono (Kd.R_far (p := ⟨go40, 0, none⟩) (Kd.R_mono HO185.out (fun k_ hk => (⟨hk, fun e_ => hk (by rw [e_]; rfl)⟩ : _ ∧ k_ ≠ go40))) (fun _ hk => hk.2) (.int .i64 (rd y183 t186))) (fun _ hk => hk.1)⟩
      have n2_ : Aside0 ((w47.setCell ⟨go40, 0, none⟩ (.int .i64 (rd y183 t186))).heap[gb157]? = some (.cells #[.int .i64 0, .int .i64 0, .slice none 0 0] 66 (0, 0))) := ⟨by (with_reducible repeat (first | refine blk_drewN ?_ _ | refine blk_drew ?_ | refine blk_alloc ?_ _)); refine blk_far ?_ (by have h_ := Kd.R_ne HO_166002.out BK157.out (by decide); intro e_; exact h_ (by rw [e_]; rfl)) _; (with_reducible repeat (first | refine blk_drewN ?_ _ | refine blk_drew ?_ | refine blk_alloc ?_ _)); exact BK157.out⟩
      have n3_ : Aside0 ((w47.setCell ⟨go40, 0, none⟩ (.int .i64 (rd y183 t186))).heap[gb165]? = some (.cells #[.int .i64 x166000_4, .int .i64 x166001_4, .slice (some ⟨go40, 0, none⟩) x166002_4.length co40] 66 (0, 0))) := ⟨by (with_reducible repeat (first | refine blk_drewN ?_ _ | refine blk_drew ?_ | refine blk_alloc ?_ _)); refine blk_far ?_ (by have h_ := Kd.R_ne HO_166002.out BK165.out (by decide); intro e_; exact h_ (by rw [e_]; rfl)) _; (with_reducible repeat (first | refine blk_drewN ?_ _ | refine blk_drew ?_ | refine blk_alloc ?_ _)); exact BK165.out⟩
      have n4_ : Aside0 (IsS123 w0 (w47.setCell ⟨go40, 0, none⟩ (.int .i64 (rd y183 t186))) g s1_0 t187 t188) := ⟨by repeat (first | (with_reducible first | exact HI1.out | apply IsS123.alloc | apply IsS123.drewN | apply IsS123.drew | apply IsS123.set_1 | apply IsS123.set_2 | refine IsS123.far ?_ HN1_go40.out _ | refine IsS123.far ?_ NB1_157.out _ | refine IsS123.far ?_ NB1_165.out _) | exact HI1.out)⟩
      have n5_ : Aside0 (KeepBut w (w47.setCell ⟨go40, 0, none⟩ (.int .i64 (rd y183 t186))) g none) := ⟨by repeat (first | (with_reducible first | exact HK.out | apply KeepBut.set_ | apply keep_drewN | apply keep_drew | apply keep_alloc | refine keep_far ?_ GB40.out _ | refine keep_far ?_ GW157.out _ | refine keep_far ?_ GW165.out _) | exact HK.out)⟩
      have n6_ : Aside0 (Below w0.heap.size w0 (w47.setCell ⟨go40, 0, none⟩ (.int .i64 (rd y183 t186)))) := ⟨by repeat (first | (with_reducible first | exact HB.out | apply below_alloc | apply pw_below_drewN | apply below_drew1 | refine below_set ?_ (Nat.le_trans HL.out GB40.out) | refine below_set ?_ (IsS123.ge HI1.out) | refine below_set ?_ GE157.out | refine below_set ?_ GE165.out) | exact HB.out)⟩
      (try clear HO_166002)
      (try clear HO185)
      (try clear BK157)
      (try clear BK165)
      (try clear HI1)
      (try clear HK)
      (try clear HB)
      generalize (w47.setCell ⟨go40, 0, none⟩ (.int .i64 (rd y183 t186))) = w50 at n0_ n1_ n2_ n3_ n4_ n5_ n6_ ⊢
      have HO_166002 := n0_
      have HO185 := n1_
      have BK157 := n2_
      have BK165 := n3_
      have HI1 := n4_
      have HK := n5_
      have HB := n6_
      clear n0_ n1_ n2_ n3_ n4_ n5_ n6_
      have hnb51 := NB165_157.out
      have hnc51 := NB157_165.out
      have hnb52 := NB165_1.out
      have hnc52 := NB1_165.out
      have hcz53_0 : w50.cell? ⟨gb165, 0, none⟩ = some (.int .i64 x166000_4) := (blk_cell BK165.out 0).trans rfl
      have hcz53_1 : w50.cell? ⟨gb165, 1, none⟩ = some (.int .i64 x166001_4) := (blk_cell BK165.out 1).trans rfl
      have hcz53_2 : w50.cell? ⟨gb165, 2, none⟩ = some (.slice (some ⟨go40, 0, none⟩) x166002_4.length co40) := (blk_cell BK165.out 2).trans rfl
      have hfz53_0 := blk_frozen BK165.out 0
      have hfz53_1 := blk_frozen BK165.out 1
      have hfz53_2 := blk_frozen BK165.out 2
      have hnb54 := NB157_1.out
      have hnc54 := NB1_157.out
      have hcz55_0 : w50.cell? ⟨gb157, 0, none⟩ = some (.int .i64 0) := (blk_cell BK157.out 0).trans rfl
      have hcz55_1 : w50.cell? ⟨gb157, 1, none⟩ = some (.int .i64 0) := (blk_cell BK157.out 1).trans rfl
      have hcz55_2 : w50.cell? ⟨gb157, 2, none⟩ = some (.slice none 0 0) := (blk_cell BK157.out 2).trans rfl
      have hfz55_0 := blk_frozen BK157.out 0
      have hfz55_1 := blk_frozen BK157.out 1
      have hfz55_2 := blk_frozen BK157.out 2
      try go_wp2
      refine bodyPost_ret (results_cell_row rfl _ _ gb157 66 #[.int .i64 x166000_4, .int .i64 x166001_4, .slice (some ⟨go40, 0, none⟩) x166002_4.length co40] (0, 0) _ rfl (by (with_reducible repeat (first | refine blk_drewN ?_ _ | refine blk_drew ?_ | refine blk_alloc ?_ _)); refine blk_put (cs := #[.int .i64 x166000_4, .int .i64 x166001_4, .slice none 0 0]) ?_ 2 _ rfl; (with_reducible repeat (first | refine blk_drewN ?_ _ | refine blk_drew ?_ | refine blk_alloc ?_ _)); refine blk_put (cs := #[.int .i64 x166000_4, .int .i64 0, .slice none 0 0]) ?_ 1 _ rfl; (with_reducible repeat (first | refine blk_drewN ?_ _ | refine blk_drew ?_ | refine blk_alloc ?_ _)); refine blk_put (cs := #[.int .i64 0, .int .i64 0, .slice none 0 0]) ?_ 0 _ rfl; (with_reducible repeat (first | refine blk_drewN ?_ _ | refine blk_drew ?_ | refine blk_alloc ?_ _)); exact BK157.out) Try.underlying66 rfl (by kernel_rfl)) rfl ?_
      exact ⟨_, by first | rfl | (simp [errW_none, errW_some] <;> rfl) | (simp [*, errW_none, errW_some] <;> rfl), by (with_reducible repeat (first | apply Kd.R_alloc | apply Kd.R_drewN | apply Kd.R_drew)); exact Kd.R_mono (Kd.R_far (p := ⟨gb157, 2, none⟩) (Kd.R_far (p := ⟨gb157, 1, none⟩) (Kd.R_far (p := ⟨gb157, 0, none⟩) (Kd.R_types HO_166002.out BK157.out (by decide)) (fun _ hk => hk.2) (.int .i64 x166000_4)) (fun _ hk => hk.2) (.int .i64 x166001_4)) (fun _ hk => hk.2) (.slice (some ⟨go40, 0, none⟩) x166002_4.length co40)) (fun _ hk => trivial), by repeat (first | (with_reducible first | exact HI1.out | apply IsS123.alloc | apply IsS123.drewN | apply IsS123.drew | apply IsS123.set_1 | apply IsS123.set_2 | refine IsS123.far ?_ NB1_157.out _ | refine IsS123.far ?_ NB1_165.out _) | exact HI1.out), by repeat (first | (with_reducible first | exact HB.out | apply below_alloc | apply pw_below_drewN | apply below_drew1 | refine below_set ?_ (IsS123.ge HI1.out) | refine below_set ?_ GE157.out | refine below_set ?_ GE165.out) | exact HB.out), by repeat (first | (with_reducible first | exact HK.out | apply KeepBut.set_ | apply keep_drewN | apply keep_drew | apply keep_alloc | refine keep_far ?_ GW157.out _ | refine keep_far ?_ GW165.out _) | exact HK.out)⟩

end Go.Proofs.Ytggokppfhkebkaa.PFnSmooth

-- written by myprint.py (a program of this session's over the kit's print)
import Derived.Test.YtggokppfhkebkaaPFnPassesx0
import Derived.Test.YtggokppfhkebkaaPFnPassesx1
namespace Go.Proofs.Ytggokppfhkebkaa.PFnPasses
open Go.RowKit Go.Proofs.YtggokppfhkebkaaW.PrintWords Go.Proofs.YtggokppfhkebkaaW.PrintLast Go.Proofs.YtggokppfhkebkaaW.PrintMore
attribute [local go_sem] max2_int min2_int max_two min_two max_three min_three max_four min_four   -- for this text's walks alone
set_option linter.unusedVariables false
set_option linter.unusedSimpArgs false

/-! ### spec_l1Cur_oddImage: function 134 -/
def spec_l1Cur_oddImage.f (s0_0 : List Int) (s0_1 : Int) (s0_2 : Int) (a1_0 : Int) (a1_1 : Int) (a1_2 : Int) (a1_3 : Int) (l1_4 : List Int) : Option (Int × Int × Int × Int × List Int × Int × Int) := (spec_l1Cur_pick.f s0_0 s0_1 s0_2 9).bind fun bt188 => (if bt188.1 = 0 then ((spec_l1Cur_pick.f s0_0 bt188.2.1 bt188.2.2 3).bind fun bt191 => (some (wrap64 (a1_0 + (wrap64 (bt191.1 - 1))), a1_1, a1_2, a1_3, l1_4, bt191.2.1, bt191.2.2))) else (if bt188.1 = 1 then ((spec_l1Cur_pick.f s0_0 bt188.2.1 bt188.2.2 18).bind fun bt194 => (some (a1_0, a1_1, a1_2, bt194.1, l1_4, bt194.2.1, bt194.2.2))) else (if bt188.1 = 2 then ((spec_l1Cur_pick.f s0_0 bt188.2.1 bt188.2.2 6).bind fun bt197 => (some (a1_0, a1_1, bt197.1, a1_3, l1_4, bt197.2.1, bt197.2.2))) else (if bt188.1 = 3 then (if (l1_4.length : Int) > 0 then ((spec_l1Cur_pick.f s0_0 bt188.2.1 bt188.2.2 (l1_4.length : Int)).bind fun bt200 => (if 0 ≤ (IntKind.u64.wrap (Int.tmod a1_3 17)) then ((some (([(-1), shl .i64 1 (IntKind.u64.wrap (Int.tmod a1_3 17)), wrap64 ((shl .i64 1 (IntKind.u64.wrap (Int.tmod a1_3 17))) - 1)] : List Int) : List Int)).bind fun y203 => ((spec_l1Cur_pick.f s0_0 bt200.2.1 bt200.2.2 3).bind fun bt206 => (if 0 ≤ bt206.1 then (if bt206.1 < (y203.length : Int) then (if 0 ≤ bt200.1 then (if bt200.1 < (l1_4.length : Int) then (some (a1_0, a1_1, a1_2, a1_3, (l1_4.set (bt200.1 : Int).toNat (rd y203 bt206.1)), bt206.2.1, bt206.2.2)) else (none)) else (none)) else (none)) else (none)))) else (none))) else (some (a1_0, a1_1, a1_2, a1_3, l1_4, bt188.2.1, bt188.2.2))) else (if bt188.1 = 4 then (if l1_4.length < 17592186044416 then (some (a1_0, a1_1, a1_2, a1_3, (l1_4 ++ [0]), bt188.2.1, bt188.2.2)) else (none)) else (some (a1_0, a1_1, a1_2, a1_3, l1_4, bt188.2.1, bt188.2.2)))))))
def spec_l1Cur_oddImage.T3 : Bool × List (List Nat × List Nat) := (true, [([], []), ([0], [0]), ([], []), ([2], [2]), ([3], [3]), ([1, 4], [1, 4]), ([0, 1, 2, 3, 4, 5], []), ([6, 5, 3, 0, 1, 2, 3, 4, 5], [5, 6])])
def spec_l1Cur_oddImage.B3 : List Nat := [0, 1, 0, 4, 12, 31, 63, 127]
theorem spec_l1Cur_oddImage.tab3 : rtab .any (opsOf Try.f134 3) = spec_l1Cur_oddImage.T3 := by kernel_rfl
theorem spec_l1Cur_oddImage.bits3 : waitsOk spec_l1Cur_oddImage.T3.2 spec_l1Cur_oddImage.B3 = true := by kernel_rfl
def spec_l1Cur_oddImage.T10 : Bool × List (List Nat × List Nat) := (true, [([], []), ([0], [0]), ([], []), ([], []), ([3], [3]), ([4], [4]), ([2, 5], [2, 5]), ([], []), ([7], [7]), ([8], [8]), ([9], [9]), ([10], [10]), ([], []), ([12], [12]), ([13], [13]), ([14], [14]), ([15], [15]), ([16], [16]), ([11, 17], [11, 17]), ([], []), ([19, 6], [19]), ([18, 20], [18, 20]), ([21], [21]), ([1, 6, 0, 1, 2, 3, 4, 5, 6, 7, 8, 9, 10, 11, 12, 13, 14, 15, 16, 17, 18, 19, 20, 21, 22], [1, 6]), ([23, 22, 20, 0, 1, 2, 3, 4, 5, 6, 7, 8, 9, 10, 11, 12, 13, 14, 15, 16, 17, 18, 19, 20, 21, 22], [22, 23])])
def spec_l1Cur_oddImage.B10 : List Nat := [0, 1, 0, 0, 8, 24, 60, 0, 128, 384, 896, 1920, 0, 4096, 12288, 28672, 61440, 126976, 262016, 0, 524412, 2097148, 4194300, 8388607, 16777215]
theorem spec_l1Cur_oddImage.tab10 : rtab .any (opsOf Try.f134 10) = spec_l1Cur_oddImage.T10 := by kernel_rfl
theorem spec_l1Cur_oddImage.bits10 : waitsOk spec_l1Cur_oddImage.T10.2 spec_l1Cur_oddImage.B10 = true := by kernel_rfl
set_option maxHeartbeats 8000000 in
set_option maxRecDepth 100000 in
theorem spec_l1Cur_oddImage.calls (g : Nat) (s0_0 : List Int) (s0_1 : Int) (s0_2 : Int) (a1_0 : Int) (a1_1 : Int) (a1_2 : Int) (a1_3 : Int) (P1_4_ : Nat → Prop) (u9000_ : Value) (l1_4 : List Int) (r1 : Int) (r2 : Int) (r3 : Int) (r4 : Int) (r5 : List Int) (r6 : Int) (r7 : Int) (w0 w : World) (hI : IsS123 w0 w g s0_0 s0_1 s0_2) (hB : Below w0.heap.size w0 w) (ho1_4 : Kd.R (Kd.int .i64) 3 w w0.heap.size P1_4_ u9000_ l1_4) (h : spec_l1Cur_oddImage.f s0_0 s0_1 s0_2 a1_0 a1_1 a1_2 a1_3 l1_4 = some (r1, r2, r3, r4, r5, r6, r7)) :
    Calls Try.prog 134 #[.pointer (some ⟨g, 0, none⟩), .agg #[.int .i64 a1_0, .int .i64 a1_1, .int .i64 a1_2, .int .i64 a1_3, u9000_]] w fun e w' => ∃ v4_ : Value, e = .returned (.agg #[.int .i64 r1, .int .i64 r2, .int .i64 r3, .int .i64 r4, v4_]) ∧ Kd.R (Kd.int .i64) 3 w' w0.heap.size (fun k_ => (P1_4_ k_ ∨ w.heap.size ≤ k_)) v4_ r5 ∧ IsS123 w0 w' g s0_0 r6 r7 ∧ Below w0.heap.size w0 w' ∧ Kept w w' (fun k_ => (P1_4_ k_) ∨ k_ = g) := by
  have hu31 := Try.underlying31
  have HO1_4 := Aside0.mk (show Kd.R (Kd.int .i64) 3 w w0.heap.size (fun k_ => (P1_4_ k_ ∨ w.heap.size ≤ k_)) u9000_ l1_4 from Kd.R_mono ho1_4 (fun k_ hk => (.inl hk)))
  have HI0 := Aside0.mk hI
  have HL := Aside0.mk hB.size
  clear hI
  have HK := Aside0.mk (Kept.refl w (fun k_ => (P1_4_ k_) ∨ k_ = g))
  have HW0 := Aside0.mk hB.size
  have HB := Aside0.mk hB
  clear hB
  have H : ((spec_l1Cur_pick.f s0_0 s0_1 s0_2 9).bind fun bt188 => (if bt188.1 = 0 then ((spec_l1Cur_pick.f s0_0 bt188.2.1 bt188.2.2 3).bind fun bt191 => (some (wrap64 (a1_0 + (wrap64 (bt191.1 - 1))), a1_1, a1_2, a1_3, l1_4, bt191.2.1, bt191.2.2))) else (if bt188.1 = 1 then ((spec_l1Cur_pick.f s0_0 bt188.2.1 bt188.2.2 18).bind fun bt194 => (some (a1_0, a1_1, a1_2, bt194.1, l1_4, bt194.2.1, bt194.2.2))) else (if bt188.1 = 2 then ((spec_l1Cur_pick.f s0_0 bt188.2.1 bt188.2.2 6).bind fun bt197 => (some (a1_0, a1_1, bt197.1, a1_3, l1_4, bt197.2.1, bt197.2.2))) else (if bt188.1 = 3 then (if (l1_4.length : Int) > 0 then ((spec_l1Cur_pick.f s0_0 bt188.2.1 bt188.2.2 (l1_4.length : Int)).bind fun bt200 => (if 0 ≤ (IntKind.u64.wrap (Int.tmod a1_3 17)) then ((some (([(-1), shl .i64 1 (IntKind.u64.wrap (Int.tmod a1_3 17)), wrap64 ((shl .i64 1 (IntKind.u64.wrap (Int.tmod a1_3 17))) - 1)] : List Int) : List Int)).bind fun y203 => ((spec_l1Cur_pick.f s0_0 bt200.2.1 bt200.2.2 3).bind fun bt206 => (if 0 ≤ bt206.1 then (if bt206.1 < (y203.length : Int) then (if 0 ≤ bt200.1 then (if bt200.1 < (l1_4.length : Int) then (some (a1_0, a1_1, a1_2, a1_3, (l1_4.set (bt200.1 : Int).toNat (rd y203 bt206.1)), bt206.2.1, bt206.2.2)) else (none)) else (none)) else (none)) else (none)))) else (none))) else (some (a1_0, a1_1, a1_2, a1_3, l1_4, bt188.2.1, bt188.2.2))) else (if bt188.1 = 4 then (if l1_4.length < 17592186044416 then (some (a1_0, a1_1, a1_2, a1_3, (l1_4 ++ [0]), bt188.2.1, bt188.2.2)) else (none)) else (some (a1_0, a1_1, a1_2, a1_3, l1_4, bt188.2.1, bt188.2.2)))))))) = some (r1, r2, r3, r4, r5, r6, r7) := h
  clear h
  replace H := Option.bind_eq_some_iff.mp H
  obtain ⟨⟨t188, t189, t190⟩, A30, H⟩ := H
  replace H : (if t188 = 0 then ((spec_l1Cur_pick.f s0_0 t189 t190 3).bind fun bt191 => (some (wrap64 (a1_0 + (wrap64 (bt191.1 - 1))), a1_1, a1_2, a1_3, l1_4, bt191.2.1, bt191.2.2))) else (if t188 = 1 then ((spec_l1Cur_pick.f s0_0 t189 t190 18).bind fun bt194 => (some (a1_0, a1_1, a1_2, bt194.1, l1_4, bt194.2.1, bt194.2.2))) else (if t188 = 2 then ((spec_l1Cur_pick.f s0_0 t189 t190 6).bind fun bt197 => (some (a1_0, a1_1, bt197.1, a1_3, l1_4, bt197.2.1, bt197.2.2))) else (if t188 = 3 then (if (l1_4.length : Int) > 0 then ((spec_l1Cur_pick.f s0_0 t189 t190 (l1_4.length : Int)).bind fun bt200 => (if 0 ≤ (IntKind.u64.wrap (Int.tmod a1_3 17)) then ((some (([(-1), shl .i64 1 (IntKind.u64.wrap (Int.tmod a1_3 17)), wrap64 ((shl .i64 1 (IntKind.u64.wrap (Int.tmod a1_3 17))) - 1)] : List Int) : List Int)).bind fun y203 => ((spec_l1Cur_pick.f s0_0 bt200.2.1 bt200.2.2 3).bind fun bt206 => (if 0 ≤ bt206.1 then (if bt206.1 < (y203.length : Int) then (if 0 ≤ bt200.1 then (if bt200.1 < (l1_4.length : Int) then (some (a1_0, a1_1, a1_2, a1_3, (l1_4.set (bt200.1 : Int).toNat (rd y203 bt206.1)), bt206.2.1, bt206.2.2)) else (none)) else (none)) else (none)) else (none)))) else (none))) else (some (a1_0, a1_1, a1_2, a1_3, l1_4, t189, t190))) else (if t188 = 4 then (if l1_4.length < 17592186044416 then (some (a1_0, a1_1, a1_2, a1_3, (l1_4 ++ [0]), t189, t190)) else (none)) else (some (a1_0, a1_1, a1_2, a1_3, l1_4, t189, t190))))))) = some (r1, r2, r3, r4, r5, r6, r7) := H
  have A3 := Aside0.mk A30
  clear A30
  by_cases c4 : t188 = 0
  · rw [if_pos c4] at H
    have c4b0 : (t188 == 0) = true := beq_iff_eq.mpr c4
    have c4b1 : (t188 != 0) = false := bne_eq_false_iff_eq.mpr c4
    clear c4
    replace H := Option.bind_eq_some_iff.mp H
    obtain ⟨⟨t191, t192, t193⟩, A50, H⟩ := H
    replace H : (some (wrap64 (a1_0 + (wrap64 (t191 - 1))), a1_1, a1_2, a1_3, l1_4, t192, t193)) = some (r1, r2, r3, r4, r5, r6, r7) := H
    have A5 := Aside0.mk A50
    clear A50
    simp only [Option.some.injEq, Prod.mk.injEq] at H
    obtain ⟨rfl, rfl, rfl, rfl, rfl, rfl, rfl⟩ := H
    obtain ⟨Ao6, co6, eo6⟩ := Kd.R_slice HO1_4.out
    subst eo6
    go_enter Try.func134, Try.ntmps134
    try go_wp2_with (first | ((with_reducible refine gate_dst (N := 3) rfl ?_); refine box_event ?hg (N := 3) ?hd (cs := #[.int .i64 a1_0, .int .i64 a1_1, .int .i64 a1_2, .int .i64 a1_3, .slice Ao6 l1_4.length co6]) (t := 31) ?hr ?_; (case hd => rfl); (case hg => rfl); (case hr => first | (go_simp; done) | (go_simp; rfl)); intro gb186 hg w7 hbox hb; have n0_ := Aside0.mk (Kd.R_below (by (with_reducible repeat (first | apply Kd.R_alloc | apply Kd.R_drewN | apply Kd.R_drew)); exact HO1_4.out) hb); have n1_ := Aside0.mk (IsS123.below (by repeat (first | (with_reducible first | exact HI0.out | apply IsS123.alloc | apply IsS123.drewN | apply IsS123.drew | apply IsS123.set_1 | apply IsS123.set_2) | exact HI0.out)) hb); have n2_ := Aside0.mk (Kept.below (S := (fun k_ => (P1_4_ k_) ∨ k_ = g)) (by repeat (first | (with_reducible first | exact HK.out | apply Kept.alloc | apply Kept.drewN | apply Kept.drew | refine Kept.setCell ?_ (.inl (.inr rfl)) _) | exact HK.out)) hb); have n3_ := Aside0.mk (below_step (by repeat (first | (with_reducible first | exact HB.out | apply below_alloc | apply pw_below_drewN | apply below_drew1 | refine below_set ?_ (IsS123.ge HI0.out)) | exact HB.out)) hb); have n4_ := Aside0.mk (hbox); have n5_ := Aside0.mk ((by rw [hg]; exact (by first | exact HK.out.1 | exact (show Kept w _ (fun k_ => (P1_4_ k_) ∨ k_ = g) from by repeat (first | (with_reducible first | exact HK.out | apply Kept.alloc | apply Kept.drewN | apply Kept.drew | refine Kept.setCell ?_ (.inl (.inr rfl)) _) | exact HK.out)).1) : w.heap.size ≤ gb186)); have n6_ := Aside0.mk ((by rw [hg]; exact (below_size (by repeat (first | (with_reducible first | exact HB.out | apply below_alloc | apply pw_below_drewN | apply below_drew1 | refine below_set ?_ (IsS123.ge HI0.out)) | exact HB.out))) : w0.heap.size ≤ gb186)); have n7_ := Aside0.mk ((by rw [hg]; exact Nat.ne_of_lt (IsS123.lt (show IsS123 w0 _ g s0_0 s0_1 s0_2 from by repeat (first | (with_reducible first | exact HI0.out | apply IsS123.alloc | apply IsS123.drewN | apply IsS123.drew | apply IsS123.set_1 | apply IsS123.set_2) | exact HI0.out))) : g ≠ gb186)); have n8_ := Aside0.mk ((by rw [hg]; exact Nat.ne_of_gt (IsS123.lt (show IsS123 w0 _ g s0_0 s0_1 s0_2 from by repeat (first | (with_reducible first | exact HI0.out | apply IsS123.alloc | apply IsS123.drewN | apply IsS123.drew | apply IsS123.set_1 | apply IsS123.set_2) | exact HI0.out))) : gb186 ≠ g)); clear HO1_4; clear HI0; clear HK; clear HB; have HO1_4 := n0_; have HI0 := n1_; have HK := n2_; have HB := n3_; have BK186 := n4_; have GW186 := n5_; have GE186 := n6_; have NB0_186 := n7_; have NB186_0 := n8_; clear n0_ n1_ n2_ n3_ n4_ n5_ n6_ n7_ n8_; clear hb hbox hg) | ((with_reducible refine gate_dst (N := 4) rfl ?_); refine box_event ?hg (N := 4) ?hd (cs := #[.int .i64 0, .int .i64 0, .int .i64 0, .int .i64 0, .slice none 0 0]) (t := 31) ?hr ?_; (case hd => rfl); (case hg => rfl); (case hr => first | (go_simp; done) | (go_simp; rfl)); intro gb187 hg w8 hbox hb; have n0_ := Aside0.mk (Kd.R_below (by (with_reducible repeat (first | apply Kd.R_alloc | apply Kd.R_drewN | apply Kd.R_drew)); exact HO1_4.out) hb); have n1_ := Aside0.mk (IsS123.below (by repeat (first | (with_reducible first | exact HI0.out | apply IsS123.alloc | apply IsS123.drewN | apply IsS123.drew | apply IsS123.set_1 | apply IsS123.set_2 | refine IsS123.far ?_ NB0_186.out _) | exact HI0.out)) hb); have n2_ := Aside0.mk (blk_below (g := gb186) (o := .cells #[.int .i64 a1_0, .int .i64 a1_1, .int .i64 a1_2, .int .i64 a1_3, .slice Ao6 l1_4.length co6] 31 (0, 0)) (by (with_reducible repeat (first | refine blk_drewN ?_ _ | refine blk_drew ?_ | refine blk_alloc ?_ _)); exact BK186.out) hb); have n3_ := Aside0.mk (Kept.below (S := (fun k_ => (P1_4_ k_) ∨ k_ = g)) (by repeat (first | (with_reducible first | exact HK.out | apply Kept.alloc | apply Kept.drewN | apply Kept.drew | refine Kept.setCell ?_ (.inl (.inr rfl)) _ | refine Kept.setCell ?_ (.inr GW186.out) _) | exact HK.out)) hb); have n4_ := Aside0.mk (below_step (by repeat (first | (with_reducible first | exact HB.out | apply below_alloc | apply pw_below_drewN | apply below_drew1 | refine below_set ?_ (IsS123.ge HI0.out) | refine below_set ?_ GE186.out) | exact HB.out)) hb); have n5_ := Aside0.mk (hbox); have n6_ := Aside0.mk ((by rw [hg]; exact (by first | exact HK.out.1 | exact (show Kept w _ (fun k_ => (P1_4_ k_) ∨ k_ = g) from by repeat (first | (with_reducible first | exact HK.out | apply Kept.alloc | apply Kept.drewN | apply Kept.drew | refine Kept.setCell ?_ (.inl (.inr rfl)) _ | refine Kept.setCell ?_ (.inr GW186.out) _) | exact HK.out)).1) : w.heap.size ≤ gb187)); have n7_ := Aside0.mk ((by rw [hg]; exact (below_size (by repeat (first | (with_reducible first | exact HB.out | apply below_alloc | apply pw_below_drewN | apply below_drew1 | refine below_set ?_ (IsS123.ge HI0.out) | refine below_set ?_ GE186.out) | exact HB.out))) : w0.heap.size ≤ gb187)); have n8_ := Aside0.mk ((by rw [hg]; exact Nat.ne_of_lt (blk_lt (g := gb186) (o := .cells #[.int .i64 a1_0, .int .i64 a1_1, .int .i64 a1_2, .int .i64 a1_3, .slice Ao6 l1_4.length co6] 31 (0, 0)) (by (with_reducible repeat (first | refine blk_drewN ?_ _ | refine blk_drew ?_ | refine blk_alloc ?_ _)); exact BK186.out)) : gb186 ≠ gb187)); have n9_ := Aside0.mk ((by rw [hg]; exact Nat.ne_of_gt (blk_lt (g := gb186) (o := .cells #[.int .i64 a1_0, .int .i64 a1_1, .int .i64 a1_2, .int .i64 a1_3, .slice Ao6 l1_4.length co6] 31 (0, 0)) (by (with_reducible repeat (first | refine blk_drewN ?_ _ | refine blk_drew ?_ | refine blk_alloc ?_ _)); exact BK186.out)) : gb187 ≠ gb186)); have n10_ := Aside0.mk ((by rw [hg]; exact Nat.ne_of_lt (IsS123.lt (show IsS123 w0 _ g s0_0 s0_1 s0_2 from by repeat (first | (with_reducible first | exact HI0.out | apply IsS123.alloc | apply IsS123.drewN | apply IsS123.drew | apply IsS123.set_1 | apply IsS123.set_2 | refine IsS123.far ?_ NB0_186.out _) | exact HI0.out))) : g ≠ gb187)); have n11_ := Aside0.mk ((by rw [hg]; exact Nat.ne_of_gt (IsS123.lt (show IsS123 w0 _ g s0_0 s0_1 s0_2 from by repeat (first | (with_reducible first | exact HI0.out | apply IsS123.alloc | apply IsS123.drewN | apply IsS123.drew | apply IsS123.set_1 | apply IsS123.set_2 | refine IsS123.far ?_ NB0_186.out _) | exact HI0.out))) : gb187 ≠ g)); clear HO1_4; clear HI0; clear BK186; clear HK; clear HB; have HO1_4 := n0_; have HI0 := n1_; have BK186 := n2_; have HK := n3_; have HB := n4_; have BK187 := n5_; have GW187 := n6_; have GE187 := n7_; have NB186_187 := n8_; have NB187_186 := n9_; have NB0_187 := n10_; have NB187_0 := n11_; clear n0_ n1_ n2_ n3_ n4_ n5_ n6_ n7_ n8_ n9_ n10_ n11_; clear hb hbox hg) | ((with_reducible refine gate_callee (f := 105) rfl ?_); refine goesL_ (some 6) rfl rfl Try.func105 (by kernel_rfl) rfl #[.pointer (some ⟨g, 0, none⟩), .int .i64 9] rfl (by (try simp only [List.map_toArray, List.map_cons, List.map_nil]); first | done | rfl | (simp only [List.length_drop, List.length_take]; rfl)) ?_; (with_reducible refine (spec_l1Cur_pick.calls g s0_0 s0_1 s0_2 9 t188 t189 t190 w0 _ ?side1 ?side2 A3.out).mono ?_); (case side1 => repeat (first | (with_reducible first | exact HI0.out | apply IsS123.alloc | apply IsS123.drewN | apply IsS123.drew | apply IsS123.set_1 | apply IsS123.set_2 | refine IsS123.far ?_ NB0_186.out _ | refine IsS123.far ?_ NB0_187.out _) | exact HI0.out)); (case side2 => repeat (first | (with_reducible first | exact HB.out | apply below_alloc | apply pw_below_drewN | apply below_drew1 | refine below_set ?_ (IsS123.ge HI0.out) | refine below_set ?_ GE186.out | refine below_set ?_ GE187.out) | exact HB.out)); rintro e w9 ⟨rfl, hi, hb, hk⟩; refine ⟨_, rfl, ?_⟩; have n0_ := Aside0.mk (Kd.R_mono (Kd.R_keep (IsS123.apart (show IsS123 w0 _ g s0_0 s0_1 s0_2 from by repeat (first | (with_reducible first | exact HI0.out | apply IsS123.alloc | apply IsS123.drewN | apply IsS123.drew | apply IsS123.set_1 | apply IsS123.set_2 | refine IsS123.far ?_ NB0_186.out _ | refine IsS123.far ?_ NB0_187.out _) | exact HI0.out)) (by (with_reducible repeat (first | apply Kd.R_alloc | apply Kd.R_drewN | apply Kd.R_drew)); exact HO1_4.out) (by decide)) hk (fun _ h => h.2)) (fun _ h => h.1)); have n1_ := Aside0.mk (KeepBut.blk hk (g' := gb186) (o := .cells #[.int .i64 a1_0, .int .i64 a1_1, .int .i64 a1_2, .int .i64 a1_3, .slice Ao6 l1_4.length co6] 31 (0, 0)) (by (with_reducible repeat (first | refine blk_drewN ?_ _ | refine blk_drew ?_ | refine blk_alloc ?_ _)); exact BK186.out) NB186_0.out (by simp)); have n2_ := Aside0.mk (KeepBut.blk hk (g' := gb187) (o := .cells #[.int .i64 0, .int .i64 0, .int .i64 0, .int .i64 0, .slice none 0 0] 31 (0, 0)) (by (with_reducible repeat (first | refine blk_drewN ?_ _ | refine blk_drew ?_ | refine blk_alloc ?_ _)); exact BK187.out) NB187_0.out (by simp)); have n3_ := Aside0.mk (Kept.of_keep (S := (fun k_ => (P1_4_ k_) ∨ k_ = g)) (by repeat (first | (with_reducible first | exact HK.out | apply Kept.alloc | apply Kept.drewN | apply Kept.drew | refine Kept.setCell ?_ (.inl (.inr rfl)) _ | refine Kept.setCell ?_ (.inr GW186.out) _ | refine Kept.setCell ?_ (.inr GW187.out) _) | exact HK.out)) hk (.inl (.inr rfl))); have n4_ := Aside0.mk (hb); have n5_ := Aside0.mk (hi); clear HO1_4; clear BK186; clear BK187; clear HK; clear HB; clear HI0; have HO1_4 := n0_; have BK186 := n1_; have BK187 := n2_; have HK := n3_; have HB := n4_; have HI0 := n5_; clear n0_ n1_ n2_ n3_ n4_ n5_; (try clear hb); (try clear hb2); (try clear hk); (try clear hi)))
    have n0_ := Aside0.mk (Kd.R_drew HO1_4.out)
    have n1_ := Aside0.mk (blk_drew BK186.out)
    have n2_ := Aside0.mk (blk_drew BK187.out)
    have n3_ := Aside0.mk (IsS123.drew HI0.out)
    have n4_ := Aside0.mk (Kept.drew HK.out)
    have n5_ := Aside0.mk (below_drew1 HB.out)
    clear HO1_4
    clear BK186
    clear BK187
    clear HI0
    clear HK
    clear HB
    have HO1_4 := n0_
    have BK186 := n1_
    have BK187 := n2_
    have HI0 := n3_
    have HK := n4_
    have HB := n5_
    clear n0_ n1_ n2_ n3_ n4_ n5_
    refine start_ (n := 8) (S := fun w' => w'.cell? ⟨gb186, 0, none⟩ = some (.int .i64 a1_0) ∧ w'.cell? ⟨gb186, 1, none⟩ = some (.int .i64 a1_1) ∧ w'.cell? ⟨gb186, 2, none⟩ = some (.int .i64 a1_2) ∧ w'.cell? ⟨gb186, 3, none⟩ = some (.int .i64 a1_3) ∧ w'.cell? ⟨gb186, 4, none⟩ = some (.slice Ao6 l1_4.length co6)) (ds := [7]) #[false, false, false, false, false, false, false, false] (by kernel_rfl) rfl rfl ⟨(blk_cell BK186.out 0).trans rfl, (blk_cell BK186.out 1).trans rfl, (blk_cell BK186.out 2).trans rfl, (blk_cell BK186.out 3).trans rfl, (blk_cell BK186.out 4).trans rfl⟩ (fun hHeld => ?_); refine with_tabW spec_l1Cur_oddImage.tab3 spec_l1Cur_oddImage.bits3 (fun HT_ HW_ => ?_)
    generalize w9.drew = w10 at HO1_4 BK186 BK187 HI0 HK HB hHeld ⊢
    refine pure_ (i := 0) (N := some 9) (v := ?_) (a' := ?_) #[true, false, false, false, false, false, false, false] rfl rfl (any_of HT_.out (by kernel_rfl)) (fun _ _ _ h => h) (Or.inl ⟨by rfl, ?_⟩) ?_ ?_
    rotate_left
    · intro w'
      go_simp
      with_reducible rfl
    rotate_left
    · simp only [Act.put, List.setIfInBounds_toArray, List.set_cons_zero, List.set_cons_succ, i64_w, i32_w]
      rfl
    refine pure_ (i := 2) (N := some 11) (v := ?_) (a' := ?_) #[true, false, true, false, false, false, false, false] rfl rfl (any_of HT_.out (by kernel_rfl)) (fun _ _ _ h => h) (Or.inl ⟨by rfl, ?_⟩) ?_ ?_
    rotate_left
    · intro w'
      go_simp
      with_reducible rfl
    rotate_left
    · simp only [Act.put, List.setIfInBounds_toArray, List.set_cons_zero, List.set_cons_succ, i64_w, i32_w]
      rfl
    refine take_ (i := 1) (N := some 10) (v := ?_) (a' := ?_) #[true, true, true, false, false, false, false, false] rfl rfl (take_ofW HT_.out HW_.out (by kernel_rfl)) (fun _ _ _ h => h) (Or.inl ⟨by rfl, ?_⟩) hHeld ?_ ?_
    rotate_left
    · rintro w' ⟨s0, s1, s2, s3, s4⟩
      go_simp
      with_reducible rfl
    rotate_left
    · simp only [Act.put, List.setIfInBounds_toArray, List.set_cons_zero, List.set_cons_succ, i64_w, i32_w]
      rfl
    refine one_ (i := 3) (N := some 12) #[true, true, true, true, false, false, false, false] rfl rfl (one_of HT_.out (by kernel_rfl)) (by decide) (fun K hK => ?_)
    refine goes_ Try.func105 (by kernel_rfl) rfl #[.pointer (some ⟨g, 0, none⟩), .int .i64 3] (by rfl) rfl rfl (by (try simp only [List.map_toArray, List.map_cons, List.map_nil]); first | done | rfl | (simp only [List.length_drop, List.length_take]; rfl)) ?_
    with_reducible refine (spec_l1Cur_pick.calls g s0_0 t189 t190 3 t191 t192 t193 w0 _ ?side1 ?side2 A5.out).mono ?_
    (case side1 => repeat (first | (with_reducible first | exact HI0.out | apply IsS123.alloc | apply IsS123.drewN | apply IsS123.drew | apply IsS123.set_1 | apply IsS123.set_2 | refine IsS123.far ?_ NB0_186.out _ | refine IsS123.far ?_ NB0_187.out _) | exact HI0.out))
    (case side2 => repeat (first | (with_reducible first | exact HB.out | apply below_alloc | apply pw_below_drewN | apply below_drew1 | refine below_set ?_ (IsS123.ge HI0.out) | refine below_set ?_ GE186.out | refine below_set ?_ GE187.out) | exact HB.out))
    rintro e w11 ⟨rfl, hi, hb, hk⟩
    refine ⟨_, rfl, ?_⟩
    have n0_ := Aside0.mk (Kd.R_mono (Kd.R_keep (IsS123.apart (show IsS123 w0 _ g s0_0 t189 t190 from by repeat (first | (with_reducible first | exact HI0.out | apply IsS123.alloc | apply IsS123.drewN | apply IsS123.drew | apply IsS123.set_1 | apply IsS123.set_2 | refine IsS123.far ?_ NB0_186.out _ | refine IsS123.far ?_ NB0_187.out _) | exact HI0.out)) (by (with_reducible repeat (first | apply Kd.R_alloc | apply Kd.R_drewN | apply Kd.R_drew)); exact HO1_4.out) (by decide)) hk (fun _ h => h.2)) (fun _ h => h.1))
    have n1_ := Aside0.mk (KeepBut.blk hk (g' := gb186) (o := .cells #[.int .i64 a1_0, .int .i64 a1_1, .int .i64 a1_2, .int .i64 a1_3, .slice Ao6 l1_4.length co6] 31 (0, 0)) (by (with_reducible repeat (first | refine blk_drewN ?_ _ | refine blk_drew ?_ | refine blk_alloc ?_ _)); exact BK186.out) NB186_0.out (by simp))
    have n2_ := Aside0.mk (KeepBut.blk hk (g' := gb187) (o := .cells #[.int .i64 0, .int .i64 0, .int .i64 0, .int .i64 0, .slice none 0 0] 31 (0, 0)) (by (with_reducible repeat (first | refine blk_drewN ?_ _ | refine blk_drew ?_ | refine blk_alloc ?_ _)); exact BK187.out) NB187_0.out (by simp))
    have n3_ := Aside0.mk (Kept.of_keep (S := (fun k_ => (P1_4_ k_) ∨ k_ = g)) (by repeat (first | (with_reducible first | exact HK.out | apply Kept.alloc | apply Kept.drewN | apply Kept.drew | refine Kept.setCell ?_ (.inl (.inr rfl)) _ | refine Kept.setCell ?_ (.inr GW186.out) _ | refine Kept.setCell ?_ (.inr GW187.out) _) | exact HK.out)) hk (.inl (.inr rfl)))
    have n4_ := Aside0.mk (hb)
    have n5_ := Aside0.mk (hi)
    clear HO1_4
    clear BK186
    clear BK187
    clear HK
    clear HB
    clear HI0
    have HO1_4 := n0_
    have BK186 := n1_
    have BK187 := n2_
    have HK := n3_
    have HB := n4_
    have HI0 := n5_
    clear n0_ n1_ n2_ n3_ n4_ n5_
    (try clear hb)
    (try clear hb2)
    (try clear hk)
    (try clear hi)
    refine hK.out _ _ ⟨(blk_cell BK186.out 0).trans rfl, (blk_cell BK186.out 1).trans rfl, (blk_cell BK186.out 2).trans rfl, (blk_cell BK186.out 3).trans rfl, (blk_cell BK186.out 4).trans rfl⟩ (fun hHeld => ?_)
    clear hK K
    refine norm_ (a' := ?_) ?_ ?_
    rotate_left
    · show Act.put _ (some 12) _ = _
      simp only [Act.put, List.setIfInBounds_toArray, List.set_cons_zero, List.set_cons_succ, i64_w, i32_w]
      rfl
    refine pure_ (i := 4) (N := some 13) (v := ?_) (a' := ?_) #[true, true, true, true, true, false, false, false] rfl rfl (any_of HT_.out (by kernel_rfl)) (fun _ _ _ h => h) (Or.inl ⟨by rfl, ?_⟩) ?_ ?_
    rotate_left
    · intro w'
      go_simp
      with_reducible rfl
    rotate_left
    · simp only [Act.put, List.setIfInBounds_toArray, List.set_cons_zero, List.set_cons_succ, i64_w, i32_w]
      rfl
    refine pure_ (i := 5) (N := some 14) (v := ?_) (a' := ?_) #[true, true, true, true, true, true, false, false] rfl rfl (any_of HT_.out (by kernel_rfl)) (fun _ _ _ h => h) (Or.inl ⟨by rfl, ?_⟩) ?_ ?_
    rotate_left
    · intro w'
      go_simp
      with_reducible rfl
    rotate_left
    · simp only [Act.put, List.setIfInBounds_toArray, List.set_cons_zero, List.set_cons_succ, i64_w, i32_w]
      rfl
    refine pure_ (i := 6) (N := some 15) (v := ?_) (a' := ?_) #[true, true, true, true, true, true, true, false] rfl rfl (any_of HT_.out (by kernel_rfl)) (fun _ _ _ h => h) (Or.inl ⟨by rfl, ?_⟩) ?_ ?_
    rotate_left
    · intro w'
      go_simp
      with_reducible rfl
    rotate_left
    · simp only [Act.put, List.setIfInBounds_toArray, List.set_cons_zero, List.set_cons_succ, i64_w, i32_w]
      rfl
    refine last_ (i := 7) (N := none) #[true, true, true, true, true, true, true, true] rfl rfl (one_of HT_.out (by kernel_rfl)) (by decide) (fun K hK => ?_)
    have hs12 : w11.cell? ⟨gb186, 0, none⟩ = some (.int .i64 a1_0) := (blk_cell BK186.out 0).trans rfl
    have hfs12 := blk_frozen BK186.out 0
    have hns12_1 := NB187_186.out
    have hms12_1 := NB186_187.out
    refine skip_ (w1 := ?_) (by rfl) rfl ?_ ?_
    rotate_left
    · go_simp
      rfl
    refine hK.out _ _ ?_
    clear hK K
    refine done_ (done_of HT_.out (by kernel_rfl)) ?_
    have hnb13 := NB186_187.out
    have hnc13 := NB187_186.out
    have hnb14 := NB186_0.out
    have hnc14 := NB0_186.out
    have hcz15_0 : w11.cell? ⟨gb186, 0, none⟩ = some (.int .i64 a1_0) := (blk_cell BK186.out 0).trans rfl
    have hcz15_1 : w11.cell? ⟨gb186, 1, none⟩ = some (.int .i64 a1_1) := (blk_cell BK186.out 1).trans rfl
    have hcz15_2 : w11.cell? ⟨gb186, 2, none⟩ = some (.int .i64 a1_2) := (blk_cell BK186.out 2).trans rfl
    have hcz15_3 : w11.cell? ⟨gb186, 3, none⟩ = some (.int .i64 a1_3) := (blk_cell BK186.out 3).trans rfl
    have hcz15_4 : w11.cell? ⟨gb186, 4, none⟩ = some (.slice Ao6 l1_4.length co6) := (blk_cell BK186.out 4).trans rfl
    have hfz15_0 := blk_frozen BK186.out 0
    have hfz15_1 := blk_frozen BK186.out 1
    have hfz15_2 := blk_frozen BK186.out 2
    have hfz15_3 := blk_frozen BK186.out 3
    have hfz15_4 := blk_frozen BK186.out 4
    have hnb16 := NB187_0.out
    have hnc16 := NB0_187.out
    have hcz17_0 : w11.cell? ⟨gb187, 0, none⟩ = some (.int .i64 0) := (blk_cell BK187.out 0).trans rfl
    have hcz17_1 : w11.cell? ⟨gb187, 1, none⟩ = some (.int .i64 0) := (blk_cell BK187.out 1).trans rfl
    have hcz17_2 : w11.cell? ⟨gb187, 2, none⟩ = some (.int .i64 0) := (blk_cell BK187.out 2).trans rfl
    have hcz17_3 : w11.cell? ⟨gb187, 3, none⟩ = some (.int .i64 0) := (blk_cell BK187.out 3).trans rfl
    have hcz17_4 : w11.cell? ⟨gb187, 4, none⟩ = some (.slice none 0 0) := (blk_cell BK187.out 4).trans rfl
    have hfz17_0 := blk_frozen BK187.out 0
    have hfz17_1 := blk_frozen BK187.out 1
    have hfz17_2 := blk_frozen BK187.out 2
    have hfz17_3 := blk_frozen BK187.out 3
    have hfz17_4 := blk_frozen BK187.out 4
    try go_wp2
    refine bodyPost_ret (results_cell_row rfl _ _ gb187 31 #[.int .i64 (wrap64 (a1_0 + (wrap64 (t191 - 1)))), .int .i64 a1_1, .int .i64 a1_2, .int .i64 a1_3, .slice Ao6 l1_4.length co6] (0, 0) _ rfl (by (with_reducible repeat (first | refine blk_drewN ?_ _ | refine blk_drew ?_ | refine blk_alloc ?_ _)); refine blk_put (cs := #[.int .i64 (wrap64 (a1_0 + (wrap64 (t191 - 1)))), .int .i64 a1_1, .int .i64 a1_2, .int .i64 a1_3, .slice none 0 0]) ?_ 4 _ rfl; (with_reducible repeat (first | refine blk_drewN ?_ _ | refine blk_drew ?_ | refine blk_alloc ?_ _)); refine blk_put (cs := #[.int .i64 (wrap64 (a1_0 + (wrap64 (t191 - 1)))), .int .i64 a1_1, .int .i64 a1_2, .int .i64 0, .slice none 0 0]) ?_ 3 _ rfl; (with_reducible repeat (first | refine blk_drewN ?_ _ | refine blk_drew ?_ | refine blk_alloc ?_ _)); refine blk_put (cs := #[.int .i64 (wrap64 (a1_0 + (wrap64 (t191 - 1)))), .int .i64 a1_1, .int .i64 0, .int .i64 0, .slice none 0 0]) ?_ 2 _ rfl; (with_reducible repeat (first | refine blk_drewN ?_ _ | refine blk_drew ?_ | refine blk_alloc ?_ _)); refine blk_put (cs := #[.int .i64 (wrap64 (a1_0 + (wrap64 (t191 - 1)))), .int .i64 0, .int .i64 0, .int .i64 0, .slice none 0 0]) ?_ 1 _ rfl; (with_reducible repeat (first | refine blk_drewN ?_ _ | refine blk_drew ?_ | refine blk_alloc ?_ _)); refine blk_put (cs := #[.int .i64 0, .int .i64 0, .int .i64 0, .int .i64 0, .slice none 0 0]) ?_ 0 _ rfl; (with_reducible repeat (first | refine blk_drewN ?_ _ | refine blk_drew ?_ | refine blk_alloc ?_ _)); refine blk_far ?_ NB187_186.out _; (with_reducible repeat (first | refine blk_drewN ?_ _ | refine blk_drew ?_ | refine blk_alloc ?_ _)); exact BK187.out) Try.underlying31 rfl (by kernel_rfl)) rfl ?_
    exact ⟨_, by first | rfl | (simp [errW_none, errW_some] <;> rfl) | (simp [*, errW_none, errW_some] <;> rfl), by (with_reducible repeat (first | apply Kd.R_alloc | apply Kd.R_drewN | apply Kd.R_drew)); exact Kd.R_mono (Kd.R_far (p := ⟨gb187, 4, none⟩) (Kd.R_far (p := ⟨gb187, 3, none⟩) (Kd.R_far (p := ⟨gb187, 2, none⟩) (Kd.R_far (p := ⟨gb187, 1, none⟩) (Kd.R_far (p := ⟨gb187, 0, none⟩) (Kd.R_far (p := ⟨gb186, 0, none⟩) (Kd.R_types (Kd.R_types HO1_4.out BK186.out (by decide)) BK187.out (by decide)) (fun _ hk => hk.1.2) (.int .i64 (wrap64 (a1_0 + (wrap64 (t191 - 1)))))) (fun _ hk => hk.2) (.int .i64 (wrap64 (a1_0 + (wrap64 (t191 - 1)))))) (fun _ hk => hk.2) (.int .i64 a1_1)) (fun _ hk => hk.2) (.int .i64 a1_2)) (fun _ hk => hk.2) (.int .i64 a1_3)) (fun _ hk => hk.2) (.slice Ao6 l1_4.length co6)) (fun _ hk => hk.1.1), by repeat (first | (with_reducible first | exact HI0.out | apply IsS123.alloc | apply IsS123.drewN | apply IsS123.drew | apply IsS123.set_1 | apply IsS123.set_2 | refine IsS123.far ?_ NB0_186.out _ | refine IsS123.far ?_ NB0_187.out _) | exact HI0.out), by repeat (first | (with_reducible first | exact HB.out | apply below_alloc | apply pw_below_drewN | apply below_drew1 | refine below_set ?_ (IsS123.ge HI0.out) | refine below_set ?_ GE186.out | refine below_set ?_ GE187.out) | exact HB.out), by repeat (first | (with_reducible first | exact HK.out | apply Kept.alloc | apply Kept.drewN | apply Kept.drew | refine Kept.setCell ?_ (.inl (.inr rfl)) _ | refine Kept.setCell ?_ (.inr GW186.out) _ | refine Kept.setCell ?_ (.inr GW187.out) _) | exact HK.out)⟩
  rw [if_neg c4] at H
  have c4b0 : (t188 == 0) = false := beq_eq_false_iff_ne.mpr c4
  have c4b1 : (t188 != 0) = true := bne_iff_ne.mpr c4
  by_cases c18 : t188 = 1
  · rw [if_pos c18] at H
    have c18b0 : (t188 == 1) = true := beq_iff_eq.mpr c18
    have c18b1 : (t188 != 1) = false := bne_eq_false_iff_eq.mpr c18
    clear c18
    replace H := Option.bind_eq_some_iff.mp H
    obtain ⟨⟨t194, t195, t196⟩, A190, H⟩ := H
    replace H : (some (a1_0, a1_1, a1_2, t194, l1_4, t195, t196)) = some (r1, r2, r3, r4, r5, r6, r7) := H
    have A19 := Aside0.mk A190
    clear A190
    simp only [Option.some.injEq, Prod.mk.injEq] at H
    obtain ⟨rfl, rfl, rfl, rfl, rfl, rfl, rfl⟩ := H
    obtain ⟨Ao20, co20, eo20⟩ := Kd.R_slice HO1_4.out
    subst eo20
    go_enter Try.func134, Try.ntmps134
    go_wp2_with (first | ((with_reducible refine gate_dst (N := 3) rfl ?_); refine box_event ?hg (N := 3) ?hd (cs := #[.int .i64 a1_0, .int .i64 a1_1, .int .i64 a1_2, .int .i64 a1_3, .slice Ao20 l1_4.length co20]) (t := 31) ?hr ?_; (case hd => rfl); (case hg => rfl); (case hr => first | (go_simp; done) | (go_simp; rfl)); intro gb186 hg w21 hbox hb; have n0_ := Aside0.mk (Kd.R_below (by (with_reducible repeat (first | apply Kd.R_alloc | apply Kd.R_drewN | apply Kd.R_drew)); exact HO1_4.out) hb); have n1_ := Aside0.mk (IsS123.below (by repeat (first | (with_reducible first | exact HI0.out | apply IsS123.alloc | apply IsS123.drewN | apply IsS123.drew | apply IsS123.set_1 | apply IsS123.set_2) | exact HI0.out)) hb); have n2_ := Aside0.mk (Kept.below (S := (fun k_ => (P1_4_ k_) ∨ k_ = g)) (by repeat (first | (with_reducible first | exact HK.out | apply Kept.alloc | apply Kept.drewN | apply Kept.drew | refine Kept.setCell ?_ (.inl (.inr rfl)) _) | exact HK.out)) hb); have n3_ := Aside0.mk (below_step (by repeat (first | (with_reducible first | exact HB.out | apply below_alloc | apply pw_below_drewN | apply below_drew1 | refine below_set ?_ (IsS123.ge HI0.out)) | exact HB.out)) hb); have n4_ := Aside0.mk (hbox); have n5_ := Aside0.mk ((by rw [hg]; exact (by first | exact HK.out.1 | exact (show Kept w _ (fun k_ => (P1_4_ k_) ∨ k_ = g) from by repeat (first | (with_reducible first | exact HK.out | apply Kept.alloc | apply Kept.drewN | apply Kept.drew | refine Kept.setCell ?_ (.inl (.inr rfl)) _) | exact HK.out)).1) : w.heap.size ≤ gb186)); have n6_ := Aside0.mk ((by rw [hg]; exact (below_size (by repeat (first | (with_reducible first | exact HB.out | apply below_alloc | apply pw_below_drewN | apply below_drew1 | refine below_set ?_ (IsS123.ge HI0.out)) | exact HB.out))) : w0.heap.size ≤ gb186)); have n7_ := Aside0.mk ((by rw [hg]; exact Nat.ne_of_lt (IsS123.lt (show IsS123 w0 _ g s0_0 s0_1 s0_2 from by repeat (first | (with_reducible first | exact HI0.out | apply IsS123.alloc | apply IsS123.drewN | apply IsS123.drew | apply IsS123.set_1 | apply IsS123.set_2) | exact HI0.out))) : g ≠ gb186)); have n8_ := Aside0.mk ((by rw [hg]; exact Nat.ne_of_gt (IsS123.lt (show IsS123 w0 _ g s0_0 s0_1 s0_2 from by repeat (first | (with_reducible first | exact HI0.out | apply IsS123.alloc | apply IsS123.drewN | apply IsS123.drew | apply IsS123.set_1 | apply IsS123.set_2) | exact HI0.out))) : gb186 ≠ g)); clear HO1_4; clear HI0; clear HK; clear HB; have HO1_4 := n0_; have HI0 := n1_; have HK := n2_; have HB := n3_; have BK186 := n4_; have GW186 := n5_; have GE186 := n6_; have NB0_186 := n7_; have NB186_0 := n8_; clear n0_ n1_ n2_ n3_ n4_ n5_ n6_ n7_ n8_; clear hb hbox hg) | ((with_reducible refine gate_dst (N := 4) rfl ?_); refine box_event ?hg (N := 4) ?hd (cs := #[.int .i64 0, .int .i64 0, .int .i64 0, .int .i64 0, .slice none 0 0]) (t := 31) ?hr ?_; (case hd => rfl); (case hg => rfl); (case hr => first | (go_simp; done) | (go_simp; rfl)); intro gb187 hg w22 hbox hb; have n0_ := Aside0.mk (Kd.R_below (by (with_reducible repeat (first | apply Kd.R_alloc | apply Kd.R_drewN | apply Kd.R_drew)); exact HO1_4.out) hb); have n1_ := Aside0.mk (IsS123.below (by repeat (first | (with_reducible first | exact HI0.out | apply IsS123.alloc | apply IsS123.drewN | apply IsS123.drew | apply IsS123.set_1 | apply IsS123.set_2 | refine IsS123.far ?_ NB0_186.out _) | exact HI0.out)) hb); have n2_ := Aside0.mk (blk_below (g := gb186) (o := .cells #[.int .i64 a1_0, .int .i64 a1_1, .int .i64 a1_2, .int .i64 a1_3, .slice Ao20 l1_4.length co20] 31 (0, 0)) (by (with_reducible repeat (first | refine blk_drewN ?_ _ | refine blk_drew ?_ | refine blk_alloc ?_ _)); exact BK186.out) hb); have n3_ := Aside0.mk (Kept.below (S := (fun k_ => (P1_4_ k_) ∨ k_ = g)) (by repeat (first | (with_reducible first | exact HK.out | apply Kept.alloc | apply Kept.drewN | apply Kept.drew | refine Kept.setCell ?_ (.inl (.inr rfl)) _ | refine Kept.setCell ?_ (.inr GW186.out) _) | exact HK.out)) hb); have n4_ := Aside0.mk (below_step (by repeat (first | (with_reducible first | exact HB.out | apply below_alloc | apply pw_below_drewN | apply below_drew1 | refine below_set ?_ (IsS123.ge HI0.out) | refine below_set ?_ GE186.out) | exact HB.out)) hb); have n5_ := Aside0.mk (hbox); have n6_ := Aside0.mk ((by rw [hg]; exact (by first | exact HK.out.1 | exact (show Kept w _ (fun k_ => (P1_4_ k_) ∨ k_ = g) from by repeat (first | (with_reducible first | exact HK.out | apply Kept.alloc | apply Kept.drewN | apply Kept.drew | refine Kept.setCell ?_ (.inl (.inr rfl)) _ | refine Kept.setCell ?_ (.inr GW186.out) _) | exact HK.out)).1) : w.heap.size ≤ gb187)); have n7_ := Aside0.mk ((by rw [hg]; exact (below_size (by repeat (first | (with_reducible first | exact HB.out | apply below_alloc | apply pw_below_drewN | apply below_drew1 | refine below_set ?_ (IsS123.ge HI0.out) | refine below_set ?_ GE186.out) | exact HB.out))) : w0.heap.size ≤ gb187)); have n8_ := Aside0.mk ((by rw [hg]; exact Nat.ne_of_lt (blk_lt (g := gb186) (o := .cells #[.int .i64 a1_0, .int .i64 a1_1, .int .i64 a1_2, .int .i64 a1_3, .slice Ao20 l1_4.length co20] 31 (0, 0)) (by (with_reducible repeat (first | refine blk_drewN ?_ _ | refine blk_drew ?_ | refine blk_alloc ?_ _)); exact BK186.out)) : gb186 ≠ gb187)); have n9_ := Aside0.mk ((by rw [hg]; exact Nat.ne_of_gt (blk_lt (g := gb186) (o := .cells #[.int .i64 a1_0, .int .i64 a1_1, .int .i64 a1_2, .int .i64 a1_3, .slice Ao20 l1_4.length co20] 31 (0, 0)) (by (with_reducible repeat (first | refine blk_drewN ?_ _ | refine blk_drew ?_ | refine blk_alloc ?_ _)); exact BK186.out)) : gb187 ≠ gb186)); have n10_ := Aside0.mk ((by rw [hg]; exact Nat.ne_of_lt (IsS123.lt (show IsS123 w0 _ g s0_0 s0_1 s0_2 from by repeat (first | (with_reducible first | exact HI0.out | apply IsS123.alloc | apply IsS123.drewN | apply IsS123.drew | apply IsS123.set_1 | apply IsS123.set_2 | refine IsS123.far ?_ NB0_186.out _) | exact HI0.out))) : g ≠ gb187)); have n11_ := Aside0.mk ((by rw [hg]; exact Nat.ne_of_gt (IsS123.lt (show IsS123 w0 _ g s0_0 s0_1 s0_2 from by repeat (first | (with_reducible first | exact HI0.out | apply IsS123.alloc | apply IsS123.drewN | apply IsS123.drew | apply IsS123.set_1 | apply IsS123.set_2 | refine IsS123.far ?_ NB0_186.out _) | exact HI0.out))) : gb187 ≠ g)); clear HO1_4; clear HI0; clear BK186; clear HK; clear HB; have HO1_4 := n0_; have HI0 := n1_; have BK186 := n2_; have HK := n3_; have HB := n4_; have BK187 := n5_; have GW187 := n6_; have GE187 := n7_; have NB186_187 := n8_; have NB187_186 := n9_; have NB0_187 := n10_; have NB187_0 := n11_; clear n0_ n1_ n2_ n3_ n4_ n5_ n6_ n7_ n8_ n9_ n10_ n11_; clear hb hbox hg) | ((with_reducible refine gate_callee (f := 105) rfl ?_); refine goesL_ (some 6) rfl rfl Try.func105 (by kernel_rfl) rfl #[.pointer (some ⟨g, 0, none⟩), .int .i64 9] rfl (by (try simp only [List.map_toArray, List.map_cons, List.map_nil]); first | done | rfl | (simp only [List.length_drop, List.length_take]; rfl)) ?_; (with_reducible refine (spec_l1Cur_pick.calls g s0_0 s0_1 s0_2 9 t188 t189 t190 w0 _ ?side1 ?side2 A3.out).mono ?_); (case side1 => repeat (first | (with_reducible first | exact HI0.out | apply IsS123.alloc | apply IsS123.drewN | apply IsS123.drew | apply IsS123.set_1 | apply IsS123.set_2 | refine IsS123.far ?_ NB0_186.out _ | refine IsS123.far ?_ NB0_187.out _) | exact HI0.out)); (case side2 => repeat (first | (with_reducible first | exact HB.out | apply below_alloc | apply pw_below_drewN | apply below_drew1 | refine below_set ?_ (IsS123.ge HI0.out) | refine below_set ?_ GE186.out | refine below_set ?_ GE187.out) | exact HB.out)); rintro e w23 ⟨rfl, hi, hb, hk⟩; refine ⟨_, rfl, ?_⟩; have n0_ := Aside0.mk (Kd.R_mono (Kd.R_keep (IsS123.apart (show IsS123 w0 _ g s0_0 s0_1 s0_2 from by repeat (first | (with_reducible first | exact HI0.out | apply IsS123.alloc | apply IsS123.drewN | apply IsS123.drew | apply IsS123.set_1 | apply IsS123.set_2 | refine IsS123.far ?_ NB0_186.out _ | refine IsS123.far ?_ NB0_187.out _) | exact HI0.out)) (by (with_reducible repeat (first | apply Kd.R_alloc | apply Kd.R_drewN | apply Kd.R_drew)); exact HO1_4.out) (by decide)) hk (fun _ h => h.2)) (fun _ h => h.1)); have n1_ := Aside0.mk (KeepBut.blk hk (g' := gb186) (o := .cells #[.int .i64 a1_0, .int .i64 a1_1, .int .i64 a1_2, .int .i64 a1_3, .slice Ao20 l1_4.length co20] 31 (0, 0)) (by (with_reducible repeat (first | refine blk_drewN ?_ _ | refine blk_drew ?_ | refine blk_alloc ?_ _)); exact BK186.out) NB186_0.out (by simp)); have n2_ := Aside0.mk (KeepBut.blk hk (g' := gb187) (o := .cells #[.int .i64 0, .int .i64 0, .int .i64 0, .int .i64 0, .slice none 0 0] 31 (0, 0)) (by (with_reducible repeat (first | refine blk_drewN ?_ _ | refine blk_drew ?_ | refine blk_alloc ?_ _)); exact BK187.out) NB187_0.out (by simp)); have n3_ := Aside0.mk (Kept.of_keep (S := (fun k_ => (P1_4_ k_) ∨ k_ = g)) (by repeat (first | (with_reducible first | exact HK.out | apply Kept.alloc | apply Kept.drewN | apply Kept.drew | refine Kept.setCell ?_ (.inl (.inr rfl)) _ | refine Kept.setCell ?_ (.inr GW186.out) _ | refine Kept.setCell ?_ (.inr GW187.out) _) | exact HK.out)) hk (.inl (.inr rfl))); have n4_ := Aside0.mk (hb); have n5_ := Aside0.mk (hi); clear HO1_4; clear BK186; clear BK187; clear HK; clear HB; clear HI0; have HO1_4 := n0_; have BK186 := n1_; have BK187 := n2_; have HK := n3_; have HB := n4_; have HI0 := n5_; clear n0_ n1_ n2_ n3_ n4_ n5_; (try clear hb); (try clear hb2); (try clear hk); (try clear hi)) | ((with_reducible refine gate_callee (f := 105) rfl ?_); refine goesL_ (some 19) rfl rfl Try.func105 (by kernel_rfl) rfl #[.pointer (some ⟨g, 0, none⟩), .int .i64 18] rfl (by (try simp only [List.map_toArray, List.map_cons, List.map_nil]); first | done | rfl | (simp only [List.length_drop, List.length_take]; rfl)) ?_; (with_reducible refine (spec_l1Cur_pick.calls g s0_0 t189 t190 18 t194 t195 t196 w0 _ ?side1 ?side2 A19.out).mono ?_); (case side1 => repeat (first | (with_reducible first | exact HI0.out | apply IsS123.alloc | apply IsS123.drewN | apply IsS123.drew | apply IsS123.set_1 | apply IsS123.set_2 | refine IsS123.far ?_ NB0_186.out _ | refine IsS123.far ?_ NB0_187.out _) | exact HI0.out)); (case side2 => repeat (first | (with_reducible first | exact HB.out | apply below_alloc | apply pw_below_drewN | apply below_drew1 | refine below_set ?_ (IsS123.ge HI0.out) | refine below_set ?_ GE186.out | refine below_set ?_ GE187.out) | exact HB.out)); rintro e w24 ⟨rfl, hi, hb, hk⟩; refine ⟨_, rfl, ?_⟩; have n0_ := Aside0.mk (Kd.R_mono (Kd.R_keep (IsS123.apart (show IsS123 w0 _ g s0_0 t189 t190 from by repeat (first | (with_reducible first | exact HI0.out | apply IsS123.alloc | apply IsS123.drewN | apply IsS123.drew | apply IsS123.set_1 | apply IsS123.set_2 | refine IsS123.far ?_ NB0_186.out _ | refine IsS123.far ?_ NB0_187.out _) | exact HI0.out)) (by (with_reducible repeat (first | apply Kd.R_alloc | apply Kd.R_drewN | apply Kd.R_drew)); exact HO1_4.out) (by decide)) hk (fun _ h => h.2)) (fun _ h => h.1)); have n1_ := Aside0.mk (KeepBut.blk hk (g' := gb186) (o := .cells #[.int .i64 a1_0, .int .i64 a1_1, .int .i64 a1_2, .int .i64 a1_3, .slice Ao20 l1_4.length co20] 31 (0, 0)) (by (with_reducible repeat (first | refine blk_drewN ?_ _ | refine blk_drew ?_ | refine blk_alloc ?_ _)); exact BK186.out) NB186_0.out (by simp)); have n2_ := Aside0.mk (KeepBut.blk hk (g' := gb187) (o := .cells #[.int .i64 0, .int .i64 0, .int .i64 0, .int .i64 0, .slice none 0 0] 31 (0, 0)) (by (with_reducible repeat (first | refine blk_drewN ?_ _ | refine blk_drew ?_ | refine blk_alloc ?_ _)); exact BK187.out) NB187_0.out (by simp)); have n3_ := Aside0.mk (Kept.of_keep (S := (fun k_ => (P1_4_ k_) ∨ k_ = g)) (by repeat (first | (with_reducible first | exact HK.out | apply Kept.alloc | apply Kept.drewN | apply Kept.drew | refine Kept.setCell ?_ (.inl (.inr rfl)) _ | refine Kept.setCell ?_ (.inr GW186.out) _ | refine Kept.setCell ?_ (.inr GW187.out) _) | exact HK.out)) hk (.inl (.inr rfl))); have n4_ := Aside0.mk (hb); have n5_ := Aside0.mk (hi); clear HO1_4; clear BK186; clear BK187; clear HK; clear HB; clear HI0; have HO1_4 := n0_; have BK186 := n1_; have BK187 := n2_; have HK := n3_; have HB := n4_; have HI0 := n5_; clear n0_ n1_ n2_ n3_ n4_ n5_; (try clear hb); (try clear hb2); (try clear hk); (try clear hi); have hnb25 := NB186_187.out; have hnc25 := NB187_186.out; have hnb26 := NB186_0.out; have hnc26 := NB0_186.out; have hcz27_0 : w24.cell? ⟨gb186, 0, none⟩ = some (.int .i64 a1_0) := (blk_cell BK186.out 0).trans rfl; have hcz27_1 : w24.cell? ⟨gb186, 1, none⟩ = some (.int .i64 a1_1) := (blk_cell BK186.out 1).trans rfl; have hcz27_2 : w24.cell? ⟨gb186, 2, none⟩ = some (.int .i64 a1_2) := (blk_cell BK186.out 2).trans rfl; have hcz27_3 : w24.cell? ⟨gb186, 3, none⟩ = some (.int .i64 a1_3) := (blk_cell BK186.out 3).trans rfl; have hcz27_4 : w24.cell? ⟨gb186, 4, none⟩ = some (.slice Ao20 l1_4.length co20) := (blk_cell BK186.out 4).trans rfl; have hfz27_0 := blk_frozen BK186.out 0; have hfz27_1 := blk_frozen BK186.out 1; have hfz27_2 := blk_frozen BK186.out 2; have hfz27_3 := blk_frozen BK186.out 3; have hfz27_4 := blk_frozen BK186.out 4; have hnb28 := NB187_0.out; have hnc28 := NB0_187.out; have hcz29_0 : w24.cell? ⟨gb187, 0, none⟩ = some (.int .i64 0) := (blk_cell BK187.out 0).trans rfl; have hcz29_1 : w24.cell? ⟨gb187, 1, none⟩ = some (.int .i64 0) := (blk_cell BK187.out 1).trans rfl; have hcz29_2 : w24.cell? ⟨gb187, 2, none⟩ = some (.int .i64 0) := (blk_cell BK187.out 2).trans rfl; have hcz29_3 : w24.cell? ⟨gb187, 3, none⟩ = some (.int .i64 0) := (blk_cell BK187.out 3).trans rfl; have hcz29_4 : w24.cell? ⟨gb187, 4, none⟩ = some (.slice none 0 0) := (blk_cell BK187.out 4).trans rfl; have hfz29_0 := blk_frozen BK187.out 0; have hfz29_1 := blk_frozen BK187.out 1; have hfz29_2 := blk_frozen BK187.out 2; have hfz29_3 := blk_frozen BK187.out 3; have hfz29_4 := blk_frozen BK187.out 4))
    refine bodyPost_ret (results_cell_row rfl _ _ gb187 31 #[.int .i64 a1_0, .int .i64 a1_1, .int .i64 a1_2, .int .i64 t194, .slice Ao20 l1_4.length co20] (0, 0) _ rfl (by (with_reducible repeat (first | refine blk_drewN ?_ _ | refine blk_drew ?_ | refine blk_alloc ?_ _)); refine blk_put (cs := #[.int .i64 a1_0, .int .i64 a1_1, .int .i64 a1_2, .int .i64 t194, .slice none 0 0]) ?_ 4 _ rfl; (with_reducible repeat (first | refine blk_drewN ?_ _ | refine blk_drew ?_ | refine blk_alloc ?_ _)); refine blk_put (cs := #[.int .i64 a1_0, .int .i64 a1_1, .int .i64 a1_2, .int .i64 0, .slice none 0 0]) ?_ 3 _ rfl; (with_reducible repeat (first | refine blk_drewN ?_ _ | refine blk_drew ?_ | refine blk_alloc ?_ _)); refine blk_put (cs := #[.int .i64 a1_0, .int .i64 a1_1, .int .i64 0, .int .i64 0, .slice none 0 0]) ?_ 2 _ rfl; (with_reducible repeat (first | refine blk_drewN ?_ _ | refine blk_drew ?_ | refine blk_alloc ?_ _)); refine blk_put (cs := #[.int .i64 a1_0, .int .i64 0, .int .i64 0, .int .i64 0, .slice none 0 0]) ?_ 1 _ rfl; (with_reducible repeat (first | refine blk_drewN ?_ _ | refine blk_drew ?_ | refine blk_alloc ?_ _)); refine blk_put (cs := #[.int .i64 0, .int .i64 0, .int .i64 0, .int .i64 0, .slice none 0 0]) ?_ 0 _ rfl; (with_reducible repeat (first | refine blk_drewN ?_ _ | refine blk_drew ?_ | refine blk_alloc ?_ _)); refine blk_far ?_ NB187_186.out _; (with_reducible repeat (first | refine blk_drewN ?_ _ | refine blk_drew ?_ | refine blk_alloc ?_ _)); exact BK187.out) Try.underlying31 rfl (by kernel_rfl)) rfl ?_
    exact ⟨_, by first | rfl | (simp [errW_none, errW_some] <;> rfl) | (simp [*, errW_none, errW_some] <;> rfl), by (with_reducible repeat (first | apply Kd.R_alloc | apply Kd.R_drewN | apply Kd.R_drew)); exact Kd.R_mono (Kd.R_far (p := ⟨gb187, 4, none⟩) (Kd.R_far (p := ⟨gb187, 3, none⟩) (Kd.R_far (p := ⟨gb187, 2, none⟩) (Kd.R_far (p := ⟨gb187, 1, none⟩) (Kd.R_far (p := ⟨gb187, 0, none⟩) (Kd.R_far (p := ⟨gb186, 3, none⟩) (Kd.R_types (Kd.R_types HO1_4.out BK186.out (by decide)) BK187.out (by decide)) (fun _ hk => hk.1.2) (.int .i64 t194)) (fun _ hk => hk.2) (.int .i64 a1_0)) (fun _ hk => hk.2) (.int .i64 a1_1)) (fun _ hk => hk.2) (.int .i64 a1_2)) (fun _ hk => hk.2) (.int .i64 t194)) (fun _ hk => hk.2) (.slice Ao20 l1_4.length co20)) (fun _ hk => hk.1.1), by repeat (first | (with_reducible first | exact HI0.out | apply IsS123.alloc | apply IsS123.drewN | apply IsS123.drew | apply IsS123.set_1 | apply IsS123.set_2 | refine IsS123.far ?_ NB0_186.out _ | refine IsS123.far ?_ NB0_187.out _) | exact HI0.out), by repeat (first | (with_reducible first | exact HB.out | apply below_alloc | apply pw_below_drewN | apply below_drew1 | refine below_set ?_ (IsS123.ge HI0.out) | refine below_set ?_ GE186.out | refine below_set ?_ GE187.out) | exact HB.out), by repeat (first | (with_reducible first | exact HK.out | apply Kept.alloc | apply Kept.drewN | apply Kept.drew | refine Kept.setCell ?_ (.inl (.inr rfl)) _ | refine Kept.setCell ?_ (.inr GW186.out) _ | refine Kept.setCell ?_ (.inr GW187.out) _) | exact HK.out)⟩
  rw [if_neg c18] at H
  have c18b0 : (t188 == 1) = false := beq_eq_false_iff_ne.mpr c18
  have c18b1 : (t188 != 1) = true := bne_iff_ne.mpr c18
  by_cases c30 : t188 = 2
  · rw [if_pos c30] at H
    have c30b0 : (t188 == 2) = true := beq_iff_eq.mpr c30
    have c30b1 : (t188 != 2) = false := bne_eq_false_iff_eq.mpr c30
    clear c30
    replace H := Option.bind_eq_some_iff.mp H
    obtain ⟨⟨t197, t198, t199⟩, A310, H⟩ := H
    replace H : (some (a1_0, a1_1, t197, a1_3, l1_4, t198, t199)) = some (r1, r2, r3, r4, r5, r6, r7) := H
    have A31 := Aside0.mk A310
    clear A310
    simp only [Option.some.injEq, Prod.mk.injEq] at H
    obtain ⟨rfl, rfl, rfl, rfl, rfl, rfl, rfl⟩ := H
    obtain ⟨Ao32, co32, eo32⟩ := Kd.R_slice HO1_4.out
    subst eo32
    go_enter Try.func134, Try.ntmps134
    go_wp2_with (first | ((with_reducible refine gate_dst (N := 3) rfl ?_); refine box_event ?hg (N := 3) ?hd (cs := #[.int .i64 a1_0, .int .i64 a1_1, .int .i64 a1_2, .int .i64 a1_3, .slice Ao32 l1_4.length co32]) (t := 31) ?hr ?_; (case hd => rfl); (case hg => rfl); (case hr => first | (go_simp; done) | (go_simp; rfl)); intro gb186 hg w33 hbox hb; have n0_ := Aside0.mk (Kd.R_below (by (with_reducible repeat (first | apply Kd.R_alloc | apply Kd.R_drewN | apply Kd.R_drew)); exact HO1_4.out) hb); have n1_ := Aside0.mk (IsS123.below (by repeat (first | (with_reducible first | exact HI0.out | apply IsS123.alloc | apply IsS123.drewN | apply IsS123.drew | apply IsS123.set_1 | apply IsS123.set_2) | exact HI0.out)) hb); have n2_ := Aside0.mk (Kept.below (S := (fun k_ => (P1_4_ k_) ∨ k_ = g)) (by repeat (first | (with_reducible first | exact HK.out | apply Kept.alloc | apply Kept.drewN | apply Kept.drew | refine Kept.setCell ?_ (.inl (.inr rfl)) _) | exact HK.out)) hb); have n3_ := Aside0.mk (below_step (by repeat (first | (with_reducible first | exact HB.out | apply below_alloc | apply pw_below_drewN | apply below_drew1 | refine below_set ?_ (IsS123.ge HI0.out)) | exact HB.out)) hb); have n4_ := Aside0.mk (hbox); have n5_ := Aside0.mk ((by rw [hg]; exact (by first | exact HK.out.1 | exact (show Kept w _ (fun k_ => (P1_4_ k_) ∨ k_ = g) from by repeat (first | (with_reducible first | exact HK.out | apply Kept.alloc | apply Kept.drewN | apply Kept.drew | refine Kept.setCell ?_ (.inl (.inr rfl)) _) | exact HK.out)).1) : w.heap.size ≤ gb186)); have n6_ := Aside0.mk ((by rw [hg]; exact (below_size (by repeat (first | (with_reducible first | exact HB.out | apply below_alloc | apply pw_below_drewN | apply below_drew1 | refine below_set ?_ (IsS123.ge HI0.out)) | exact HB.out))) : w0.heap.size ≤ gb186)); have n7_ := Aside0.mk ((by rw [hg]; exact Nat.ne_of_lt (IsS123.lt (show IsS123 w0 _ g s0_0 s0_1 s0_2 from by repeat (first | (with_reducible first | exact HI0.out | apply IsS123.alloc | apply IsS123.drewN | apply IsS123.drew | apply IsS123.set_1 | apply IsS123.set_2) | exact HI0.out))) : g ≠ gb186)); have n8_ := Aside0.mk ((by rw [hg]; exact Nat.ne_of_gt (IsS123.lt (show IsS123 w0 _ g s0_0 s0_1 s0_2 from by repeat (first | (with_reducible first | exact HI0.out | apply IsS123.alloc | apply IsS123.drewN | apply IsS123.drew | apply IsS123.set_1 | apply IsS123.set_2) | exact HI0.out))) : gb186 ≠ g)); clear HO1_4; clear HI0; clear HK; clear HB; have HO1_4 := n0_; have HI0 := n1_; have HK := n2_; have HB := n3_; have BK186 := n4_; have GW186 := n5_; have GE186 := n6_; have NB0_186 := n7_; have NB186_0 := n8_; clear n0_ n1_ n2_ n3_ n4_ n5_ n6_ n7_ n8_; clear hb hbox hg) | ((with_reducible refine gate_dst (N := 4) rfl ?_); refine box_event ?hg (N := 4) ?hd (cs := #[.int .i64 0, .int .i64 0, .int .i64 0, .int .i64 0, .slice none 0 0]) (t := 31) ?hr ?_; (case hd => rfl); (case hg => rfl); (case hr => first | (go_simp; done) | (go_simp; rfl)); intro gb187 hg w34 hbox hb; have n0_ := Aside0.mk (Kd.R_below (by (with_reducible repeat (first | apply Kd.R_alloc | apply Kd.R_drewN | apply Kd.R_drew)); exact HO1_4.out) hb); have n1_ := Aside0.mk (IsS123.below (by repeat (first | (with_reducible first | exact HI0.out | apply IsS123.alloc | apply IsS123.drewN | apply IsS123.drew | apply IsS123.set_1 | apply IsS123.set_2 | refine IsS123.far ?_ NB0_186.out _) | exact HI0.out)) hb); have n2_ := Aside0.mk (blk_below (g := gb186) (o := .cells #[.int .i64 a1_0, .int .i64 a1_1, .int .i64 a1_2, .int .i64 a1_3, .slice Ao32 l1_4.length co32] 31 (0, 0)) (by (with_reducible repeat (first | refine blk_drewN ?_ _ | refine blk_drew ?_ | refine blk_alloc ?_ _)); exact BK186.out) hb); have n3_ := Aside0.mk (Kept.below (S := (fun k_ => (P1_4_ k_) ∨ k_ = g)) (by repeat (first | (with_reducible first | exact HK.out | apply Kept.alloc | apply Kept.drewN | apply Kept.drew | refine Kept.setCell ?_ (.inl (.inr rfl)) _ | refine Kept.setCell ?_ (.inr GW186.out) _) | exact HK.out)) hb); have n4_ := Aside0.mk (below_step (by repeat (first | (with_reducible first | exact HB.out | apply below_alloc | apply pw_below_drewN | apply below_drew1 | refine below_set ?_ (IsS123.ge HI0.out) | refine below_set ?_ GE186.out) | exact HB.out)) hb); have n5_ := Aside0.mk (hbox); have n6_ := Aside0.mk ((by rw [hg]; exact (by first | exact HK.out.1 | exact (show Kept w _ (fun k_ => (P1_4_ k_) ∨ k_ = g) from by repeat (first | (with_reducible first | exact HK.out | apply Kept.alloc | apply Kept.drewN | apply Kept.drew | refine Kept.setCell ?_ (.inl (.inr rfl)) _ | refine Kept.setCell ?_ (.inr GW186.out) _) | exact HK.out)).1) : w.heap.size ≤ gb187)); have n7_ := Aside0.mk ((by rw [hg]; exact (below_size (by repeat (first | (with_reducible first | exact HB.out | apply below_alloc | apply pw_below_drewN | apply below_drew1 | refine below_set ?_ (IsS123.ge HI0.out) | refine below_set ?_ GE186.out) | exact HB.out))) : w0.heap.size ≤ gb187)); have n8_ := Aside0.mk ((by rw [hg]; exact Nat.ne_of_lt (blk_lt (g := gb186) (o := .cells #[.int .i64 a1_0, .int .i64 a1_1, .int .i64 a1_2, .int .i64 a1_3, .slice Ao32 l1_4.length co32] 31 (0, 0)) (by (with_reducible repeat (first | refine blk_drewN ?_ _ | refine blk_drew ?_ | refine blk_alloc ?_ _)); exact BK186.out)) : gb186 ≠ gb187)); have n9_ := Aside0.mk ((by rw [hg]; exact Nat.ne_of_gt (blk_lt (g := gb186) (o := .cells #[.int .i64 a1_0, .int .i64 a1_1, .int .i64 a1_2, .int .i64 a1_3, .slice Ao32 l1_4.length co32] 31 (0, 0)) (by (with_reducible repeat (first | refine blk_drewN ?_ _ | refine blk_drew ?_ | refine blk_alloc ?_ _)); exact BK186.out)) : gb187 ≠ gb186)); have n10_ := Aside0.mk ((by rw [hg]; exact Nat.ne_of_lt (IsS123.lt (show IsS123 w0 _ g s0_0 s0_1 s0_2 from by repeat (first | (with_reducible first | exact HI0.out | apply IsS123.alloc | apply IsS123.drewN | apply IsS123.drew | apply IsS123.set_1 | apply IsS123.set_2 | refine IsS123.far ?_ NB0_186.out _) | exact HI0.out))) : g ≠ gb187)); have n11_ := Aside0.mk ((by rw [hg]; exact Nat.ne_of_gt (IsS123.lt (show IsS123 w0 _ g s0_0 s0_1 s0_2 from by repeat (first | (with_reducible first | exact HI0.out | apply IsS123.alloc | apply IsS123.drewN | apply IsS123.drew | apply IsS123.set_1 | apply IsS123.set_2 | refine IsS123.far ?_ NB0_186.out _) | exact HI0.out))) : gb187 ≠ g)); clear HO1_4; clear HI0; clear BK186; clear HK; clear HB; have HO1_4 := n0_; have HI0 := n1_; have BK186 := n2_; have HK := n3_; have HB := n4_; have BK187 := n5_; have GW187 := n6_; have GE187 := n7_; have NB186_187 := n8_; have NB187_186 := n9_; have NB0_187 := n10_; have NB187_0 := n11_; clear n0_ n1_ n2_ n3_ n4_ n5_ n6_ n7_ n8_ n9_ n10_ n11_; clear hb hbox hg) | ((with_reducible refine gate_callee (f := 105) rfl ?_); refine goesL_ (some 6) rfl rfl Try.func105 (by kernel_rfl) rfl #[.pointer (some ⟨g, 0, none⟩), .int .i64 9] rfl (by (try simp only [List.map_toArray, List.map_cons, List.map_nil]); first | done | rfl | (simp only [List.length_drop, List.length_take]; rfl)) ?_; (with_reducible refine (spec_l1Cur_pick.calls g s0_0 s0_1 s0_2 9 t188 t189 t190 w0 _ ?side1 ?side2 A3.out).mono ?_); (case side1 => repeat (first | (with_reducible first | exact HI0.out | apply IsS123.alloc | apply IsS123.drewN | apply IsS123.drew | apply IsS123.set_1 | apply IsS123.set_2 | refine IsS123.far ?_ NB0_186.out _ | refine IsS123.far ?_ NB0_187.out _) | exact HI0.out)); (case side2 => repeat (first | (with_reducible first | exact HB.out | apply below_alloc | apply pw_below_drewN | apply below_drew1 | refine below_set ?_ (IsS123.ge HI0.out) | refine below_set ?_ GE186.out | refine below_set ?_ GE187.out) | exact HB.out)); rintro e w35 ⟨rfl, hi, hb, hk⟩; refine ⟨_, rfl, ?_⟩; have n0_ := Aside0.mk (Kd.R_mono (Kd.R_keep (IsS123.apart (show IsS123 w0 _ g s0_0 s0_1 s0_2 from by repeat (first | (with_reducible first | exact HI0.out | apply IsS123.alloc | apply IsS123.drewN | apply IsS123.drew | apply IsS123.set_1 | apply IsS123.set_2 | refine IsS123.far ?_ NB0_186.out _ | refine IsS123.far ?_ NB0_187.out _) | exact HI0.out)) (by (with_reducible repeat (first | apply Kd.R_alloc | apply Kd.R_drewN | apply Kd.R_drew)); exact HO1_4.out) (by decide)) hk (fun _ h => h.2)) (fun _ h => h.1)); have n1_ := Aside0.mk (KeepBut.blk hk (g' := gb186) (o := .cells #[.int .i64 a1_0, .int .i64 a1_1, .int .i64 a1_2, .int .i64 a1_3, .slice Ao32 l1_4.length co32] 31 (0, 0)) (by (with_reducible repeat (first | refine blk_drewN ?_ _ | refine blk_drew ?_ | refine blk_alloc ?_ _)); exact BK186.out) NB186_0.out (by simp)); have n2_ := Aside0.mk (KeepBut.blk hk (g' := gb187) (o := .cells #[.int .i64 0, .int .i64 0, .int .i64 0, .int .i64 0, .slice none 0 0] 31 (0, 0)) (by (with_reducible repeat (first | refine blk_drewN ?_ _ | refine blk_drew ?_ | refine blk_alloc ?_ _)); exact BK187.out) NB187_0.out (by simp)); have n3_ := Aside0.mk (Kept.of_keep (S := (fun k_ => (P1_4_ k_) ∨ k_ = g)) (by repeat (first | (with_reducible first | exact HK.out | apply Kept.alloc | apply Kept.drewN | apply Kept.drew | refine Kept.setCell ?_ (.inl (.inr rfl)) _ | refine Kept.setCell ?_ (.inr GW186.out) _ | refine Kept.setCell ?_ (.inr GW187.out) _) | exact HK.out)) hk (.inl (.inr rfl))); have n4_ := Aside0.mk (hb); have n5_ := Aside0.mk (hi); clear HO1_4; clear BK186; clear BK187; clear HK; clear HB; clear HI0; have HO1_4 := n0_; have BK186 := n1_; have BK187 := n2_; have HK := n3_; have HB := n4_; have HI0 := n5_; clear n0_ n1_ n2_ n3_ n4_ n5_; (try clear hb); (try clear hb2); (try clear hk); (try clear hi)) | ((with_reducible refine gate_callee (f := 105) rfl ?_); refine goesL_ (some 24) rfl rfl Try.func105 (by kernel_rfl) rfl #[.pointer (some ⟨g, 0, none⟩), .int .i64 6] rfl (by (try simp only [List.map_toArray, List.map_cons, List.map_nil]); first | done | rfl | (simp only [List.length_drop, List.length_take]; rfl)) ?_; (with_reducible refine (spec_l1Cur_pick.calls g s0_0 t189 t190 6 t197 t198 t199 w0 _ ?side1 ?side2 A31.out).mono ?_); (case side1 => repeat (first | (with_reducible first | exact HI0.out | apply IsS123.alloc | apply IsS123.drewN | apply IsS123.drew | apply IsS123.set_1 | apply IsS123.set_2 | refine IsS123.far ?_ NB0_186.out _ | refine IsS123.far ?_ NB0_187.out _) | exact HI0.out)); (case side2 => repeat (first | (with_reducible first | exact HB.out | apply below_alloc | apply pw_below_drewN | apply below_drew1 | refine below_set ?_ (IsS123.ge HI0.out) | refine below_set ?_ GE186.out | refine below_set ?_ GE187.out) | exact HB.out)); rintro e w36 ⟨rfl, hi, hb, hk⟩; refine ⟨_, rfl, ?_⟩; have n0_ := Aside0.mk (Kd.R_mono (Kd.R_keep (IsS123.apart (show IsS123 w0 _ g s0_0 t189 t190 from by repeat (first | (with_reducible first | exact HI0.out | apply IsS123.alloc | apply IsS123.drewN | apply IsS123.drew | apply IsS123.set_1 | apply IsS123.set_2 | refine IsS123.far ?_ NB0_186.out _ | refine IsS123.far ?_ NB0_187.out _) | exact HI0.out)) (by (with_reducible repeat (first | apply Kd.R_alloc | apply Kd.R_drewN | apply Kd.R_drew)); exact HO1_4.out) (by decide)) hk (fun _ h => h.2)) (fun _ h => h.1)); have n1_ := Aside0.mk (KeepBut.blk hk (g' := gb186) (o := .cells #[.int .i64 a1_0, .int .i64 a1_1, .int .i64 a1_2, .int .i64 a1_3, .slice Ao32 l1_4.length co32] 31 (0, 0)) (by (with_reducible repeat (first | refine blk_drewN ?_ _ | refine blk_drew ?_ | refine blk_alloc ?_ _)); exact BK186.out) NB186_0.out (by simp)); have n2_ := Aside0.mk (KeepBut.blk hk (g' := gb187) (o := .cells #[.int .i64 0, .int .i64 0, .int .i64 0, .int .i64 0, .slice none 0 0] 31 (0, 0)) (by (with_reducible repeat (first | refine blk_drewN ?_ _ | refine blk_drew ?_ | refine blk_alloc ?_ _)); exact BK187.out) NB187_0.out (by simp)); have n3_ := Aside0.mk (Kept.of_keep (S := (fun k_ => (P1_4_ k_) ∨ k_ = g)) (by repeat (first | (with_reducible first | exact HK.out | apply Kept.alloc | apply Kept.drewN | apply Kept.drew | refine Kept.setCell ?_ (.inl (.inr rfl)) _ | refine Kept.setCell ?_ (.inr GW186.out) _ | refine Kept.setCell ?_ (.inr GW187.out) _) | exact HK.out)) hk (.inl (.inr rfl))); have n4_ := Aside0.mk (hb); have n5_ := Aside0.mk (hi); clear HO1_4; clear BK186; clear BK187; clear HK; clear HB; clear HI0; have HO1_4 := n0_; have BK186 := n1_; have BK187 := n2_; have HK := n3_; have HB := n4_; have HI0 := n5_; clear n0_ n1_ n2_ n3_ n4_ n5_; (try clear hb); (try clear hb2); (try clear hk); (try clear hi); have hnb37 := NB186_187.out; have hnc37 := NB187_186.out; have hnb38 := NB186_0.out; have hnc38 := NB0_186.out; have hcz39_0 : w36.cell? ⟨gb186, 0, none⟩ = some (.int .i64 a1_0) := (blk_cell BK186.out 0).trans rfl; have hcz39_1 : w36.cell? ⟨gb186, 1, none⟩ = some (.int .i64 a1_1) := (blk_cell BK186.out 1).trans rfl; have hcz39_2 : w36.cell? ⟨gb186, 2, none⟩ = some (.int .i64 a1_2) := (blk_cell BK186.out 2).trans rfl; have hcz39_3 : w36.cell? ⟨gb186, 3, none⟩ = some (.int .i64 a1_3) := (blk_cell BK186.out 3).trans rfl; have hcz39_4 : w36.cell? ⟨gb186, 4, none⟩ = some (.slice Ao32 l1_4.length co32) := (blk_cell BK186.out 4).trans rfl; have hfz39_0 := blk_frozen BK186.out 0; have hfz39_1 := blk_frozen BK186.out 1; have hfz39_2 := blk_frozen BK186.out 2; have hfz39_3 := blk_frozen BK186.out 3; have hfz39_4 := blk_frozen BK186.out 4; have hnb40 := NB187_0.out; have hnc40 := NB0_187.out; have hcz41_0 : w36.cell? ⟨gb187, 0, none⟩ = some (.int .i64 0) := (blk_cell BK187.out 0).trans rfl; have hcz41_1 : w36.cell? ⟨gb187, 1, none⟩ = some (.int .i64 0) := (blk_cell BK187.out 1).trans rfl; have hcz41_2 : w36.cell? ⟨gb187, 2, none⟩ = some (.int .i64 0) := (blk_cell BK187.out 2).trans rfl; have hcz41_3 : w36.cell? ⟨gb187, 3, none⟩ = some (.int .i64 0) := (blk_cell BK187.out 3).trans rfl; have hcz41_4 : w36.cell? ⟨gb187, 4, none⟩ = some (.slice none 0 0) := (blk_cell BK187.out 4).trans rfl; have hfz41_0 := blk_frozen BK187.out 0; have hfz41_1 := blk_frozen BK187.out 1; have hfz41_2 := blk_frozen BK187.out 2; have hfz41_3 := blk_frozen BK187.out 3; have hfz41_4 := blk_frozen BK187.out 4))
    refine bodyPost_ret (results_cell_row rfl _ _ gb187 31 #[.int .i64 a1_0, .int .i64 a1_1, .int .i64 t197, .int .i64 a1_3, .slice Ao32 l1_4.length co32] (0, 0) _ rfl (by (with_reducible repeat (first | refine blk_drewN ?_ _ | refine blk_drew ?_ | refine blk_alloc ?_ _)); refine blk_put (cs := #[.int .i64 a1_0, .int .i64 a1_1, .int .i64 t197, .int .i64 a1_3, .slice none 0 0]) ?_ 4 _ rfl; (with_reducible repeat (first | refine blk_drewN ?_ _ | refine blk_drew ?_ | refine blk_alloc ?_ _)); refine blk_put (cs := #[.int .i64 a1_0, .int .i64 a1_1, .int .i64 t197, .int .i64 0, .slice none 0 0]) ?_ 3 _ rfl; (with_reducible repeat (first | refine blk_drewN ?_ _ | refine blk_drew ?_ | refine blk_alloc ?_ _)); refine blk_put (cs := #[.int .i64 a1_0, .int .i64 a1_1, .int .i64 0, .int .i64 0, .slice none 0 0]) ?_ 2 _ rfl; (with_reducible repeat (first | refine blk_drewN ?_ _ | refine blk_drew ?_ | refine blk_alloc ?_ _)); refine blk_put (cs := #[.int .i64 a1_0, .int .i64 0, .int .i64 0, .int .i64 0, .slice none 0 0]) ?_ 1 _ rfl; (with_reducible repeat (first | refine blk_drewN ?_ _ | refine blk_drew ?_ | refine blk_alloc ?_ _)); refine blk_put (cs := #[.int .i64 0, .int .i64 0, .int .i64 0, .int .i64 0, .slice none 0 0]) ?_ 0 _ rfl; (with_reducible repeat (first | refine blk_drewN ?_ _ | refine blk_drew ?_ | refine blk_alloc ?_ _)); refine blk_far ?_ NB187_186.out _; (with_reducible repeat (first | refine blk_drewN ?_ _ | refine blk_drew ?_ | refine blk_alloc ?_ _)); exact BK187.out) Try.underlying31 rfl (by kernel_rfl)) rfl ?_
    exact ⟨_, by first | rfl | (simp [errW_none, errW_some] <;> rfl) | (simp [*, errW_none, errW_some] <;> rfl), by (with_reducible repeat (first | apply Kd.R_alloc | apply Kd.R_drewN | apply Kd.R_drew)); exact Kd.R_mono (Kd.R_far (p := ⟨gb187, 4, none⟩) (Kd.R_far (p := ⟨gb187, 3, none⟩) (Kd.R_far (p := ⟨gb187, 2, none⟩) (Kd.R_far (p := ⟨gb187, 1, none⟩) (Kd.R_far (p := ⟨gb187, 0, none⟩) (Kd.R_far (p := ⟨gb186, 2, none⟩) (Kd.R_types (Kd.R_types HO1_4.out BK186.out (by decide)) BK187.out (by decide)) (fun _ hk => hk.1.2) (.int .i64 t197)) (fun _ hk => hk.2) (.int .i64 a1_0)) (fun _ hk => hk.2) (.int .i64 a1_1)) (fun _ hk => hk.2) (.int .i64 t197)) (fun _ hk => hk.2) (.int .i64 a1_3)) (fun _ hk => hk.2) (.slice Ao32 l1_4.length co32)) (fun _ hk => hk.1.1), by repeat (first | (with_reducible first | exact HI0.out | apply IsS123.alloc | apply IsS123.drewN | apply IsS123.drew | apply IsS123.set_1 | apply IsS123.set_2 | refine IsS123.far ?_ NB0_186.out _ | refine IsS123.far ?_ NB0_187.out _) | exact HI0.out), by repeat (first | (with_reducible first | exact HB.out | apply below_alloc | apply pw_below_drewN | apply below_drew1 | refine below_set ?_ (IsS123.ge HI0.out) | refine below_set ?_ GE186.out | refine below_set ?_ GE187.out) | exact HB.out), by repeat (first | (with_reducible first | exact HK.out | apply Kept.alloc | apply Kept.drewN | apply Kept.drew | refine Kept.setCell ?_ (.inl (.inr rfl)) _ | refine Kept.setCell ?_ (.inr GW186.out) _ | refine Kept.setCell ?_ (.inr GW187.out) _) | exact HK.out)⟩
  rw [if_neg c30] at H
  have c30b0 : (t188 == 2) = false := beq_eq_false_iff_ne.mpr c30
  have c30b1 : (t188 != 2) = true := bne_iff_ne.mpr c30
  by_cases c42 : t188 = 3
  rotate_left
  · rw [if_neg c42] at H
    have c42b0 : (t188 == 3) = false := beq_eq_false_iff_ne.mpr c42
    have c42b1 : (t188 != 3) = true := bne_iff_ne.mpr c42
    by_cases c84 : t188 = 4
    rotate_left
    · rw [if_neg c84] at H
      have c84b0 : (t188 == 4) = false := beq_eq_false_iff_ne.mpr c84
      have c84b1 : (t188 != 4) = true := bne_iff_ne.mpr c84
      simp only [Option.some.injEq, Prod.mk.injEq] at H
      obtain ⟨rfl, rfl, rfl, rfl, rfl, rfl, rfl⟩ := H
      obtain ⟨Ao98, co98, eo98⟩ := Kd.R_slice HO1_4.out
      subst eo98
      go_enter Try.func134, Try.ntmps134
      go_wp2_with (first | ((with_reducible refine gate_dst (N := 3) rfl ?_); refine box_event ?hg (N := 3) ?hd (cs := #[.int .i64 a1_0, .int .i64 a1_1, .int .i64 a1_2, .int .i64 a1_3, .slice Ao98 l1_4.length co98]) (t := 31) ?hr ?_; (case hd => rfl); (case hg => rfl); (case hr => first | (go_simp; done) | (go_simp; rfl)); intro gb186 hg w99 hbox hb; have n0_ := Aside0.mk (Kd.R_below (by (with_reducible repeat (first | apply Kd.R_alloc | apply Kd.R_drewN | apply Kd.R_drew)); exact HO1_4.out) hb); have n1_ := Aside0.mk (IsS123.below (by repeat (first | (with_reducible first | exact HI0.out | apply IsS123.alloc | apply IsS123.drewN | apply IsS123.drew | apply IsS123.set_1 | apply IsS123.set_2) | exact HI0.out)) hb); have n2_ := Aside0.mk (Kept.below (S := (fun k_ => (P1_4_ k_) ∨ k_ = g)) (by repeat (first | (with_reducible first | exact HK.out | apply Kept.alloc | apply Kept.drewN | apply Kept.drew | refine Kept.setCell ?_ (.inl (.inr rfl)) _) | exact HK.out)) hb); have n3_ := Aside0.mk (below_step (by repeat (first | (with_reducible first | exact HB.out | apply below_alloc | apply pw_below_drewN | apply below_drew1 | refine below_set ?_ (IsS123.ge HI0.out)) | exact HB.out)) hb); have n4_ := Aside0.mk (hbox); have n5_ := Aside0.mk ((by rw [hg]; exact (by first | exact HK.out.1 | exact (show Kept w _ (fun k_ => (P1_4_ k_) ∨ k_ = g) from by repeat (first | (with_reducible first | exact HK.out | apply Kept.alloc | apply Kept.drewN | apply Kept.drew | refine Kept.setCell ?_ (.inl (.inr rfl)) _) | exact HK.out)).1) : w.heap.size ≤ gb186)); have n6_ := Aside0.mk ((by rw [hg]; exact (below_size (by repeat (first | (with_reducible first | exact HB.out | apply below_alloc | apply pw_below_drewN | apply below_drew1 | refine below_set ?_ (IsS123.ge HI0.out)) | exact HB.out))) : w0.heap.size ≤ gb186)); have n7_ := Aside0.mk ((by rw [hg]; exact Nat.ne_of_lt (IsS123.lt (show IsS123 w0 _ g s0_0 s0_1 s0_2 from by repeat (first | (with_reducible first | exact HI0.out | apply IsS123.alloc | apply IsS123.drewN | apply IsS123.drew | apply IsS123.set_1 | apply IsS123.set_2) | exact HI0.out))) : g ≠ gb186)); have n8_ := Aside0.mk ((by rw [hg]; exact Nat.ne_of_gt (IsS123.lt (show IsS123 w0 _ g s0_0 s0_1 s0_2 from by repeat (first | (with_reducible first | exact HI0.out | apply IsS123.alloc | apply IsS123.drewN | apply IsS123.drew | apply IsS123.set_1 | apply IsS123.set_2) | exact HI0.out))) : gb186 ≠ g)); clear HO1_4; clear HI0; clear HK; clear HB; have HO1_4 := n0_; have HI0 := n1_; have HK := n2_; have HB := n3_; have BK186 := n4_; have GW186 := n5_; have GE186 := n6_; have NB0_186 := n7_; have NB186_0 := n8_; clear n0_ n1_ n2_ n3_ n4_ n5_ n6_ n7_ n8_; clear hb hbox hg) | ((with_reducible refine gate_dst (N := 4) rfl ?_); refine box_event ?hg (N := 4) ?hd (cs := #[.int .i64 0, .int .i64 0, .int .i64 0, .int .i64 0, .slice none 0 0]) (t := 31) ?hr ?_; (case hd => rfl); (case hg => rfl); (case hr => first | (go_simp; done) | (go_simp; rfl)); intro gb187 hg w100 hbox hb; have n0_ := Aside0.mk (Kd.R_below (by (with_reducible repeat (first | apply Kd.R_alloc | apply Kd.R_drewN | apply Kd.R_drew)); exact HO1_4.out) hb); have n1_ := Aside0.mk (IsS123.below (by repeat (first | (with_reducible first | exact HI0.out | apply IsS123.alloc | apply IsS123.drewN | apply IsS123.drew | apply IsS123.set_1 | apply IsS123.set_2 | refine IsS123.far ?_ NB0_186.out _) | exact HI0.out)) hb); have n2_ := Aside0.mk (blk_below (g := gb186) (o := .cells #[.int .i64 a1_0, .int .i64 a1_1, .int .i64 a1_2, .int .i64 a1_3, .slice Ao98 l1_4.length co98] 31 (0, 0)) (by (with_reducible repeat (first | refine blk_drewN ?_ _ | refine blk_drew ?_ | refine blk_alloc ?_ _)); exact BK186.out) hb); have n3_ := Aside0.mk (Kept.below (S := (fun k_ => (P1_4_ k_) ∨ k_ = g)) (by repeat (first | (with_reducible first | exact HK.out | apply Kept.alloc | apply Kept.drewN | apply Kept.drew | refine Kept.setCell ?_ (.inl (.inr rfl)) _ | refine Kept.setCell ?_ (.inr GW186.out) _) | exact HK.out)) hb); have n4_ := Aside0.mk (below_step (by repeat (first | (with_reducible first | exact HB.out | apply below_alloc | apply pw_below_drewN | apply below_drew1 | refine below_set ?_ (IsS123.ge HI0.out) | refine below_set ?_ GE186.out) | exact HB.out)) hb); have n5_ := Aside0.mk (hbox); have n6_ := Aside0.mk ((by rw [hg]; exact (by first | exact HK.out.1 | exact (show Kept w _ (fun k_ => (P1_4_ k_) ∨ k_ = g) from by repeat (first | (with_reducible first | exact HK.out | apply Kept.alloc | apply Kept.drewN | apply Kept.drew | refine Kept.setCell ?_ (.inl (.inr rfl)) _ | refine Kept.setCell ?_ (.inr GW186.out) _) | exact HK.out)).1) : w.heap.size ≤ gb187)); have n7_ := Aside0.mk ((by rw [hg]; exact (below_size (by repeat (first | (with_reducible first | exact HB.out | apply below_alloc | apply pw_below_drewN | apply below_drew1 | refine below_set ?_ (IsS123.ge HI0.out) | refine below_set ?_ GE186.out) | exact HB.out))) : w0.heap.size ≤ gb187)); have n8_ := Aside0.mk ((by rw [hg]; exact Nat.ne_of_lt (blk_lt (g := gb186) (o := .cells #[.int .i64 a1_0, .int .i64 a1_1, .int .i64 a1_2, .int .i64 a1_3, .slice Ao98 l1_4.length co98] 31 (0, 0)) (by (with_reducible repeat (first | refine blk_drewN ?_ _ | refine blk_drew ?_ | refine blk_alloc ?_ _)); exact BK186.out)) : gb186 ≠ gb187)); have n9_ := Aside0.mk ((by rw [hg]; exact Nat.ne_of_gt (blk_lt (g := gb186) (o := .cells #[.int .i64 a1_0, .int .i64 a1_1, .int .i64 a1_2, .int .i64 a1_3, .slice Ao98 l1_4.length co98] 31 (0, 0)) (by (with_reducible repeat (first | refine blk_drewN ?_ _ | refine blk_drew ?_ | refine blk_alloc ?_ _)); exact BK186.out)) : gb187 ≠ gb186)); have n10_ := Aside0.mk ((by rw [hg]; exact Nat.ne_of_lt (IsS123.lt (show IsS123 w0 _ g s0_0 s0_1 s0_2 from by repeat (first | (with_reducible first | exact HI0.out | apply IsS123.alloc | apply IsS123.drewN | apply IsS123.drew | apply IsS123.set_1 | apply IsS123.set_2 | refine IsS123.far ?_ NB0_186.out _) | exact HI0.out))) : g ≠ gb187)); have n11_ := Aside0.mk ((by rw [hg]; exact Nat.ne_of_gt (IsS123.lt (show IsS123 w0 _ g s0_0 s0_1 s0_2 from by repeat (first | (with_reducible first | exact HI0.out | apply IsS123.alloc | apply IsS123.drewN | apply IsS123.drew | apply IsS123.set_1 | apply IsS123.set_2 | refine IsS123.far ?_ NB0_186.out _) | exact HI0.out))) : gb187 ≠ g)); clear HO1_4; clear HI0; clear BK186; clear HK; clear HB; have HO1_4 := n0_; have HI0 := n1_; have BK186 := n2_; have HK := n3_; have HB := n4_; have BK187 := n5_; have GW187 := n6_; have GE187 := n7_; have NB186_187 := n8_; have NB187_186 := n9_; have NB0_187 := n10_; have NB187_0 := n11_; clear n0_ n1_ n2_ n3_ n4_ n5_ n6_ n7_ n8_ n9_ n10_ n11_; clear hb hbox hg) | ((with_reducible refine gate_callee (f := 105) rfl ?_); refine goesL_ (some 6) rfl rfl Try.func105 (by kernel_rfl) rfl #[.pointer (some ⟨g, 0, none⟩), .int .i64 9] rfl (by (try simp only [List.map_toArray, List.map_cons, List.map_nil]); first | done | rfl | (simp only [List.length_drop, List.length_take]; rfl)) ?_; (with_reducible refine (spec_l1Cur_pick.calls g s0_0 s0_1 s0_2 9 t188 t189 t190 w0 _ ?side1 ?side2 A3.out).mono ?_); (case side1 => repeat (first | (with_reducible first | exact HI0.out | apply IsS123.alloc | apply IsS123.drewN | apply IsS123.drew | apply IsS123.set_1 | apply IsS123.set_2 | refine IsS123.far ?_ NB0_186.out _ | refine IsS123.far ?_ NB0_187.out _) | exact HI0.out)); (case side2 => repeat (first | (with_reducible first | exact HB.out | apply below_alloc | apply pw_below_drewN | apply below_drew1 | refine below_set ?_ (IsS123.ge HI0.out) | refine below_set ?_ GE186.out | refine below_set ?_ GE187.out) | exact HB.out)); rintro e w101 ⟨rfl, hi, hb, hk⟩; refine ⟨_, rfl, ?_⟩; have n0_ := Aside0.mk (Kd.R_mono (Kd.R_keep (IsS123.apart (show IsS123 w0 _ g s0_0 s0_1 s0_2 from by repeat (first | (with_reducible first | exact HI0.out | apply IsS123.alloc | apply IsS123.drewN | apply IsS123.drew | apply IsS123.set_1 | apply IsS123.set_2 | refine IsS123.far ?_ NB0_186.out _ | refine IsS123.far ?_ NB0_187.out _) | exact HI0.out)) (by (with_reducible repeat (first | apply Kd.R_alloc | apply Kd.R_drewN | apply Kd.R_drew)); exact HO1_4.out) (by decide)) hk (fun _ h => h.2)) (fun _ h => h.1)); have n1_ := Aside0.mk (KeepBut.blk hk (g' := gb186) (o := .cells #[.int .i64 a1_0, .int .i64 a1_1, .int .i64 a1_2, .int .i64 a1_3, .slice Ao98 l1_4.length co98] 31 (0, 0)) (by (with_reducible repeat (first | refine blk_drewN ?_ _ | refine blk_drew ?_ | refine blk_alloc ?_ _)); exact BK186.out) NB186_0.out (by simp)); have n2_ := Aside0.mk (KeepBut.blk hk (g' := gb187) (o := .cells #[.int .i64 0, .int .i64 0, .int .i64 0, .int .i64 0, .slice none 0 0] 31 (0, 0)) (by (with_reducible repeat (first | refine blk_drewN ?_ _ | refine blk_drew ?_ | refine blk_alloc ?_ _)); exact BK187.out) NB187_0.out (by simp)); have n3_ := Aside0.mk (Kept.of_keep (S := (fun k_ => (P1_4_ k_) ∨ k_ = g)) (by repeat (first | (with_reducible first | exact HK.out | apply Kept.alloc | apply Kept.drewN | apply Kept.drew | refine Kept.setCell ?_ (.inl (.inr rfl)) _ | refine Kept.setCell ?_ (.inr GW186.out) _ | refine Kept.setCell ?_ (.inr GW187.out) _) | exact HK.out)) hk (.inl (.inr rfl))); have n4_ := Aside0.mk (hb); have n5_ := Aside0.mk (hi); clear HO1_4; clear BK186; clear BK187; clear HK; clear HB; clear HI0; have HO1_4 := n0_; have BK186 := n1_; have BK187 := n2_; have HK := n3_; have HB := n4_; have HI0 := n5_; clear n0_ n1_ n2_ n3_ n4_ n5_; (try clear hb); (try clear hb2); (try clear hk); (try clear hi); have hnb102 := NB186_187.out; have hnc102 := NB187_186.out; have hnb103 := NB186_0.out; have hnc103 := NB0_186.out; have hcz104_0 : w101.cell? ⟨gb186, 0, none⟩ = some (.int .i64 a1_0) := (blk_cell BK186.out 0).trans rfl; have hcz104_1 : w101.cell? ⟨gb186, 1, none⟩ = some (.int .i64 a1_1) := (blk_cell BK186.out 1).trans rfl; have hcz104_2 : w101.cell? ⟨gb186, 2, none⟩ = some (.int .i64 a1_2) := (blk_cell BK186.out 2).trans rfl; have hcz104_3 : w101.cell? ⟨gb186, 3, none⟩ = some (.int .i64 a1_3) := (blk_cell BK186.out 3).trans rfl; have hcz104_4 : w101.cell? ⟨gb186, 4, none⟩ = some (.slice Ao98 l1_4.length co98) := (blk_cell BK186.out 4).trans rfl; have hfz104_0 := blk_frozen BK186.out 0; have hfz104_1 := blk_frozen BK186.out 1; have hfz104_2 := blk_frozen BK186.out 2; have hfz104_3 := blk_frozen BK186.out 3; have hfz104_4 := blk_frozen BK186.out 4; have hnb105 := NB187_0.out; have hnc105 := NB0_187.out; have hcz106_0 : w101.cell? ⟨gb187, 0, none⟩ = some (.int .i64 0) := (blk_cell BK187.out 0).trans rfl; have hcz106_1 : w101.cell? ⟨gb187, 1, none⟩ = some (.int .i64 0) := (blk_cell BK187.out 1).trans rfl; have hcz106_2 : w101.cell? ⟨gb187, 2, none⟩ = some (.int .i64 0) := (blk_cell BK187.out 2).trans rfl; have hcz106_3 : w101.cell? ⟨gb187, 3, none⟩ = some (.int .i64 0) := (blk_cell BK187.out 3).trans rfl; have hcz106_4 : w101.cell? ⟨gb187, 4, none⟩ = some (.slice none 0 0) := (blk_cell BK187.out 4).trans rfl; have hfz106_0 := blk_frozen BK187.out 0; have hfz106_1 := blk_frozen BK187.out 1; have hfz106_2 := blk_frozen BK187.out 2; have hfz106_3 := blk_frozen BK187.out 3; have hfz106_4 := blk_frozen BK187.out 4))
      refine bodyPost_ret (results_cell_row rfl _ _ gb187 31 #[.int .i64 a1_0, .int .i64 a1_1, .int .i64 a1_2, .int .i64 a1_3, .slice Ao98 l1_4.length co98] (0, 0) _ rfl (by (with_reducible repeat (first | refine blk_drewN ?_ _ | refine blk_drew ?_ | refine blk_alloc ?_ _)); refine blk_put (cs := #[.int .i64 a1_0, .int .i64 a1_1, .int .i64 a1_2, .int .i64 a1_3, .slice none 0 0]) ?_ 4 _ rfl; (with_reducible repeat (first | refine blk_drewN ?_ _ | refine blk_drew ?_ | refine blk_alloc ?_ _)); refine blk_put (cs := #[.int .i64 a1_0, .int .i64 a1_1, .int .i64 a1_2, .int .i64 0, .slice none 0 0]) ?_ 3 _ rfl; (with_reducible repeat (first | refine blk_drewN ?_ _ | refine blk_drew ?_ | refine blk_alloc ?_ _)); refine blk_put (cs := #[.int .i64 a1_0, .int .i64 a1_1, .int .i64 0, .int .i64 0, .slice none 0 0]) ?_ 2 _ rfl; (with_reducible repeat (first | refine blk_drewN ?_ _ | refine blk_drew ?_ | refine blk_alloc ?_ _)); refine blk_put (cs := #[.int .i64 a1_0, .int .i64 0, .int .i64 0, .int .i64 0, .slice none 0 0]) ?_ 1 _ rfl; (with_reducible repeat (first | refine blk_drewN ?_ _ | refine blk_drew ?_ | refine blk_alloc ?_ _)); refine blk_put (cs := #[.int .i64 0, .int .i64 0, .int .i64 0, .int .i64 0, .slice none 0 0]) ?_ 0 _ rfl; (with_reducible repeat (first | refine blk_drewN ?_ _ | refine blk_drew ?_ | refine blk_alloc ?_ _)); exact BK187.out) Try.underlying31 rfl (by kernel_rfl)) rfl ?_
      exact ⟨_, by first | rfl | (simp [errW_none, errW_some] <;> rfl) | (simp [*, errW_none, errW_some] <;> rfl), by (with_reducible repeat (first | apply Kd.R_alloc | apply Kd.R_drewN | apply Kd.R_drew)); exact Kd.R_mono (Kd.R_far (p := ⟨gb187, 4, none⟩) (Kd.R_far (p := ⟨gb187, 3, none⟩) (Kd.R_far (p := ⟨gb187, 2, none⟩) (Kd.R_far (p := ⟨gb187, 1, none⟩) (Kd.R_far (p := ⟨gb187, 0, none⟩) (Kd.R_types HO1_4.out BK187.out (by decide)) (fun _ hk => hk.2) (.int .i64 a1_0)) (fun _ hk => hk.2) (.int .i64 a1_1)) (fun _ hk => hk.2) (.int .i64 a1_2)) (fun _ hk => hk.2) (.int .i64 a1_3)) (fun _ hk => hk.2) (.slice Ao98 l1_4.length co98)) (fun _ hk => hk.1), by repeat (first | (with_reducible first | exact HI0.out | apply IsS123.alloc | apply IsS123.drewN | apply IsS123.drew | apply IsS123.set_1 | apply IsS123.set_2 | refine IsS123.far ?_ NB0_186.out _ | refine IsS123.far ?_ NB0_187.out _) | exact HI0.out), by repeat (first | (with_reducible first | exact HB.out | apply below_alloc | apply pw_below_drewN | apply below_drew1 | refine below_set ?_ (IsS123.ge HI0.out) | refine below_set ?_ GE186.out | refine below_set ?_ GE187.out) | exact HB.out), by repeat (first | (with_reducible first | exact HK.out | apply Kept.alloc | apply Kept.drewN | apply Kept.drew | refine Kept.setCell ?_ (.inl (.inr rfl)) _ | refine Kept.setCell ?_ (.inr GW186.out) _ | refine Kept.setCell ?_ (.inr GW187.out) _) | exact HK.out)⟩
    rw [if_pos c84] at H
    have c84b0 : (t188 == 4) = true := beq_iff_eq.mpr c84
    have c84b1 : (t188 != 4) = false := bne_eq_false_iff_eq.mpr c84
    clear c84
    by_cases c85 : l1_4.length < 17592186044416
    rotate_left
    · rw [if_neg c85] at H
      exact absurd H (by simp)
    rw [if_pos c85] at H
    have LMc85 := Aside0.mk c85
    clear c85
    obtain ⟨y211, hy211⟩ : ∃ y_ : List Int, y_ = (l1_4 ++ [0]) := ⟨_, rfl⟩
    replace H : (some (a1_0, a1_1, a1_2, a1_3, y211, t189, t190)) = some (r1, r2, r3, r4, r5, r6, r7) := by first | (rw [hy211]; with_reducible exact H) | (have H2_ := (Option.bind_some _ _).symm.trans H; rw [hy211]; with_reducible exact H2_) | (have H2_ := (Option.bind_some _ _).symm.trans H; with_reducible exact H2_) | with_reducible exact H | (rw [hy211]; exact H) | exact H
    have Ny211 := Aside0.mk hy211
    clear hy211
    simp only [Option.some.injEq, Prod.mk.injEq] at H
    obtain ⟨rfl, rfl, rfl, rfl, rfl, rfl, rfl⟩ := H
    obtain ⟨Ao86, co86, eo86⟩ := Kd.R_slice HO1_4.out
    subst eo86
    go_enter Try.func134, Try.ntmps134
    go_wp2_with (first | ((with_reducible refine gate_dst (N := 3) rfl ?_); refine box_event ?hg (N := 3) ?hd (cs := #[.int .i64 a1_0, .int .i64 a1_1, .int .i64 a1_2, .int .i64 a1_3, .slice Ao86 l1_4.length co86]) (t := 31) ?hr ?_; (case hd => rfl); (case hg => rfl); (case hr => first | (go_simp; done) | (go_simp; rfl)); intro gb186 hg w87 hbox hb; have n0_ := Aside0.mk (Kd.R_below (by (with_reducible repeat (first | apply Kd.R_alloc | apply Kd.R_drewN | apply Kd.R_drew)); exact HO1_4.out) hb); have n1_ := Aside0.mk (IsS123.below (by repeat (first | (with_reducible first | exact HI0.out | apply IsS123.alloc | apply IsS123.drewN | apply IsS123.drew | apply IsS123.set_1 | apply IsS123.set_2) | exact HI0.out)) hb); have n2_ := Aside0.mk (Kept.below (S := (fun k_ => (P1_4_ k_) ∨ k_ = g)) (by repeat (first | (with_reducible first | exact HK.out | apply Kept.alloc | apply Kept.drewN | apply Kept.drew | refine Kept.setCell ?_ (.inl (.inr rfl)) _) | exact HK.out)) hb); have n3_ := Aside0.mk (below_step (by repeat (first | (with_reducible first | exact HB.out | apply below_alloc | apply pw_below_drewN | apply below_drew1 | refine below_set ?_ (IsS123.ge HI0.out)) | exact HB.out)) hb); have n4_ := Aside0.mk (hbox); have n5_ := Aside0.mk ((by rw [hg]; exact (by first | exact HK.out.1 | exact (show Kept w _ (fun k_ => (P1_4_ k_) ∨ k_ = g) from by repeat (first | (with_reducible first | exact HK.out | apply Kept.alloc | apply Kept.drewN | apply Kept.drew | refine Kept.setCell ?_ (.inl (.inr rfl)) _) | exact HK.out)).1) : w.heap.size ≤ gb186)); have n6_ := Aside0.mk ((by rw [hg]; exact (below_size (by repeat (first | (with_reducible first | exact HB.out | apply below_alloc | apply pw_below_drewN | apply below_drew1 | refine below_set ?_ (IsS123.ge HI0.out)) | exact HB.out))) : w0.heap.size ≤ gb186)); have n7_ := Aside0.mk ((by rw [hg]; exact Nat.ne_of_lt (IsS123.lt (show IsS123 w0 _ g s0_0 s0_1 s0_2 from by repeat (first | (with_reducible first | exact HI0.out | apply IsS123.alloc | apply IsS123.drewN | apply IsS123.drew | apply IsS123.set_1 | apply IsS123.set_2) | exact HI0.out))) : g ≠ gb186)); have n8_ := Aside0.mk ((by rw [hg]; exact Nat.ne_of_gt (IsS123.lt (show IsS123 w0 _ g s0_0 s0_1 s0_2 from by repeat (first | (with_reducible first | exact HI0.out | apply IsS123.alloc | apply IsS123.drewN | apply IsS123.drew | apply IsS123.set_1 | apply IsS123.set_2) | exact HI0.out))) : gb186 ≠ g)); clear HO1_4; clear HI0; clear HK; clear HB; have HO1_4 := n0_; have HI0 := n1_; have HK := n2_; have HB := n3_; have BK186 := n4_; have GW186 := n5_; have GE186 := n6_; have NB0_186 := n7_; have NB186_0 := n8_; clear n0_ n1_ n2_ n3_ n4_ n5_ n6_ n7_ n8_; clear hb hbox hg) | ((with_reducible refine gate_dst (N := 4) rfl ?_); refine box_event ?hg (N := 4) ?hd (cs := #[.int .i64 0, .int .i64 0, .int .i64 0, .int .i64 0, .slice none 0 0]) (t := 31) ?hr ?_; (case hd => rfl); (case hg => rfl); (case hr => first | (go_simp; done) | (go_simp; rfl)); intro gb187 hg w88 hbox hb; have n0_ := Aside0.mk (Kd.R_below (by (with_reducible repeat (first | apply Kd.R_alloc | apply Kd.R_drewN | apply Kd.R_drew)); exact HO1_4.out) hb); have n1_ := Aside0.mk (IsS123.below (by repeat (first | (with_reducible first | exact HI0.out | apply IsS123.alloc | apply IsS123.drewN | apply IsS123.drew | apply IsS123.set_1 | apply IsS123.set_2 | refine IsS123.far ?_ NB0_186.out _) | exact HI0.out)) hb); have n2_ := Aside0.mk (blk_below (g := gb186) (o := .cells #[.int .i64 a1_0, .int .i64 a1_1, .int .i64 a1_2, .int .i64 a1_3, .slice Ao86 l1_4.length co86] 31 (0, 0)) (by (with_reducible repeat (first | refine blk_drewN ?_ _ | refine blk_drew ?_ | refine blk_alloc ?_ _)); exact BK186.out) hb); have n3_ := Aside0.mk (Kept.below (S := (fun k_ => (P1_4_ k_) ∨ k_ = g)) (by repeat (first | (with_reducible first | exact HK.out | apply Kept.alloc | apply Kept.drewN | apply Kept.drew | refine Kept.setCell ?_ (.inl (.inr rfl)) _ | refine Kept.setCell ?_ (.inr GW186.out) _) | exact HK.out)) hb); have n4_ := Aside0.mk (below_step (by repeat (first | (with_reducible first | exact HB.out | apply below_alloc | apply pw_below_drewN | apply below_drew1 | refine below_set ?_ (IsS123.ge HI0.out) | refine below_set ?_ GE186.out) | exact HB.out)) hb); have n5_ := Aside0.mk (hbox); have n6_ := Aside0.mk ((by rw [hg]; exact (by first | exact HK.out.1 | exact (show Kept w _ (fun k_ => (P1_4_ k_) ∨ k_ = g) from by repeat (first | (with_reducible first | exact HK.out | apply Kept.alloc | apply Kept.drewN | apply Kept.drew | refine Kept.setCell ?_ (.inl (.inr rfl)) _ | refine Kept.setCell ?_ (.inr GW186.out) _) | exact HK.out)).1) : w.heap.size ≤ gb187)); have n7_ := Aside0.mk ((by rw [hg]; exact (below_size (by repeat (first | (with_reducible first | exact HB.out | apply below_alloc | apply pw_below_drewN | apply below_drew1 | refine below_set ?_ (IsS123.ge HI0.out) | refine below_set ?_ GE186.out) | exact HB.out))) : w0.heap.size ≤ gb187)); have n8_ := Aside0.mk ((by rw [hg]; exact Nat.ne_of_lt (blk_lt (g := gb186) (o := .cells #[.int .i64 a1_0, .int .i64 a1_1, .int .i64 a1_2, .int .i64 a1_3, .slice Ao86 l1_4.length co86] 31 (0, 0)) (by (with_reducible repeat (first | refine blk_drewN ?_ _ | refine blk_drew ?_ | refine blk_alloc ?_ _)); exact BK186.out)) : gb186 ≠ gb187)); have n9_ := Aside0.mk ((by rw [hg]; exact Nat.ne_of_gt (blk_lt (g := gb186) (o := .cells #[.int .i64 a1_0, .int .i64 a1_1, .int .i64 a1_2, .int .i64 a1_3, .slice Ao86 l1_4.length co86] 31 (0, 0)) (by (with_reducible repeat (first | refine blk_drewN ?_ _ | refine blk_drew ?_ | refine blk_alloc ?_ _)); exact BK186.out)) : gb187 ≠ gb186)); have n10_ := Aside0.mk ((by rw [hg]; exact Nat.ne_of_lt (IsS123.lt (show IsS123 w0 _ g s0_0 s0_1 s0_2 from by repeat (first | (with_reducible first | exact HI0.out | apply IsS123.alloc | apply IsS123.drewN | apply IsS123.drew | apply IsS123.set_1 | apply IsS123.set_2 | refine IsS123.far ?_ NB0_186.out _) | exact HI0.out))) : g ≠ gb187)); have n11_ := Aside0.mk ((by rw [hg]; exact Nat.ne_of_gt (IsS123.lt (show IsS123 w0 _ g s0_0 s0_1 s0_2 from by repeat (first | (with_reducible first | exact HI0.out | apply IsS123.alloc | apply IsS123.drewN | apply IsS123.drew | apply IsS123.set_1 | apply IsS123.set_2 | refine IsS123.far ?_ NB0_186.out _) | exact HI0.out))) : gb187 ≠ g)); clear HO1_4; clear HI0; clear BK186; clear HK; clear HB; have HO1_4 := n0_; have HI0 := n1_; have BK186 := n2_; have HK := n3_; have HB := n4_; have BK187 := n5_; have GW187 := n6_; have GE187 := n7_; have NB186_187 := n8_; have NB187_186 := n9_; have NB0_187 := n10_; have NB187_0 := n11_; clear n0_ n1_ n2_ n3_ n4_ n5_ n6_ n7_ n8_ n9_ n10_ n11_; clear hb hbox hg) | ((with_reducible refine gate_callee (f := 105) rfl ?_); refine goesL_ (some 6) rfl rfl Try.func105 (by kernel_rfl) rfl #[.pointer (some ⟨g, 0, none⟩), .int .i64 9] rfl (by (try simp only [List.map_toArray, List.map_cons, List.map_nil]); first | done | rfl | (simp only [List.length_drop, List.length_take]; rfl)) ?_; (with_reducible refine (spec_l1Cur_pick.calls g s0_0 s0_1 s0_2 9 t188 t189 t190 w0 _ ?side1 ?side2 A3.out).mono ?_); (case side1 => repeat (first | (with_reducible first | exact HI0.out | apply IsS123.alloc | apply IsS123.drewN | apply IsS123.drew | apply IsS123.set_1 | apply IsS123.set_2 | refine IsS123.far ?_ NB0_186.out _ | refine IsS123.far ?_ NB0_187.out _) | exact HI0.out)); (case side2 => repeat (first | (with_reducible first | exact HB.out | apply below_alloc | apply pw_below_drewN | apply below_drew1 | refine below_set ?_ (IsS123.ge HI0.out) | refine below_set ?_ GE186.out | refine below_set ?_ GE187.out) | exact HB.out)); rintro e w89 ⟨rfl, hi, hb, hk⟩; refine ⟨_, rfl, ?_⟩; have n0_ := Aside0.mk (Kd.R_mono (Kd.R_keep (IsS123.apart (show IsS123 w0 _ g s0_0 s0_1 s0_2 from by repeat (first | (with_reducible first | exact HI0.out | apply IsS123.alloc | apply IsS123.drewN | apply IsS123.drew | apply IsS123.set_1 | apply IsS123.set_2 | refine IsS123.far ?_ NB0_186.out _ | refine IsS123.far ?_ NB0_187.out _) | exact HI0.out)) (by (with_reducible repeat (first | apply Kd.R_alloc | apply Kd.R_drewN | apply Kd.R_drew)); exact HO1_4.out) (by decide)) hk (fun _ h => h.2)) (fun _ h => h.1)); have n1_ := Aside0.mk (KeepBut.blk hk (g' := gb186) (o := .cells #[.int .i64 a1_0, .int .i64 a1_1, .int .i64 a1_2, .int .i64 a1_3, .slice Ao86 l1_4.length co86] 31 (0, 0)) (by (with_reducible repeat (first | refine blk_drewN ?_ _ | refine blk_drew ?_ | refine blk_alloc ?_ _)); exact BK186.out) NB186_0.out (by simp)); have n2_ := Aside0.mk (KeepBut.blk hk (g' := gb187) (o := .cells #[.int .i64 0, .int .i64 0, .int .i64 0, .int .i64 0, .slice none 0 0] 31 (0, 0)) (by (with_reducible repeat (first | refine blk_drewN ?_ _ | refine blk_drew ?_ | refine blk_alloc ?_ _)); exact BK187.out) NB187_0.out (by simp)); have n3_ := Aside0.mk (Kept.of_keep (S := (fun k_ => (P1_4_ k_) ∨ k_ = g)) (by repeat (first | (with_reducible first | exact HK.out | apply Kept.alloc | apply Kept.drewN | apply Kept.drew | refine Kept.setCell ?_ (.inl (.inr rfl)) _ | refine Kept.setCell ?_ (.inr GW186.out) _ | refine Kept.setCell ?_ (.inr GW187.out) _) | exact HK.out)) hk (.inl (.inr rfl))); have n4_ := Aside0.mk (hb); have n5_ := Aside0.mk (hi); clear HO1_4; clear BK186; clear BK187; clear HK; clear HB; clear HI0; have HO1_4 := n0_; have BK186 := n1_; have BK187 := n2_; have HK := n3_; have HB := n4_; have HI0 := n5_; clear n0_ n1_ n2_ n3_ n4_ n5_; (try clear hb); (try clear hb2); (try clear hk); (try clear hi); have hnb90 := NB186_187.out; have hnc90 := NB187_186.out; have hnb91 := NB186_0.out; have hnc91 := NB0_186.out; have hcz92_0 : w89.cell? ⟨gb186, 0, none⟩ = some (.int .i64 a1_0) := (blk_cell BK186.out 0).trans rfl; have hcz92_1 : w89.cell? ⟨gb186, 1, none⟩ = some (.int .i64 a1_1) := (blk_cell BK186.out 1).trans rfl; have hcz92_2 : w89.cell? ⟨gb186, 2, none⟩ = some (.int .i64 a1_2) := (blk_cell BK186.out 2).trans rfl; have hcz92_3 : w89.cell? ⟨gb186, 3, none⟩ = some (.int .i64 a1_3) := (blk_cell BK186.out 3).trans rfl; have hcz92_4 : w89.cell? ⟨gb186, 4, none⟩ = some (.slice Ao86 l1_4.length co86) := (blk_cell BK186.out 4).trans rfl; have hfz92_0 := blk_frozen BK186.out 0; have hfz92_1 := blk_frozen BK186.out 1; have hfz92_2 := blk_frozen BK186.out 2; have hfz92_3 := blk_frozen BK186.out 3; have hfz92_4 := blk_frozen BK186.out 4) | ((with_reducible refine gate_builtin (b := .append) (xs := #[.tmp 59, .tmp 60]) rfl ?_); at_builtin; refine Kd.R_append (Kd.int .i64) (w0 := w0) w0.heap.size rfl (.tmp 59) (.tmp 60) 22 3 (.int .i64 0) 8 rfl Try.underlying22 info3 rfl (by decide) (by omega) (.slice Ao86 l1_4.length co86) l1_4 0 [.int .i64 0] (fun k_ => (P1_4_ k_ ∨ w.heap.size ≤ k_)) (fun _ => False) rfl rfl ?aP (fun _ hk => hk.elim) ?aF ?aO ?aB ?aS ?aL ?_; (case aP => exact rfl); (case aB => exact (by repeat (first | (with_reducible first | exact HB.out | apply below_alloc | apply pw_below_drewN | apply below_drew1 | refine below_set ?_ (IsS123.ge HI0.out) | refine below_set ?_ GE186.out | refine below_set ?_ GE187.out) | exact HB.out))); (case aF => exact (fun k_ hk => (.inr (Nat.le_trans (by first | exact HK.out.1 | exact (show Kept w _ (fun k_ => (P1_4_ k_) ∨ k_ = g) from by repeat (first | (with_reducible first | exact HK.out | apply Kept.alloc | apply Kept.drewN | apply Kept.drew | refine Kept.setCell ?_ (.inl (.inr rfl)) _ | refine Kept.setCell ?_ (.inr GW186.out) _ | refine Kept.setCell ?_ (.inr GW187.out) _) | exact HK.out)).1) hk)))); (case aO => exact (by (with_reducible repeat (first | apply Kd.R_alloc | apply Kd.R_drewN | apply Kd.R_drew)); exact HO1_4.out)); (case aS => exact (below_size (by repeat (first | (with_reducible first | exact HB.out | apply below_alloc | apply pw_below_drewN | apply below_drew1 | refine below_set ?_ (IsS123.ge HI0.out) | refine below_set ?_ GE186.out | refine below_set ?_ GE187.out) | exact HB.out)))); (case aL => have := LMc85.out; omega); intro v212 w93 ho hb hg hat; rw [← Ny211.out] at ho; have n0_ := Aside0.mk (IsS123.grown (by repeat (first | (with_reducible first | exact HI0.out | apply IsS123.alloc | apply IsS123.drewN | apply IsS123.drew | apply IsS123.set_1 | apply IsS123.set_2 | refine IsS123.far ?_ NB0_186.out _ | refine IsS123.far ?_ NB0_187.out _) | exact HI0.out)) hg (IsS123.own_ne HI0.out HO1_4.out (by decide))); have n1_ := Aside0.mk (blk_grown (g := gb186) (o := .cells #[.int .i64 a1_0, .int .i64 a1_1, .int .i64 a1_2, .int .i64 a1_3, .slice Ao86 l1_4.length co86] 31 (0, 0)) (by (with_reducible repeat (first | refine blk_drewN ?_ _ | refine blk_drew ?_ | refine blk_alloc ?_ _)); exact BK186.out) hg (Kd.R_ne HO1_4.out BK186.out (by decide))); have n2_ := Aside0.mk (blk_grown (g := gb187) (o := .cells #[.int .i64 0, .int .i64 0, .int .i64 0, .int .i64 0, .slice none 0 0] 31 (0, 0)) (by (with_reducible repeat (first | refine blk_drewN ?_ _ | refine blk_drew ?_ | refine blk_alloc ?_ _)); exact BK187.out) hg (Kd.R_ne HO1_4.out BK187.out (by decide))); have n3_ := Aside0.mk (hb); have n4_ := Aside0.mk (Kept.of_grown (S := (fun k_ => (P1_4_ k_) ∨ k_ = g)) hg (by repeat (first | (with_reducible first | exact HK.out | apply Kept.alloc | apply Kept.drewN | apply Kept.drew | refine Kept.setCell ?_ (.inl (.inr rfl)) _ | refine Kept.setCell ?_ (.inr GW186.out) _ | refine Kept.setCell ?_ (.inr GW187.out) _) | exact HK.out)) (fun k_ e_ => Or.imp_left Or.inl ((HO1_4.out.1 k_ e_)))); have n5_ := Aside0.mk (ho); clear HI0; clear BK186; clear BK187; clear HB; clear HK; clear HO1_4; have HI0 := n0_; have BK186 := n1_; have BK187 := n2_; have HB := n3_; have HK := n4_; have HO213 := n5_; clear n0_ n1_ n2_ n3_ n4_ n5_; clear ho hb hg hat; obtain ⟨Ao94, co94, eo94⟩ := Kd.R_slice HO213.out; subst eo94; have hcz95_0 : w93.cell? ⟨gb186, 0, none⟩ = some (.int .i64 a1_0) := (blk_cell BK186.out 0).trans rfl; have hcz95_1 : w93.cell? ⟨gb186, 1, none⟩ = some (.int .i64 a1_1) := (blk_cell BK186.out 1).trans rfl; have hcz95_2 : w93.cell? ⟨gb186, 2, none⟩ = some (.int .i64 a1_2) := (blk_cell BK186.out 2).trans rfl; have hcz95_3 : w93.cell? ⟨gb186, 3, none⟩ = some (.int .i64 a1_3) := (blk_cell BK186.out 3).trans rfl; have hcz95_4 : w93.cell? ⟨gb186, 4, none⟩ = some (.slice Ao86 l1_4.length co86) := (blk_cell BK186.out 4).trans rfl; have hfz95_0 := blk_frozen BK186.out 0; have hfz95_1 := blk_frozen BK186.out 1; have hfz95_2 := blk_frozen BK186.out 2; have hfz95_3 := blk_frozen BK186.out 3; have hfz95_4 := blk_frozen BK186.out 4; have hnb96 := NB187_0.out; have hnc96 := NB0_187.out; have hcz97_0 : w93.cell? ⟨gb187, 0, none⟩ = some (.int .i64 0) := (blk_cell BK187.out 0).trans rfl; have hcz97_1 : w93.cell? ⟨gb187, 1, none⟩ = some (.int .i64 0) := (blk_cell BK187.out 1).trans rfl; have hcz97_2 : w93.cell? ⟨gb187, 2, none⟩ = some (.int .i64 0) := (blk_cell BK187.out 2).trans rfl; have hcz97_3 : w93.cell? ⟨gb187, 3, none⟩ = some (.int .i64 0) := (blk_cell BK187.out 3).trans rfl; have hcz97_4 : w93.cell? ⟨gb187, 4, none⟩ = some (.slice none 0 0) := (blk_cell BK187.out 4).trans rfl; have hfz97_0 := blk_frozen BK187.out 0; have hfz97_1 := blk_frozen BK187.out 1; have hfz97_2 := blk_frozen BK187.out 2; have hfz97_3 := blk_frozen BK187.out 3; have hfz97_4 := blk_frozen BK187.out 4))
    refine bodyPost_ret (results_cell_row rfl _ _ gb187 31 #[.int .i64 a1_0, .int .i64 a1_1, .int .i64 a1_2, .int .i64 a1_3, .slice Ao94 y211.length co94] (0, 0) _ rfl (by (with_reducible repeat (first | refine blk_drewN ?_ _ | refine blk_drew ?_ | refine blk_alloc ?_ _)); refine blk_put (cs := #[.int .i64 a1_0, .int .i64 a1_1, .int .i64 a1_2, .int .i64 a1_3, .slice none 0 0]) ?_ 4 _ rfl; (with_reducible repeat (first | refine blk_drewN ?_ _ | refine blk_drew ?_ | refine blk_alloc ?_ _)); refine blk_put (cs := #[.int .i64 a1_0, .int .i64 a1_1, .int .i64 a1_2, .int .i64 0, .slice none 0 0]) ?_ 3 _ rfl; (with_reducible repeat (first | refine blk_drewN ?_ _ | refine blk_drew ?_ | refine blk_alloc ?_ _)); refine blk_put (cs := #[.int .i64 a1_0, .int .i64 a1_1, .int .i64 0, .int .i64 0, .slice none 0 0]) ?_ 2 _ rfl; (with_reducible repeat (first | refine blk_drewN ?_ _ | refine blk_drew ?_ | refine blk_alloc ?_ _)); refine blk_put (cs := #[.int .i64 a1_0, .int .i64 0, .int .i64 0, .int .i64 0, .slice none 0 0]) ?_ 1 _ rfl; (with_reducible repeat (first | refine blk_drewN ?_ _ | refine blk_drew ?_ | refine blk_alloc ?_ _)); refine blk_put (cs := #[.int .i64 0, .int .i64 0, .int .i64 0, .int .i64 0, .slice none 0 0]) ?_ 0 _ rfl; (with_reducible repeat (first | refine blk_drewN ?_ _ | refine blk_drew ?_ | refine blk_alloc ?_ _)); refine blk_far ?_ NB187_186.out _; (with_reducible repeat (first | refine blk_drewN ?_ _ | refine blk_drew ?_ | refine blk_alloc ?_ _)); exact BK187.out) Try.underlying31 rfl (by kernel_rfl)) rfl ?_
    exact ⟨_, by first | rfl | (simp [errW_none, errW_some] <;> rfl) | (simp [*, errW_none, errW_some] <;> rfl), by (with_reducible repeat (first | apply Kd.R_alloc | apply Kd.R_drewN | apply Kd.R_drew)); exact Kd.R_mono (Kd.R_far (p := ⟨gb187, 4, none⟩) (Kd.R_far (p := ⟨gb187, 3, none⟩) (Kd.R_far (p := ⟨gb187, 2, none⟩) (Kd.R_far (p := ⟨gb187, 1, none⟩) (Kd.R_far (p := ⟨gb187, 0, none⟩) (Kd.R_far (p := ⟨gb186, 4, none⟩) (Kd.R_types (Kd.R_types HO213.out BK186.out (by decide)) BK187.out (by decide)) (fun _ hk => hk.1.2) (.slice Ao94 y211.length co94)) (fun _ hk => hk.2) (.int .i64 a1_0)) (fun _ hk => hk.2) (.int .i64 a1_1)) (fun _ hk => hk.2) (.int .i64 a1_2)) (fun _ hk => hk.2) (.int .i64 a1_3)) (fun _ hk => hk.2) (.slice Ao94 y211.length co94)) (fun _ hk => hk.1.1), by repeat (first | (with_reducible first | exact HI0.out | apply IsS123.alloc | apply IsS123.drewN | apply IsS123.drew | apply IsS123.set_1 | apply IsS123.set_2 | refine IsS123.far ?_ NB0_186.out _ | refine IsS123.far ?_ NB0_187.out _) | exact HI0.out), by repeat (first | (with_reducible first | exact HB.out | apply below_alloc | apply pw_below_drewN | apply below_drew1 | refine below_set ?_ (IsS123.ge HI0.out) | refine below_set ?_ GE186.out | refine below_set ?_ GE187.out) | exact HB.out), by repeat (first | (with_reducible first | exact HK.out | apply Kept.alloc | apply Kept.drewN | apply Kept.drew | refine Kept.setCell ?_ (.inl (.inr rfl)) _ | refine Kept.setCell ?_ (.inr GW186.out) _ | refine Kept.setCell ?_ (.inr GW187.out) _) | exact HK.out)⟩
  rw [if_pos c42] at H
  have c42b0 : (t188 == 3) = true := beq_iff_eq.mpr c42
  have c42b1 : (t188 != 3) = false := bne_eq_false_iff_eq.mpr c42
  clear c42
  by_cases c43 : (l1_4.length : Int) > 0
  rotate_left
  · rw [if_neg c43] at H
    have c43b0 : decide (0 < (l1_4.length : Int)) = false := decide_eq_false c43
    have c43b1 : decide (0 < l1_4.length) = false := decide_eq_false (by omega)
    have c43b2 : ¬ (0 < l1_4.length) := by omega
    clear c43
    simp only [Option.some.injEq, Prod.mk.injEq] at H
    obtain ⟨rfl, rfl, rfl, rfl, rfl, rfl, rfl⟩ := H
    obtain ⟨Ao75, co75, eo75⟩ := Kd.R_slice HO1_4.out
    subst eo75
    go_enter Try.func134, Try.ntmps134
    go_wp2_with (first | ((with_reducible refine gate_dst (N := 3) rfl ?_); refine box_event ?hg (N := 3) ?hd (cs := #[.int .i64 a1_0, .int .i64 a1_1, .int .i64 a1_2, .int .i64 a1_3, .slice Ao75 l1_4.length co75]) (t := 31) ?hr ?_; (case hd => rfl); (case hg => rfl); (case hr => first | (go_simp; done) | (go_simp; rfl)); intro gb186 hg w76 hbox hb; have n0_ := Aside0.mk (Kd.R_below (by (with_reducible repeat (first | apply Kd.R_alloc | apply Kd.R_drewN | apply Kd.R_drew)); exact HO1_4.out) hb); have n1_ := Aside0.mk (IsS123.below (by repeat (first | (with_reducible first | exact HI0.out | apply IsS123.alloc | apply IsS123.drewN | apply IsS123.drew | apply IsS123.set_1 | apply IsS123.set_2) | exact HI0.out)) hb); have n2_ := Aside0.mk (Kept.below (S := (fun k_ => (P1_4_ k_) ∨ k_ = g)) (by repeat (first | (with_reducible first | exact HK.out | apply Kept.alloc | apply Kept.drewN | apply Kept.drew | refine Kept.setCell ?_ (.inl (.inr rfl)) _) | exact HK.out)) hb); have n3_ := Aside0.mk (below_step (by repeat (first | (with_reducible first | exact HB.out | apply below_alloc | apply pw_below_drewN | apply below_drew1 | refine below_set ?_ (IsS123.ge HI0.out)) | exact HB.out)) hb); have n4_ := Aside0.mk (hbox); have n5_ := Aside0.mk ((by rw [hg]; exact (by first | exact HK.out.1 | exact (show Kept w _ (fun k_ => (P1_4_ k_) ∨ k_ = g) from by repeat (first | (with_reducible first | exact HK.out | apply Kept.alloc | apply Kept.drewN | apply Kept.drew | refine Kept.setCell ?_ (.inl (.inr rfl)) _) | exact HK.out)).1) : w.heap.size ≤ gb186)); have n6_ := Aside0.mk ((by rw [hg]; exact (below_size (by repeat (first | (with_reducible first | exact HB.out | apply below_alloc | apply pw_below_drewN | apply below_drew1 | refine below_set ?_ (IsS123.ge HI0.out)) | exact HB.out))) : w0.heap.size ≤ gb186)); have n7_ := Aside0.mk ((by rw [hg]; exact Nat.ne_of_lt (IsS123.lt (show IsS123 w0 _ g s0_0 s0_1 s0_2 from by repeat (first | (with_reducible first | exact HI0.out | apply IsS123.alloc | apply IsS123.drewN | apply IsS123.drew | apply IsS123.set_1 | apply IsS123.set_2) | exact HI0.out))) : g ≠ gb186)); have n8_ := Aside0.mk ((by rw [hg]; exact Nat.ne_of_gt (IsS123.lt (show IsS123 w0 _ g s0_0 s0_1 s0_2 from by repeat (first | (with_reducible first | exact HI0.out | apply IsS123.alloc | apply IsS123.drewN | apply IsS123.drew | apply IsS123.set_1 | apply IsS123.set_2) | exact HI0.out))) : gb186 ≠ g)); clear HO1_4; clear HI0; clear HK; clear HB; have HO1_4 := n0_; have HI0 := n1_; have HK := n2_; have HB := n3_; have BK186 := n4_; have GW186 := n5_; have GE186 := n6_; have NB0_186 := n7_; have NB186_0 := n8_; clear n0_ n1_ n2_ n3_ n4_ n5_ n6_ n7_ n8_; clear hb hbox hg) | ((with_reducible refine gate_dst (N := 4) rfl ?_); refine box_event ?hg (N := 4) ?hd (cs := #[.int .i64 0, .int .i64 0, .int .i64 0, .int .i64 0, .slice none 0 0]) (t := 31) ?hr ?_; (case hd => rfl); (case hg => rfl); (case hr => first | (go_simp; done) | (go_simp; rfl)); intro gb187 hg w77 hbox hb; have n0_ := Aside0.mk (Kd.R_below (by (with_reducible repeat (first | apply Kd.R_alloc | apply Kd.R_drewN | apply Kd.R_drew)); exact HO1_4.out) hb); have n1_ := Aside0.mk (IsS123.below (by repeat (first | (with_reducible first | exact HI0.out | apply IsS123.alloc | apply IsS123.drewN | apply IsS123.drew | apply IsS123.set_1 | apply IsS123.set_2 | refine IsS123.far ?_ NB0_186.out _) | exact HI0.out)) hb); have n2_ := Aside0.mk (blk_below (g := gb186) (o := .cells #[.int .i64 a1_0, .int .i64 a1_1, .int .i64 a1_2, .int .i64 a1_3, .slice Ao75 l1_4.length co75] 31 (0, 0)) (by (with_reducible repeat (first | refine blk_drewN ?_ _ | refine blk_drew ?_ | refine blk_alloc ?_ _)); exact BK186.out) hb); have n3_ := Aside0.mk (Kept.below (S := (fun k_ => (P1_4_ k_) ∨ k_ = g)) (by repeat (first | (with_reducible first | exact HK.out | apply Kept.alloc | apply Kept.drewN | apply Kept.drew | refine Kept.setCell ?_ (.inl (.inr rfl)) _ | refine Kept.setCell ?_ (.inr GW186.out) _) | exact HK.out)) hb); have n4_ := Aside0.mk (below_step (by repeat (first | (with_reducible first | exact HB.out | apply below_alloc | apply pw_below_drewN | apply below_drew1 | refine below_set ?_ (IsS123.ge HI0.out) | refine below_set ?_ GE186.out) | exact HB.out)) hb); have n5_ := Aside0.mk (hbox); have n6_ := Aside0.mk ((by rw [hg]; exact (by first | exact HK.out.1 | exact (show Kept w _ (fun k_ => (P1_4_ k_) ∨ k_ = g) from by repeat (first | (with_reducible first | exact HK.out | apply Kept.alloc | apply Kept.drewN | apply Kept.drew | refine Kept.setCell ?_ (.inl (.inr rfl)) _ | refine Kept.setCell ?_ (.inr GW186.out) _) | exact HK.out)).1) : w.heap.size ≤ gb187)); have n7_ := Aside0.mk ((by rw [hg]; exact (below_size (by repeat (first | (with_reducible first | exact HB.out | apply below_alloc | apply pw_below_drewN | apply below_drew1 | refine below_set ?_ (IsS123.ge HI0.out) | refine below_set ?_ GE186.out) | exact HB.out))) : w0.heap.size ≤ gb187)); have n8_ := Aside0.mk ((by rw [hg]; exact Nat.ne_of_lt (blk_lt (g := gb186) (o := .cells #[.int .i64 a1_0, .int .i64 a1_1, .int .i64 a1_2, .int .i64 a1_3, .slice Ao75 l1_4.length co75] 31 (0, 0)) (by (with_reducible repeat (first | refine blk_drewN ?_ _ | refine blk_drew ?_ | refine blk_alloc ?_ _)); exact BK186.out)) : gb186 ≠ gb187)); have n9_ := Aside0.mk ((by rw [hg]; exact Nat.ne_of_gt (blk_lt (g := gb186) (o := .cells #[.int .i64 a1_0, .int .i64 a1_1, .int .i64 a1_2, .int .i64 a1_3, .slice Ao75 l1_4.length co75] 31 (0, 0)) (by (with_reducible repeat (first | refine blk_drewN ?_ _ | refine blk_drew ?_ | refine blk_alloc ?_ _)); exact BK186.out)) : gb187 ≠ gb186)); have n10_ := Aside0.mk ((by rw [hg]; exact Nat.ne_of_lt (IsS123.lt (show IsS123 w0 _ g s0_0 s0_1 s0_2 from by repeat (first | (with_reducible first | exact HI0.out | apply IsS123.alloc | apply IsS123.drewN | apply IsS123.drew | apply IsS123.set_1 | apply IsS123.set_2 | refine IsS123.far ?_ NB0_186.out _) | exact HI0.out))) : g ≠ gb187)); have n11_ := Aside0.mk ((by rw [hg]; exact Nat.ne_of_gt (IsS123.lt (show IsS123 w0 _ g s0_0 s0_1 s0_2 from by repeat (first | (with_reducible first | exact HI0.out | apply IsS123.alloc | apply IsS123.drewN | apply IsS123.drew | apply IsS123.set_1 | apply IsS123.set_2 | refine IsS123.far ?_ NB0_186.out _) | exact HI0.out))) : gb187 ≠ g)); clear HO1_4; clear HI0; clear BK186; clear HK; clear HB; have HO1_4 := n0_; have HI0 := n1_; have BK186 := n2_; have HK := n3_; have HB := n4_; have BK187 := n5_; have GW187 := n6_; have GE187 := n7_; have NB186_187 := n8_; have NB187_186 := n9_; have NB0_187 := n10_; have NB187_0 := n11_; clear n0_ n1_ n2_ n3_ n4_ n5_ n6_ n7_ n8_ n9_ n10_ n11_; clear hb hbox hg) | ((with_reducible refine gate_callee (f := 105) rfl ?_); refine goesL_ (some 6) rfl rfl Try.func105 (by kernel_rfl) rfl #[.pointer (some ⟨g, 0, none⟩), .int .i64 9] rfl (by (try simp only [List.map_toArray, List.map_cons, List.map_nil]); first | done | rfl | (simp only [List.length_drop, List.length_take]; rfl)) ?_; (with_reducible refine (spec_l1Cur_pick.calls g s0_0 s0_1 s0_2 9 t188 t189 t190 w0 _ ?side1 ?side2 A3.out).mono ?_); (case side1 => repeat (first | (with_reducible first | exact HI0.out | apply IsS123.alloc | apply IsS123.drewN | apply IsS123.drew | apply IsS123.set_1 | apply IsS123.set_2 | refine IsS123.far ?_ NB0_186.out _ | refine IsS123.far ?_ NB0_187.out _) | exact HI0.out)); (case side2 => repeat (first | (with_reducible first | exact HB.out | apply below_alloc | apply pw_below_drewN | apply below_drew1 | refine below_set ?_ (IsS123.ge HI0.out) | refine below_set ?_ GE186.out | refine below_set ?_ GE187.out) | exact HB.out)); rintro e w78 ⟨rfl, hi, hb, hk⟩; refine ⟨_, rfl, ?_⟩; have n0_ := Aside0.mk (Kd.R_mono (Kd.R_keep (IsS123.apart (show IsS123 w0 _ g s0_0 s0_1 s0_2 from by repeat (first | (with_reducible first | exact HI0.out | apply IsS123.alloc | apply IsS123.drewN | apply IsS123.drew | apply IsS123.set_1 | apply IsS123.set_2 | refine IsS123.far ?_ NB0_186.out _ | refine IsS123.far ?_ NB0_187.out _) | exact HI0.out)) (by (with_reducible repeat (first | apply Kd.R_alloc | apply Kd.R_drewN | apply Kd.R_drew)); exact HO1_4.out) (by decide)) hk (fun _ h => h.2)) (fun _ h => h.1)); have n1_ := Aside0.mk (KeepBut.blk hk (g' := gb186) (o := .cells #[.int .i64 a1_0, .int .i64 a1_1, .int .i64 a1_2, .int .i64 a1_3, .slice Ao75 l1_4.length co75] 31 (0, 0)) (by (with_reducible repeat (first | refine blk_drewN ?_ _ | refine blk_drew ?_ | refine blk_alloc ?_ _)); exact BK186.out) NB186_0.out (by simp)); have n2_ := Aside0.mk (KeepBut.blk hk (g' := gb187) (o := .cells #[.int .i64 0, .int .i64 0, .int .i64 0, .int .i64 0, .slice none 0 0] 31 (0, 0)) (by (with_reducible repeat (first | refine blk_drewN ?_ _ | refine blk_drew ?_ | refine blk_alloc ?_ _)); exact BK187.out) NB187_0.out (by simp)); have n3_ := Aside0.mk (Kept.of_keep (S := (fun k_ => (P1_4_ k_) ∨ k_ = g)) (by repeat (first | (with_reducible first | exact HK.out | apply Kept.alloc | apply Kept.drewN | apply Kept.drew | refine Kept.setCell ?_ (.inl (.inr rfl)) _ | refine Kept.setCell ?_ (.inr GW186.out) _ | refine Kept.setCell ?_ (.inr GW187.out) _) | exact HK.out)) hk (.inl (.inr rfl))); have n4_ := Aside0.mk (hb); have n5_ := Aside0.mk (hi); clear HO1_4; clear BK186; clear BK187; clear HK; clear HB; clear HI0; have HO1_4 := n0_; have BK186 := n1_; have BK187 := n2_; have HK := n3_; have HB := n4_; have HI0 := n5_; clear n0_ n1_ n2_ n3_ n4_ n5_; (try clear hb); (try clear hb2); (try clear hk); (try clear hi); have hnb79 := NB186_187.out; have hnc79 := NB187_186.out; have hnb80 := NB186_0.out; have hnc80 := NB0_186.out; have hcz81_0 : w78.cell? ⟨gb186, 0, none⟩ = some (.int .i64 a1_0) := (blk_cell BK186.out 0).trans rfl; have hcz81_1 : w78.cell? ⟨gb186, 1, none⟩ = some (.int .i64 a1_1) := (blk_cell BK186.out 1).trans rfl; have hcz81_2 : w78.cell? ⟨gb186, 2, none⟩ = some (.int .i64 a1_2) := (blk_cell BK186.out 2).trans rfl; have hcz81_3 : w78.cell? ⟨gb186, 3, none⟩ = some (.int .i64 a1_3) := (blk_cell BK186.out 3).trans rfl; have hcz81_4 : w78.cell? ⟨gb186, 4, none⟩ = some (.slice Ao75 l1_4.length co75) := (blk_cell BK186.out 4).trans rfl; have hfz81_0 := blk_frozen BK186.out 0; have hfz81_1 := blk_frozen BK186.out 1; have hfz81_2 := blk_frozen BK186.out 2; have hfz81_3 := blk_frozen BK186.out 3; have hfz81_4 := blk_frozen BK186.out 4; have hnb82 := NB187_0.out; have hnc82 := NB0_187.out; have hcz83_0 : w78.cell? ⟨gb187, 0, none⟩ = some (.int .i64 0) := (blk_cell BK187.out 0).trans rfl; have hcz83_1 : w78.cell? ⟨gb187, 1, none⟩ = some (.int .i64 0) := (blk_cell BK187.out 1).trans rfl; have hcz83_2 : w78.cell? ⟨gb187, 2, none⟩ = some (.int .i64 0) := (blk_cell BK187.out 2).trans rfl; have hcz83_3 : w78.cell? ⟨gb187, 3, none⟩ = some (.int .i64 0) := (blk_cell BK187.out 3).trans rfl; have hcz83_4 : w78.cell? ⟨gb187, 4, none⟩ = some (.slice none 0 0) := (blk_cell BK187.out 4).trans rfl; have hfz83_0 := blk_frozen BK187.out 0; have hfz83_1 := blk_frozen BK187.out 1; have hfz83_2 := blk_frozen BK187.out 2; have hfz83_3 := blk_frozen BK187.out 3; have hfz83_4 := blk_frozen BK187.out 4))
    refine bodyPost_ret (results_cell_row rfl _ _ gb187 31 #[.int .i64 a1_0, .int .i64 a1_1, .int .i64 a1_2, .int .i64 a1_3, .slice Ao75 l1_4.length co75] (0, 0) _ rfl (by (with_reducible repeat (first | refine blk_drewN ?_ _ | refine blk_drew ?_ | refine blk_alloc ?_ _)); refine blk_put (cs := #[.int .i64 a1_0, .int .i64 a1_1, .int .i64 a1_2, .int .i64 a1_3, .slice none 0 0]) ?_ 4 _ rfl; (with_reducible repeat (first | refine blk_drewN ?_ _ | refine blk_drew ?_ | refine blk_alloc ?_ _)); refine blk_put (cs := #[.int .i64 a1_0, .int .i64 a1_1, .int .i64 a1_2, .int .i64 0, .slice none 0 0]) ?_ 3 _ rfl; (with_reducible repeat (first | refine blk_drewN ?_ _ | refine blk_drew ?_ | refine blk_alloc ?_ _)); refine blk_put (cs := #[.int .i64 a1_0, .int .i64 a1_1, .int .i64 0, .int .i64 0, .slice none 0 0]) ?_ 2 _ rfl; (with_reducible repeat (first | refine blk_drewN ?_ _ | refine blk_drew ?_ | refine blk_alloc ?_ _)); refine blk_put (cs := #[.int .i64 a1_0, .int .i64 0, .int .i64 0, .int .i64 0, .slice none 0 0]) ?_ 1 _ rfl; (with_reducible repeat (first | refine blk_drewN ?_ _ | refine blk_drew ?_ | refine blk_alloc ?_ _)); refine blk_put (cs := #[.int .i64 0, .int .i64 0, .int .i64 0, .int .i64 0, .slice none 0 0]) ?_ 0 _ rfl; (with_reducible repeat (first | refine blk_drewN ?_ _ | refine blk_drew ?_ | refine blk_alloc ?_ _)); exact BK187.out) Try.underlying31 rfl (by kernel_rfl)) rfl ?_
    exact ⟨_, by first | rfl | (simp [errW_none, errW_some] <;> rfl) | (simp [*, errW_none, errW_some] <;> rfl), by (with_reducible repeat (first | apply Kd.R_alloc | apply Kd.R_drewN | apply Kd.R_drew)); exact Kd.R_mono (Kd.R_far (p := ⟨gb187, 4, none⟩) (Kd.R_far (p := ⟨gb187, 3, none⟩) (Kd.R_far (p := ⟨gb187, 2, none⟩) (Kd.R_far (p := ⟨gb187, 1, none⟩) (Kd.R_far (p := ⟨gb187, 0, none⟩) (Kd.R_types HO1_4.out BK187.out (by decide)) (fun _ hk => hk.2) (.int .i64 a1_0)) (fun _ hk => hk.2) (.int .i64 a1_1)) (fun _ hk => hk.2) (.int .i64 a1_2)) (fun _ hk => hk.2) (.int .i64 a1_3)) (fun _ hk => hk.2) (.slice Ao75 l1_4.length co75)) (fun _ hk => hk.1), by repeat (first | (with_reducible first | exact HI0.out | apply IsS123.alloc | apply IsS123.drewN | apply IsS123.drew | apply IsS123.set_1 | apply IsS123.set_2 | refine IsS123.far ?_ NB0_186.out _ | refine IsS123.far ?_ NB0_187.out _) | exact HI0.out), by repeat (first | (with_reducible first | exact HB.out | apply below_alloc | apply pw_below_drewN | apply below_drew1 | refine below_set ?_ (IsS123.ge HI0.out) | refine below_set ?_ GE186.out | refine below_set ?_ GE187.out) | exact HB.out), by repeat (first | (with_reducible first | exact HK.out | apply Kept.alloc | apply Kept.drewN | apply Kept.drew | refine Kept.setCell ?_ (.inl (.inr rfl)) _ | refine Kept.setCell ?_ (.inr GW186.out) _ | refine Kept.setCell ?_ (.inr GW187.out) _) | exact HK.out)⟩
  rw [if_pos c43] at H
  have c43b0 : decide (0 < (l1_4.length : Int)) = true := decide_eq_true c43
  have c43b1 : decide (0 < l1_4.length) = true := decide_eq_true (by omega)
  have c43b2 : 0 < l1_4.length := by omega
  clear c43
  replace H := Option.bind_eq_some_iff.mp H
  obtain ⟨⟨t200, t201, t202⟩, A440, H⟩ := H
  replace H : (if 0 ≤ (IntKind.u64.wrap (Int.tmod a1_3 17)) then ((some (([(-1), shl .i64 1 (IntKind.u64.wrap (Int.tmod a1_3 17)), wrap64 ((shl .i64 1 (IntKind.u64.wrap (Int.tmod a1_3 17))) - 1)] : List Int) : List Int)).bind fun y203 => ((spec_l1Cur_pick.f s0_0 t201 t202 3).bind fun bt206 => (if 0 ≤ bt206.1 then (if bt206.1 < (y203.length : Int) then (if 0 ≤ t200 then (if t200 < (l1_4.length : Int) then (some (a1_0, a1_1, a1_2, a1_3, (l1_4.set (t200 : Int).toNat (rd y203 bt206.1)), bt206.2.1, bt206.2.2)) else (none)) else (none)) else (none)) else (none)))) else (none)) = some (r1, r2, r3, r4, r5, r6, r7) := H
  have A44 := Aside0.mk A440
  clear A440
  obtain ⟨ji45, hji45⟩ : ∃ j_ : Int, (IntKind.u64.wrap (Int.tmod a1_3 17)) = j_ := ⟨_, rfl⟩
  replace H : (if 0 ≤ (ji45) then ((some (([(-1), shl .i64 1 (ji45), wrap64 ((shl .i64 1 (ji45)) - 1)] : List Int) : List Int)).bind fun y203 => ((spec_l1Cur_pick.f s0_0 t201 t202 3).bind fun bt206 => (if 0 ≤ bt206.1 then (if bt206.1 < (y203.length : Int) then (if 0 ≤ t200 then (if t200 < (l1_4.length : Int) then (some (a1_0, a1_1, a1_2, a1_3, (l1_4.set (t200 : Int).toNat (rd y203 bt206.1)), bt206.2.1, bt206.2.2)) else (none)) else (none)) else (none)) else (none)))) else (none)) = some (r1, r2, r3, r4, r5, r6, r7) := by first | (rw [hji45] at H; exact H) | (simp only [hji45] at H ⊢; exact H)
  (try rw [hji45] at A3)
  (try rw [hji45] at A44)
  by_cases c46 : 0 ≤ (ji45)
  rotate_left
  · rw [if_neg c46] at H
    exact absurd H (by simp)
  rw [if_pos c46] at H
  have c46b0 := eq_true c46
  have c46b1 : decide (0 ≤ (ji45)) = true := decide_eq_true c46
  clear c46
  obtain ⟨ji47, hji47⟩ : ∃ j_ : Int, (shl .i64 1 (ji45)) = j_ := ⟨_, rfl⟩
  replace H : ((some (([(-1), ji47, wrap64 ((ji47) - 1)] : List Int) : List Int)).bind fun y203 => ((spec_l1Cur_pick.f s0_0 t201 t202 3).bind fun bt206 => (if 0 ≤ bt206.1 then (if bt206.1 < (y203.length : Int) then (if 0 ≤ t200 then (if t200 < (l1_4.length : Int) then (some (a1_0, a1_1, a1_2, a1_3, (l1_4.set (t200 : Int).toNat (rd y203 bt206.1)), bt206.2.1, bt206.2.2)) else (none)) else (none)) else (none)) else (none)))) = some (r1, r2, r3, r4, r5, r6, r7) := by first | (rw [hji47] at H; exact H) | (simp only [hji47] at H ⊢; exact H)
  (try rw [hji47] at A3)
  (try rw [hji47] at A44)
  have hji47_ : (IntKind.i64.wrap (1 * 2 ^ min (ji45).toNat 64)) = ji47 := hji47
  have hji47z : (ji45) ≤ 64 → (IntKind.i64.wrap (1 * 2 ^ (ji45).toNat)) = ji47 := shl_small hji47
  have hji47u : (IntKind.i64.wrap (2 ^ min (ji45).toNat 64)) = ji47 := by have h_ := hji47_; rw [Int.one_mul] at h_; exact h_
  have hji47v : (ji45) ≤ 64 → (IntKind.i64.wrap (2 ^ (ji45).toNat)) = ji47 := fun hle_ => by have h_ := hji47z hle_; rw [Int.one_mul] at h_; exact h_
  have hji47y : (wrap64 (1 * 2 ^ min (ji45).toNat 64)) = ji47 := (i64_w _).symm.trans hji47_
  have hji47x : (ji45) ≤ 64 → (wrap64 (1 * 2 ^ (ji45).toNat)) = ji47 := fun h_ => (i64_w _).symm.trans (hji47z h_)
  have c48b0 := eq_true (of_decide_eq_true (by first | (with_reducible assumption) | assumption) : 0 ≤ (ji45))
  obtain ⟨y203, hy203⟩ : ∃ y_ : List Int, y_ = (([(-1), ji47, wrap64 ((ji47) - 1)] : List Int)) := ⟨_, rfl⟩
  replace H : ((spec_l1Cur_pick.f s0_0 t201 t202 3).bind fun bt206 => (if 0 ≤ bt206.1 then (if bt206.1 < (y203.length : Int) then (if 0 ≤ t200 then (if t200 < (l1_4.length : Int) then (some (a1_0, a1_1, a1_2, a1_3, (l1_4.set (t200 : Int).toNat (rd y203 bt206.1)), bt206.2.1, bt206.2.2)) else (none)) else (none)) else (none)) else (none))) = some (r1, r2, r3, r4, r5, r6, r7) := by first | (rw [hy203]; with_reducible exact H) | (have H2_ := (Option.bind_some _ _).symm.trans H; rw [hy203]; with_reducible exact H2_) | (have H2_ := (Option.bind_some _ _).symm.trans H; with_reducible exact H2_) | with_reducible exact H | (rw [hy203]; exact H) | exact H
  have Ny203 := Aside0.mk hy203
  clear hy203
  replace H := Option.bind_eq_some_iff.mp H
  obtain ⟨⟨t206, t207, t208⟩, A490, H⟩ := H
  replace H : (if 0 ≤ t206 then (if t206 < (y203.length : Int) then (if 0 ≤ t200 then (if t200 < (l1_4.length : Int) then (some (a1_0, a1_1, a1_2, a1_3, (l1_4.set (t200 : Int).toNat (rd y203 t206)), t207, t208)) else (none)) else (none)) else (none)) else (none)) = some (r1, r2, r3, r4, r5, r6, r7) := H
  have A49 := Aside0.mk A490
  clear A490
  by_cases c50 : 0 ≤ t206
  rotate_left
  · rw [if_neg c50] at H
    exact absurd H (by simp)
  rw [if_pos c50] at H
  have c50b0 : decide (0 ≤ t206) = true := decide_eq_true c50
  clear c50
  by_cases c51 : t206 < (y203.length : Int)
  rotate_left
  · rw [if_neg c51] at H
    exact absurd H (by simp)
  rw [if_pos c51] at H
  have c51b0 : decide (t206 < (y203.length : Int)) = true := decide_eq_true c51
  clear c51
  by_cases c52 : 0 ≤ t200
  rotate_left
  · rw [if_neg c52] at H
    exact absurd H (by simp)
  rw [if_pos c52] at H
  have c52b0 : decide (0 ≤ t200) = true := decide_eq_true c52
  clear c52
  by_cases c53 : t200 < (l1_4.length : Int)
  rotate_left
  · rw [if_neg c53] at H
    exact absurd H (by simp)
  rw [if_pos c53] at H
  have c53b0 : decide (t200 < (l1_4.length : Int)) = true := decide_eq_true c53
  clear c53
  obtain ⟨y210, hy210⟩ : ∃ y_ : List Int, y_ = (l1_4.set (t200 : Int).toNat (rd y203 t206)) := ⟨_, rfl⟩
  replace H : (some (a1_0, a1_1, a1_2, a1_3, y210, t207, t208)) = some (r1, r2, r3, r4, r5, r6, r7) := by first | (rw [hy210]; with_reducible exact H) | (have H2_ := (Option.bind_some _ _).symm.trans H; rw [hy210]; with_reducible exact H2_) | (have H2_ := (Option.bind_some _ _).symm.trans H; with_reducible exact H2_) | with_reducible exact H | (rw [hy210]; exact H) | exact H
  have Ny210 := Aside0.mk hy210
  clear hy210
  simp only [Option.some.injEq, Prod.mk.injEq] at H
  obtain ⟨rfl, rfl, rfl, rfl, rfl, rfl, rfl⟩ := H
  obtain ⟨Ao55, co55, eo55⟩ := Kd.R_slice HO1_4.out
  subst eo55
  go_enter Try.func134, Try.ntmps134
  try go_wp2_with (first | ((with_reducible refine gate_dst (N := 3) rfl ?_); refine box_event ?hg (N := 3) ?hd (cs := #[.int .i64 a1_0, .int .i64 a1_1, .int .i64 a1_2, .int .i64 a1_3, .slice Ao55 l1_4.length co55]) (t := 31) ?hr ?_; (case hd => rfl); (case hg => rfl); (case hr => first | (go_simp; done) | (go_simp; rfl)); intro gb186 hg w56 hbox hb; have n0_ := Aside0.mk (Kd.R_below (by (with_reducible repeat (first | apply Kd.R_alloc | apply Kd.R_drewN | apply Kd.R_drew)); exact HO1_4.out) hb); have n1_ := Aside0.mk (IsS123.below (by repeat (first | (with_reducible first | exact HI0.out | apply IsS123.alloc | apply IsS123.drewN | apply IsS123.drew | apply IsS123.set_1 | apply IsS123.set_2) | exact HI0.out)) hb); have n2_ := Aside0.mk (Kept.below (S := (fun k_ => (P1_4_ k_) ∨ k_ = g)) (by repeat (first | (with_reducible first | exact HK.out | apply Kept.alloc | apply Kept.drewN | apply Kept.drew | refine Kept.setCell ?_ (.inl (.inr rfl)) _) | exact HK.out)) hb); have n3_ := Aside0.mk (below_step (by repeat (first | (with_reducible first | exact HB.out | apply below_alloc | apply pw_below_drewN | apply below_drew1 | refine below_set ?_ (IsS123.ge HI0.out)) | exact HB.out)) hb); have n4_ := Aside0.mk (hbox); have n5_ := Aside0.mk ((by rw [hg]; exact (by first | exact HK.out.1 | exact (show Kept w _ (fun k_ => (P1_4_ k_) ∨ k_ = g) from by repeat (first | (with_reducible first | exact HK.out | apply Kept.alloc | apply Kept.drewN | apply Kept.drew | refine Kept.setCell ?_ (.inl (.inr rfl)) _) | exact HK.out)).1) : w.heap.size ≤ gb186)); have n6_ := Aside0.mk ((by rw [hg]; exact (below_size (by repeat (first | (with_reducible first | exact HB.out | apply below_alloc | apply pw_below_drewN | apply below_drew1 | refine below_set ?_ (IsS123.ge HI0.out)) | exact HB.out))) : w0.heap.size ≤ gb186)); have n7_ := Aside0.mk ((by rw [hg]; exact Nat.ne_of_lt (IsS123.lt (show IsS123 w0 _ g s0_0 s0_1 s0_2 from by repeat (first | (with_reducible first | exact HI0.out | apply IsS123.alloc | apply IsS123.drewN | apply IsS123.drew | apply IsS123.set_1 | apply IsS123.set_2) | exact HI0.out))) : g ≠ gb186)); have n8_ := Aside0.mk ((by rw [hg]; exact Nat.ne_of_gt (IsS123.lt (show IsS123 w0 _ g s0_0 s0_1 s0_2 from by repeat (first | (with_reducible first | exact HI0.out | apply IsS123.alloc | apply IsS123.drewN | apply IsS123.drew | apply IsS123.set_1 | apply IsS123.set_2) | exact HI0.out))) : gb186 ≠ g)); clear HO1_4; clear HI0; clear HK; clear HB; have HO1_4 := n0_; have HI0 := n1_; have HK := n2_; have HB := n3_; have BK186 := n4_; have GW186 := n5_; have GE186 := n6_; have NB0_186 := n7_; have NB186_0 := n8_; clear n0_ n1_ n2_ n3_ n4_ n5_ n6_ n7_ n8_; clear hb hbox hg) | ((with_reducible refine gate_dst (N := 4) rfl ?_); refine box_event ?hg (N := 4) ?hd (cs := #[.int .i64 0, .int .i64 0, .int .i64 0, .int .i64 0, .slice none 0 0]) (t := 31) ?hr ?_; (case hd => rfl); (case hg => rfl); (case hr => first | (go_simp; done) | (go_simp; rfl)); intro gb187 hg w57 hbox hb; have n0_ := Aside0.mk (Kd.R_below (by (with_reducible repeat (first | apply Kd.R_alloc | apply Kd.R_drewN | apply Kd.R_drew)); exact HO1_4.out) hb); have n1_ := Aside0.mk (IsS123.below (by repeat (first | (with_reducible first | exact HI0.out | apply IsS123.alloc | apply IsS123.drewN | apply IsS123.drew | apply IsS123.set_1 | apply IsS123.set_2 | refine IsS123.far ?_ NB0_186.out _) | exact HI0.out)) hb); have n2_ := Aside0.mk (blk_below (g := gb186) (o := .cells #[.int .i64 a1_0, .int .i64 a1_1, .int .i64 a1_2, .int .i64 a1_3, .slice Ao55 l1_4.length co55] 31 (0, 0)) (by (with_reducible repeat (first | refine blk_drewN ?_ _ | refine blk_drew ?_ | refine blk_alloc ?_ _)); exact BK186.out) hb); have n3_ := Aside0.mk (Kept.below (S := (fun k_ => (P1_4_ k_) ∨ k_ = g)) (by repeat (first | (with_reducible first | exact HK.out | apply Kept.alloc | apply Kept.drewN | apply Kept.drew | refine Kept.setCell ?_ (.inl (.inr rfl)) _ | refine Kept.setCell ?_ (.inr GW186.out) _) | exact HK.out)) hb); have n4_ := Aside0.mk (below_step (by repeat (first | (with_reducible first | exact HB.out | apply below_alloc | apply pw_below_drewN | apply below_drew1 | refine below_set ?_ (IsS123.ge HI0.out) | refine below_set ?_ GE186.out) | exact HB.out)) hb); have n5_ := Aside0.mk (hbox); have n6_ := Aside0.mk ((by rw [hg]; exact (by first | exact HK.out.1 | exact (show Kept w _ (fun k_ => (P1_4_ k_) ∨ k_ = g) from by repeat (first | (with_reducible first | exact HK.out | apply Kept.alloc | apply Kept.drewN | apply Kept.drew | refine Kept.setCell ?_ (.inl (.inr rfl)) _ | refine Kept.setCell ?_ (.inr GW186.out) _) | exact HK.out)).1) : w.heap.size ≤ gb187)); have n7_ := Aside0.mk ((by rw [hg]; exact (below_size (by repeat (first | (with_reducible first | exact HB.out | apply below_alloc | apply pw_below_drewN | apply below_drew1 | refine below_set ?_ (IsS123.ge HI0.out) | refine below_set ?_ GE186.out) | exact HB.out))) : w0.heap.size ≤ gb187)); have n8_ := Aside0.mk ((by rw [hg]; exact Nat.ne_of_lt (blk_lt (g := gb186) (o := .cells #[.int .i64 a1_0, .int .i64 a1_1, .int .i64 a1_2, .int .i64 a1_3, .slice Ao55 l1_4.length co55] 31 (0, 0)) (by (with_reducible repeat (first | refine blk_drewN ?_ _ | refine blk_drew ?_ | refine blk_alloc ?_ _)); exact BK186.out)) : gb186 ≠ gb187)); have n9_ := Aside0.mk ((by rw [hg]; exact Nat.ne_of_gt (blk_lt (g := gb186) (o := .cells #[.int .i64 a1_0, .int .i64 a1_1, .int .i64 a1_2, .int .i64 a1_3, .slice Ao55 l1_4.length co55] 31 (0, 0)) (by (with_reducible repeat (first | refine blk_drewN ?_ _ | refine blk_drew ?_ | refine blk_alloc ?_ _)); exact BK186.out)) : gb187 ≠ gb186)); have n10_ := Aside0.mk ((by rw [hg]; exact Nat.ne_of_lt (IsS123.lt (show IsS123 w0 _ g s0_0 s0_1 s0_2 from by repeat (first | (with_reducible first | exact HI0.out | apply IsS123.alloc | apply IsS123.drewN | apply IsS123.drew | apply IsS123.set_1 | apply IsS123.set_2 | refine IsS123.far ?_ NB0_186.out _) | exact HI0.out))) : g ≠ gb187)); have n11_ := Aside0.mk ((by rw [hg]; exact Nat.ne_of_gt (IsS123.lt (show IsS123 w0 _ g s0_0 s0_1 s0_2 from by repeat (first | (with_reducible first | exact HI0.out | apply IsS123.alloc | apply IsS123.drewN | apply IsS123.drew | apply IsS123.set_1 | apply IsS123.set_2 | refine IsS123.far ?_ NB0_186.out _) | exact HI0.out))) : gb187 ≠ g)); clear HO1_4; clear HI0; clear BK186; clear HK; clear HB; have HO1_4 := n0_; have HI0 := n1_; have BK186 := n2_; have HK := n3_; have HB := n4_; have BK187 := n5_; have GW187 := n6_; have GE187 := n7_; have NB186_187 := n8_; have NB187_186 := n9_; have NB0_187 := n10_; have NB187_0 := n11_; clear n0_ n1_ n2_ n3_ n4_ n5_ n6_ n7_ n8_ n9_ n10_ n11_; clear hb hbox hg) | ((with_reducible refine gate_callee (f := 105) rfl ?_); refine goesL_ (some 6) rfl rfl Try.func105 (by kernel_rfl) rfl #[.pointer (some ⟨g, 0, none⟩), .int .i64 9] rfl (by (try simp only [List.map_toArray, List.map_cons, List.map_nil]); first | done | rfl | (simp only [List.length_drop, List.length_take]; rfl)) ?_; (with_reducible refine (spec_l1Cur_pick.calls g s0_0 s0_1 s0_2 9 t188 t189 t190 w0 _ ?side1 ?side2 A3.out).mono ?_); (case side1 => repeat (first | (with_reducible first | exact HI0.out | apply IsS123.alloc | apply IsS123.drewN | apply IsS123.drew | apply IsS123.set_1 | apply IsS123.set_2 | refine IsS123.far ?_ NB0_186.out _ | refine IsS123.far ?_ NB0_187.out _) | exact HI0.out)); (case side2 => repeat (first | (with_reducible first | exact HB.out | apply below_alloc | apply pw_below_drewN | apply below_drew1 | refine below_set ?_ (IsS123.ge HI0.out) | refine below_set ?_ GE186.out | refine below_set ?_ GE187.out) | exact HB.out)); rintro e w58 ⟨rfl, hi, hb, hk⟩; refine ⟨_, rfl, ?_⟩; have n0_ := Aside0.mk (Kd.R_mono (Kd.R_keep (IsS123.apart (show IsS123 w0 _ g s0_0 s0_1 s0_2 from by repeat (first | (with_reducible first | exact HI0.out | apply IsS123.alloc | apply IsS123.drewN | apply IsS123.drew | apply IsS123.set_1 | apply IsS123.set_2 | refine IsS123.far ?_ NB0_186.out _ | refine IsS123.far ?_ NB0_187.out _) | exact HI0.out)) (by (with_reducible repeat (first | apply Kd.R_alloc | apply Kd.R_drewN | apply Kd.R_drew)); exact HO1_4.out) (by decide)) hk (fun _ h => h.2)) (fun _ h => h.1)); have n1_ := Aside0.mk (KeepBut.blk hk (g' := gb186) (o := .cells #[.int .i64 a1_0, .int .i64 a1_1, .int .i64 a1_2, .int .i64 a1_3, .slice Ao55 l1_4.length co55] 31 (0, 0)) (by (with_reducible repeat (first | refine blk_drewN ?_ _ | refine blk_drew ?_ | refine blk_alloc ?_ _)); exact BK186.out) NB186_0.out (by simp)); have n2_ := Aside0.mk (KeepBut.blk hk (g' := gb187) (o := .cells #[.int .i64 0, .int .i64 0, .int .i64 0, .int .i64 0, .slice none 0 0] 31 (0, 0)) (by (with_reducible repeat (first | refine blk_drewN ?_ _ | refine blk_drew ?_ | refine blk_alloc ?_ _)); exact BK187.out) NB187_0.out (by simp)); have n3_ := Aside0.mk (Kept.of_keep (S := (fun k_ => (P1_4_ k_) ∨ k_ = g)) (by repeat (first | (with_reducible first | exact HK.out | apply Kept.alloc | apply Kept.drewN | apply Kept.drew | refine Kept.setCell ?_ (.inl (.inr rfl)) _ | refine Kept.setCell ?_ (.inr GW186.out) _ | refine Kept.setCell ?_ (.inr GW187.out) _) | exact HK.out)) hk (.inl (.inr rfl))); have n4_ := Aside0.mk (hb); have n5_ := Aside0.mk (hi); clear HO1_4; clear BK186; clear BK187; clear HK; clear HB; clear HI0; have HO1_4 := n0_; have BK186 := n1_; have BK187 := n2_; have HK := n3_; have HB := n4_; have HI0 := n5_; clear n0_ n1_ n2_ n3_ n4_ n5_; (try clear hb); (try clear hb2); (try clear hk); (try clear hi); have hnb59 := NB186_187.out; have hnc59 := NB187_186.out; have hnb60 := NB186_0.out; have hnc60 := NB0_186.out; have hcz61_0 : w58.cell? ⟨gb186, 0, none⟩ = some (.int .i64 a1_0) := (blk_cell BK186.out 0).trans rfl; have hcz61_1 : w58.cell? ⟨gb186, 1, none⟩ = some (.int .i64 a1_1) := (blk_cell BK186.out 1).trans rfl; have hcz61_2 : w58.cell? ⟨gb186, 2, none⟩ = some (.int .i64 a1_2) := (blk_cell BK186.out 2).trans rfl; have hcz61_3 : w58.cell? ⟨gb186, 3, none⟩ = some (.int .i64 a1_3) := (blk_cell BK186.out 3).trans rfl; have hcz61_4 : w58.cell? ⟨gb186, 4, none⟩ = some (.slice Ao55 l1_4.length co55) := (blk_cell BK186.out 4).trans rfl; have hfz61_0 := blk_frozen BK186.out 0; have hfz61_1 := blk_frozen BK186.out 1; have hfz61_2 := blk_frozen BK186.out 2; have hfz61_3 := blk_frozen BK186.out 3; have hfz61_4 := blk_frozen BK186.out 4))
  have pi209 : (0 ≤ (t206 : Int)) = True := eq_true (of_decide_eq_true (by first | (with_reducible assumption) | assumption))
  have qi209 : (t206 < (y203.length : Int)) = True := eq_true (of_decide_eq_true (by first | (with_reducible assumption) | assumption))
  have n0_ := Aside0.mk (Kd.R_drew HO1_4.out)
  have n1_ := Aside0.mk (blk_drew BK186.out)
  have n2_ := Aside0.mk (blk_drew BK187.out)
  have n3_ := Aside0.mk (IsS123.drew HI0.out)
  have n4_ := Aside0.mk (Kept.drew HK.out)
  have n5_ := Aside0.mk (below_drew1 HB.out)
  clear HO1_4
  clear BK186
  clear BK187
  clear HI0
  clear HK
  clear HB
  have HO1_4 := n0_
  have BK186 := n1_
  have BK187 := n2_
  have HI0 := n3_
  have HK := n4_
  have HB := n5_
  clear n0_ n1_ n2_ n3_ n4_ n5_
  refine start_ (n := 25) (S := fun w' => w'.cell? ⟨gb186, 0, none⟩ = some (.int .i64 a1_0) ∧ w'.cell? ⟨gb186, 1, none⟩ = some (.int .i64 a1_1) ∧ w'.cell? ⟨gb186, 2, none⟩ = some (.int .i64 a1_2) ∧ w'.cell? ⟨gb186, 3, none⟩ = some (.int .i64 a1_3) ∧ w'.cell? ⟨gb186, 4, none⟩ = some (.slice Ao55 l1_4.length co55)) (ds := [24]) #[false, false, false, false, false, false, false, false, false, false, false, false, false, false, false, false, false, false, false, false, false, false, false, false, false] (by kernel_rfl) rfl rfl ⟨(blk_cell BK186.out 0).trans rfl, (blk_cell BK186.out 1).trans rfl, (blk_cell BK186.out 2).trans rfl, (blk_cell BK186.out 3).trans rfl, (blk_cell BK186.out 4).trans rfl⟩ (fun hHeld => ?_); refine with_tabW spec_l1Cur_oddImage.tab10 spec_l1Cur_oddImage.bits10 (fun HT_ HW_ => ?_)
  generalize w58.drew = w62 at HO1_4 BK186 BK187 HI0 HK HB hHeld ⊢
  refine pure_ (i := 0) (N := some 32) (v := ?_) (a' := ?_) #[true, false, false, false, false, false, false, false, false, false, false, false, false, false, false, false, false, false, false, false, false, false, false, false, false] rfl rfl (any_of HT_.out (by kernel_rfl)) (fun _ _ _ h => h) (Or.inl ⟨by rfl, ?_⟩) ?_ ?_
  rotate_left
  · intro w'
    go_simp
    with_reducible rfl
  rotate_left
  · simp only [Act.put, List.setIfInBounds_toArray, List.set_cons_zero, List.set_cons_succ, i64_w, i32_w]
    rfl
  refine pure_ (i := 2) (N := some 34) (v := ?_) (a' := ?_) #[true, false, true, false, false, false, false, false, false, false, false, false, false, false, false, false, false, false, false, false, false, false, false, false, false] rfl rfl (any_of HT_.out (by kernel_rfl)) (fun _ _ _ h => h) (Or.inl ⟨by rfl, ?_⟩) ?_ ?_
  rotate_left
  · intro w'
    go_simp
    with_reducible rfl
  rotate_left
  · simp only [Act.put, List.setIfInBounds_toArray, List.set_cons_zero, List.set_cons_succ, i64_w, i32_w]
    rfl
  refine pure_ (i := 3) (N := some 35) (v := ?_) (a' := ?_) #[true, false, true, true, false, false, false, false, false, false, false, false, false, false, false, false, false, false, false, false, false, false, false, false, false] rfl rfl (any_of HT_.out (by kernel_rfl)) (fun _ _ _ h => h) (Or.inl ⟨by rfl, ?_⟩) ?_ ?_
  rotate_left
  · intro w'
    go_simp
    with_reducible rfl
  rotate_left
  · simp only [Act.put, List.setIfInBounds_toArray, List.set_cons_zero, List.set_cons_succ, i64_w, i32_w]
    rfl
  refine pure_ (i := 7) (N := some 39) (v := ?_) (a' := ?_) #[true, false, true, true, false, false, false, true, false, false, false, false, false, false, false, false, false, false, false, false, false, false, false, false, false] rfl rfl (any_of HT_.out (by kernel_rfl)) (fun _ _ _ h => h) (Or.inl ⟨by rfl, ?_⟩) ?_ ?_
  rotate_left
  · intro w'
    go_simp
    with_reducible rfl
  rotate_left
  · simp only [Act.put, List.setIfInBounds_toArray, List.set_cons_zero, List.set_cons_succ, i64_w, i32_w]
    rfl
  refine pure_ (i := 12) (N := some 44) (v := ?_) (a' := ?_) #[true, false, true, true, false, false, false, true, false, false, false, false, true, false, false, false, false, false, false, false, false, false, false, false, false] rfl rfl (any_of HT_.out (by kernel_rfl)) (fun _ _ _ h => h) (Or.inl ⟨by rfl, ?_⟩) ?_ ?_
  rotate_left
  · intro w'
    go_simp
    with_reducible rfl
  rotate_left
  · simp only [Act.put, List.setIfInBounds_toArray, List.set_cons_zero, List.set_cons_succ, i64_w, i32_w]
    rfl
  refine pure_ (i := 19) (N := some 51) (v := ?_) (a' := ?_) #[true, false, true, true, false, false, false, true, false, false, false, false, true, false, false, false, false, false, false, true, false, false, false, false, false] rfl rfl (any_of HT_.out (by kernel_rfl)) (fun _ _ _ h => h) (Or.inl ⟨by rfl, ?_⟩) ?_ ?_
  rotate_left
  · intro w'
    go_simp
    with_reducible rfl
  rotate_left
  · simp only [Act.put, List.setIfInBounds_toArray, List.set_cons_zero, List.set_cons_succ, i64_w, i32_w]
    rfl
  refine take_ (i := 1) (N := some 33) (v := ?_) (a' := ?_) #[true, true, true, true, false, false, false, true, false, false, false, false, true, false, false, false, false, false, false, true, false, false, false, false, false] rfl rfl (take_ofW HT_.out HW_.out (by kernel_rfl)) (fun _ _ _ h => h) (Or.inl ⟨by rfl, ?_⟩) hHeld ?_ ?_
  rotate_left
  · rintro w' ⟨s0, s1, s2, s3, s4⟩
    go_simp
    with_reducible rfl
  rotate_left
  · simp only [Act.put, List.setIfInBounds_toArray, List.set_cons_zero, List.set_cons_succ, i64_w, i32_w]
    rfl
  refine take_ (i := 4) (N := some 36) (v := ?_) (a' := ?_) #[true, true, true, true, true, false, false, true, false, false, false, false, true, false, false, false, false, false, false, true, false, false, false, false, false] rfl rfl (take_ofW HT_.out HW_.out (by kernel_rfl)) (fun _ _ _ h => h) (Or.inl ⟨by rfl, ?_⟩) hHeld ?_ ?_
  rotate_left
  · rintro w' ⟨s0, s1, s2, s3, s4⟩
    go_simp
    with_reducible rfl
  rotate_left
  · simp only [Act.put, List.setIfInBounds_toArray, List.set_cons_zero, List.set_cons_succ, i64_w, i32_w]
    rfl
  refine pure_ (i := 5) (N := some 37) (v := ?_) (a' := ?_) #[true, true, true, true, true, true, false, true, false, false, false, false, true, false, false, false, false, false, false, true, false, false, false, false, false] rfl rfl (any_of HT_.out (by kernel_rfl)) (fun _ _ _ h => h) (Or.inl ⟨by rfl, ?_⟩) ?_ ?_
  rotate_left
  · intro w'
    go_simp
    with_reducible rfl
  rotate_left
  · simp only [Act.put, List.setIfInBounds_toArray, List.set_cons_zero, List.set_cons_succ, i64_w, i32_w]
    rfl
  refine take_ (i := 8) (N := some 40) (v := ?_) (a' := ?_) #[true, true, true, true, true, true, false, true, true, false, false, false, true, false, false, false, false, false, false, true, false, false, false, false, false] rfl rfl (take_ofW HT_.out HW_.out (by kernel_rfl)) (fun _ _ _ h => h) (Or.inl ⟨by rfl, ?_⟩) hHeld ?_ ?_
  rotate_left
  · rintro w' ⟨s0, s1, s2, s3, s4⟩
    go_simp
    with_reducible rfl
  rotate_left
  · simp only [Act.put, List.setIfInBounds_toArray, List.set_cons_zero, List.set_cons_succ, i64_w, i32_w]
    rfl
  refine pure_ (i := 9) (N := some 41) (v := ?_) (a' := ?_) #[true, true, true, true, true, true, false, true, true, true, false, false, true, false, false, false, false, false, false, true, false, false, false, false, false] rfl rfl (any_of HT_.out (by kernel_rfl)) (fun _ _ _ h => h) (Or.inl ⟨by rfl, ?_⟩) ?_ ?_
  rotate_left
  · intro w'
    go_simp
    with_reducible rfl
  rotate_left
  · simp only [Act.put, List.setIfInBounds_toArray, List.set_cons_zero, List.set_cons_succ, i64_w, i32_w]
    rfl
  refine pure_ (i := 10) (N := some 42) (v := ?_) (a' := ?_) #[true, true, true, true, true, true, false, true, true, true, true, false, true, false, false, false, false, false, false, true, false, false, false, false, false] rfl rfl (any_of HT_.out (by kernel_rfl)) (fun _ _ _ h => h) (Or.inl ⟨by rfl, ?_⟩) ?_ ?_
  rotate_left
  · intro w'
    go_simp
    with_reducible rfl
  rotate_left
  · simp only [Act.put, List.setIfInBounds_toArray, List.set_cons_zero, List.set_cons_succ, i64_w, i32_w]
    rfl
  refine pure_ (i := 11) (N := some 43) (v := ?_) (a' := ?_) #[true, true, true, true, true, true, false, true, true, true, true, true, true, false, false, false, false, false, false, true, false, false, false, false, false] rfl rfl (any_of HT_.out (by kernel_rfl)) (fun _ _ _ h => h) (Or.inl ⟨by rfl, ?_⟩) ?_ ?_
  rotate_left
  · intro w'
    go_simp
    with_reducible rfl
  rotate_left
  · simp only [Act.put, List.setIfInBounds_toArray, List.set_cons_zero, List.set_cons_succ, i64_w, i32_w]
    rfl
  refine take_ (i := 13) (N := some 45) (v := ?_) (a' := ?_) #[true, true, true, true, true, true, false, true, true, true, true, true, true, true, false, false, false, false, false, true, false, false, false, false, false] rfl rfl (take_ofW HT_.out HW_.out (by kernel_rfl)) (fun _ _ _ h => h) (Or.inl ⟨by rfl, ?_⟩) hHeld ?_ ?_
  rotate_left
  · rintro w' ⟨s0, s1, s2, s3, s4⟩
    go_simp
    with_reducible rfl
  rotate_left
  · simp only [Act.put, List.setIfInBounds_toArray, List.set_cons_zero, List.set_cons_succ, i64_w, i32_w]
    rfl
  refine pure_ (i := 14) (N := some 46) (v := ?_) (a' := ?_) #[true, true, true, true, true, true, false, true, true, true, true, true, true, true, true, false, false, false, false, true, false, false, false, false, false] rfl rfl (any_of HT_.out (by kernel_rfl)) (fun _ _ _ h => h) (Or.inl ⟨by rfl, ?_⟩) ?_ ?_
  rotate_left
  · intro w'
    go_simp
    with_reducible rfl
  rotate_left
  · simp only [Act.put, List.setIfInBounds_toArray, List.set_cons_zero, List.set_cons_succ, i64_w, i32_w]
    rfl
  refine pure_ (i := 15) (N := some 47) (v := ?_) (a' := ?_) #[true, true, true, true, true, true, false, true, true, true, true, true, true, true, true, true, false, false, false, true, false, false, false, false, false] rfl rfl (any_of HT_.out (by kernel_rfl)) (fun _ _ _ h => h) (Or.inl ⟨by rfl, ?_⟩) ?_ ?_
  rotate_left
  · intro w'
    go_simp
    with_reducible rfl
  rotate_left
  · simp only [Act.put, List.setIfInBounds_toArray, List.set_cons_zero, List.set_cons_succ, i64_w, i32_w]
    rfl
  refine pure_ (i := 16) (N := some 48) (v := ?_) (a' := ?_) #[true, true, true, true, true, true, false, true, true, true, true, true, true, true, true, true, true, false, false, true, false, false, false, false, false] rfl rfl (any_of HT_.out (by kernel_rfl)) (fun _ _ _ h => h) (Or.inl ⟨by rfl, ?_⟩) ?_ ?_
  rotate_left
  · intro w'
    go_simp
    with_reducible rfl
  rotate_left
  · simp only [Act.put, List.setIfInBounds_toArray, List.set_cons_zero, List.set_cons_succ, i64_w, i32_w]
    rfl
  refine pure_ (i := 17) (N := some 49) (v := ?_) (a' := ?_) #[true, true, true, true, true, true, false, true, true, true, true, true, true, true, true, true, true, true, false, true, false, false, false, false, false] rfl rfl (any_of HT_.out (by kernel_rfl)) (fun _ _ _ h => h) (Or.inl ⟨by rfl, ?_⟩) ?_ ?_
  rotate_left
  · intro w'
    go_simp
    with_reducible rfl
  rotate_left
  · simp only [Act.put, List.setIfInBounds_toArray, List.set_cons_zero, List.set_cons_succ, i64_w, i32_w]
    rfl
  refine join_ (σ := Value × Addr) 4 #[true, true, true, true, true, true, true, true, true, true, true, true, true, true, true, true, true, true, true, true, true, false, false, false, false] (fun s_ => [(38, .int .i64 t200), (50, s_.1), (52, .int .i64 t206)]) (fun s_ w' => (w'.cell? ⟨gb186, 0, none⟩ = some (.int .i64 a1_0) ∧ w'.cell? ⟨gb186, 1, none⟩ = some (.int .i64 a1_1) ∧ w'.cell? ⟨gb186, 2, none⟩ = some (.int .i64 a1_2) ∧ w'.cell? ⟨gb186, 3, none⟩ = some (.int .i64 a1_3) ∧ w'.cell? ⟨gb186, 4, none⟩ = some (.slice Ao55 l1_4.length co55)) ∧ (Kd.R (Kd.int .i64) 3 w' w0.heap.size (fun k_ => (P1_4_ k_ ∨ w.heap.size ≤ k_) ∧ some k_ ≠ (s_.1 : Value).ownBlock) (.slice Ao55 l1_4.length co55) l1_4) ∧ (Kd.R (Kd.int .i64) 3 w' w0.heap.size (fun k_ => (P1_4_ k_ ∨ w.heap.size ≤ k_) ∧ some k_ ≠ (.slice Ao55 l1_4.length co55 : Value).ownBlock) s_.1 y203) ∧ (∃ c_, (s_.1 : Value) = .slice (some s_.2) y203.length c_) ∧ (w'.heap[gb186]? = some (.cells #[.int .i64 a1_0, .int .i64 a1_1, .int .i64 a1_2, .int .i64 a1_3, .slice Ao55 l1_4.length co55] 31 (0, 0))) ∧ (w'.heap[gb187]? = some (.cells #[.int .i64 0, .int .i64 0, .int .i64 0, .int .i64 0, .slice none 0 0] 31 (0, 0))) ∧ (IsS123 w0 w' g s0_0 t207 t208) ∧ (Kept w w' (fun k_ => (P1_4_ k_) ∨ k_ = g)) ∧ (Below w0.heap.size w0 w')) ?_ ?_
  rotate_left
  · intro hCont
    refine two_ (i := 6) (j := 18) (Ni := some 38) (Nj := some 50) #[true, true, true, true, true, true, true, true, true, true, true, true, true, true, true, true, true, true, false, true, false, false, false, false, false] #[true, true, true, true, true, true, false, true, true, true, true, true, true, true, true, true, true, true, true, true, false, false, false, false, false] rfl rfl rfl rfl (two_of HT_.out (by kernel_rfl)) (by decide) (by decide) (fun K hK => ?_) (fun K hK => ?_)
    · skip
      refine goes_ Try.func105 (by kernel_rfl) rfl #[.pointer (some ⟨g, 0, none⟩), .int .i64 (l1_4.length : Int)] (by rfl) rfl rfl (by (try simp only [List.map_toArray, List.map_cons, List.map_nil]); first | done | rfl | (simp only [List.length_drop, List.length_take]; rfl)) ?_
      with_reducible refine (spec_l1Cur_pick.calls g s0_0 t189 t190 (l1_4.length : Int) t200 t201 t202 w0 _ ?side1 ?side2 A44.out).mono ?_
      (case side1 => repeat (first | (with_reducible first | exact HI0.out | apply IsS123.alloc | apply IsS123.drewN | apply IsS123.drew | apply IsS123.set_1 | apply IsS123.set_2 | refine IsS123.far ?_ NB0_186.out _ | refine IsS123.far ?_ NB0_187.out _) | exact HI0.out))
      (case side2 => repeat (first | (with_reducible first | exact HB.out | apply below_alloc | apply pw_below_drewN | apply below_drew1 | refine below_set ?_ (IsS123.ge HI0.out) | refine below_set ?_ GE186.out | refine below_set ?_ GE187.out) | exact HB.out))
      rintro e w63 ⟨rfl, hi, hb, hk⟩
      refine ⟨_, rfl, ?_⟩
      have n0_ := Aside0.mk (Kd.R_mono (Kd.R_keep (IsS123.apart (show IsS123 w0 _ g s0_0 t189 t190 from by repeat (first | (with_reducible first | exact HI0.out | apply IsS123.alloc | apply IsS123.drewN | apply IsS123.drew | apply IsS123.set_1 | apply IsS123.set_2 | refine IsS123.far ?_ NB0_186.out _ | refine IsS123.far ?_ NB0_187.out _) | exact HI0.out)) (by (with_reducible repeat (first | apply Kd.R_alloc | apply Kd.R_drewN | apply Kd.R_drew)); exact HO1_4.out) (by decide)) hk (fun _ h => h.2)) (fun _ h => h.1))
      have n1_ := Aside0.mk (KeepBut.blk hk (g' := gb186) (o := .cells #[.int .i64 a1_0, .int .i64 a1_1, .int .i64 a1_2, .int .i64 a1_3, .slice Ao55 l1_4.length co55] 31 (0, 0)) (by (with_reducible repeat (first | refine blk_drewN ?_ _ | refine blk_drew ?_ | refine blk_alloc ?_ _)); exact BK186.out) NB186_0.out (by simp))
      have n2_ := Aside0.mk (KeepBut.blk hk (g' := gb187) (o := .cells #[.int .i64 0, .int .i64 0, .int .i64 0, .int .i64 0, .slice none 0 0] 31 (0, 0)) (by (with_reducible repeat (first | refine blk_drewN ?_ _ | refine blk_drew ?_ | refine blk_alloc ?_ _)); exact BK187.out) NB187_0.out (by simp))
      have n3_ := Aside0.mk (Kept.of_keep (S := (fun k_ => (P1_4_ k_) ∨ k_ = g)) (by repeat (first | (with_reducible first | exact HK.out | apply Kept.alloc | apply Kept.drewN | apply Kept.drew | refine Kept.setCell ?_ (.inl (.inr rfl)) _ | refine Kept.setCell ?_ (.inr GW186.out) _ | refine Kept.setCell ?_ (.inr GW187.out) _) | exact HK.out)) hk (.inl (.inr rfl)))
      have n4_ := Aside0.mk (hb)
      have n5_ := Aside0.mk (hi)
      clear HO1_4
      clear BK186
      clear BK187
      clear HK
      clear HB
      clear HI0
      have HO1_4 := n0_
      have BK186 := n1_
      have BK187 := n2_
      have HK := n3_
      have HB := n4_
      have HI0 := n5_
      clear n0_ n1_ n2_ n3_ n4_ n5_
      (try clear hb)
      (try clear hb2)
      (try clear hk)
      (try clear hi)
      refine hK.out _ _ ⟨(blk_cell BK186.out 0).trans rfl, (blk_cell BK186.out 1).trans rfl, (blk_cell BK186.out 2).trans rfl, (blk_cell BK186.out 3).trans rfl, (blk_cell BK186.out 4).trans rfl⟩ (fun hHeld => ?_)
      clear hK K
      refine norm_ (a' := ?_) ?_ ?_
      rotate_left
      · show Act.put _ (some 38) _ = _
        simp only [Act.put, List.setIfInBounds_toArray, List.set_cons_zero, List.set_cons_succ, i64_w, i32_w]
        rfl
      refine two_ (i := 18) (j := 20) (Ni := some 50) (Nj := some 52) #[true, true, true, true, true, true, true, true, true, true, true, true, true, true, true, true, true, true, true, true, false, false, false, false, false] #[true, true, true, true, true, true, true, true, true, true, true, true, true, true, true, true, true, true, false, true, true, false, false, false, false] rfl rfl rfl rfl (two_of HT_.out (by kernel_rfl)) (by decide) (by decide) (fun K hK => ?_) (fun K hK => ?_)
      · skip
        refine Kd.R_lit_step (Kd.int .i64) _ 3 ?hg (N := 50) ?hd (xs := ([(-1), ji47, wrap64 ((ji47) - 1)] : List Int)) (inner := [.int .i64 (-1), .int .i64 ji47, .int .i64 (wrap64 ((ji47) - 1))]) (ok := fun _ => True) (okp := fun _ => True) ?hr ?hp (fun _ hk => hk) trivial (Below.refl _ _) (Nat.le_refl _) (by simp) ?_; (case hd => rfl); (case hg => rfl); (case hr => first | (go_simp; done) | (go_simp; rfl)); (case hp => exact (Reps.one (show Kd.M (Kd.int .i64) _ _ _ (-1) [.int .i64 (-1)] from rfl) (Reps.one (show Kd.M (Kd.int .i64) _ _ _ ji47 [.int .i64 ji47] from rfl) (Reps.one (show Kd.M (Kd.int .i64) _ _ _ (wrap64 ((ji47) - 1)) [.int .i64 (wrap64 ((ji47) - 1))] from rfl) (Reps.none _ _)))))
        intro v204 w64 ho65 hb hg_ hnew_
        clear hg_ hnew_
        (first | rw [← Ny203.out] at ho65 | (simp only [Int.reduceToNat] at ho65; rw [← Ny203.out] at ho65))
        have n0_ := Aside0.mk (Kd.R_elder' (by (with_reducible repeat (first | apply Kd.R_alloc | apply Kd.R_drewN | apply Kd.R_drew)); exact HO1_4.out) (Kd.R_base ho65) hb)
        have n1_ := Aside0.mk (Kd.R_lower (Kd.R_new' (Kd.R_newM (M := fun k_ => (P1_4_ k_ ∨ w.heap.size ≤ k_)) ho65 (by first | exact HK.out.1 | exact (show Kept w _ (fun k_ => (P1_4_ k_) ∨ k_ = g) from by repeat (first | (with_reducible first | exact HK.out | apply Kept.alloc | apply Kept.drewN | apply Kept.drew | refine Kept.setCell ?_ (.inl (.inr rfl)) _ | refine Kept.setCell ?_ (.inr GW186.out) _ | refine Kept.setCell ?_ (.inr GW187.out) _) | exact HK.out)).1) (fun k_ h_ => .inr h_)) (Kd.R_lt (by (with_reducible repeat (first | apply Kd.R_alloc | apply Kd.R_drewN | apply Kd.R_drew)); exact HO1_4.out))) (below_size (by repeat (first | (with_reducible first | exact HB.out | apply below_alloc | apply pw_below_drewN | apply below_drew1 | refine below_set ?_ (IsS123.ge HI0.out) | refine below_set ?_ GE186.out | refine below_set ?_ GE187.out) | exact HB.out))))
        have n2_ := Aside0.mk (IsS123.below (by repeat (first | (with_reducible first | exact HI0.out | apply IsS123.alloc | apply IsS123.drewN | apply IsS123.drew | apply IsS123.set_1 | apply IsS123.set_2 | refine IsS123.far ?_ NB0_186.out _ | refine IsS123.far ?_ NB0_187.out _) | exact HI0.out)) hb)
        have n3_ := Aside0.mk (blk_below (g := gb186) (o := .cells #[.int .i64 a1_0, .int .i64 a1_1, .int .i64 a1_2, .int .i64 a1_3, .slice Ao55 l1_4.length co55] 31 (0, 0)) (by (with_reducible repeat (first | refine blk_drewN ?_ _ | refine blk_drew ?_ | refine blk_alloc ?_ _)); exact BK186.out) hb)
        have n4_ := Aside0.mk (blk_below (g := gb187) (o := .cells #[.int .i64 0, .int .i64 0, .int .i64 0, .int .i64 0, .slice none 0 0] 31 (0, 0)) (by (with_reducible repeat (first | refine blk_drewN ?_ _ | refine blk_drew ?_ | refine blk_alloc ?_ _)); exact BK187.out) hb)
        have n5_ := Aside0.mk (Kept.below (S := (fun k_ => (P1_4_ k_) ∨ k_ = g)) (by repeat (first | (with_reducible first | exact HK.out | apply Kept.alloc | apply Kept.drewN | apply Kept.drew | refine Kept.setCell ?_ (.inl (.inr rfl)) _ | refine Kept.setCell ?_ (.inr GW186.out) _ | refine Kept.setCell ?_ (.inr GW187.out) _) | exact HK.out)) hb)
        have n6_ := Aside0.mk (below_step (by repeat (first | (with_reducible first | exact HB.out | apply below_alloc | apply pw_below_drewN | apply below_drew1 | refine below_set ?_ (IsS123.ge HI0.out) | refine below_set ?_ GE186.out | refine below_set ?_ GE187.out) | exact HB.out)) hb)
        clear HO1_4
        clear HI0
        clear BK186
        clear BK187
        clear HK
        clear HB
        have HO1_4 := n0_
        have HO205 := n1_
        have HI0 := n2_
        have BK186 := n3_
        have BK187 := n4_
        have HK := n5_
        have HB := n6_
        clear n0_ n1_ n2_ n3_ n4_ n5_ n6_
        clear hb ho65
        obtain ⟨Ao66, co66, eo66⟩ := Kd.R_slice HO205.out
        subst eo66
        obtain ⟨ado66, fo66, _⟩ := Kd.at_int (Kd.R_reads' HO205.out).2.2 0 (by decide) (by rw [Ny203.out]; simp)
        cases fo66
        refine hK.out _ _ ⟨(blk_cell BK186.out 0).trans rfl, (blk_cell BK186.out 1).trans rfl, (blk_cell BK186.out 2).trans rfl, (blk_cell BK186.out 3).trans rfl, (blk_cell BK186.out 4).trans rfl⟩ (fun hHeld => ?_)
        clear hK K
        refine norm_ (a' := ?_) ?_ ?_
        rotate_left
        · show Act.put _ (some 50) _ = _
          simp only [Act.put, List.setIfInBounds_toArray, List.set_cons_zero, List.set_cons_succ, i64_w, i32_w]
          rfl
        refine one_ (i := 20) (N := some 52) #[true, true, true, true, true, true, true, true, true, true, true, true, true, true, true, true, true, true, true, true, true, false, false, false, false] rfl rfl (one_of HT_.out (by kernel_rfl)) (by decide) (fun K hK => ?_)
        refine goes_ Try.func105 (by kernel_rfl) rfl #[.pointer (some ⟨g, 0, none⟩), .int .i64 3] (by rfl) rfl rfl (by (try simp only [List.map_toArray, List.map_cons, List.map_nil]); first | done | rfl | (simp only [List.length_drop, List.length_take]; rfl)) ?_
        with_reducible refine (spec_l1Cur_pick.calls g s0_0 t201 t202 3 t206 t207 t208 w0 _ ?side1 ?side2 A49.out).mono ?_
        (case side1 => repeat (first | (with_reducible first | exact HI0.out | apply IsS123.alloc | apply IsS123.drewN | apply IsS123.drew | apply IsS123.set_1 | apply IsS123.set_2 | refine IsS123.far ?_ NB0_186.out _ | refine IsS123.far ?_ NB0_187.out _) | exact HI0.out))
        (case side2 => repeat (first | (with_reducible first | exact HB.out | apply below_alloc | apply pw_below_drewN | apply below_drew1 | refine below_set ?_ (IsS123.ge HI0.out) | refine below_set ?_ GE186.out | refine below_set ?_ GE187.out) | exact HB.out))
        rintro e w67 ⟨rfl, hi, hb, hk⟩
        refine ⟨_, rfl, ?_⟩
        have n0_ := Aside0.mk (Kd.R_mono (Kd.R_keep (IsS123.apart (show IsS123 w0 _ g s0_0 t201 t202 from by repeat (first | (with_reducible first | exact HI0.out | apply IsS123.alloc | apply IsS123.drewN | apply IsS123.drew | apply IsS123.set_1 | apply IsS123.set_2 | refine IsS123.far ?_ NB0_186.out _ | refine IsS123.far ?_ NB0_187.out _) | exact HI0.out)) (by (with_reducible repeat (first | apply Kd.R_alloc | apply Kd.R_drewN | apply Kd.R_drew)); exact HO1_4.out) (by decide)) hk (fun _ h => h.2)) (fun _ h => h.1))
        have n1_ := Aside0.mk (KeepBut.blk hk (g' := gb186) (o := .cells #[.int .i64 a1_0, .int .i64 a1_1, .int .i64 a1_2, .int .i64 a1_3, .slice Ao55 l1_4.length co55] 31 (0, 0)) (by (with_reducible repeat (first | refine blk_drewN ?_ _ | refine blk_drew ?_ | refine blk_alloc ?_ _)); exact BK186.out) NB186_0.out (by simp))
        have n2_ := Aside0.mk (KeepBut.blk hk (g' := gb187) (o := .cells #[.int .i64 0, .int .i64 0, .int .i64 0, .int .i64 0, .slice none 0 0] 31 (0, 0)) (by (with_reducible repeat (first | refine blk_drewN ?_ _ | refine blk_drew ?_ | refine blk_alloc ?_ _)); exact BK187.out) NB187_0.out (by simp))
        have n3_ := Aside0.mk (Kd.R_mono (Kd.R_keep (IsS123.apart (show IsS123 w0 _ g s0_0 t201 t202 from by repeat (first | (with_reducible first | exact HI0.out | apply IsS123.alloc | apply IsS123.drewN | apply IsS123.drew | apply IsS123.set_1 | apply IsS123.set_2 | refine IsS123.far ?_ NB0_186.out _ | refine IsS123.far ?_ NB0_187.out _) | exact HI0.out)) (by (with_reducible repeat (first | apply Kd.R_alloc | apply Kd.R_drewN | apply Kd.R_drew)); exact HO205.out) (by decide)) hk (fun _ h => h.2)) (fun _ h => h.1))
        have n4_ := Aside0.mk (Kept.of_keep (S := (fun k_ => (P1_4_ k_) ∨ k_ = g)) (by repeat (first | (with_reducible first | exact HK.out | apply Kept.alloc | apply Kept.drewN | apply Kept.drew | refine Kept.setCell ?_ (.inl (.inr rfl)) _ | refine Kept.setCell ?_ (.inr GW186.out) _ | refine Kept.setCell ?_ (.inr GW187.out) _) | exact HK.out)) hk (.inl (.inr rfl)))
        have n5_ := Aside0.mk (hb)
        have n6_ := Aside0.mk (hi)
        clear HO1_4
        clear BK186
        clear BK187
        clear HO205
        clear HK
        clear HB
        clear HI0
        have HO1_4 := n0_
        have BK186 := n1_
        have BK187 := n2_
        have HO205 := n3_
        have HK := n4_
        have HB := n5_
        have HI0 := n6_
        clear n0_ n1_ n2_ n3_ n4_ n5_ n6_
        (try clear hb)
        (try clear hb2)
        (try clear hk)
        (try clear hi)
        refine hK.out _ _ ⟨(blk_cell BK186.out 0).trans rfl, (blk_cell BK186.out 1).trans rfl, (blk_cell BK186.out 2).trans rfl, (blk_cell BK186.out 3).trans rfl, (blk_cell BK186.out 4).trans rfl⟩ (fun hHeld => ?_)
        clear hK K
        refine norm_ (a' := ?_) ?_ ?_
        rotate_left
        · show Act.put _ (some 52) _ = _
          simp only [Act.put, List.setIfInBounds_toArray, List.set_cons_zero, List.set_cons_succ, i64_w, i32_w]
          rfl
        exact norm_ (by simp only [putAll, Act.put, List.setIfInBounds_toArray, List.set_cons_zero, List.set_cons_succ]) (hCont (.slice (some ado66) y203.length co66, ado66) _ ⟨hHeld, (by (with_reducible repeat (first | apply Kd.R_alloc | apply Kd.R_drewN | apply Kd.R_drew)); exact HO1_4.out), (by (with_reducible repeat (first | apply Kd.R_alloc | apply Kd.R_drewN | apply Kd.R_drew)); exact Kd.R_mono HO205.out (fun _ hk => ⟨hk.1.1, hk.2⟩)), ⟨_, rfl⟩, (by (with_reducible repeat (first | refine blk_drewN ?_ _ | refine blk_drew ?_ | refine blk_alloc ?_ _)); exact BK186.out), (by (with_reducible repeat (first | refine blk_drewN ?_ _ | refine blk_drew ?_ | refine blk_alloc ?_ _)); exact BK187.out), (by repeat (first | (with_reducible first | exact HI0.out | apply IsS123.alloc | apply IsS123.drewN | apply IsS123.drew | apply IsS123.set_1 | apply IsS123.set_2 | refine IsS123.far ?_ NB0_186.out _ | refine IsS123.far ?_ NB0_187.out _) | exact HI0.out)), (by repeat (first | (with_reducible first | exact HK.out | apply Kept.alloc | apply Kept.drewN | apply Kept.drew | refine Kept.setCell ?_ (.inl (.inr rfl)) _ | refine Kept.setCell ?_ (.inr GW186.out) _ | refine Kept.setCell ?_ (.inr GW187.out) _) | exact HK.out)), (by repeat (first | (with_reducible first | exact HB.out | apply below_alloc | apply pw_below_drewN | apply below_drew1 | refine below_set ?_ (IsS123.ge HI0.out) | refine below_set ?_ GE186.out | refine below_set ?_ GE187.out) | exact HB.out))⟩)
      · skip
        refine goes_ Try.func105 (by kernel_rfl) rfl #[.pointer (some ⟨g, 0, none⟩), .int .i64 3] (by rfl) rfl rfl (by (try simp only [List.map_toArray, List.map_cons, List.map_nil]); first | done | rfl | (simp only [List.length_drop, List.length_take]; rfl)) ?_
        with_reducible refine (spec_l1Cur_pick.calls g s0_0 t201 t202 3 t206 t207 t208 w0 _ ?side1 ?side2 A49.out).mono ?_
        (case side1 => repeat (first | (with_reducible first | exact HI0.out | apply IsS123.alloc | apply IsS123.drewN | apply IsS123.drew | apply IsS123.set_1 | apply IsS123.set_2 | refine IsS123.far ?_ NB0_186.out _ | refine IsS123.far ?_ NB0_187.out _) | exact HI0.out))
        (case side2 => repeat (first | (with_reducible first | exact HB.out | apply below_alloc | apply pw_below_drewN | apply below_drew1 | refine below_set ?_ (IsS123.ge HI0.out) | refine below_set ?_ GE186.out | refine below_set ?_ GE187.out) | exact HB.out))
        rintro e w64 ⟨rfl, hi, hb, hk⟩
        refine ⟨_, rfl, ?_⟩
        have n0_ := Aside0.mk (Kd.R_mono (Kd.R_keep (IsS123.apart (show IsS123 w0 _ g s0_0 t201 t202 from by repeat (first | (with_reducible first | exact HI0.out | apply IsS123.alloc | apply IsS123.drewN | apply IsS123.drew | apply IsS123.set_1 | apply IsS123.set_2 | refine IsS123.far ?_ NB0_186.out _ | refine IsS123.far ?_ NB0_187.out _) | exact HI0.out)) (by (with_reducible repeat (first | apply Kd.R_alloc | apply Kd.R_drewN | apply Kd.R_drew)); exact HO1_4.out) (by decide)) hk (fun _ h => h.2)) (fun _ h => h.1))
        have n1_ := Aside0.mk (KeepBut.blk hk (g' := gb186) (o := .cells #[.int .i64 a1_0, .int .i64 a1_1, .int .i64 a1_2, .int .i64 a1_3, .slice Ao55 l1_4.length co55] 31 (0, 0)) (by (with_reducible repeat (first | refine blk_drewN ?_ _ | refine blk_drew ?_ | refine blk_alloc ?_ _)); exact BK186.out) NB186_0.out (by simp))
        have n2_ := Aside0.mk (KeepBut.blk hk (g' := gb187) (o := .cells #[.int .i64 0, .int .i64 0, .int .i64 0, .int .i64 0, .slice none 0 0] 31 (0, 0)) (by (with_reducible repeat (first | refine blk_drewN ?_ _ | refine blk_drew ?_ | refine blk_alloc ?_ _)); exact BK187.out) NB187_0.out (by simp))
        have n3_ := Aside0.mk (Kept.of_keep (S := (fun k_ => (P1_4_ k_) ∨ k_ = g)) (by repeat (first | (with_reducible first | exact HK.out | apply Kept.alloc | apply Kept.drewN | apply Kept.drew | refine Kept.setCell ?_ (.inl (.inr rfl)) _ | refine Kept.setCell ?_ (.inr GW186.out) _ | refine Kept.setCell ?_ (.inr GW187.out) _) | exact HK.out)) hk (.inl (.inr rfl)))
        have n4_ := Aside0.mk (hb)
        have n5_ := Aside0.mk (hi)
        clear HO1_4
        clear BK186
        clear BK187
        clear HK
        clear HB
        clear HI0
        have HO1_4 := n0_
        have BK186 := n1_
        have BK187 := n2_
        have HK := n3_
        have HB := n4_
        have HI0 := n5_
        clear n0_ n1_ n2_ n3_ n4_ n5_
        (try clear hb)
        (try clear hb2)
        (try clear hk)
        (try clear hi)
        refine hK.out _ _ ⟨(blk_cell BK186.out 0).trans rfl, (blk_cell BK186.out 1).trans rfl, (blk_cell BK186.out 2).trans rfl, (blk_cell BK186.out 3).trans rfl, (blk_cell BK186.out 4).trans rfl⟩ (fun hHeld => ?_)
        clear hK K
        refine norm_ (a' := ?_) ?_ ?_
        rotate_left
        · show Act.put _ (some 52) _ = _
          simp only [Act.put, List.setIfInBounds_toArray, List.set_cons_zero, List.set_cons_succ, i64_w, i32_w]
          rfl
        refine one_ (i := 18) (N := some 50) #[true, true, true, true, true, true, true, true, true, true, true, true, true, true, true, true, true, true, true, true, true, false, false, false, false] rfl rfl (one_of HT_.out (by kernel_rfl)) (by decide) (fun K hK => ?_)
        refine Kd.R_lit_step (Kd.int .i64) _ 3 ?hg (N := 50) ?hd (xs := ([(-1), ji47, wrap64 ((ji47) - 1)] : List Int)) (inner := [.int .i64 (-1), .int .i64 ji47, .int .i64 (wrap64 ((ji47) - 1))]) (ok := fun _ => True) (okp := fun _ => True) ?hr ?hp (fun _ hk => hk) trivial (Below.refl _ _) (Nat.le_refl _) (by simp) ?_; (case hd => rfl); (case hg => rfl); (case hr => first | (go_simp; done) | (go_simp; rfl)); (case hp => exact (Reps.one (show Kd.M (Kd.int .i64) _ _ _ (-1) [.int .i64 (-1)] from rfl) (Reps.one (show Kd.M (Kd.int .i64) _ _ _ ji47 [.int .i64 ji47] from rfl) (Reps.one (show Kd.M (Kd.int .i64) _ _ _ (wrap64 ((ji47) - 1)) [.int .i64 (wrap64 ((ji47) - 1))] from rfl) (Reps.none _ _)))))
        intro v204 w65 ho66 hb hg_ hnew_
        clear hg_ hnew_
        (first | rw [← Ny203.out] at ho66 | (simp only [Int.reduceToNat] at ho66; rw [← Ny203.out] at ho66))
        have n0_ := Aside0.mk (Kd.R_elder' (by (with_reducible repeat (first | apply Kd.R_alloc | apply Kd.R_drewN | apply Kd.R_drew)); exact HO1_4.out) (Kd.R_base ho66) hb)
        have n1_ := Aside0.mk (Kd.R_lower (Kd.R_new' (Kd.R_newM (M := fun k_ => (P1_4_ k_ ∨ w.heap.size ≤ k_)) ho66 (by first | exact HK.out.1 | exact (show Kept w _ (fun k_ => (P1_4_ k_) ∨ k_ = g) from by repeat (first | (with_reducible first | exact HK.out | apply Kept.alloc | apply Kept.drewN | apply Kept.drew | refine Kept.setCell ?_ (.inl (.inr rfl)) _ | refine Kept.setCell ?_ (.inr GW186.out) _ | refine Kept.setCell ?_ (.inr GW187.out) _) | exact HK.out)).1) (fun k_ h_ => .inr h_)) (Kd.R_lt (by (with_reducible repeat (first | apply Kd.R_alloc | apply Kd.R_drewN | apply Kd.R_drew)); exact HO1_4.out))) (below_size (by repeat (first | (with_reducible first | exact HB.out | apply below_alloc | apply pw_below_drewN | apply below_drew1 | refine below_set ?_ (IsS123.ge HI0.out) | refine below_set ?_ GE186.out | refine below_set ?_ GE187.out) | exact HB.out))))
        have n2_ := Aside0.mk (IsS123.below (by repeat (first | (with_reducible first | exact HI0.out | apply IsS123.alloc | apply IsS123.drewN | apply IsS123.drew | apply IsS123.set_1 | apply IsS123.set_2 | refine IsS123.far ?_ NB0_186.out _ | refine IsS123.far ?_ NB0_187.out _) | exact HI0.out)) hb)
        have n3_ := Aside0.mk (blk_below (g := gb186) (o := .cells #[.int .i64 a1_0, .int .i64 a1_1, .int .i64 a1_2, .int .i64 a1_3, .slice Ao55 l1_4.length co55] 31 (0, 0)) (by (with_reducible repeat (first | refine blk_drewN ?_ _ | refine blk_drew ?_ | refine blk_alloc ?_ _)); exact BK186.out) hb)
        have n4_ := Aside0.mk (blk_below (g := gb187) (o := .cells #[.int .i64 0, .int .i64 0, .int .i64 0, .int .i64 0, .slice none 0 0] 31 (0, 0)) (by (with_reducible repeat (first | refine blk_drewN ?_ _ | refine blk_drew ?_ | refine blk_alloc ?_ _)); exact BK187.out) hb)
        have n5_ := Aside0.mk (Kept.below (S := (fun k_ => (P1_4_ k_) ∨ k_ = g)) (by repeat (first | (with_reducible first | exact HK.out | apply Kept.alloc | apply Kept.drewN | apply Kept.drew | refine Kept.setCell ?_ (.inl (.inr rfl)) _ | refine Kept.setCell ?_ (.inr GW186.out) _ | refine Kept.setCell ?_ (.inr GW187.out) _) | exact HK.out)) hb)
        have n6_ := Aside0.mk (below_step (by repeat (first | (with_reducible first | exact HB.out | apply below_alloc | apply pw_below_drewN | apply below_drew1 | refine below_set ?_ (IsS123.ge HI0.out) | refine below_set ?_ GE186.out | refine below_set ?_ GE187.out) | exact HB.out)) hb)
        clear HO1_4
        clear HI0
        clear BK186
        clear BK187
        clear HK
        clear HB
        have HO1_4 := n0_
        have HO205 := n1_
        have HI0 := n2_
        have BK186 := n3_
        have BK187 := n4_
        have HK := n5_
        have HB := n6_
        clear n0_ n1_ n2_ n3_ n4_ n5_ n6_
        clear hb ho66
        obtain ⟨Ao67, co67, eo67⟩ := Kd.R_slice HO205.out
        subst eo67
        obtain ⟨ado67, fo67, _⟩ := Kd.at_int (Kd.R_reads' HO205.out).2.2 0 (by decide) (by rw [Ny203.out]; simp)
        cases fo67
        refine hK.out _ _ ⟨(blk_cell BK186.out 0).trans rfl, (blk_cell BK186.out 1).trans rfl, (blk_cell BK186.out 2).trans rfl, (blk_cell BK186.out 3).trans rfl, (blk_cell BK186.out 4).trans rfl⟩ (fun hHeld => ?_)
        clear hK K
        refine norm_ (a' := ?_) ?_ ?_
        rotate_left
        · show Act.put _ (some 50) _ = _
          simp only [Act.put, List.setIfInBounds_toArray, List.set_cons_zero, List.set_cons_succ, i64_w, i32_w]
          rfl
        exact norm_ (by simp only [putAll, Act.put, List.setIfInBounds_toArray, List.set_cons_zero, List.set_cons_succ]) (hCont (.slice (some ado67) y203.length co67, ado67) _ ⟨hHeld, (by (with_reducible repeat (first | apply Kd.R_alloc | apply Kd.R_drewN | apply Kd.R_drew)); exact HO1_4.out), (by (with_reducible repeat (first | apply Kd.R_alloc | apply Kd.R_drewN | apply Kd.R_drew)); exact Kd.R_mono HO205.out (fun _ hk => ⟨hk.1.1, hk.2⟩)), ⟨_, rfl⟩, (by (with_reducible repeat (first | refine blk_drewN ?_ _ | refine blk_drew ?_ | refine blk_alloc ?_ _)); exact BK186.out), (by (with_reducible repeat (first | refine blk_drewN ?_ _ | refine blk_drew ?_ | refine blk_alloc ?_ _)); exact BK187.out), (by repeat (first | (with_reducible first | exact HI0.out | apply IsS123.alloc | apply IsS123.drewN | apply IsS123.drew | apply IsS123.set_1 | apply IsS123.set_2 | refine IsS123.far ?_ NB0_186.out _ | refine IsS123.far ?_ NB0_187.out _) | exact HI0.out)), (by repeat (first | (with_reducible first | exact HK.out | apply Kept.alloc | apply Kept.drewN | apply Kept.drew | refine Kept.setCell ?_ (.inl (.inr rfl)) _ | refine Kept.setCell ?_ (.inr GW186.out) _ | refine Kept.setCell ?_ (.inr GW187.out) _) | exact HK.out)), (by repeat (first | (with_reducible first | exact HB.out | apply below_alloc | apply pw_below_drewN | apply below_drew1 | refine below_set ?_ (IsS123.ge HI0.out) | refine below_set ?_ GE186.out | refine below_set ?_ GE187.out) | exact HB.out))⟩)
    · skip
      refine Kd.R_lit_step (Kd.int .i64) _ 3 ?hg (N := 50) ?hd (xs := ([(-1), ji47, wrap64 ((ji47) - 1)] : List Int)) (inner := [.int .i64 (-1), .int .i64 ji47, .int .i64 (wrap64 ((ji47) - 1))]) (ok := fun _ => True) (okp := fun _ => True) ?hr ?hp (fun _ hk => hk) trivial (Below.refl _ _) (Nat.le_refl _) (by simp) ?_; (case hd => rfl); (case hg => rfl); (case hr => first | (go_simp; done) | (go_simp; rfl)); (case hp => exact (Reps.one (show Kd.M (Kd.int .i64) _ _ _ (-1) [.int .i64 (-1)] from rfl) (Reps.one (show Kd.M (Kd.int .i64) _ _ _ ji47 [.int .i64 ji47] from rfl) (Reps.one (show Kd.M (Kd.int .i64) _ _ _ (wrap64 ((ji47) - 1)) [.int .i64 (wrap64 ((ji47) - 1))] from rfl) (Reps.none _ _)))))
      intro v204 w63 ho64 hb hg_ hnew_
      clear hg_ hnew_
      (first | rw [← Ny203.out] at ho64 | (simp only [Int.reduceToNat] at ho64; rw [← Ny203.out] at ho64))
      have n0_ := Aside0.mk (Kd.R_elder' (by (with_reducible repeat (first | apply Kd.R_alloc | apply Kd.R_drewN | apply Kd.R_drew)); exact HO1_4.out) (Kd.R_base ho64) hb)
      have n1_ := Aside0.mk (Kd.R_lower (Kd.R_new' (Kd.R_newM (M := fun k_ => (P1_4_ k_ ∨ w.heap.size ≤ k_)) ho64 (by first | exact HK.out.1 | exact (show Kept w _ (fun k_ => (P1_4_ k_) ∨ k_ = g) from by repeat (first | (with_reducible first | exact HK.out | apply Kept.alloc | apply Kept.drewN | apply Kept.drew | refine Kept.setCell ?_ (.inl (.inr rfl)) _ | refine Kept.setCell ?_ (.inr GW186.out) _ | refine Kept.setCell ?_ (.inr GW187.out) _) | exact HK.out)).1) (fun k_ h_ => .inr h_)) (Kd.R_lt (by (with_reducible repeat (first | apply Kd.R_alloc | apply Kd.R_drewN | apply Kd.R_drew)); exact HO1_4.out))) (below_size (by repeat (first | (with_reducible first | exact HB.out | apply below_alloc | apply pw_below_drewN | apply below_drew1 | refine below_set ?_ (IsS123.ge HI0.out) | refine below_set ?_ GE186.out | refine below_set ?_ GE187.out) | exact HB.out))))
      have n2_ := Aside0.mk (IsS123.below (by repeat (first | (with_reducible first | exact HI0.out | apply IsS123.alloc | apply IsS123.drewN | apply IsS123.drew | apply IsS123.set_1 | apply IsS123.set_2 | refine IsS123.far ?_ NB0_186.out _ | refine IsS123.far ?_ NB0_187.out _) | exact HI0.out)) hb)
      have n3_ := Aside0.mk (blk_below (g := gb186) (o := .cells #[.int .i64 a1_0, .int .i64 a1_1, .int .i64 a1_2, .int .i64 a1_3, .slice Ao55 l1_4.length co55] 31 (0, 0)) (by (with_reducible repeat (first | refine blk_drewN ?_ _ | refine blk_drew ?_ | refine blk_alloc ?_ _)); exact BK186.out) hb)
      have n4_ := Aside0.mk (blk_below (g := gb187) (o := .cells #[.int .i64 0, .int .i64 0, .int .i64 0, .int .i64 0, .slice none 0 0] 31 (0, 0)) (by (with_reducible repeat (first | refine blk_drewN ?_ _ | refine blk_drew ?_ | refine blk_alloc ?_ _)); exact BK187.out) hb)
      have n5_ := Aside0.mk (Kept.below (S := (fun k_ => (P1_4_ k_) ∨ k_ = g)) (by repeat (first | (with_reducible first | exact HK.out | apply Kept.alloc | apply Kept.drewN | apply Kept.drew | refine Kept.setCell ?_ (.inl (.inr rfl)) _ | refine Kept.setCell ?_ (.inr GW186.out) _ | refine Kept.setCell ?_ (.inr GW187.out) _) | exact HK.out)) hb)
      have n6_ := Aside0.mk (below_step (by repeat (first | (with_reducible first | exact HB.out | apply below_alloc | apply pw_below_drewN | apply below_drew1 | refine below_set ?_ (IsS123.ge HI0.out) | refine below_set ?_ GE186.out | refine below_set ?_ GE187.out) | exact HB.out)) hb)
      clear HO1_4
      clear HI0
      clear BK186
      clear BK187
      clear HK
      clear HB
      have HO1_4 := n0_
      have HO205 := n1_
      have HI0 := n2_
      have BK186 := n3_
      have BK187 := n4_
      have HK := n5_
      have HB := n6_
      clear n0_ n1_ n2_ n3_ n4_ n5_ n6_
      clear hb ho64
      obtain ⟨Ao65, co65, eo65⟩ := Kd.R_slice HO205.out
      subst eo65
      obtain ⟨ado65, fo65, _⟩ := Kd.at_int (Kd.R_reads' HO205.out).2.2 0 (by decide) (by rw [Ny203.out]; simp)
      cases fo65
      refine hK.out _ _ ⟨(blk_cell BK186.out 0).trans rfl, (blk_cell BK186.out 1).trans rfl, (blk_cell BK186.out 2).trans rfl, (blk_cell BK186.out 3).trans rfl, (blk_cell BK186.out 4).trans rfl⟩ (fun hHeld => ?_)
      clear hK K
      refine norm_ (a' := ?_) ?_ ?_
      rotate_left
      · show Act.put _ (some 50) _ = _
        simp only [Act.put, List.setIfInBounds_toArray, List.set_cons_zero, List.set_cons_succ, i64_w, i32_w]
        rfl
      refine one_ (i := 6) (N := some 38) #[true, true, true, true, true, true, true, true, true, true, true, true, true, true, true, true, true, true, true, true, false, false, false, false, false] rfl rfl (one_of HT_.out (by kernel_rfl)) (by decide) (fun K hK => ?_)
      refine goes_ Try.func105 (by kernel_rfl) rfl #[.pointer (some ⟨g, 0, none⟩), .int .i64 (l1_4.length : Int)] (by rfl) rfl rfl (by (try simp only [List.map_toArray, List.map_cons, List.map_nil]); first | done | rfl | (simp only [List.length_drop, List.length_take]; rfl)) ?_
      with_reducible refine (spec_l1Cur_pick.calls g s0_0 t189 t190 (l1_4.length : Int) t200 t201 t202 w0 _ ?side1 ?side2 A44.out).mono ?_
      (case side1 => repeat (first | (with_reducible first | exact HI0.out | apply IsS123.alloc | apply IsS123.drewN | apply IsS123.drew | apply IsS123.set_1 | apply IsS123.set_2 | refine IsS123.far ?_ NB0_186.out _ | refine IsS123.far ?_ NB0_187.out _) | exact HI0.out))
      (case side2 => repeat (first | (with_reducible first | exact HB.out | apply below_alloc | apply pw_below_drewN | apply below_drew1 | refine below_set ?_ (IsS123.ge HI0.out) | refine below_set ?_ GE186.out | refine below_set ?_ GE187.out) | exact HB.out))
      rintro e w66 ⟨rfl, hi, hb, hk⟩
      refine ⟨_, rfl, ?_⟩
      have n0_ := Aside0.mk (Kd.R_mono (Kd.R_keep (IsS123.apart (show IsS123 w0 _ g s0_0 t189 t190 from by repeat (first | (with_reducible first | exact HI0.out | apply IsS123.alloc | apply IsS123.drewN | apply IsS123.drew | apply IsS123.set_1 | apply IsS123.set_2 | refine IsS123.far ?_ NB0_186.out _ | refine IsS123.far ?_ NB0_187.out _) | exact HI0.out)) (by (with_reducible repeat (first | apply Kd.R_alloc | apply Kd.R_drewN | apply Kd.R_drew)); exact HO1_4.out) (by decide)) hk (fun _ h => h.2)) (fun _ h => h.1))
      have n1_ := Aside0.mk (KeepBut.blk hk (g' := gb186) (o := .cells #[.int .i64 a1_0, .int .i64 a1_1, .int .i64 a1_2, .int .i64 a1_3, .slice Ao55 l1_4.length co55] 31 (0, 0)) (by (with_reducible repeat (first | refine blk_drewN ?_ _ | refine blk_drew ?_ | refine blk_alloc ?_ _)); exact BK186.out) NB186_0.out (by simp))
      have n2_ := Aside0.mk (KeepBut.blk hk (g' := gb187) (o := .cells #[.int .i64 0, .int .i64 0, .int .i64 0, .int .i64 0, .slice none 0 0] 31 (0, 0)) (by (with_reducible repeat (first | refine blk_drewN ?_ _ | refine blk_drew ?_ | refine blk_alloc ?_ _)); exact BK187.out) NB187_0.out (by simp))
      have n3_ := Aside0.mk (Kd.R_mono (Kd.R_keep (IsS123.apart (show IsS123 w0 _ g s0_0 t189 t190 from by repeat (first | (with_reducible first | exact HI0.out | apply IsS123.alloc | apply IsS123.drewN | apply IsS123.drew | apply IsS123.set_1 | apply IsS123.set_2 | refine IsS123.far ?_ NB0_186.out _ | refine IsS123.far ?_ NB0_187.out _) | exact HI0.out)) (by (with_reducible repeat (first | apply Kd.R_alloc | apply Kd.R_drewN | apply Kd.R_drew)); exact HO205.out) (by decide)) hk (fun _ h => h.2)) (fun _ h => h.1))
      have n4_ := Aside0.mk (Kept.of_keep (S := (fun k_ => (P1_4_ k_) ∨ k_ = g)) (by repeat (first | (with_reducible first | exact HK.out | apply Kept.alloc | apply Kept.drewN | apply Kept.drew | refine Kept.setCell ?_ (.inl (.inr rfl)) _ | refine Kept.setCell ?_ (.inr GW186.out) _ | refine Kept.setCell ?_ (.inr GW187.out) _) | exact HK.out)) hk (.inl (.inr rfl)))
      have n5_ := Aside0.mk (hb)
      have n6_ := Aside0.mk (hi)
      clear HO1_4
      clear BK186
      clear BK187
      clear HO205
      clear HK
      clear HB
      clear HI0
      have HO1_4 := n0_
      have BK186 := n1_
      have BK187 := n2_
      have HO205 := n3_
      have HK := n4_
      have HB := n5_
      have HI0 := n6_
      clear n0_ n1_ n2_ n3_ n4_ n5_ n6_
      (try clear hb)
      (try clear hb2)
      (try clear hk)
      (try clear hi)
      refine hK.out _ _ ⟨(blk_cell BK186.out 0).trans rfl, (blk_cell BK186.out 1).trans rfl, (blk_cell BK186.out 2).trans rfl, (blk_cell BK186.out 3).trans rfl, (blk_cell BK186.out 4).trans rfl⟩ (fun hHeld => ?_)
      clear hK K
      refine norm_ (a' := ?_) ?_ ?_
      rotate_left
      · show Act.put _ (some 38) _ = _
        simp only [Act.put, List.setIfInBounds_toArray, List.set_cons_zero, List.set_cons_succ, i64_w, i32_w]
        rfl
      refine one_ (i := 20) (N := some 52) #[true, true, true, true, true, true, true, true, true, true, true, true, true, true, true, true, true, true, true, true, true, false, false, false, false] rfl rfl (one_of HT_.out (by kernel_rfl)) (by decide) (fun K hK => ?_)
      refine goes_ Try.func105 (by kernel_rfl) rfl #[.pointer (some ⟨g, 0, none⟩), .int .i64 3] (by rfl) rfl rfl (by (try simp only [List.map_toArray, List.map_cons, List.map_nil]); first | done | rfl | (simp only [List.length_drop, List.length_take]; rfl)) ?_
      with_reducible refine (spec_l1Cur_pick.calls g s0_0 t201 t202 3 t206 t207 t208 w0 _ ?side1 ?side2 A49.out).mono ?_
      (case side1 => repeat (first | (with_reducible first | exact HI0.out | apply IsS123.alloc | apply IsS123.drewN | apply IsS123.drew | apply IsS123.set_1 | apply IsS123.set_2 | refine IsS123.far ?_ NB0_186.out _ | refine IsS123.far ?_ NB0_187.out _) | exact HI0.out))
      (case side2 => repeat (first | (with_reducible first | exact HB.out | apply below_alloc | apply pw_below_drewN | apply below_drew1 | refine below_set ?_ (IsS123.ge HI0.out) | refine below_set ?_ GE186.out | refine below_set ?_ GE187.out) | exact HB.out))
      rintro e w67 ⟨rfl, hi, hb, hk⟩
      refine ⟨_, rfl, ?_⟩
      have n0_ := Aside0.mk (Kd.R_mono (Kd.R_keep (IsS123.apart (show IsS123 w0 _ g s0_0 t201 t202 from by repeat (first | (with_reducible first | exact HI0.out | apply IsS123.alloc | apply IsS123.drewN | apply IsS123.drew | apply IsS123.set_1 | apply IsS123.set_2 | refine IsS123.far ?_ NB0_186.out _ | refine IsS123.far ?_ NB0_187.out _) | exact HI0.out)) (by (with_reducible repeat (first | apply Kd.R_alloc | apply Kd.R_drewN | apply Kd.R_drew)); exact HO1_4.out) (by decide)) hk (fun _ h => h.2)) (fun _ h => h.1))
      have n1_ := Aside0.mk (KeepBut.blk hk (g' := gb186) (o := .cells #[.int .i64 a1_0, .int .i64 a1_1, .int .i64 a1_2, .int .i64 a1_3, .slice Ao55 l1_4.length co55] 31 (0, 0)) (by (with_reducible repeat (first | refine blk_drewN ?_ _ | refine blk_drew ?_ | refine blk_alloc ?_ _)); exact BK186.out) NB186_0.out (by simp))
      have n2_ := Aside0.mk (KeepBut.blk hk (g' := gb187) (o := .cells #[.int .i64 0, .int .i64 0, .int .i64 0, .int .i64 0, .slice none 0 0] 31 (0, 0)) (by (with_reducible repeat (first | refine blk_drewN ?_ _ | refine blk_drew ?_ | refine blk_alloc ?_ _)); exact BK187.out) NB187_0.out (by simp))
      have n3_ := Aside0.mk (Kd.R_mono (Kd.R_keep (IsS123.apart (show IsS123 w0 _ g s0_0 t201 t202 from by repeat (first | (with_reducible first | exact HI0.out | apply IsS123.alloc | apply IsS123.drewN | apply IsS123.drew | apply IsS123.set_1 | apply IsS123.set_2 | refine IsS123.far ?_ NB0_186.out _ | refine IsS123.far ?_ NB0_187.out _) | exact HI0.out)) (by (with_reducible repeat (first | apply Kd.R_alloc | apply Kd.R_drewN | apply Kd.R_drew)); exact HO205.out) (by decide)) hk (fun _ h => h.2)) (fun _ h => h.1))
      have n4_ := Aside0.mk (Kept.of_keep (S := (fun k_ => (P1_4_ k_) ∨ k_ = g)) (by repeat (first | (with_reducible first | exact HK.out | apply Kept.alloc | apply Kept.drewN | apply Kept.drew | refine Kept.setCell ?_ (.inl (.inr rfl)) _ | refine Kept.setCell ?_ (.inr GW186.out) _ | refine Kept.setCell ?_ (.inr GW187.out) _) | exact HK.out)) hk (.inl (.inr rfl)))
      have n5_ := Aside0.mk (hb)
      have n6_ := Aside0.mk (hi)
      clear HO1_4
      clear BK186
      clear BK187
      clear HO205
      clear HK
      clear HB
      clear HI0
      have HO1_4 := n0_
      have BK186 := n1_
      have BK187 := n2_
      have HO205 := n3_
      have HK := n4_
      have HB := n5_
      have HI0 := n6_
      clear n0_ n1_ n2_ n3_ n4_ n5_ n6_
      (try clear hb)
      (try clear hb2)
      (try clear hk)
      (try clear hi)
      refine hK.out _ _ ⟨(blk_cell BK186.out 0).trans rfl, (blk_cell BK186.out 1).trans rfl, (blk_cell BK186.out 2).trans rfl, (blk_cell BK186.out 3).trans rfl, (blk_cell BK186.out 4).trans rfl⟩ (fun hHeld => ?_)
      clear hK K
      refine norm_ (a' := ?_) ?_ ?_
      rotate_left
      · show Act.put _ (some 52) _ = _
        simp only [Act.put, List.setIfInBounds_toArray, List.set_cons_zero, List.set_cons_succ, i64_w, i32_w]
        rfl
      exact norm_ (by simp only [putAll, Act.put, List.setIfInBounds_toArray, List.set_cons_zero, List.set_cons_succ]) (hCont (.slice (some ado65) y203.length co65, ado65) _ ⟨hHeld, (by (with_reducible repeat (first | apply Kd.R_alloc | apply Kd.R_drewN | apply Kd.R_drew)); exact HO1_4.out), (by (with_reducible repeat (first | apply Kd.R_alloc | apply Kd.R_drewN | apply Kd.R_drew)); exact Kd.R_mono HO205.out (fun _ hk => ⟨hk.1.1, hk.2⟩)), ⟨_, rfl⟩, (by (with_reducible repeat (first | refine blk_drewN ?_ _ | refine blk_drew ?_ | refine blk_alloc ?_ _)); exact BK186.out), (by (with_reducible repeat (first | refine blk_drewN ?_ _ | refine blk_drew ?_ | refine blk_alloc ?_ _)); exact BK187.out), (by repeat (first | (with_reducible first | exact HI0.out | apply IsS123.alloc | apply IsS123.drewN | apply IsS123.drew | apply IsS123.set_1 | apply IsS123.set_2 | refine IsS123.far ?_ NB0_186.out _ | refine IsS123.far ?_ NB0_187.out _) | exact HI0.out)), (by repeat (first | (with_reducible first | exact HK.out | apply Kept.alloc | apply Kept.drewN | apply Kept.drew | refine Kept.setCell ?_ (.inl (.inr rfl)) _ | refine Kept.setCell ?_ (.inr GW186.out) _ | refine Kept.setCell ?_ (.inr GW187.out) _) | exact HK.out)), (by repeat (first | (with_reducible first | exact HB.out | apply below_alloc | apply pw_below_drewN | apply below_drew1 | refine below_set ?_ (IsS123.ge HI0.out) | refine below_set ?_ GE186.out | refine below_set ?_ GE187.out) | exact HB.out))⟩)
  rintro ⟨v204, adz_v204⟩ w68 ⟨hS_, h0_, h1_, h2_, h3_, h4_, h5_, h6_, h7_⟩
  have n0_ : Aside0 (Kd.R (Kd.int .i64) 3 w68 w0.heap.size (fun k_ => (P1_4_ k_ ∨ w.heap.size ≤ k_) ∧ some k_ ≠ (v204 : Value).ownBlock) (.slice Ao55 l1_4.length co55) l1_4) := ⟨h0_⟩
  have n1_ : Aside0 (Kd.R (Kd.int .i64) 3 w68 w0.heap.size (fun k_ => (P1_4_ k_ ∨ w.heap.size ≤ k_) ∧ some k_ ≠ (.slice Ao55 l1_4.length co55 : Value).ownBlock) v204 y203) := ⟨h1_⟩
  have n2_ : Aside0 (∃ c_, (v204 : Value) = .slice (some adz_v204) y203.length c_) := ⟨h2_⟩
  have n3_ : Aside0 (w68.heap[gb186]? = some (.cells #[.int .i64 a1_0, .int .i64 a1_1, .int .i64 a1_2, .int .i64 a1_3, .slice Ao55 l1_4.length co55] 31 (0, 0))) := ⟨h3_⟩
  have n4_ : Aside0 (w68.heap[gb187]? = some (.cells #[.int .i64 0, .int .i64 0, .int .i64 0, .int .i64 0, .slice none 0 0] 31 (0, 0))) := ⟨h4_⟩
  have n5_ : Aside0 (IsS123 w0 w68 g s0_0 t207 t208) := ⟨h5_⟩
  have n6_ : Aside0 (Kept w w68 (fun k_ => (P1_4_ k_) ∨ k_ = g)) := ⟨h6_⟩
  have n7_ : Aside0 (Below w0.heap.size w0 w68) := ⟨h7_⟩
  clear HO1_4
  clear BK186
  clear BK187
  clear HI0
  clear HK
  clear HB
  clear h0_ h1_ h2_ h3_ h4_ h5_ h6_ h7_
  have HO1_4 := n0_
  have HO205 := n1_
  have HA_HO205 := n2_
  have BK186 := n3_
  have BK187 := n4_
  have HI0 := n5_
  have HK := n6_
  have HB := n7_
  clear n0_ n1_ n2_ n3_ n4_ n5_ n6_ n7_
  have hHeld : w68.cell? ⟨gb186, 0, none⟩ = some (.int .i64 a1_0) ∧ w68.cell? ⟨gb186, 1, none⟩ = some (.int .i64 a1_1) ∧ w68.cell? ⟨gb186, 2, none⟩ = some (.int .i64 a1_2) ∧ w68.cell? ⟨gb186, 3, none⟩ = some (.int .i64 a1_3) ∧ w68.cell? ⟨gb186, 4, none⟩ = some (.slice Ao55 l1_4.length co55) := hS_
  obtain ⟨co69, eo69⟩ := HA_HO205.out
  clear HA_HO205
  subst eo69
  have p54 : 0 ≤ (t200 : Int) := of_decide_eq_true (by first | (with_reducible assumption) | assumption)
  have q54 : (t200 : Int) < ((l1_4.length : Int) : Int) := of_decide_eq_true (by first | (with_reducible assumption) | assumption)
  obtain ⟨go54, co54, eo54, gb54, gl54, cl54, HG54⟩ := Kd.R_form HO1_4.out (by omega)
  (first | cases eo54 | (injection eo54 with ea_ en_ ec_; (first | subst ea_ | (injection ea_ with ea_; subst ea_)); subst ec_; clear en_))
  have GB54 := Aside0.mk gb54
  have GG54 := Aside0.mk HG54
  clear gb54 gl54 HG54
  have HMgo54 := Aside0.mk (show (P1_4_ go54 ∨ w.heap.size ≤ go54) from (HO1_4.out.1 _ rfl).1)
  obtain ⟨hx54_0, hf54_0⟩ := Kd.R_celln 0 HO1_4.out (t200 : Int) p54 q54
  replace p54 := eq_true p54
  replace q54 := eq_true q54
  have HN0_go54 := Aside0.mk (show g ≠ go54 from by have h_ := IsS123.own_ne HI0.out HO1_4.out (by decide); intro e_; exact h_ (by rw [e_]; rfl))
  have HP70 := Kd.R_putn HO1_4.out (t200 : Int) (rd y203 t206)
  rw [← Ny210.out] at HP70
  have HQ70 := Aside0.mk HP70
  clear HP70
  refine norm_ (a' := ?_) ?_ ?_
  rotate_left
  · simp only [putAll, Act.put, List.setIfInBounds_toArray, List.set_cons_zero, List.set_cons_succ]
    rfl
  refine pure_ (i := 21) (N := some 53) (v := ?_) (a' := ?_) #[true, true, true, true, true, true, true, true, true, true, true, true, true, true, true, true, true, true, true, true, true, true, false, false, false] rfl rfl (any_of HT_.out (by kernel_rfl)) (fun _ _ _ h => h) (Or.inl ⟨by rfl, ?_⟩) ?_ ?_
  rotate_left
  · intro w'
    go_simp
    with_reducible rfl
  rotate_left
  · simp only [Act.put, List.setIfInBounds_toArray, List.set_cons_zero, List.set_cons_succ, i64_w, i32_w]
    rfl
  refine one_ (i := 22) (N := some 54) #[true, true, true, true, true, true, true, true, true, true, true, true, true, true, true, true, true, true, true, true, true, true, true, false, false] rfl rfl (one_of HT_.out (by kernel_rfl)) (by decide) (fun K hK => ?_)
  (have p209 : 0 ≤ (t206 : Int) := of_decide_eq_true (by first | (with_reducible assumption) | assumption); have q209 : t206 < (y203.length : Int) := of_decide_eq_true (by first | (with_reducible assumption) | assumption); obtain ⟨ad209, e209, hx209_0⟩ := Kd.at_int (Kd.R_reads' HO205.out).2.2 t206 p209 q209; obtain rfl : adz_v204 = ad209 := (by injection e209))
  refine value_ (w1 := ?_) (v := ?_) (by rfl) rfl ?_ ?_
  rotate_left 2
  · go_simp
    constructor
    · rfl
    · rfl
  clear hx209_0
  refine hK.out _ _ ⟨(blk_cell BK186.out 0).trans rfl, (blk_cell BK186.out 1).trans rfl, (blk_cell BK186.out 2).trans rfl, (blk_cell BK186.out 3).trans rfl, (blk_cell BK186.out 4).trans rfl⟩ (fun hHeld => ?_)
  clear hK K
  refine norm_ (a' := ?_) ?_ ?_
  rotate_left
  · show Act.put _ (some 54) _ = _
    simp only [Act.put, List.setIfInBounds_toArray, List.set_cons_zero, List.set_cons_succ, i64_w, i32_w]
    rfl
  refine pure_ (i := 23) (N := some 55) (v := ?_) (a' := ?_) #[true, true, true, true, true, true, true, true, true, true, true, true, true, true, true, true, true, true, true, true, true, true, true, true, false] rfl rfl (any_of HT_.out (by kernel_rfl)) (fun _ _ _ h => h) (Or.inl ⟨by rfl, ?_⟩) ?_ ?_
  rotate_left
  · intro w'
    go_simp
    with_reducible rfl
  rotate_left
  · simp only [Act.put, List.setIfInBounds_toArray, List.set_cons_zero, List.set_cons_succ, i64_w, i32_w]
    rfl
  refine last_ (i := 24) (N := none) #[true, true, true, true, true, true, true, true, true, true, true, true, true, true, true, true, true, true, true, true, true, true, true, true, true] rfl rfl (one_of HT_.out (by kernel_rfl)) (by decide) (fun K hK => ?_)
  refine skip_ (w1 := ?_) (by rfl) rfl ?_ ?_
  rotate_left
  · go_simp
    rfl
  refine hK.out _ _ ?_
  clear hK K
  refine done_ (done_of HT_.out (by kernel_rfl)) ?_
  have n0_ : Aside0 (Kd.R (Kd.int .i64) 3 (w68.setCell ⟨go54, (t200 : Int).toNat, none⟩ (.int .i64 (rd y203 t206))) w0.heap.size (fun k_ => (P1_4_ k_ ∨ w.heap.size ≤ k_) ∧ some k_ ≠ (.slice (some adz_v204) y203.length co69 : Value).ownBlock) (.slice (some ⟨go54, 0, none⟩) l1_4.length co55) y210) := ⟨by (with_reducible repeat (first | apply Kd.R_alloc | apply Kd.R_drewN | apply Kd.R_drew)); exact HQ70.out⟩
  have n1_ : Aside0 (Kd.R (Kd.int .i64) 3 (w68.setCell ⟨go54, (t200 : Int).toNat, none⟩ (.int .i64 (rd y203 t206))) w0.heap.size (fun k_ => (P1_4_ k_ ∨ w.heap.size ≤ k_) ∧ some k_ ≠ (.slice (some ⟨go54, 0, none⟩) l1_4.length co55 : Value).ownBlock) (.slice (some adz_v204) y203.length co69) y203) := ⟨by (with_reducible repeat (first | apply Kd.R_alloc | apply Kd.R_drewN | apply Kd.R_drew)); exact Kd.R_mono (Kd.R_far (p := ⟨go54, (t200 : Int).toNat, none⟩) (Kd.R_mono HO205.out (fun k_ hk => (⟨hk, fun e_ => hk.2 (by rw [e_]; rfl)⟩ : _ ∧ k_ ≠ go54))) (fun _ hk => hk.2) (.int .i64 (rd y203 t206))) (fun _ hk => ⟨hk.1.1, hk.1.2⟩)⟩
  have n2_ : Aside0 ((w68.setCell ⟨go54, (t200 : Int).toNat, none⟩ (.int .i64 (rd y203 t206))).heap[gb186]? = some (.cells #[.int .i64 a1_0, .int .i64 a1_1, .int .i64 a1_2, .int .i64 a1_3, .slice (some ⟨go54, 0, none⟩) l1_4.length co55] 31 (0, 0))) := ⟨by (with_reducible repeat (first | refine blk_drewN ?_ _ | refine blk_drew ?_ | refine blk_alloc ?_ _)); refine blk_far ?_ (by have h_ := Kd.R_ne HO1_4.out BK186.out (by decide); intro e_; exact h_ (by rw [e_]; rfl)) _; (with_reducible repeat (first | refine blk_drewN ?_ _ | refine blk_drew ?_ | refine blk_alloc ?_ _)); exact BK186.out⟩
  have n3_ : Aside0 ((w68.setCell ⟨go54, (t200 : Int).toNat, none⟩ (.int .i64 (rd y203 t206))).heap[gb187]? = some (.cells #[.int .i64 0, .int .i64 0, .int .i64 0, .int .i64 0, .slice none 0 0] 31 (0, 0))) := ⟨by (with_reducible repeat (first | refine blk_drewN ?_ _ | refine blk_drew ?_ | refine blk_alloc ?_ _)); refine blk_far ?_ (by have h_ := Kd.R_ne HO1_4.out BK187.out (by decide); intro e_; exact h_ (by rw [e_]; rfl)) _; (with_reducible repeat (first | refine blk_drewN ?_ _ | refine blk_drew ?_ | refine blk_alloc ?_ _)); exact BK187.out⟩
  have n4_ : Aside0 (IsS123 w0 (w68.setCell ⟨go54, (t200 : Int).toNat, none⟩ (.int .i64 (rd y203 t206))) g s0_0 t207 t208) := ⟨by repeat (first | (with_reducible first | exact HI0.out | apply IsS123.alloc | apply IsS123.drewN | apply IsS123.drew | apply IsS123.set_1 | apply IsS123.set_2 | refine IsS123.far ?_ HN0_go54.out _ | refine IsS123.far ?_ NB0_186.out _ | refine IsS123.far ?_ NB0_187.out _) | exact HI0.out)⟩
  have n5_ : Aside0 (Kept w (w68.setCell ⟨go54, (t200 : Int).toNat, none⟩ (.int .i64 (rd y203 t206))) (fun k_ => (P1_4_ k_) ∨ k_ = g)) := ⟨by repeat (first | (with_reducible first | exact HK.out | apply Kept.alloc | apply Kept.drewN | apply Kept.drew | refine Kept.setCell ?_ (Or.imp_left Or.inl HMgo54.out) _ | refine Kept.setCell ?_ (.inl (.inr rfl)) _ | refine Kept.setCell ?_ (.inr GW186.out) _ | refine Kept.setCell ?_ (.inr GW187.out) _) | exact HK.out)⟩
  have n6_ : Aside0 (Below w0.heap.size w0 (w68.setCell ⟨go54, (t200 : Int).toNat, none⟩ (.int .i64 (rd y203 t206)))) := ⟨by repeat (first | (with_reducible first | exact HB.out | apply below_alloc | apply pw_below_drewN | apply below_drew1 | refine below_set ?_ GB54.out | refine below_set ?_ (IsS123.ge HI0.out) | refine below_set ?_ GE186.out | refine below_set ?_ GE187.out) | exact HB.out)⟩
  (try clear HO1_4)
  (try clear HO205)
  (try clear BK186)
  (try clear BK187)
  (try clear HI0)
  (try clear HK)
  (try clear HB)
  generalize (w68.setCell ⟨go54, (t200 : Int).toNat, none⟩ (.int .i64 (rd y203 t206))) = w71 at n0_ n1_ n2_ n3_ n4_ n5_ n6_ ⊢
  have HO1_4 := n0_
  have HO205 := n1_
  have BK186 := n2_
  have BK187 := n3_
  have HI0 := n4_
  have HK := n5_
  have HB := n6_
  clear n0_ n1_ n2_ n3_ n4_ n5_ n6_
  have hcz72_0 : w71.cell? ⟨gb186, 0, none⟩ = some (.int .i64 a1_0) := (blk_cell BK186.out 0).trans rfl
  have hcz72_1 : w71.cell? ⟨gb186, 1, none⟩ = some (.int .i64 a1_1) := (blk_cell BK186.out 1).trans rfl
  have hcz72_2 : w71.cell? ⟨gb186, 2, none⟩ = some (.int .i64 a1_2) := (blk_cell BK186.out 2).trans rfl
  have hcz72_3 : w71.cell? ⟨gb186, 3, none⟩ = some (.int .i64 a1_3) := (blk_cell BK186.out 3).trans rfl
  have hcz72_4 : w71.cell? ⟨gb186, 4, none⟩ = some (.slice (some ⟨go54, 0, none⟩) l1_4.length co55) := (blk_cell BK186.out 4).trans rfl
  have hfz72_0 := blk_frozen BK186.out 0
  have hfz72_1 := blk_frozen BK186.out 1
  have hfz72_2 := blk_frozen BK186.out 2
  have hfz72_3 := blk_frozen BK186.out 3
  have hfz72_4 := blk_frozen BK186.out 4
  have hnb73 := NB187_0.out
  have hnc73 := NB0_187.out
  have hcz74_0 : w71.cell? ⟨gb187, 0, none⟩ = some (.int .i64 0) := (blk_cell BK187.out 0).trans rfl
  have hcz74_1 : w71.cell? ⟨gb187, 1, none⟩ = some (.int .i64 0) := (blk_cell BK187.out 1).trans rfl
  have hcz74_2 : w71.cell? ⟨gb187, 2, none⟩ = some (.int .i64 0) := (blk_cell BK187.out 2).trans rfl
  have hcz74_3 : w71.cell? ⟨gb187, 3, none⟩ = some (.int .i64 0) := (blk_cell BK187.out 3).trans rfl
  have hcz74_4 : w71.cell? ⟨gb187, 4, none⟩ = some (.slice none 0 0) := (blk_cell BK187.out 4).trans rfl
  have hfz74_0 := blk_frozen BK187.out 0
  have hfz74_1 := blk_frozen BK187.out 1
  have hfz74_2 := blk_frozen BK187.out 2
  have hfz74_3 := blk_frozen BK187.out 3
  have hfz74_4 := blk_frozen BK187.out 4
  try go_wp2
  refine bodyPost_ret (results_cell_row rfl _ _ gb187 31 #[.int .i64 a1_0, .int .i64 a1_1, .int .i64 a1_2, .int .i64 a1_3, .slice (some ⟨go54, 0, none⟩) l1_4.length co55] (0, 0) _ rfl (by (with_reducible repeat (first | refine blk_drewN ?_ _ | refine blk_drew ?_ | refine blk_alloc ?_ _)); refine blk_put (cs := #[.int .i64 a1_0, .int .i64 a1_1, .int .i64 a1_2, .int .i64 a1_3, .slice none 0 0]) ?_ 4 _ rfl; (with_reducible repeat (first | refine blk_drewN ?_ _ | refine blk_drew ?_ | refine blk_alloc ?_ _)); refine blk_put (cs := #[.int .i64 a1_0, .int .i64 a1_1, .int .i64 a1_2, .int .i64 0, .slice none 0 0]) ?_ 3 _ rfl; (with_reducible repeat (first | refine blk_drewN ?_ _ | refine blk_drew ?_ | refine blk_alloc ?_ _)); refine blk_put (cs := #[.int .i64 a1_0, .int .i64 a1_1, .int .i64 0, .int .i64 0, .slice none 0 0]) ?_ 2 _ rfl; (with_reducible repeat (first | refine blk_drewN ?_ _ | refine blk_drew ?_ | refine blk_alloc ?_ _)); refine blk_put (cs := #[.int .i64 a1_0, .int .i64 0, .int .i64 0, .int .i64 0, .slice none 0 0]) ?_ 1 _ rfl; (with_reducible repeat (first | refine blk_drewN ?_ _ | refine blk_drew ?_ | refine blk_alloc ?_ _)); refine blk_put (cs := #[.int .i64 0, .int .i64 0, .int .i64 0, .int .i64 0, .slice none 0 0]) ?_ 0 _ rfl; (with_reducible repeat (first | refine blk_drewN ?_ _ | refine blk_drew ?_ | refine blk_alloc ?_ _)); exact BK187.out) Try.underlying31 rfl (by kernel_rfl)) rfl ?_
  exact ⟨_, by first | rfl | (simp [errW_none, errW_some] <;> rfl) | (simp only [← hji45, ← hji47]; first | rfl | (simp [errW_none, errW_some] <;> rfl)) | (simp [*, errW_none, errW_some] <;> rfl), by (with_reducible repeat (first | apply Kd.R_alloc | apply Kd.R_drewN | apply Kd.R_drew)); exact Kd.R_mono (Kd.R_far (p := ⟨gb187, 4, none⟩) (Kd.R_far (p := ⟨gb187, 3, none⟩) (Kd.R_far (p := ⟨gb187, 2, none⟩) (Kd.R_far (p := ⟨gb187, 1, none⟩) (Kd.R_far (p := ⟨gb187, 0, none⟩) (Kd.R_types HO1_4.out BK187.out (by decide)) (fun _ hk => hk.2) (.int .i64 a1_0)) (fun _ hk => hk.2) (.int .i64 a1_1)) (fun _ hk => hk.2) (.int .i64 a1_2)) (fun _ hk => hk.2) (.int .i64 a1_3)) (fun _ hk => hk.2) (.slice (some ⟨go54, 0, none⟩) l1_4.length co55)) (fun _ hk => hk.1.1), by repeat (first | (with_reducible first | exact HI0.out | apply IsS123.alloc | apply IsS123.drewN | apply IsS123.drew | apply IsS123.set_1 | apply IsS123.set_2 | refine IsS123.far ?_ NB0_186.out _ | refine IsS123.far ?_ NB0_187.out _) | exact HI0.out), by repeat (first | (with_reducible first | exact HB.out | apply below_alloc | apply pw_below_drewN | apply below_drew1 | refine below_set ?_ (IsS123.ge HI0.out) | refine below_set ?_ GE186.out | refine below_set ?_ GE187.out) | exact HB.out), by repeat (first | (with_reducible first | exact HK.out | apply Kept.alloc | apply Kept.drewN | apply Kept.drew | refine Kept.setCell ?_ (.inl (.inr rfl)) _ | refine Kept.setCell ?_ (.inr GW186.out) _ | refine Kept.setCell ?_ (.inr GW187.out) _) | exact HK.out)⟩

end Go.Proofs.Ytggokppfhkebkaa.PFnPasses

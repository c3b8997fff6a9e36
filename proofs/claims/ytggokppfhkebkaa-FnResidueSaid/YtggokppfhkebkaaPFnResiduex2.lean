-- written by myprint.py (a program of this session's over the kit's print)
import Derived.Test.YtggokppfhkebkaaPFnResiduex0
import Derived.Test.YtggokppfhkebkaaPFnResiduex1
namespace Go.Proofs.Ytggokppfhkebkaa.PFnResidue
open Go.RowKit Go.Proofs.YtggokppfhkebkaaW.PrintWords Go.Proofs.YtggokppfhkebkaaW.PrintLast Go.Proofs.YtggokppfhkebkaaW.PrintMore
attribute [local go_sem] max2_int min2_int max_two min_two max_three min_three max_four min_four   -- for this text's walks alone
set_option linter.unusedVariables false
set_option linter.unusedSimpArgs false

/-! ### spec_l1Cur_tone: function 119 -/
mutual
def spec_l1Cur_tone.l0 : Nat → Int → Int → List Int → Int → Int → Int → Int → List Int → Int → Int → Option (List Int × Int × Int)
  | 0, _, _, _, _, _, _, _, _, _, _ => none
  | k + 1, x7, x8, x9, x10, x11, x31, x32, x1000, x1001, x1002 => if x32 < x31 then (if x8 = 0 then ((spec_l1Cur_pick.f x1000 x1001 x1002 (wrap64 (2 * x7))).bind fun bt131 => (spec_l1Cur_tone.j1 k x7 x8 x9 (wrap64 (bt131.1 - x7)) x11 x32 x31 x32 x1000 bt131.2.1 bt131.2.2)) else (if x8 = 1 then (if (Int.tmod x32 37) = 0 then (spec_l1Cur_tone.j1 k x7 x8 x9 (wrap64 (x10 + x11)) (wrap64 (-x11)) x32 x31 x32 x1000 x1001 x1002) else (spec_l1Cur_tone.j1 k x7 x8 x9 (wrap64 (x10 + x11)) x11 x32 x31 x32 x1000 x1001 x1002)) else (if x8 = 2 then ((spec_l1Cur_pick.f x1000 x1001 x1002 7).bind fun bt134 => (spec_l1Cur_tone.j1 k x7 x8 x9 (wrap64 (x10 + (wrap64 (bt134.1 - 3)))) x11 x32 x31 x32 x1000 bt134.2.1 bt134.2.2)) else (if x8 = 3 then (spec_l1Cur_tone.j1 k x7 x8 x9 (wrap64 (Int.tdiv (wrap64 ((wrap64 (x32 * x32)) * x11)) 9)) x11 x32 x31 x32 x1000 x1001 x1002) else (spec_l1Cur_tone.j1 k x7 x8 x9 x10 x11 x32 x31 x32 x1000 x1001 x1002))))) else (some (x9, x1001, x1002))
def spec_l1Cur_tone.j1 : Nat → Int → Int → List Int → Int → Int → Int → Int → Int → List Int → Int → Int → Option (List Int × Int × Int)
  | 0, _, _, _, _, _, _, _, _, _, _, _ => none
  | k + 1, x7, x8, x9, x10, x11, x12, x31, x32, x1000, x1001, x1002 => if x10 < (wrap64 (-x7)) then (if (wrap64 (-x7)) ≥ x7 then (if 0 ≤ x12 then (if x12 < (x9.length : Int) then (spec_l1Cur_tone.l0 k x7 x8 (x9.set (x12 : Int).toNat (wrap64 (x7 - 1))) (wrap64 (x7 - 1)) x11 x31 (wrap64 (x32 + 1)) x1000 x1001 x1002) else (none)) else (none)) else (if 0 ≤ x12 then (if x12 < (x9.length : Int) then (spec_l1Cur_tone.l0 k x7 x8 (x9.set (x12 : Int).toNat (wrap64 (-x7))) (wrap64 (-x7)) x11 x31 (wrap64 (x32 + 1)) x1000 x1001 x1002) else (none)) else (none))) else (if x10 ≥ x7 then (if 0 ≤ x12 then (if x12 < (x9.length : Int) then (spec_l1Cur_tone.l0 k x7 x8 (x9.set (x12 : Int).toNat (wrap64 (x7 - 1))) (wrap64 (x7 - 1)) x11 x31 (wrap64 (x32 + 1)) x1000 x1001 x1002) else (none)) else (none)) else (if 0 ≤ x12 then (if x12 < (x9.length : Int) then (spec_l1Cur_tone.l0 k x7 x8 (x9.set (x12 : Int).toNat x10) x10 x11 x31 (wrap64 (x32 + 1)) x1000 x1001 x1002) else (none)) else (none)))
end
def spec_l1Cur_tone.f (k : Nat) (s0_0 : List Int) (s0_1 : Int) (s0_2 : Int) (a1 : Int) (a2 : Int) : Option (List Int × Int × Int) := if 0 ≤ (IntKind.u64.wrap (wrap64 (a2 - 1))) then ((spec_l1Cur_pick.f s0_0 s0_1 s0_2 5).bind fun bt119 => (if 0 ≤ a1 then (if (a1 : Int).toNat ≤ 35184372088832 then ((some (List.replicate (a1 : Int).toNat 0 : List Int)).bind fun y122 => ((spec_l1Cur_pick.f s0_0 bt119.2.1 bt119.2.2 (wrap64 (2 * (shl .i64 1 (IntKind.u64.wrap (wrap64 (a2 - 1))))))).bind fun bt125 => ((spec_l1Cur_pick.f s0_0 bt125.2.1 bt125.2.2 40).bind fun bt128 => (spec_l1Cur_tone.l0 k (shl .i64 1 (IntKind.u64.wrap (wrap64 (a2 - 1)))) bt119.1 y122 (wrap64 (bt125.1 - (shl .i64 1 (IntKind.u64.wrap (wrap64 (a2 - 1)))))) (wrap64 (bt128.1 - 20)) (y122.length : Int) 0 s0_0 bt128.2.1 bt128.2.2)))) else (none)) else (none))) else (none)
theorem spec_l1Cur_tone.mono_l : ∀ k, (∀ y0 y1 y2 y3 y4 y5 y6 y7 y8 y9, LeO (spec_l1Cur_tone.l0 k y0 y1 y2 y3 y4 y5 y6 y7 y8 y9) (spec_l1Cur_tone.l0 (k + 1) y0 y1 y2 y3 y4 y5 y6 y7 y8 y9)) ∧ (∀ y0 y1 y2 y3 y4 y5 y6 y7 y8 y9 y10, LeO (spec_l1Cur_tone.j1 k y0 y1 y2 y3 y4 y5 y6 y7 y8 y9 y10) (spec_l1Cur_tone.j1 (k + 1) y0 y1 y2 y3 y4 y5 y6 y7 y8 y9 y10))
  | 0 => ⟨fun _ _ _ _ _ _ _ _ _ _ r h => by simp [spec_l1Cur_tone.l0] at h, fun _ _ _ _ _ _ _ _ _ _ _ r h => by simp [spec_l1Cur_tone.j1] at h⟩
  | k + 1 => by
    obtain ⟨ih0, ih1⟩ := spec_l1Cur_tone.mono_l k
    refine ⟨?_, ?_⟩
    · intro y0 y1 y2 y3 y4 y5 y6 y7 y8 y9
      unfold spec_l1Cur_tone.l0
      repeat' first
      | (with_reducible exact ih0 _ _ _ _ _ _ _ _ _ _)
      | (with_reducible exact ih1 _ _ _ _ _ _ _ _ _ _ _)
      | (with_reducible exact LeO.refl _)
      | (with_reducible exact LeO.none _)
      | (with_reducible refine LeO.ite ?_ ?_)
      | (with_reducible refine LeO.bind ?_ (fun _ => ?_))
      | exact ih0 _ _ _ _ _ _ _ _ _ _
      | exact ih1 _ _ _ _ _ _ _ _ _ _ _
      | exact LeO.none _
      | refine LeO.ite ?_ ?_
      | refine LeO.bind ?_ (fun _ => ?_)
    · intro y0 y1 y2 y3 y4 y5 y6 y7 y8 y9 y10
      unfold spec_l1Cur_tone.j1
      repeat' first
      | (with_reducible exact ih0 _ _ _ _ _ _ _ _ _ _)
      | (with_reducible exact ih1 _ _ _ _ _ _ _ _ _ _ _)
      | (with_reducible exact LeO.refl _)
      | (with_reducible exact LeO.none _)
      | (with_reducible refine LeO.ite ?_ ?_)
      | (with_reducible refine LeO.bind ?_ (fun _ => ?_))
      | exact ih0 _ _ _ _ _ _ _ _ _ _
      | exact ih1 _ _ _ _ _ _ _ _ _ _ _
      | exact LeO.none _
      | refine LeO.ite ?_ ?_
      | refine LeO.bind ?_ (fun _ => ?_)
theorem spec_l1Cur_tone.mono : ∀ a0 a1 a2 a3 a4 k, LeO (spec_l1Cur_tone.f k a0 a1 a2 a3 a4) (spec_l1Cur_tone.f (k + 1) a0 a1 a2 a3 a4) := by
  intro a0 a1 a2 a3 a4 k
  obtain ⟨ih0, ih1⟩ := spec_l1Cur_tone.mono_l k
  unfold spec_l1Cur_tone.f
  repeat' first
      | (with_reducible exact ih0 _ _ _ _ _ _ _ _ _ _)
      | (with_reducible exact ih1 _ _ _ _ _ _ _ _ _ _ _)
      | (with_reducible exact LeO.refl _)
      | (with_reducible exact LeO.none _)
      | (with_reducible refine LeO.ite ?_ ?_)
      | (with_reducible refine LeO.bind ?_ (fun _ => ?_))
      | exact ih0 _ _ _ _ _ _ _ _ _ _
      | exact ih1 _ _ _ _ _ _ _ _ _ _ _
      | exact LeO.none _
      | refine LeO.ite ?_ ?_
      | refine LeO.bind ?_ (fun _ => ?_)
set_option maxHeartbeats 8000000 in
set_option maxRecDepth 100000 in
theorem spec_l1Cur_tone.calls (k : Nat) (g : Nat) (s0_0 : List Int) (s0_1 : Int) (s0_2 : Int) (a1 : Int) (a2 : Int) (r1 : List Int) (r2 : Int) (r3 : Int) (w0 w : World) (hI : IsS123 w0 w g s0_0 s0_1 s0_2) (hB : Below w0.heap.size w0 w) (h : spec_l1Cur_tone.f k s0_0 s0_1 s0_2 a1 a2 = some (r1, r2, r3)) :
    Calls Try.prog 119 #[.pointer (some ⟨g, 0, none⟩), .int .i64 a1, .int .i64 a2] w fun e w' => ∃ v0_ : Value, e = .returned (v0_) ∧ Kd.R (Kd.int .i64) 3 w' w.heap.size (fun _ => True) v0_ r1 ∧ IsS123 w0 w' g s0_0 r2 r3 ∧ Below w0.heap.size w0 w' ∧ KeepBut w w' g none := by
  have HI0 := Aside0.mk hI
  have HK := Aside0.mk (KeepBut.refl w g none)
  have HL := Aside0.mk hB.size
  clear hI
  have HW0 := Aside0.mk hB.size
  have HB := Aside0.mk hB
  clear hB
  have H : (if 0 ≤ (IntKind.u64.wrap (wrap64 (a2 - 1))) then ((spec_l1Cur_pick.f s0_0 s0_1 s0_2 5).bind fun bt119 => (if 0 ≤ a1 then (if (a1 : Int).toNat ≤ 35184372088832 then ((some (List.replicate (a1 : Int).toNat 0 : List Int)).bind fun y122 => ((spec_l1Cur_pick.f s0_0 bt119.2.1 bt119.2.2 (wrap64 (2 * (shl .i64 1 (IntKind.u64.wrap (wrap64 (a2 - 1))))))).bind fun bt125 => ((spec_l1Cur_pick.f s0_0 bt125.2.1 bt125.2.2 40).bind fun bt128 => (spec_l1Cur_tone.l0 k (shl .i64 1 (IntKind.u64.wrap (wrap64 (a2 - 1)))) bt119.1 y122 (wrap64 (bt125.1 - (shl .i64 1 (IntKind.u64.wrap (wrap64 (a2 - 1)))))) (wrap64 (bt128.1 - 20)) (y122.length : Int) 0 s0_0 bt128.2.1 bt128.2.2)))) else (none)) else (none))) else (none)) = some (r1, r2, r3) := h
  clear h
  obtain ⟨ji4, hji4⟩ : ∃ j_ : Int, (IntKind.u64.wrap (wrap64 (a2 - 1))) = j_ := ⟨_, rfl⟩
  replace H : (if 0 ≤ (ji4) then ((spec_l1Cur_pick.f s0_0 s0_1 s0_2 5).bind fun bt119 => (if 0 ≤ a1 then (if (a1 : Int).toNat ≤ 35184372088832 then ((some (List.replicate (a1 : Int).toNat 0 : List Int)).bind fun y122 => ((spec_l1Cur_pick.f s0_0 bt119.2.1 bt119.2.2 (wrap64 (2 * (shl .i64 1 (ji4))))).bind fun bt125 => ((spec_l1Cur_pick.f s0_0 bt125.2.1 bt125.2.2 40).bind fun bt128 => (spec_l1Cur_tone.l0 k (shl .i64 1 (ji4)) bt119.1 y122 (wrap64 (bt125.1 - (shl .i64 1 (ji4)))) (wrap64 (bt128.1 - 20)) (y122.length : Int) 0 s0_0 bt128.2.1 bt128.2.2)))) else (none)) else (none))) else (none)) = some (r1, r2, r3) := by first | (rw [hji4] at H; exact H) | (simp only [hji4] at H ⊢; exact H)
  by_cases c5 : 0 ≤ (ji4)
  rotate_left
  · rw [if_neg c5] at H
    exact absurd H (by simp)
  rw [if_pos c5] at H
  have c5b0 := eq_true c5
  have c5b1 : decide (0 ≤ (ji4)) = true := decide_eq_true c5
  clear c5
  obtain ⟨ji6, hji6⟩ : ∃ j_ : Int, (shl .i64 1 (ji4)) = j_ := ⟨_, rfl⟩
  replace H : ((spec_l1Cur_pick.f s0_0 s0_1 s0_2 5).bind fun bt119 => (if 0 ≤ a1 then (if (a1 : Int).toNat ≤ 35184372088832 then ((some (List.replicate (a1 : Int).toNat 0 : List Int)).bind fun y122 => ((spec_l1Cur_pick.f s0_0 bt119.2.1 bt119.2.2 (wrap64 (2 * (ji6)))).bind fun bt125 => ((spec_l1Cur_pick.f s0_0 bt125.2.1 bt125.2.2 40).bind fun bt128 => (spec_l1Cur_tone.l0 k ji6 bt119.1 y122 (wrap64 (bt125.1 - (ji6))) (wrap64 (bt128.1 - 20)) (y122.length : Int) 0 s0_0 bt128.2.1 bt128.2.2)))) else (none)) else (none))) = some (r1, r2, r3) := by first | (rw [hji6] at H; exact H) | (simp only [hji6] at H ⊢; exact H)
  have hji6_ : (IntKind.i64.wrap (1 * 2 ^ min (ji4).toNat 64)) = ji6 := hji6
  have hji6z : (ji4) ≤ 64 → (IntKind.i64.wrap (1 * 2 ^ (ji4).toNat)) = ji6 := shl_small hji6
  have hji6u : (IntKind.i64.wrap (2 ^ min (ji4).toNat 64)) = ji6 := by have h_ := hji6_; rw [Int.one_mul] at h_; exact h_
  have hji6v : (ji4) ≤ 64 → (IntKind.i64.wrap (2 ^ (ji4).toNat)) = ji6 := fun hle_ => by have h_ := hji6z hle_; rw [Int.one_mul] at h_; exact h_
  have hji6y : (wrap64 (1 * 2 ^ min (ji4).toNat 64)) = ji6 := (i64_w _).symm.trans hji6_
  have hji6x : (ji4) ≤ 64 → (wrap64 (1 * 2 ^ (ji4).toNat)) = ji6 := fun h_ => (i64_w _).symm.trans (hji6z h_)
  replace H := Option.bind_eq_some_iff.mp H
  obtain ⟨⟨t119, t120, t121⟩, A70, H⟩ := H
  replace H : (if 0 ≤ a1 then (if (a1 : Int).toNat ≤ 35184372088832 then ((some (List.replicate (a1 : Int).toNat 0 : List Int)).bind fun y122 => ((spec_l1Cur_pick.f s0_0 t120 t121 (wrap64 (2 * (ji6)))).bind fun bt125 => ((spec_l1Cur_pick.f s0_0 bt125.2.1 bt125.2.2 40).bind fun bt128 => (spec_l1Cur_tone.l0 k ji6 t119 y122 (wrap64 (bt125.1 - (ji6))) (wrap64 (bt128.1 - 20)) (y122.length : Int) 0 s0_0 bt128.2.1 bt128.2.2)))) else (none)) else (none)) = some (r1, r2, r3) := H
  have A7 := Aside0.mk A70
  clear A70
  by_cases c8 : 0 ≤ a1
  rotate_left
  · rw [if_neg c8] at H
    exact absurd H (by simp)
  rw [if_pos c8] at H
  have c8b0 := eq_true c8
  have c8b1 : decide (0 ≤ a1) = true := decide_eq_true c8
  clear c8
  by_cases c9 : (a1 : Int).toNat ≤ 35184372088832
  rotate_left
  · rw [if_neg c9] at H
    exact absurd H (by simp)
  rw [if_pos c9] at H
  have c9b0 := eq_true c9
  have c9b1 : decide ((a1 : Int).toNat ≤ 35184372088832) = true := decide_eq_true c9
  clear c9
  obtain ⟨y122, hy122⟩ : ∃ y_ : List Int, y_ = (List.replicate (a1 : Int).toNat 0) := ⟨_, rfl⟩
  replace H : ((spec_l1Cur_pick.f s0_0 t120 t121 (wrap64 (2 * (ji6)))).bind fun bt125 => ((spec_l1Cur_pick.f s0_0 bt125.2.1 bt125.2.2 40).bind fun bt128 => (spec_l1Cur_tone.l0 k ji6 t119 y122 (wrap64 (bt125.1 - (ji6))) (wrap64 (bt128.1 - 20)) (y122.length : Int) 0 s0_0 bt128.2.1 bt128.2.2))) = some (r1, r2, r3) := by first | (rw [hy122]; with_reducible exact H) | (have H2_ := (Option.bind_some _ _).symm.trans H; rw [hy122]; with_reducible exact H2_) | (have H2_ := (Option.bind_some _ _).symm.trans H; with_reducible exact H2_) | with_reducible exact H | (rw [hy122]; exact H) | exact H
  have Ny122 := Aside0.mk hy122
  clear hy122
  replace H := Option.bind_eq_some_iff.mp H
  obtain ⟨⟨t125, t126, t127⟩, A100, H⟩ := H
  replace H : ((spec_l1Cur_pick.f s0_0 t126 t127 40).bind fun bt128 => (spec_l1Cur_tone.l0 k ji6 t119 y122 (wrap64 (t125 - (ji6))) (wrap64 (bt128.1 - 20)) (y122.length : Int) 0 s0_0 bt128.2.1 bt128.2.2)) = some (r1, r2, r3) := H
  have A10 := Aside0.mk A100
  clear A100
  replace H := Option.bind_eq_some_iff.mp H
  obtain ⟨⟨t128, t129, t130⟩, A110, H⟩ := H
  replace H : (spec_l1Cur_tone.l0 k ji6 t119 y122 (wrap64 (t125 - (ji6))) (wrap64 (t128 - 20)) (y122.length : Int) 0 s0_0 t129 t130) = some (r1, r2, r3) := H
  have A11 := Aside0.mk A110
  clear A110
  have H' := Aside0.mk H
  clear H
  go_enter Try.func119, Try.ntmps119
  go_wp2_with (first | ((with_reducible refine gate_callee (f := 105) rfl ?_); refine goesL_ (some 18) rfl rfl Try.func105 (by kernel_rfl) rfl #[.pointer (some ⟨g, 0, none⟩), .int .i64 5] rfl (by (try simp only [List.map_toArray, List.map_cons, List.map_nil]); first | done | rfl | (simp only [List.length_drop, List.length_take]; rfl)) ?_; (with_reducible refine (spec_l1Cur_pick.calls g s0_0 s0_1 s0_2 5 t119 t120 t121 w0 _ ?side1 ?side2 A7.out).mono ?_); (case side1 => repeat (first | (with_reducible first | exact HI0.out | apply IsS123.alloc | apply IsS123.drewN | apply IsS123.drew | apply IsS123.set_1 | apply IsS123.set_2) | exact HI0.out)); (case side2 => repeat (first | (with_reducible first | exact HB.out | apply below_alloc | apply pw_below_drewN | apply below_drew1 | refine below_set ?_ (IsS123.ge HI0.out)) | exact HB.out)); rintro e w12 ⟨rfl, hi, hb, hk⟩; refine ⟨_, rfl, ?_⟩; have n0_ := Aside0.mk (KeepBut.trans (by repeat (first | (with_reducible first | exact HK.out | apply KeepBut.set_ | apply keep_drewN | apply keep_drew | apply keep_alloc) | exact HK.out)) hk (.inl rfl)); have n1_ := Aside0.mk (hb); have n2_ := Aside0.mk (hi); clear HK; clear HB; clear HI0; have HK := n0_; have HB := n1_; have HI0 := n2_; clear n0_ n1_ n2_; (try clear hb); (try clear hb2); (try clear hk); (try clear hi)) | ((with_reducible refine gate_dst (N := 20) rfl ?_); refine Kd.R_make (Kd.int .i64) _ 3 rfl (N := 20) rfl 22 _ _ rfl a1 rfl rfl Try.underlying22 (.int .i64 0) 8 info3 rfl (by decide) (by omega) 0 (ok := fun _ => True) (okp := fun _ => True) rfl (fun _ hk => hk) trivial (of_decide_eq_true (by first | (with_reducible assumption) | assumption)) (Nat.le_trans (Nat.mul_le_mul_right _ (of_decide_eq_true (by first | (with_reducible assumption) | assumption) : a1.toNat ≤ 35184372088832)) (by omega)) (Below.refl _ _) (Nat.le_refl _) ?_; intro v123 w13 ho14 hb hg_ hnew_; clear hg_ hnew_; (first | rw [← Ny122.out] at ho14 | (simp only [Int.reduceToNat] at ho14; rw [← Ny122.out] at ho14)); have n0_ := Aside0.mk (Kd.R_lower ho14 (keep_size (w := w) (g := g) (row := none) (by repeat (first | (with_reducible first | exact HK.out | apply KeepBut.set_ | apply keep_drewN | apply keep_drew | apply keep_alloc) | exact HK.out)))); have n1_ := Aside0.mk (IsS123.below (by repeat (first | (with_reducible first | exact HI0.out | apply IsS123.alloc | apply IsS123.drewN | apply IsS123.drew | apply IsS123.set_1 | apply IsS123.set_2) | exact HI0.out)) hb); have n2_ := Aside0.mk (KeepBut.trans (by repeat (first | (with_reducible first | exact HK.out | apply KeepBut.set_ | apply keep_drewN | apply keep_drew | apply keep_alloc) | exact HK.out)) (KeepBut.of_below hb g none) (.inl rfl)); have n3_ := Aside0.mk (below_step (by repeat (first | (with_reducible first | exact HB.out | apply below_alloc | apply pw_below_drewN | apply below_drew1 | refine below_set ?_ (IsS123.ge HI0.out)) | exact HB.out)) hb); clear HI0; clear HK; clear HB; have HO124 := n0_; have HI0 := n1_; have HK := n2_; have HB := n3_; clear n0_ n1_ n2_ n3_; clear hb ho14) | ((with_reducible refine gate_callee (f := 105) rfl ?_); refine goesL_ (some 24) rfl rfl Try.func105 (by kernel_rfl) rfl #[.pointer (some ⟨g, 0, none⟩), .int .i64 (wrap64 (2 * (ji6)))] rfl (by (try simp only [List.map_toArray, List.map_cons, List.map_nil]); first | done | (simp only [hji6]; rfl) | rfl | (simp only [List.length_drop, List.length_take]; rfl)) ?_; (with_reducible refine (spec_l1Cur_pick.calls g s0_0 t120 t121 (wrap64 (2 * (ji6))) t125 t126 t127 w0 _ ?side1 ?side2 A10.out).mono ?_); (case side1 => repeat (first | (with_reducible first | exact HI0.out | apply IsS123.alloc | apply IsS123.drewN | apply IsS123.drew | apply IsS123.set_1 | apply IsS123.set_2) | exact HI0.out)); (case side2 => repeat (first | (with_reducible first | exact HB.out | apply below_alloc | apply pw_below_drewN | apply below_drew1 | refine below_set ?_ (IsS123.ge HI0.out)) | exact HB.out)); rintro e w15 ⟨rfl, hi, hb, hk⟩; refine ⟨_, rfl, ?_⟩; have n0_ := Aside0.mk (Kd.R_mono (Kd.R_keep (IsS123.apart (show IsS123 w0 _ g s0_0 t120 t121 from by repeat (first | (with_reducible first | exact HI0.out | apply IsS123.alloc | apply IsS123.drewN | apply IsS123.drew | apply IsS123.set_1 | apply IsS123.set_2) | exact HI0.out)) (by (with_reducible repeat (first | apply Kd.R_alloc | apply Kd.R_drewN | apply Kd.R_drew)); exact HO124.out) (by decide)) hk (fun _ h => h.2)) (fun _ h => h.1)); have n1_ := Aside0.mk (KeepBut.trans (by repeat (first | (with_reducible first | exact HK.out | apply KeepBut.set_ | apply keep_drewN | apply keep_drew | apply keep_alloc) | exact HK.out)) hk (.inl rfl)); have n2_ := Aside0.mk (hb); have n3_ := Aside0.mk (hi); clear HO124; clear HK; clear HB; clear HI0; have HO124 := n0_; have HK := n1_; have HB := n2_; have HI0 := n3_; clear n0_ n1_ n2_ n3_; (try clear hb); (try clear hb2); (try clear hk); (try clear hi)) | ((with_reducible refine gate_callee (f := 105) rfl ?_); refine goesL_ (some 28) rfl rfl Try.func105 (by kernel_rfl) rfl #[.pointer (some ⟨g, 0, none⟩), .int .i64 40] rfl (by (try simp only [List.map_toArray, List.map_cons, List.map_nil]); first | done | rfl | (simp only [List.length_drop, List.length_take]; rfl)) ?_; (with_reducible refine (spec_l1Cur_pick.calls g s0_0 t126 t127 40 t128 t129 t130 w0 _ ?side1 ?side2 A11.out).mono ?_); (case side1 => repeat (first | (with_reducible first | exact HI0.out | apply IsS123.alloc | apply IsS123.drewN | apply IsS123.drew | apply IsS123.set_1 | apply IsS123.set_2) | exact HI0.out)); (case side2 => repeat (first | (with_reducible first | exact HB.out | apply below_alloc | apply pw_below_drewN | apply below_drew1 | refine below_set ?_ (IsS123.ge HI0.out)) | exact HB.out)); rintro e w16 ⟨rfl, hi, hb, hk⟩; refine ⟨_, rfl, ?_⟩; have n0_ := Aside0.mk (Kd.R_mono (Kd.R_keep (IsS123.apart (show IsS123 w0 _ g s0_0 t126 t127 from by repeat (first | (with_reducible first | exact HI0.out | apply IsS123.alloc | apply IsS123.drewN | apply IsS123.drew | apply IsS123.set_1 | apply IsS123.set_2) | exact HI0.out)) (by (with_reducible repeat (first | apply Kd.R_alloc | apply Kd.R_drewN | apply Kd.R_drew)); exact HO124.out) (by decide)) hk (fun _ h => h.2)) (fun _ h => h.1)); have n1_ := Aside0.mk (KeepBut.trans (by repeat (first | (with_reducible first | exact HK.out | apply KeepBut.set_ | apply keep_drewN | apply keep_drew | apply keep_alloc) | exact HK.out)) hk (.inl rfl)); have n2_ := Aside0.mk (hb); have n3_ := Aside0.mk (hi); clear HO124; clear HK; clear HB; clear HI0; have HO124 := n0_; have HK := n1_; have HB := n2_; have HI0 := n3_; clear n0_ n1_ n2_ n3_; (try clear hb); (try clear hb2); (try clear hk); (try clear hi); obtain ⟨Ao17, co17, eo17⟩ := Kd.R_slice HO124.out; subst eo17))
  go_loopg [10, 11, 32] k (fun kq v10 v11 v32 w' => ∃ (x9_1 : List Int) (x10_1 : Int) (x11_1 : Int) (x32_1 : Int) (x1001_1 : Int) (x1002_1 : Int), v10 = .int .i64 x10_1 ∧ v11 = .int .i64 x11_1 ∧ v32 = .int .i64 x32_1 ∧ Aside0 (spec_l1Cur_tone.l0 kq ji6 t119 x9_1 x10_1 x11_1 (y122.length : Int) x32_1 s0_0 x1001_1 x1002_1 = some (r1, r2, r3)) ∧ Aside0 (kq ≤ k) ∧ Aside0 (Kd.R (Kd.int .i64) 3 w' w.heap.size (fun _ => True) (.slice Ao17 y122.length co17) x9_1) ∧ Aside0 (IsS123 w0 w' g s0_0 x1001_1 x1002_1) ∧ Aside0 (KeepBut w w' g none) ∧ Aside0 (Below w0.heap.size w0 w'))
  case atStart => exact ⟨(y122), (wrap64 (t125 - (ji6))), (wrap64 (t128 - 20)), (0), (t129), (t130), (by first | rfl | (simp; done) | (simp only [← hji6] <;> (first | rfl | simp)) | (simp [*]; done)), (by first | rfl | (simp; done) | (simp [*]; done)), (by first | rfl | (simp; done) | (simp [*]; done)), H', ⟨Nat.le_refl _⟩, ⟨by (with_reducible repeat (first | apply Kd.R_alloc | apply Kd.R_drewN | apply Kd.R_drew)); exact HO124.out⟩, ⟨by repeat (first | (with_reducible first | exact HI0.out | apply IsS123.alloc | apply IsS123.drewN | apply IsS123.drew | apply IsS123.set_1 | apply IsS123.set_2) | exact HI0.out)⟩, ⟨by repeat (first | (with_reducible first | exact HK.out | apply KeepBut.set_ | apply keep_drewN | apply keep_drew | apply keep_alloc) | exact HK.out)⟩, ⟨by repeat (first | (with_reducible first | exact HB.out | apply below_alloc | apply pw_below_drewN | apply below_drew1 | refine below_set ?_ (IsS123.ge HI0.out)) | exact HB.out)⟩⟩
  case round =>
    clear H'
    try clear c1
    try clear p2
    try clear c5
    try clear c5b0
    try clear c5b1
    try clear p6
    try clear c8
    try clear c8b0
    try clear c8b1
    try clear c9
    try clear c9b0
    try clear c9b1
    try clear c10
    try clear c11
    obtain ⟨x9_1, x10_1, x11_1, x32_1, x1001_1, x1002_1, rfl, rfl, rfl, HA, HK1, HO_9, HI0, HK, HB⟩ := hrel
    have hl9_1 := (Kd.R_reads' HO_9.out).1
    rw [hl9_1] at HO_9
    (try simp only [hl9_1])
    cases gk with
    | zero => exact absurd HA.out (by simp [spec_l1Cur_tone.l0])
    | succ k1 =>
      have H := HA.out
      clear HA
      simp only [spec_l1Cur_tone.l0] at H
      by_cases c18 : x32_1 < (y122.length : Int)
      rotate_left
      · rw [if_neg c18] at H
        have c18b0 : decide (x32_1 < (y122.length : Int)) = false := decide_eq_false c18
        (try simp only [hl9_1] at c18b0)
        clear c18
        simp only [Option.some.injEq, Prod.mk.injEq] at H
        obtain ⟨rfl, rfl, rfl⟩ := H
        go_wp2
        go_ret
        exact ⟨_, by first | rfl | (simp [errW_none, errW_some] <;> rfl) | (simp only [← hji4, ← hji6]; first | rfl | (simp [errW_none, errW_some] <;> rfl)) | (simp [*, errW_none, errW_some] <;> rfl), by (with_reducible repeat (first | apply Kd.R_alloc | apply Kd.R_drewN | apply Kd.R_drew)); exact HO_9.out, by repeat (first | (with_reducible first | exact HI0.out | apply IsS123.alloc | apply IsS123.drewN | apply IsS123.drew | apply IsS123.set_1 | apply IsS123.set_2) | exact HI0.out), by repeat (first | (with_reducible first | exact HB.out | apply below_alloc | apply pw_below_drewN | apply below_drew1 | refine below_set ?_ (IsS123.ge HI0.out)) | exact HB.out), by repeat (first | (with_reducible first | exact HK.out | apply KeepBut.set_ | apply keep_drewN | apply keep_drew | apply keep_alloc) | exact HK.out)⟩
      rw [if_pos c18] at H
      have c18b0 : decide (x32_1 < (y122.length : Int)) = true := decide_eq_true c18
      (try simp only [hl9_1] at c18b0)
      clear c18
      have HC19 := Aside0.mk H
      clear H
      go_upto_block 2 with (fail)
      go_cut [10, 11] (fun v10 v11 wc => ∃ (kq : Nat) (x10_18 : Int) (x11_18 : Int) (x1001_18 : Int) (x1002_18 : Int), v10 = .int .i64 x10_18 ∧ v11 = .int .i64 x11_18 ∧ Aside0 (spec_l1Cur_tone.j1 kq ji6 t119 x9_1 x10_18 x11_18 x32_1 (y122.length : Int) x32_1 s0_0 x1001_18 x1002_18 = some (r1, r2, r3)) ∧ Aside0 (kq ≤ k1) ∧ Aside0 (Kd.R (Kd.int .i64) 3 wc w.heap.size (fun _ => True) (.slice Ao17 x9_1.length co17) x9_1) ∧ Aside0 (IsS123 w0 wc g s0_0 x1001_18 x1002_18) ∧ Aside0 (KeepBut w wc g none) ∧ Aside0 (Below w0.heap.size w0 wc))
      case first =>
        have H := HC19.out
        clear HC19
        by_cases c20 : t119 = 0
        · rw [if_pos c20] at H
          have c20b0 : (t119 == 0) = true := beq_iff_eq.mpr c20
          have c20b1 : (t119 != 0) = false := bne_eq_false_iff_eq.mpr c20
          clear c20
          (first | rw [c20b0] | (simp only [i64_w, i32_w]; rw [c20b0]) | skip)
          replace H := Option.bind_eq_some_iff.mp H
          obtain ⟨⟨t131, t132, t133⟩, A210, H⟩ := H
          replace H : (spec_l1Cur_tone.j1 k1 ji6 t119 x9_1 (wrap64 (t131 - ji6)) x11_1 x32_1 (y122.length : Int) x32_1 s0_0 t132 t133) = some (r1, r2, r3) := H
          have A21 := Aside0.mk A210
          clear A210
          have H' := Aside0.mk H
          clear H
          go_wp2_with (first | ((with_reducible refine gate_callee (f := 105) rfl ?_); refine goesL_ (some 41) rfl rfl Try.func105 (by kernel_rfl) rfl #[.pointer (some ⟨g, 0, none⟩), .int .i64 (wrap64 (2 * ji6))] rfl (by (try simp only [List.map_toArray, List.map_cons, List.map_nil]); first | done | (simp only [hji6]; rfl) | rfl | (simp only [List.length_drop, List.length_take]; rfl)) ?_; (with_reducible refine (spec_l1Cur_pick.calls g s0_0 x1001_1 x1002_1 (wrap64 (2 * ji6)) t131 t132 t133 w0 _ ?side1 ?side2 A21.out).mono ?_); (case side1 => repeat (first | (with_reducible first | exact HI0.out | apply IsS123.alloc | apply IsS123.drewN | apply IsS123.drew | apply IsS123.set_1 | apply IsS123.set_2) | exact HI0.out)); (case side2 => repeat (first | (with_reducible first | exact HB.out | apply below_alloc | apply pw_below_drewN | apply below_drew1 | refine below_set ?_ (IsS123.ge HI0.out)) | exact HB.out)); rintro e w22 ⟨rfl, hi, hb, hk⟩; refine ⟨_, rfl, ?_⟩; have n0_ := Aside0.mk (Kd.R_mono (Kd.R_keep (IsS123.apart (show IsS123 w0 _ g s0_0 x1001_1 x1002_1 from by repeat (first | (with_reducible first | exact HI0.out | apply IsS123.alloc | apply IsS123.drewN | apply IsS123.drew | apply IsS123.set_1 | apply IsS123.set_2) | exact HI0.out)) (by (with_reducible repeat (first | apply Kd.R_alloc | apply Kd.R_drewN | apply Kd.R_drew)); exact HO_9.out) (by decide)) hk (fun _ h => h.2)) (fun _ h => h.1)); have n1_ := Aside0.mk (KeepBut.trans (by repeat (first | (with_reducible first | exact HK.out | apply KeepBut.set_ | apply keep_drewN | apply keep_drew | apply keep_alloc) | exact HK.out)) hk (.inl rfl)); have n2_ := Aside0.mk (hb); have n3_ := Aside0.mk (hi); clear HO_9; clear HK; clear HB; clear HI0; have HO_9 := n0_; have HK := n1_; have HB := n2_; have HI0 := n3_; clear n0_ n1_ n2_ n3_; (try clear hb); (try clear hb2); (try clear hk); (try clear hi)))
          go_meet
          case rel => exact ⟨_, (wrap64 (t131 - ji6)), (x11_1), (t132), (t133), (by first | rfl | (simp; done) | (simp only [← hji6] <;> (first | rfl | simp)) | (simp [*]; done)), (by first | rfl | (simp; done) | (simp [*]; done)), H', ⟨by have := HK1.out; first | omega | exact Nat.le_refl _⟩, ⟨by (try simp only [hl9_1]); (with_reducible repeat (first | apply Kd.R_alloc | apply Kd.R_drewN | apply Kd.R_drew)); exact HO_9.out⟩, ⟨by repeat (first | (with_reducible first | exact HI0.out | apply IsS123.alloc | apply IsS123.drewN | apply IsS123.drew | apply IsS123.set_1 | apply IsS123.set_2) | exact HI0.out)⟩, ⟨by repeat (first | (with_reducible first | exact HK.out | apply KeepBut.set_ | apply keep_drewN | apply keep_drew | apply keep_alloc) | exact HK.out)⟩, ⟨by repeat (first | (with_reducible first | exact HB.out | apply below_alloc | apply pw_below_drewN | apply below_drew1 | refine below_set ?_ (IsS123.ge HI0.out)) | exact HB.out)⟩⟩
        rw [if_neg c20] at H
        have c20b0 : (t119 == 0) = false := beq_eq_false_iff_ne.mpr c20
        have c20b1 : (t119 != 0) = true := bne_iff_ne.mpr c20
        (first | rw [c20b0] | (simp only [i64_w, i32_w]; rw [c20b0]) | skip)
        by_cases c23 : t119 = 1
        · rw [if_pos c23] at H
          have c23b0 : (t119 == 1) = true := beq_iff_eq.mpr c23
          have c23b1 : (t119 != 1) = false := bne_eq_false_iff_eq.mpr c23
          clear c23
          by_cases c24 : (Int.tmod x32_1 37) = 0
          rotate_left
          · rw [if_neg c24] at H
            have c24b0 : ((Int.tmod x32_1 37) == 0) = false := beq_eq_false_iff_ne.mpr c24
            have c24b1 : ((Int.tmod x32_1 37) != 0) = true := bne_iff_ne.mpr c24
            have H' := Aside0.mk H
            clear H
            go_wp2
            go_meet
            case rel => exact ⟨_, (wrap64 (x10_1 + x11_1)), (x11_1), (x1001_1), (x1002_1), (by first | rfl | (simp; done) | (simp [*]; done)), (by first | rfl | (simp; done) | (simp [*]; done)), H', ⟨by have := HK1.out; first | omega | exact Nat.le_refl _⟩, ⟨by (try simp only [hl9_1]); (with_reducible repeat (first | apply Kd.R_alloc | apply Kd.R_drewN | apply Kd.R_drew)); exact HO_9.out⟩, ⟨by repeat (first | (with_reducible first | exact HI0.out | apply IsS123.alloc | apply IsS123.drewN | apply IsS123.drew | apply IsS123.set_1 | apply IsS123.set_2) | exact HI0.out)⟩, ⟨by repeat (first | (with_reducible first | exact HK.out | apply KeepBut.set_ | apply keep_drewN | apply keep_drew | apply keep_alloc) | exact HK.out)⟩, ⟨by repeat (first | (with_reducible first | exact HB.out | apply below_alloc | apply pw_below_drewN | apply below_drew1 | refine below_set ?_ (IsS123.ge HI0.out)) | exact HB.out)⟩⟩
          rw [if_pos c24] at H
          have c24b0 : ((Int.tmod x32_1 37) == 0) = true := beq_iff_eq.mpr c24
          have c24b1 : ((Int.tmod x32_1 37) != 0) = false := bne_eq_false_iff_eq.mpr c24
          clear c24
          have H' := Aside0.mk H
          clear H
          go_wp2
          go_meet
          case rel => exact ⟨_, (wrap64 (x10_1 + x11_1)), (wrap64 (-x11_1)), (x1001_1), (x1002_1), (by first | rfl | (simp; done) | (simp [*]; done)), (by first | rfl | (simp; done) | (simp [*]; done)), H', ⟨by have := HK1.out; first | omega | exact Nat.le_refl _⟩, ⟨by (try simp only [hl9_1]); (with_reducible repeat (first | apply Kd.R_alloc | apply Kd.R_drewN | apply Kd.R_drew)); exact HO_9.out⟩, ⟨by repeat (first | (with_reducible first | exact HI0.out | apply IsS123.alloc | apply IsS123.drewN | apply IsS123.drew | apply IsS123.set_1 | apply IsS123.set_2) | exact HI0.out)⟩, ⟨by repeat (first | (with_reducible first | exact HK.out | apply KeepBut.set_ | apply keep_drewN | apply keep_drew | apply keep_alloc) | exact HK.out)⟩, ⟨by repeat (first | (with_reducible first | exact HB.out | apply below_alloc | apply pw_below_drewN | apply below_drew1 | refine below_set ?_ (IsS123.ge HI0.out)) | exact HB.out)⟩⟩
        rw [if_neg c23] at H
        have c23b0 : (t119 == 1) = false := beq_eq_false_iff_ne.mpr c23
        have c23b1 : (t119 != 1) = true := bne_iff_ne.mpr c23
        by_cases c25 : t119 = 2
        rotate_left
        · rw [if_neg c25] at H
          have c25b0 : (t119 == 2) = false := beq_eq_false_iff_ne.mpr c25
          have c25b1 : (t119 != 2) = true := bne_iff_ne.mpr c25
          by_cases c28 : t119 = 3
          rotate_left
          · rw [if_neg c28] at H
            have c28b0 : (t119 == 3) = false := beq_eq_false_iff_ne.mpr c28
            have c28b1 : (t119 != 3) = true := bne_iff_ne.mpr c28
            have H' := Aside0.mk H
            clear H
            go_wp2
            go_meet
            case rel => exact ⟨_, (x10_1), (x11_1), (x1001_1), (x1002_1), (by first | rfl | (simp; done) | (simp [*]; done)), (by first | rfl | (simp; done) | (simp [*]; done)), H', ⟨by have := HK1.out; first | omega | exact Nat.le_refl _⟩, ⟨by (try simp only [hl9_1]); (with_reducible repeat (first | apply Kd.R_alloc | apply Kd.R_drewN | apply Kd.R_drew)); exact HO_9.out⟩, ⟨by repeat (first | (with_reducible first | exact HI0.out | apply IsS123.alloc | apply IsS123.drewN | apply IsS123.drew | apply IsS123.set_1 | apply IsS123.set_2) | exact HI0.out)⟩, ⟨by repeat (first | (with_reducible first | exact HK.out | apply KeepBut.set_ | apply keep_drewN | apply keep_drew | apply keep_alloc) | exact HK.out)⟩, ⟨by repeat (first | (with_reducible first | exact HB.out | apply below_alloc | apply pw_below_drewN | apply below_drew1 | refine below_set ?_ (IsS123.ge HI0.out)) | exact HB.out)⟩⟩
          rw [if_pos c28] at H
          have c28b0 : (t119 == 3) = true := beq_iff_eq.mpr c28
          have c28b1 : (t119 != 3) = false := bne_eq_false_iff_eq.mpr c28
          clear c28
          have H' := Aside0.mk H
          clear H
          go_wp2
          go_meet
          case rel => exact ⟨_, (wrap64 (Int.tdiv (wrap64 ((wrap64 (x32_1 * x32_1)) * x11_1)) 9)), (x11_1), (x1001_1), (x1002_1), (by first | rfl | (simp; done) | (simp [*]; done)), (by first | rfl | (simp; done) | (simp [*]; done)), H', ⟨by have := HK1.out; first | omega | exact Nat.le_refl _⟩, ⟨by (try simp only [hl9_1]); (with_reducible repeat (first | apply Kd.R_alloc | apply Kd.R_drewN | apply Kd.R_drew)); exact HO_9.out⟩, ⟨by repeat (first | (with_reducible first | exact HI0.out | apply IsS123.alloc | apply IsS123.drewN | apply IsS123.drew | apply IsS123.set_1 | apply IsS123.set_2) | exact HI0.out)⟩, ⟨by repeat (first | (with_reducible first | exact HK.out | apply KeepBut.set_ | apply keep_drewN | apply keep_drew | apply keep_alloc) | exact HK.out)⟩, ⟨by repeat (first | (with_reducible first | exact HB.out | apply below_alloc | apply pw_below_drewN | apply below_drew1 | refine below_set ?_ (IsS123.ge HI0.out)) | exact HB.out)⟩⟩
        rw [if_pos c25] at H
        have c25b0 : (t119 == 2) = true := beq_iff_eq.mpr c25
        have c25b1 : (t119 != 2) = false := bne_eq_false_iff_eq.mpr c25
        clear c25
        replace H := Option.bind_eq_some_iff.mp H
        obtain ⟨⟨t134, t135, t136⟩, A260, H⟩ := H
        replace H : (spec_l1Cur_tone.j1 k1 ji6 t119 x9_1 (wrap64 (x10_1 + (wrap64 (t134 - 3)))) x11_1 x32_1 (y122.length : Int) x32_1 s0_0 t135 t136) = some (r1, r2, r3) := H
        have A26 := Aside0.mk A260
        clear A260
        have H' := Aside0.mk H
        clear H
        go_wp2_with (first | ((with_reducible refine gate_callee (f := 105) rfl ?_); refine goesL_ (some 58) rfl rfl Try.func105 (by kernel_rfl) rfl #[.pointer (some ⟨g, 0, none⟩), .int .i64 7] rfl (by (try simp only [List.map_toArray, List.map_cons, List.map_nil]); first | done | rfl | (simp only [List.length_drop, List.length_take]; rfl)) ?_; (with_reducible refine (spec_l1Cur_pick.calls g s0_0 x1001_1 x1002_1 7 t134 t135 t136 w0 _ ?side1 ?side2 A26.out).mono ?_); (case side1 => repeat (first | (with_reducible first | exact HI0.out | apply IsS123.alloc | apply IsS123.drewN | apply IsS123.drew | apply IsS123.set_1 | apply IsS123.set_2) | exact HI0.out)); (case side2 => repeat (first | (with_reducible first | exact HB.out | apply below_alloc | apply pw_below_drewN | apply below_drew1 | refine below_set ?_ (IsS123.ge HI0.out)) | exact HB.out)); rintro e w27 ⟨rfl, hi, hb, hk⟩; refine ⟨_, rfl, ?_⟩; have n0_ := Aside0.mk (Kd.R_mono (Kd.R_keep (IsS123.apart (show IsS123 w0 _ g s0_0 x1001_1 x1002_1 from by repeat (first | (with_reducible first | exact HI0.out | apply IsS123.alloc | apply IsS123.drewN | apply IsS123.drew | apply IsS123.set_1 | apply IsS123.set_2) | exact HI0.out)) (by (with_reducible repeat (first | apply Kd.R_alloc | apply Kd.R_drewN | apply Kd.R_drew)); exact HO_9.out) (by decide)) hk (fun _ h => h.2)) (fun _ h => h.1)); have n1_ := Aside0.mk (KeepBut.trans (by repeat (first | (with_reducible first | exact HK.out | apply KeepBut.set_ | apply keep_drewN | apply keep_drew | apply keep_alloc) | exact HK.out)) hk (.inl rfl)); have n2_ := Aside0.mk (hb); have n3_ := Aside0.mk (hi); clear HO_9; clear HK; clear HB; clear HI0; have HO_9 := n0_; have HK := n1_; have HB := n2_; have HI0 := n3_; clear n0_ n1_ n2_ n3_; (try clear hb); (try clear hb2); (try clear hk); (try clear hi)))
        go_meet
        case rel => exact ⟨_, (wrap64 (x10_1 + (wrap64 (t134 - 3)))), (x11_1), (t135), (t136), (by first | rfl | (simp; done) | (simp [*]; done)), (by first | rfl | (simp; done) | (simp [*]; done)), H', ⟨by have := HK1.out; first | omega | exact Nat.le_refl _⟩, ⟨by (try simp only [hl9_1]); (with_reducible repeat (first | apply Kd.R_alloc | apply Kd.R_drewN | apply Kd.R_drew)); exact HO_9.out⟩, ⟨by repeat (first | (with_reducible first | exact HI0.out | apply IsS123.alloc | apply IsS123.drewN | apply IsS123.drew | apply IsS123.set_1 | apply IsS123.set_2) | exact HI0.out)⟩, ⟨by repeat (first | (with_reducible first | exact HK.out | apply KeepBut.set_ | apply keep_drewN | apply keep_drew | apply keep_alloc) | exact HK.out)⟩, ⟨by repeat (first | (with_reducible first | exact HB.out | apply below_alloc | apply pw_below_drewN | apply below_drew1 | refine below_set ?_ (IsS123.ge HI0.out)) | exact HB.out)⟩⟩
      case rest =>
        clear HC19
        try clear c1
        try clear c2
        try clear p2
        try clear c5
        try clear c5b0
        try clear c5b1
        try clear p6
        try clear c8
        try clear c8b0
        try clear c8b1
        try clear c9
        try clear c9b0
        try clear c9b1
        try clear c10
        try clear c11
        try clear c18
        try clear c18b0
        try clear c20
        try clear c20b0
        try clear c20b1
        try clear c23
        try clear c23b0
        try clear c23b1
        try clear c24
        try clear c24b0
        try clear c24b1
        try clear c25
        try clear c25b0
        try clear c25b1
        try clear c28
        try clear c28b0
        try clear c28b1
        try clear p2
        try clear p6
        obtain ⟨kq, x10_18, x11_18, x1001_18, x1002_18, rfl, rfl, HA, HJ18, HO_9, HI0, HK, HB⟩ := hcut
        cases kq with
        | zero => exact absurd HA.out (by simp [spec_l1Cur_tone.j1])
        | succ kj18 =>
          have H := HA.out
          clear HA
          simp only [spec_l1Cur_tone.j1] at H
          by_cases c29 : x10_18 < (wrap64 (-ji6))
          rotate_left
          · rw [if_neg c29] at H
            have c29b0 : decide (x10_18 < (wrap64 (-ji6))) = false := decide_eq_false c29
            clear c29
            by_cases c41 : x10_18 ≥ ji6
            rotate_left
            · rw [if_neg c41] at H
              have c41b0 : decide (ji6 ≤ x10_18) = false := decide_eq_false c41
              clear c41
              by_cases c47 : 0 ≤ x32_1
              rotate_left
              · rw [if_neg c47] at H
                exact absurd H (by simp)
              rw [if_pos c47] at H
              have c47b0 : decide (0 ≤ x32_1) = true := decide_eq_true c47
              clear c47
              by_cases c48 : x32_1 < (x9_1.length : Int)
              rotate_left
              · rw [if_neg c48] at H
                exact absurd H (by simp)
              rw [if_pos c48] at H
              have c48b0 : decide (x32_1 < (x9_1.length : Int)) = true := decide_eq_true c48
              (try simp only [hl9_1] at c48b0)
              clear c48
              obtain ⟨y140, hy140⟩ : ∃ y_ : List Int, y_ = (x9_1.set (x32_1 : Int).toNat x10_18) := ⟨_, rfl⟩
              replace H : (spec_l1Cur_tone.l0 kj18 ji6 t119 y140 x10_18 x11_18 (y122.length : Int) (wrap64 (x32_1 + 1)) s0_0 x1001_18 x1002_18) = some (r1, r2, r3) := by first | (rw [hy140]; with_reducible exact H) | (have H2_ := (Option.bind_some _ _).symm.trans H; rw [hy140]; with_reducible exact H2_) | (have H2_ := (Option.bind_some _ _).symm.trans H; with_reducible exact H2_) | with_reducible exact H | (rw [hy140]; exact H) | exact H
              have Ny140 := Aside0.mk hy140
              clear hy140
              have H' := Aside0.mk H
              clear H
              have p49 : 0 ≤ (x32_1 : Int) := of_decide_eq_true (by first | (with_reducible assumption) | assumption)
              have q49 : (x32_1 : Int) < ((x9_1.length : Int) : Int) := of_decide_eq_true (by first | (with_reducible assumption) | assumption)
              obtain ⟨go49, co49, eo49, gb49, gl49, cl49, HG49⟩ := Kd.R_form HO_9.out (by omega)
              (first | cases eo49 | (injection eo49 with ea_ en_ ec_; (first | subst ea_ | (injection ea_ with ea_; subst ea_)); subst ec_; clear en_))
              have GB49 := Aside0.mk gb49
              have GG49 := Aside0.mk HG49
              clear gb49 gl49 HG49
              obtain ⟨hx49_0, hf49_0⟩ := Kd.R_celln 0 HO_9.out (x32_1 : Int) p49 q49
              replace p49 := eq_true p49
              replace q49 := eq_true q49
              have HP50 := Kd.R_putg HO_9.out (x32_1 : Int) x10_18
              go_wp2_with (first | ((with_reducible refine gate_store (t := 3) (p := 83) rfl ?_); refine store_event (t := 3) (p := 83) (v := ?vo_w51) (w1 := (wc.setCell ⟨go49, (x32_1 : Int).toNat, none⟩ (.int .i64 x10_18))) ?hg ?ho ?hn ?hr ?_; (case ho => rfl); (case hg => rfl); (case hn => rfl); (case hr => first | (go_simp; done) | (go_simp; rfl)); intro w51 hw; have hg : wc.grownBy w51 (some go49) := (by rw [hw]; exact HP50.2); have hp_ : Kd.R (Kd.int .i64) 3 w51 w.heap.size (fun _ => True) (.slice (some ⟨go49, 0, none⟩) x9_1.length co17) y140 := (by rw [hw, Ny140.out]; exact HP50.1); clear HP50; have n0_ := Aside0.mk (hp_); have n1_ := Aside0.mk (IsS123.grown (by repeat (first | (with_reducible first | exact HI0.out | apply IsS123.alloc | apply IsS123.drewN | apply IsS123.drew | apply IsS123.set_1 | apply IsS123.set_2) | exact HI0.out)) hg (IsS123.own_ne HI0.out HO_9.out (by decide))); have n2_ := Aside0.mk ((by rw [hw]; exact below_set (HB.out) (Nat.le_trans HL.out GB49.out) : Below w0.heap.size w0 w51)); have n3_ := Aside0.mk (KeepBut.trans (by repeat (first | (with_reducible first | exact HK.out | apply KeepBut.set_ | apply keep_drewN | apply keep_drew | apply keep_alloc) | exact HK.out)) (KeepBut.of_grown hg g) (Kd.R_base2 HO_9.out)); clear HO_9; clear HI0; clear HB; clear HK; have HO_9 := n0_; have HI0 := n1_; have HB := n2_; have HK := n3_; clear n0_ n1_ n2_ n3_; clear hg hw hp_))
              (try simp only [← hl9_1])
              go_roundg kj18
              case measure => have := HK1.out; have := HJ18.out; omega
              case rel => exact ⟨(y140), (x10_18), (x11_18), (wrap64 (x32_1 + 1)), (x1001_18), (x1002_18), (by first | rfl | (simp; done) | (simp [*]; done)), (by first | rfl | (simp; done) | (simp [*]; done)), (by first | rfl | (simp; done) | (simp [*]; done)), H', ⟨by have := HK1.out; have := HJ18.out; omega⟩, ⟨by (try simp only [hl9_1]); (with_reducible repeat (first | apply Kd.R_alloc | apply Kd.R_drewN | apply Kd.R_drew)); exact HO_9.out⟩, ⟨by repeat (first | (with_reducible first | exact HI0.out | apply IsS123.alloc | apply IsS123.drewN | apply IsS123.drew | apply IsS123.set_1 | apply IsS123.set_2) | exact HI0.out)⟩, ⟨by repeat (first | (with_reducible first | exact HK.out | apply KeepBut.set_ | apply keep_drewN | apply keep_drew | apply keep_alloc) | exact HK.out)⟩, ⟨by repeat (first | (with_reducible first | exact HB.out | apply below_alloc | apply pw_below_drewN | apply below_drew1 | refine below_set ?_ (IsS123.ge HI0.out)) | exact HB.out)⟩⟩
            rw [if_pos c41] at H
            have c41b0 : decide (ji6 ≤ x10_18) = true := decide_eq_true c41
            clear c41
            by_cases c42 : 0 ≤ x32_1
            rotate_left
            · rw [if_neg c42] at H
              exact absurd H (by simp)
            rw [if_pos c42] at H
            have c42b0 : decide (0 ≤ x32_1) = true := decide_eq_true c42
            clear c42
            by_cases c43 : x32_1 < (x9_1.length : Int)
            rotate_left
            · rw [if_neg c43] at H
              exact absurd H (by simp)
            rw [if_pos c43] at H
            have c43b0 : decide (x32_1 < (x9_1.length : Int)) = true := decide_eq_true c43
            (try simp only [hl9_1] at c43b0)
            clear c43
            obtain ⟨y139, hy139⟩ : ∃ y_ : List Int, y_ = (x9_1.set (x32_1 : Int).toNat (wrap64 (ji6 - 1))) := ⟨_, rfl⟩
            replace H : (spec_l1Cur_tone.l0 kj18 ji6 t119 y139 (wrap64 (ji6 - 1)) x11_18 (y122.length : Int) (wrap64 (x32_1 + 1)) s0_0 x1001_18 x1002_18) = some (r1, r2, r3) := by first | (rw [hy139]; with_reducible exact H) | (have H2_ := (Option.bind_some _ _).symm.trans H; rw [hy139]; with_reducible exact H2_) | (have H2_ := (Option.bind_some _ _).symm.trans H; with_reducible exact H2_) | with_reducible exact H | (rw [hy139]; exact H) | exact H
            have Ny139 := Aside0.mk hy139
            clear hy139
            have H' := Aside0.mk H
            clear H
            have p44 : 0 ≤ (x32_1 : Int) := of_decide_eq_true (by first | (with_reducible assumption) | assumption)
            have q44 : (x32_1 : Int) < ((x9_1.length : Int) : Int) := of_decide_eq_true (by first | (with_reducible assumption) | assumption)
            obtain ⟨go44, co44, eo44, gb44, gl44, cl44, HG44⟩ := Kd.R_form HO_9.out (by omega)
            (first | cases eo44 | (injection eo44 with ea_ en_ ec_; (first | subst ea_ | (injection ea_ with ea_; subst ea_)); subst ec_; clear en_))
            have GB44 := Aside0.mk gb44
            have GG44 := Aside0.mk HG44
            clear gb44 gl44 HG44
            obtain ⟨hx44_0, hf44_0⟩ := Kd.R_celln 0 HO_9.out (x32_1 : Int) p44 q44
            replace p44 := eq_true p44
            replace q44 := eq_true q44
            have HP45 := Kd.R_putg HO_9.out (x32_1 : Int) (wrap64 (ji6 - 1))
            go_wp2_with (first | ((with_reducible refine gate_store (t := 3) (p := 83) rfl ?_); refine store_event (t := 3) (p := 83) (v := ?vo_w46) (w1 := (wc.setCell ⟨go44, (x32_1 : Int).toNat, none⟩ (.int .i64 (wrap64 (ji6 - 1))))) ?hg ?ho ?hn ?hr ?_; (case ho => rfl); (case hg => rfl); (case hn => rfl); (case hr => first | (go_simp; done) | (go_simp; rfl)); intro w46 hw; have hg : wc.grownBy w46 (some go44) := (by rw [hw]; exact HP45.2); have hp_ : Kd.R (Kd.int .i64) 3 w46 w.heap.size (fun _ => True) (.slice (some ⟨go44, 0, none⟩) x9_1.length co17) y139 := (by rw [hw, Ny139.out]; exact HP45.1); clear HP45; have n0_ := Aside0.mk (hp_); have n1_ := Aside0.mk (IsS123.grown (by repeat (first | (with_reducible first | exact HI0.out | apply IsS123.alloc | apply IsS123.drewN | apply IsS123.drew | apply IsS123.set_1 | apply IsS123.set_2) | exact HI0.out)) hg (IsS123.own_ne HI0.out HO_9.out (by decide))); have n2_ := Aside0.mk ((by rw [hw]; exact below_set (HB.out) (Nat.le_trans HL.out GB44.out) : Below w0.heap.size w0 w46)); have n3_ := Aside0.mk (KeepBut.trans (by repeat (first | (with_reducible first | exact HK.out | apply KeepBut.set_ | apply keep_drewN | apply keep_drew | apply keep_alloc) | exact HK.out)) (KeepBut.of_grown hg g) (Kd.R_base2 HO_9.out)); clear HO_9; clear HI0; clear HB; clear HK; have HO_9 := n0_; have HI0 := n1_; have HB := n2_; have HK := n3_; clear n0_ n1_ n2_ n3_; clear hg hw hp_))
            (try simp only [← hl9_1])
            go_roundg kj18
            case measure => have := HK1.out; have := HJ18.out; omega
            case rel => exact ⟨(y139), (wrap64 (ji6 - 1)), (x11_18), (wrap64 (x32_1 + 1)), (x1001_18), (x1002_18), (by first | rfl | (simp; done) | (simp only [← hji6] <;> (first | rfl | simp)) | (simp [*]; done)), (by first | rfl | (simp; done) | (simp [*]; done)), (by first | rfl | (simp; done) | (simp [*]; done)), H', ⟨by have := HK1.out; have := HJ18.out; omega⟩, ⟨by (try simp only [hl9_1]); (with_reducible repeat (first | apply Kd.R_alloc | apply Kd.R_drewN | apply Kd.R_drew)); exact HO_9.out⟩, ⟨by repeat (first | (with_reducible first | exact HI0.out | apply IsS123.alloc | apply IsS123.drewN | apply IsS123.drew | apply IsS123.set_1 | apply IsS123.set_2) | exact HI0.out)⟩, ⟨by repeat (first | (with_reducible first | exact HK.out | apply KeepBut.set_ | apply keep_drewN | apply keep_drew | apply keep_alloc) | exact HK.out)⟩, ⟨by repeat (first | (with_reducible first | exact HB.out | apply below_alloc | apply pw_below_drewN | apply below_drew1 | refine below_set ?_ (IsS123.ge HI0.out)) | exact HB.out)⟩⟩
          rw [if_pos c29] at H
          have c29b0 : decide (x10_18 < (wrap64 (-ji6))) = true := decide_eq_true c29
          clear c29
          by_cases c30 : (wrap64 (-ji6)) ≥ ji6
          rotate_left
          · rw [if_neg c30] at H
            have c30b0 : decide (ji6 ≤ (wrap64 (-ji6))) = false := decide_eq_false c30
            clear c30
            by_cases c36 : 0 ≤ x32_1
            rotate_left
            · rw [if_neg c36] at H
              exact absurd H (by simp)
            rw [if_pos c36] at H
            have c36b0 : decide (0 ≤ x32_1) = true := decide_eq_true c36
            clear c36
            by_cases c37 : x32_1 < (x9_1.length : Int)
            rotate_left
            · rw [if_neg c37] at H
              exact absurd H (by simp)
            rw [if_pos c37] at H
            have c37b0 : decide (x32_1 < (x9_1.length : Int)) = true := decide_eq_true c37
            (try simp only [hl9_1] at c37b0)
            clear c37
            obtain ⟨y138, hy138⟩ : ∃ y_ : List Int, y_ = (x9_1.set (x32_1 : Int).toNat (wrap64 (-ji6))) := ⟨_, rfl⟩
            replace H : (spec_l1Cur_tone.l0 kj18 ji6 t119 y138 (wrap64 (-ji6)) x11_18 (y122.length : Int) (wrap64 (x32_1 + 1)) s0_0 x1001_18 x1002_18) = some (r1, r2, r3) := by first | (rw [hy138]; with_reducible exact H) | (have H2_ := (Option.bind_some _ _).symm.trans H; rw [hy138]; with_reducible exact H2_) | (have H2_ := (Option.bind_some _ _).symm.trans H; with_reducible exact H2_) | with_reducible exact H | (rw [hy138]; exact H) | exact H
            have Ny138 := Aside0.mk hy138
            clear hy138
            have H' := Aside0.mk H
            clear H
            have p38 : 0 ≤ (x32_1 : Int) := of_decide_eq_true (by first | (with_reducible assumption) | assumption)
            have q38 : (x32_1 : Int) < ((x9_1.length : Int) : Int) := of_decide_eq_true (by first | (with_reducible assumption) | assumption)
            obtain ⟨go38, co38, eo38, gb38, gl38, cl38, HG38⟩ := Kd.R_form HO_9.out (by omega)
            (first | cases eo38 | (injection eo38 with ea_ en_ ec_; (first | subst ea_ | (injection ea_ with ea_; subst ea_)); subst ec_; clear en_))
            have GB38 := Aside0.mk gb38
            have GG38 := Aside0.mk HG38
            clear gb38 gl38 HG38
            obtain ⟨hx38_0, hf38_0⟩ := Kd.R_celln 0 HO_9.out (x32_1 : Int) p38 q38
            replace p38 := eq_true p38
            replace q38 := eq_true q38
            have HP39 := Kd.R_putg HO_9.out (x32_1 : Int) (wrap64 (-ji6))
            go_wp2_with (first | ((with_reducible refine gate_store (t := 3) (p := 83) rfl ?_); refine store_event (t := 3) (p := 83) (v := ?vo_w40) (w1 := (wc.setCell ⟨go38, (x32_1 : Int).toNat, none⟩ (.int .i64 (wrap64 (-ji6))))) ?hg ?ho ?hn ?hr ?_; (case ho => rfl); (case hg => rfl); (case hn => rfl); (case hr => first | (go_simp; done) | (go_simp; rfl)); intro w40 hw; have hg : wc.grownBy w40 (some go38) := (by rw [hw]; exact HP39.2); have hp_ : Kd.R (Kd.int .i64) 3 w40 w.heap.size (fun _ => True) (.slice (some ⟨go38, 0, none⟩) x9_1.length co17) y138 := (by rw [hw, Ny138.out]; exact HP39.1); clear HP39; have n0_ := Aside0.mk (hp_); have n1_ := Aside0.mk (IsS123.grown (by repeat (first | (with_reducible first | exact HI0.out | apply IsS123.alloc | apply IsS123.drewN | apply IsS123.drew | apply IsS123.set_1 | apply IsS123.set_2) | exact HI0.out)) hg (IsS123.own_ne HI0.out HO_9.out (by decide))); have n2_ := Aside0.mk ((by rw [hw]; exact below_set (HB.out) (Nat.le_trans HL.out GB38.out) : Below w0.heap.size w0 w40)); have n3_ := Aside0.mk (KeepBut.trans (by repeat (first | (with_reducible first | exact HK.out | apply KeepBut.set_ | apply keep_drewN | apply keep_drew | apply keep_alloc) | exact HK.out)) (KeepBut.of_grown hg g) (Kd.R_base2 HO_9.out)); clear HO_9; clear HI0; clear HB; clear HK; have HO_9 := n0_; have HI0 := n1_; have HB := n2_; have HK := n3_; clear n0_ n1_ n2_ n3_; clear hg hw hp_))
            (try simp only [← hl9_1])
            go_roundg kj18
            case measure => have := HK1.out; have := HJ18.out; omega
            case rel => exact ⟨(y138), (wrap64 (-ji6)), (x11_18), (wrap64 (x32_1 + 1)), (x1001_18), (x1002_18), (by first | rfl | (simp; done) | (simp only [← hji6] <;> (first | rfl | simp)) | (simp [*]; done)), (by first | rfl | (simp; done) | (simp [*]; done)), (by first | rfl | (simp; done) | (simp [*]; done)), H', ⟨by have := HK1.out; have := HJ18.out; omega⟩, ⟨by (try simp only [hl9_1]); (with_reducible repeat (first | apply Kd.R_alloc | apply Kd.R_drewN | apply Kd.R_drew)); exact HO_9.out⟩, ⟨by repeat (first | (with_reducible first | exact HI0.out | apply IsS123.alloc | apply IsS123.drewN | apply IsS123.drew | apply IsS123.set_1 | apply IsS123.set_2) | exact HI0.out)⟩, ⟨by repeat (first | (with_reducible first | exact HK.out | apply KeepBut.set_ | apply keep_drewN | apply keep_drew | apply keep_alloc) | exact HK.out)⟩, ⟨by repeat (first | (with_reducible first | exact HB.out | apply below_alloc | apply pw_below_drewN | apply below_drew1 | refine below_set ?_ (IsS123.ge HI0.out)) | exact HB.out)⟩⟩
          rw [if_pos c30] at H
          have c30b0 : decide (ji6 ≤ (wrap64 (-ji6))) = true := decide_eq_true c30
          clear c30
          by_cases c31 : 0 ≤ x32_1
          rotate_left
          · rw [if_neg c31] at H
            exact absurd H (by simp)
          rw [if_pos c31] at H
          have c31b0 : decide (0 ≤ x32_1) = true := decide_eq_true c31
          clear c31
          by_cases c32 : x32_1 < (x9_1.length : Int)
          rotate_left
          · rw [if_neg c32] at H
            exact absurd H (by simp)
          rw [if_pos c32] at H
          have c32b0 : decide (x32_1 < (x9_1.length : Int)) = true := decide_eq_true c32
          (try simp only [hl9_1] at c32b0)
          clear c32
          obtain ⟨y137, hy137⟩ : ∃ y_ : List Int, y_ = (x9_1.set (x32_1 : Int).toNat (wrap64 (ji6 - 1))) := ⟨_, rfl⟩
          replace H : (spec_l1Cur_tone.l0 kj18 ji6 t119 y137 (wrap64 (ji6 - 1)) x11_18 (y122.length : Int) (wrap64 (x32_1 + 1)) s0_0 x1001_18 x1002_18) = some (r1, r2, r3) := by first | (rw [hy137]; with_reducible exact H) | (have H2_ := (Option.bind_some _ _).symm.trans H; rw [hy137]; with_reducible exact H2_) | (have H2_ := (Option.bind_some _ _).symm.trans H; with_reducible exact H2_) | with_reducible exact H | (rw [hy137]; exact H) | exact H
          have Ny137 := Aside0.mk hy137
          clear hy137
          have H' := Aside0.mk H
          clear H
          have p33 : 0 ≤ (x32_1 : Int) := of_decide_eq_true (by first | (with_reducible assumption) | assumption)
          have q33 : (x32_1 : Int) < ((x9_1.length : Int) : Int) := of_decide_eq_true (by first | (with_reducible assumption) | assumption)
          obtain ⟨go33, co33, eo33, gb33, gl33, cl33, HG33⟩ := Kd.R_form HO_9.out (by omega)
          (first | cases eo33 | (injection eo33 with ea_ en_ ec_; (first | subst ea_ | (injection ea_ with ea_; subst ea_)); subst ec_; clear en_))
          have GB33 := Aside0.mk gb33
          have GG33 := Aside0.mk HG33
          clear gb33 gl33 HG33
          obtain ⟨hx33_0, hf33_0⟩ := Kd.R_celln 0 HO_9.out (x32_1 : Int) p33 q33
          replace p33 := eq_true p33
          replace q33 := eq_true q33
          have HP34 := Kd.R_putg HO_9.out (x32_1 : Int) (wrap64 (ji6 - 1))
          go_wp2_with (first | ((with_reducible refine gate_store (t := 3) (p := 83) rfl ?_); refine store_event (t := 3) (p := 83) (v := ?vo_w35) (w1 := (wc.setCell ⟨go33, (x32_1 : Int).toNat, none⟩ (.int .i64 (wrap64 (ji6 - 1))))) ?hg ?ho ?hn ?hr ?_; (case ho => rfl); (case hg => rfl); (case hn => rfl); (case hr => first | (go_simp; done) | (go_simp; rfl)); intro w35 hw; have hg : wc.grownBy w35 (some go33) := (by rw [hw]; exact HP34.2); have hp_ : Kd.R (Kd.int .i64) 3 w35 w.heap.size (fun _ => True) (.slice (some ⟨go33, 0, none⟩) x9_1.length co17) y137 := (by rw [hw, Ny137.out]; exact HP34.1); clear HP34; have n0_ := Aside0.mk (hp_); have n1_ := Aside0.mk (IsS123.grown (by repeat (first | (with_reducible first | exact HI0.out | apply IsS123.alloc | apply IsS123.drewN | apply IsS123.drew | apply IsS123.set_1 | apply IsS123.set_2) | exact HI0.out)) hg (IsS123.own_ne HI0.out HO_9.out (by decide))); have n2_ := Aside0.mk ((by rw [hw]; exact below_set (HB.out) (Nat.le_trans HL.out GB33.out) : Below w0.heap.size w0 w35)); have n3_ := Aside0.mk (KeepBut.trans (by repeat (first | (with_reducible first | exact HK.out | apply KeepBut.set_ | apply keep_drewN | apply keep_drew | apply keep_alloc) | exact HK.out)) (KeepBut.of_grown hg g) (Kd.R_base2 HO_9.out)); clear HO_9; clear HI0; clear HB; clear HK; have HO_9 := n0_; have HI0 := n1_; have HB := n2_; have HK := n3_; clear n0_ n1_ n2_ n3_; clear hg hw hp_))
          (try simp only [← hl9_1])
          go_roundg kj18
          case measure => have := HK1.out; have := HJ18.out; omega
          case rel => exact ⟨(y137), (wrap64 (ji6 - 1)), (x11_18), (wrap64 (x32_1 + 1)), (x1001_18), (x1002_18), (by first | rfl | (simp; done) | (simp only [← hji6] <;> (first | rfl | simp)) | (simp [*]; done)), (by first | rfl | (simp; done) | (simp [*]; done)), (by first | rfl | (simp; done) | (simp [*]; done)), H', ⟨by have := HK1.out; have := HJ18.out; omega⟩, ⟨by (try simp only [hl9_1]); (with_reducible repeat (first | apply Kd.R_alloc | apply Kd.R_drewN | apply Kd.R_drew)); exact HO_9.out⟩, ⟨by repeat (first | (with_reducible first | exact HI0.out | apply IsS123.alloc | apply IsS123.drewN | apply IsS123.drew | apply IsS123.set_1 | apply IsS123.set_2) | exact HI0.out)⟩, ⟨by repeat (first | (with_reducible first | exact HK.out | apply KeepBut.set_ | apply keep_drewN | apply keep_drew | apply keep_alloc) | exact HK.out)⟩, ⟨by repeat (first | (with_reducible first | exact HB.out | apply below_alloc | apply pw_below_drewN | apply below_drew1 | refine below_set ?_ (IsS123.ge HI0.out)) | exact HB.out)⟩⟩

/-! ### spec_l10Drawn: function 113 -/
mutual
def spec_l10Drawn.j0 : Nat → Int → Int → List Int → Int → Int → Option (List Int × List Int × Int × Int)
  | 0, _, _, _, _, _ => none
  | k + 1, x5, x6, x142000, x142001, x142002 => (spec_l1Cur_one.f x142000 x142001 x142002 30).bind fun bt154 => (if bt154.1 = true then ((spec_l1Cur_pick.f x142000 bt154.2.1 bt154.2.2 3).bind fun bt157 => (spec_l10Drawn.j1 k x5 (wrap64 ((wrap64 (4000 + bt157.1)) - 1)) x142000 bt157.2.1 bt157.2.2)) else (spec_l10Drawn.j1 k x5 x6 x142000 bt154.2.1 bt154.2.2))
def spec_l10Drawn.j1 : Nat → Int → Int → List Int → Int → Int → Option (List Int × List Int × Int × Int)
  | 0, _, _, _, _, _ => none
  | k + 1, x5, x6, x142000, x142001, x142002 => (spec_l1Cur_tone.f k x142000 x142001 x142002 x6 x5).bind fun bt160 => ((spec_l1Cur_one.f x142000 bt160.2.1 bt160.2.2 12).bind fun bt165 => (if bt165.1 = true then (spec_l10Drawn.j2 k x6 bt160.1 (decide (x6 > 0)) x142000 bt165.2.1 bt165.2.2) else (spec_l10Drawn.j2 k x6 bt160.1 false x142000 bt165.2.1 bt165.2.2)))
def spec_l10Drawn.j2 : Nat → Int → List Int → Bool → List Int → Int → Int → Option (List Int × List Int × Int × Int)
  | 0, _, _, _, _, _, _ => none
  | k + 1, x6, x7, x36, x142000, x142001, x142002 => if x36 = true then ((spec_l1Cur_pick.f x142000 x142001 x142002 x6).bind fun bt168 => ((some (([67108863, 67108864, (-67108864), (-67108865)] : List Int) : List Int)).bind fun y171 => ((spec_l1Cur_pick.f x142000 bt168.2.1 bt168.2.2 4).bind fun bt174 => (if 0 ≤ bt174.1 then (if bt174.1 < (y171.length : Int) then (if 0 ≤ bt168.1 then (if bt168.1 < (x7.length : Int) then (some ((x7.set (bt168.1 : Int).toNat (rd y171 bt174.1)), x142000, bt174.2.1, bt174.2.2)) else (none)) else (none)) else (none)) else (none))))) else (some (x7, x142000, x142001, x142002))
end
def spec_l10Drawn.f (k : Nat) (l0 : List Int) : Option (List Int × List Int × Int × Int) := (spec_l1Cur_pick.f l0 0 0 25).bind fun bt142 => ((spec_l1Cur_pick.f l0 bt142.2.1 bt142.2.2 40).bind fun bt145 => ((spec_l1Cur_one.f l0 bt145.2.1 bt145.2.2 3).bind fun bt148 => (if bt148.1 = true then ((spec_l1Cur_pick.f l0 bt148.2.1 bt148.2.2 8).bind fun bt151 => (spec_l10Drawn.j0 k (wrap64 (2 + bt142.1)) (wrap64 (16 * bt151.1)) l0 bt151.2.1 bt151.2.2)) else (spec_l10Drawn.j0 k (wrap64 (2 + bt142.1)) bt145.1 l0 bt148.2.1 bt148.2.2))))
theorem spec_l10Drawn.mono_l : ∀ k, (∀ y0 y1 y2 y3 y4, LeO (spec_l10Drawn.j0 k y0 y1 y2 y3 y4) (spec_l10Drawn.j0 (k + 1) y0 y1 y2 y3 y4)) ∧ (∀ y0 y1 y2 y3 y4, LeO (spec_l10Drawn.j1 k y0 y1 y2 y3 y4) (spec_l10Drawn.j1 (k + 1) y0 y1 y2 y3 y4)) ∧ (∀ y0 y1 y2 y3 y4 y5, LeO (spec_l10Drawn.j2 k y0 y1 y2 y3 y4 y5) (spec_l10Drawn.j2 (k + 1) y0 y1 y2 y3 y4 y5))
  | 0 => ⟨fun _ _ _ _ _ r h => by simp [spec_l10Drawn.j0] at h, fun _ _ _ _ _ r h => by simp [spec_l10Drawn.j1] at h, fun _ _ _ _ _ _ r h => by simp [spec_l10Drawn.j2] at h⟩
  | k + 1 => by
    obtain ⟨ih0, ih1, ih2⟩ := spec_l10Drawn.mono_l k
    refine ⟨?_, ?_, ?_⟩
    · intro y0 y1 y2 y3 y4
      unfold spec_l10Drawn.j0
      repeat' first
      | (with_reducible exact ih0 _ _ _ _ _)
      | (with_reducible exact ih1 _ _ _ _ _)
      | (with_reducible exact ih2 _ _ _ _ _ _)
      | (with_reducible exact spec_l1Cur_tone.mono _ _ _ _ _ _)
      | (with_reducible exact LeO.refl _)
      | (with_reducible exact LeO.none _)
      | (with_reducible refine LeO.ite ?_ ?_)
      | (with_reducible refine LeO.bind ?_ (fun _ => ?_))
      | exact ih0 _ _ _ _ _
      | exact ih1 _ _ _ _ _
      | exact ih2 _ _ _ _ _ _
      | exact spec_l1Cur_tone.mono _ _ _ _ _ _
      | exact LeO.none _
      | refine LeO.ite ?_ ?_
      | refine LeO.bind ?_ (fun _ => ?_)
    · intro y0 y1 y2 y3 y4
      unfold spec_l10Drawn.j1
      repeat' first
      | (with_reducible exact ih0 _ _ _ _ _)
      | (with_reducible exact ih1 _ _ _ _ _)
      | (with_reducible exact ih2 _ _ _ _ _ _)
      | (with_reducible exact spec_l1Cur_tone.mono _ _ _ _ _ _)
      | (with_reducible exact LeO.refl _)
      | (with_reducible exact LeO.none _)
      | (with_reducible refine LeO.ite ?_ ?_)
      | (with_reducible refine LeO.bind ?_ (fun _ => ?_))
      | exact ih0 _ _ _ _ _
      | exact ih1 _ _ _ _ _
      | exact ih2 _ _ _ _ _ _
      | exact spec_l1Cur_tone.mono _ _ _ _ _ _
      | exact LeO.none _
      | refine LeO.ite ?_ ?_
      | refine LeO.bind ?_ (fun _ => ?_)
    · intro y0 y1 y2 y3 y4 y5
      unfold spec_l10Drawn.j2
      repeat' first
      | (with_reducible exact ih0 _ _ _ _ _)
      | (with_reducible exact ih1 _ _ _ _ _)
      | (with_reducible exact ih2 _ _ _ _ _ _)
      | (with_reducible exact spec_l1Cur_tone.mono _ _ _ _ _ _)
      | (with_reducible exact LeO.refl _)
      | (with_reducible exact LeO.none _)
      | (with_reducible refine LeO.ite ?_ ?_)
      | (with_reducible refine LeO.bind ?_ (fun _ => ?_))
      | exact ih0 _ _ _ _ _
      | exact ih1 _ _ _ _ _
      | exact ih2 _ _ _ _ _ _
      | exact spec_l1Cur_tone.mono _ _ _ _ _ _
      | exact LeO.none _
      | refine LeO.ite ?_ ?_
      | refine LeO.bind ?_ (fun _ => ?_)
theorem spec_l10Drawn.mono : ∀ a0 k, LeO (spec_l10Drawn.f k a0) (spec_l10Drawn.f (k + 1) a0) := by
  intro a0 k
  obtain ⟨ih0, ih1, ih2⟩ := spec_l10Drawn.mono_l k
  unfold spec_l10Drawn.f
  repeat' first
      | (with_reducible exact ih0 _ _ _ _ _)
      | (with_reducible exact ih1 _ _ _ _ _)
      | (with_reducible exact ih2 _ _ _ _ _ _)
      | (with_reducible exact spec_l1Cur_tone.mono _ _ _ _ _ _)
      | (with_reducible exact LeO.refl _)
      | (with_reducible exact LeO.none _)
      | (with_reducible refine LeO.ite ?_ ?_)
      | (with_reducible refine LeO.bind ?_ (fun _ => ?_))
      | exact ih0 _ _ _ _ _
      | exact ih1 _ _ _ _ _
      | exact ih2 _ _ _ _ _ _
      | exact spec_l1Cur_tone.mono _ _ _ _ _ _
      | exact LeO.none _
      | refine LeO.ite ?_ ?_
      | refine LeO.bind ?_ (fun _ => ?_)
theorem spec_l10Drawn.bk {w0 w W W2 : World} {g : Nat} (h0 : Below w0.heap.size w0 w) (hB : Below w.heap.size w W) (hb : Below w0.heap.size w0 W2) (hk : KeepBut W W2 g none) (hg : w.heap.size ≤ g) : Below w.heap.size w W2 :=
  ⟨hb.os.trans h0.os.symm, hb.tape.trans h0.tape.symm, hb.output.trans h0.output.symm, Nat.le_trans hB.size hk.1, fun k h => (hk.2 k (Nat.lt_of_lt_of_le h hB.size) (by omega) (by simp)).trans (hB.block k h)⟩
set_option maxHeartbeats 8000000 in
set_option maxRecDepth 100000 in
theorem spec_l10Drawn.calls (k : Nat) (A0 : Option Addr) (c0 : Nat) (l0 : List Int) (r1 : List Int) (r2 : List Int) (r3 : Int) (r4 : Int) (w0 w : World) (hB : Below w0.heap.size w0 w) (hr0 : Kd.C (Kd.int .u8) w0 A0 l0.length l0) (hc0 : l0.length ≤ c0) (h : spec_l10Drawn.f k l0 = some (r1, r2, r3, r4)) :
    Calls Try.prog 113 #[.slice A0 l0.length c0] w fun e w' => ∃ v0_ : Value, ∃ g_ : Nat, e = .returned (.tuple #[v0_, .pointer (some ⟨g_, 0, none⟩)]) ∧ Kd.R (Kd.int .i64) 3 w' w.heap.size (fun _ => True) v0_ r1 ∧ IsS123 w0 w' g_ r2 r3 r4 ∧ Below w.heap.size w w' := by
  have hu123 := Try.underlying123
  have HQ0 := Aside0.mk hr0
  have HR0 := Aside0.mk (Kd.C_below hr0 hB)
  have HC0 := Aside0.mk hc0
  clear hr0 hc0
  have HB := Aside0.mk (Below.refl w.heap.size w)
  have HB0 := Aside0.mk hB
  clear hB
  have H : ((spec_l1Cur_pick.f l0 0 0 25).bind fun bt142 => ((spec_l1Cur_pick.f l0 bt142.2.1 bt142.2.2 40).bind fun bt145 => ((spec_l1Cur_one.f l0 bt145.2.1 bt145.2.2 3).bind fun bt148 => (if bt148.1 = true then ((spec_l1Cur_pick.f l0 bt148.2.1 bt148.2.2 8).bind fun bt151 => (spec_l10Drawn.j0 k (wrap64 (2 + bt142.1)) (wrap64 (16 * bt151.1)) l0 bt151.2.1 bt151.2.2)) else (spec_l10Drawn.j0 k (wrap64 (2 + bt142.1)) bt145.1 l0 bt148.2.1 bt148.2.2))))) = some (r1, r2, r3, r4) := h
  clear h
  replace H := Option.bind_eq_some_iff.mp H
  obtain ⟨⟨t142, t143, t144⟩, A20, H⟩ := H
  replace H : ((spec_l1Cur_pick.f l0 t143 t144 40).bind fun bt145 => ((spec_l1Cur_one.f l0 bt145.2.1 bt145.2.2 3).bind fun bt148 => (if bt148.1 = true then ((spec_l1Cur_pick.f l0 bt148.2.1 bt148.2.2 8).bind fun bt151 => (spec_l10Drawn.j0 k (wrap64 (2 + t142)) (wrap64 (16 * bt151.1)) l0 bt151.2.1 bt151.2.2)) else (spec_l10Drawn.j0 k (wrap64 (2 + t142)) bt145.1 l0 bt148.2.1 bt148.2.2)))) = some (r1, r2, r3, r4) := H
  have A2 := Aside0.mk A20
  clear A20
  replace H := Option.bind_eq_some_iff.mp H
  obtain ⟨⟨t145, t146, t147⟩, A30, H⟩ := H
  replace H : ((spec_l1Cur_one.f l0 t146 t147 3).bind fun bt148 => (if bt148.1 = true then ((spec_l1Cur_pick.f l0 bt148.2.1 bt148.2.2 8).bind fun bt151 => (spec_l10Drawn.j0 k (wrap64 (2 + t142)) (wrap64 (16 * bt151.1)) l0 bt151.2.1 bt151.2.2)) else (spec_l10Drawn.j0 k (wrap64 (2 + t142)) t145 l0 bt148.2.1 bt148.2.2))) = some (r1, r2, r3, r4) := H
  have A3 := Aside0.mk A30
  clear A30
  replace H := Option.bind_eq_some_iff.mp H
  obtain ⟨⟨t148, t149, t150⟩, A40, H⟩ := H
  replace H : (if t148 = true then ((spec_l1Cur_pick.f l0 t149 t150 8).bind fun bt151 => (spec_l10Drawn.j0 k (wrap64 (2 + t142)) (wrap64 (16 * bt151.1)) l0 bt151.2.1 bt151.2.2)) else (spec_l10Drawn.j0 k (wrap64 (2 + t142)) t145 l0 t149 t150)) = some (r1, r2, r3, r4) := H
  have A4 := Aside0.mk A40
  clear A40
  have HC5 := Aside0.mk H
  clear H
  go_enter Try.func113, Try.ntmps113
  go_upto_if 17 with (first | ((with_reducible refine gate_dst (N := 10) rfl ?_); refine box_event ?hg (N := 10) ?hd (cs := #[.slice A0 l0.length c0, .int .i64 0, .int .u64 0]) (t := 123) ?hr ?_; (case hd => rfl); (case hg => rfl); (case hr => first | (go_simp; done) | (go_simp; rfl)); intro gb141 hg w6 hbox hb; have n0_ := Aside0.mk (below_step (by repeat (first | (with_reducible first | exact HB.out | apply below_alloc | apply pw_below_drewN | apply below_drew1) | exact HB.out)) hb); have n1_ := Aside0.mk ((by rw [hg]; exact (below_size (by repeat (first | (with_reducible first | exact HB.out | apply below_alloc | apply pw_below_drewN | apply below_drew1) | exact HB.out))) : w.heap.size ≤ gb141)); have n2_ := Aside0.mk ((show IsS123 w0 w6 gb141 l0 0 0 from ⟨_, _, hbox, (by rw [hg]; exact Nat.le_trans HB0.out.size ((below_size (by repeat (first | (with_reducible first | exact HB.out | apply below_alloc | apply pw_below_drewN | apply below_drew1) | exact HB.out))))), HQ0.out⟩)); have n3_ := n1_; clear HB; have HB := n0_; have GW141 := n1_; have HI141 := n2_; have GS141 := n3_; clear n0_ n1_ n2_ n3_; clear hb hbox hg) | ((with_reducible refine gate_callee (f := 105) rfl ?_); refine goesL_ (some 12) rfl rfl Try.func105 (by kernel_rfl) rfl #[.pointer (some ⟨gb141, 0, none⟩), .int .i64 25] rfl (by (try simp only [List.map_toArray, List.map_cons, List.map_nil]); first | done | rfl | (simp only [List.length_drop, List.length_take]; rfl)) ?_; (with_reducible refine (spec_l1Cur_pick.calls gb141 l0 0 0 25 t142 t143 t144 w0 _ ?side1 ?side2 A2.out).mono ?_); (case side1 => repeat (first | (with_reducible first | exact HI141.out | apply IsS123.alloc | apply IsS123.drewN | apply IsS123.drew | apply IsS123.set_1 | apply IsS123.set_2) | exact HI141.out)); (case side2 => exact below_step HB0.out (by repeat (first | (with_reducible first | exact HB.out | apply below_alloc | apply pw_below_drewN | apply below_drew1 | refine below_set ?_ (IsS123.ge HI141.out)) | exact HB.out))); rintro e w7 ⟨rfl, hi, hb, hk⟩; refine ⟨_, rfl, ?_⟩; have n0_ := Aside0.mk (spec_l10Drawn.bk HB0.out (by repeat (first | (with_reducible first | exact HB.out | apply below_alloc | apply pw_below_drewN | apply below_drew1 | refine below_set ?_ (IsS123.ge HI141.out)) | exact HB.out)) hb hk GS141.out); have n1_ := Aside0.mk (hi); clear HB; clear HI141; have HB := n0_; have HI141 := n1_; clear n0_ n1_; (try clear hb); (try clear hb2); (try clear hk); (try clear hi)) | ((with_reducible refine gate_callee (f := 105) rfl ?_); refine goesL_ (some 15) rfl rfl Try.func105 (by kernel_rfl) rfl #[.pointer (some ⟨gb141, 0, none⟩), .int .i64 40] rfl (by (try simp only [List.map_toArray, List.map_cons, List.map_nil]); first | done | rfl | (simp only [List.length_drop, List.length_take]; rfl)) ?_; (with_reducible refine (spec_l1Cur_pick.calls gb141 l0 t143 t144 40 t145 t146 t147 w0 _ ?side1 ?side2 A3.out).mono ?_); (case side1 => repeat (first | (with_reducible first | exact HI141.out | apply IsS123.alloc | apply IsS123.drewN | apply IsS123.drew | apply IsS123.set_1 | apply IsS123.set_2) | exact HI141.out)); (case side2 => exact below_step HB0.out (by repeat (first | (with_reducible first | exact HB.out | apply below_alloc | apply pw_below_drewN | apply below_drew1 | refine below_set ?_ (IsS123.ge HI141.out)) | exact HB.out))); rintro e w8 ⟨rfl, hi, hb, hk⟩; refine ⟨_, rfl, ?_⟩; have n0_ := Aside0.mk (spec_l10Drawn.bk HB0.out (by repeat (first | (with_reducible first | exact HB.out | apply below_alloc | apply pw_below_drewN | apply below_drew1 | refine below_set ?_ (IsS123.ge HI141.out)) | exact HB.out)) hb hk GS141.out); have n1_ := Aside0.mk (hi); clear HB; clear HI141; have HB := n0_; have HI141 := n1_; clear n0_ n1_; (try clear hb); (try clear hb2); (try clear hk); (try clear hi)) | ((with_reducible refine gate_callee (f := 104) rfl ?_); refine goesL_ (some 17) rfl rfl Try.func104 (by kernel_rfl) rfl #[.pointer (some ⟨gb141, 0, none⟩), .int .i64 3] rfl (by (try simp only [List.map_toArray, List.map_cons, List.map_nil]); first | done | rfl | (simp only [List.length_drop, List.length_take]; rfl)) ?_; (with_reducible refine (spec_l1Cur_one.calls gb141 l0 t146 t147 3 t148 t149 t150 w0 _ ?side1 ?side2 A4.out).mono ?_); (case side1 => repeat (first | (with_reducible first | exact HI141.out | apply IsS123.alloc | apply IsS123.drewN | apply IsS123.drew | apply IsS123.set_1 | apply IsS123.set_2) | exact HI141.out)); (case side2 => exact below_step HB0.out (by repeat (first | (with_reducible first | exact HB.out | apply below_alloc | apply pw_below_drewN | apply below_drew1 | refine below_set ?_ (IsS123.ge HI141.out)) | exact HB.out))); rintro e w9 ⟨rfl, hi, hb, hk⟩; refine ⟨_, rfl, ?_⟩; have n0_ := Aside0.mk (spec_l10Drawn.bk HB0.out (by repeat (first | (with_reducible first | exact HB.out | apply below_alloc | apply pw_below_drewN | apply below_drew1 | refine below_set ?_ (IsS123.ge HI141.out)) | exact HB.out)) hb hk GS141.out); have n1_ := Aside0.mk (hi); clear HB; clear HI141; have HB := n0_; have HI141 := n1_; clear n0_ n1_; (try clear hb); (try clear hb2); (try clear hk); (try clear hi)))
  (try simp only [Act.put, List.setIfInBounds_toArray, List.set_cons_zero, List.set_cons_succ])
  go_cut [6] (fun v6 wc => ∃ (kq : Nat) (x6_4 : Int) (x142001_4 : Int) (x142002_4 : Int), v6 = .int .i64 x6_4 ∧ Aside0 (spec_l10Drawn.j0 kq (wrap64 (2 + t142)) x6_4 l0 x142001_4 x142002_4 = some (r1, r2, r3, r4)) ∧ Aside0 (kq ≤ k) ∧ Aside0 (IsS123 w0 wc gb141 l0 x142001_4 x142002_4) ∧ Aside0 (Below w.heap.size w wc))
  case first =>
    have H := HC5.out
    clear HC5
    by_cases c10 : t148 = true
    rotate_left
    · replace c10 := Bool.eq_false_iff.mpr c10
      subst c10
      have H1 : (spec_l10Drawn.j0 k (wrap64 (2 + t142)) t145 l0 t149 t150) = some (r1, r2, r3, r4) := by rw [if_neg (show ¬ (false = true) by decide)] at H; exact H
      clear H
      have H := H1
      clear H1
      have H' := Aside0.mk H
      clear H
      go_wp2
      go_meet
      case rel => exact ⟨_, (t145), (t149), (t150), (by first | rfl | (simp; done) | (simp [*]; done)), H', ⟨by first | omega | exact Nat.le_refl _⟩, ⟨by repeat (first | (with_reducible first | exact HI141.out | apply IsS123.alloc | apply IsS123.drewN | apply IsS123.drew | apply IsS123.set_1 | apply IsS123.set_2) | exact HI141.out)⟩, ⟨by repeat (first | (with_reducible first | exact HB.out | apply below_alloc | apply pw_below_drewN | apply below_drew1 | refine below_set ?_ (IsS123.ge HI141.out)) | exact HB.out)⟩⟩
    subst c10
    have H1 : ((spec_l1Cur_pick.f l0 t149 t150 8).bind fun bt151 => (spec_l10Drawn.j0 k (wrap64 (2 + t142)) (wrap64 (16 * bt151.1)) l0 bt151.2.1 bt151.2.2)) = some (r1, r2, r3, r4) := by rw [if_pos rfl] at H; exact H
    clear H
    have H := H1
    clear H1
    replace H := Option.bind_eq_some_iff.mp H
    obtain ⟨⟨t151, t152, t153⟩, A110, H⟩ := H
    replace H : (spec_l10Drawn.j0 k (wrap64 (2 + t142)) (wrap64 (16 * t151)) l0 t152 t153) = some (r1, r2, r3, r4) := H
    have A11 := Aside0.mk A110
    clear A110
    have H' := Aside0.mk H
    clear H
    go_wp2_with (first | ((with_reducible refine gate_callee (f := 105) rfl ?_); refine goesL_ (some 19) rfl rfl Try.func105 (by kernel_rfl) rfl #[.pointer (some ⟨gb141, 0, none⟩), .int .i64 8] rfl (by (try simp only [List.map_toArray, List.map_cons, List.map_nil]); first | done | rfl | (simp only [List.length_drop, List.length_take]; rfl)) ?_; (with_reducible refine (spec_l1Cur_pick.calls gb141 l0 t149 t150 8 t151 t152 t153 w0 _ ?side1 ?side2 A11.out).mono ?_); (case side1 => repeat (first | (with_reducible first | exact HI141.out | apply IsS123.alloc | apply IsS123.drewN | apply IsS123.drew | apply IsS123.set_1 | apply IsS123.set_2) | exact HI141.out)); (case side2 => exact below_step HB0.out (by repeat (first | (with_reducible first | exact HB.out | apply below_alloc | apply pw_below_drewN | apply below_drew1 | refine below_set ?_ (IsS123.ge HI141.out)) | exact HB.out))); rintro e w12 ⟨rfl, hi, hb, hk⟩; refine ⟨_, rfl, ?_⟩; have n0_ := Aside0.mk (spec_l10Drawn.bk HB0.out (by repeat (first | (with_reducible first | exact HB.out | apply below_alloc | apply pw_below_drewN | apply below_drew1 | refine below_set ?_ (IsS123.ge HI141.out)) | exact HB.out)) hb hk GS141.out); have n1_ := Aside0.mk (hi); clear HB; clear HI141; have HB := n0_; have HI141 := n1_; clear n0_ n1_; (try clear hb); (try clear hb2); (try clear hk); (try clear hi)))
    go_meet
    case rel => exact ⟨_, (wrap64 (16 * t151)), (t152), (t153), (by first | rfl | (simp; done) | (simp [*]; done)), H', ⟨by first | omega | exact Nat.le_refl _⟩, ⟨by repeat (first | (with_reducible first | exact HI141.out | apply IsS123.alloc | apply IsS123.drewN | apply IsS123.drew | apply IsS123.set_1 | apply IsS123.set_2) | exact HI141.out)⟩, ⟨by repeat (first | (with_reducible first | exact HB.out | apply below_alloc | apply pw_below_drewN | apply below_drew1 | refine below_set ?_ (IsS123.ge HI141.out)) | exact HB.out)⟩⟩
  case rest =>
    clear HC5
    try clear c1
    try clear p2
    try clear p6
    try clear c10
    try clear c11
    obtain ⟨kq, x6_4, x142001_4, x142002_4, rfl, HA, HJ4, HI141, HB⟩ := hcut
    cases kq with
    | zero => exact absurd HA.out (by simp [spec_l10Drawn.j0])
    | succ kj4 =>
      have H := HA.out
      clear HA
      simp only [spec_l10Drawn.j0] at H
      replace H := Option.bind_eq_some_iff.mp H
      obtain ⟨⟨t154, t155, t156⟩, A130, H⟩ := H
      replace H : (if t154 = true then ((spec_l1Cur_pick.f l0 t155 t156 3).bind fun bt157 => (spec_l10Drawn.j1 kj4 (wrap64 (2 + t142)) (wrap64 ((wrap64 (4000 + bt157.1)) - 1)) l0 bt157.2.1 bt157.2.2)) else (spec_l10Drawn.j1 kj4 (wrap64 (2 + t142)) x6_4 l0 t155 t156)) = some (r1, r2, r3, r4) := H
      have A13 := Aside0.mk A130
      clear A130
      have HC14 := Aside0.mk H
      clear H
      go_upto_if 22 with (first | ((with_reducible refine gate_callee (f := 104) rfl ?_); refine goesL_ (some 22) rfl rfl Try.func104 (by kernel_rfl) rfl #[.pointer (some ⟨gb141, 0, none⟩), .int .i64 30] rfl (by (try simp only [List.map_toArray, List.map_cons, List.map_nil]); first | done | rfl | (simp only [List.length_drop, List.length_take]; rfl)) ?_; (with_reducible refine (spec_l1Cur_one.calls gb141 l0 x142001_4 x142002_4 30 t154 t155 t156 w0 _ ?side1 ?side2 A13.out).mono ?_); (case side1 => repeat (first | (with_reducible first | exact HI141.out | apply IsS123.alloc | apply IsS123.drewN | apply IsS123.drew | apply IsS123.set_1 | apply IsS123.set_2) | exact HI141.out)); (case side2 => exact below_step HB0.out (by repeat (first | (with_reducible first | exact HB.out | apply below_alloc | apply pw_below_drewN | apply below_drew1 | refine below_set ?_ (IsS123.ge HI141.out)) | exact HB.out))); rintro e w15 ⟨rfl, hi, hb, hk⟩; refine ⟨_, rfl, ?_⟩; have n0_ := Aside0.mk (spec_l10Drawn.bk HB0.out (by repeat (first | (with_reducible first | exact HB.out | apply below_alloc | apply pw_below_drewN | apply below_drew1 | refine below_set ?_ (IsS123.ge HI141.out)) | exact HB.out)) hb hk GS141.out); have n1_ := Aside0.mk (hi); clear HB; clear HI141; have HB := n0_; have HI141 := n1_; clear n0_ n1_; (try clear hb); (try clear hb2); (try clear hk); (try clear hi)))
      (try simp only [Act.put, List.setIfInBounds_toArray, List.set_cons_zero, List.set_cons_succ])
      go_cut [6] (fun v6 wc => ∃ (kq : Nat) (x6_13 : Int) (x142001_13 : Int) (x142002_13 : Int), v6 = .int .i64 x6_13 ∧ Aside0 (spec_l10Drawn.j1 kq (wrap64 (2 + t142)) x6_13 l0 x142001_13 x142002_13 = some (r1, r2, r3, r4)) ∧ Aside0 (kq ≤ kj4) ∧ Aside0 (IsS123 w0 wc gb141 l0 x142001_13 x142002_13) ∧ Aside0 (Below w.heap.size w wc))
      case first =>
        have H := HC14.out
        clear HC14
        by_cases c16 : t154 = true
        rotate_left
        · replace c16 := Bool.eq_false_iff.mpr c16
          subst c16
          have H1 : (spec_l10Drawn.j1 kj4 (wrap64 (2 + t142)) x6_4 l0 t155 t156) = some (r1, r2, r3, r4) := by rw [if_neg (show ¬ (false = true) by decide)] at H; exact H
          clear H
          have H := H1
          clear H1
          have H' := Aside0.mk H
          clear H
          go_wp2
          go_meet
          case rel => exact ⟨_, (x6_4), (t155), (t156), (by first | rfl | (simp; done) | (simp [*]; done)), H', ⟨by have := HJ4.out; first | omega | exact Nat.le_refl _⟩, ⟨by repeat (first | (with_reducible first | exact HI141.out | apply IsS123.alloc | apply IsS123.drewN | apply IsS123.drew | apply IsS123.set_1 | apply IsS123.set_2) | exact HI141.out)⟩, ⟨by repeat (first | (with_reducible first | exact HB.out | apply below_alloc | apply pw_below_drewN | apply below_drew1 | refine below_set ?_ (IsS123.ge HI141.out)) | exact HB.out)⟩⟩
        subst c16
        have H1 : ((spec_l1Cur_pick.f l0 t155 t156 3).bind fun bt157 => (spec_l10Drawn.j1 kj4 (wrap64 (2 + t142)) (wrap64 ((wrap64 (4000 + bt157.1)) - 1)) l0 bt157.2.1 bt157.2.2)) = some (r1, r2, r3, r4) := by rw [if_pos rfl] at H; exact H
        clear H
        have H := H1
        clear H1
        replace H := Option.bind_eq_some_iff.mp H
        obtain ⟨⟨t157, t158, t159⟩, A170, H⟩ := H
        replace H : (spec_l10Drawn.j1 kj4 (wrap64 (2 + t142)) (wrap64 ((wrap64 (4000 + t157)) - 1)) l0 t158 t159) = some (r1, r2, r3, r4) := H
        have A17 := Aside0.mk A170
        clear A170
        have H' := Aside0.mk H
        clear H
        go_wp2_with (first | ((with_reducible refine gate_callee (f := 105) rfl ?_); refine goesL_ (some 24) rfl rfl Try.func105 (by kernel_rfl) rfl #[.pointer (some ⟨gb141, 0, none⟩), .int .i64 3] rfl (by (try simp only [List.map_toArray, List.map_cons, List.map_nil]); first | done | rfl | (simp only [List.length_drop, List.length_take]; rfl)) ?_; (with_reducible refine (spec_l1Cur_pick.calls gb141 l0 t155 t156 3 t157 t158 t159 w0 _ ?side1 ?side2 A17.out).mono ?_); (case side1 => repeat (first | (with_reducible first | exact HI141.out | apply IsS123.alloc | apply IsS123.drewN | apply IsS123.drew | apply IsS123.set_1 | apply IsS123.set_2) | exact HI141.out)); (case side2 => exact below_step HB0.out (by repeat (first | (with_reducible first | exact HB.out | apply below_alloc | apply pw_below_drewN | apply below_drew1 | refine below_set ?_ (IsS123.ge HI141.out)) | exact HB.out))); rintro e w18 ⟨rfl, hi, hb, hk⟩; refine ⟨_, rfl, ?_⟩; have n0_ := Aside0.mk (spec_l10Drawn.bk HB0.out (by repeat (first | (with_reducible first | exact HB.out | apply below_alloc | apply pw_below_drewN | apply below_drew1 | refine below_set ?_ (IsS123.ge HI141.out)) | exact HB.out)) hb hk GS141.out); have n1_ := Aside0.mk (hi); clear HB; clear HI141; have HB := n0_; have HI141 := n1_; clear n0_ n1_; (try clear hb); (try clear hb2); (try clear hk); (try clear hi)))
        go_meet
        case rel => exact ⟨_, (wrap64 ((wrap64 (4000 + t157)) - 1)), (t158), (t159), (by first | rfl | (simp; done) | (simp [*]; done)), H', ⟨by have := HJ4.out; first | omega | exact Nat.le_refl _⟩, ⟨by repeat (first | (with_reducible first | exact HI141.out | apply IsS123.alloc | apply IsS123.drewN | apply IsS123.drew | apply IsS123.set_1 | apply IsS123.set_2) | exact HI141.out)⟩, ⟨by repeat (first | (with_reducible first | exact HB.out | apply below_alloc | apply pw_below_drewN | apply below_drew1 | refine below_set ?_ (IsS123.ge HI141.out)) | exact HB.out)⟩⟩
      case rest =>
        clear HC14
        try clear c1
        try clear p2
        try clear p6
        try clear c10
        try clear c11
        try clear c16
        try clear p2
        try clear p6
        obtain ⟨kq, x6_13, x142001_13, x142002_13, rfl, HA, HJ13, HI141, HB⟩ := hcut
        cases kq with
        | zero => exact absurd HA.out (by simp [spec_l10Drawn.j1])
        | succ kj13 =>
          have H := HA.out
          clear HA
          simp only [spec_l10Drawn.j1] at H
          replace H := Option.bind_eq_some_iff.mp H
          obtain ⟨⟨t160, t163, t164⟩, A190, H⟩ := H
          replace H : ((spec_l1Cur_one.f l0 t163 t164 12).bind fun bt165 => (if bt165.1 = true then (spec_l10Drawn.j2 kj13 x6_13 t160 (decide (x6_13 > 0)) l0 bt165.2.1 bt165.2.2) else (spec_l10Drawn.j2 kj13 x6_13 t160 false l0 bt165.2.1 bt165.2.2))) = some (r1, r2, r3, r4) := H
          have A19 := Aside0.mk A190
          clear A190
          have HC20 := Aside0.mk H
          clear H
          go_upto_region 9 with (first | ((with_reducible refine gate_callee (f := 119) rfl ?_); refine goesL_ (some 30) rfl rfl Try.func119 (by kernel_rfl) rfl #[.pointer (some ⟨gb141, 0, none⟩), .int .i64 x6_13, .int .i64 (wrap64 (2 + t142))] rfl (by (try simp only [List.map_toArray, List.map_cons, List.map_nil]); first | done | rfl | (simp only [List.length_drop, List.length_take]; rfl)) ?_; (with_reducible refine (spec_l1Cur_tone.calls kj13 gb141 l0 x142001_13 x142002_13 x6_13 (wrap64 (2 + t142)) t160 t163 t164 w0 _ ?side1 ?side2 A19.out).mono ?_); (case side1 => repeat (first | (with_reducible first | exact HI141.out | apply IsS123.alloc | apply IsS123.drewN | apply IsS123.drew | apply IsS123.set_1 | apply IsS123.set_2) | exact HI141.out)); (case side2 => exact below_step HB0.out (by repeat (first | (with_reducible first | exact HB.out | apply below_alloc | apply pw_below_drewN | apply below_drew1 | refine below_set ?_ (IsS123.ge HI141.out)) | exact HB.out))); rintro e w21 ⟨v161, rfl, ho0, hi, hb, hk⟩; refine ⟨_, rfl, ?_⟩; have n0_ := Aside0.mk (Kd.R_lower ho0 (below_size (by repeat (first | (with_reducible first | exact HB.out | apply below_alloc | apply pw_below_drewN | apply below_drew1 | refine below_set ?_ (IsS123.ge HI141.out)) | exact HB.out)))); have n1_ := Aside0.mk (spec_l10Drawn.bk HB0.out (by repeat (first | (with_reducible first | exact HB.out | apply below_alloc | apply pw_below_drewN | apply below_drew1 | refine below_set ?_ (IsS123.ge HI141.out)) | exact HB.out)) hb hk GS141.out); have n2_ := Aside0.mk (hi); clear HB; clear HI141; have HO162 := n0_; have HB := n1_; have HI141 := n2_; clear n0_ n1_ n2_; (try clear hb); (try clear hb2); (try clear hk); (try clear hi); (try clear ho0)))
          (try simp only [Act.put, List.setIfInBounds_toArray, List.set_cons_zero, List.set_cons_succ])
          go_cut [36] (fun v36 wc => ∃ (kq : Nat) (x36_19 : Bool) (x142001_19 : Int) (x142002_19 : Int), v36 = .bool x36_19 ∧ Aside0 (spec_l10Drawn.j2 kq x6_13 t160 x36_19 l0 x142001_19 x142002_19 = some (r1, r2, r3, r4)) ∧ Aside0 (kq ≤ kj13) ∧ Aside0 (Kd.R (Kd.int .i64) 3 wc w.heap.size (fun _ => True) v161 t160) ∧ Aside0 (IsS123 w0 wc gb141 l0 x142001_19 x142002_19) ∧ Aside0 (Below w.heap.size w wc))
          case first =>
            have H := HC20.out
            clear HC20
            replace H := Option.bind_eq_some_iff.mp H
            obtain ⟨⟨t165, t166, t167⟩, A220, H⟩ := H
            replace H : (if t165 = true then (spec_l10Drawn.j2 kj13 x6_13 t160 (decide (x6_13 > 0)) l0 t166 t167) else (spec_l10Drawn.j2 kj13 x6_13 t160 false l0 t166 t167)) = some (r1, r2, r3, r4) := H
            have A22 := Aside0.mk A220
            clear A220
            by_cases c23 : t165 = true
            · subst c23
              have H1 : (spec_l10Drawn.j2 kj13 x6_13 t160 (decide (x6_13 > 0)) l0 t166 t167) = some (r1, r2, r3, r4) := by rw [if_pos rfl] at H; exact H
              clear H
              have H := H1
              clear H1
              have H' := Aside0.mk H
              clear H
              go_wp2_with (first | ((with_reducible refine gate_callee (f := 104) rfl ?_); refine goesL_ (some 32) rfl rfl Try.func104 (by kernel_rfl) rfl #[.pointer (some ⟨gb141, 0, none⟩), .int .i64 12] rfl (by (try simp only [List.map_toArray, List.map_cons, List.map_nil]); first | done | rfl | (simp only [List.length_drop, List.length_take]; rfl)) ?_; (with_reducible refine (spec_l1Cur_one.calls gb141 l0 t163 t164 12 true t166 t167 w0 _ ?side1 ?side2 A22.out).mono ?_); (case side1 => repeat (first | (with_reducible first | exact HI141.out | apply IsS123.alloc | apply IsS123.drewN | apply IsS123.drew | apply IsS123.set_1 | apply IsS123.set_2) | exact HI141.out)); (case side2 => exact below_step HB0.out (by repeat (first | (with_reducible first | exact HB.out | apply below_alloc | apply pw_below_drewN | apply below_drew1 | refine below_set ?_ (IsS123.ge HI141.out)) | exact HB.out))); rintro e w24 ⟨rfl, hi, hb, hk⟩; refine ⟨_, rfl, ?_⟩; have n0_ := Aside0.mk (Kd.R_mono (Kd.R_keep (IsS123.apart (show IsS123 w0 _ gb141 l0 t163 t164 from by repeat (first | (with_reducible first | exact HI141.out | apply IsS123.alloc | apply IsS123.drewN | apply IsS123.drew | apply IsS123.set_1 | apply IsS123.set_2) | exact HI141.out)) (by (with_reducible repeat (first | apply Kd.R_alloc | apply Kd.R_drewN | apply Kd.R_drew)); exact HO162.out) (by decide)) hk (fun _ h => h.2)) (fun _ h => h.1)); have n1_ := Aside0.mk (spec_l10Drawn.bk HB0.out (by repeat (first | (with_reducible first | exact HB.out | apply below_alloc | apply pw_below_drewN | apply below_drew1 | refine below_set ?_ (IsS123.ge HI141.out)) | exact HB.out)) hb hk GS141.out); have n2_ := Aside0.mk (hi); clear HO162; clear HB; clear HI141; have HO162 := n0_; have HB := n1_; have HI141 := n2_; clear n0_ n1_ n2_; (try clear hb); (try clear hb2); (try clear hk); (try clear hi)))
              go_meet
              case rel => exact ⟨_, (decide (x6_13 > 0)), (t166), (t167), (by first | rfl | (simp; done) | (simp [*]; done)), H', ⟨by have := HJ4.out; have := HJ13.out; first | omega | exact Nat.le_refl _⟩, ⟨by (with_reducible repeat (first | apply Kd.R_alloc | apply Kd.R_drewN | apply Kd.R_drew)); exact HO162.out⟩, ⟨by repeat (first | (with_reducible first | exact HI141.out | apply IsS123.alloc | apply IsS123.drewN | apply IsS123.drew | apply IsS123.set_1 | apply IsS123.set_2) | exact HI141.out)⟩, ⟨by repeat (first | (with_reducible first | exact HB.out | apply below_alloc | apply pw_below_drewN | apply below_drew1 | refine below_set ?_ (IsS123.ge HI141.out)) | exact HB.out)⟩⟩
            replace c23 := Bool.eq_false_iff.mpr c23
            subst c23
            have H1 : (spec_l10Drawn.j2 kj13 x6_13 t160 false l0 t166 t167) = some (r1, r2, r3, r4) := by rw [if_neg (show ¬ (false = true) by decide)] at H; exact H
            clear H
            have H := H1
            clear H1
            have H' := Aside0.mk H
            clear H
            go_wp2_with (first | ((with_reducible refine gate_callee (f := 104) rfl ?_); refine goesL_ (some 32) rfl rfl Try.func104 (by kernel_rfl) rfl #[.pointer (some ⟨gb141, 0, none⟩), .int .i64 12] rfl (by (try simp only [List.map_toArray, List.map_cons, List.map_nil]); first | done | rfl | (simp only [List.length_drop, List.length_take]; rfl)) ?_; (with_reducible refine (spec_l1Cur_one.calls gb141 l0 t163 t164 12 false t166 t167 w0 _ ?side1 ?side2 A22.out).mono ?_); (case side1 => repeat (first | (with_reducible first | exact HI141.out | apply IsS123.alloc | apply IsS123.drewN | apply IsS123.drew | apply IsS123.set_1 | apply IsS123.set_2) | exact HI141.out)); (case side2 => exact below_step HB0.out (by repeat (first | (with_reducible first | exact HB.out | apply below_alloc | apply pw_below_drewN | apply below_drew1 | refine below_set ?_ (IsS123.ge HI141.out)) | exact HB.out))); rintro e w25 ⟨rfl, hi, hb, hk⟩; refine ⟨_, rfl, ?_⟩; have n0_ := Aside0.mk (Kd.R_mono (Kd.R_keep (IsS123.apart (show IsS123 w0 _ gb141 l0 t163 t164 from by repeat (first | (with_reducible first | exact HI141.out | apply IsS123.alloc | apply IsS123.drewN | apply IsS123.drew | apply IsS123.set_1 | apply IsS123.set_2) | exact HI141.out)) (by (with_reducible repeat (first | apply Kd.R_alloc | apply Kd.R_drewN | apply Kd.R_drew)); exact HO162.out) (by decide)) hk (fun _ h => h.2)) (fun _ h => h.1)); have n1_ := Aside0.mk (spec_l10Drawn.bk HB0.out (by repeat (first | (with_reducible first | exact HB.out | apply below_alloc | apply pw_below_drewN | apply below_drew1 | refine below_set ?_ (IsS123.ge HI141.out)) | exact HB.out)) hb hk GS141.out); have n2_ := Aside0.mk (hi); clear HO162; clear HB; clear HI141; have HO162 := n0_; have HB := n1_; have HI141 := n2_; clear n0_ n1_ n2_; (try clear hb); (try clear hb2); (try clear hk); (try clear hi)))
            go_meet
            case rel => exact ⟨_, (false), (t166), (t167), (by first | rfl | (simp; done) | (simp [*]; done)), H', ⟨by have := HJ4.out; have := HJ13.out; first | omega | exact Nat.le_refl _⟩, ⟨by (with_reducible repeat (first | apply Kd.R_alloc | apply Kd.R_drewN | apply Kd.R_drew)); exact HO162.out⟩, ⟨by repeat (first | (with_reducible first | exact HI141.out | apply IsS123.alloc | apply IsS123.drewN | apply IsS123.drew | apply IsS123.set_1 | apply IsS123.set_2) | exact HI141.out)⟩, ⟨by repeat (first | (with_reducible first | exact HB.out | apply below_alloc | apply pw_below_drewN | apply below_drew1 | refine below_set ?_ (IsS123.ge HI141.out)) | exact HB.out)⟩⟩
          case rest =>
            clear HC20
            try clear c1
            try clear c2
            try clear p2
            try clear p6
            try clear c10
            try clear c11
            try clear c16
            try clear c23
            try clear p2
            try clear p6
            obtain ⟨kq, x36_19, x142001_19, x142002_19, rfl, HA, HJ19, HO_7, HI141, HB⟩ := hcut
            cases kq with
            | zero => exact absurd HA.out (by simp [spec_l10Drawn.j2])
            | succ kj19 =>
              have H := HA.out
              clear HA
              simp only [spec_l10Drawn.j2] at H
              by_cases c26 : x36_19 = true
              rotate_left
              · replace c26 := Bool.eq_false_iff.mpr c26
                subst c26
                have H1 : (some (t160, l0, x142001_19, x142002_19)) = some (r1, r2, r3, r4) := by rw [if_neg (show ¬ (false = true) by decide)] at H; exact H
                clear H
                have H := H1
                clear H1
                simp only [Option.some.injEq, Prod.mk.injEq] at H
                obtain ⟨rfl, rfl, rfl, rfl⟩ := H
                go_wp2
                go_ret2
                exact ⟨_, _, by first | rfl | (simp [errW_none, errW_some] <;> rfl) | (simp [*, errW_none, errW_some] <;> rfl), by (with_reducible repeat (first | apply Kd.R_alloc | apply Kd.R_drewN | apply Kd.R_drew)); exact HO_7.out, by repeat (first | (with_reducible first | exact HI141.out | apply IsS123.alloc | apply IsS123.drewN | apply IsS123.drew | apply IsS123.set_1 | apply IsS123.set_2) | exact HI141.out), by repeat (first | (with_reducible first | exact HB.out | apply below_alloc | apply pw_below_drewN | apply below_drew1 | refine below_set ?_ (IsS123.ge HI141.out)) | exact HB.out)⟩
              subst c26
              have H1 : ((spec_l1Cur_pick.f l0 x142001_19 x142002_19 x6_13).bind fun bt168 => ((some (([67108863, 67108864, (-67108864), (-67108865)] : List Int) : List Int)).bind fun y171 => ((spec_l1Cur_pick.f l0 bt168.2.1 bt168.2.2 4).bind fun bt174 => (if 0 ≤ bt174.1 then (if bt174.1 < (y171.length : Int) then (if 0 ≤ bt168.1 then (if bt168.1 < (t160.length : Int) then (some ((t160.set (bt168.1 : Int).toNat (rd y171 bt174.1)), l0, bt174.2.1, bt174.2.2)) else (none)) else (none)) else (none)) else (none))))) = some (r1, r2, r3, r4) := by rw [if_pos rfl] at H; exact H
              clear H
              have H := H1
              clear H1
              replace H := Option.bind_eq_some_iff.mp H
              obtain ⟨⟨t168, t169, t170⟩, A270, H⟩ := H
              replace H : ((some (([67108863, 67108864, (-67108864), (-67108865)] : List Int) : List Int)).bind fun y171 => ((spec_l1Cur_pick.f l0 t169 t170 4).bind fun bt174 => (if 0 ≤ bt174.1 then (if bt174.1 < (y171.length : Int) then (if 0 ≤ t168 then (if t168 < (t160.length : Int) then (some ((t160.set (t168 : Int).toNat (rd y171 bt174.1)), l0, bt174.2.1, bt174.2.2)) else (none)) else (none)) else (none)) else (none)))) = some (r1, r2, r3, r4) := H
              have A27 := Aside0.mk A270
              clear A270
              obtain ⟨y171, hy171⟩ : ∃ y_ : List Int, y_ = (([67108863, 67108864, (-67108864), (-67108865)] : List Int)) := ⟨_, rfl⟩
              replace H : ((spec_l1Cur_pick.f l0 t169 t170 4).bind fun bt174 => (if 0 ≤ bt174.1 then (if bt174.1 < (y171.length : Int) then (if 0 ≤ t168 then (if t168 < (t160.length : Int) then (some ((t160.set (t168 : Int).toNat (rd y171 bt174.1)), l0, bt174.2.1, bt174.2.2)) else (none)) else (none)) else (none)) else (none))) = some (r1, r2, r3, r4) := by first | (rw [hy171]; with_reducible exact H) | (have H2_ := (Option.bind_some _ _).symm.trans H; rw [hy171]; with_reducible exact H2_) | (have H2_ := (Option.bind_some _ _).symm.trans H; with_reducible exact H2_) | with_reducible exact H | (rw [hy171]; exact H) | exact H
              have Ny171 := Aside0.mk hy171
              clear hy171
              replace H := Option.bind_eq_some_iff.mp H
              obtain ⟨⟨t174, t175, t176⟩, A280, H⟩ := H
              replace H : (if 0 ≤ t174 then (if t174 < (y171.length : Int) then (if 0 ≤ t168 then (if t168 < (t160.length : Int) then (some ((t160.set (t168 : Int).toNat (rd y171 t174)), l0, t175, t176)) else (none)) else (none)) else (none)) else (none)) = some (r1, r2, r3, r4) := H
              have A28 := Aside0.mk A280
              clear A280
              by_cases c29 : 0 ≤ t174
              rotate_left
              · rw [if_neg c29] at H
                exact absurd H (by simp)
              rw [if_pos c29] at H
              have c29b0 : decide (0 ≤ t174) = true := decide_eq_true c29
              clear c29
              by_cases c30 : t174 < (y171.length : Int)
              rotate_left
              · rw [if_neg c30] at H
                exact absurd H (by simp)
              rw [if_pos c30] at H
              have c30b0 : decide (t174 < (y171.length : Int)) = true := decide_eq_true c30
              clear c30
              by_cases c31 : 0 ≤ t168
              rotate_left
              · rw [if_neg c31] at H
                exact absurd H (by simp)
              rw [if_pos c31] at H
              have c31b0 : decide (0 ≤ t168) = true := decide_eq_true c31
              clear c31
              by_cases c32 : t168 < (t160.length : Int)
              rotate_left
              · rw [if_neg c32] at H
                exact absurd H (by simp)
              rw [if_pos c32] at H
              have c32b0 : decide (t168 < (t160.length : Int)) = true := decide_eq_true c32
              clear c32
              obtain ⟨y178, hy178⟩ : ∃ y_ : List Int, y_ = (t160.set (t168 : Int).toNat (rd y171 t174)) := ⟨_, rfl⟩
              replace H : (some (y178, l0, t175, t176)) = some (r1, r2, r3, r4) := by first | (rw [hy178]; with_reducible exact H) | (have H2_ := (Option.bind_some _ _).symm.trans H; rw [hy178]; with_reducible exact H2_) | (have H2_ := (Option.bind_some _ _).symm.trans H; with_reducible exact H2_) | with_reducible exact H | (rw [hy178]; exact H) | exact H
              have Ny178 := Aside0.mk hy178
              clear hy178
              simp only [Option.some.injEq, Prod.mk.injEq] at H
              obtain ⟨rfl, rfl, rfl, rfl⟩ := H
              go_wp2_with (first | ((with_reducible refine gate_callee (f := 105) rfl ?_); refine goesL_ (some 40) rfl rfl Try.func105 (by kernel_rfl) rfl #[.pointer (some ⟨gb141, 0, none⟩), .int .i64 x6_13] rfl (by (try simp only [List.map_toArray, List.map_cons, List.map_nil]); first | done | rfl | (simp only [List.length_drop, List.length_take]; rfl)) ?_; (with_reducible refine (spec_l1Cur_pick.calls gb141 l0 x142001_19 x142002_19 x6_13 t168 t169 t170 w0 _ ?side1 ?side2 A27.out).mono ?_); (case side1 => repeat (first | (with_reducible first | exact HI141.out | apply IsS123.alloc | apply IsS123.drewN | apply IsS123.drew | apply IsS123.set_1 | apply IsS123.set_2) | exact HI141.out)); (case side2 => exact below_step HB0.out (by repeat (first | (with_reducible first | exact HB.out | apply below_alloc | apply pw_below_drewN | apply below_drew1 | refine below_set ?_ (IsS123.ge HI141.out)) | exact HB.out))); rintro e w34 ⟨rfl, hi, hb, hk⟩; refine ⟨_, rfl, ?_⟩; have n0_ := Aside0.mk (Kd.R_mono (Kd.R_keep (IsS123.apart (show IsS123 w0 _ gb141 l0 x142001_19 x142002_19 from by repeat (first | (with_reducible first | exact HI141.out | apply IsS123.alloc | apply IsS123.drewN | apply IsS123.drew | apply IsS123.set_1 | apply IsS123.set_2) | exact HI141.out)) (by (with_reducible repeat (first | apply Kd.R_alloc | apply Kd.R_drewN | apply Kd.R_drew)); exact HO_7.out) (by decide)) hk (fun _ h => h.2)) (fun _ h => h.1)); have n1_ := Aside0.mk (spec_l10Drawn.bk HB0.out (by repeat (first | (with_reducible first | exact HB.out | apply below_alloc | apply pw_below_drewN | apply below_drew1 | refine below_set ?_ (IsS123.ge HI141.out)) | exact HB.out)) hb hk GS141.out); have n2_ := Aside0.mk (hi); clear HO_7; clear HB; clear HI141; have HO_7 := n0_; have HB := n1_; have HI141 := n2_; clear n0_ n1_ n2_; (try clear hb); (try clear hb2); (try clear hk); (try clear hi)) | ((with_reducible refine gate_dst (N := 41) rfl ?_); refine Kd.R_lit (Kd.int .i64) _ 3 ?hg (N := 41) ?hd (xs := ([67108863, 67108864, (-67108864), (-67108865)] : List Int)) (inner := [.int .i64 67108863, .int .i64 67108864, .int .i64 (-67108864), .int .i64 (-67108865)]) (ok := fun _ => True) (okp := fun _ => True) ?hr ?hp (fun _ hk => hk) trivial (Below.refl _ _) (Nat.le_refl _) (by simp) ?_; (case hd => rfl); (case hg => rfl); (case hr => first | (go_simp; done) | (go_simp; rfl)); (case hp => exact (Reps.one (show Kd.M (Kd.int .i64) _ _ _ 67108863 [.int .i64 67108863] from rfl) (Reps.one (show Kd.M (Kd.int .i64) _ _ _ 67108864 [.int .i64 67108864] from rfl) (Reps.one (show Kd.M (Kd.int .i64) _ _ _ (-67108864) [.int .i64 (-67108864)] from rfl) (Reps.one (show Kd.M (Kd.int .i64) _ _ _ (-67108865) [.int .i64 (-67108865)] from rfl) (Reps.none _ _)))))); intro v172 w35 ho36 hb hg_ hnew_; clear hg_ hnew_; (first | rw [← Ny171.out] at ho36 | (simp only [Int.reduceToNat] at ho36; rw [← Ny171.out] at ho36)); have n0_ := Aside0.mk (Kd.R_elder' (by (with_reducible repeat (first | apply Kd.R_alloc | apply Kd.R_drewN | apply Kd.R_drew)); exact HO_7.out) (Kd.R_base ho36) hb); have n1_ := Aside0.mk (Kd.R_lower (Kd.R_new' ho36 (Kd.R_lt (by (with_reducible repeat (first | apply Kd.R_alloc | apply Kd.R_drewN | apply Kd.R_drew)); exact HO_7.out))) (below_size (by repeat (first | (with_reducible first | exact HB.out | apply below_alloc | apply pw_below_drewN | apply below_drew1 | refine below_set ?_ (IsS123.ge HI141.out)) | exact HB.out)))); have n2_ := Aside0.mk (IsS123.below (by repeat (first | (with_reducible first | exact HI141.out | apply IsS123.alloc | apply IsS123.drewN | apply IsS123.drew | apply IsS123.set_1 | apply IsS123.set_2) | exact HI141.out)) hb); have n3_ := Aside0.mk (below_step (by repeat (first | (with_reducible first | exact HB.out | apply below_alloc | apply pw_below_drewN | apply below_drew1 | refine below_set ?_ (IsS123.ge HI141.out)) | exact HB.out)) hb); clear HO_7; clear HI141; clear HB; have HO_7 := n0_; have HO173 := n1_; have HI141 := n2_; have HB := n3_; clear n0_ n1_ n2_ n3_; clear hb ho36) | ((with_reducible refine gate_callee (f := 105) rfl ?_); refine goesL_ (some 43) rfl rfl Try.func105 (by kernel_rfl) rfl #[.pointer (some ⟨gb141, 0, none⟩), .int .i64 4] rfl (by (try simp only [List.map_toArray, List.map_cons, List.map_nil]); first | done | rfl | (simp only [List.length_drop, List.length_take]; rfl)) ?_; (with_reducible refine (spec_l1Cur_pick.calls gb141 l0 t169 t170 4 t174 t175 t176 w0 _ ?side1 ?side2 A28.out).mono ?_); (case side1 => repeat (first | (with_reducible first | exact HI141.out | apply IsS123.alloc | apply IsS123.drewN | apply IsS123.drew | apply IsS123.set_1 | apply IsS123.set_2) | exact HI141.out)); (case side2 => exact below_step HB0.out (by repeat (first | (with_reducible first | exact HB.out | apply below_alloc | apply pw_below_drewN | apply below_drew1 | refine below_set ?_ (IsS123.ge HI141.out)) | exact HB.out))); rintro e w37 ⟨rfl, hi, hb, hk⟩; refine ⟨_, rfl, ?_⟩; have n0_ := Aside0.mk (Kd.R_mono (Kd.R_keep (IsS123.apart (show IsS123 w0 _ gb141 l0 t169 t170 from by repeat (first | (with_reducible first | exact HI141.out | apply IsS123.alloc | apply IsS123.drewN | apply IsS123.drew | apply IsS123.set_1 | apply IsS123.set_2) | exact HI141.out)) (by (with_reducible repeat (first | apply Kd.R_alloc | apply Kd.R_drewN | apply Kd.R_drew)); exact HO_7.out) (by decide)) hk (fun _ h => h.2)) (fun _ h => h.1)); have n1_ := Aside0.mk (Kd.R_mono (Kd.R_keep (IsS123.apart (show IsS123 w0 _ gb141 l0 t169 t170 from by repeat (first | (with_reducible first | exact HI141.out | apply IsS123.alloc | apply IsS123.drewN | apply IsS123.drew | apply IsS123.set_1 | apply IsS123.set_2) | exact HI141.out)) (by (with_reducible repeat (first | apply Kd.R_alloc | apply Kd.R_drewN | apply Kd.R_drew)); exact HO173.out) (by decide)) hk (fun _ h => h.2)) (fun _ h => h.1)); have n2_ := Aside0.mk (spec_l10Drawn.bk HB0.out (by repeat (first | (with_reducible first | exact HB.out | apply below_alloc | apply pw_below_drewN | apply below_drew1 | refine below_set ?_ (IsS123.ge HI141.out)) | exact HB.out)) hb hk GS141.out); have n3_ := Aside0.mk (hi); clear HO_7; clear HO173; clear HB; clear HI141; have HO_7 := n0_; have HO173 := n1_; have HB := n2_; have HI141 := n3_; clear n0_ n1_ n2_ n3_; (try clear hb); (try clear hb2); (try clear hk); (try clear hi); obtain ⟨Ao38, co38, eo38⟩ := Kd.R_slice HO173.out; subst eo38; have p177 : 0 ≤ (t174 : Int) := of_decide_eq_true (by first | (with_reducible assumption) | assumption); have q177 : t174 < (y171.length : Int) := of_decide_eq_true (by first | (with_reducible assumption) | assumption); obtain ⟨ad177, e177, hx177_0⟩ := Kd.at_int (Kd.R_reads' HO173.out).2.2 t174 p177 q177; cases e177; replace p177 := eq_true p177; replace q177 := eq_true q177; have p33 : 0 ≤ (t168 : Int) := of_decide_eq_true (by first | (with_reducible assumption) | assumption); have q33 : (t168 : Int) < ((t160.length : Int) : Int) := of_decide_eq_true (by first | (with_reducible assumption) | assumption); obtain ⟨go33, co33, eo33, gb33, gl33, cl33, HG33⟩ := Kd.R_form HO_7.out (by omega); (first | cases eo33 | (injection eo33 with ea_ en_ ec_; (first | subst ea_ | (injection ea_ with ea_; subst ea_)); subst ec_; clear en_)); have GB33 := Aside0.mk gb33; have GG33 := Aside0.mk HG33; clear gb33 gl33 HG33; obtain ⟨hx33_0, hf33_0⟩ := Kd.R_celln 0 HO_7.out (t168 : Int) p33 q33; replace p33 := eq_true p33; replace q33 := eq_true q33; have n_ := Aside0.mk (Kd.R_mono (ok' := (fun k_ => some k_ ≠ (.slice (some ad177) y171.length co38 : Value).ownBlock)) HO_7.out (fun k_ hk => hk.2)); clear HO_7; have HO_7 := n_; clear n_; obtain ⟨hy39_, hz39_⟩ := Kd.R_celln 0 HO_7.out (t168 : Int) (of_decide_eq_true (by first | (with_reducible assumption) | assumption)) (of_decide_eq_true (by first | (with_reducible assumption) | assumption)); have HP39 := Kd.R_putg HO_7.out (t168 : Int) (rd y171 t174)) | ((with_reducible refine gate_store (t := 3) (p := 46) rfl ?_); refine store_event (t := 3) (p := 46) (v := ?vo_w40) (w1 := (w37.setCell ⟨go33, (t168 : Int).toNat, none⟩ (.int .i64 (rd y171 t174)))) ?hg ?ho ?hn ?hr ?_; (case ho => rfl); (case hg => rfl); (case hn => rfl); (case hr => first | (go_simp; done) | (go_simp; rfl)); intro w40 hw; have hg : w37.grownBy w40 (some go33) := (by rw [hw]; exact HP39.2); have hp_ : Kd.R (Kd.int .i64) 3 w40 w.heap.size (fun k_ => some k_ ≠ (.slice (some ad177) y171.length co38 : Value).ownBlock) (.slice (some ⟨go33, 0, none⟩) t160.length co33) y178 := (by rw [hw, Ny178.out]; exact HP39.1); clear HP39; have n0_ := Aside0.mk (hp_); have n1_ := Aside0.mk (IsS123.grown (by repeat (first | (with_reducible first | exact HI141.out | apply IsS123.alloc | apply IsS123.drewN | apply IsS123.drew | apply IsS123.set_1 | apply IsS123.set_2) | exact HI141.out)) hg (IsS123.own_ne HI141.out HO_7.out (by decide))); have n2_ := Aside0.mk (Kd.R_after (v := (.slice (some ⟨go33, 0, none⟩) t160.length co33)) (v1 := (.slice (some ⟨go33, 0, none⟩) t160.length co33)) (ok := (fun _ => True)) (by (with_reducible repeat (first | apply Kd.R_alloc | apply Kd.R_drewN | apply Kd.R_drew)); exact HO173.out) hg (.inl rfl)); have n3_ := Aside0.mk ((by rw [hw]; exact below_set (HB.out) GB33.out : Below w.heap.size w w40)); clear HO_7; clear HI141; clear HO173; clear HB; have HO_7 := n0_; have HI141 := n1_; have HO173 := n2_; have HB := n3_; clear n0_ n1_ n2_ n3_; clear hg hw hp_))
              go_ret2
              exact ⟨_, _, by first | rfl | (simp [errW_none, errW_some] <;> rfl) | (simp [*, errW_none, errW_some] <;> rfl), by (with_reducible repeat (first | apply Kd.R_alloc | apply Kd.R_drewN | apply Kd.R_drew)); exact Kd.R_mono HO_7.out (fun _ hk => trivial), by repeat (first | (with_reducible first | exact HI141.out | apply IsS123.alloc | apply IsS123.drewN | apply IsS123.drew | apply IsS123.set_1 | apply IsS123.set_2) | exact HI141.out), by repeat (first | (with_reducible first | exact HB.out | apply below_alloc | apply pw_below_drewN | apply below_drew1 | refine below_set ?_ (IsS123.ge HI141.out)) | exact HB.out)⟩

end Go.Proofs.Ytggokppfhkebkaa.PFnResidue

-- written by myprint.py (a program of this session's over the kit's print)
import Derived.Test.YtidblealnaicpaaPFnExactMergex0
import Derived.Test.YtidblealnaicpaaPFnExactMergex1
namespace Go.Proofs.Ytidblealnaicpaa.PFnExactMerge
open Go.RowKit Go.Proofs.YtidblealnaicpaaW.PrintWords Go.Proofs.YtidblealnaicpaaW.PrintLast Go.Proofs.YtidblealnaicpaaW.PrintMore
attribute [local go_sem] max2_int min2_int max_two min_two max_three min_three max_four min_four   -- for this text's walks alone
set_option linter.unusedVariables false
set_option linter.unusedSimpArgs false

/-! ### spec_l4Merge: function 88 -/
mutual
def spec_l4Merge.l0 : Nat → Int → List (S35) → List (S113) → Int → Int → Int → Int → Int → Int → List Int → Option (Int × Int × Int × Int × List Int)
  | 0, _, _, _, _, _, _, _, _, _, _ => none
  | k + 1, x0, x2, x35, x36, x37, x113000, x113001, x113002, x113003, x113004 => if x37 < x36 then (if 0 ≤ x37 then (if x37 < (x35.length : Int) then (if x37 < (x2.length : Int) then (spec_l4Merge.l1 k x0 x2 x35 x36 x37 ((rd_T35 x2 x37).f4) (((rd_T35 x2 x37).f4).length : Int) 0 x113000 x113001 x113002 x113003 x113004 ((rd_T113 x35 x37).f0) ((rd_T113 x35 x37).f1) ((rd_T113 x35 x37).f2) ((rd_T113 x35 x37).f3) ((rd_T113 x35 x37).f4) ((rd_T113 x35 x37).f5)) else (none)) else (none)) else (none)) else (some (x113000, x113001, x113002, x113003, x113004))
def spec_l4Merge.l1 : Nat → Int → List (S35) → List (S113) → Int → Int → List Int → Int → Int → Int → Int → Int → Int → List Int → Int → Int → Int → Int → Int → Int → Option (Int × Int × Int × Int × List Int)
  | 0, _, _, _, _, _, _, _, _, _, _, _, _, _, _, _, _, _, _, _ => none
  | k + 1, x0, x2, x35, x36, x37, x46, x47, x48, x113000, x113001, x113002, x113003, x113004, x121000, x121001, x121002, x121003, x121004, x121005 => if x48 < x47 then (if 0 ≤ x48 then (if x48 < (x46.length : Int) then (if x113002 = 0 then (none) else (if x121004 = 0 then (none) else (if 0 ≤ (wrap64 ((wrap64 ((wrap64 ((wrap64 ((wrap64 ((wrap64 (x121001 + (wrap64 ((wrap64 (Int.tdiv (wrap64 (Int.tdiv x48 x113002)) x121004)) * x121003)))) * x0)) + x121000)) + (wrap64 ((Int.tmod (wrap64 (Int.tdiv x48 x113002)) x121004) * x121002)))) * x113002)) + (Int.tmod x48 x113002))) then (if (wrap64 ((wrap64 ((wrap64 ((wrap64 ((wrap64 ((wrap64 (x121001 + (wrap64 ((wrap64 (Int.tdiv (wrap64 (Int.tdiv x48 x113002)) x121004)) * x121003)))) * x0)) + x121000)) + (wrap64 ((Int.tmod (wrap64 (Int.tdiv x48 x113002)) x121004) * x121002)))) * x113002)) + (Int.tmod x48 x113002))) < (x113004.length : Int) then (spec_l4Merge.l1 k x0 x2 x35 x36 x37 x46 x47 (wrap64 (x48 + 1)) x113000 x113001 x113002 x113003 (x113004.set ((wrap64 ((wrap64 ((wrap64 ((wrap64 ((wrap64 ((wrap64 (x121001 + (wrap64 ((wrap64 (Int.tdiv (wrap64 (Int.tdiv x48 x113002)) x121004)) * x121003)))) * x0)) + x121000)) + (wrap64 ((Int.tmod (wrap64 (Int.tdiv x48 x113002)) x121004) * x121002)))) * x113002)) + (Int.tmod x48 x113002))) : Int).toNat (rd x46 x48)) x121000 x121001 x121002 x121003 x121004 x121005) else (none)) else (none)))) else (none)) else (none)) else (spec_l4Merge.l0 k x0 x2 x35 x36 (wrap64 (x37 + 1)) x113000 x113001 x113002 x113003 x113004)
end
def spec_l4Merge.f (k : Nat) (a0 : Int) (a1 : Int) (l2 : List (S35)) : Option (Int × Int × Int × Int × List Int) := if 0 < (l2.length : Int) then (if 0 ≤ (wrap64 ((wrap64 (a0 * a1)) * ((rd_T35 l2 0).f2))) then (if (wrap64 ((wrap64 (a0 * a1)) * ((rd_T35 l2 0).f2)) : Int).toNat ≤ 35184372088832 then ((spec_l4Passes.f k a0 a1).bind fun t116 => (spec_l4Merge.l0 k a0 l2 t116 (t116.length : Int) 0 a0 a1 ((rd_T35 l2 0).f2) ((rd_T35 l2 0).f3) (List.replicate (wrap64 ((wrap64 (a0 * a1)) * ((rd_T35 l2 0).f2)) : Int).toNat 0))) else (none)) else (none)) else (none)
theorem spec_l4Merge.mono_l : ∀ k, (∀ y0 y1 y2 y3 y4 y5 y6 y7 y8 y9, LeO (spec_l4Merge.l0 k y0 y1 y2 y3 y4 y5 y6 y7 y8 y9) (spec_l4Merge.l0 (k + 1) y0 y1 y2 y3 y4 y5 y6 y7 y8 y9)) ∧ (∀ y0 y1 y2 y3 y4 y5 y6 y7 y8 y9 y10 y11 y12 y13 y14 y15 y16 y17 y18, LeO (spec_l4Merge.l1 k y0 y1 y2 y3 y4 y5 y6 y7 y8 y9 y10 y11 y12 y13 y14 y15 y16 y17 y18) (spec_l4Merge.l1 (k + 1) y0 y1 y2 y3 y4 y5 y6 y7 y8 y9 y10 y11 y12 y13 y14 y15 y16 y17 y18))
  | 0 => ⟨fun _ _ _ _ _ _ _ _ _ _ r h => by simp [spec_l4Merge.l0] at h, fun _ _ _ _ _ _ _ _ _ _ _ _ _ _ _ _ _ _ _ r h => by simp [spec_l4Merge.l1] at h⟩
  | k + 1 => by
    obtain ⟨ih0, ih1⟩ := spec_l4Merge.mono_l k
    refine ⟨?_, ?_⟩
    · intro y0 y1 y2 y3 y4 y5 y6 y7 y8 y9
      unfold spec_l4Merge.l0
      repeat' first
      | (with_reducible exact ih0 _ _ _ _ _ _ _ _ _ _)
      | (with_reducible exact ih1 _ _ _ _ _ _ _ _ _ _ _ _ _ _ _ _ _ _ _)
      | (with_reducible exact spec_l4Passes.mono _ _ _)
      | (with_reducible exact LeO.refl _)
      | (with_reducible exact LeO.none _)
      | (with_reducible refine LeO.ite ?_ ?_)
      | (with_reducible refine LeO.bind ?_ (fun _ => ?_))
      | exact ih0 _ _ _ _ _ _ _ _ _ _
      | exact ih1 _ _ _ _ _ _ _ _ _ _ _ _ _ _ _ _ _ _ _
      | exact spec_l4Passes.mono _ _ _
      | exact LeO.none _
      | refine LeO.ite ?_ ?_
      | refine LeO.bind ?_ (fun _ => ?_)
    · intro y0 y1 y2 y3 y4 y5 y6 y7 y8 y9 y10 y11 y12 y13 y14 y15 y16 y17 y18
      unfold spec_l4Merge.l1
      repeat' first
      | (with_reducible exact ih0 _ _ _ _ _ _ _ _ _ _)
      | (with_reducible exact ih1 _ _ _ _ _ _ _ _ _ _ _ _ _ _ _ _ _ _ _)
      | (with_reducible exact spec_l4Passes.mono _ _ _)
      | (with_reducible exact LeO.refl _)
      | (with_reducible exact LeO.none _)
      | (with_reducible refine LeO.ite ?_ ?_)
      | (with_reducible refine LeO.bind ?_ (fun _ => ?_))
      | exact ih0 _ _ _ _ _ _ _ _ _ _
      | exact ih1 _ _ _ _ _ _ _ _ _ _ _ _ _ _ _ _ _ _ _
      | exact spec_l4Passes.mono _ _ _
      | exact LeO.none _
      | refine LeO.ite ?_ ?_
      | refine LeO.bind ?_ (fun _ => ?_)
theorem spec_l4Merge.mono : ∀ a0 a1 a2 k, LeO (spec_l4Merge.f k a0 a1 a2) (spec_l4Merge.f (k + 1) a0 a1 a2) := by
  intro a0 a1 a2 k
  obtain ⟨ih0, ih1⟩ := spec_l4Merge.mono_l k
  unfold spec_l4Merge.f
  repeat' first
      | (with_reducible exact ih0 _ _ _ _ _ _ _ _ _ _)
      | (with_reducible exact ih1 _ _ _ _ _ _ _ _ _ _ _ _ _ _ _ _ _ _ _)
      | (with_reducible exact spec_l4Passes.mono _ _ _)
      | (with_reducible exact LeO.refl _)
      | (with_reducible exact LeO.none _)
      | (with_reducible refine LeO.ite ?_ ?_)
      | (with_reducible refine LeO.bind ?_ (fun _ => ?_))
      | exact ih0 _ _ _ _ _ _ _ _ _ _
      | exact ih1 _ _ _ _ _ _ _ _ _ _ _ _ _ _ _ _ _ _ _
      | exact spec_l4Passes.mono _ _ _
      | exact LeO.none _
      | refine LeO.ite ?_ ?_
      | refine LeO.bind ?_ (fun _ => ?_)
def spec_l4Merge.T1 : Bool × List (List Nat × List Nat) := (true, [([], []), ([], []), ([], []), ([2], [2]), ([3], [3]), ([4], [4]), ([], []), ([6], [6]), ([7], [7]), ([8], [8]), ([0, 1, 5, 9], [0, 1, 5, 9]), ([], []), ([11, 10, 0, 1, 2, 3, 4, 5, 6, 7, 8, 9, 10, 11], [10, 11])])
def spec_l4Merge.B1 : List Nat := [0, 0, 0, 4, 12, 28, 0, 64, 192, 448, 1023, 0, 4095]
theorem spec_l4Merge.tab1 : rtab .any (opsOf Try.f88 1) = spec_l4Merge.T1 := by kernel_rfl
theorem spec_l4Merge.bits1 : waitsOk spec_l4Merge.T1.2 spec_l4Merge.B1 = true := by kernel_rfl
def spec_l4Merge.T9 : Bool × List (List Nat × List Nat) := (true, [([], []), ([], []), ([1], [1]), ([0, 2], [0, 2]), ([], []), ([4], [4]), ([3, 5], [3, 5]), ([6, 0, 1, 2, 3, 4, 5, 6], [6])])
def spec_l4Merge.B9 : List Nat := [0, 0, 2, 7, 0, 16, 63, 127]
theorem spec_l4Merge.tab9 : rtab .any (opsOf Try.f88 9) = spec_l4Merge.T9 := by kernel_rfl
theorem spec_l4Merge.bits9 : waitsOk spec_l4Merge.T9.2 spec_l4Merge.B9 = true := by kernel_rfl
def spec_l4Merge.T10 : Bool × List (List Nat × List Nat) := (true, [([], []), ([], []), ([1], [1]), ([0, 2], [0, 2]), ([], []), ([4], [4]), ([3, 5], [3, 5]), ([6, 0, 1, 2, 3, 4, 5, 6], [6])])
def spec_l4Merge.B10 : List Nat := [0, 0, 2, 7, 0, 16, 63, 127]
theorem spec_l4Merge.tab10 : rtab .any (opsOf Try.f88 10) = spec_l4Merge.T10 := by kernel_rfl
theorem spec_l4Merge.bits10 : waitsOk spec_l4Merge.T10.2 spec_l4Merge.B10 = true := by kernel_rfl
def spec_l4Merge.T11 : Bool × List (List Nat × List Nat) := (true, [([], []), ([0], [0]), ([], []), ([2], [2]), ([], []), ([], []), ([5], [5]), ([4, 6], [4, 6]), ([3, 7], [3, 7]), ([], []), ([8, 9], [8, 9]), ([], []), ([11], [11]), ([10, 12], [10, 12]), ([], []), ([], []), ([15], [15]), ([14, 16], [14, 16]), ([13, 17], [13, 17]), ([], []), ([19], [19]), ([18, 20], [18, 20]), ([], []), ([], []), ([23], [23]), ([22, 24], [22, 24]), ([21, 25], [21, 25]), ([], []), ([1, 26, 0, 1, 2, 3, 4, 5, 6, 7, 8, 9, 10, 11, 12, 13, 14, 15, 16, 17, 18, 19, 20, 21, 22, 23, 24, 25, 26, 27], [1, 26]), ([28, 27, 0, 1, 2, 3, 4, 5, 6, 7, 8, 9, 10, 11, 12, 13, 14, 15, 16, 17, 18, 19, 20, 21, 22, 23, 24, 25, 26, 27], [27, 28])])
def spec_l4Merge.B11 : List Nat := [0, 1, 0, 4, 0, 0, 32, 112, 252, 0, 1020, 0, 2048, 8188, 0, 0, 32768, 114688, 262140, 0, 524288, 2097148, 0, 0, 8388608, 29360128, 67108860, 0, 268435455, 536870911]
theorem spec_l4Merge.tab11 : rtab .any (opsOf Try.f88 11) = spec_l4Merge.T11 := by kernel_rfl
theorem spec_l4Merge.bits11 : waitsOk spec_l4Merge.T11.2 spec_l4Merge.B11 = true := by kernel_rfl
set_option maxHeartbeats 8000000 in
set_option maxRecDepth 100000 in
theorem spec_l4Merge.calls (k : Nat) (a0 : Int) (a1 : Int) (A2 : Option Addr) (c2 : Nat) (l2 : List (S35)) (r1 : Int) (r2 : Int) (r3 : Int) (r4 : Int) (r5 : List Int) (w : World) (hr2 : Kd.C k35 w A2 l2.length l2) (hc2 : l2.length ≤ c2) (h : spec_l4Merge.f k a0 a1 l2 = some (r1, r2, r3, r4, r5)) :
    Calls Try.prog 88 #[.int .i64 a0, .int .i64 a1, .slice A2 l2.length c2] w fun e w' => ∃ v4_ : Value, e = .returned (.agg #[.int .i64 r1, .int .i64 r2, .int .i64 r3, .int .i64 r4, v4_]) ∧ Kd.R (Kd.int .i64) 3 w' w.heap.size (fun _ => True) v4_ r5 ∧ Below w.heap.size w w' := by
  have hu35 := Try.underlying35
  have hu113 := Try.underlying113
  have HR2 := Aside0.mk hr2
  have HC2 := Aside0.mk hc2
  clear hr2 hc2
  have HB := Aside0.mk (Below.refl w.heap.size w)
  have H : (if 0 < (l2.length : Int) then (if 0 ≤ (wrap64 ((wrap64 (a0 * a1)) * ((rd_T35 l2 0).f2))) then (if (wrap64 ((wrap64 (a0 * a1)) * ((rd_T35 l2 0).f2)) : Int).toNat ≤ 35184372088832 then ((spec_l4Passes.f k a0 a1).bind fun t116 => (spec_l4Merge.l0 k a0 l2 t116 (t116.length : Int) 0 a0 a1 ((rd_T35 l2 0).f2) ((rd_T35 l2 0).f3) (List.replicate (wrap64 ((wrap64 (a0 * a1)) * ((rd_T35 l2 0).f2)) : Int).toNat 0))) else (none)) else (none)) else (none)) = some (r1, r2, r3, r4, r5) := h
  clear h
  by_cases c4 : 0 < (l2.length : Int)
  rotate_left
  · rw [if_neg c4] at H
    exact absurd H (by simp)
  rw [if_pos c4] at H
  have c4b0 : decide (0 < (l2.length : Int)) = true := decide_eq_true c4
  have c4b1 : decide (0 < l2.length) = true := decide_eq_true (by omega)
  have c4b2 : 0 < l2.length := by omega
  clear c4
  obtain ⟨ji5, hji5⟩ : ∃ j_ : Int, (wrap64 ((wrap64 (a0 * a1)) * ((rd_T35 l2 0).f2))) = j_ := ⟨_, rfl⟩
  replace H : (if 0 ≤ (ji5) then (if (ji5 : Int).toNat ≤ 35184372088832 then ((spec_l4Passes.f k a0 a1).bind fun t116 => (spec_l4Merge.l0 k a0 l2 t116 (t116.length : Int) 0 a0 a1 ((rd_T35 l2 0).f2) ((rd_T35 l2 0).f3) (List.replicate (ji5 : Int).toNat 0))) else (none)) else (none)) = some (r1, r2, r3, r4, r5) := by first | (rw [hji5] at H; exact H) | (simp only [hji5] at H ⊢; exact H)
  have hji5w : (IntKind.i64.wrap ((wrap64 (a0 * a1)) * ((rd_T35 l2 0).f2))) = ji5 := (i64_w _).trans hji5
  by_cases c6 : 0 ≤ (ji5)
  rotate_left
  · rw [if_neg c6] at H
    exact absurd H (by simp)
  rw [if_pos c6] at H
  have c6b0 := eq_true c6
  have c6b1 : decide (0 ≤ (ji5)) = true := decide_eq_true c6
  clear c6
  by_cases c7 : (ji5 : Int).toNat ≤ 35184372088832
  rotate_left
  · rw [if_neg c7] at H
    exact absurd H (by simp)
  rw [if_pos c7] at H
  have c7b0 := eq_true c7
  have c7b1 : decide ((ji5 : Int).toNat ≤ 35184372088832) = true := decide_eq_true c7
  clear c7
  obtain ⟨y113, hy113⟩ : ∃ y_ : List Int, y_ = (List.replicate (ji5 : Int).toNat 0) := ⟨_, rfl⟩
  replace H : ((spec_l4Passes.f k a0 a1).bind fun t116 => (spec_l4Merge.l0 k a0 l2 t116 (t116.length : Int) 0 a0 a1 ((rd_T35 l2 0).f2) ((rd_T35 l2 0).f3) y113)) = some (r1, r2, r3, r4, r5) := by first | (rw [hy113]; with_reducible exact H) | (have H2_ := (Option.bind_some _ _).symm.trans H; rw [hy113]; with_reducible exact H2_) | (have H2_ := (Option.bind_some _ _).symm.trans H; with_reducible exact H2_) | with_reducible exact H | (rw [hy113]; exact H) | exact H
  have Ny113 := Aside0.mk hy113
  clear hy113
  replace H := Option.bind_eq_some_iff.mp H
  obtain ⟨t116, A80, H⟩ := H
  replace H : (spec_l4Merge.l0 k a0 l2 t116 (t116.length : Int) 0 a0 a1 ((rd_T35 l2 0).f2) ((rd_T35 l2 0).f3) y113) = some (r1, r2, r3, r4, r5) := H
  have A8 := Aside0.mk A80
  clear A80
  have H' := Aside0.mk H
  clear H
  go_enter Try.func88, Try.ntmps88
  try go_wp2_with (first | ((with_reducible refine gate_dst (N := 6) rfl ?_); refine box_event ?hg (N := 6) ?hd (cs := #[.int .i64 0, .int .i64 0, .int .i64 0, .int .i64 0, .slice none 0 0]) (t := 35) ?hr ?_; (case hd => rfl); (case hg => rfl); (case hr => first | (go_simp; done) | (go_simp; rfl)); intro gb109 hg w9 hbox hb; have n0_ := Aside0.mk (below_step (by repeat (first | (with_reducible first | exact HB.out | apply below_alloc | apply pw_below_drewN | apply below_drew1) | exact HB.out)) hb); have n1_ := Aside0.mk (hbox); have n2_ := Aside0.mk ((by rw [hg]; exact (below_size (by repeat (first | (with_reducible first | exact HB.out | apply below_alloc | apply pw_below_drewN | apply below_drew1) | exact HB.out))) : w.heap.size ≤ gb109)); have n3_ := n2_; clear HB; have HB := n0_; have BK109 := n1_; have GW109 := n2_; have GE109 := n3_; clear n0_ n1_ n2_ n3_; clear hb hbox hg))
  have n0_ := Aside0.mk (blk_drew BK109.out)
  have n1_ := Aside0.mk (below_drew1 HB.out)
  clear BK109
  clear HB
  have BK109 := n0_
  have HB := n1_
  clear n0_ n1_
  have p110 : 0 ≤ (0 : Int) := (by omega)
  have q110 : 0 < (l2.length : Int) := of_decide_eq_true (by first | (with_reducible assumption) | assumption)
  obtain ⟨ad110, A110_4, c110_4, e110, hx110_0, hx110_1, hx110_2, hx110_3, hx110_4, hl110_4, hi110_4⟩ := at_T35 HR2.out 0 p110 q110
  have hw110_4 := hx110_4
  (try rw [show ((0 : Int)).toNat = 0 from rfl] at hw110_4)
  (try rw [show 0 * 5 = 0 from rfl] at hw110_4)
  (try rw [Addr.add_zero'] at hw110_4)
  have hw110_3 := hx110_3
  (try rw [show ((0 : Int)).toNat = 0 from rfl] at hw110_3)
  (try rw [show 0 * 5 = 0 from rfl] at hw110_3)
  (try rw [Addr.add_zero'] at hw110_3)
  have hw110_2 := hx110_2
  (try rw [show ((0 : Int)).toNat = 0 from rfl] at hw110_2)
  (try rw [show 0 * 5 = 0 from rfl] at hw110_2)
  (try rw [Addr.add_zero'] at hw110_2)
  have hw110_1 := hx110_1
  (try rw [show ((0 : Int)).toNat = 0 from rfl] at hw110_1)
  (try rw [show 0 * 5 = 0 from rfl] at hw110_1)
  (try rw [Addr.add_zero'] at hw110_1)
  have hw110_0 := hx110_0
  (try rw [show ((0 : Int)).toNat = 0 from rfl] at hw110_0)
  (try rw [show 0 * 5 = 0 from rfl] at hw110_0)
  (try rw [Addr.add_zero'] at hw110_0)
  cases e110
  have qi110 : (0 < l2.length) = True := eq_true (by omega)
  (try rw [show ((0 : Int)).toNat = 0 from rfl] at hx110_0)
  (try rw [show 0 * 5 = 0 from rfl] at hx110_0)
  (try rw [Addr.add_zero'] at hx110_0)
  (try rw [show ((0 : Int)).toNat = 0 from rfl] at hx110_1)
  (try rw [show 0 * 5 = 0 from rfl] at hx110_1)
  (try rw [Addr.add_zero'] at hx110_1)
  (try rw [show ((0 : Int)).toNat = 0 from rfl] at hx110_2)
  (try rw [show 0 * 5 = 0 from rfl] at hx110_2)
  (try rw [Addr.add_zero'] at hx110_2)
  (try rw [show ((0 : Int)).toNat = 0 from rfl] at hx110_3)
  (try rw [show 0 * 5 = 0 from rfl] at hx110_3)
  (try rw [Addr.add_zero'] at hx110_3)
  (try rw [show ((0 : Int)).toNat = 0 from rfl] at hx110_4)
  (try rw [show 0 * 5 = 0 from rfl] at hx110_4)
  (try rw [Addr.add_zero'] at hx110_4)
  replace hx110_0 := (HB.out.cell (World.block_lt_of_cell? w _ hx110_0)).trans hx110_0
  replace hx110_1 := (HB.out.cell (World.block_lt_of_cell? w _ hx110_1)).trans hx110_1
  replace hx110_2 := (HB.out.cell (World.block_lt_of_cell? w _ hx110_2)).trans hx110_2
  replace hx110_3 := (HB.out.cell (World.block_lt_of_cell? w _ hx110_3)).trans hx110_3
  replace hx110_4 := (HB.out.cell (World.block_lt_of_cell? w _ hx110_4)).trans hx110_4
  have HR110_4 := Aside0.mk hi110_4
  have HC110_4 := Aside0.mk hl110_4
  clear hi110_4 hl110_4
  replace p110 := eq_true p110
  replace q110 := eq_true q110
  have p111 : 0 ≤ (0 : Int) := (by omega)
  have q111 : 0 < (l2.length : Int) := of_decide_eq_true (by first | (with_reducible assumption) | assumption)
  obtain ⟨ad111, A111_4, c111_4, e111, hx111_0, hx111_1, hx111_2, hx111_3, hx111_4, hl111_4, hi111_4⟩ := at_T35 HR2.out 0 p111 q111
  have hw111_4 := hx111_4
  (try rw [show ((0 : Int)).toNat = 0 from rfl] at hw111_4)
  (try rw [show 0 * 5 = 0 from rfl] at hw111_4)
  (try rw [Addr.add_zero'] at hw111_4)
  have hw111_3 := hx111_3
  (try rw [show ((0 : Int)).toNat = 0 from rfl] at hw111_3)
  (try rw [show 0 * 5 = 0 from rfl] at hw111_3)
  (try rw [Addr.add_zero'] at hw111_3)
  have hw111_2 := hx111_2
  (try rw [show ((0 : Int)).toNat = 0 from rfl] at hw111_2)
  (try rw [show 0 * 5 = 0 from rfl] at hw111_2)
  (try rw [Addr.add_zero'] at hw111_2)
  have hw111_1 := hx111_1
  (try rw [show ((0 : Int)).toNat = 0 from rfl] at hw111_1)
  (try rw [show 0 * 5 = 0 from rfl] at hw111_1)
  (try rw [Addr.add_zero'] at hw111_1)
  have hw111_0 := hx111_0
  (try rw [show ((0 : Int)).toNat = 0 from rfl] at hw111_0)
  (try rw [show 0 * 5 = 0 from rfl] at hw111_0)
  (try rw [Addr.add_zero'] at hw111_0)
  obtain rfl : ad110 = ad111 := (by injection e111)
  have qi111 : (0 < l2.length) = True := eq_true (by omega)
  (try rw [show ((0 : Int)).toNat = 0 from rfl] at hx111_0)
  (try rw [show 0 * 5 = 0 from rfl] at hx111_0)
  (try rw [Addr.add_zero'] at hx111_0)
  (try rw [show ((0 : Int)).toNat = 0 from rfl] at hx111_1)
  (try rw [show 0 * 5 = 0 from rfl] at hx111_1)
  (try rw [Addr.add_zero'] at hx111_1)
  (try rw [show ((0 : Int)).toNat = 0 from rfl] at hx111_2)
  (try rw [show 0 * 5 = 0 from rfl] at hx111_2)
  (try rw [Addr.add_zero'] at hx111_2)
  (try rw [show ((0 : Int)).toNat = 0 from rfl] at hx111_3)
  (try rw [show 0 * 5 = 0 from rfl] at hx111_3)
  (try rw [Addr.add_zero'] at hx111_3)
  (try rw [show ((0 : Int)).toNat = 0 from rfl] at hx111_4)
  (try rw [show 0 * 5 = 0 from rfl] at hx111_4)
  (try rw [Addr.add_zero'] at hx111_4)
  replace hx111_0 := (HB.out.cell (World.block_lt_of_cell? w _ hx111_0)).trans hx111_0
  replace hx111_1 := (HB.out.cell (World.block_lt_of_cell? w _ hx111_1)).trans hx111_1
  replace hx111_2 := (HB.out.cell (World.block_lt_of_cell? w _ hx111_2)).trans hx111_2
  replace hx111_3 := (HB.out.cell (World.block_lt_of_cell? w _ hx111_3)).trans hx111_3
  replace hx111_4 := (HB.out.cell (World.block_lt_of_cell? w _ hx111_4)).trans hx111_4
  have HR111_4 := Aside0.mk hi111_4
  have HC111_4 := Aside0.mk hl111_4
  clear hi111_4 hl111_4
  replace p111 := eq_true p111
  replace q111 := eq_true q111
  have ea_ := Option.some.inj (hx110_4.symm.trans hx111_4)
  injection ea_ with ea_ en_ ec_
  subst ea_
  subst ec_
  clear en_
  refine start_ (n := 13) (S := fun w' => w'.cell? ad110 = some (.int .i64 ((rd_T35 l2 0).f0)) ∧ w'.cell? ⟨ad110.block, ad110.off + 1, none⟩ = some (.int .i64 ((rd_T35 l2 0).f1)) ∧ w'.cell? ⟨ad110.block, ad110.off + 2, none⟩ = some (.int .i64 ((rd_T35 l2 0).f2)) ∧ w'.cell? ⟨ad110.block, ad110.off + 3, none⟩ = some (.int .i64 ((rd_T35 l2 0).f3)) ∧ w'.cell? ⟨ad110.block, ad110.off + 4, none⟩ = some (.slice A110_4 ((rd_T35 l2 0).f4).length c110_4) ∧ w'.cell? ad110 = some (.int .i64 ((rd_T35 l2 0).f0)) ∧ w'.cell? ⟨ad110.block, ad110.off + 1, none⟩ = some (.int .i64 ((rd_T35 l2 0).f1)) ∧ w'.cell? ⟨ad110.block, ad110.off + 2, none⟩ = some (.int .i64 ((rd_T35 l2 0).f2)) ∧ w'.cell? ⟨ad110.block, ad110.off + 3, none⟩ = some (.int .i64 ((rd_T35 l2 0).f3)) ∧ w'.cell? ⟨ad110.block, ad110.off + 4, none⟩ = some (.slice A110_4 ((rd_T35 l2 0).f4).length c110_4)) (ds := []) #[false, false, false, false, false, false, false, false, false, false, false, false, false] (by kernel_rfl) rfl rfl ⟨((HB.out.cell (World.block_lt_of_cell? w _ hw110_0)).trans hw110_0), ((HB.out.cell (World.block_lt_of_cell? w _ hw110_1)).trans hw110_1), ((HB.out.cell (World.block_lt_of_cell? w _ hw110_2)).trans hw110_2), ((HB.out.cell (World.block_lt_of_cell? w _ hw110_3)).trans hw110_3), ((HB.out.cell (World.block_lt_of_cell? w _ hw110_4)).trans hw110_4), ((HB.out.cell (World.block_lt_of_cell? w _ hw111_0)).trans hw111_0), ((HB.out.cell (World.block_lt_of_cell? w _ hw111_1)).trans hw111_1), ((HB.out.cell (World.block_lt_of_cell? w _ hw111_2)).trans hw111_2), ((HB.out.cell (World.block_lt_of_cell? w _ hw111_3)).trans hw111_3), ((HB.out.cell (World.block_lt_of_cell? w _ hw111_4)).trans hw111_4)⟩ (fun hHeld => ?_); refine with_tabW spec_l4Merge.tab1 spec_l4Merge.bits1 (fun HT_ HW_ => ?_)
  generalize w9.drew = w10 at BK109 HB HR110_4 HR111_4 hx110_0 hx110_1 hx110_2 hx110_3 hx110_4 hx111_0 hx111_1 hx111_2 hx111_3 hx111_4 hHeld ⊢
  refine pure_ (i := 0) (N := some 14) (v := ?_) (a' := ?_) #[true, false, false, false, false, false, false, false, false, false, false, false, false] rfl rfl (any_of HT_.out (by kernel_rfl)) (fun _ _ _ h => h) (Or.inl ⟨by rfl, ?_⟩) ?_ ?_
  rotate_left
  · intro w'
    go_simp
    with_reducible rfl
  rotate_left
  · simp only [Act.put, List.setIfInBounds_toArray, List.set_cons_zero, List.set_cons_succ, i64_w, i32_w]
    rfl
  refine pure_ (i := 1) (N := some 15) (v := ?_) (a' := ?_) #[true, true, false, false, false, false, false, false, false, false, false, false, false] rfl rfl (any_of HT_.out (by kernel_rfl)) (fun _ _ _ h => h) (Or.inl ⟨by rfl, ?_⟩) ?_ ?_
  rotate_left
  · intro w'
    go_simp
    with_reducible rfl
  rotate_left
  · simp only [Act.put, List.setIfInBounds_toArray, List.set_cons_zero, List.set_cons_succ, i64_w, i32_w]
    rfl
  refine pure_ (i := 2) (N := some 16) (v := ?_) (a' := ?_) #[true, true, true, false, false, false, false, false, false, false, false, false, false] rfl rfl (any_of HT_.out (by kernel_rfl)) (fun _ _ _ h => h) (Or.inl ⟨by rfl, ?_⟩) ?_ ?_
  rotate_left
  · intro w'
    go_simp
    with_reducible rfl
  rotate_left
  · simp only [Act.put, List.setIfInBounds_toArray, List.set_cons_zero, List.set_cons_succ, i64_w, i32_w]
    rfl
  refine pure_ (i := 3) (N := some 17) (v := ?_) (a' := ?_) #[true, true, true, true, false, false, false, false, false, false, false, false, false] rfl rfl (any_of HT_.out (by kernel_rfl)) (fun _ _ _ h => h) (Or.inl ⟨by rfl, ?_⟩) ?_ ?_
  rotate_left
  · intro w'
    go_simp
    with_reducible rfl
  rotate_left
  · simp only [Act.put, List.setIfInBounds_toArray, List.set_cons_zero, List.set_cons_succ, i64_w, i32_w]
    rfl
  refine pure_ (i := 4) (N := some 18) (v := ?_) (a' := ?_) #[true, true, true, true, true, false, false, false, false, false, false, false, false] rfl rfl (any_of HT_.out (by kernel_rfl)) (fun _ _ _ h => h) (Or.inl ⟨by rfl, ?_⟩) ?_ ?_
  rotate_left
  · intro w'
    go_simp
    with_reducible rfl
  rotate_left
  · simp only [Act.put, List.setIfInBounds_toArray, List.set_cons_zero, List.set_cons_succ, i64_w, i32_w]
    rfl
  refine pure_ (i := 6) (N := some 20) (v := ?_) (a' := ?_) #[true, true, true, true, true, false, true, false, false, false, false, false, false] rfl rfl (any_of HT_.out (by kernel_rfl)) (fun _ _ _ h => h) (Or.inl ⟨by rfl, ?_⟩) ?_ ?_
  rotate_left
  · intro w'
    go_simp
    with_reducible rfl
  rotate_left
  · simp only [Act.put, List.setIfInBounds_toArray, List.set_cons_zero, List.set_cons_succ, i64_w, i32_w]
    rfl
  refine pure_ (i := 7) (N := some 21) (v := ?_) (a' := ?_) #[true, true, true, true, true, false, true, true, false, false, false, false, false] rfl rfl (any_of HT_.out (by kernel_rfl)) (fun _ _ _ h => h) (Or.inl ⟨by rfl, ?_⟩) ?_ ?_
  rotate_left
  · intro w'
    go_simp
    with_reducible rfl
  rotate_left
  · simp only [Act.put, List.setIfInBounds_toArray, List.set_cons_zero, List.set_cons_succ, i64_w, i32_w]
    rfl
  refine pure_ (i := 8) (N := some 22) (v := ?_) (a' := ?_) #[true, true, true, true, true, false, true, true, true, false, false, false, false] rfl rfl (any_of HT_.out (by kernel_rfl)) (fun _ _ _ h => h) (Or.inl ⟨by rfl, ?_⟩) ?_ ?_
  rotate_left
  · intro w'
    go_simp
    with_reducible rfl
  rotate_left
  · simp only [Act.put, List.setIfInBounds_toArray, List.set_cons_zero, List.set_cons_succ, i64_w, i32_w]
    rfl
  refine take_ (i := 5) (N := some 19) (v := ?_) (a' := ?_) #[true, true, true, true, true, true, true, true, true, false, false, false, false] rfl rfl (take_ofW HT_.out HW_.out (by kernel_rfl)) (fun _ _ _ h => h) (Or.inl ⟨by rfl, ?_⟩) hHeld ?_ ?_
  rotate_left
  · rintro w' ⟨s0, s1, s2, s3, s4, s5, s6, s7, s8, s9⟩
    go_simp
    with_reducible rfl
  rotate_left
  · simp only [Act.put, List.setIfInBounds_toArray, List.set_cons_zero, List.set_cons_succ, i64_w, i32_w]
    rfl
  refine take_ (i := 9) (N := some 23) (v := ?_) (a' := ?_) #[true, true, true, true, true, true, true, true, true, true, false, false, false] rfl rfl (take_ofW HT_.out HW_.out (by kernel_rfl)) (fun _ _ _ h => h) (Or.inl ⟨by rfl, ?_⟩) hHeld ?_ ?_
  rotate_left
  · rintro w' ⟨s0, s1, s2, s3, s4, s5, s6, s7, s8, s9⟩
    go_simp
    with_reducible rfl
  rotate_left
  · simp only [Act.put, List.setIfInBounds_toArray, List.set_cons_zero, List.set_cons_succ, i64_w, i32_w]
    rfl
  refine pure_ (i := 10) (N := some 24) (v := ?_) (a' := ?_) #[true, true, true, true, true, true, true, true, true, true, true, false, false] rfl rfl (any_of HT_.out (by kernel_rfl)) (fun _ _ _ h => h) (Or.inl ⟨by rfl, ?_⟩) ?_ ?_
  rotate_left
  · intro w'
    go_simp
    with_reducible rfl
  rotate_left
  · simp only [Act.put, List.setIfInBounds_toArray, List.set_cons_zero, List.set_cons_succ, i64_w, i32_w]
    rfl
  refine one_ (i := 11) (N := some 7) #[true, true, true, true, true, true, true, true, true, true, true, true, false] rfl rfl (one_of HT_.out (by kernel_rfl)) (by decide) (fun K hK => ?_)
  refine box_step ?hg (N := 7) ?hd (cs := #[.int .i64 0, .int .i64 0, .int .i64 0, .int .i64 0, .slice none 0 0]) (t := 35) ?hr ?_; (case hd => rfl); (case hg => rfl); (case hr => first | (go_simp; done) | (go_simp; rfl))
  intro gb112 hg w11 hbox hb
  have n0_ := Aside0.mk (blk_below (g := gb109) (o := .cells #[.int .i64 0, .int .i64 0, .int .i64 0, .int .i64 0, .slice none 0 0] 35 (0, 0)) (by (with_reducible repeat (first | refine blk_drewN ?_ _ | refine blk_drew ?_ | refine blk_alloc ?_ _)); exact BK109.out) hb)
  have n1_ := Aside0.mk (below_step (by repeat (first | (with_reducible first | exact HB.out | apply below_alloc | apply pw_below_drewN | apply below_drew1 | refine below_set ?_ GE109.out) | exact HB.out)) hb)
  have n2_ := Aside0.mk (hbox)
  have n3_ := Aside0.mk ((by rw [hg]; exact (below_size (by repeat (first | (with_reducible first | exact HB.out | apply below_alloc | apply pw_below_drewN | apply below_drew1 | refine below_set ?_ GE109.out) | exact HB.out))) : w.heap.size ≤ gb112))
  have n4_ := Aside0.mk ((by rw [hg]; exact (below_size (by repeat (first | (with_reducible first | exact HB.out | apply below_alloc | apply pw_below_drewN | apply below_drew1 | refine below_set ?_ GE109.out) | exact HB.out))) : w.heap.size ≤ gb112))
  have n5_ := Aside0.mk ((by rw [hg]; exact Nat.ne_of_lt (blk_lt (g := gb109) (o := .cells #[.int .i64 0, .int .i64 0, .int .i64 0, .int .i64 0, .slice none 0 0] 35 (0, 0)) (by (with_reducible repeat (first | refine blk_drewN ?_ _ | refine blk_drew ?_ | refine blk_alloc ?_ _)); exact BK109.out)) : gb109 ≠ gb112))
  have n6_ := Aside0.mk ((by rw [hg]; exact Nat.ne_of_gt (blk_lt (g := gb109) (o := .cells #[.int .i64 0, .int .i64 0, .int .i64 0, .int .i64 0, .slice none 0 0] 35 (0, 0)) (by (with_reducible repeat (first | refine blk_drewN ?_ _ | refine blk_drew ?_ | refine blk_alloc ?_ _)); exact BK109.out)) : gb112 ≠ gb109))
  clear BK109
  clear HB
  have BK109 := n0_
  have HB := n1_
  have BK112 := n2_
  have GW112 := n3_
  have GE112 := n4_
  have NB109_112 := n5_
  have NB112_109 := n6_
  clear n0_ n1_ n2_ n3_ n4_ n5_ n6_
  clear hb hbox hg
  refine hK.out _ _ ⟨((HB.out.cell (World.block_lt_of_cell? w _ hw110_0)).trans hw110_0), ((HB.out.cell (World.block_lt_of_cell? w _ hw110_1)).trans hw110_1), ((HB.out.cell (World.block_lt_of_cell? w _ hw110_2)).trans hw110_2), ((HB.out.cell (World.block_lt_of_cell? w _ hw110_3)).trans hw110_3), ((HB.out.cell (World.block_lt_of_cell? w _ hw110_4)).trans hw110_4), ((HB.out.cell (World.block_lt_of_cell? w _ hw111_0)).trans hw111_0), ((HB.out.cell (World.block_lt_of_cell? w _ hw111_1)).trans hw111_1), ((HB.out.cell (World.block_lt_of_cell? w _ hw111_2)).trans hw111_2), ((HB.out.cell (World.block_lt_of_cell? w _ hw111_3)).trans hw111_3), ((HB.out.cell (World.block_lt_of_cell? w _ hw111_4)).trans hw111_4)⟩ (fun hHeld => ?_)
  clear hK K
  refine norm_ (a' := ?_) ?_ ?_
  rotate_left
  · show Act.put _ (some 7) _ = _
    simp only [Act.put, List.setIfInBounds_toArray, List.set_cons_zero, List.set_cons_succ, i64_w, i32_w]
    rfl
  refine one_ (i := 12) (N := none) #[true, true, true, true, true, true, true, true, true, true, true, true, true] rfl rfl (one_of HT_.out (by kernel_rfl)) (by decide) (fun K hK => ?_)
  have hs12 : w11.cell? ⟨gb112, 0, none⟩ = some (.int .i64 0) := (blk_cell BK112.out 0).trans rfl
  have hfs12 := blk_frozen BK112.out 0
  have hns12_0 := NB109_112.out
  have hms12_0 := NB112_109.out
  have hs13 : w11.cell? ⟨gb112, 1, none⟩ = some (.int .i64 0) := (blk_cell BK112.out 1).trans rfl
  have hfs13 := blk_frozen BK112.out 1
  have hns13_0 := NB109_112.out
  have hms13_0 := NB112_109.out
  have hs14 : w11.cell? ⟨gb112, 2, none⟩ = some (.int .i64 0) := (blk_cell BK112.out 2).trans rfl
  have hfs14 := blk_frozen BK112.out 2
  have hns14_0 := NB109_112.out
  have hms14_0 := NB112_109.out
  have hs15 : w11.cell? ⟨gb112, 3, none⟩ = some (.int .i64 0) := (blk_cell BK112.out 3).trans rfl
  have hfs15 := blk_frozen BK112.out 3
  have hns15_0 := NB109_112.out
  have hms15_0 := NB112_109.out
  have hs16 : w11.cell? ⟨gb112, 4, none⟩ = some (.slice none 0 0) := (blk_cell BK112.out 4).trans rfl
  have hfs16 := blk_frozen BK112.out 4
  have hns16_0 := NB109_112.out
  have hms16_0 := NB112_109.out
  refine skip_ (w1 := ?_) (by rfl) rfl ?_ ?_
  rotate_left
  · go_simp
    rfl
  have zb_ := World.block_lt_of_cell? _ _ hw110_0
  (try rw [add_block] at zb_)
  have zn110_0_112 := Nat.ne_of_lt (Nat.lt_of_lt_of_le zb_ GW112.out)
  clear zb_
  have zb_ := World.block_lt_of_cell? _ _ hw110_1
  (try rw [add_block] at zb_)
  have zn110_1_112 := Nat.ne_of_lt (Nat.lt_of_lt_of_le zb_ GW112.out)
  clear zb_
  have zb_ := World.block_lt_of_cell? _ _ hw110_2
  (try rw [add_block] at zb_)
  have zn110_2_112 := Nat.ne_of_lt (Nat.lt_of_lt_of_le zb_ GW112.out)
  clear zb_
  have zb_ := World.block_lt_of_cell? _ _ hw110_3
  (try rw [add_block] at zb_)
  have zn110_3_112 := Nat.ne_of_lt (Nat.lt_of_lt_of_le zb_ GW112.out)
  clear zb_
  have zb_ := World.block_lt_of_cell? _ _ hw110_4
  (try rw [add_block] at zb_)
  have zn110_4_112 := Nat.ne_of_lt (Nat.lt_of_lt_of_le zb_ GW112.out)
  clear zb_
  have zb_ := World.block_lt_of_cell? _ _ hw111_0
  (try rw [add_block] at zb_)
  have zn111_0_112 := Nat.ne_of_lt (Nat.lt_of_lt_of_le zb_ GW112.out)
  clear zb_
  have zb_ := World.block_lt_of_cell? _ _ hw111_1
  (try rw [add_block] at zb_)
  have zn111_1_112 := Nat.ne_of_lt (Nat.lt_of_lt_of_le zb_ GW112.out)
  clear zb_
  have zb_ := World.block_lt_of_cell? _ _ hw111_2
  (try rw [add_block] at zb_)
  have zn111_2_112 := Nat.ne_of_lt (Nat.lt_of_lt_of_le zb_ GW112.out)
  clear zb_
  have zb_ := World.block_lt_of_cell? _ _ hw111_3
  (try rw [add_block] at zb_)
  have zn111_3_112 := Nat.ne_of_lt (Nat.lt_of_lt_of_le zb_ GW112.out)
  clear zb_
  have zb_ := World.block_lt_of_cell? _ _ hw111_4
  (try rw [add_block] at zb_)
  have zn111_4_112 := Nat.ne_of_lt (Nat.lt_of_lt_of_le zb_ GW112.out)
  clear zb_
  refine hK.out _ _ ⟨((cell_far (p := ⟨gb112, _, none⟩) (by first | exact zn110_0_112 | (rw [add_block]; exact zn110_0_112) | (show (Addr.add _ _).block ≠ _; rw [add_block]; exact zn110_0_112) | (dsimp only; exact zn110_0_112)) _).trans (((cell_far (p := ⟨gb112, _, none⟩) (by first | exact zn110_0_112 | (rw [add_block]; exact zn110_0_112) | (show (Addr.add _ _).block ≠ _; rw [add_block]; exact zn110_0_112) | (dsimp only; exact zn110_0_112)) _).trans (((cell_far (p := ⟨gb112, _, none⟩) (by first | exact zn110_0_112 | (rw [add_block]; exact zn110_0_112) | (show (Addr.add _ _).block ≠ _; rw [add_block]; exact zn110_0_112) | (dsimp only; exact zn110_0_112)) _).trans (((cell_far (p := ⟨gb112, _, none⟩) (by first | exact zn110_0_112 | (rw [add_block]; exact zn110_0_112) | (show (Addr.add _ _).block ≠ _; rw [add_block]; exact zn110_0_112) | (dsimp only; exact zn110_0_112)) _).trans (((cell_far (p := ⟨gb112, _, none⟩) (by first | exact zn110_0_112 | (rw [add_block]; exact zn110_0_112) | (show (Addr.add _ _).block ≠ _; rw [add_block]; exact zn110_0_112) | (dsimp only; exact zn110_0_112)) _).trans (hHeld.1)))))))))), ((cell_far (p := ⟨gb112, _, none⟩) (by first | exact zn110_1_112 | (rw [add_block]; exact zn110_1_112) | (show (Addr.add _ _).block ≠ _; rw [add_block]; exact zn110_1_112) | (dsimp only; exact zn110_1_112)) _).trans (((cell_far (p := ⟨gb112, _, none⟩) (by first | exact zn110_1_112 | (rw [add_block]; exact zn110_1_112) | (show (Addr.add _ _).block ≠ _; rw [add_block]; exact zn110_1_112) | (dsimp only; exact zn110_1_112)) _).trans (((cell_far (p := ⟨gb112, _, none⟩) (by first | exact zn110_1_112 | (rw [add_block]; exact zn110_1_112) | (show (Addr.add _ _).block ≠ _; rw [add_block]; exact zn110_1_112) | (dsimp only; exact zn110_1_112)) _).trans (((cell_far (p := ⟨gb112, _, none⟩) (by first | exact zn110_1_112 | (rw [add_block]; exact zn110_1_112) | (show (Addr.add _ _).block ≠ _; rw [add_block]; exact zn110_1_112) | (dsimp only; exact zn110_1_112)) _).trans (((cell_far (p := ⟨gb112, _, none⟩) (by first | exact zn110_1_112 | (rw [add_block]; exact zn110_1_112) | (show (Addr.add _ _).block ≠ _; rw [add_block]; exact zn110_1_112) | (dsimp only; exact zn110_1_112)) _).trans (hHeld.2.1)))))))))), ((cell_far (p := ⟨gb112, _, none⟩) (by first | exact zn110_2_112 | (rw [add_block]; exact zn110_2_112) | (show (Addr.add _ _).block ≠ _; rw [add_block]; exact zn110_2_112) | (dsimp only; exact zn110_2_112)) _).trans (((cell_far (p := ⟨gb112, _, none⟩) (by first | exact zn110_2_112 | (rw [add_block]; exact zn110_2_112) | (show (Addr.add _ _).block ≠ _; rw [add_block]; exact zn110_2_112) | (dsimp only; exact zn110_2_112)) _).trans (((cell_far (p := ⟨gb112, _, none⟩) (by first | exact zn110_2_112 | (rw [add_block]; exact zn110_2_112) | (show (Addr.add _ _).block ≠ _; rw [add_block]; exact zn110_2_112) | (dsimp only; exact zn110_2_112)) _).trans (((cell_far (p := ⟨gb112, _, none⟩) (by first | exact zn110_2_112 | (rw [add_block]; exact zn110_2_112) | (show (Addr.add _ _).block ≠ _; rw [add_block]; exact zn110_2_112) | (dsimp only; exact zn110_2_112)) _).trans (((cell_far (p := ⟨gb112, _, none⟩) (by first | exact zn110_2_112 | (rw [add_block]; exact zn110_2_112) | (show (Addr.add _ _).block ≠ _; rw [add_block]; exact zn110_2_112) | (dsimp only; exact zn110_2_112)) _).trans (hHeld.2.2.1)))))))))), ((cell_far (p := ⟨gb112, _, none⟩) (by first | exact zn110_3_112 | (rw [add_block]; exact zn110_3_112) | (show (Addr.add _ _).block ≠ _; rw [add_block]; exact zn110_3_112) | (dsimp only; exact zn110_3_112)) _).trans (((cell_far (p := ⟨gb112, _, none⟩) (by first | exact zn110_3_112 | (rw [add_block]; exact zn110_3_112) | (show (Addr.add _ _).block ≠ _; rw [add_block]; exact zn110_3_112) | (dsimp only; exact zn110_3_112)) _).trans (((cell_far (p := ⟨gb112, _, none⟩) (by first | exact zn110_3_112 | (rw [add_block]; exact zn110_3_112) | (show (Addr.add _ _).block ≠ _; rw [add_block]; exact zn110_3_112) | (dsimp only; exact zn110_3_112)) _).trans (((cell_far (p := ⟨gb112, _, none⟩) (by first | exact zn110_3_112 | (rw [add_block]; exact zn110_3_112) | (show (Addr.add _ _).block ≠ _; rw [add_block]; exact zn110_3_112) | (dsimp only; exact zn110_3_112)) _).trans (((cell_far (p := ⟨gb112, _, none⟩) (by first | exact zn110_3_112 | (rw [add_block]; exact zn110_3_112) | (show (Addr.add _ _).block ≠ _; rw [add_block]; exact zn110_3_112) | (dsimp only; exact zn110_3_112)) _).trans (hHeld.2.2.2.1)))))))))), ((cell_far (p := ⟨gb112, _, none⟩) (by first | exact zn110_4_112 | (rw [add_block]; exact zn110_4_112) | (show (Addr.add _ _).block ≠ _; rw [add_block]; exact zn110_4_112) | (dsimp only; exact zn110_4_112)) _).trans (((cell_far (p := ⟨gb112, _, none⟩) (by first | exact zn110_4_112 | (rw [add_block]; exact zn110_4_112) | (show (Addr.add _ _).block ≠ _; rw [add_block]; exact zn110_4_112) | (dsimp only; exact zn110_4_112)) _).trans (((cell_far (p := ⟨gb112, _, none⟩) (by first | exact zn110_4_112 | (rw [add_block]; exact zn110_4_112) | (show (Addr.add _ _).block ≠ _; rw [add_block]; exact zn110_4_112) | (dsimp only; exact zn110_4_112)) _).trans (((cell_far (p := ⟨gb112, _, none⟩) (by first | exact zn110_4_112 | (rw [add_block]; exact zn110_4_112) | (show (Addr.add _ _).block ≠ _; rw [add_block]; exact zn110_4_112) | (dsimp only; exact zn110_4_112)) _).trans (((cell_far (p := ⟨gb112, _, none⟩) (by first | exact zn110_4_112 | (rw [add_block]; exact zn110_4_112) | (show (Addr.add _ _).block ≠ _; rw [add_block]; exact zn110_4_112) | (dsimp only; exact zn110_4_112)) _).trans (hHeld.2.2.2.2.1)))))))))), ((cell_far (p := ⟨gb112, _, none⟩) (by first | exact zn111_0_112 | (rw [add_block]; exact zn111_0_112) | (show (Addr.add _ _).block ≠ _; rw [add_block]; exact zn111_0_112) | (dsimp only; exact zn111_0_112)) _).trans (((cell_far (p := ⟨gb112, _, none⟩) (by first | exact zn111_0_112 | (rw [add_block]; exact zn111_0_112) | (show (Addr.add _ _).block ≠ _; rw [add_block]; exact zn111_0_112) | (dsimp only; exact zn111_0_112)) _).trans (((cell_far (p := ⟨gb112, _, none⟩) (by first | exact zn111_0_112 | (rw [add_block]; exact zn111_0_112) | (show (Addr.add _ _).block ≠ _; rw [add_block]; exact zn111_0_112) | (dsimp only; exact zn111_0_112)) _).trans (((cell_far (p := ⟨gb112, _, none⟩) (by first | exact zn111_0_112 | (rw [add_block]; exact zn111_0_112) | (show (Addr.add _ _).block ≠ _; rw [add_block]; exact zn111_0_112) | (dsimp only; exact zn111_0_112)) _).trans (((cell_far (p := ⟨gb112, _, none⟩) (by first | exact zn111_0_112 | (rw [add_block]; exact zn111_0_112) | (show (Addr.add _ _).block ≠ _; rw [add_block]; exact zn111_0_112) | (dsimp only; exact zn111_0_112)) _).trans (hHeld.2.2.2.2.2.1)))))))))), ((cell_far (p := ⟨gb112, _, none⟩) (by first | exact zn111_1_112 | (rw [add_block]; exact zn111_1_112) | (show (Addr.add _ _).block ≠ _; rw [add_block]; exact zn111_1_112) | (dsimp only; exact zn111_1_112)) _).trans (((cell_far (p := ⟨gb112, _, none⟩) (by first | exact zn111_1_112 | (rw [add_block]; exact zn111_1_112) | (show (Addr.add _ _).block ≠ _; rw [add_block]; exact zn111_1_112) | (dsimp only; exact zn111_1_112)) _).trans (((cell_far (p := ⟨gb112, _, none⟩) (by first | exact zn111_1_112 | (rw [add_block]; exact zn111_1_112) | (show (Addr.add _ _).block ≠ _; rw [add_block]; exact zn111_1_112) | (dsimp only; exact zn111_1_112)) _).trans (((cell_far (p := ⟨gb112, _, none⟩) (by first | exact zn111_1_112 | (rw [add_block]; exact zn111_1_112) | (show (Addr.add _ _).block ≠ _; rw [add_block]; exact zn111_1_112) | (dsimp only; exact zn111_1_112)) _).trans (((cell_far (p := ⟨gb112, _, none⟩) (by first | exact zn111_1_112 | (rw [add_block]; exact zn111_1_112) | (show (Addr.add _ _).block ≠ _; rw [add_block]; exact zn111_1_112) | (dsimp only; exact zn111_1_112)) _).trans (hHeld.2.2.2.2.2.2.1)))))))))), ((cell_far (p := ⟨gb112, _, none⟩) (by first | exact zn111_2_112 | (rw [add_block]; exact zn111_2_112) | (show (Addr.add _ _).block ≠ _; rw [add_block]; exact zn111_2_112) | (dsimp only; exact zn111_2_112)) _).trans (((cell_far (p := ⟨gb112, _, none⟩) (by first | exact zn111_2_112 | (rw [add_block]; exact zn111_2_112) | (show (Addr.add _ _).block ≠ _; rw [add_block]; exact zn111_2_112) | (dsimp only; exact zn111_2_112)) _).trans (((cell_far (p := ⟨gb112, _, none⟩) (by first | exact zn111_2_112 | (rw [add_block]; exact zn111_2_112) | (show (Addr.add _ _).block ≠ _; rw [add_block]; exact zn111_2_112) | (dsimp only; exact zn111_2_112)) _).trans (((cell_far (p := ⟨gb112, _, none⟩) (by first | exact zn111_2_112 | (rw [add_block]; exact zn111_2_112) | (show (Addr.add _ _).block ≠ _; rw [add_block]; exact zn111_2_112) | (dsimp only; exact zn111_2_112)) _).trans (((cell_far (p := ⟨gb112, _, none⟩) (by first | exact zn111_2_112 | (rw [add_block]; exact zn111_2_112) | (show (Addr.add _ _).block ≠ _; rw [add_block]; exact zn111_2_112) | (dsimp only; exact zn111_2_112)) _).trans (hHeld.2.2.2.2.2.2.2.1)))))))))), ((cell_far (p := ⟨gb112, _, none⟩) (by first | exact zn111_3_112 | (rw [add_block]; exact zn111_3_112) | (show (Addr.add _ _).block ≠ _; rw [add_block]; exact zn111_3_112) | (dsimp only; exact zn111_3_112)) _).trans (((cell_far (p := ⟨gb112, _, none⟩) (by first | exact zn111_3_112 | (rw [add_block]; exact zn111_3_112) | (show (Addr.add _ _).block ≠ _; rw [add_block]; exact zn111_3_112) | (dsimp only; exact zn111_3_112)) _).trans (((cell_far (p := ⟨gb112, _, none⟩) (by first | exact zn111_3_112 | (rw [add_block]; exact zn111_3_112) | (show (Addr.add _ _).block ≠ _; rw [add_block]; exact zn111_3_112) | (dsimp only; exact zn111_3_112)) _).trans (((cell_far (p := ⟨gb112, _, none⟩) (by first | exact zn111_3_112 | (rw [add_block]; exact zn111_3_112) | (show (Addr.add _ _).block ≠ _; rw [add_block]; exact zn111_3_112) | (dsimp only; exact zn111_3_112)) _).trans (((cell_far (p := ⟨gb112, _, none⟩) (by first | exact zn111_3_112 | (rw [add_block]; exact zn111_3_112) | (show (Addr.add _ _).block ≠ _; rw [add_block]; exact zn111_3_112) | (dsimp only; exact zn111_3_112)) _).trans (hHeld.2.2.2.2.2.2.2.2.1)))))))))), ((cell_far (p := ⟨gb112, _, none⟩) (by first | exact zn111_4_112 | (rw [add_block]; exact zn111_4_112) | (show (Addr.add _ _).block ≠ _; rw [add_block]; exact zn111_4_112) | (dsimp only; exact zn111_4_112)) _).trans (((cell_far (p := ⟨gb112, _, none⟩) (by first | exact zn111_4_112 | (rw [add_block]; exact zn111_4_112) | (show (Addr.add _ _).block ≠ _; rw [add_block]; exact zn111_4_112) | (dsimp only; exact zn111_4_112)) _).trans (((cell_far (p := ⟨gb112, _, none⟩) (by first | exact zn111_4_112 | (rw [add_block]; exact zn111_4_112) | (show (Addr.add _ _).block ≠ _; rw [add_block]; exact zn111_4_112) | (dsimp only; exact zn111_4_112)) _).trans (((cell_far (p := ⟨gb112, _, none⟩) (by first | exact zn111_4_112 | (rw [add_block]; exact zn111_4_112) | (show (Addr.add _ _).block ≠ _; rw [add_block]; exact zn111_4_112) | (dsimp only; exact zn111_4_112)) _).trans (((cell_far (p := ⟨gb112, _, none⟩) (by first | exact zn111_4_112 | (rw [add_block]; exact zn111_4_112) | (show (Addr.add _ _).block ≠ _; rw [add_block]; exact zn111_4_112) | (dsimp only; exact zn111_4_112)) _).trans (hHeld.2.2.2.2.2.2.2.2.2))))))))))⟩ (fun hHeld => ?_)
  clear zn110_0_112 zn110_1_112 zn110_2_112 zn110_3_112 zn110_4_112 zn111_0_112 zn111_1_112 zn111_2_112 zn111_3_112 zn111_4_112
  clear hK K
  refine done_ (done_of HT_.out (by kernel_rfl)) ?_
  have hnb17 := NB112_109.out
  have hnc17 := NB109_112.out
  have hcz18_0 : w11.cell? ⟨gb112, 0, none⟩ = some (.int .i64 0) := (blk_cell BK112.out 0).trans rfl
  have hcz18_1 : w11.cell? ⟨gb112, 1, none⟩ = some (.int .i64 0) := (blk_cell BK112.out 1).trans rfl
  have hcz18_2 : w11.cell? ⟨gb112, 2, none⟩ = some (.int .i64 0) := (blk_cell BK112.out 2).trans rfl
  have hcz18_3 : w11.cell? ⟨gb112, 3, none⟩ = some (.int .i64 0) := (blk_cell BK112.out 3).trans rfl
  have hcz18_4 : w11.cell? ⟨gb112, 4, none⟩ = some (.slice none 0 0) := (blk_cell BK112.out 4).trans rfl
  have hfz18_0 := blk_frozen BK112.out 0
  have hfz18_1 := blk_frozen BK112.out 1
  have hfz18_2 := blk_frozen BK112.out 2
  have hfz18_3 := blk_frozen BK112.out 3
  have hfz18_4 := blk_frozen BK112.out 4
  try go_wp2_with (first | ((with_reducible refine gate_dst (N := 31) rfl ?_); refine Kd.R_make (Kd.int .i64) _ 3 rfl (N := 31) rfl 22 _ _ rfl ji5 rfl rfl Try.underlying22 (.int .i64 0) 8 info3 rfl (by decide) (by omega) 0 (ok := fun _ => True) (okp := fun _ => True) rfl (fun _ hk => hk) trivial (of_decide_eq_true (by first | (with_reducible assumption) | assumption)) (Nat.le_trans (Nat.mul_le_mul_right _ (of_decide_eq_true (by first | (with_reducible assumption) | assumption) : ji5.toNat ≤ 35184372088832)) (by omega)) (Below.refl _ _) (Nat.le_refl _) ?_; intro v114 w19 ho20 hb hg_ hnew_; clear hg_ hnew_; (first | rw [← Ny113.out] at ho20 | (simp only [Int.reduceToNat] at ho20; rw [← Ny113.out] at ho20)); have n0_ := Aside0.mk (Kd.R_lower ho20 (below_size (by repeat (first | (with_reducible first | exact HB.out | apply below_alloc | apply pw_below_drewN | apply below_drew1 | refine below_set ?_ GE109.out | refine below_set ?_ GE112.out) | exact HB.out)))); have n1_ := Aside0.mk (blk_below (g := gb109) (o := .cells #[.int .i64 0, .int .i64 0, .int .i64 0, .int .i64 0, .slice none 0 0] 35 (0, 0)) (by (with_reducible repeat (first | refine blk_drewN ?_ _ | refine blk_drew ?_ | refine blk_alloc ?_ _)); refine blk_far ?_ NB109_112.out _; (with_reducible repeat (first | refine blk_drewN ?_ _ | refine blk_drew ?_ | refine blk_alloc ?_ _)); refine blk_far ?_ NB109_112.out _; (with_reducible repeat (first | refine blk_drewN ?_ _ | refine blk_drew ?_ | refine blk_alloc ?_ _)); refine blk_far ?_ NB109_112.out _; (with_reducible repeat (first | refine blk_drewN ?_ _ | refine blk_drew ?_ | refine blk_alloc ?_ _)); refine blk_far ?_ NB109_112.out _; (with_reducible repeat (first | refine blk_drewN ?_ _ | refine blk_drew ?_ | refine blk_alloc ?_ _)); refine blk_far ?_ NB109_112.out _; (with_reducible repeat (first | refine blk_drewN ?_ _ | refine blk_drew ?_ | refine blk_alloc ?_ _)); exact BK109.out) hb); have n2_ := Aside0.mk (blk_below (g := gb112) (o := .cells #[.int .i64 a0, .int .i64 a1, .int .i64 ((rd_T35 l2 0).f2), .int .i64 ((rd_T35 l2 0).f3), .slice none 0 0] 35 (0, 0)) (by (with_reducible repeat (first | refine blk_drewN ?_ _ | refine blk_drew ?_ | refine blk_alloc ?_ _)); refine blk_put (cs := #[.int .i64 a0, .int .i64 a1, .int .i64 ((rd_T35 l2 0).f2), .int .i64 ((rd_T35 l2 0).f3), .slice none 0 0]) ?_ 4 _ rfl; (with_reducible repeat (first | refine blk_drewN ?_ _ | refine blk_drew ?_ | refine blk_alloc ?_ _)); refine blk_put (cs := #[.int .i64 a0, .int .i64 a1, .int .i64 ((rd_T35 l2 0).f2), .int .i64 0, .slice none 0 0]) ?_ 3 _ rfl; (with_reducible repeat (first | refine blk_drewN ?_ _ | refine blk_drew ?_ | refine blk_alloc ?_ _)); refine blk_put (cs := #[.int .i64 a0, .int .i64 a1, .int .i64 0, .int .i64 0, .slice none 0 0]) ?_ 2 _ rfl; (with_reducible repeat (first | refine blk_drewN ?_ _ | refine blk_drew ?_ | refine blk_alloc ?_ _)); refine blk_put (cs := #[.int .i64 a0, .int .i64 0, .int .i64 0, .int .i64 0, .slice none 0 0]) ?_ 1 _ rfl; (with_reducible repeat (first | refine blk_drewN ?_ _ | refine blk_drew ?_ | refine blk_alloc ?_ _)); refine blk_put (cs := #[.int .i64 0, .int .i64 0, .int .i64 0, .int .i64 0, .slice none 0 0]) ?_ 0 _ rfl; (with_reducible repeat (first | refine blk_drewN ?_ _ | refine blk_drew ?_ | refine blk_alloc ?_ _)); exact BK112.out) hb); have n3_ := Aside0.mk (below_step (by repeat (first | (with_reducible first | exact HB.out | apply below_alloc | apply pw_below_drewN | apply below_drew1 | refine below_set ?_ GE109.out | refine below_set ?_ GE112.out) | exact HB.out)) hb); clear BK109; clear BK112; clear HB; have HO115 := n0_; have BK109 := n1_; have BK112 := n2_; have HB := n3_; clear n0_ n1_ n2_ n3_; clear hb ho20; obtain ⟨Ao21, co21, eo21⟩ := Kd.R_slice HO115.out; subst eo21; have hcz22_0 : w19.cell? ⟨gb112, 0, none⟩ = some (.int .i64 a0) := (blk_cell BK112.out 0).trans rfl; have hcz22_1 : w19.cell? ⟨gb112, 1, none⟩ = some (.int .i64 a1) := (blk_cell BK112.out 1).trans rfl; have hcz22_2 : w19.cell? ⟨gb112, 2, none⟩ = some (.int .i64 ((rd_T35 l2 0).f2)) := (blk_cell BK112.out 2).trans rfl; have hcz22_3 : w19.cell? ⟨gb112, 3, none⟩ = some (.int .i64 ((rd_T35 l2 0).f3)) := (blk_cell BK112.out 3).trans rfl; have hcz22_4 : w19.cell? ⟨gb112, 4, none⟩ = some (.slice none 0 0) := (blk_cell BK112.out 4).trans rfl; have hfz22_0 := blk_frozen BK112.out 0; have hfz22_1 := blk_frozen BK112.out 1; have hfz22_2 := blk_frozen BK112.out 2; have hfz22_3 := blk_frozen BK112.out 3; have hfz22_4 := blk_frozen BK112.out 4) | ((with_reducible refine gate_callee (f := 86) rfl ?_); refine goesL_ (some 35) rfl rfl Try.func86 (by kernel_rfl) rfl #[.int .i64 a0, .int .i64 a1] rfl (by (try simp only [List.map_toArray, List.map_cons, List.map_nil]); first | done | rfl | (simp only [List.length_drop, List.length_take]; rfl)) ?_; (with_reducible refine (spec_l4Passes.calls k a0 a1 t116 _ A8.out).mono ?_); rintro e w23 ⟨v117, rfl, ho0, hb⟩; refine ⟨_, rfl, ?_⟩; have n0_ := Aside0.mk (Kd.R_below (by (with_reducible repeat (first | apply Kd.R_alloc | apply Kd.R_drewN | apply Kd.R_drew)); exact (Kd.R_mono (Kd.R_far (p := ⟨gb112, 4, none⟩) (Kd.R_types HO115.out BK112.out (by decide)) (fun _ hk => hk.2) (.slice Ao21 y113.length co21)) (fun _ h_ => h_.1))) hb); have n1_ := Aside0.mk (Kd.R_lower ho0 (below_size (by repeat (first | (with_reducible first | exact HB.out | apply below_alloc | apply pw_below_drewN | apply below_drew1 | refine below_set ?_ GE109.out | refine below_set ?_ GE112.out) | exact HB.out)))); have n2_ := Aside0.mk (blk_below (g := gb109) (o := .cells #[.int .i64 0, .int .i64 0, .int .i64 0, .int .i64 0, .slice none 0 0] 35 (0, 0)) (by (with_reducible repeat (first | refine blk_drewN ?_ _ | refine blk_drew ?_ | refine blk_alloc ?_ _)); refine blk_far ?_ NB109_112.out _; (with_reducible repeat (first | refine blk_drewN ?_ _ | refine blk_drew ?_ | refine blk_alloc ?_ _)); exact BK109.out) hb); have n3_ := Aside0.mk (blk_below (g := gb112) (o := .cells #[.int .i64 a0, .int .i64 a1, .int .i64 ((rd_T35 l2 0).f2), .int .i64 ((rd_T35 l2 0).f3), .slice Ao21 y113.length co21] 35 (0, 0)) (by (with_reducible repeat (first | refine blk_drewN ?_ _ | refine blk_drew ?_ | refine blk_alloc ?_ _)); refine blk_put (cs := #[.int .i64 a0, .int .i64 a1, .int .i64 ((rd_T35 l2 0).f2), .int .i64 ((rd_T35 l2 0).f3), .slice none 0 0]) ?_ 4 _ rfl; (with_reducible repeat (first | refine blk_drewN ?_ _ | refine blk_drew ?_ | refine blk_alloc ?_ _)); exact BK112.out) hb); have n4_ := Aside0.mk (below_step (by repeat (first | (with_reducible first | exact HB.out | apply below_alloc | apply pw_below_drewN | apply below_drew1 | refine below_set ?_ GE109.out | refine below_set ?_ GE112.out) | exact HB.out)) hb); clear HO115; clear BK109; clear BK112; clear HB; have HO115 := n0_; have HO118 := n1_; have BK109 := n2_; have BK112 := n3_; have HB := n4_; clear n0_ n1_ n2_ n3_ n4_; (try clear hb); (try clear hb2); (try clear hk); (try clear hi); (try clear ho0); obtain ⟨Ao24, co24, eo24⟩ := Kd.R_slice HO118.out; subst eo24))
  go_loopg [37] k (fun kq v37 w' => ∃ (x37_1 : Int) (x113004_1 : List Int) (u113004 : Value), v37 = .int .i64 x37_1 ∧ Aside0 (spec_l4Merge.l0 kq a0 l2 t116 (t116.length : Int) x37_1 a0 a1 ((rd_T35 l2 0).f2) ((rd_T35 l2 0).f3) x113004_1 = some (r1, r2, r3, r4, r5)) ∧ Aside0 (kq ≤ k) ∧ Aside0 (Kd.R k113 113 w' w.heap.size (fun _ => True) (.slice Ao24 t116.length co24) t116) ∧ Aside0 (Kd.R (Kd.int .i64) 3 w' w.heap.size (fun _ => True) u113004 x113004_1) ∧ Aside0 (w'.heap[gb109]? = some (.cells #[.int .i64 0, .int .i64 0, .int .i64 0, .int .i64 0, (.slice none 0 0)] 35 (0, 0))) ∧ Aside0 (w'.heap[gb112]? = some (.cells #[.int .i64 a0, .int .i64 a1, .int .i64 ((rd_T35 l2 0).f2), .int .i64 ((rd_T35 l2 0).f3), u113004] 35 (0, 0))) ∧ Aside0 (Below w.heap.size w w'))
  case atStart => exact ⟨(0), (y113), (.slice Ao21 y113.length co21), (by first | rfl | (simp; done) | (simp [*]; done)), H', ⟨Nat.le_refl _⟩, ⟨by (with_reducible repeat (first | apply Kd.R_alloc | apply Kd.R_drewN | apply Kd.R_drew)); exact HO118.out⟩, ⟨by (with_reducible repeat (first | apply Kd.R_alloc | apply Kd.R_drewN | apply Kd.R_drew)); exact HO115.out⟩, ⟨by (with_reducible repeat (first | refine blk_drewN ?_ _ | refine blk_drew ?_ | refine blk_alloc ?_ _)); exact BK109.out⟩, ⟨by (with_reducible repeat (first | refine blk_drewN ?_ _ | refine blk_drew ?_ | refine blk_alloc ?_ _)); exact BK112.out⟩, ⟨by repeat (first | (with_reducible first | exact HB.out | apply below_alloc | apply pw_below_drewN | apply below_drew1 | refine below_set ?_ GE109.out | refine below_set ?_ GE112.out) | exact HB.out)⟩⟩
  case round =>
    clear H'
    try clear c1
    try clear p1
    try clear q1
    try clear hx1
    try clear qi1
    try clear c2
    try clear p2
    try clear c4
    try clear c4b0
    try clear c4b1
    try clear c4b2
    try clear c6
    try clear c6b0
    try clear c6b1
    try clear p6
    try clear c7
    try clear c7b0
    try clear c7b1
    try clear c8
    try clear c11
    try clear p11
    try clear q11
    try clear hx11
    try clear qi11
    try clear c17
    try clear hcz18_0
    try clear hcz18_1
    try clear hcz18_2
    try clear hcz18_3
    try clear hcz18_4
    try clear hcz22_0
    try clear hcz22_1
    try clear hcz22_2
    try clear hcz22_3
    try clear hcz22_4
    try clear hfz18_0
    try clear hfz18_1
    try clear hfz18_2
    try clear hfz18_3
    try clear hfz18_4
    try clear hfz22_0
    try clear hfz22_1
    try clear hfz22_2
    try clear hfz22_3
    try clear hfz22_4
    try clear hx110_0
    try clear hx110_1
    try clear hx110_2
    try clear hx110_3
    try clear hx110_4
    try clear hx111_0
    try clear hx111_1
    try clear hx111_2
    try clear hx111_3
    try clear hx111_4
    try clear p110
    try clear p111
    try clear q110
    try clear q111
    obtain ⟨x37_1, x113004_1, u113004, rfl, HA, HK1, HO_35, HO_113004, BK109, BK112, HB⟩ := hrel
    cases gk with
    | zero => exact absurd HA.out (by simp [spec_l4Merge.l0])
    | succ k1 =>
      have H := HA.out
      clear HA
      simp only [spec_l4Merge.l0] at H
      by_cases c25 : x37_1 < (t116.length : Int)
      rotate_left
      · rw [if_neg c25] at H
        have c25b0 : decide (x37_1 < (t116.length : Int)) = false := decide_eq_false c25
        clear c25
        simp only [Option.some.injEq, Prod.mk.injEq] at H
        obtain ⟨rfl, rfl, rfl, rfl, rfl⟩ := H
        have hnb46 := NB112_109.out
        have hnc46 := NB109_112.out
        have hcz47_0 : wr.cell? ⟨gb112, 0, none⟩ = some (.int .i64 a0) := (blk_cell BK112.out 0).trans rfl
        have hcz47_1 : wr.cell? ⟨gb112, 1, none⟩ = some (.int .i64 a1) := (blk_cell BK112.out 1).trans rfl
        have hcz47_2 : wr.cell? ⟨gb112, 2, none⟩ = some (.int .i64 ((rd_T35 l2 0).f2)) := (blk_cell BK112.out 2).trans rfl
        have hcz47_3 : wr.cell? ⟨gb112, 3, none⟩ = some (.int .i64 ((rd_T35 l2 0).f3)) := (blk_cell BK112.out 3).trans rfl
        have hcz47_4 : wr.cell? ⟨gb112, 4, none⟩ = some (u113004) := (blk_cell BK112.out 4).trans rfl
        have hfz47_0 := blk_frozen BK112.out 0
        have hfz47_1 := blk_frozen BK112.out 1
        have hfz47_2 := blk_frozen BK112.out 2
        have hfz47_3 := blk_frozen BK112.out 3
        have hfz47_4 := blk_frozen BK112.out 4
        have hcz48_0 : wr.cell? ⟨gb109, 0, none⟩ = some (.int .i64 0) := (blk_cell BK109.out 0).trans rfl
        have hcz48_1 : wr.cell? ⟨gb109, 1, none⟩ = some (.int .i64 0) := (blk_cell BK109.out 1).trans rfl
        have hcz48_2 : wr.cell? ⟨gb109, 2, none⟩ = some (.int .i64 0) := (blk_cell BK109.out 2).trans rfl
        have hcz48_3 : wr.cell? ⟨gb109, 3, none⟩ = some (.int .i64 0) := (blk_cell BK109.out 3).trans rfl
        have hcz48_4 : wr.cell? ⟨gb109, 4, none⟩ = some (.slice none 0 0) := (blk_cell BK109.out 4).trans rfl
        have hfz48_0 := blk_frozen BK109.out 0
        have hfz48_1 := blk_frozen BK109.out 1
        have hfz48_2 := blk_frozen BK109.out 2
        have hfz48_3 := blk_frozen BK109.out 3
        have hfz48_4 := blk_frozen BK109.out 4
        obtain ⟨Ao49, co49, eo49⟩ := Kd.R_slice HO_113004.out
        subst eo49
        go_wp2
        refine bodyPost_ret (results_cell_row rfl _ _ gb109 35 #[.int .i64 a0, .int .i64 a1, .int .i64 ((rd_T35 l2 0).f2), .int .i64 ((rd_T35 l2 0).f3), .slice Ao49 x113004_1.length co49] (0, 0) _ rfl (by (with_reducible repeat (first | refine blk_drewN ?_ _ | refine blk_drew ?_ | refine blk_alloc ?_ _)); refine blk_put (cs := #[.int .i64 a0, .int .i64 a1, .int .i64 ((rd_T35 l2 0).f2), .int .i64 ((rd_T35 l2 0).f3), .slice none 0 0]) ?_ 4 _ rfl; (with_reducible repeat (first | refine blk_drewN ?_ _ | refine blk_drew ?_ | refine blk_alloc ?_ _)); refine blk_put (cs := #[.int .i64 a0, .int .i64 a1, .int .i64 ((rd_T35 l2 0).f2), .int .i64 0, .slice none 0 0]) ?_ 3 _ rfl; (with_reducible repeat (first | refine blk_drewN ?_ _ | refine blk_drew ?_ | refine blk_alloc ?_ _)); refine blk_put (cs := #[.int .i64 a0, .int .i64 a1, .int .i64 0, .int .i64 0, .slice none 0 0]) ?_ 2 _ rfl; (with_reducible repeat (first | refine blk_drewN ?_ _ | refine blk_drew ?_ | refine blk_alloc ?_ _)); refine blk_put (cs := #[.int .i64 a0, .int .i64 0, .int .i64 0, .int .i64 0, .slice none 0 0]) ?_ 1 _ rfl; (with_reducible repeat (first | refine blk_drewN ?_ _ | refine blk_drew ?_ | refine blk_alloc ?_ _)); refine blk_put (cs := #[.int .i64 0, .int .i64 0, .int .i64 0, .int .i64 0, .slice none 0 0]) ?_ 0 _ rfl; (with_reducible repeat (first | refine blk_drewN ?_ _ | refine blk_drew ?_ | refine blk_alloc ?_ _)); exact BK109.out) Try.underlying35 rfl (by kernel_rfl)) rfl ?_
        exact ⟨_, by first | rfl | (simp [errW_none, errW_some] <;> rfl) | (simp only [← hji5]; first | rfl | (simp [errW_none, errW_some] <;> rfl)) | (simp [*, errW_none, errW_some] <;> rfl), by (with_reducible repeat (first | apply Kd.R_alloc | apply Kd.R_drewN | apply Kd.R_drew)); exact Kd.R_mono (Kd.R_far (p := ⟨gb109, 4, none⟩) (Kd.R_far (p := ⟨gb109, 3, none⟩) (Kd.R_far (p := ⟨gb109, 2, none⟩) (Kd.R_far (p := ⟨gb109, 1, none⟩) (Kd.R_far (p := ⟨gb109, 0, none⟩) (Kd.R_types HO_113004.out BK109.out (by decide)) (fun _ hk => hk.2) (.int .i64 a0)) (fun _ hk => hk.2) (.int .i64 a1)) (fun _ hk => hk.2) (.int .i64 ((rd_T35 l2 0).f2))) (fun _ hk => hk.2) (.int .i64 ((rd_T35 l2 0).f3))) (fun _ hk => hk.2) (.slice Ao49 x113004_1.length co49)) (fun _ hk => trivial), by repeat (first | (with_reducible first | exact HB.out | apply below_alloc | apply pw_below_drewN | apply below_drew1 | refine below_set ?_ GE109.out | refine below_set ?_ GE112.out) | exact HB.out)⟩
      rw [if_pos c25] at H
      have c25b0 : decide (x37_1 < (t116.length : Int)) = true := decide_eq_true c25
      clear c25
      by_cases c26 : 0 ≤ x37_1
      rotate_left
      · rw [if_neg c26] at H
        exact absurd H (by simp)
      rw [if_pos c26] at H
      have c26b0 : decide (0 ≤ x37_1) = true := decide_eq_true c26
      clear c26
      by_cases c27 : x37_1 < (t116.length : Int)
      rotate_left
      · rw [if_neg c27] at H
        exact absurd H (by simp)
      rw [if_pos c27] at H
      have c27b0 : decide (x37_1 < (t116.length : Int)) = true := decide_eq_true c27
      clear c27
      by_cases c28 : x37_1 < (l2.length : Int)
      rotate_left
      · rw [if_neg c28] at H
        exact absurd H (by simp)
      rw [if_pos c28] at H
      have c28b0 : decide (x37_1 < (l2.length : Int)) = true := decide_eq_true c28
      clear c28
      have H' := Aside0.mk H
      clear H
      have p119 : 0 ≤ (x37_1 : Int) := of_decide_eq_true (by first | (with_reducible assumption) | assumption)
      have q119 : x37_1 < (t116.length : Int) := of_decide_eq_true (by first | (with_reducible assumption) | assumption)
      obtain ⟨ad119, e119, hx119_0, hx119_1, hx119_2, hx119_3, hx119_4, hx119_5⟩ := at_T113 (Kd.R_reads' HO_35.out).2.2 x37_1 p119 q119
      cases e119
      replace p119 := eq_true p119
      replace q119 := eq_true q119
      go_wp2_with (first | ((with_reducible refine gate_dst (N := 9) rfl ?_); refine box_event ?hg (N := 9) ?hd (cs := #[.int .i64 0, .int .i64 0, .int .i64 0, .int .i64 0, .int .i64 0, .int .i64 0]) (t := 113) ?hr ?_; (case hd => rfl); (case hg => rfl); (case hr => first | (go_simp; done) | (go_simp; rfl)); intro gb120 hg w29 hbox hb; have n0_ := Aside0.mk (Kd.R_below (Kd.R_elderB (by (with_reducible repeat (first | apply Kd.R_alloc | apply Kd.R_drewN | apply Kd.R_drew)); exact HO_35.out) gb120 (Nat.le_of_eq hg.symm)) hb); have n1_ := Aside0.mk (Kd.R_below (by (with_reducible repeat (first | apply Kd.R_alloc | apply Kd.R_drewN | apply Kd.R_drew)); exact HO_113004.out) hb); have n2_ := Aside0.mk (blk_below (g := gb109) (o := .cells #[.int .i64 0, .int .i64 0, .int .i64 0, .int .i64 0, .slice none 0 0] 35 (0, 0)) (by (with_reducible repeat (first | refine blk_drewN ?_ _ | refine blk_drew ?_ | refine blk_alloc ?_ _)); exact BK109.out) hb); have n3_ := Aside0.mk (blk_below (g := gb112) (o := .cells #[.int .i64 a0, .int .i64 a1, .int .i64 ((rd_T35 l2 0).f2), .int .i64 ((rd_T35 l2 0).f3), u113004] 35 (0, 0)) (by (with_reducible repeat (first | refine blk_drewN ?_ _ | refine blk_drew ?_ | refine blk_alloc ?_ _)); exact BK112.out) hb); have n4_ := Aside0.mk (below_step (by repeat (first | (with_reducible first | exact HB.out | apply below_alloc | apply pw_below_drewN | apply below_drew1 | refine below_set ?_ GE109.out | refine below_set ?_ GE112.out) | exact HB.out)) hb); have n5_ := Aside0.mk (hbox); have n6_ := Aside0.mk ((by rw [hg]; exact (below_size (by repeat (first | (with_reducible first | exact HB.out | apply below_alloc | apply pw_below_drewN | apply below_drew1 | refine below_set ?_ GE109.out | refine below_set ?_ GE112.out) | exact HB.out))) : w.heap.size ≤ gb120)); have n7_ := n6_; have n8_ := Aside0.mk ((by rw [hg]; exact Nat.ne_of_lt (blk_lt (g := gb109) (o := .cells #[.int .i64 0, .int .i64 0, .int .i64 0, .int .i64 0, .slice none 0 0] 35 (0, 0)) (by (with_reducible repeat (first | refine blk_drewN ?_ _ | refine blk_drew ?_ | refine blk_alloc ?_ _)); exact BK109.out)) : gb109 ≠ gb120)); have n9_ := Aside0.mk ((by rw [hg]; exact Nat.ne_of_gt (blk_lt (g := gb109) (o := .cells #[.int .i64 0, .int .i64 0, .int .i64 0, .int .i64 0, .slice none 0 0] 35 (0, 0)) (by (with_reducible repeat (first | refine blk_drewN ?_ _ | refine blk_drew ?_ | refine blk_alloc ?_ _)); exact BK109.out)) : gb120 ≠ gb109)); have n10_ := Aside0.mk ((by rw [hg]; exact Nat.ne_of_lt (blk_lt (g := gb112) (o := .cells #[.int .i64 a0, .int .i64 a1, .int .i64 ((rd_T35 l2 0).f2), .int .i64 ((rd_T35 l2 0).f3), u113004] 35 (0, 0)) (by (with_reducible repeat (first | refine blk_drewN ?_ _ | refine blk_drew ?_ | refine blk_alloc ?_ _)); exact BK112.out)) : gb112 ≠ gb120)); have n11_ := Aside0.mk ((by rw [hg]; exact Nat.ne_of_gt (blk_lt (g := gb112) (o := .cells #[.int .i64 a0, .int .i64 a1, .int .i64 ((rd_T35 l2 0).f2), .int .i64 ((rd_T35 l2 0).f3), u113004] 35 (0, 0)) (by (with_reducible repeat (first | refine blk_drewN ?_ _ | refine blk_drew ?_ | refine blk_alloc ?_ _)); exact BK112.out)) : gb120 ≠ gb112)); clear HO_35; clear HO_113004; clear BK109; clear BK112; clear HB; have HO_35 := n0_; have HO_113004 := n1_; have BK109 := n2_; have BK112 := n3_; have HB := n4_; have BK120 := n5_; have GW120 := n6_; have GE120 := n7_; have NB109_120 := n8_; have NB120_109 := n9_; have NB112_120 := n10_; have NB120_112 := n11_; clear n0_ n1_ n2_ n3_ n4_ n5_ n6_ n7_ n8_ n9_ n10_ n11_; clear hb hbox hg; have hnb30 := NB120_109.out; have hnc30 := NB109_120.out; have hnb31 := NB120_112.out; have hnc31 := NB112_120.out; have hcz32_0 : w29.cell? ⟨gb120, 0, none⟩ = some (.int .i64 0) := (blk_cell BK120.out 0).trans rfl; have hcz32_1 : w29.cell? ⟨gb120, 1, none⟩ = some (.int .i64 0) := (blk_cell BK120.out 1).trans rfl; have hcz32_2 : w29.cell? ⟨gb120, 2, none⟩ = some (.int .i64 0) := (blk_cell BK120.out 2).trans rfl; have hcz32_3 : w29.cell? ⟨gb120, 3, none⟩ = some (.int .i64 0) := (blk_cell BK120.out 3).trans rfl; have hcz32_4 : w29.cell? ⟨gb120, 4, none⟩ = some (.int .i64 0) := (blk_cell BK120.out 4).trans rfl; have hcz32_5 : w29.cell? ⟨gb120, 5, none⟩ = some (.int .i64 0) := (blk_cell BK120.out 5).trans rfl; have hfz32_0 := blk_frozen BK120.out 0; have hfz32_1 := blk_frozen BK120.out 1; have hfz32_2 := blk_frozen BK120.out 2; have hfz32_3 := blk_frozen BK120.out 3; have hfz32_4 := blk_frozen BK120.out 4; have hfz32_5 := blk_frozen BK120.out 5; have p121 : 0 ≤ (x37_1 : Int) := of_decide_eq_true (by first | (with_reducible assumption) | assumption); have q121 : x37_1 < (l2.length : Int) := of_decide_eq_true (by first | (with_reducible assumption) | assumption); obtain ⟨ad121, A121_4, c121_4, e121, hx121_0, hx121_1, hx121_2, hx121_3, hx121_4, hl121_4, hi121_4⟩ := at_T35 HR2.out x37_1 p121 q121; obtain rfl : ad110 = ad121 := (by injection e121); have hn121_0 : ad110.block ≠ gb120 := Nat.ne_of_lt (Nat.lt_of_lt_of_le (by have := World.block_lt_of_cell? _ _ hx121_0; first | rwa [add_block] at this | exact this) GW120.out); have hn121_1 : ad110.block ≠ gb120 := Nat.ne_of_lt (Nat.lt_of_lt_of_le (by have := World.block_lt_of_cell? _ _ hx121_0; first | rwa [add_block] at this | exact this) GW120.out); have hn121_2 : ad110.block ≠ gb120 := Nat.ne_of_lt (Nat.lt_of_lt_of_le (by have := World.block_lt_of_cell? _ _ hx121_0; first | rwa [add_block] at this | exact this) GW120.out); have hn121_3 : ad110.block ≠ gb120 := Nat.ne_of_lt (Nat.lt_of_lt_of_le (by have := World.block_lt_of_cell? _ _ hx121_0; first | rwa [add_block] at this | exact this) GW120.out); have hn121_4 : ad110.block ≠ gb120 := Nat.ne_of_lt (Nat.lt_of_lt_of_le (by have := World.block_lt_of_cell? _ _ hx121_0; first | rwa [add_block] at this | exact this) GW120.out); have hn121_5 : ad110.block ≠ gb120 := Nat.ne_of_lt (Nat.lt_of_lt_of_le (by have := World.block_lt_of_cell? _ _ hx121_0; first | rwa [add_block] at this | exact this) GW120.out); replace hx121_0 := (HB.out.cell (World.block_lt_of_cell? w _ hx121_0)).trans hx121_0; replace hx121_1 := (HB.out.cell (World.block_lt_of_cell? w _ hx121_1)).trans hx121_1; replace hx121_2 := (HB.out.cell (World.block_lt_of_cell? w _ hx121_2)).trans hx121_2; replace hx121_3 := (HB.out.cell (World.block_lt_of_cell? w _ hx121_3)).trans hx121_3; replace hx121_4 := (HB.out.cell (World.block_lt_of_cell? w _ hx121_4)).trans hx121_4; have HR121_4 := Aside0.mk hi121_4; have HC121_4 := Aside0.mk hl121_4; clear hi121_4 hl121_4; replace hx121_0 := (cell_far (p := ⟨gb120, 0, none⟩) (by first | (rw [add_block]; exact hn121_0) | (show (Addr.add _ _).block ≠ _; rw [add_block]; exact hn121_0) | exact hn121_0) (.int .i64 ((rd_T113 t116 x37_1).f0))).trans hx121_0; replace hx121_1 := (cell_far (p := ⟨gb120, 0, none⟩) (by first | (rw [add_block]; exact hn121_0) | (show (Addr.add _ _).block ≠ _; rw [add_block]; exact hn121_0) | exact hn121_0) (.int .i64 ((rd_T113 t116 x37_1).f0))).trans hx121_1; replace hx121_2 := (cell_far (p := ⟨gb120, 0, none⟩) (by first | (rw [add_block]; exact hn121_0) | (show (Addr.add _ _).block ≠ _; rw [add_block]; exact hn121_0) | exact hn121_0) (.int .i64 ((rd_T113 t116 x37_1).f0))).trans hx121_2; replace hx121_3 := (cell_far (p := ⟨gb120, 0, none⟩) (by first | (rw [add_block]; exact hn121_0) | (show (Addr.add _ _).block ≠ _; rw [add_block]; exact hn121_0) | exact hn121_0) (.int .i64 ((rd_T113 t116 x37_1).f0))).trans hx121_3; replace hx121_4 := (cell_far (p := ⟨gb120, 0, none⟩) (by first | (rw [add_block]; exact hn121_0) | (show (Addr.add _ _).block ≠ _; rw [add_block]; exact hn121_0) | exact hn121_0) (.int .i64 ((rd_T113 t116 x37_1).f0))).trans hx121_4; replace hx121_0 := (cell_far (p := ⟨gb120, 1, none⟩) (by first | (rw [add_block]; exact hn121_1) | (show (Addr.add _ _).block ≠ _; rw [add_block]; exact hn121_1) | exact hn121_1) (.int .i64 ((rd_T113 t116 x37_1).f1))).trans hx121_0; replace hx121_1 := (cell_far (p := ⟨gb120, 1, none⟩) (by first | (rw [add_block]; exact hn121_1) | (show (Addr.add _ _).block ≠ _; rw [add_block]; exact hn121_1) | exact hn121_1) (.int .i64 ((rd_T113 t116 x37_1).f1))).trans hx121_1; replace hx121_2 := (cell_far (p := ⟨gb120, 1, none⟩) (by first | (rw [add_block]; exact hn121_1) | (show (Addr.add _ _).block ≠ _; rw [add_block]; exact hn121_1) | exact hn121_1) (.int .i64 ((rd_T113 t116 x37_1).f1))).trans hx121_2; replace hx121_3 := (cell_far (p := ⟨gb120, 1, none⟩) (by first | (rw [add_block]; exact hn121_1) | (show (Addr.add _ _).block ≠ _; rw [add_block]; exact hn121_1) | exact hn121_1) (.int .i64 ((rd_T113 t116 x37_1).f1))).trans hx121_3; replace hx121_4 := (cell_far (p := ⟨gb120, 1, none⟩) (by first | (rw [add_block]; exact hn121_1) | (show (Addr.add _ _).block ≠ _; rw [add_block]; exact hn121_1) | exact hn121_1) (.int .i64 ((rd_T113 t116 x37_1).f1))).trans hx121_4; replace hx121_0 := (cell_far (p := ⟨gb120, 2, none⟩) (by first | (rw [add_block]; exact hn121_2) | (show (Addr.add _ _).block ≠ _; rw [add_block]; exact hn121_2) | exact hn121_2) (.int .i64 ((rd_T113 t116 x37_1).f2))).trans hx121_0; replace hx121_1 := (cell_far (p := ⟨gb120, 2, none⟩) (by first | (rw [add_block]; exact hn121_2) | (show (Addr.add _ _).block ≠ _; rw [add_block]; exact hn121_2) | exact hn121_2) (.int .i64 ((rd_T113 t116 x37_1).f2))).trans hx121_1; replace hx121_2 := (cell_far (p := ⟨gb120, 2, none⟩) (by first | (rw [add_block]; exact hn121_2) | (show (Addr.add _ _).block ≠ _; rw [add_block]; exact hn121_2) | exact hn121_2) (.int .i64 ((rd_T113 t116 x37_1).f2))).trans hx121_2; replace hx121_3 := (cell_far (p := ⟨gb120, 2, none⟩) (by first | (rw [add_block]; exact hn121_2) | (show (Addr.add _ _).block ≠ _; rw [add_block]; exact hn121_2) | exact hn121_2) (.int .i64 ((rd_T113 t116 x37_1).f2))).trans hx121_3; replace hx121_4 := (cell_far (p := ⟨gb120, 2, none⟩) (by first | (rw [add_block]; exact hn121_2) | (show (Addr.add _ _).block ≠ _; rw [add_block]; exact hn121_2) | exact hn121_2) (.int .i64 ((rd_T113 t116 x37_1).f2))).trans hx121_4; replace hx121_0 := (cell_far (p := ⟨gb120, 3, none⟩) (by first | (rw [add_block]; exact hn121_3) | (show (Addr.add _ _).block ≠ _; rw [add_block]; exact hn121_3) | exact hn121_3) (.int .i64 ((rd_T113 t116 x37_1).f3))).trans hx121_0; replace hx121_1 := (cell_far (p := ⟨gb120, 3, none⟩) (by first | (rw [add_block]; exact hn121_3) | (show (Addr.add _ _).block ≠ _; rw [add_block]; exact hn121_3) | exact hn121_3) (.int .i64 ((rd_T113 t116 x37_1).f3))).trans hx121_1; replace hx121_2 := (cell_far (p := ⟨gb120, 3, none⟩) (by first | (rw [add_block]; exact hn121_3) | (show (Addr.add _ _).block ≠ _; rw [add_block]; exact hn121_3) | exact hn121_3) (.int .i64 ((rd_T113 t116 x37_1).f3))).trans hx121_2; replace hx121_3 := (cell_far (p := ⟨gb120, 3, none⟩) (by first | (rw [add_block]; exact hn121_3) | (show (Addr.add _ _).block ≠ _; rw [add_block]; exact hn121_3) | exact hn121_3) (.int .i64 ((rd_T113 t116 x37_1).f3))).trans hx121_3; replace hx121_4 := (cell_far (p := ⟨gb120, 3, none⟩) (by first | (rw [add_block]; exact hn121_3) | (show (Addr.add _ _).block ≠ _; rw [add_block]; exact hn121_3) | exact hn121_3) (.int .i64 ((rd_T113 t116 x37_1).f3))).trans hx121_4; replace hx121_0 := (cell_far (p := ⟨gb120, 4, none⟩) (by first | (rw [add_block]; exact hn121_4) | (show (Addr.add _ _).block ≠ _; rw [add_block]; exact hn121_4) | exact hn121_4) (.int .i64 ((rd_T113 t116 x37_1).f4))).trans hx121_0; replace hx121_1 := (cell_far (p := ⟨gb120, 4, none⟩) (by first | (rw [add_block]; exact hn121_4) | (show (Addr.add _ _).block ≠ _; rw [add_block]; exact hn121_4) | exact hn121_4) (.int .i64 ((rd_T113 t116 x37_1).f4))).trans hx121_1; replace hx121_2 := (cell_far (p := ⟨gb120, 4, none⟩) (by first | (rw [add_block]; exact hn121_4) | (show (Addr.add _ _).block ≠ _; rw [add_block]; exact hn121_4) | exact hn121_4) (.int .i64 ((rd_T113 t116 x37_1).f4))).trans hx121_2; replace hx121_3 := (cell_far (p := ⟨gb120, 4, none⟩) (by first | (rw [add_block]; exact hn121_4) | (show (Addr.add _ _).block ≠ _; rw [add_block]; exact hn121_4) | exact hn121_4) (.int .i64 ((rd_T113 t116 x37_1).f4))).trans hx121_3; replace hx121_4 := (cell_far (p := ⟨gb120, 4, none⟩) (by first | (rw [add_block]; exact hn121_4) | (show (Addr.add _ _).block ≠ _; rw [add_block]; exact hn121_4) | exact hn121_4) (.int .i64 ((rd_T113 t116 x37_1).f4))).trans hx121_4; replace hx121_0 := (cell_far (p := ⟨gb120, 5, none⟩) (by first | (rw [add_block]; exact hn121_5) | (show (Addr.add _ _).block ≠ _; rw [add_block]; exact hn121_5) | exact hn121_5) (.int .i64 ((rd_T113 t116 x37_1).f5))).trans hx121_0; replace hx121_1 := (cell_far (p := ⟨gb120, 5, none⟩) (by first | (rw [add_block]; exact hn121_5) | (show (Addr.add _ _).block ≠ _; rw [add_block]; exact hn121_5) | exact hn121_5) (.int .i64 ((rd_T113 t116 x37_1).f5))).trans hx121_1; replace hx121_2 := (cell_far (p := ⟨gb120, 5, none⟩) (by first | (rw [add_block]; exact hn121_5) | (show (Addr.add _ _).block ≠ _; rw [add_block]; exact hn121_5) | exact hn121_5) (.int .i64 ((rd_T113 t116 x37_1).f5))).trans hx121_2; replace hx121_3 := (cell_far (p := ⟨gb120, 5, none⟩) (by first | (rw [add_block]; exact hn121_5) | (show (Addr.add _ _).block ≠ _; rw [add_block]; exact hn121_5) | exact hn121_5) (.int .i64 ((rd_T113 t116 x37_1).f5))).trans hx121_3; replace hx121_4 := (cell_far (p := ⟨gb120, 5, none⟩) (by first | (rw [add_block]; exact hn121_5) | (show (Addr.add _ _).block ≠ _; rw [add_block]; exact hn121_5) | exact hn121_5) (.int .i64 ((rd_T113 t116 x37_1).f5))).trans hx121_4; clear hn121_0; clear hn121_1; clear hn121_2; clear hn121_3; clear hn121_4; clear hn121_5; replace p121 := eq_true p121; replace q121 := eq_true q121))
      go_loopg [48] k1 (fun kq v48 w' => ∃ (x48_2 : Int) (x113004_2 : List Int) (u113004 : Value), v48 = .int .i64 x48_2 ∧ Aside0 (spec_l4Merge.l1 kq a0 l2 t116 (t116.length : Int) x37_1 ((rd_T35 l2 x37_1).f4) (((rd_T35 l2 x37_1).f4).length : Int) x48_2 a0 a1 ((rd_T35 l2 0).f2) ((rd_T35 l2 0).f3) x113004_2 ((rd_T113 t116 x37_1).f0) ((rd_T113 t116 x37_1).f1) ((rd_T113 t116 x37_1).f2) ((rd_T113 t116 x37_1).f3) ((rd_T113 t116 x37_1).f4) ((rd_T113 t116 x37_1).f5) = some (r1, r2, r3, r4, r5)) ∧ Aside0 (kq ≤ k1) ∧ Aside0 (Kd.R k113 113 w' w.heap.size (fun k_ => k_ ≠ gb120) (.slice (some ad119) t116.length co24) t116) ∧ Aside0 (Kd.R (Kd.int .i64) 3 w' w.heap.size (fun _ => True) u113004 x113004_2) ∧ Aside0 (w'.heap[gb109]? = some (.cells #[.int .i64 0, .int .i64 0, .int .i64 0, .int .i64 0, (.slice none 0 0)] 35 (0, 0))) ∧ Aside0 (w'.heap[gb112]? = some (.cells #[.int .i64 a0, .int .i64 a1, .int .i64 ((rd_T35 l2 0).f2), .int .i64 ((rd_T35 l2 0).f3), u113004] 35 (0, 0))) ∧ Aside0 (w'.heap[gb120]? = some (.cells #[.int .i64 ((rd_T113 t116 x37_1).f0), .int .i64 ((rd_T113 t116 x37_1).f1), .int .i64 ((rd_T113 t116 x37_1).f2), .int .i64 ((rd_T113 t116 x37_1).f3), .int .i64 ((rd_T113 t116 x37_1).f4), .int .i64 ((rd_T113 t116 x37_1).f5)] 113 (0, 0))) ∧ Aside0 (Below w.heap.size w w'))
      case atStart => exact ⟨(0), (x113004_1), (u113004), (by first | rfl | (simp; done) | (simp [*]; done)), H', ⟨Nat.le_refl _⟩, ⟨by (with_reducible repeat (first | apply Kd.R_alloc | apply Kd.R_drewN | apply Kd.R_drew)); exact Kd.R_mono (Kd.R_far (p := ⟨gb120, 5, none⟩) (Kd.R_far (p := ⟨gb120, 4, none⟩) (Kd.R_far (p := ⟨gb120, 3, none⟩) (Kd.R_far (p := ⟨gb120, 2, none⟩) (Kd.R_far (p := ⟨gb120, 1, none⟩) (Kd.R_far (p := ⟨gb120, 0, none⟩) (Kd.R_mono HO_35.out (fun k_ hk => (⟨hk, hk.2⟩ : _ ∧ k_ ≠ gb120))) (fun _ hk => hk.2) (.int .i64 ((rd_T113 t116 x37_1).f0))) (fun _ hk => hk.2) (.int .i64 ((rd_T113 t116 x37_1).f1))) (fun _ hk => hk.2) (.int .i64 ((rd_T113 t116 x37_1).f2))) (fun _ hk => hk.2) (.int .i64 ((rd_T113 t116 x37_1).f3))) (fun _ hk => hk.2) (.int .i64 ((rd_T113 t116 x37_1).f4))) (fun _ hk => hk.2) (.int .i64 ((rd_T113 t116 x37_1).f5))) (fun _ hk => hk.1.2)⟩, ⟨by (with_reducible repeat (first | apply Kd.R_alloc | apply Kd.R_drewN | apply Kd.R_drew)); exact Kd.R_mono (Kd.R_far (p := ⟨gb120, 5, none⟩) (Kd.R_far (p := ⟨gb120, 4, none⟩) (Kd.R_far (p := ⟨gb120, 3, none⟩) (Kd.R_far (p := ⟨gb120, 2, none⟩) (Kd.R_far (p := ⟨gb120, 1, none⟩) (Kd.R_far (p := ⟨gb120, 0, none⟩) (Kd.R_types HO_113004.out BK120.out (by decide)) (fun _ hk => hk.2) (.int .i64 ((rd_T113 t116 x37_1).f0))) (fun _ hk => hk.2) (.int .i64 ((rd_T113 t116 x37_1).f1))) (fun _ hk => hk.2) (.int .i64 ((rd_T113 t116 x37_1).f2))) (fun _ hk => hk.2) (.int .i64 ((rd_T113 t116 x37_1).f3))) (fun _ hk => hk.2) (.int .i64 ((rd_T113 t116 x37_1).f4))) (fun _ hk => hk.2) (.int .i64 ((rd_T113 t116 x37_1).f5))) (fun _ hk => trivial)⟩, ⟨by (with_reducible repeat (first | refine blk_drewN ?_ _ | refine blk_drew ?_ | refine blk_alloc ?_ _)); refine blk_far ?_ NB109_120.out _; (with_reducible repeat (first | refine blk_drewN ?_ _ | refine blk_drew ?_ | refine blk_alloc ?_ _)); refine blk_far ?_ NB109_120.out _; (with_reducible repeat (first | refine blk_drewN ?_ _ | refine blk_drew ?_ | refine blk_alloc ?_ _)); refine blk_far ?_ NB109_120.out _; (with_reducible repeat (first | refine blk_drewN ?_ _ | refine blk_drew ?_ | refine blk_alloc ?_ _)); refine blk_far ?_ NB109_120.out _; (with_reducible repeat (first | refine blk_drewN ?_ _ | refine blk_drew ?_ | refine blk_alloc ?_ _)); refine blk_far ?_ NB109_120.out _; (with_reducible repeat (first | refine blk_drewN ?_ _ | refine blk_drew ?_ | refine blk_alloc ?_ _)); refine blk_far ?_ NB109_120.out _; (with_reducible repeat (first | refine blk_drewN ?_ _ | refine blk_drew ?_ | refine blk_alloc ?_ _)); exact BK109.out⟩, ⟨by (with_reducible repeat (first | refine blk_drewN ?_ _ | refine blk_drew ?_ | refine blk_alloc ?_ _)); refine blk_far ?_ NB112_120.out _; (with_reducible repeat (first | refine blk_drewN ?_ _ | refine blk_drew ?_ | refine blk_alloc ?_ _)); refine blk_far ?_ NB112_120.out _; (with_reducible repeat (first | refine blk_drewN ?_ _ | refine blk_drew ?_ | refine blk_alloc ?_ _)); refine blk_far ?_ NB112_120.out _; (with_reducible repeat (first | refine blk_drewN ?_ _ | refine blk_drew ?_ | refine blk_alloc ?_ _)); refine blk_far ?_ NB112_120.out _; (with_reducible repeat (first | refine blk_drewN ?_ _ | refine blk_drew ?_ | refine blk_alloc ?_ _)); refine blk_far ?_ NB112_120.out _; (with_reducible repeat (first | refine blk_drewN ?_ _ | refine blk_drew ?_ | refine blk_alloc ?_ _)); refine blk_far ?_ NB112_120.out _; (with_reducible repeat (first | refine blk_drewN ?_ _ | refine blk_drew ?_ | refine blk_alloc ?_ _)); exact BK112.out⟩, ⟨by (with_reducible repeat (first | refine blk_drewN ?_ _ | refine blk_drew ?_ | refine blk_alloc ?_ _)); refine blk_put (cs := #[.int .i64 ((rd_T113 t116 x37_1).f0), .int .i64 ((rd_T113 t116 x37_1).f1), .int .i64 ((rd_T113 t116 x37_1).f2), .int .i64 ((rd_T113 t116 x37_1).f3), .int .i64 ((rd_T113 t116 x37_1).f4), .int .i64 0]) ?_ 5 _ rfl; (with_reducible repeat (first | refine blk_drewN ?_ _ | refine blk_drew ?_ | refine blk_alloc ?_ _)); refine blk_put (cs := #[.int .i64 ((rd_T113 t116 x37_1).f0), .int .i64 ((rd_T113 t116 x37_1).f1), .int .i64 ((rd_T113 t116 x37_1).f2), .int .i64 ((rd_T113 t116 x37_1).f3), .int .i64 0, .int .i64 0]) ?_ 4 _ rfl; (with_reducible repeat (first | refine blk_drewN ?_ _ | refine blk_drew ?_ | refine blk_alloc ?_ _)); refine blk_put (cs := #[.int .i64 ((rd_T113 t116 x37_1).f0), .int .i64 ((rd_T113 t116 x37_1).f1), .int .i64 ((rd_T113 t116 x37_1).f2), .int .i64 0, .int .i64 0, .int .i64 0]) ?_ 3 _ rfl; (with_reducible repeat (first | refine blk_drewN ?_ _ | refine blk_drew ?_ | refine blk_alloc ?_ _)); refine blk_put (cs := #[.int .i64 ((rd_T113 t116 x37_1).f0), .int .i64 ((rd_T113 t116 x37_1).f1), .int .i64 0, .int .i64 0, .int .i64 0, .int .i64 0]) ?_ 2 _ rfl; (with_reducible repeat (first | refine blk_drewN ?_ _ | refine blk_drew ?_ | refine blk_alloc ?_ _)); refine blk_put (cs := #[.int .i64 ((rd_T113 t116 x37_1).f0), .int .i64 0, .int .i64 0, .int .i64 0, .int .i64 0, .int .i64 0]) ?_ 1 _ rfl; (with_reducible repeat (first | refine blk_drewN ?_ _ | refine blk_drew ?_ | refine blk_alloc ?_ _)); refine blk_put (cs := #[.int .i64 0, .int .i64 0, .int .i64 0, .int .i64 0, .int .i64 0, .int .i64 0]) ?_ 0 _ rfl; (with_reducible repeat (first | refine blk_drewN ?_ _ | refine blk_drew ?_ | refine blk_alloc ?_ _)); exact BK120.out⟩, ⟨by repeat (first | (with_reducible first | exact HB.out | apply below_alloc | apply pw_below_drewN | apply below_drew1 | refine below_set ?_ GE109.out | refine below_set ?_ GE112.out | refine below_set ?_ GE120.out) | exact HB.out)⟩⟩
      case round =>
        clear H'
        try clear c1
        try clear p1
        try clear q1
        try clear hx1
        try clear qi1
        try clear c2
        try clear p2
        try clear c3
        try clear c4
        try clear c4b0
        try clear c4b1
        try clear c4b2
        try clear c6
        try clear c6b0
        try clear c6b1
        try clear p6
        try clear c7
        try clear c7b0
        try clear c7b1
        try clear c8
        try clear c11
        try clear p11
        try clear q11
        try clear hx11
        try clear qi11
        try clear c12
        try clear p12
        try clear q12
        try clear hx12
        try clear c17
        try clear c25
        try clear c25b0
        try clear c26
        try clear c26b0
        try clear c27
        try clear c27b0
        try clear c28
        try clear c28b0
        try clear c30
        try clear c31
        try clear hcz18_0
        try clear hcz18_1
        try clear hcz18_2
        try clear hcz18_3
        try clear hcz18_4
        try clear hcz22_0
        try clear hcz22_1
        try clear hcz22_2
        try clear hcz22_3
        try clear hcz22_4
        try clear hcz32_0
        try clear hcz32_1
        try clear hcz32_2
        try clear hcz32_3
        try clear hcz32_4
        try clear hcz32_5
        try clear hfz18_0
        try clear hfz18_1
        try clear hfz18_2
        try clear hfz18_3
        try clear hfz18_4
        try clear hfz22_0
        try clear hfz22_1
        try clear hfz22_2
        try clear hfz22_3
        try clear hfz22_4
        try clear hfz32_0
        try clear hfz32_1
        try clear hfz32_2
        try clear hfz32_3
        try clear hfz32_4
        try clear hfz32_5
        try clear hx110_0
        try clear hx110_1
        try clear hx110_2
        try clear hx110_3
        try clear hx110_4
        try clear hx111_0
        try clear hx111_1
        try clear hx111_2
        try clear hx111_3
        try clear hx111_4
        try clear hx119_0
        try clear hx119_1
        try clear hx119_2
        try clear hx119_3
        try clear hx119_4
        try clear hx119_5
        try clear hx121_0
        try clear hx121_1
        try clear hx121_2
        try clear hx121_3
        try clear hx121_4
        try clear p1
        try clear p11
        try clear p110
        try clear p111
        try clear p119
        try clear p121
        try clear p2
        try clear p6
        try clear q1
        try clear q11
        try clear q110
        try clear q111
        try clear q119
        try clear q121
        obtain ⟨x48_2, x113004_2, u113004, rfl, HA, HK2, HO_35, HO_113004, BK109, BK112, BK120, HB⟩ := hrel
        cases gk with
        | zero => exact absurd HA.out (by simp [spec_l4Merge.l1])
        | succ k2 =>
          have H := HA.out
          clear HA
          simp only [spec_l4Merge.l1] at H
          by_cases c33 : x48_2 < (((rd_T35 l2 x37_1).f4).length : Int)
          rotate_left
          · rw [if_neg c33] at H
            have c33b0 : decide (x48_2 < (((rd_T35 l2 x37_1).f4).length : Int)) = false := decide_eq_false c33
            clear c33
            have H' := Aside0.mk H
            clear H
            go_wp2
            go_roundg k2
            case measure => have := HK1.out; have := HK2.out; omega
            case rel => exact ⟨(wrap64 (x37_1 + 1)), (x113004_2), (u113004), (by first | rfl | (simp; done) | (simp [*]; done)), H', ⟨by have := HK1.out; have := HK2.out; omega⟩, ⟨by (with_reducible repeat (first | apply Kd.R_alloc | apply Kd.R_drewN | apply Kd.R_drew)); exact Kd.R_mono HO_35.out (fun _ hk => trivial)⟩, ⟨by (with_reducible repeat (first | apply Kd.R_alloc | apply Kd.R_drewN | apply Kd.R_drew)); exact HO_113004.out⟩, ⟨by (with_reducible repeat (first | refine blk_drewN ?_ _ | refine blk_drew ?_ | refine blk_alloc ?_ _)); exact BK109.out⟩, ⟨by (with_reducible repeat (first | refine blk_drewN ?_ _ | refine blk_drew ?_ | refine blk_alloc ?_ _)); exact BK112.out⟩, ⟨by repeat (first | (with_reducible first | exact HB.out | apply below_alloc | apply pw_below_drewN | apply below_drew1 | refine below_set ?_ GE109.out | refine below_set ?_ GE112.out | refine below_set ?_ GE120.out) | exact HB.out)⟩⟩
          rw [if_pos c33] at H
          have c33b0 : decide (x48_2 < (((rd_T35 l2 x37_1).f4).length : Int)) = true := decide_eq_true c33
          clear c33
          by_cases c34 : 0 ≤ x48_2
          rotate_left
          · rw [if_neg c34] at H
            exact absurd H (by simp)
          rw [if_pos c34] at H
          have c34b0 : decide (0 ≤ x48_2) = true := decide_eq_true c34
          clear c34
          by_cases c35 : x48_2 < (((rd_T35 l2 x37_1).f4).length : Int)
          rotate_left
          · rw [if_neg c35] at H
            exact absurd H (by simp)
          rw [if_pos c35] at H
          have c35b0 : decide (x48_2 < (((rd_T35 l2 x37_1).f4).length : Int)) = true := decide_eq_true c35
          clear c35
          by_cases c36 : ((rd_T35 l2 0).f2) = 0
          · rw [if_pos c36] at H
            exact absurd H (by simp)
          rw [if_neg c36] at H
          have c36b0 : (((rd_T35 l2 0).f2) == 0) = false := beq_eq_false_iff_ne.mpr c36
          have c36b1 : (((rd_T35 l2 0).f2) != 0) = true := bne_iff_ne.mpr c36
          by_cases c37 : ((rd_T113 t116 x37_1).f4) = 0
          · rw [if_pos c37] at H
            exact absurd H (by simp)
          rw [if_neg c37] at H
          have c37b0 : (((rd_T113 t116 x37_1).f4) == 0) = false := beq_eq_false_iff_ne.mpr c37
          have c37b1 : (((rd_T113 t116 x37_1).f4) != 0) = true := bne_iff_ne.mpr c37
          obtain ⟨ji38, hji38⟩ : ∃ j_ : Int, (wrap64 ((wrap64 ((wrap64 ((wrap64 ((wrap64 ((wrap64 (((rd_T113 t116 x37_1).f1) + (wrap64 ((wrap64 (Int.tdiv (wrap64 (Int.tdiv x48_2 ((rd_T35 l2 0).f2))) ((rd_T113 t116 x37_1).f4))) * ((rd_T113 t116 x37_1).f3))))) * a0)) + ((rd_T113 t116 x37_1).f0))) + (wrap64 ((Int.tmod (wrap64 (Int.tdiv x48_2 ((rd_T35 l2 0).f2))) ((rd_T113 t116 x37_1).f4)) * ((rd_T113 t116 x37_1).f2))))) * ((rd_T35 l2 0).f2))) + (Int.tmod x48_2 ((rd_T35 l2 0).f2)))) = j_ := ⟨_, rfl⟩
          replace H : (if 0 ≤ (ji38) then (if (ji38) < (x113004_2.length : Int) then (spec_l4Merge.l1 k2 a0 l2 t116 (t116.length : Int) x37_1 ((rd_T35 l2 x37_1).f4) (((rd_T35 l2 x37_1).f4).length : Int) (wrap64 (x48_2 + 1)) a0 a1 ((rd_T35 l2 0).f2) ((rd_T35 l2 0).f3) (x113004_2.set ((ji38) : Int).toNat (rd ((rd_T35 l2 x37_1).f4) x48_2)) ((rd_T113 t116 x37_1).f0) ((rd_T113 t116 x37_1).f1) ((rd_T113 t116 x37_1).f2) ((rd_T113 t116 x37_1).f3) ((rd_T113 t116 x37_1).f4) ((rd_T113 t116 x37_1).f5)) else (none)) else (none)) = some (r1, r2, r3, r4, r5) := by first | (rw [hji38] at H; exact H) | (simp only [hji38] at H ⊢; exact H)
          have hji38w : (IntKind.i64.wrap ((wrap64 ((wrap64 ((wrap64 ((wrap64 ((wrap64 (((rd_T113 t116 x37_1).f1) + (wrap64 ((wrap64 (Int.tdiv (wrap64 (Int.tdiv x48_2 ((rd_T35 l2 0).f2))) ((rd_T113 t116 x37_1).f4))) * ((rd_T113 t116 x37_1).f3))))) * a0)) + ((rd_T113 t116 x37_1).f0))) + (wrap64 ((Int.tmod (wrap64 (Int.tdiv x48_2 ((rd_T35 l2 0).f2))) ((rd_T113 t116 x37_1).f4)) * ((rd_T113 t116 x37_1).f2))))) * ((rd_T35 l2 0).f2))) + (Int.tmod x48_2 ((rd_T35 l2 0).f2)))) = ji38 := (i64_w _).trans hji38
          by_cases c39 : 0 ≤ (ji38)
          rotate_left
          · rw [if_neg c39] at H
            exact absurd H (by simp)
          rw [if_pos c39] at H
          have c39b0 : decide (0 ≤ (ji38)) = true := decide_eq_true c39
          clear c39
          by_cases c40 : (ji38) < (x113004_2.length : Int)
          rotate_left
          · rw [if_neg c40] at H
            exact absurd H (by simp)
          rw [if_pos c40] at H
          have c40b0 : decide ((ji38) < (x113004_2.length : Int)) = true := decide_eq_true c40
          clear c40
          obtain ⟨y123, hy123⟩ : ∃ y_ : List Int, y_ = (x113004_2.set ((ji38) : Int).toNat (rd ((rd_T35 l2 x37_1).f4) x48_2)) := ⟨_, rfl⟩
          replace H : (spec_l4Merge.l1 k2 a0 l2 t116 (t116.length : Int) x37_1 ((rd_T35 l2 x37_1).f4) (((rd_T35 l2 x37_1).f4).length : Int) (wrap64 (x48_2 + 1)) a0 a1 ((rd_T35 l2 0).f2) ((rd_T35 l2 0).f3) y123 ((rd_T113 t116 x37_1).f0) ((rd_T113 t116 x37_1).f1) ((rd_T113 t116 x37_1).f2) ((rd_T113 t116 x37_1).f3) ((rd_T113 t116 x37_1).f4) ((rd_T113 t116 x37_1).f5)) = some (r1, r2, r3, r4, r5) := by first | (rw [hy123]; with_reducible exact H) | (have H2_ := (Option.bind_some _ _).symm.trans H; rw [hy123]; with_reducible exact H2_) | (have H2_ := (Option.bind_some _ _).symm.trans H; with_reducible exact H2_) | with_reducible exact H | (rw [hy123]; exact H) | exact H
          have Ny123 := Aside0.mk hy123
          clear hy123
          have H' := Aside0.mk H
          clear H
          have p122 : 0 ≤ (x48_2 : Int) := of_decide_eq_true (by first | (with_reducible assumption) | assumption)
          have q122 : x48_2 < (((rd_T35 l2 x37_1).f4).length : Int) := of_decide_eq_true (by first | (with_reducible assumption) | assumption)
          obtain ⟨ad122, e122, hx122_0⟩ := Kd.at_int HR121_4.out x48_2 p122 q122
          cases e122
          replace hx122_0 := (HB.out.cell (World.block_lt_of_cell? w _ hx122_0)).trans hx122_0
          replace p122 := eq_true p122
          replace q122 := eq_true q122
          try go_wp2
          have n0_ := Aside0.mk (Kd.R_drew HO_35.out)
          have n1_ := Aside0.mk (Kd.R_drew HO_113004.out)
          have n2_ := Aside0.mk (blk_drew BK109.out)
          have n3_ := Aside0.mk (blk_drew BK112.out)
          have n4_ := Aside0.mk (blk_drew BK120.out)
          have n5_ := Aside0.mk (below_drew1 HB.out)
          clear HO_35
          clear HO_113004
          clear BK109
          clear BK112
          clear BK120
          clear HB
          have HO_35 := n0_
          have HO_113004 := n1_
          have BK109 := n2_
          have BK112 := n3_
          have BK120 := n4_
          have HB := n5_
          clear n0_ n1_ n2_ n3_ n4_ n5_
          refine start_ (n := 8) (S := fun w' => w'.cell? ⟨gb112, 0, none⟩ = some (.int .i64 a0) ∧ w'.cell? ⟨gb112, 1, none⟩ = some (.int .i64 a1) ∧ w'.cell? ⟨gb112, 2, none⟩ = some (.int .i64 ((rd_T35 l2 0).f2)) ∧ w'.cell? ⟨gb112, 3, none⟩ = some (.int .i64 ((rd_T35 l2 0).f3)) ∧ w'.cell? ⟨gb112, 4, none⟩ = some (u113004) ∧ w'.cell? ⟨gb120, 0, none⟩ = some (.int .i64 ((rd_T113 t116 x37_1).f0)) ∧ w'.cell? ⟨gb120, 1, none⟩ = some (.int .i64 ((rd_T113 t116 x37_1).f1)) ∧ w'.cell? ⟨gb120, 2, none⟩ = some (.int .i64 ((rd_T113 t116 x37_1).f2)) ∧ w'.cell? ⟨gb120, 3, none⟩ = some (.int .i64 ((rd_T113 t116 x37_1).f3)) ∧ w'.cell? ⟨gb120, 4, none⟩ = some (.int .i64 ((rd_T113 t116 x37_1).f4)) ∧ w'.cell? ⟨gb120, 5, none⟩ = some (.int .i64 ((rd_T113 t116 x37_1).f5))) (ds := []) #[false, false, false, false, false, false, false, false] (by kernel_rfl) rfl rfl ⟨(blk_cell BK112.out 0).trans rfl, (blk_cell BK112.out 1).trans rfl, (blk_cell BK112.out 2).trans rfl, (blk_cell BK112.out 3).trans rfl, (blk_cell BK112.out 4).trans rfl, (blk_cell BK120.out 0).trans rfl, (blk_cell BK120.out 1).trans rfl, (blk_cell BK120.out 2).trans rfl, (blk_cell BK120.out 3).trans rfl, (blk_cell BK120.out 4).trans rfl, (blk_cell BK120.out 5).trans rfl⟩ (fun hHeld => ?_); refine with_tabW spec_l4Merge.tab9 spec_l4Merge.bits9 (fun HT_ HW_ => ?_)
          generalize wr.drew = w42 at HO_35 HO_113004 BK109 BK112 BK120 HB hHeld ⊢
          refine pure_ (i := 0) (N := some 53) (v := ?_) (a' := ?_) #[true, false, false, false, false, false, false, false] rfl rfl (any_of HT_.out (by kernel_rfl)) (fun _ _ _ h => h) (Or.inl ⟨by rfl, ?_⟩) ?_ ?_
          rotate_left
          · intro w'
            go_simp
            with_reducible rfl
          rotate_left
          · simp only [Act.put, List.setIfInBounds_toArray, List.set_cons_zero, List.set_cons_succ, i64_w, i32_w]
            rfl
          refine pure_ (i := 1) (N := some 54) (v := ?_) (a' := ?_) #[true, true, false, false, false, false, false, false] rfl rfl (any_of HT_.out (by kernel_rfl)) (fun _ _ _ h => h) (Or.inl ⟨by rfl, ?_⟩) ?_ ?_
          rotate_left
          · intro w'
            go_simp
            with_reducible rfl
          rotate_left
          · simp only [Act.put, List.setIfInBounds_toArray, List.set_cons_zero, List.set_cons_succ, i64_w, i32_w]
            rfl
          refine pure_ (i := 4) (N := some 57) (v := ?_) (a' := ?_) #[true, true, false, false, true, false, false, false] rfl rfl (any_of HT_.out (by kernel_rfl)) (fun _ _ _ h => h) (Or.inl ⟨by rfl, ?_⟩) ?_ ?_
          rotate_left
          · intro w'
            go_simp
            with_reducible rfl
          rotate_left
          · simp only [Act.put, List.setIfInBounds_toArray, List.set_cons_zero, List.set_cons_succ, i64_w, i32_w]
            rfl
          refine take_ (i := 2) (N := some 55) (v := ?_) (a' := ?_) #[true, true, true, false, true, false, false, false] rfl rfl (take_ofW HT_.out HW_.out (by kernel_rfl)) (fun _ _ _ h => h) (Or.inl ⟨by rfl, ?_⟩) hHeld ?_ ?_
          rotate_left
          · rintro w' ⟨s0, s1, s2, s3, s4, s5, s6, s7, s8, s9, s10⟩
            go_simp
            with_reducible rfl
          rotate_left
          · simp only [Act.put, List.setIfInBounds_toArray, List.set_cons_zero, List.set_cons_succ, i64_w, i32_w]
            rfl
          refine pure_ (i := 3) (N := some 56) (v := ?_) (a' := ?_) #[true, true, true, true, true, false, false, false] rfl rfl (any_of HT_.out (by kernel_rfl)) (fun _ _ _ h => h) (Or.inl ⟨by rfl, ?_⟩) ?_ ?_
          rotate_left
          · intro w'
            go_simp
            with_reducible rfl
          rotate_left
          · simp only [Act.put, List.setIfInBounds_toArray, List.set_cons_zero, List.set_cons_succ, i64_w, i32_w]
            rfl
          refine take_ (i := 5) (N := some 58) (v := ?_) (a' := ?_) #[true, true, true, true, true, true, false, false] rfl rfl (take_ofW HT_.out HW_.out (by kernel_rfl)) (fun _ _ _ h => h) (Or.inl ⟨by rfl, ?_⟩) hHeld ?_ ?_
          rotate_left
          · rintro w' ⟨s0, s1, s2, s3, s4, s5, s6, s7, s8, s9, s10⟩
            go_simp
            with_reducible rfl
          rotate_left
          · simp only [Act.put, List.setIfInBounds_toArray, List.set_cons_zero, List.set_cons_succ, i64_w, i32_w]
            rfl
          refine pure_ (i := 6) (N := some 59) (v := ?_) (a' := ?_) #[true, true, true, true, true, true, true, false] rfl rfl (any_of HT_.out (by kernel_rfl)) (fun _ _ _ h => h) (Or.inl ⟨by rfl, ?_⟩) ?_ ?_
          rotate_left
          · intro w'
            go_simp
            with_reducible rfl
          rotate_left
          · simp only [Act.put, List.setIfInBounds_toArray, List.set_cons_zero, List.set_cons_succ, i64_w, i32_w]
            rfl
          refine pure_ (i := 7) (N := some 12) (v := ?_) (a' := ?_) #[true, true, true, true, true, true, true, true] rfl rfl (any_of HT_.out (by kernel_rfl)) (fun _ _ _ h => h) (Or.inl ⟨by rfl, ?_⟩) ?_ ?_
          rotate_left
          · intro w'
            go_simp
            with_reducible rfl
          rotate_left
          · simp only [Act.put, List.setIfInBounds_toArray, List.set_cons_zero, List.set_cons_succ, i64_w, i32_w]
            rfl
          refine done_ (done_of HT_.out (by kernel_rfl)) ?_
          try go_wp2
          have n0_ := Aside0.mk (Kd.R_drew HO_35.out)
          have n1_ := Aside0.mk (Kd.R_drew HO_113004.out)
          have n2_ := Aside0.mk (blk_drew BK109.out)
          have n3_ := Aside0.mk (blk_drew BK112.out)
          have n4_ := Aside0.mk (blk_drew BK120.out)
          have n5_ := Aside0.mk (below_drew1 HB.out)
          clear HO_35
          clear HO_113004
          clear BK109
          clear BK112
          clear BK120
          clear HB
          have HO_35 := n0_
          have HO_113004 := n1_
          have BK109 := n2_
          have BK112 := n3_
          have BK120 := n4_
          have HB := n5_
          clear n0_ n1_ n2_ n3_ n4_ n5_
          refine start_ (n := 8) (S := fun w' => w'.cell? ⟨gb112, 0, none⟩ = some (.int .i64 a0) ∧ w'.cell? ⟨gb112, 1, none⟩ = some (.int .i64 a1) ∧ w'.cell? ⟨gb112, 2, none⟩ = some (.int .i64 ((rd_T35 l2 0).f2)) ∧ w'.cell? ⟨gb112, 3, none⟩ = some (.int .i64 ((rd_T35 l2 0).f3)) ∧ w'.cell? ⟨gb112, 4, none⟩ = some (u113004) ∧ w'.cell? ⟨gb120, 0, none⟩ = some (.int .i64 ((rd_T113 t116 x37_1).f0)) ∧ w'.cell? ⟨gb120, 1, none⟩ = some (.int .i64 ((rd_T113 t116 x37_1).f1)) ∧ w'.cell? ⟨gb120, 2, none⟩ = some (.int .i64 ((rd_T113 t116 x37_1).f2)) ∧ w'.cell? ⟨gb120, 3, none⟩ = some (.int .i64 ((rd_T113 t116 x37_1).f3)) ∧ w'.cell? ⟨gb120, 4, none⟩ = some (.int .i64 ((rd_T113 t116 x37_1).f4)) ∧ w'.cell? ⟨gb120, 5, none⟩ = some (.int .i64 ((rd_T113 t116 x37_1).f5))) (ds := []) #[false, false, false, false, false, false, false, false] (by kernel_rfl) rfl rfl ⟨(blk_cell BK112.out 0).trans rfl, (blk_cell BK112.out 1).trans rfl, (blk_cell BK112.out 2).trans rfl, (blk_cell BK112.out 3).trans rfl, (blk_cell BK112.out 4).trans rfl, (blk_cell BK120.out 0).trans rfl, (blk_cell BK120.out 1).trans rfl, (blk_cell BK120.out 2).trans rfl, (blk_cell BK120.out 3).trans rfl, (blk_cell BK120.out 4).trans rfl, (blk_cell BK120.out 5).trans rfl⟩ (fun hHeld => ?_); refine with_tabW spec_l4Merge.tab10 spec_l4Merge.bits10 (fun HT_ HW_ => ?_)
          generalize w42.drew = w43 at HO_35 HO_113004 BK109 BK112 BK120 HB hHeld ⊢
          refine pure_ (i := 0) (N := some 60) (v := ?_) (a' := ?_) #[true, false, false, false, false, false, false, false] rfl rfl (any_of HT_.out (by kernel_rfl)) (fun _ _ _ h => h) (Or.inl ⟨by rfl, ?_⟩) ?_ ?_
          rotate_left
          · intro w'
            go_simp
            with_reducible rfl
          rotate_left
          · simp only [Act.put, List.setIfInBounds_toArray, List.set_cons_zero, List.set_cons_succ, i64_w, i32_w]
            rfl
          refine pure_ (i := 1) (N := some 61) (v := ?_) (a' := ?_) #[true, true, false, false, false, false, false, false] rfl rfl (any_of HT_.out (by kernel_rfl)) (fun _ _ _ h => h) (Or.inl ⟨by rfl, ?_⟩) ?_ ?_
          rotate_left
          · intro w'
            go_simp
            with_reducible rfl
          rotate_left
          · simp only [Act.put, List.setIfInBounds_toArray, List.set_cons_zero, List.set_cons_succ, i64_w, i32_w]
            rfl
          refine pure_ (i := 4) (N := some 64) (v := ?_) (a' := ?_) #[true, true, false, false, true, false, false, false] rfl rfl (any_of HT_.out (by kernel_rfl)) (fun _ _ _ h => h) (Or.inl ⟨by rfl, ?_⟩) ?_ ?_
          rotate_left
          · intro w'
            go_simp
            with_reducible rfl
          rotate_left
          · simp only [Act.put, List.setIfInBounds_toArray, List.set_cons_zero, List.set_cons_succ, i64_w, i32_w]
            rfl
          refine take_ (i := 2) (N := some 62) (v := ?_) (a' := ?_) #[true, true, true, false, true, false, false, false] rfl rfl (take_ofW HT_.out HW_.out (by kernel_rfl)) (fun _ _ _ h => h) (Or.inl ⟨by rfl, ?_⟩) hHeld ?_ ?_
          rotate_left
          · rintro w' ⟨s0, s1, s2, s3, s4, s5, s6, s7, s8, s9, s10⟩
            go_simp
            with_reducible rfl
          rotate_left
          · simp only [Act.put, List.setIfInBounds_toArray, List.set_cons_zero, List.set_cons_succ, i64_w, i32_w]
            rfl
          refine pure_ (i := 3) (N := some 63) (v := ?_) (a' := ?_) #[true, true, true, true, true, false, false, false] rfl rfl (any_of HT_.out (by kernel_rfl)) (fun _ _ _ h => h) (Or.inl ⟨by rfl, ?_⟩) ?_ ?_
          rotate_left
          · intro w'
            go_simp
            with_reducible rfl
          rotate_left
          · simp only [Act.put, List.setIfInBounds_toArray, List.set_cons_zero, List.set_cons_succ, i64_w, i32_w]
            rfl
          refine take_ (i := 5) (N := some 65) (v := ?_) (a' := ?_) #[true, true, true, true, true, true, false, false] rfl rfl (take_ofW HT_.out HW_.out (by kernel_rfl)) (fun _ _ _ h => h) (Or.inl ⟨by rfl, ?_⟩) hHeld ?_ ?_
          rotate_left
          · rintro w' ⟨s0, s1, s2, s3, s4, s5, s6, s7, s8, s9, s10⟩
            go_simp
            with_reducible rfl
          rotate_left
          · simp only [Act.put, List.setIfInBounds_toArray, List.set_cons_zero, List.set_cons_succ, i64_w, i32_w]
            rfl
          refine pure_ (i := 6) (N := some 66) (v := ?_) (a' := ?_) #[true, true, true, true, true, true, true, false] rfl rfl (any_of HT_.out (by kernel_rfl)) (fun _ _ _ h => h) (Or.inl ⟨by rfl, ?_⟩) ?_ ?_
          rotate_left
          · intro w'
            go_simp
            with_reducible rfl
          rotate_left
          · simp only [Act.put, List.setIfInBounds_toArray, List.set_cons_zero, List.set_cons_succ, i64_w, i32_w]
            rfl
          refine pure_ (i := 7) (N := some 13) (v := ?_) (a' := ?_) #[true, true, true, true, true, true, true, true] rfl rfl (any_of HT_.out (by kernel_rfl)) (fun _ _ _ h => h) (Or.inl ⟨by rfl, ?_⟩) ?_ ?_
          rotate_left
          · intro w'
            go_simp
            with_reducible rfl
          rotate_left
          · simp only [Act.put, List.setIfInBounds_toArray, List.set_cons_zero, List.set_cons_succ, i64_w, i32_w]
            rfl
          refine done_ (done_of HT_.out (by kernel_rfl)) ?_
          try go_wp2
          have n0_ := Aside0.mk (Kd.R_drew HO_35.out)
          have n1_ := Aside0.mk (Kd.R_drew HO_113004.out)
          have n2_ := Aside0.mk (blk_drew BK109.out)
          have n3_ := Aside0.mk (blk_drew BK112.out)
          have n4_ := Aside0.mk (blk_drew BK120.out)
          have n5_ := Aside0.mk (below_drew1 HB.out)
          clear HO_35
          clear HO_113004
          clear BK109
          clear BK112
          clear BK120
          clear HB
          have HO_35 := n0_
          have HO_113004 := n1_
          have BK109 := n2_
          have BK112 := n3_
          have BK120 := n4_
          have HB := n5_
          clear n0_ n1_ n2_ n3_ n4_ n5_
          have p41 : 0 ≤ ((ji38) : Int) := of_decide_eq_true (by first | (with_reducible assumption) | assumption)
          have q41 : ((ji38) : Int) < ((x113004_2.length : Int) : Int) := of_decide_eq_true (by first | (with_reducible assumption) | assumption)
          obtain ⟨go41, co41, eo41, gb41, gl41, cl41, HG41⟩ := Kd.R_form HO_113004.out (by omega)
          (first | cases eo41 | (injection eo41 with ea_ en_ ec_; (first | subst ea_ | (injection ea_ with ea_; subst ea_)); subst ec_; clear en_))
          have GB41 := Aside0.mk gb41
          have GG41 := Aside0.mk HG41
          clear gb41 gl41 HG41
          obtain ⟨hx41_0, hf41_0⟩ := Kd.R_celln 0 HO_113004.out ((ji38) : Int) p41 q41
          replace p41 := eq_true p41
          replace q41 := eq_true q41
          have HP45 := Kd.R_putn HO_113004.out ((ji38) : Int) (rd ((rd_T35 l2 x37_1).f4) x48_2)
          rw [← Ny123.out] at HP45
          have HQ45 := Aside0.mk HP45
          clear HP45
          refine start_ (n := 30) (S := fun w' => w'.cell? ⟨gb112, 0, none⟩ = some (.int .i64 a0) ∧ w'.cell? ⟨gb112, 1, none⟩ = some (.int .i64 a1) ∧ w'.cell? ⟨gb112, 2, none⟩ = some (.int .i64 ((rd_T35 l2 0).f2)) ∧ w'.cell? ⟨gb112, 3, none⟩ = some (.int .i64 ((rd_T35 l2 0).f3)) ∧ w'.cell? ⟨gb112, 4, none⟩ = some (.slice (some ⟨go41, 0, none⟩) x113004_2.length co41) ∧ w'.cell? ⟨gb120, 0, none⟩ = some (.int .i64 ((rd_T113 t116 x37_1).f0)) ∧ w'.cell? ⟨gb120, 1, none⟩ = some (.int .i64 ((rd_T113 t116 x37_1).f1)) ∧ w'.cell? ⟨gb120, 2, none⟩ = some (.int .i64 ((rd_T113 t116 x37_1).f2)) ∧ w'.cell? ⟨gb120, 3, none⟩ = some (.int .i64 ((rd_T113 t116 x37_1).f3)) ∧ w'.cell? ⟨gb120, 4, none⟩ = some (.int .i64 ((rd_T113 t116 x37_1).f4)) ∧ w'.cell? ⟨gb120, 5, none⟩ = some (.int .i64 ((rd_T113 t116 x37_1).f5))) (ds := [29]) #[false, false, false, false, false, false, false, false, false, false, false, false, false, false, false, false, false, false, false, false, false, false, false, false, false, false, false, false, false, false] (by kernel_rfl) rfl rfl ⟨(blk_cell BK112.out 0).trans rfl, (blk_cell BK112.out 1).trans rfl, (blk_cell BK112.out 2).trans rfl, (blk_cell BK112.out 3).trans rfl, (blk_cell BK112.out 4).trans rfl, (blk_cell BK120.out 0).trans rfl, (blk_cell BK120.out 1).trans rfl, (blk_cell BK120.out 2).trans rfl, (blk_cell BK120.out 3).trans rfl, (blk_cell BK120.out 4).trans rfl, (blk_cell BK120.out 5).trans rfl⟩ (fun hHeld => ?_); refine with_tabW spec_l4Merge.tab11 spec_l4Merge.bits11 (fun HT_ HW_ => ?_)
          generalize w43.drew = w44 at HO_35 HO_113004 BK109 BK112 BK120 HB GG41 HQ45 hf41_0 hx41_0 hHeld ⊢
          refine pure_ (i := 0) (N := some 67) (v := ?_) (a' := ?_) #[true, false, false, false, false, false, false, false, false, false, false, false, false, false, false, false, false, false, false, false, false, false, false, false, false, false, false, false, false, false] rfl rfl (any_of HT_.out (by kernel_rfl)) (fun _ _ _ h => h) (Or.inl ⟨by rfl, ?_⟩) ?_ ?_
          rotate_left
          · intro w'
            go_simp
            with_reducible rfl
          rotate_left
          · simp only [Act.put, List.setIfInBounds_toArray, List.set_cons_zero, List.set_cons_succ, i64_w, i32_w]
            rfl
          refine pure_ (i := 2) (N := some 69) (v := ?_) (a' := ?_) #[true, false, true, false, false, false, false, false, false, false, false, false, false, false, false, false, false, false, false, false, false, false, false, false, false, false, false, false, false, false] rfl rfl (any_of HT_.out (by kernel_rfl)) (fun _ _ _ h => h) (Or.inl ⟨by rfl, ?_⟩) ?_ ?_
          rotate_left
          · intro w'
            go_simp
            with_reducible rfl
          rotate_left
          · simp only [Act.put, List.setIfInBounds_toArray, List.set_cons_zero, List.set_cons_succ, i64_w, i32_w]
            rfl
          refine pure_ (i := 4) (N := some 71) (v := ?_) (a' := ?_) #[true, false, true, false, true, false, false, false, false, false, false, false, false, false, false, false, false, false, false, false, false, false, false, false, false, false, false, false, false, false] rfl rfl (any_of HT_.out (by kernel_rfl)) (fun _ _ _ h => h) (Or.inl ⟨by rfl, ?_⟩) ?_ ?_
          rotate_left
          · intro w'
            go_simp
            with_reducible rfl
          rotate_left
          · simp only [Act.put, List.setIfInBounds_toArray, List.set_cons_zero, List.set_cons_succ, i64_w, i32_w]
            rfl
          refine pure_ (i := 5) (N := some 72) (v := ?_) (a' := ?_) #[true, false, true, false, true, true, false, false, false, false, false, false, false, false, false, false, false, false, false, false, false, false, false, false, false, false, false, false, false, false] rfl rfl (any_of HT_.out (by kernel_rfl)) (fun _ _ _ h => h) (Or.inl ⟨by rfl, ?_⟩) ?_ ?_
          rotate_left
          · intro w'
            go_simp
            with_reducible rfl
          rotate_left
          · simp only [Act.put, List.setIfInBounds_toArray, List.set_cons_zero, List.set_cons_succ, i64_w, i32_w]
            rfl
          refine pure_ (i := 9) (N := some 76) (v := ?_) (a' := ?_) #[true, false, true, false, true, true, false, false, false, true, false, false, false, false, false, false, false, false, false, false, false, false, false, false, false, false, false, false, false, false] rfl rfl (any_of HT_.out (by kernel_rfl)) (fun _ _ _ h => h) (Or.inl ⟨by rfl, ?_⟩) ?_ ?_
          rotate_left
          · intro w'
            go_simp
            with_reducible rfl
          rotate_left
          · simp only [Act.put, List.setIfInBounds_toArray, List.set_cons_zero, List.set_cons_succ, i64_w, i32_w]
            rfl
          refine pure_ (i := 11) (N := some 78) (v := ?_) (a' := ?_) #[true, false, true, false, true, true, false, false, false, true, false, true, false, false, false, false, false, false, false, false, false, false, false, false, false, false, false, false, false, false] rfl rfl (any_of HT_.out (by kernel_rfl)) (fun _ _ _ h => h) (Or.inl ⟨by rfl, ?_⟩) ?_ ?_
          rotate_left
          · intro w'
            go_simp
            with_reducible rfl
          rotate_left
          · simp only [Act.put, List.setIfInBounds_toArray, List.set_cons_zero, List.set_cons_succ, i64_w, i32_w]
            rfl
          refine pure_ (i := 14) (N := some 81) (v := ?_) (a' := ?_) #[true, false, true, false, true, true, false, false, false, true, false, true, false, false, true, false, false, false, false, false, false, false, false, false, false, false, false, false, false, false] rfl rfl (any_of HT_.out (by kernel_rfl)) (fun _ _ _ h => h) (Or.inl ⟨by rfl, ?_⟩) ?_ ?_
          rotate_left
          · intro w'
            go_simp
            with_reducible rfl
          rotate_left
          · simp only [Act.put, List.setIfInBounds_toArray, List.set_cons_zero, List.set_cons_succ, i64_w, i32_w]
            rfl
          refine pure_ (i := 15) (N := some 82) (v := ?_) (a' := ?_) #[true, false, true, false, true, true, false, false, false, true, false, true, false, false, true, true, false, false, false, false, false, false, false, false, false, false, false, false, false, false] rfl rfl (any_of HT_.out (by kernel_rfl)) (fun _ _ _ h => h) (Or.inl ⟨by rfl, ?_⟩) ?_ ?_
          rotate_left
          · intro w'
            go_simp
            with_reducible rfl
          rotate_left
          · simp only [Act.put, List.setIfInBounds_toArray, List.set_cons_zero, List.set_cons_succ, i64_w, i32_w]
            rfl
          refine pure_ (i := 19) (N := some 86) (v := ?_) (a' := ?_) #[true, false, true, false, true, true, false, false, false, true, false, true, false, false, true, true, false, false, false, true, false, false, false, false, false, false, false, false, false, false] rfl rfl (any_of HT_.out (by kernel_rfl)) (fun _ _ _ h => h) (Or.inl ⟨by rfl, ?_⟩) ?_ ?_
          rotate_left
          · intro w'
            go_simp
            with_reducible rfl
          rotate_left
          · simp only [Act.put, List.setIfInBounds_toArray, List.set_cons_zero, List.set_cons_succ, i64_w, i32_w]
            rfl
          refine pure_ (i := 22) (N := some 89) (v := ?_) (a' := ?_) #[true, false, true, false, true, true, false, false, false, true, false, true, false, false, true, true, false, false, false, true, false, false, true, false, false, false, false, false, false, false] rfl rfl (any_of HT_.out (by kernel_rfl)) (fun _ _ _ h => h) (Or.inl ⟨by rfl, ?_⟩) ?_ ?_
          rotate_left
          · intro w'
            go_simp
            with_reducible rfl
          rotate_left
          · simp only [Act.put, List.setIfInBounds_toArray, List.set_cons_zero, List.set_cons_succ, i64_w, i32_w]
            rfl
          refine pure_ (i := 23) (N := some 90) (v := ?_) (a' := ?_) #[true, false, true, false, true, true, false, false, false, true, false, true, false, false, true, true, false, false, false, true, false, false, true, true, false, false, false, false, false, false] rfl rfl (any_of HT_.out (by kernel_rfl)) (fun _ _ _ h => h) (Or.inl ⟨by rfl, ?_⟩) ?_ ?_
          rotate_left
          · intro w'
            go_simp
            with_reducible rfl
          rotate_left
          · simp only [Act.put, List.setIfInBounds_toArray, List.set_cons_zero, List.set_cons_succ, i64_w, i32_w]
            rfl
          refine pure_ (i := 27) (N := some 94) (v := ?_) (a' := ?_) #[true, false, true, false, true, true, false, false, false, true, false, true, false, false, true, true, false, false, false, true, false, false, true, true, false, false, false, true, false, false] rfl rfl (any_of HT_.out (by kernel_rfl)) (fun _ _ _ h => h) (Or.inl ⟨by rfl, ?_⟩) ?_ ?_
          rotate_left
          · intro w'
            go_simp
            with_reducible rfl
          rotate_left
          · simp only [Act.put, List.setIfInBounds_toArray, List.set_cons_zero, List.set_cons_succ, i64_w, i32_w]
            rfl
          refine take_ (i := 1) (N := some 68) (v := ?_) (a' := ?_) #[true, true, true, false, true, true, false, false, false, true, false, true, false, false, true, true, false, false, false, true, false, false, true, true, false, false, false, true, false, false] rfl rfl (take_ofW HT_.out HW_.out (by kernel_rfl)) (fun _ _ _ h => h) (Or.inl ⟨by rfl, ?_⟩) hHeld ?_ ?_
          rotate_left
          · rintro w' ⟨s0, s1, s2, s3, s4, s5, s6, s7, s8, s9, s10⟩
            go_simp
            with_reducible rfl
          rotate_left
          · simp only [Act.put, List.setIfInBounds_toArray, List.set_cons_zero, List.set_cons_succ, i64_w, i32_w]
            rfl
          refine take_ (i := 3) (N := some 70) (v := ?_) (a' := ?_) #[true, true, true, true, true, true, false, false, false, true, false, true, false, false, true, true, false, false, false, true, false, false, true, true, false, false, false, true, false, false] rfl rfl (take_ofW HT_.out HW_.out (by kernel_rfl)) (fun _ _ _ h => h) (Or.inl ⟨by rfl, ?_⟩) hHeld ?_ ?_
          rotate_left
          · rintro w' ⟨s0, s1, s2, s3, s4, s5, s6, s7, s8, s9, s10⟩
            go_simp
            with_reducible rfl
          rotate_left
          · simp only [Act.put, List.setIfInBounds_toArray, List.set_cons_zero, List.set_cons_succ, i64_w, i32_w]
            rfl
          refine take_ (i := 6) (N := some 73) (v := ?_) (a' := ?_) #[true, true, true, true, true, true, true, false, false, true, false, true, false, false, true, true, false, false, false, true, false, false, true, true, false, false, false, true, false, false] rfl rfl (take_ofW HT_.out HW_.out (by kernel_rfl)) (fun _ _ _ h => h) (Or.inl ⟨by rfl, ?_⟩) hHeld ?_ ?_
          rotate_left
          · rintro w' ⟨s0, s1, s2, s3, s4, s5, s6, s7, s8, s9, s10⟩
            go_simp
            with_reducible rfl
          rotate_left
          · simp only [Act.put, List.setIfInBounds_toArray, List.set_cons_zero, List.set_cons_succ, i64_w, i32_w]
            rfl
          refine pure_ (i := 7) (N := some 74) (v := ?_) (a' := ?_) #[true, true, true, true, true, true, true, true, false, true, false, true, false, false, true, true, false, false, false, true, false, false, true, true, false, false, false, true, false, false] rfl rfl (any_of HT_.out (by kernel_rfl)) (fun _ _ _ h => h) (Or.inl ⟨by rfl, ?_⟩) ?_ ?_
          rotate_left
          · intro w'
            go_simp
            with_reducible rfl
          rotate_left
          · simp only [Act.put, List.setIfInBounds_toArray, List.set_cons_zero, List.set_cons_succ, i64_w, i32_w]
            rfl
          refine pure_ (i := 8) (N := some 75) (v := ?_) (a' := ?_) #[true, true, true, true, true, true, true, true, true, true, false, true, false, false, true, true, false, false, false, true, false, false, true, true, false, false, false, true, false, false] rfl rfl (any_of HT_.out (by kernel_rfl)) (fun _ _ _ h => h) (Or.inl ⟨by rfl, ?_⟩) ?_ ?_
          rotate_left
          · intro w'
            go_simp
            with_reducible rfl
          rotate_left
          · simp only [Act.put, List.setIfInBounds_toArray, List.set_cons_zero, List.set_cons_succ, i64_w, i32_w]
            rfl
          refine pure_ (i := 10) (N := some 77) (v := ?_) (a' := ?_) #[true, true, true, true, true, true, true, true, true, true, true, true, false, false, true, true, false, false, false, true, false, false, true, true, false, false, false, true, false, false] rfl rfl (any_of HT_.out (by kernel_rfl)) (fun _ _ _ h => h) (Or.inl ⟨by rfl, ?_⟩) ?_ ?_
          rotate_left
          · intro w'
            go_simp
            with_reducible rfl
          rotate_left
          · simp only [Act.put, List.setIfInBounds_toArray, List.set_cons_zero, List.set_cons_succ, i64_w, i32_w]
            rfl
          refine take_ (i := 12) (N := some 79) (v := ?_) (a' := ?_) #[true, true, true, true, true, true, true, true, true, true, true, true, true, false, true, true, false, false, false, true, false, false, true, true, false, false, false, true, false, false] rfl rfl (take_ofW HT_.out HW_.out (by kernel_rfl)) (fun _ _ _ h => h) (Or.inl ⟨by rfl, ?_⟩) hHeld ?_ ?_
          rotate_left
          · rintro w' ⟨s0, s1, s2, s3, s4, s5, s6, s7, s8, s9, s10⟩
            go_simp
            with_reducible rfl
          rotate_left
          · simp only [Act.put, List.setIfInBounds_toArray, List.set_cons_zero, List.set_cons_succ, i64_w, i32_w]
            rfl
          refine pure_ (i := 13) (N := some 80) (v := ?_) (a' := ?_) #[true, true, true, true, true, true, true, true, true, true, true, true, true, true, true, true, false, false, false, true, false, false, true, true, false, false, false, true, false, false] rfl rfl (any_of HT_.out (by kernel_rfl)) (fun _ _ _ h => h) (Or.inl ⟨by rfl, ?_⟩) ?_ ?_
          rotate_left
          · intro w'
            go_simp
            with_reducible rfl
          rotate_left
          · simp only [Act.put, List.setIfInBounds_toArray, List.set_cons_zero, List.set_cons_succ, i64_w, i32_w]
            rfl
          refine take_ (i := 16) (N := some 83) (v := ?_) (a' := ?_) #[true, true, true, true, true, true, true, true, true, true, true, true, true, true, true, true, true, false, false, true, false, false, true, true, false, false, false, true, false, false] rfl rfl (take_ofW HT_.out HW_.out (by kernel_rfl)) (fun _ _ _ h => h) (Or.inl ⟨by rfl, ?_⟩) hHeld ?_ ?_
          rotate_left
          · rintro w' ⟨s0, s1, s2, s3, s4, s5, s6, s7, s8, s9, s10⟩
            go_simp
            with_reducible rfl
          rotate_left
          · simp only [Act.put, List.setIfInBounds_toArray, List.set_cons_zero, List.set_cons_succ, i64_w, i32_w]
            rfl
          refine pure_ (i := 17) (N := some 84) (v := ?_) (a' := ?_) #[true, true, true, true, true, true, true, true, true, true, true, true, true, true, true, true, true, true, false, true, false, false, true, true, false, false, false, true, false, false] rfl rfl (any_of HT_.out (by kernel_rfl)) (fun _ _ _ h => h) (Or.inl ⟨by rfl, ?_⟩) ?_ ?_
          rotate_left
          · intro w'
            go_simp
            with_reducible rfl
          rotate_left
          · simp only [Act.put, List.setIfInBounds_toArray, List.set_cons_zero, List.set_cons_succ, i64_w, i32_w]
            rfl
          refine pure_ (i := 18) (N := some 85) (v := ?_) (a' := ?_) #[true, true, true, true, true, true, true, true, true, true, true, true, true, true, true, true, true, true, true, true, false, false, true, true, false, false, false, true, false, false] rfl rfl (any_of HT_.out (by kernel_rfl)) (fun _ _ _ h => h) (Or.inl ⟨by rfl, ?_⟩) ?_ ?_
          rotate_left
          · intro w'
            go_simp
            with_reducible rfl
          rotate_left
          · simp only [Act.put, List.setIfInBounds_toArray, List.set_cons_zero, List.set_cons_succ, i64_w, i32_w]
            rfl
          refine take_ (i := 20) (N := some 87) (v := ?_) (a' := ?_) #[true, true, true, true, true, true, true, true, true, true, true, true, true, true, true, true, true, true, true, true, true, false, true, true, false, false, false, true, false, false] rfl rfl (take_ofW HT_.out HW_.out (by kernel_rfl)) (fun _ _ _ h => h) (Or.inl ⟨by rfl, ?_⟩) hHeld ?_ ?_
          rotate_left
          · rintro w' ⟨s0, s1, s2, s3, s4, s5, s6, s7, s8, s9, s10⟩
            go_simp
            with_reducible rfl
          rotate_left
          · simp only [Act.put, List.setIfInBounds_toArray, List.set_cons_zero, List.set_cons_succ, i64_w, i32_w]
            rfl
          refine pure_ (i := 21) (N := some 88) (v := ?_) (a' := ?_) #[true, true, true, true, true, true, true, true, true, true, true, true, true, true, true, true, true, true, true, true, true, true, true, true, false, false, false, true, false, false] rfl rfl (any_of HT_.out (by kernel_rfl)) (fun _ _ _ h => h) (Or.inl ⟨by rfl, ?_⟩) ?_ ?_
          rotate_left
          · intro w'
            go_simp
            with_reducible rfl
          rotate_left
          · simp only [Act.put, List.setIfInBounds_toArray, List.set_cons_zero, List.set_cons_succ, i64_w, i32_w]
            rfl
          refine take_ (i := 24) (N := some 91) (v := ?_) (a' := ?_) #[true, true, true, true, true, true, true, true, true, true, true, true, true, true, true, true, true, true, true, true, true, true, true, true, true, false, false, true, false, false] rfl rfl (take_ofW HT_.out HW_.out (by kernel_rfl)) (fun _ _ _ h => h) (Or.inl ⟨by rfl, ?_⟩) hHeld ?_ ?_
          rotate_left
          · rintro w' ⟨s0, s1, s2, s3, s4, s5, s6, s7, s8, s9, s10⟩
            go_simp
            with_reducible rfl
          rotate_left
          · simp only [Act.put, List.setIfInBounds_toArray, List.set_cons_zero, List.set_cons_succ, i64_w, i32_w]
            rfl
          refine pure_ (i := 25) (N := some 92) (v := ?_) (a' := ?_) #[true, true, true, true, true, true, true, true, true, true, true, true, true, true, true, true, true, true, true, true, true, true, true, true, true, true, false, true, false, false] rfl rfl (any_of HT_.out (by kernel_rfl)) (fun _ _ _ h => h) (Or.inl ⟨by rfl, ?_⟩) ?_ ?_
          rotate_left
          · intro w'
            go_simp
            with_reducible rfl
          rotate_left
          · simp only [Act.put, List.setIfInBounds_toArray, List.set_cons_zero, List.set_cons_succ, i64_w, i32_w]
            rfl
          refine pure_ (i := 26) (N := some 93) (v := ?_) (a' := ?_) #[true, true, true, true, true, true, true, true, true, true, true, true, true, true, true, true, true, true, true, true, true, true, true, true, true, true, true, true, false, false] rfl rfl (any_of HT_.out (by kernel_rfl)) (fun _ _ _ h => h) (Or.inl ⟨by rfl, ?_⟩) ?_ ?_
          rotate_left
          · intro w'
            go_simp
            with_reducible rfl
          rotate_left
          · simp only [Act.put, List.setIfInBounds_toArray, List.set_cons_zero, List.set_cons_succ, i64_w, i32_w]
            rfl
          refine pure_ (i := 28) (N := some 95) (v := ?_) (a' := ?_) #[true, true, true, true, true, true, true, true, true, true, true, true, true, true, true, true, true, true, true, true, true, true, true, true, true, true, true, true, true, false] rfl rfl (any_of HT_.out (by kernel_rfl)) (fun _ _ _ h => h) (Or.inl ⟨by rfl, ?_⟩) ?_ ?_
          rotate_left
          · intro w'
            go_simp
            with_reducible rfl
          rotate_left
          · simp only [Act.put, List.setIfInBounds_toArray, List.set_cons_zero, List.set_cons_succ, i64_w, i32_w]
            rfl
          refine last_ (i := 29) (N := none) #[true, true, true, true, true, true, true, true, true, true, true, true, true, true, true, true, true, true, true, true, true, true, true, true, true, true, true, true, true, true] rfl rfl (one_of HT_.out (by kernel_rfl)) (by decide) (fun K hK => ?_)
          refine skip_ (w1 := ?_) (by rfl) rfl ?_ ?_
          rotate_left
          · go_simp
            rfl
          refine hK.out _ _ ?_
          clear hK K
          refine done_ (done_of HT_.out (by kernel_rfl)) ?_
          try go_wp2
          go_roundg k2
          case measure => have := HK1.out; have := HK2.out; omega
          case rel => exact ⟨(wrap64 (x48_2 + 1)), (y123), (.slice (some ⟨go41, 0, none⟩) x113004_2.length co41), (by first | rfl | (simp; done) | (simp [*]; done)), H', ⟨by have := HK1.out; have := HK2.out; omega⟩, ⟨by (with_reducible repeat (first | apply Kd.R_alloc | apply Kd.R_drewN | apply Kd.R_drew)); exact Kd.R_mono (Kd.R_far (p := ⟨go41, ((ji38) : Int).toNat, none⟩) (Kd.R_types HO_35.out GG41.out (by decide)) (fun _ hk => hk.2) (.int .i64 (rd ((rd_T35 l2 x37_1).f4) x48_2))) (fun _ hk => hk.1)⟩, ⟨by (with_reducible repeat (first | apply Kd.R_alloc | apply Kd.R_drewN | apply Kd.R_drew)); exact HQ45.out⟩, ⟨by (with_reducible repeat (first | refine blk_drewN ?_ _ | refine blk_drew ?_ | refine blk_alloc ?_ _)); refine blk_far ?_ (by have h_ := Kd.R_ne HO_113004.out BK109.out (by decide); intro e_; exact h_ (by rw [e_]; rfl)) _; (with_reducible repeat (first | refine blk_drewN ?_ _ | refine blk_drew ?_ | refine blk_alloc ?_ _)); exact BK109.out⟩, ⟨by (with_reducible repeat (first | refine blk_drewN ?_ _ | refine blk_drew ?_ | refine blk_alloc ?_ _)); refine blk_far ?_ (by have h_ := Kd.R_ne HO_113004.out BK112.out (by decide); intro e_; exact h_ (by rw [e_]; rfl)) _; (with_reducible repeat (first | refine blk_drewN ?_ _ | refine blk_drew ?_ | refine blk_alloc ?_ _)); exact BK112.out⟩, ⟨by (with_reducible repeat (first | refine blk_drewN ?_ _ | refine blk_drew ?_ | refine blk_alloc ?_ _)); refine blk_far ?_ (by have h_ := Kd.R_ne HO_113004.out BK120.out (by decide); intro e_; exact h_ (by rw [e_]; rfl)) _; (with_reducible repeat (first | refine blk_drewN ?_ _ | refine blk_drew ?_ | refine blk_alloc ?_ _)); exact BK120.out⟩, ⟨by repeat (first | (with_reducible first | exact HB.out | apply below_alloc | apply pw_below_drewN | apply below_drew1 | refine below_set ?_ GB41.out | refine below_set ?_ GE109.out | refine below_set ?_ GE112.out | refine below_set ?_ GE120.out) | exact HB.out)⟩⟩

end Go.Proofs.Ytidblealnaicpaa.PFnExactMerge

-- written by myprint.py (a program of this session's over the kit's print)
import Derived.Test.YtglaedjadlappaaPFnExactDuex0
namespace Go.Proofs.Ytglaedjadlappaa.PFnExactDue
open Go.RowKit Go.Proofs.YtglaedjadlappaaW.PrintWords Go.Proofs.YtglaedjadlappaaW.PrintLast
set_option linter.unusedVariables false
set_option linter.unusedSimpArgs false

/-! ### impl_zearlier: function 172 -/
def impl_zearlier.f (l0_0 : List (S186)) (l0_1 : List (S185)) (a1 : Int) (a2 : Int) : Option (Bool) := if 0 ≤ a1 then (if a1 < (l0_1.length : Int) then (if 0 ≤ a2 then (if a2 < (l0_1.length : Int) then (if 0 ≤ ((rd_T185 l0_1 a2).f0) then (if ((rd_T185 l0_1 a2).f0) < (l0_0.length : Int) then (if 0 ≤ ((rd_T185 l0_1 a1).f0) then (if ((rd_T185 l0_1 a1).f0) < (l0_0.length : Int) then (if (wrap64 (((rd_T185 l0_1 a1).f1) * ((rd_T186 l0_0 ((rd_T185 l0_1 a2).f0)).f1))) = (wrap64 (((rd_T185 l0_1 a2).f1) * ((rd_T186 l0_0 ((rd_T185 l0_1 a1).f0)).f1))) then (if ((rd_T185 l0_1 a1).f0) = ((rd_T185 l0_1 a2).f0) then (some (decide (a1 < a2))) else (some (decide (((rd_T185 l0_1 a1).f0) < ((rd_T185 l0_1 a2).f0))))) else (some (decide ((wrap64 (((rd_T185 l0_1 a1).f1) * ((rd_T186 l0_0 ((rd_T185 l0_1 a2).f0)).f1))) < (wrap64 (((rd_T185 l0_1 a2).f1) * ((rd_T186 l0_0 ((rd_T185 l0_1 a1).f0)).f1))))))) else (none)) else (none)) else (none)) else (none)) else (none)) else (none)) else (none)) else (none)
def impl_zearlier.T1 : Bool × List (List Nat × List Nat) := (true, [([], []), ([0], [0]), ([], []), ([1, 2], [1, 2]), ([3], [3]), ([], []), ([5], [5]), ([], []), ([6, 7], [6, 7]), ([8], [8]), ([], []), ([], []), ([10, 4, 0, 1, 2, 3, 4, 10, 11], [4, 10]), ([11, 9, 12, 0, 1, 2, 3, 4, 5, 6, 7, 8, 9, 10, 11, 12], [9, 11])])
def impl_zearlier.B1 : List Nat := [0, 1, 0, 7, 15, 0, 32, 0, 224, 480, 0, 0, 3103, 8191]
theorem impl_zearlier.tab1 : rtab .any (opsOf Try.f172 1) = impl_zearlier.T1 := by kernel_rfl
theorem impl_zearlier.bits1 : waitsOk impl_zearlier.T1.2 impl_zearlier.B1 = true := by kernel_rfl
def impl_zearlier.T2 : Bool × List (List Nat × List Nat) := (true, [([], []), ([0], [0]), ([], []), ([2], [2]), ([], []), ([4], [4]), ([3, 5], [3, 5]), ([6], [6]), ([7], [7]), ([1, 8], [1, 8]), ([], []), ([10], [10]), ([], []), ([12], [12]), ([], []), ([14], [14]), ([13, 15], [13, 15]), ([16], [16]), ([17], [17]), ([11, 18], [11, 18]), ([9, 0, 1, 2, 3, 4, 5, 6, 7, 8, 9], [9]), ([19, 20, 0, 1, 2, 3, 4, 5, 6, 7, 8, 9, 10, 11, 12, 13, 14, 15, 16, 17, 18, 19, 20], [19])])
def impl_zearlier.B2 : List Nat := [0, 1, 0, 4, 0, 16, 60, 124, 252, 511, 0, 1024, 0, 4096, 0, 16384, 61440, 126976, 258048, 523264, 1023, 2097151]
theorem impl_zearlier.tab2 : rtab .any (opsOf Try.f172 2) = impl_zearlier.T2 := by kernel_rfl
theorem impl_zearlier.bits2 : waitsOk impl_zearlier.T2.2 impl_zearlier.B2 = true := by kernel_rfl
set_option maxHeartbeats 8000000 in
set_option maxRecDepth 100000 in
theorem impl_zearlier.calls (A0_0 : Option Addr) (c0_0 : Nat) (l0_0 : List (S186)) (A0_1 : Option Addr) (c0_1 : Nat) (l0_1 : List (S185)) (a1 : Int) (a2 : Int) (r : Bool) (w : World) (hr0_0 : Kd.C k186 w A0_0 l0_0.length l0_0) (hc0_0 : l0_0.length ≤ c0_0) (hr0_1 : Kd.C k185 w A0_1 l0_1.length l0_1) (hc0_1 : l0_1.length ≤ c0_1) (h : impl_zearlier.f l0_0 l0_1 a1 a2 = some r) :
    Calls Try.prog 172 #[.agg #[.slice A0_0 l0_0.length c0_0, .slice A0_1 l0_1.length c0_1], .int .i64 a1, .int .i64 a2] w fun e w' => e = .returned (.bool r) ∧ Below w.heap.size w w' := by
  have hu76 := Try.underlying76
  have hu185 := Try.underlying185
  have HR0_0 := Aside0.mk hr0_0
  have HC0_0 := Aside0.mk hc0_0
  clear hr0_0 hc0_0
  have HR0_1 := Aside0.mk hr0_1
  have HC0_1 := Aside0.mk hc0_1
  clear hr0_1 hc0_1
  have HB := Aside0.mk (Below.refl w.heap.size w)
  have H : (if 0 ≤ a1 then (if a1 < (l0_1.length : Int) then (if 0 ≤ a2 then (if a2 < (l0_1.length : Int) then (if 0 ≤ ((rd_T185 l0_1 a2).f0) then (if ((rd_T185 l0_1 a2).f0) < (l0_0.length : Int) then (if 0 ≤ ((rd_T185 l0_1 a1).f0) then (if ((rd_T185 l0_1 a1).f0) < (l0_0.length : Int) then (if (wrap64 (((rd_T185 l0_1 a1).f1) * ((rd_T186 l0_0 ((rd_T185 l0_1 a2).f0)).f1))) = (wrap64 (((rd_T185 l0_1 a2).f1) * ((rd_T186 l0_0 ((rd_T185 l0_1 a1).f0)).f1))) then (if ((rd_T185 l0_1 a1).f0) = ((rd_T185 l0_1 a2).f0) then (some (decide (a1 < a2))) else (some (decide (((rd_T185 l0_1 a1).f0) < ((rd_T185 l0_1 a2).f0))))) else (some (decide ((wrap64 (((rd_T185 l0_1 a1).f1) * ((rd_T186 l0_0 ((rd_T185 l0_1 a2).f0)).f1))) < (wrap64 (((rd_T185 l0_1 a2).f1) * ((rd_T186 l0_0 ((rd_T185 l0_1 a1).f0)).f1))))))) else (none)) else (none)) else (none)) else (none)) else (none)) else (none)) else (none)) else (none)) = some r := h
  clear h
  by_cases c4 : 0 ≤ a1
  rotate_left
  · rw [if_neg c4] at H
    exact absurd H (by simp)
  rw [if_pos c4] at H
  have c4b0 : decide (0 ≤ a1) = true := decide_eq_true c4
  clear c4
  by_cases c5 : a1 < (l0_1.length : Int)
  rotate_left
  · rw [if_neg c5] at H
    exact absurd H (by simp)
  rw [if_pos c5] at H
  have c5b0 : decide (a1 < (l0_1.length : Int)) = true := decide_eq_true c5
  clear c5
  by_cases c6 : 0 ≤ a2
  rotate_left
  · rw [if_neg c6] at H
    exact absurd H (by simp)
  rw [if_pos c6] at H
  have c6b0 : decide (0 ≤ a2) = true := decide_eq_true c6
  clear c6
  by_cases c7 : a2 < (l0_1.length : Int)
  rotate_left
  · rw [if_neg c7] at H
    exact absurd H (by simp)
  rw [if_pos c7] at H
  have c7b0 : decide (a2 < (l0_1.length : Int)) = true := decide_eq_true c7
  clear c7
  by_cases c8 : 0 ≤ ((rd_T185 l0_1 a2).f0)
  rotate_left
  · rw [if_neg c8] at H
    exact absurd H (by simp)
  rw [if_pos c8] at H
  have c8b0 : decide (0 ≤ ((rd_T185 l0_1 a2).f0)) = true := decide_eq_true c8
  clear c8
  by_cases c9 : ((rd_T185 l0_1 a2).f0) < (l0_0.length : Int)
  rotate_left
  · rw [if_neg c9] at H
    exact absurd H (by simp)
  rw [if_pos c9] at H
  have c9b0 : decide (((rd_T185 l0_1 a2).f0) < (l0_0.length : Int)) = true := decide_eq_true c9
  clear c9
  by_cases c10 : 0 ≤ ((rd_T185 l0_1 a1).f0)
  rotate_left
  · rw [if_neg c10] at H
    exact absurd H (by simp)
  rw [if_pos c10] at H
  have c10b0 : decide (0 ≤ ((rd_T185 l0_1 a1).f0)) = true := decide_eq_true c10
  clear c10
  by_cases c11 : ((rd_T185 l0_1 a1).f0) < (l0_0.length : Int)
  rotate_left
  · rw [if_neg c11] at H
    exact absurd H (by simp)
  rw [if_pos c11] at H
  have c11b0 : decide (((rd_T185 l0_1 a1).f0) < (l0_0.length : Int)) = true := decide_eq_true c11
  clear c11
  by_cases c12 : (wrap64 (((rd_T185 l0_1 a1).f1) * ((rd_T186 l0_0 ((rd_T185 l0_1 a2).f0)).f1))) = (wrap64 (((rd_T185 l0_1 a2).f1) * ((rd_T186 l0_0 ((rd_T185 l0_1 a1).f0)).f1)))
  rw [if_pos c12] at H
  have c12b0 : ((wrap64 (((rd_T185 l0_1 a1).f1) * ((rd_T186 l0_0 ((rd_T185 l0_1 a2).f0)).f1))) == (wrap64 (((rd_T185 l0_1 a2).f1) * ((rd_T186 l0_0 ((rd_T185 l0_1 a1).f0)).f1)))) = true := beq_iff_eq.mpr c12
  have c12b1 : ((wrap64 (((rd_T185 l0_1 a1).f1) * ((rd_T186 l0_0 ((rd_T185 l0_1 a2).f0)).f1))) != (wrap64 (((rd_T185 l0_1 a2).f1) * ((rd_T186 l0_0 ((rd_T185 l0_1 a1).f0)).f1)))) = false := bne_eq_false_iff_eq.mpr c12
  clear c12
  by_cases c13 : ((rd_T185 l0_1 a1).f0) = ((rd_T185 l0_1 a2).f0)
  rw [if_pos c13] at H
  have c13b0 : (((rd_T185 l0_1 a1).f0) == ((rd_T185 l0_1 a2).f0)) = true := beq_iff_eq.mpr c13
  have c13b1 : (((rd_T185 l0_1 a1).f0) != ((rd_T185 l0_1 a2).f0)) = false := bne_eq_false_iff_eq.mpr c13
  clear c13
  obtain rfl := Option.some.inj H
  rotate_left
  rw [if_neg c13] at H
  have c13b0 : (((rd_T185 l0_1 a1).f0) == ((rd_T185 l0_1 a2).f0)) = false := beq_eq_false_iff_ne.mpr c13
  have c13b1 : (((rd_T185 l0_1 a1).f0) != ((rd_T185 l0_1 a2).f0)) = true := bne_iff_ne.mpr c13
  obtain rfl := Option.some.inj H
  rotate_left
  rw [if_neg c12] at H
  have c12b0 : ((wrap64 (((rd_T185 l0_1 a1).f1) * ((rd_T186 l0_0 ((rd_T185 l0_1 a2).f0)).f1))) == (wrap64 (((rd_T185 l0_1 a2).f1) * ((rd_T186 l0_0 ((rd_T185 l0_1 a1).f0)).f1)))) = false := beq_eq_false_iff_ne.mpr c12
  have c12b1 : ((wrap64 (((rd_T185 l0_1 a1).f1) * ((rd_T186 l0_0 ((rd_T185 l0_1 a2).f0)).f1))) != (wrap64 (((rd_T185 l0_1 a2).f1) * ((rd_T186 l0_0 ((rd_T185 l0_1 a1).f0)).f1)))) = true := bne_iff_ne.mpr c12
  obtain rfl := Option.some.inj H
  all_goals
    go_enter Try.func172, Try.ntmps172
    try go_wp2_with (first | ((with_reducible refine gate_dst (N := 3) rfl ?_); refine box_event ?hg (N := 3) ?hd (cs := #[.slice A0_0 l0_0.length c0_0, .slice A0_1 l0_1.length c0_1]) (t := 76) ?hr ?_; (case hd => rfl); (case hg => rfl); (case hr => first | (go_simp; done) | (go_simp; rfl)); intro gb206 hg w14 hbox hb; have n0_ := Aside0.mk (below_step (by repeat (first | (with_reducible first | exact HB.out | apply below_alloc | apply pw_below_drewN | apply below_drew1) | exact HB.out)) hb); have n1_ := Aside0.mk (hbox); have n2_ := Aside0.mk ((by rw [hg]; exact (below_size (by repeat (first | (with_reducible first | exact HB.out | apply below_alloc | apply pw_below_drewN | apply below_drew1) | exact HB.out))) : w.heap.size ≤ gb206)); have n3_ := n2_; clear HB; have HB := n0_; have BK206 := n1_; have GW206 := n2_; have GE206 := n3_; clear n0_ n1_ n2_ n3_; clear hb hbox hg))
    have n0_ := Aside0.mk (blk_drew BK206.out)
    have n1_ := Aside0.mk (below_drew1 HB.out)
    clear BK206
    clear HB
    have BK206 := n0_
    have HB := n1_
    clear n0_ n1_
    have p207 : 0 ≤ (a1 : Int) := of_decide_eq_true (by first | (with_reducible assumption) | assumption)
    have q207 : a1 < (l0_1.length : Int) := of_decide_eq_true (by first | (with_reducible assumption) | assumption)
    obtain ⟨ad207, A207_4, c207_4, e207, hx207_0, hx207_1, hx207_2, hx207_3, hx207_4, hl207_4, hi207_4⟩ := at_T185 HR0_1.out a1 p207 q207
    have hw207_4 := hx207_4
    have hw207_3 := hx207_3
    have hw207_2 := hx207_2
    have hw207_1 := hx207_1
    have hw207_0 := hx207_0
    cases e207
    replace hx207_0 := (HB.out.cell (World.block_lt_of_cell? w _ hx207_0)).trans hx207_0
    replace hx207_1 := (HB.out.cell (World.block_lt_of_cell? w _ hx207_1)).trans hx207_1
    replace hx207_2 := (HB.out.cell (World.block_lt_of_cell? w _ hx207_2)).trans hx207_2
    replace hx207_3 := (HB.out.cell (World.block_lt_of_cell? w _ hx207_3)).trans hx207_3
    replace hx207_4 := (HB.out.cell (World.block_lt_of_cell? w _ hx207_4)).trans hx207_4
    have HR207_4 := Aside0.mk hi207_4
    have HC207_4 := Aside0.mk hl207_4
    clear hi207_4 hl207_4
    replace p207 := eq_true p207
    replace q207 := eq_true q207
    have p208 : 0 ≤ (a2 : Int) := of_decide_eq_true (by first | (with_reducible assumption) | assumption)
    have q208 : a2 < (l0_1.length : Int) := of_decide_eq_true (by first | (with_reducible assumption) | assumption)
    obtain ⟨ad208, A208_4, c208_4, e208, hx208_0, hx208_1, hx208_2, hx208_3, hx208_4, hl208_4, hi208_4⟩ := at_T185 HR0_1.out a2 p208 q208
    have hw208_4 := hx208_4
    have hw208_3 := hx208_3
    have hw208_2 := hx208_2
    have hw208_1 := hx208_1
    have hw208_0 := hx208_0
    obtain rfl : ad207 = ad208 := (by injection e208)
    replace hx208_0 := (HB.out.cell (World.block_lt_of_cell? w _ hx208_0)).trans hx208_0
    replace hx208_1 := (HB.out.cell (World.block_lt_of_cell? w _ hx208_1)).trans hx208_1
    replace hx208_2 := (HB.out.cell (World.block_lt_of_cell? w _ hx208_2)).trans hx208_2
    replace hx208_3 := (HB.out.cell (World.block_lt_of_cell? w _ hx208_3)).trans hx208_3
    replace hx208_4 := (HB.out.cell (World.block_lt_of_cell? w _ hx208_4)).trans hx208_4
    have HR208_4 := Aside0.mk hi208_4
    have HC208_4 := Aside0.mk hl208_4
    clear hi208_4 hl208_4
    replace p208 := eq_true p208
    replace q208 := eq_true q208
    refine start_ (n := 14) (S := fun w' => w'.cell? ⟨gb206, 0, none⟩ = some (.slice A0_0 l0_0.length c0_0) ∧ w'.cell? ⟨gb206, 1, none⟩ = some (.slice (some ad207) l0_1.length c0_1) ∧ w'.cell? (ad207.add ((a1).toNat * 5)) = some (.int .i64 ((rd_T185 l0_1 a1).f0)) ∧ w'.cell? ⟨(ad207.add ((a1).toNat * 5)).block, (ad207.add ((a1).toNat * 5)).off + 1, none⟩ = some (.int .i64 ((rd_T185 l0_1 a1).f1)) ∧ w'.cell? ⟨(ad207.add ((a1).toNat * 5)).block, (ad207.add ((a1).toNat * 5)).off + 2, none⟩ = some (.int .i64 ((rd_T185 l0_1 a1).f2)) ∧ w'.cell? ⟨(ad207.add ((a1).toNat * 5)).block, (ad207.add ((a1).toNat * 5)).off + 3, none⟩ = some (.bool ((rd_T185 l0_1 a1).f3)) ∧ w'.cell? ⟨(ad207.add ((a1).toNat * 5)).block, (ad207.add ((a1).toNat * 5)).off + 4, none⟩ = some (.slice A207_4 ((rd_T185 l0_1 a1).f4).length c207_4) ∧ w'.cell? (ad207.add ((a2).toNat * 5)) = some (.int .i64 ((rd_T185 l0_1 a2).f0)) ∧ w'.cell? ⟨(ad207.add ((a2).toNat * 5)).block, (ad207.add ((a2).toNat * 5)).off + 1, none⟩ = some (.int .i64 ((rd_T185 l0_1 a2).f1)) ∧ w'.cell? ⟨(ad207.add ((a2).toNat * 5)).block, (ad207.add ((a2).toNat * 5)).off + 2, none⟩ = some (.int .i64 ((rd_T185 l0_1 a2).f2)) ∧ w'.cell? ⟨(ad207.add ((a2).toNat * 5)).block, (ad207.add ((a2).toNat * 5)).off + 3, none⟩ = some (.bool ((rd_T185 l0_1 a2).f3)) ∧ w'.cell? ⟨(ad207.add ((a2).toNat * 5)).block, (ad207.add ((a2).toNat * 5)).off + 4, none⟩ = some (.slice A208_4 ((rd_T185 l0_1 a2).f4).length c208_4)) (ds := []) #[false, false, false, false, false, false, false, false, false, false, false, false, false, false] (by kernel_rfl) rfl rfl ⟨(blk_cell BK206.out 0).trans rfl, (blk_cell BK206.out 1).trans rfl, ((HB.out.cell (World.block_lt_of_cell? w _ hw207_0)).trans hw207_0), ((HB.out.cell (World.block_lt_of_cell? w _ hw207_1)).trans hw207_1), ((HB.out.cell (World.block_lt_of_cell? w _ hw207_2)).trans hw207_2), ((HB.out.cell (World.block_lt_of_cell? w _ hw207_3)).trans hw207_3), ((HB.out.cell (World.block_lt_of_cell? w _ hw207_4)).trans hw207_4), ((HB.out.cell (World.block_lt_of_cell? w _ hw208_0)).trans hw208_0), ((HB.out.cell (World.block_lt_of_cell? w _ hw208_1)).trans hw208_1), ((HB.out.cell (World.block_lt_of_cell? w _ hw208_2)).trans hw208_2), ((HB.out.cell (World.block_lt_of_cell? w _ hw208_3)).trans hw208_3), ((HB.out.cell (World.block_lt_of_cell? w _ hw208_4)).trans hw208_4)⟩ (fun hHeld => ?_); refine with_tabW impl_zearlier.tab1 impl_zearlier.bits1 (fun HT_ HW_ => ?_)
    generalize w14.drew = w15 at BK206 HB HR207_4 HR208_4 hx207_0 hx207_1 hx207_2 hx207_3 hx207_4 hx208_0 hx208_1 hx208_2 hx208_3 hx208_4 hHeld ⊢
    refine pure_ (i := 0) (N := some 11) (v := ?_) (a' := ?_) #[true, false, false, false, false, false, false, false, false, false, false, false, false, false] rfl rfl (any_of HT_.out (by kernel_rfl)) (fun _ _ _ h => h) (Or.inl ⟨by rfl, ?_⟩) ?_ ?_
    rotate_left
    · intro w'
      go_simp
      with_reducible rfl
    rotate_left
    · simp only [Act.put, List.setIfInBounds_toArray, List.set_cons_zero, List.set_cons_succ, i64_w, i32_w]
      rfl
    refine pure_ (i := 2) (N := some 13) (v := ?_) (a' := ?_) #[true, false, true, false, false, false, false, false, false, false, false, false, false, false] rfl rfl (any_of HT_.out (by kernel_rfl)) (fun _ _ _ h => h) (Or.inl ⟨by rfl, ?_⟩) ?_ ?_
    rotate_left
    · intro w'
      go_simp
      with_reducible rfl
    rotate_left
    · simp only [Act.put, List.setIfInBounds_toArray, List.set_cons_zero, List.set_cons_succ, i64_w, i32_w]
      rfl
    refine pure_ (i := 5) (N := some 16) (v := ?_) (a' := ?_) #[true, false, true, false, false, true, false, false, false, false, false, false, false, false] rfl rfl (any_of HT_.out (by kernel_rfl)) (fun _ _ _ h => h) (Or.inl ⟨by rfl, ?_⟩) ?_ ?_
    rotate_left
    · intro w'
      go_simp
      with_reducible rfl
    rotate_left
    · simp only [Act.put, List.setIfInBounds_toArray, List.set_cons_zero, List.set_cons_succ, i64_w, i32_w]
      rfl
    refine pure_ (i := 7) (N := some 18) (v := ?_) (a' := ?_) #[true, false, true, false, false, true, false, true, false, false, false, false, false, false] rfl rfl (any_of HT_.out (by kernel_rfl)) (fun _ _ _ h => h) (Or.inl ⟨by rfl, ?_⟩) ?_ ?_
    rotate_left
    · intro w'
      go_simp
      with_reducible rfl
    rotate_left
    · simp only [Act.put, List.setIfInBounds_toArray, List.set_cons_zero, List.set_cons_succ, i64_w, i32_w]
      rfl
    refine take_ (i := 1) (N := some 12) (v := ?_) (a' := ?_) #[true, true, true, false, false, true, false, true, false, false, false, false, false, false] rfl rfl (take_ofW HT_.out HW_.out (by kernel_rfl)) (fun _ _ _ h => h) (Or.inl ⟨by rfl, ?_⟩) hHeld ?_ ?_
    rotate_left
    · rintro w' ⟨s0, s1, s2, s3, s4, s5, s6, s7, s8, s9, s10, s11⟩
      go_simp
      with_reducible rfl
    rotate_left
    · simp only [Act.put, List.setIfInBounds_toArray, List.set_cons_zero, List.set_cons_succ, i64_w, i32_w]
      rfl
    refine pure_ (i := 3) (N := some 14) (v := ?_) (a' := ?_) #[true, true, true, true, false, true, false, true, false, false, false, false, false, false] rfl rfl (any_of HT_.out (by kernel_rfl)) (fun _ _ _ h => h) (Or.inl ⟨by rfl, ?_⟩) ?_ ?_
    rotate_left
    · intro w'
      go_simp
      with_reducible rfl
    rotate_left
    · simp only [Act.put, List.setIfInBounds_toArray, List.set_cons_zero, List.set_cons_succ, i64_w, i32_w]
      rfl
    refine take_ (i := 4) (N := some 15) (v := ?_) (a' := ?_) #[true, true, true, true, true, true, false, true, false, false, false, false, false, false] rfl rfl (take_ofW HT_.out HW_.out (by kernel_rfl)) (fun _ _ _ h => h) (Or.inl ⟨by rfl, ?_⟩) hHeld ?_ ?_
    rotate_left
    · rintro w' ⟨s0, s1, s2, s3, s4, s5, s6, s7, s8, s9, s10, s11⟩
      go_simp
      with_reducible rfl
    rotate_left
    · simp only [Act.put, List.setIfInBounds_toArray, List.set_cons_zero, List.set_cons_succ, i64_w, i32_w]
      rfl
    refine take_ (i := 6) (N := some 17) (v := ?_) (a' := ?_) #[true, true, true, true, true, true, true, true, false, false, false, false, false, false] rfl rfl (take_ofW HT_.out HW_.out (by kernel_rfl)) (fun _ _ _ h => h) (Or.inl ⟨by rfl, ?_⟩) hHeld ?_ ?_
    rotate_left
    · rintro w' ⟨s0, s1, s2, s3, s4, s5, s6, s7, s8, s9, s10, s11⟩
      go_simp
      with_reducible rfl
    rotate_left
    · simp only [Act.put, List.setIfInBounds_toArray, List.set_cons_zero, List.set_cons_succ, i64_w, i32_w]
      rfl
    refine pure_ (i := 8) (N := some 19) (v := ?_) (a' := ?_) #[true, true, true, true, true, true, true, true, true, false, false, false, false, false] rfl rfl (any_of HT_.out (by kernel_rfl)) (fun _ _ _ h => h) (Or.inl ⟨by rfl, ?_⟩) ?_ ?_
    rotate_left
    · intro w'
      go_simp
      with_reducible rfl
    rotate_left
    · simp only [Act.put, List.setIfInBounds_toArray, List.set_cons_zero, List.set_cons_succ, i64_w, i32_w]
      rfl
    refine take_ (i := 9) (N := some 20) (v := ?_) (a' := ?_) #[true, true, true, true, true, true, true, true, true, true, false, false, false, false] rfl rfl (take_ofW HT_.out HW_.out (by kernel_rfl)) (fun _ _ _ h => h) (Or.inl ⟨by rfl, ?_⟩) hHeld ?_ ?_
    rotate_left
    · rintro w' ⟨s0, s1, s2, s3, s4, s5, s6, s7, s8, s9, s10, s11⟩
      go_simp
      with_reducible rfl
    rotate_left
    · simp only [Act.put, List.setIfInBounds_toArray, List.set_cons_zero, List.set_cons_succ, i64_w, i32_w]
      rfl
    refine join_ (σ := Nat × Nat) 2 #[true, true, true, true, true, true, true, true, true, true, true, true, false, false] (fun s_ => [(7, .pointer (some ⟨s_.1, 0, none⟩)), (8, .pointer (some ⟨s_.2, 0, none⟩))]) (fun s_ w' => (w'.cell? ⟨gb206, 0, none⟩ = some (.slice A0_0 l0_0.length c0_0) ∧ w'.cell? ⟨gb206, 1, none⟩ = some (.slice (some ad207) l0_1.length c0_1) ∧ w'.cell? (ad207.add ((a1).toNat * 5)) = some (.int .i64 ((rd_T185 l0_1 a1).f0)) ∧ w'.cell? ⟨(ad207.add ((a1).toNat * 5)).block, (ad207.add ((a1).toNat * 5)).off + 1, none⟩ = some (.int .i64 ((rd_T185 l0_1 a1).f1)) ∧ w'.cell? ⟨(ad207.add ((a1).toNat * 5)).block, (ad207.add ((a1).toNat * 5)).off + 2, none⟩ = some (.int .i64 ((rd_T185 l0_1 a1).f2)) ∧ w'.cell? ⟨(ad207.add ((a1).toNat * 5)).block, (ad207.add ((a1).toNat * 5)).off + 3, none⟩ = some (.bool ((rd_T185 l0_1 a1).f3)) ∧ w'.cell? ⟨(ad207.add ((a1).toNat * 5)).block, (ad207.add ((a1).toNat * 5)).off + 4, none⟩ = some (.slice A207_4 ((rd_T185 l0_1 a1).f4).length c207_4) ∧ w'.cell? (ad207.add ((a2).toNat * 5)) = some (.int .i64 ((rd_T185 l0_1 a2).f0)) ∧ w'.cell? ⟨(ad207.add ((a2).toNat * 5)).block, (ad207.add ((a2).toNat * 5)).off + 1, none⟩ = some (.int .i64 ((rd_T185 l0_1 a2).f1)) ∧ w'.cell? ⟨(ad207.add ((a2).toNat * 5)).block, (ad207.add ((a2).toNat * 5)).off + 2, none⟩ = some (.int .i64 ((rd_T185 l0_1 a2).f2)) ∧ w'.cell? ⟨(ad207.add ((a2).toNat * 5)).block, (ad207.add ((a2).toNat * 5)).off + 3, none⟩ = some (.bool ((rd_T185 l0_1 a2).f3)) ∧ w'.cell? ⟨(ad207.add ((a2).toNat * 5)).block, (ad207.add ((a2).toNat * 5)).off + 4, none⟩ = some (.slice A208_4 ((rd_T185 l0_1 a2).f4).length c208_4)) ∧ (w'.heap[gb206]? = some (.cells #[.slice A0_0 l0_0.length c0_0, .slice (some ad207) l0_1.length c0_1] 76 (0, 0))) ∧ (w'.heap[s_.1]? = some (.cells #[.int .i64 0, .int .i64 0, .int .i64 0, .bool false, .slice none 0 0] 185 (0, 0))) ∧ (w'.heap[s_.2]? = some (.cells #[.int .i64 0, .int .i64 0, .int .i64 0, .bool false, .slice none 0 0] 185 (0, 0))) ∧ (w.heap.size ≤ s_.1) ∧ (w.heap.size ≤ s_.1) ∧ (gb206 ≠ s_.1) ∧ (s_.1 ≠ gb206) ∧ (s_.2 ≠ s_.1) ∧ (s_.1 ≠ s_.2) ∧ (w.heap.size ≤ s_.2) ∧ (w.heap.size ≤ s_.2) ∧ (gb206 ≠ s_.2) ∧ (s_.2 ≠ gb206) ∧ (Below w.heap.size w w')) ?_ ?_
    rotate_left
    · intro hCont
      refine two_ (i := 10) (j := 11) (Ni := some 7) (Nj := some 8) #[true, true, true, true, true, true, true, true, true, true, true, false, false, false] #[true, true, true, true, true, true, true, true, true, true, false, true, false, false] rfl rfl rfl rfl (two_of HT_.out (by kernel_rfl)) (by decide) (by decide) (fun K hK => ?_) (fun K hK => ?_)
      · skip
        refine box_step ?hg (N := 7) ?hd (cs := #[.int .i64 0, .int .i64 0, .int .i64 0, .bool false, .slice none 0 0]) (t := 185) ?hr ?_; (case hd => rfl); (case hg => rfl); (case hr => first | (go_simp; done) | (go_simp; rfl))
        intro gb209 hg w16 hbox hb
        have n0_ := Aside0.mk (blk_below (g := gb206) (o := .cells #[.slice A0_0 l0_0.length c0_0, .slice (some ad207) l0_1.length c0_1] 76 (0, 0)) (by (with_reducible repeat (first | refine blk_drewN ?_ _ | refine blk_drew ?_ | refine blk_alloc ?_ _)); exact BK206.out) hb)
        have n1_ := Aside0.mk (below_step (by repeat (first | (with_reducible first | exact HB.out | apply below_alloc | apply pw_below_drewN | apply below_drew1 | refine below_set ?_ GE206.out) | exact HB.out)) hb)
        have n2_ := Aside0.mk (hbox)
        have n3_ := Aside0.mk ((by rw [hg]; exact (below_size (by repeat (first | (with_reducible first | exact HB.out | apply below_alloc | apply pw_below_drewN | apply below_drew1 | refine below_set ?_ GE206.out) | exact HB.out))) : w.heap.size ≤ gb209))
        have n4_ := Aside0.mk ((by rw [hg]; exact (below_size (by repeat (first | (with_reducible first | exact HB.out | apply below_alloc | apply pw_below_drewN | apply below_drew1 | refine below_set ?_ GE206.out) | exact HB.out))) : w.heap.size ≤ gb209))
        have n5_ := Aside0.mk ((by rw [hg]; exact Nat.ne_of_lt (blk_lt (g := gb206) (o := .cells #[.slice A0_0 l0_0.length c0_0, .slice (some ad207) l0_1.length c0_1] 76 (0, 0)) (by (with_reducible repeat (first | refine blk_drewN ?_ _ | refine blk_drew ?_ | refine blk_alloc ?_ _)); exact BK206.out)) : gb206 ≠ gb209))
        have n6_ := Aside0.mk ((by rw [hg]; exact Nat.ne_of_gt (blk_lt (g := gb206) (o := .cells #[.slice A0_0 l0_0.length c0_0, .slice (some ad207) l0_1.length c0_1] 76 (0, 0)) (by (with_reducible repeat (first | refine blk_drewN ?_ _ | refine blk_drew ?_ | refine blk_alloc ?_ _)); exact BK206.out)) : gb209 ≠ gb206))
        clear BK206
        clear HB
        have BK206 := n0_
        have HB := n1_
        have BK209 := n2_
        have GW209 := n3_
        have GE209 := n4_
        have NB206_209 := n5_
        have NB209_206 := n6_
        clear n0_ n1_ n2_ n3_ n4_ n5_ n6_
        clear hb hbox hg
        refine hK.out _ _ ⟨(blk_cell BK206.out 0).trans rfl, (blk_cell BK206.out 1).trans rfl, ((HB.out.cell (World.block_lt_of_cell? w _ hw207_0)).trans hw207_0), ((HB.out.cell (World.block_lt_of_cell? w _ hw207_1)).trans hw207_1), ((HB.out.cell (World.block_lt_of_cell? w _ hw207_2)).trans hw207_2), ((HB.out.cell (World.block_lt_of_cell? w _ hw207_3)).trans hw207_3), ((HB.out.cell (World.block_lt_of_cell? w _ hw207_4)).trans hw207_4), ((HB.out.cell (World.block_lt_of_cell? w _ hw208_0)).trans hw208_0), ((HB.out.cell (World.block_lt_of_cell? w _ hw208_1)).trans hw208_1), ((HB.out.cell (World.block_lt_of_cell? w _ hw208_2)).trans hw208_2), ((HB.out.cell (World.block_lt_of_cell? w _ hw208_3)).trans hw208_3), ((HB.out.cell (World.block_lt_of_cell? w _ hw208_4)).trans hw208_4)⟩ (fun hHeld => ?_)
        clear hK K
        refine norm_ (a' := ?_) ?_ ?_
        rotate_left
        · show Act.put _ (some 7) _ = _
          simp only [Act.put, List.setIfInBounds_toArray, List.set_cons_zero, List.set_cons_succ, i64_w, i32_w]
          rfl
        refine one_ (i := 11) (N := some 8) #[true, true, true, true, true, true, true, true, true, true, true, true, false, false] rfl rfl (one_of HT_.out (by kernel_rfl)) (by decide) (fun K hK => ?_)
        refine box_step ?hg (N := 8) ?hd (cs := #[.int .i64 0, .int .i64 0, .int .i64 0, .bool false, .slice none 0 0]) (t := 185) ?hr ?_; (case hd => rfl); (case hg => rfl); (case hr => first | (go_simp; done) | (go_simp; rfl))
        intro gb210 hg w17 hbox hb
        have n0_ := Aside0.mk (blk_below (g := gb206) (o := .cells #[.slice A0_0 l0_0.length c0_0, .slice (some ad207) l0_1.length c0_1] 76 (0, 0)) (by (with_reducible repeat (first | refine blk_drewN ?_ _ | refine blk_drew ?_ | refine blk_alloc ?_ _)); exact BK206.out) hb)
        have n1_ := Aside0.mk (blk_below (g := gb209) (o := .cells #[.int .i64 0, .int .i64 0, .int .i64 0, .bool false, .slice none 0 0] 185 (0, 0)) (by (with_reducible repeat (first | refine blk_drewN ?_ _ | refine blk_drew ?_ | refine blk_alloc ?_ _)); exact BK209.out) hb)
        have n2_ := Aside0.mk (below_step (by repeat (first | (with_reducible first | exact HB.out | apply below_alloc | apply pw_below_drewN | apply below_drew1 | refine below_set ?_ GE206.out | refine below_set ?_ GE209.out) | exact HB.out)) hb)
        have n3_ := Aside0.mk (hbox)
        have n4_ := Aside0.mk ((by rw [hg]; exact (below_size (by repeat (first | (with_reducible first | exact HB.out | apply below_alloc | apply pw_below_drewN | apply below_drew1 | refine below_set ?_ GE206.out | refine below_set ?_ GE209.out) | exact HB.out))) : w.heap.size ≤ gb210))
        have n5_ := Aside0.mk ((by rw [hg]; exact (below_size (by repeat (first | (with_reducible first | exact HB.out | apply below_alloc | apply pw_below_drewN | apply below_drew1 | refine below_set ?_ GE206.out | refine below_set ?_ GE209.out) | exact HB.out))) : w.heap.size ≤ gb210))
        have n6_ := Aside0.mk ((by rw [hg]; exact Nat.ne_of_lt (blk_lt (g := gb206) (o := .cells #[.slice A0_0 l0_0.length c0_0, .slice (some ad207) l0_1.length c0_1] 76 (0, 0)) (by (with_reducible repeat (first | refine blk_drewN ?_ _ | refine blk_drew ?_ | refine blk_alloc ?_ _)); exact BK206.out)) : gb206 ≠ gb210))
        have n7_ := Aside0.mk ((by rw [hg]; exact Nat.ne_of_gt (blk_lt (g := gb206) (o := .cells #[.slice A0_0 l0_0.length c0_0, .slice (some ad207) l0_1.length c0_1] 76 (0, 0)) (by (with_reducible repeat (first | refine blk_drewN ?_ _ | refine blk_drew ?_ | refine blk_alloc ?_ _)); exact BK206.out)) : gb210 ≠ gb206))
        have n8_ := Aside0.mk ((by rw [hg]; exact Nat.ne_of_lt (blk_lt (g := gb209) (o := .cells #[.int .i64 0, .int .i64 0, .int .i64 0, .bool false, .slice none 0 0] 185 (0, 0)) (by (with_reducible repeat (first | refine blk_drewN ?_ _ | refine blk_drew ?_ | refine blk_alloc ?_ _)); exact BK209.out)) : gb209 ≠ gb210))
        have n9_ := Aside0.mk ((by rw [hg]; exact Nat.ne_of_gt (blk_lt (g := gb209) (o := .cells #[.int .i64 0, .int .i64 0, .int .i64 0, .bool false, .slice none 0 0] 185 (0, 0)) (by (with_reducible repeat (first | refine blk_drewN ?_ _ | refine blk_drew ?_ | refine blk_alloc ?_ _)); exact BK209.out)) : gb210 ≠ gb209))
        clear BK206
        clear BK209
        clear HB
        have BK206 := n0_
        have BK209 := n1_
        have HB := n2_
        have BK210 := n3_
        have GW210 := n4_
        have GE210 := n5_
        have NB206_210 := n6_
        have NB210_206 := n7_
        have NB209_210 := n8_
        have NB210_209 := n9_
        clear n0_ n1_ n2_ n3_ n4_ n5_ n6_ n7_ n8_ n9_
        clear hb hbox hg
        refine hK.out _ _ ⟨(blk_cell BK206.out 0).trans rfl, (blk_cell BK206.out 1).trans rfl, ((HB.out.cell (World.block_lt_of_cell? w _ hw207_0)).trans hw207_0), ((HB.out.cell (World.block_lt_of_cell? w _ hw207_1)).trans hw207_1), ((HB.out.cell (World.block_lt_of_cell? w _ hw207_2)).trans hw207_2), ((HB.out.cell (World.block_lt_of_cell? w _ hw207_3)).trans hw207_3), ((HB.out.cell (World.block_lt_of_cell? w _ hw207_4)).trans hw207_4), ((HB.out.cell (World.block_lt_of_cell? w _ hw208_0)).trans hw208_0), ((HB.out.cell (World.block_lt_of_cell? w _ hw208_1)).trans hw208_1), ((HB.out.cell (World.block_lt_of_cell? w _ hw208_2)).trans hw208_2), ((HB.out.cell (World.block_lt_of_cell? w _ hw208_3)).trans hw208_3), ((HB.out.cell (World.block_lt_of_cell? w _ hw208_4)).trans hw208_4)⟩ (fun hHeld => ?_)
        clear hK K
        refine norm_ (a' := ?_) ?_ ?_
        rotate_left
        · show Act.put _ (some 8) _ = _
          simp only [Act.put, List.setIfInBounds_toArray, List.set_cons_zero, List.set_cons_succ, i64_w, i32_w]
          rfl
        exact norm_ (by simp only [putAll, Act.put, List.setIfInBounds_toArray, List.set_cons_zero, List.set_cons_succ]) (hCont (gb209, gb210) _ ⟨hHeld, (by (with_reducible repeat (first | refine blk_drewN ?_ _ | refine blk_drew ?_ | refine blk_alloc ?_ _)); exact BK206.out), (by (with_reducible repeat (first | refine blk_drewN ?_ _ | refine blk_drew ?_ | refine blk_alloc ?_ _)); exact BK209.out), (by (with_reducible repeat (first | refine blk_drewN ?_ _ | refine blk_drew ?_ | refine blk_alloc ?_ _)); exact BK210.out), GW209.out, GE209.out, NB206_209.out, NB209_206.out, NB210_209.out, NB209_210.out, GW210.out, GE210.out, NB206_210.out, NB210_206.out, (by repeat (first | (with_reducible first | exact HB.out | apply below_alloc | apply pw_below_drewN | apply below_drew1 | refine below_set ?_ GE206.out | refine below_set ?_ GE209.out | refine below_set ?_ GE210.out) | exact HB.out))⟩)
      · skip
        refine box_step ?hg (N := 8) ?hd (cs := #[.int .i64 0, .int .i64 0, .int .i64 0, .bool false, .slice none 0 0]) (t := 185) ?hr ?_; (case hd => rfl); (case hg => rfl); (case hr => first | (go_simp; done) | (go_simp; rfl))
        intro gb210 hg w16 hbox hb
        have n0_ := Aside0.mk (blk_below (g := gb206) (o := .cells #[.slice A0_0 l0_0.length c0_0, .slice (some ad207) l0_1.length c0_1] 76 (0, 0)) (by (with_reducible repeat (first | refine blk_drewN ?_ _ | refine blk_drew ?_ | refine blk_alloc ?_ _)); exact BK206.out) hb)
        have n1_ := Aside0.mk (below_step (by repeat (first | (with_reducible first | exact HB.out | apply below_alloc | apply pw_below_drewN | apply below_drew1 | refine below_set ?_ GE206.out) | exact HB.out)) hb)
        have n2_ := Aside0.mk (hbox)
        have n3_ := Aside0.mk ((by rw [hg]; exact (below_size (by repeat (first | (with_reducible first | exact HB.out | apply below_alloc | apply pw_below_drewN | apply below_drew1 | refine below_set ?_ GE206.out) | exact HB.out))) : w.heap.size ≤ gb210))
        have n4_ := Aside0.mk ((by rw [hg]; exact (below_size (by repeat (first | (with_reducible first | exact HB.out | apply below_alloc | apply pw_below_drewN | apply below_drew1 | refine below_set ?_ GE206.out) | exact HB.out))) : w.heap.size ≤ gb210))
        have n5_ := Aside0.mk ((by rw [hg]; exact Nat.ne_of_lt (blk_lt (g := gb206) (o := .cells #[.slice A0_0 l0_0.length c0_0, .slice (some ad207) l0_1.length c0_1] 76 (0, 0)) (by (with_reducible repeat (first | refine blk_drewN ?_ _ | refine blk_drew ?_ | refine blk_alloc ?_ _)); exact BK206.out)) : gb206 ≠ gb210))
        have n6_ := Aside0.mk ((by rw [hg]; exact Nat.ne_of_gt (blk_lt (g := gb206) (o := .cells #[.slice A0_0 l0_0.length c0_0, .slice (some ad207) l0_1.length c0_1] 76 (0, 0)) (by (with_reducible repeat (first | refine blk_drewN ?_ _ | refine blk_drew ?_ | refine blk_alloc ?_ _)); exact BK206.out)) : gb210 ≠ gb206))
        clear BK206
        clear HB
        have BK206 := n0_
        have HB := n1_
        have BK210 := n2_
        have GW210 := n3_
        have GE210 := n4_
        have NB206_210 := n5_
        have NB210_206 := n6_
        clear n0_ n1_ n2_ n3_ n4_ n5_ n6_
        clear hb hbox hg
        refine hK.out _ _ ⟨(blk_cell BK206.out 0).trans rfl, (blk_cell BK206.out 1).trans rfl, ((HB.out.cell (World.block_lt_of_cell? w _ hw207_0)).trans hw207_0), ((HB.out.cell (World.block_lt_of_cell? w _ hw207_1)).trans hw207_1), ((HB.out.cell (World.block_lt_of_cell? w _ hw207_2)).trans hw207_2), ((HB.out.cell (World.block_lt_of_cell? w _ hw207_3)).trans hw207_3), ((HB.out.cell (World.block_lt_of_cell? w _ hw207_4)).trans hw207_4), ((HB.out.cell (World.block_lt_of_cell? w _ hw208_0)).trans hw208_0), ((HB.out.cell (World.block_lt_of_cell? w _ hw208_1)).trans hw208_1), ((HB.out.cell (World.block_lt_of_cell? w _ hw208_2)).trans hw208_2), ((HB.out.cell (World.block_lt_of_cell? w _ hw208_3)).trans hw208_3), ((HB.out.cell (World.block_lt_of_cell? w _ hw208_4)).trans hw208_4)⟩ (fun hHeld => ?_)
        clear hK K
        refine norm_ (a' := ?_) ?_ ?_
        rotate_left
        · show Act.put _ (some 8) _ = _
          simp only [Act.put, List.setIfInBounds_toArray, List.set_cons_zero, List.set_cons_succ, i64_w, i32_w]
          rfl
        refine one_ (i := 10) (N := some 7) #[true, true, true, true, true, true, true, true, true, true, true, true, false, false] rfl rfl (one_of HT_.out (by kernel_rfl)) (by decide) (fun K hK => ?_)
        refine box_step ?hg (N := 7) ?hd (cs := #[.int .i64 0, .int .i64 0, .int .i64 0, .bool false, .slice none 0 0]) (t := 185) ?hr ?_; (case hd => rfl); (case hg => rfl); (case hr => first | (go_simp; done) | (go_simp; rfl))
        intro gb209 hg w17 hbox hb
        have n0_ := Aside0.mk (blk_below (g := gb206) (o := .cells #[.slice A0_0 l0_0.length c0_0, .slice (some ad207) l0_1.length c0_1] 76 (0, 0)) (by (with_reducible repeat (first | refine blk_drewN ?_ _ | refine blk_drew ?_ | refine blk_alloc ?_ _)); exact BK206.out) hb)
        have n1_ := Aside0.mk (blk_below (g := gb210) (o := .cells #[.int .i64 0, .int .i64 0, .int .i64 0, .bool false, .slice none 0 0] 185 (0, 0)) (by (with_reducible repeat (first | refine blk_drewN ?_ _ | refine blk_drew ?_ | refine blk_alloc ?_ _)); exact BK210.out) hb)
        have n2_ := Aside0.mk (below_step (by repeat (first | (with_reducible first | exact HB.out | apply below_alloc | apply pw_below_drewN | apply below_drew1 | refine below_set ?_ GE206.out | refine below_set ?_ GE210.out) | exact HB.out)) hb)
        have n3_ := Aside0.mk (hbox)
        have n4_ := Aside0.mk ((by rw [hg]; exact (below_size (by repeat (first | (with_reducible first | exact HB.out | apply below_alloc | apply pw_below_drewN | apply below_drew1 | refine below_set ?_ GE206.out | refine below_set ?_ GE210.out) | exact HB.out))) : w.heap.size ≤ gb209))
        have n5_ := Aside0.mk ((by rw [hg]; exact (below_size (by repeat (first | (with_reducible first | exact HB.out | apply below_alloc | apply pw_below_drewN | apply below_drew1 | refine below_set ?_ GE206.out | refine below_set ?_ GE210.out) | exact HB.out))) : w.heap.size ≤ gb209))
        have n6_ := Aside0.mk ((by rw [hg]; exact Nat.ne_of_lt (blk_lt (g := gb206) (o := .cells #[.slice A0_0 l0_0.length c0_0, .slice (some ad207) l0_1.length c0_1] 76 (0, 0)) (by (with_reducible repeat (first | refine blk_drewN ?_ _ | refine blk_drew ?_ | refine blk_alloc ?_ _)); exact BK206.out)) : gb206 ≠ gb209))
        have n7_ := Aside0.mk ((by rw [hg]; exact Nat.ne_of_gt (blk_lt (g := gb206) (o := .cells #[.slice A0_0 l0_0.length c0_0, .slice (some ad207) l0_1.length c0_1] 76 (0, 0)) (by (with_reducible repeat (first | refine blk_drewN ?_ _ | refine blk_drew ?_ | refine blk_alloc ?_ _)); exact BK206.out)) : gb209 ≠ gb206))
        have n8_ := Aside0.mk ((by rw [hg]; exact Nat.ne_of_lt (blk_lt (g := gb210) (o := .cells #[.int .i64 0, .int .i64 0, .int .i64 0, .bool false, .slice none 0 0] 185 (0, 0)) (by (with_reducible repeat (first | refine blk_drewN ?_ _ | refine blk_drew ?_ | refine blk_alloc ?_ _)); exact BK210.out)) : gb210 ≠ gb209))
        have n9_ := Aside0.mk ((by rw [hg]; exact Nat.ne_of_gt (blk_lt (g := gb210) (o := .cells #[.int .i64 0, .int .i64 0, .int .i64 0, .bool false, .slice none 0 0] 185 (0, 0)) (by (with_reducible repeat (first | refine blk_drewN ?_ _ | refine blk_drew ?_ | refine blk_alloc ?_ _)); exact BK210.out)) : gb209 ≠ gb210))
        clear BK206
        clear BK210
        clear HB
        have BK206 := n0_
        have BK210 := n1_
        have HB := n2_
        have BK209 := n3_
        have GW209 := n4_
        have GE209 := n5_
        have NB206_209 := n6_
        have NB209_206 := n7_
        have NB210_209 := n8_
        have NB209_210 := n9_
        clear n0_ n1_ n2_ n3_ n4_ n5_ n6_ n7_ n8_ n9_
        clear hb hbox hg
        refine hK.out _ _ ⟨(blk_cell BK206.out 0).trans rfl, (blk_cell BK206.out 1).trans rfl, ((HB.out.cell (World.block_lt_of_cell? w _ hw207_0)).trans hw207_0), ((HB.out.cell (World.block_lt_of_cell? w _ hw207_1)).trans hw207_1), ((HB.out.cell (World.block_lt_of_cell? w _ hw207_2)).trans hw207_2), ((HB.out.cell (World.block_lt_of_cell? w _ hw207_3)).trans hw207_3), ((HB.out.cell (World.block_lt_of_cell? w _ hw207_4)).trans hw207_4), ((HB.out.cell (World.block_lt_of_cell? w _ hw208_0)).trans hw208_0), ((HB.out.cell (World.block_lt_of_cell? w _ hw208_1)).trans hw208_1), ((HB.out.cell (World.block_lt_of_cell? w _ hw208_2)).trans hw208_2), ((HB.out.cell (World.block_lt_of_cell? w _ hw208_3)).trans hw208_3), ((HB.out.cell (World.block_lt_of_cell? w _ hw208_4)).trans hw208_4)⟩ (fun hHeld => ?_)
        clear hK K
        refine norm_ (a' := ?_) ?_ ?_
        rotate_left
        · show Act.put _ (some 7) _ = _
          simp only [Act.put, List.setIfInBounds_toArray, List.set_cons_zero, List.set_cons_succ, i64_w, i32_w]
          rfl
        exact norm_ (by simp only [putAll, Act.put, List.setIfInBounds_toArray, List.set_cons_zero, List.set_cons_succ]) (hCont (gb209, gb210) _ ⟨hHeld, (by (with_reducible repeat (first | refine blk_drewN ?_ _ | refine blk_drew ?_ | refine blk_alloc ?_ _)); exact BK206.out), (by (with_reducible repeat (first | refine blk_drewN ?_ _ | refine blk_drew ?_ | refine blk_alloc ?_ _)); exact BK209.out), (by (with_reducible repeat (first | refine blk_drewN ?_ _ | refine blk_drew ?_ | refine blk_alloc ?_ _)); exact BK210.out), GW209.out, GE209.out, NB206_209.out, NB209_206.out, NB210_209.out, NB209_210.out, GW210.out, GE210.out, NB206_210.out, NB210_206.out, (by repeat (first | (with_reducible first | exact HB.out | apply below_alloc | apply pw_below_drewN | apply below_drew1 | refine below_set ?_ GE206.out | refine below_set ?_ GE210.out | refine below_set ?_ GE209.out) | exact HB.out))⟩)
    rintro ⟨gb209, gb210⟩ w18 ⟨hS_, h0_, h1_, h2_, h3_, h4_, h5_, h6_, h7_, h8_, h9_, h10_, h11_, h12_, h13_⟩
    have n0_ : Aside0 (w18.heap[gb206]? = some (.cells #[.slice A0_0 l0_0.length c0_0, .slice (some ad207) l0_1.length c0_1] 76 (0, 0))) := ⟨h0_⟩
    have n1_ : Aside0 (w18.heap[gb209]? = some (.cells #[.int .i64 0, .int .i64 0, .int .i64 0, .bool false, .slice none 0 0] 185 (0, 0))) := ⟨h1_⟩
    have n2_ : Aside0 (w18.heap[gb210]? = some (.cells #[.int .i64 0, .int .i64 0, .int .i64 0, .bool false, .slice none 0 0] 185 (0, 0))) := ⟨h2_⟩
    have n3_ : Aside0 (w.heap.size ≤ gb209) := ⟨h3_⟩
    have n4_ : Aside0 (w.heap.size ≤ gb209) := ⟨h4_⟩
    have n5_ : Aside0 (gb206 ≠ gb209) := ⟨h5_⟩
    have n6_ : Aside0 (gb209 ≠ gb206) := ⟨h6_⟩
    have n7_ : Aside0 (gb210 ≠ gb209) := ⟨h7_⟩
    have n8_ : Aside0 (gb209 ≠ gb210) := ⟨h8_⟩
    have n9_ : Aside0 (w.heap.size ≤ gb210) := ⟨h9_⟩
    have n10_ : Aside0 (w.heap.size ≤ gb210) := ⟨h10_⟩
    have n11_ : Aside0 (gb206 ≠ gb210) := ⟨h11_⟩
    have n12_ : Aside0 (gb210 ≠ gb206) := ⟨h12_⟩
    have n13_ : Aside0 (Below w.heap.size w w18) := ⟨h13_⟩
    clear BK206
    clear HB
    clear h0_ h1_ h2_ h3_ h4_ h5_ h6_ h7_ h8_ h9_ h10_ h11_ h12_ h13_
    have BK206 := n0_
    have BK209 := n1_
    have BK210 := n2_
    have GW209 := n3_
    have GE209 := n4_
    have NB206_209 := n5_
    have NB209_206 := n6_
    have NB210_209 := n7_
    have NB209_210 := n8_
    have GW210 := n9_
    have GE210 := n10_
    have NB206_210 := n11_
    have NB210_206 := n12_
    have HB := n13_
    clear n0_ n1_ n2_ n3_ n4_ n5_ n6_ n7_ n8_ n9_ n10_ n11_ n12_ n13_
    have hHeld : w18.cell? ⟨gb206, 0, none⟩ = some (.slice A0_0 l0_0.length c0_0) ∧ w18.cell? ⟨gb206, 1, none⟩ = some (.slice (some ad207) l0_1.length c0_1) ∧ w18.cell? (ad207.add ((a1).toNat * 5)) = some (.int .i64 ((rd_T185 l0_1 a1).f0)) ∧ w18.cell? ⟨(ad207.add ((a1).toNat * 5)).block, (ad207.add ((a1).toNat * 5)).off + 1, none⟩ = some (.int .i64 ((rd_T185 l0_1 a1).f1)) ∧ w18.cell? ⟨(ad207.add ((a1).toNat * 5)).block, (ad207.add ((a1).toNat * 5)).off + 2, none⟩ = some (.int .i64 ((rd_T185 l0_1 a1).f2)) ∧ w18.cell? ⟨(ad207.add ((a1).toNat * 5)).block, (ad207.add ((a1).toNat * 5)).off + 3, none⟩ = some (.bool ((rd_T185 l0_1 a1).f3)) ∧ w18.cell? ⟨(ad207.add ((a1).toNat * 5)).block, (ad207.add ((a1).toNat * 5)).off + 4, none⟩ = some (.slice A207_4 ((rd_T185 l0_1 a1).f4).length c207_4) ∧ w18.cell? (ad207.add ((a2).toNat * 5)) = some (.int .i64 ((rd_T185 l0_1 a2).f0)) ∧ w18.cell? ⟨(ad207.add ((a2).toNat * 5)).block, (ad207.add ((a2).toNat * 5)).off + 1, none⟩ = some (.int .i64 ((rd_T185 l0_1 a2).f1)) ∧ w18.cell? ⟨(ad207.add ((a2).toNat * 5)).block, (ad207.add ((a2).toNat * 5)).off + 2, none⟩ = some (.int .i64 ((rd_T185 l0_1 a2).f2)) ∧ w18.cell? ⟨(ad207.add ((a2).toNat * 5)).block, (ad207.add ((a2).toNat * 5)).off + 3, none⟩ = some (.bool ((rd_T185 l0_1 a2).f3)) ∧ w18.cell? ⟨(ad207.add ((a2).toNat * 5)).block, (ad207.add ((a2).toNat * 5)).off + 4, none⟩ = some (.slice A208_4 ((rd_T185 l0_1 a2).f4).length c208_4) := hS_
    refine norm_ (a' := ?_) ?_ ?_
    rotate_left
    · simp only [putAll, Act.put, List.setIfInBounds_toArray, List.set_cons_zero, List.set_cons_succ]
      rfl
    refine one_ (i := 12) (N := none) #[true, true, true, true, true, true, true, true, true, true, true, true, true, false] rfl rfl (one_of HT_.out (by kernel_rfl)) (by decide) (fun K hK => ?_)
    have hs19 : w18.cell? ⟨gb209, 0, none⟩ = some (.int .i64 0) := (blk_cell BK209.out 0).trans rfl
    have hfs19 := blk_frozen BK209.out 0
    have hns19_0 := NB206_209.out
    have hns19_2 := NB210_209.out
    have hms19_0 := NB209_206.out
    have hms19_2 := NB209_210.out
    have hs20 : w18.cell? ⟨gb209, 1, none⟩ = some (.int .i64 0) := (blk_cell BK209.out 1).trans rfl
    have hfs20 := blk_frozen BK209.out 1
    have hns20_0 := NB206_209.out
    have hns20_2 := NB210_209.out
    have hms20_0 := NB209_206.out
    have hms20_2 := NB209_210.out
    have hs21 : w18.cell? ⟨gb209, 2, none⟩ = some (.int .i64 0) := (blk_cell BK209.out 2).trans rfl
    have hfs21 := blk_frozen BK209.out 2
    have hns21_0 := NB206_209.out
    have hns21_2 := NB210_209.out
    have hms21_0 := NB209_206.out
    have hms21_2 := NB209_210.out
    have hs22 : w18.cell? ⟨gb209, 3, none⟩ = some (.bool false) := (blk_cell BK209.out 3).trans rfl
    have hfs22 := blk_frozen BK209.out 3
    have hns22_0 := NB206_209.out
    have hns22_2 := NB210_209.out
    have hms22_0 := NB209_206.out
    have hms22_2 := NB209_210.out
    have hs23 : w18.cell? ⟨gb209, 4, none⟩ = some (.slice none 0 0) := (blk_cell BK209.out 4).trans rfl
    have hfs23 := blk_frozen BK209.out 4
    have hns23_0 := NB206_209.out
    have hns23_2 := NB210_209.out
    have hms23_0 := NB209_206.out
    have hms23_2 := NB209_210.out
    refine skip_ (w1 := ?_) (by rfl) rfl ?_ ?_
    rotate_left
    · go_simp
      rfl
    have zb_ := World.block_lt_of_cell? _ _ hw207_0
    (try rw [add_block] at zb_)
    have zn207_0_209 := Nat.ne_of_lt (Nat.lt_of_lt_of_le zb_ GW209.out)
    clear zb_
    have zb_ := World.block_lt_of_cell? _ _ hw207_1
    (try rw [add_block] at zb_)
    have zn207_1_209 := Nat.ne_of_lt (Nat.lt_of_lt_of_le zb_ GW209.out)
    clear zb_
    have zb_ := World.block_lt_of_cell? _ _ hw207_2
    (try rw [add_block] at zb_)
    have zn207_2_209 := Nat.ne_of_lt (Nat.lt_of_lt_of_le zb_ GW209.out)
    clear zb_
    have zb_ := World.block_lt_of_cell? _ _ hw207_3
    (try rw [add_block] at zb_)
    have zn207_3_209 := Nat.ne_of_lt (Nat.lt_of_lt_of_le zb_ GW209.out)
    clear zb_
    have zb_ := World.block_lt_of_cell? _ _ hw207_4
    (try rw [add_block] at zb_)
    have zn207_4_209 := Nat.ne_of_lt (Nat.lt_of_lt_of_le zb_ GW209.out)
    clear zb_
    have zb_ := World.block_lt_of_cell? _ _ hw208_0
    (try rw [add_block] at zb_)
    have zn208_0_209 := Nat.ne_of_lt (Nat.lt_of_lt_of_le zb_ GW209.out)
    clear zb_
    have zb_ := World.block_lt_of_cell? _ _ hw208_1
    (try rw [add_block] at zb_)
    have zn208_1_209 := Nat.ne_of_lt (Nat.lt_of_lt_of_le zb_ GW209.out)
    clear zb_
    have zb_ := World.block_lt_of_cell? _ _ hw208_2
    (try rw [add_block] at zb_)
    have zn208_2_209 := Nat.ne_of_lt (Nat.lt_of_lt_of_le zb_ GW209.out)
    clear zb_
    have zb_ := World.block_lt_of_cell? _ _ hw208_3
    (try rw [add_block] at zb_)
    have zn208_3_209 := Nat.ne_of_lt (Nat.lt_of_lt_of_le zb_ GW209.out)
    clear zb_
    have zb_ := World.block_lt_of_cell? _ _ hw208_4
    (try rw [add_block] at zb_)
    have zn208_4_209 := Nat.ne_of_lt (Nat.lt_of_lt_of_le zb_ GW209.out)
    clear zb_
    refine hK.out _ _ ⟨((cell_far (p := ⟨gb209, _, none⟩) NB206_209.out _).trans (((cell_far (p := ⟨gb209, _, none⟩) NB206_209.out _).trans (((cell_far (p := ⟨gb209, _, none⟩) NB206_209.out _).trans (((cell_far (p := ⟨gb209, _, none⟩) NB206_209.out _).trans (((cell_far (p := ⟨gb209, _, none⟩) NB206_209.out _).trans (hHeld.1)))))))))), ((cell_far (p := ⟨gb209, _, none⟩) NB206_209.out _).trans (((cell_far (p := ⟨gb209, _, none⟩) NB206_209.out _).trans (((cell_far (p := ⟨gb209, _, none⟩) NB206_209.out _).trans (((cell_far (p := ⟨gb209, _, none⟩) NB206_209.out _).trans (((cell_far (p := ⟨gb209, _, none⟩) NB206_209.out _).trans (hHeld.2.1)))))))))), ((cell_far (p := ⟨gb209, _, none⟩) (by first | exact zn207_0_209 | (rw [add_block]; exact zn207_0_209) | (show (Addr.add _ _).block ≠ _; rw [add_block]; exact zn207_0_209) | (dsimp only; exact zn207_0_209)) _).trans (((cell_far (p := ⟨gb209, _, none⟩) (by first | exact zn207_0_209 | (rw [add_block]; exact zn207_0_209) | (show (Addr.add _ _).block ≠ _; rw [add_block]; exact zn207_0_209) | (dsimp only; exact zn207_0_209)) _).trans (((cell_far (p := ⟨gb209, _, none⟩) (by first | exact zn207_0_209 | (rw [add_block]; exact zn207_0_209) | (show (Addr.add _ _).block ≠ _; rw [add_block]; exact zn207_0_209) | (dsimp only; exact zn207_0_209)) _).trans (((cell_far (p := ⟨gb209, _, none⟩) (by first | exact zn207_0_209 | (rw [add_block]; exact zn207_0_209) | (show (Addr.add _ _).block ≠ _; rw [add_block]; exact zn207_0_209) | (dsimp only; exact zn207_0_209)) _).trans (((cell_far (p := ⟨gb209, _, none⟩) (by first | exact zn207_0_209 | (rw [add_block]; exact zn207_0_209) | (show (Addr.add _ _).block ≠ _; rw [add_block]; exact zn207_0_209) | (dsimp only; exact zn207_0_209)) _).trans (hHeld.2.2.1)))))))))), ((cell_far (p := ⟨gb209, _, none⟩) (by first | exact zn207_1_209 | (rw [add_block]; exact zn207_1_209) | (show (Addr.add _ _).block ≠ _; rw [add_block]; exact zn207_1_209) | (dsimp only; exact zn207_1_209)) _).trans (((cell_far (p := ⟨gb209, _, none⟩) (by first | exact zn207_1_209 | (rw [add_block]; exact zn207_1_209) | (show (Addr.add _ _).block ≠ _; rw [add_block]; exact zn207_1_209) | (dsimp only; exact zn207_1_209)) _).trans (((cell_far (p := ⟨gb209, _, none⟩) (by first | exact zn207_1_209 | (rw [add_block]; exact zn207_1_209) | (show (Addr.add _ _).block ≠ _; rw [add_block]; exact zn207_1_209) | (dsimp only; exact zn207_1_209)) _).trans (((cell_far (p := ⟨gb209, _, none⟩) (by first | exact zn207_1_209 | (rw [add_block]; exact zn207_1_209) | (show (Addr.add _ _).block ≠ _; rw [add_block]; exact zn207_1_209) | (dsimp only; exact zn207_1_209)) _).trans (((cell_far (p := ⟨gb209, _, none⟩) (by first | exact zn207_1_209 | (rw [add_block]; exact zn207_1_209) | (show (Addr.add _ _).block ≠ _; rw [add_block]; exact zn207_1_209) | (dsimp only; exact zn207_1_209)) _).trans (hHeld.2.2.2.1)))))))))), ((cell_far (p := ⟨gb209, _, none⟩) (by first | exact zn207_2_209 | (rw [add_block]; exact zn207_2_209) | (show (Addr.add _ _).block ≠ _; rw [add_block]; exact zn207_2_209) | (dsimp only; exact zn207_2_209)) _).trans (((cell_far (p := ⟨gb209, _, none⟩) (by first | exact zn207_2_209 | (rw [add_block]; exact zn207_2_209) | (show (Addr.add _ _).block ≠ _; rw [add_block]; exact zn207_2_209) | (dsimp only; exact zn207_2_209)) _).trans (((cell_far (p := ⟨gb209, _, none⟩) (by first | exact zn207_2_209 | (rw [add_block]; exact zn207_2_209) | (show (Addr.add _ _).block ≠ _; rw [add_block]; exact zn207_2_209) | (dsimp only; exact zn207_2_209)) _).trans (((cell_far (p := ⟨gb209, _, none⟩) (by first | exact zn207_2_209 | (rw [add_block]; exact zn207_2_209) | (show (Addr.add _ _).block ≠ _; rw [add_block]; exact zn207_2_209) | (dsimp only; exact zn207_2_209)) _).trans (((cell_far (p := ⟨gb209, _, none⟩) (by first | exact zn207_2_209 | (rw [add_block]; exact zn207_2_209) | (show (Addr.add _ _).block ≠ _; rw [add_block]; exact zn207_2_209) | (dsimp only; exact zn207_2_209)) _).trans (hHeld.2.2.2.2.1)))))))))), ((cell_far (p := ⟨gb209, _, none⟩) (by first | exact zn207_3_209 | (rw [add_block]; exact zn207_3_209) | (show (Addr.add _ _).block ≠ _; rw [add_block]; exact zn207_3_209) | (dsimp only; exact zn207_3_209)) _).trans (((cell_far (p := ⟨gb209, _, none⟩) (by first | exact zn207_3_209 | (rw [add_block]; exact zn207_3_209) | (show (Addr.add _ _).block ≠ _; rw [add_block]; exact zn207_3_209) | (dsimp only; exact zn207_3_209)) _).trans (((cell_far (p := ⟨gb209, _, none⟩) (by first | exact zn207_3_209 | (rw [add_block]; exact zn207_3_209) | (show (Addr.add _ _).block ≠ _; rw [add_block]; exact zn207_3_209) | (dsimp only; exact zn207_3_209)) _).trans (((cell_far (p := ⟨gb209, _, none⟩) (by first | exact zn207_3_209 | (rw [add_block]; exact zn207_3_209) | (show (Addr.add _ _).block ≠ _; rw [add_block]; exact zn207_3_209) | (dsimp only; exact zn207_3_209)) _).trans (((cell_far (p := ⟨gb209, _, none⟩) (by first | exact zn207_3_209 | (rw [add_block]; exact zn207_3_209) | (show (Addr.add _ _).block ≠ _; rw [add_block]; exact zn207_3_209) | (dsimp only; exact zn207_3_209)) _).trans (hHeld.2.2.2.2.2.1)))))))))), ((cell_far (p := ⟨gb209, _, none⟩) (by first | exact zn207_4_209 | (rw [add_block]; exact zn207_4_209) | (show (Addr.add _ _).block ≠ _; rw [add_block]; exact zn207_4_209) | (dsimp only; exact zn207_4_209)) _).trans (((cell_far (p := ⟨gb209, _, none⟩) (by first | exact zn207_4_209 | (rw [add_block]; exact zn207_4_209) | (show (Addr.add _ _).block ≠ _; rw [add_block]; exact zn207_4_209) | (dsimp only; exact zn207_4_209)) _).trans (((cell_far (p := ⟨gb209, _, none⟩) (by first | exact zn207_4_209 | (rw [add_block]; exact zn207_4_209) | (show (Addr.add _ _).block ≠ _; rw [add_block]; exact zn207_4_209) | (dsimp only; exact zn207_4_209)) _).trans (((cell_far (p := ⟨gb209, _, none⟩) (by first | exact zn207_4_209 | (rw [add_block]; exact zn207_4_209) | (show (Addr.add _ _).block ≠ _; rw [add_block]; exact zn207_4_209) | (dsimp only; exact zn207_4_209)) _).trans (((cell_far (p := ⟨gb209, _, none⟩) (by first | exact zn207_4_209 | (rw [add_block]; exact zn207_4_209) | (show (Addr.add _ _).block ≠ _; rw [add_block]; exact zn207_4_209) | (dsimp only; exact zn207_4_209)) _).trans (hHeld.2.2.2.2.2.2.1)))))))))), ((cell_far (p := ⟨gb209, _, none⟩) (by first | exact zn208_0_209 | (rw [add_block]; exact zn208_0_209) | (show (Addr.add _ _).block ≠ _; rw [add_block]; exact zn208_0_209) | (dsimp only; exact zn208_0_209)) _).trans (((cell_far (p := ⟨gb209, _, none⟩) (by first | exact zn208_0_209 | (rw [add_block]; exact zn208_0_209) | (show (Addr.add _ _).block ≠ _; rw [add_block]; exact zn208_0_209) | (dsimp only; exact zn208_0_209)) _).trans (((cell_far (p := ⟨gb209, _, none⟩) (by first | exact zn208_0_209 | (rw [add_block]; exact zn208_0_209) | (show (Addr.add _ _).block ≠ _; rw [add_block]; exact zn208_0_209) | (dsimp only; exact zn208_0_209)) _).trans (((cell_far (p := ⟨gb209, _, none⟩) (by first | exact zn208_0_209 | (rw [add_block]; exact zn208_0_209) | (show (Addr.add _ _).block ≠ _; rw [add_block]; exact zn208_0_209) | (dsimp only; exact zn208_0_209)) _).trans (((cell_far (p := ⟨gb209, _, none⟩) (by first | exact zn208_0_209 | (rw [add_block]; exact zn208_0_209) | (show (Addr.add _ _).block ≠ _; rw [add_block]; exact zn208_0_209) | (dsimp only; exact zn208_0_209)) _).trans (hHeld.2.2.2.2.2.2.2.1)))))))))), ((cell_far (p := ⟨gb209, _, none⟩) (by first | exact zn208_1_209 | (rw [add_block]; exact zn208_1_209) | (show (Addr.add _ _).block ≠ _; rw [add_block]; exact zn208_1_209) | (dsimp only; exact zn208_1_209)) _).trans (((cell_far (p := ⟨gb209, _, none⟩) (by first | exact zn208_1_209 | (rw [add_block]; exact zn208_1_209) | (show (Addr.add _ _).block ≠ _; rw [add_block]; exact zn208_1_209) | (dsimp only; exact zn208_1_209)) _).trans (((cell_far (p := ⟨gb209, _, none⟩) (by first | exact zn208_1_209 | (rw [add_block]; exact zn208_1_209) | (show (Addr.add _ _).block ≠ _; rw [add_block]; exact zn208_1_209) | (dsimp only; exact zn208_1_209)) _).trans (((cell_far (p := ⟨gb209, _, none⟩) (by first | exact zn208_1_209 | (rw [add_block]; exact zn208_1_209) | (show (Addr.add _ _).block ≠ _; rw [add_block]; exact zn208_1_209) | (dsimp only; exact zn208_1_209)) _).trans (((cell_far (p := ⟨gb209, _, none⟩) (by first | exact zn208_1_209 | (rw [add_block]; exact zn208_1_209) | (show (Addr.add _ _).block ≠ _; rw [add_block]; exact zn208_1_209) | (dsimp only; exact zn208_1_209)) _).trans (hHeld.2.2.2.2.2.2.2.2.1)))))))))), ((cell_far (p := ⟨gb209, _, none⟩) (by first | exact zn208_2_209 | (rw [add_block]; exact zn208_2_209) | (show (Addr.add _ _).block ≠ _; rw [add_block]; exact zn208_2_209) | (dsimp only; exact zn208_2_209)) _).trans (((cell_far (p := ⟨gb209, _, none⟩) (by first | exact zn208_2_209 | (rw [add_block]; exact zn208_2_209) | (show (Addr.add _ _).block ≠ _; rw [add_block]; exact zn208_2_209) | (dsimp only; exact zn208_2_209)) _).trans (((cell_far (p := ⟨gb209, _, none⟩) (by first | exact zn208_2_209 | (rw [add_block]; exact zn208_2_209) | (show (Addr.add _ _).block ≠ _; rw [add_block]; exact zn208_2_209) | (dsimp only; exact zn208_2_209)) _).trans (((cell_far (p := ⟨gb209, _, none⟩) (by first | exact zn208_2_209 | (rw [add_block]; exact zn208_2_209) | (show (Addr.add _ _).block ≠ _; rw [add_block]; exact zn208_2_209) | (dsimp only; exact zn208_2_209)) _).trans (((cell_far (p := ⟨gb209, _, none⟩) (by first | exact zn208_2_209 | (rw [add_block]; exact zn208_2_209) | (show (Addr.add _ _).block ≠ _; rw [add_block]; exact zn208_2_209) | (dsimp only; exact zn208_2_209)) _).trans (hHeld.2.2.2.2.2.2.2.2.2.1)))))))))), ((cell_far (p := ⟨gb209, _, none⟩) (by first | exact zn208_3_209 | (rw [add_block]; exact zn208_3_209) | (show (Addr.add _ _).block ≠ _; rw [add_block]; exact zn208_3_209) | (dsimp only; exact zn208_3_209)) _).trans (((cell_far (p := ⟨gb209, _, none⟩) (by first | exact zn208_3_209 | (rw [add_block]; exact zn208_3_209) | (show (Addr.add _ _).block ≠ _; rw [add_block]; exact zn208_3_209) | (dsimp only; exact zn208_3_209)) _).trans (((cell_far (p := ⟨gb209, _, none⟩) (by first | exact zn208_3_209 | (rw [add_block]; exact zn208_3_209) | (show (Addr.add _ _).block ≠ _; rw [add_block]; exact zn208_3_209) | (dsimp only; exact zn208_3_209)) _).trans (((cell_far (p := ⟨gb209, _, none⟩) (by first | exact zn208_3_209 | (rw [add_block]; exact zn208_3_209) | (show (Addr.add _ _).block ≠ _; rw [add_block]; exact zn208_3_209) | (dsimp only; exact zn208_3_209)) _).trans (((cell_far (p := ⟨gb209, _, none⟩) (by first | exact zn208_3_209 | (rw [add_block]; exact zn208_3_209) | (show (Addr.add _ _).block ≠ _; rw [add_block]; exact zn208_3_209) | (dsimp only; exact zn208_3_209)) _).trans (hHeld.2.2.2.2.2.2.2.2.2.2.1)))))))))), ((cell_far (p := ⟨gb209, _, none⟩) (by first | exact zn208_4_209 | (rw [add_block]; exact zn208_4_209) | (show (Addr.add _ _).block ≠ _; rw [add_block]; exact zn208_4_209) | (dsimp only; exact zn208_4_209)) _).trans (((cell_far (p := ⟨gb209, _, none⟩) (by first | exact zn208_4_209 | (rw [add_block]; exact zn208_4_209) | (show (Addr.add _ _).block ≠ _; rw [add_block]; exact zn208_4_209) | (dsimp only; exact zn208_4_209)) _).trans (((cell_far (p := ⟨gb209, _, none⟩) (by first | exact zn208_4_209 | (rw [add_block]; exact zn208_4_209) | (show (Addr.add _ _).block ≠ _; rw [add_block]; exact zn208_4_209) | (dsimp only; exact zn208_4_209)) _).trans (((cell_far (p := ⟨gb209, _, none⟩) (by first | exact zn208_4_209 | (rw [add_block]; exact zn208_4_209) | (show (Addr.add _ _).block ≠ _; rw [add_block]; exact zn208_4_209) | (dsimp only; exact zn208_4_209)) _).trans (((cell_far (p := ⟨gb209, _, none⟩) (by first | exact zn208_4_209 | (rw [add_block]; exact zn208_4_209) | (show (Addr.add _ _).block ≠ _; rw [add_block]; exact zn208_4_209) | (dsimp only; exact zn208_4_209)) _).trans (hHeld.2.2.2.2.2.2.2.2.2.2.2))))))))))⟩ (fun hHeld => ?_)
    clear zn207_0_209 zn207_1_209 zn207_2_209 zn207_3_209 zn207_4_209 zn208_0_209 zn208_1_209 zn208_2_209 zn208_3_209 zn208_4_209
    clear hK K
    refine one_ (i := 13) (N := none) #[true, true, true, true, true, true, true, true, true, true, true, true, true, true] rfl rfl (one_of HT_.out (by kernel_rfl)) (by decide) (fun K hK => ?_)
    have hs24 : w18.cell? ⟨gb210, 0, none⟩ = some (.int .i64 0) := (blk_cell BK210.out 0).trans rfl
    have hfs24 := blk_frozen BK210.out 0
    have hns24_0 := NB206_210.out
    have hns24_1 := NB209_210.out
    have hms24_0 := NB210_206.out
    have hms24_1 := NB210_209.out
    have hs25 : w18.cell? ⟨gb210, 1, none⟩ = some (.int .i64 0) := (blk_cell BK210.out 1).trans rfl
    have hfs25 := blk_frozen BK210.out 1
    have hns25_0 := NB206_210.out
    have hns25_1 := NB209_210.out
    have hms25_0 := NB210_206.out
    have hms25_1 := NB210_209.out
    have hs26 : w18.cell? ⟨gb210, 2, none⟩ = some (.int .i64 0) := (blk_cell BK210.out 2).trans rfl
    have hfs26 := blk_frozen BK210.out 2
    have hns26_0 := NB206_210.out
    have hns26_1 := NB209_210.out
    have hms26_0 := NB210_206.out
    have hms26_1 := NB210_209.out
    have hs27 : w18.cell? ⟨gb210, 3, none⟩ = some (.bool false) := (blk_cell BK210.out 3).trans rfl
    have hfs27 := blk_frozen BK210.out 3
    have hns27_0 := NB206_210.out
    have hns27_1 := NB209_210.out
    have hms27_0 := NB210_206.out
    have hms27_1 := NB210_209.out
    have hs28 : w18.cell? ⟨gb210, 4, none⟩ = some (.slice none 0 0) := (blk_cell BK210.out 4).trans rfl
    have hfs28 := blk_frozen BK210.out 4
    have hns28_0 := NB206_210.out
    have hns28_1 := NB209_210.out
    have hms28_0 := NB210_206.out
    have hms28_1 := NB210_209.out
    refine skip_ (w1 := ?_) (by rfl) rfl ?_ ?_
    rotate_left
    · go_simp
      rfl
    have zb_ := World.block_lt_of_cell? _ _ hw207_0
    (try rw [add_block] at zb_)
    have zn207_0_210 := Nat.ne_of_lt (Nat.lt_of_lt_of_le zb_ GW210.out)
    clear zb_
    have zb_ := World.block_lt_of_cell? _ _ hw207_1
    (try rw [add_block] at zb_)
    have zn207_1_210 := Nat.ne_of_lt (Nat.lt_of_lt_of_le zb_ GW210.out)
    clear zb_
    have zb_ := World.block_lt_of_cell? _ _ hw207_2
    (try rw [add_block] at zb_)
    have zn207_2_210 := Nat.ne_of_lt (Nat.lt_of_lt_of_le zb_ GW210.out)
    clear zb_
    have zb_ := World.block_lt_of_cell? _ _ hw207_3
    (try rw [add_block] at zb_)
    have zn207_3_210 := Nat.ne_of_lt (Nat.lt_of_lt_of_le zb_ GW210.out)
    clear zb_
    have zb_ := World.block_lt_of_cell? _ _ hw207_4
    (try rw [add_block] at zb_)
    have zn207_4_210 := Nat.ne_of_lt (Nat.lt_of_lt_of_le zb_ GW210.out)
    clear zb_
    have zb_ := World.block_lt_of_cell? _ _ hw208_0
    (try rw [add_block] at zb_)
    have zn208_0_210 := Nat.ne_of_lt (Nat.lt_of_lt_of_le zb_ GW210.out)
    clear zb_
    have zb_ := World.block_lt_of_cell? _ _ hw208_1
    (try rw [add_block] at zb_)
    have zn208_1_210 := Nat.ne_of_lt (Nat.lt_of_lt_of_le zb_ GW210.out)
    clear zb_
    have zb_ := World.block_lt_of_cell? _ _ hw208_2
    (try rw [add_block] at zb_)
    have zn208_2_210 := Nat.ne_of_lt (Nat.lt_of_lt_of_le zb_ GW210.out)
    clear zb_
    have zb_ := World.block_lt_of_cell? _ _ hw208_3
    (try rw [add_block] at zb_)
    have zn208_3_210 := Nat.ne_of_lt (Nat.lt_of_lt_of_le zb_ GW210.out)
    clear zb_
    have zb_ := World.block_lt_of_cell? _ _ hw208_4
    (try rw [add_block] at zb_)
    have zn208_4_210 := Nat.ne_of_lt (Nat.lt_of_lt_of_le zb_ GW210.out)
    clear zb_
    refine hK.out _ _ ⟨((cell_far (p := ⟨gb210, _, none⟩) NB206_210.out _).trans (((cell_far (p := ⟨gb210, _, none⟩) NB206_210.out _).trans (((cell_far (p := ⟨gb210, _, none⟩) NB206_210.out _).trans (((cell_far (p := ⟨gb210, _, none⟩) NB206_210.out _).trans (((cell_far (p := ⟨gb210, _, none⟩) NB206_210.out _).trans (hHeld.1)))))))))), ((cell_far (p := ⟨gb210, _, none⟩) NB206_210.out _).trans (((cell_far (p := ⟨gb210, _, none⟩) NB206_210.out _).trans (((cell_far (p := ⟨gb210, _, none⟩) NB206_210.out _).trans (((cell_far (p := ⟨gb210, _, none⟩) NB206_210.out _).trans (((cell_far (p := ⟨gb210, _, none⟩) NB206_210.out _).trans (hHeld.2.1)))))))))), ((cell_far (p := ⟨gb210, _, none⟩) (by first | exact zn207_0_210 | (rw [add_block]; exact zn207_0_210) | (show (Addr.add _ _).block ≠ _; rw [add_block]; exact zn207_0_210) | (dsimp only; exact zn207_0_210)) _).trans (((cell_far (p := ⟨gb210, _, none⟩) (by first | exact zn207_0_210 | (rw [add_block]; exact zn207_0_210) | (show (Addr.add _ _).block ≠ _; rw [add_block]; exact zn207_0_210) | (dsimp only; exact zn207_0_210)) _).trans (((cell_far (p := ⟨gb210, _, none⟩) (by first | exact zn207_0_210 | (rw [add_block]; exact zn207_0_210) | (show (Addr.add _ _).block ≠ _; rw [add_block]; exact zn207_0_210) | (dsimp only; exact zn207_0_210)) _).trans (((cell_far (p := ⟨gb210, _, none⟩) (by first | exact zn207_0_210 | (rw [add_block]; exact zn207_0_210) | (show (Addr.add _ _).block ≠ _; rw [add_block]; exact zn207_0_210) | (dsimp only; exact zn207_0_210)) _).trans (((cell_far (p := ⟨gb210, _, none⟩) (by first | exact zn207_0_210 | (rw [add_block]; exact zn207_0_210) | (show (Addr.add _ _).block ≠ _; rw [add_block]; exact zn207_0_210) | (dsimp only; exact zn207_0_210)) _).trans (hHeld.2.2.1)))))))))), ((cell_far (p := ⟨gb210, _, none⟩) (by first | exact zn207_1_210 | (rw [add_block]; exact zn207_1_210) | (show (Addr.add _ _).block ≠ _; rw [add_block]; exact zn207_1_210) | (dsimp only; exact zn207_1_210)) _).trans (((cell_far (p := ⟨gb210, _, none⟩) (by first | exact zn207_1_210 | (rw [add_block]; exact zn207_1_210) | (show (Addr.add _ _).block ≠ _; rw [add_block]; exact zn207_1_210) | (dsimp only; exact zn207_1_210)) _).trans (((cell_far (p := ⟨gb210, _, none⟩) (by first | exact zn207_1_210 | (rw [add_block]; exact zn207_1_210) | (show (Addr.add _ _).block ≠ _; rw [add_block]; exact zn207_1_210) | (dsimp only; exact zn207_1_210)) _).trans (((cell_far (p := ⟨gb210, _, none⟩) (by first | exact zn207_1_210 | (rw [add_block]; exact zn207_1_210) | (show (Addr.add _ _).block ≠ _; rw [add_block]; exact zn207_1_210) | (dsimp only; exact zn207_1_210)) _).trans (((cell_far (p := ⟨gb210, _, none⟩) (by first | exact zn207_1_210 | (rw [add_block]; exact zn207_1_210) | (show (Addr.add _ _).block ≠ _; rw [add_block]; exact zn207_1_210) | (dsimp only; exact zn207_1_210)) _).trans (hHeld.2.2.2.1)))))))))), ((cell_far (p := ⟨gb210, _, none⟩) (by first | exact zn207_2_210 | (rw [add_block]; exact zn207_2_210) | (show (Addr.add _ _).block ≠ _; rw [add_block]; exact zn207_2_210) | (dsimp only; exact zn207_2_210)) _).trans (((cell_far (p := ⟨gb210, _, none⟩) (by first | exact zn207_2_210 | (rw [add_block]; exact zn207_2_210) | (show (Addr.add _ _).block ≠ _; rw [add_block]; exact zn207_2_210) | (dsimp only; exact zn207_2_210)) _).trans (((cell_far (p := ⟨gb210, _, none⟩) (by first | exact zn207_2_210 | (rw [add_block]; exact zn207_2_210) | (show (Addr.add _ _).block ≠ _; rw [add_block]; exact zn207_2_210) | (dsimp only; exact zn207_2_210)) _).trans (((cell_far (p := ⟨gb210, _, none⟩) (by first | exact zn207_2_210 | (rw [add_block]; exact zn207_2_210) | (show (Addr.add _ _).block ≠ _; rw [add_block]; exact zn207_2_210) | (dsimp only; exact zn207_2_210)) _).trans (((cell_far (p := ⟨gb210, _, none⟩) (by first | exact zn207_2_210 | (rw [add_block]; exact zn207_2_210) | (show (Addr.add _ _).block ≠ _; rw [add_block]; exact zn207_2_210) | (dsimp only; exact zn207_2_210)) _).trans (hHeld.2.2.2.2.1)))))))))), ((cell_far (p := ⟨gb210, _, none⟩) (by first | exact zn207_3_210 | (rw [add_block]; exact zn207_3_210) | (show (Addr.add _ _).block ≠ _; rw [add_block]; exact zn207_3_210) | (dsimp only; exact zn207_3_210)) _).trans (((cell_far (p := ⟨gb210, _, none⟩) (by first | exact zn207_3_210 | (rw [add_block]; exact zn207_3_210) | (show (Addr.add _ _).block ≠ _; rw [add_block]; exact zn207_3_210) | (dsimp only; exact zn207_3_210)) _).trans (((cell_far (p := ⟨gb210, _, none⟩) (by first | exact zn207_3_210 | (rw [add_block]; exact zn207_3_210) | (show (Addr.add _ _).block ≠ _; rw [add_block]; exact zn207_3_210) | (dsimp only; exact zn207_3_210)) _).trans (((cell_far (p := ⟨gb210, _, none⟩) (by first | exact zn207_3_210 | (rw [add_block]; exact zn207_3_210) | (show (Addr.add _ _).block ≠ _; rw [add_block]; exact zn207_3_210) | (dsimp only; exact zn207_3_210)) _).trans (((cell_far (p := ⟨gb210, _, none⟩) (by first | exact zn207_3_210 | (rw [add_block]; exact zn207_3_210) | (show (Addr.add _ _).block ≠ _; rw [add_block]; exact zn207_3_210) | (dsimp only; exact zn207_3_210)) _).trans (hHeld.2.2.2.2.2.1)))))))))), ((cell_far (p := ⟨gb210, _, none⟩) (by first | exact zn207_4_210 | (rw [add_block]; exact zn207_4_210) | (show (Addr.add _ _).block ≠ _; rw [add_block]; exact zn207_4_210) | (dsimp only; exact zn207_4_210)) _).trans (((cell_far (p := ⟨gb210, _, none⟩) (by first | exact zn207_4_210 | (rw [add_block]; exact zn207_4_210) | (show (Addr.add _ _).block ≠ _; rw [add_block]; exact zn207_4_210) | (dsimp only; exact zn207_4_210)) _).trans (((cell_far (p := ⟨gb210, _, none⟩) (by first | exact zn207_4_210 | (rw [add_block]; exact zn207_4_210) | (show (Addr.add _ _).block ≠ _; rw [add_block]; exact zn207_4_210) | (dsimp only; exact zn207_4_210)) _).trans (((cell_far (p := ⟨gb210, _, none⟩) (by first | exact zn207_4_210 | (rw [add_block]; exact zn207_4_210) | (show (Addr.add _ _).block ≠ _; rw [add_block]; exact zn207_4_210) | (dsimp only; exact zn207_4_210)) _).trans (((cell_far (p := ⟨gb210, _, none⟩) (by first | exact zn207_4_210 | (rw [add_block]; exact zn207_4_210) | (show (Addr.add _ _).block ≠ _; rw [add_block]; exact zn207_4_210) | (dsimp only; exact zn207_4_210)) _).trans (hHeld.2.2.2.2.2.2.1)))))))))), ((cell_far (p := ⟨gb210, _, none⟩) (by first | exact zn208_0_210 | (rw [add_block]; exact zn208_0_210) | (show (Addr.add _ _).block ≠ _; rw [add_block]; exact zn208_0_210) | (dsimp only; exact zn208_0_210)) _).trans (((cell_far (p := ⟨gb210, _, none⟩) (by first | exact zn208_0_210 | (rw [add_block]; exact zn208_0_210) | (show (Addr.add _ _).block ≠ _; rw [add_block]; exact zn208_0_210) | (dsimp only; exact zn208_0_210)) _).trans (((cell_far (p := ⟨gb210, _, none⟩) (by first | exact zn208_0_210 | (rw [add_block]; exact zn208_0_210) | (show (Addr.add _ _).block ≠ _; rw [add_block]; exact zn208_0_210) | (dsimp only; exact zn208_0_210)) _).trans (((cell_far (p := ⟨gb210, _, none⟩) (by first | exact zn208_0_210 | (rw [add_block]; exact zn208_0_210) | (show (Addr.add _ _).block ≠ _; rw [add_block]; exact zn208_0_210) | (dsimp only; exact zn208_0_210)) _).trans (((cell_far (p := ⟨gb210, _, none⟩) (by first | exact zn208_0_210 | (rw [add_block]; exact zn208_0_210) | (show (Addr.add _ _).block ≠ _; rw [add_block]; exact zn208_0_210) | (dsimp only; exact zn208_0_210)) _).trans (hHeld.2.2.2.2.2.2.2.1)))))))))), ((cell_far (p := ⟨gb210, _, none⟩) (by first | exact zn208_1_210 | (rw [add_block]; exact zn208_1_210) | (show (Addr.add _ _).block ≠ _; rw [add_block]; exact zn208_1_210) | (dsimp only; exact zn208_1_210)) _).trans (((cell_far (p := ⟨gb210, _, none⟩) (by first | exact zn208_1_210 | (rw [add_block]; exact zn208_1_210) | (show (Addr.add _ _).block ≠ _; rw [add_block]; exact zn208_1_210) | (dsimp only; exact zn208_1_210)) _).trans (((cell_far (p := ⟨gb210, _, none⟩) (by first | exact zn208_1_210 | (rw [add_block]; exact zn208_1_210) | (show (Addr.add _ _).block ≠ _; rw [add_block]; exact zn208_1_210) | (dsimp only; exact zn208_1_210)) _).trans (((cell_far (p := ⟨gb210, _, none⟩) (by first | exact zn208_1_210 | (rw [add_block]; exact zn208_1_210) | (show (Addr.add _ _).block ≠ _; rw [add_block]; exact zn208_1_210) | (dsimp only; exact zn208_1_210)) _).trans (((cell_far (p := ⟨gb210, _, none⟩) (by first | exact zn208_1_210 | (rw [add_block]; exact zn208_1_210) | (show (Addr.add _ _).block ≠ _; rw [add_block]; exact zn208_1_210) | (dsimp only; exact zn208_1_210)) _).trans (hHeld.2.2.2.2.2.2.2.2.1)))))))))), ((cell_far (p := ⟨gb210, _, none⟩) (by first | exact zn208_2_210 | (rw [add_block]; exact zn208_2_210) | (show (Addr.add _ _).block ≠ _; rw [add_block]; exact zn208_2_210) | (dsimp only; exact zn208_2_210)) _).trans (((cell_far (p := ⟨gb210, _, none⟩) (by first | exact zn208_2_210 | (rw [add_block]; exact zn208_2_210) | (show (Addr.add _ _).block ≠ _; rw [add_block]; exact zn208_2_210) | (dsimp only; exact zn208_2_210)) _).trans (((cell_far (p := ⟨gb210, _, none⟩) (by first | exact zn208_2_210 | (rw [add_block]; exact zn208_2_210) | (show (Addr.add _ _).block ≠ _; rw [add_block]; exact zn208_2_210) | (dsimp only; exact zn208_2_210)) _).trans (((cell_far (p := ⟨gb210, _, none⟩) (by first | exact zn208_2_210 | (rw [add_block]; exact zn208_2_210) | (show (Addr.add _ _).block ≠ _; rw [add_block]; exact zn208_2_210) | (dsimp only; exact zn208_2_210)) _).trans (((cell_far (p := ⟨gb210, _, none⟩) (by first | exact zn208_2_210 | (rw [add_block]; exact zn208_2_210) | (show (Addr.add _ _).block ≠ _; rw [add_block]; exact zn208_2_210) | (dsimp only; exact zn208_2_210)) _).trans (hHeld.2.2.2.2.2.2.2.2.2.1)))))))))), ((cell_far (p := ⟨gb210, _, none⟩) (by first | exact zn208_3_210 | (rw [add_block]; exact zn208_3_210) | (show (Addr.add _ _).block ≠ _; rw [add_block]; exact zn208_3_210) | (dsimp only; exact zn208_3_210)) _).trans (((cell_far (p := ⟨gb210, _, none⟩) (by first | exact zn208_3_210 | (rw [add_block]; exact zn208_3_210) | (show (Addr.add _ _).block ≠ _; rw [add_block]; exact zn208_3_210) | (dsimp only; exact zn208_3_210)) _).trans (((cell_far (p := ⟨gb210, _, none⟩) (by first | exact zn208_3_210 | (rw [add_block]; exact zn208_3_210) | (show (Addr.add _ _).block ≠ _; rw [add_block]; exact zn208_3_210) | (dsimp only; exact zn208_3_210)) _).trans (((cell_far (p := ⟨gb210, _, none⟩) (by first | exact zn208_3_210 | (rw [add_block]; exact zn208_3_210) | (show (Addr.add _ _).block ≠ _; rw [add_block]; exact zn208_3_210) | (dsimp only; exact zn208_3_210)) _).trans (((cell_far (p := ⟨gb210, _, none⟩) (by first | exact zn208_3_210 | (rw [add_block]; exact zn208_3_210) | (show (Addr.add _ _).block ≠ _; rw [add_block]; exact zn208_3_210) | (dsimp only; exact zn208_3_210)) _).trans (hHeld.2.2.2.2.2.2.2.2.2.2.1)))))))))), ((cell_far (p := ⟨gb210, _, none⟩) (by first | exact zn208_4_210 | (rw [add_block]; exact zn208_4_210) | (show (Addr.add _ _).block ≠ _; rw [add_block]; exact zn208_4_210) | (dsimp only; exact zn208_4_210)) _).trans (((cell_far (p := ⟨gb210, _, none⟩) (by first | exact zn208_4_210 | (rw [add_block]; exact zn208_4_210) | (show (Addr.add _ _).block ≠ _; rw [add_block]; exact zn208_4_210) | (dsimp only; exact zn208_4_210)) _).trans (((cell_far (p := ⟨gb210, _, none⟩) (by first | exact zn208_4_210 | (rw [add_block]; exact zn208_4_210) | (show (Addr.add _ _).block ≠ _; rw [add_block]; exact zn208_4_210) | (dsimp only; exact zn208_4_210)) _).trans (((cell_far (p := ⟨gb210, _, none⟩) (by first | exact zn208_4_210 | (rw [add_block]; exact zn208_4_210) | (show (Addr.add _ _).block ≠ _; rw [add_block]; exact zn208_4_210) | (dsimp only; exact zn208_4_210)) _).trans (((cell_far (p := ⟨gb210, _, none⟩) (by first | exact zn208_4_210 | (rw [add_block]; exact zn208_4_210) | (show (Addr.add _ _).block ≠ _; rw [add_block]; exact zn208_4_210) | (dsimp only; exact zn208_4_210)) _).trans (hHeld.2.2.2.2.2.2.2.2.2.2.2))))))))))⟩ (fun hHeld => ?_)
    clear zn207_0_210 zn207_1_210 zn207_2_210 zn207_3_210 zn207_4_210 zn208_0_210 zn208_1_210 zn208_2_210 zn208_3_210 zn208_4_210
    clear hK K
    refine done_ (done_of HT_.out (by kernel_rfl)) ?_
    try go_wp2
    have n0_ : Aside0 (((((((((((w18.setCell ⟨gb209, 0, none⟩ (.int .i64 ((rd_T185 l0_1 a1).f0))).setCell ⟨gb209, 1, none⟩ (.int .i64 ((rd_T185 l0_1 a1).f1))).setCell ⟨gb209, 2, none⟩ (.int .i64 ((rd_T185 l0_1 a1).f2))).setCell ⟨gb209, 3, none⟩ (.bool ((rd_T185 l0_1 a1).f3))).setCell ⟨gb209, 4, none⟩ (.slice A207_4 ((rd_T185 l0_1 a1).f4).length c207_4)).setCell ⟨gb210, 0, none⟩ (.int .i64 ((rd_T185 l0_1 a2).f0))).setCell ⟨gb210, 1, none⟩ (.int .i64 ((rd_T185 l0_1 a2).f1))).setCell ⟨gb210, 2, none⟩ (.int .i64 ((rd_T185 l0_1 a2).f2))).setCell ⟨gb210, 3, none⟩ (.bool ((rd_T185 l0_1 a2).f3))).setCell ⟨gb210, 4, none⟩ (.slice A208_4 ((rd_T185 l0_1 a2).f4).length c208_4)).heap[gb206]? = some (.cells #[.slice A0_0 l0_0.length c0_0, .slice (some ad207) l0_1.length c0_1] 76 (0, 0))) := ⟨by (with_reducible repeat (first | refine blk_drewN ?_ _ | refine blk_drew ?_ | refine blk_alloc ?_ _)); refine blk_far ?_ NB206_210.out _; (with_reducible repeat (first | refine blk_drewN ?_ _ | refine blk_drew ?_ | refine blk_alloc ?_ _)); refine blk_far ?_ NB206_210.out _; (with_reducible repeat (first | refine blk_drewN ?_ _ | refine blk_drew ?_ | refine blk_alloc ?_ _)); refine blk_far ?_ NB206_210.out _; (with_reducible repeat (first | refine blk_drewN ?_ _ | refine blk_drew ?_ | refine blk_alloc ?_ _)); refine blk_far ?_ NB206_210.out _; (with_reducible repeat (first | refine blk_drewN ?_ _ | refine blk_drew ?_ | refine blk_alloc ?_ _)); refine blk_far ?_ NB206_210.out _; (with_reducible repeat (first | refine blk_drewN ?_ _ | refine blk_drew ?_ | refine blk_alloc ?_ _)); refine blk_far ?_ NB206_209.out _; (with_reducible repeat (first | refine blk_drewN ?_ _ | refine blk_drew ?_ | refine blk_alloc ?_ _)); refine blk_far ?_ NB206_209.out _; (with_reducible repeat (first | refine blk_drewN ?_ _ | refine blk_drew ?_ | refine blk_alloc ?_ _)); refine blk_far ?_ NB206_209.out _; (with_reducible repeat (first | refine blk_drewN ?_ _ | refine blk_drew ?_ | refine blk_alloc ?_ _)); refine blk_far ?_ NB206_209.out _; (with_reducible repeat (first | refine blk_drewN ?_ _ | refine blk_drew ?_ | refine blk_alloc ?_ _)); refine blk_far ?_ NB206_209.out _; (with_reducible repeat (first | refine blk_drewN ?_ _ | refine blk_drew ?_ | refine blk_alloc ?_ _)); exact BK206.out⟩
    have n1_ : Aside0 (((((((((((w18.setCell ⟨gb209, 0, none⟩ (.int .i64 ((rd_T185 l0_1 a1).f0))).setCell ⟨gb209, 1, none⟩ (.int .i64 ((rd_T185 l0_1 a1).f1))).setCell ⟨gb209, 2, none⟩ (.int .i64 ((rd_T185 l0_1 a1).f2))).setCell ⟨gb209, 3, none⟩ (.bool ((rd_T185 l0_1 a1).f3))).setCell ⟨gb209, 4, none⟩ (.slice A207_4 ((rd_T185 l0_1 a1).f4).length c207_4)).setCell ⟨gb210, 0, none⟩ (.int .i64 ((rd_T185 l0_1 a2).f0))).setCell ⟨gb210, 1, none⟩ (.int .i64 ((rd_T185 l0_1 a2).f1))).setCell ⟨gb210, 2, none⟩ (.int .i64 ((rd_T185 l0_1 a2).f2))).setCell ⟨gb210, 3, none⟩ (.bool ((rd_T185 l0_1 a2).f3))).setCell ⟨gb210, 4, none⟩ (.slice A208_4 ((rd_T185 l0_1 a2).f4).length c208_4)).heap[gb209]? = some (.cells #[.int .i64 ((rd_T185 l0_1 a1).f0), .int .i64 ((rd_T185 l0_1 a1).f1), .int .i64 ((rd_T185 l0_1 a1).f2), .bool ((rd_T185 l0_1 a1).f3), .slice A207_4 ((rd_T185 l0_1 a1).f4).length c207_4] 185 (0, 0))) := ⟨by (with_reducible repeat (first | refine blk_drewN ?_ _ | refine blk_drew ?_ | refine blk_alloc ?_ _)); refine blk_far ?_ NB209_210.out _; (with_reducible repeat (first | refine blk_drewN ?_ _ | refine blk_drew ?_ | refine blk_alloc ?_ _)); refine blk_far ?_ NB209_210.out _; (with_reducible repeat (first | refine blk_drewN ?_ _ | refine blk_drew ?_ | refine blk_alloc ?_ _)); refine blk_far ?_ NB209_210.out _; (with_reducible repeat (first | refine blk_drewN ?_ _ | refine blk_drew ?_ | refine blk_alloc ?_ _)); refine blk_far ?_ NB209_210.out _; (with_reducible repeat (first | refine blk_drewN ?_ _ | refine blk_drew ?_ | refine blk_alloc ?_ _)); refine blk_far ?_ NB209_210.out _; (with_reducible repeat (first | refine blk_drewN ?_ _ | refine blk_drew ?_ | refine blk_alloc ?_ _)); refine blk_put (cs := #[.int .i64 ((rd_T185 l0_1 a1).f0), .int .i64 ((rd_T185 l0_1 a1).f1), .int .i64 ((rd_T185 l0_1 a1).f2), .bool ((rd_T185 l0_1 a1).f3), .slice none 0 0]) ?_ 4 _ rfl; (with_reducible repeat (first | refine blk_drewN ?_ _ | refine blk_drew ?_ | refine blk_alloc ?_ _)); refine blk_put (cs := #[.int .i64 ((rd_T185 l0_1 a1).f0), .int .i64 ((rd_T185 l0_1 a1).f1), .int .i64 ((rd_T185 l0_1 a1).f2), .bool false, .slice none 0 0]) ?_ 3 _ rfl; (with_reducible repeat (first | refine blk_drewN ?_ _ | refine blk_drew ?_ | refine blk_alloc ?_ _)); refine blk_put (cs := #[.int .i64 ((rd_T185 l0_1 a1).f0), .int .i64 ((rd_T185 l0_1 a1).f1), .int .i64 0, .bool false, .slice none 0 0]) ?_ 2 _ rfl; (with_reducible repeat (first | refine blk_drewN ?_ _ | refine blk_drew ?_ | refine blk_alloc ?_ _)); refine blk_put (cs := #[.int .i64 ((rd_T185 l0_1 a1).f0), .int .i64 0, .int .i64 0, .bool false, .slice none 0 0]) ?_ 1 _ rfl; (with_reducible repeat (first | refine blk_drewN ?_ _ | refine blk_drew ?_ | refine blk_alloc ?_ _)); refine blk_put (cs := #[.int .i64 0, .int .i64 0, .int .i64 0, .bool false, .slice none 0 0]) ?_ 0 _ rfl; (with_reducible repeat (first | refine blk_drewN ?_ _ | refine blk_drew ?_ | refine blk_alloc ?_ _)); exact BK209.out⟩
    have n2_ : Aside0 (((((((((((w18.setCell ⟨gb209, 0, none⟩ (.int .i64 ((rd_T185 l0_1 a1).f0))).setCell ⟨gb209, 1, none⟩ (.int .i64 ((rd_T185 l0_1 a1).f1))).setCell ⟨gb209, 2, none⟩ (.int .i64 ((rd_T185 l0_1 a1).f2))).setCell ⟨gb209, 3, none⟩ (.bool ((rd_T185 l0_1 a1).f3))).setCell ⟨gb209, 4, none⟩ (.slice A207_4 ((rd_T185 l0_1 a1).f4).length c207_4)).setCell ⟨gb210, 0, none⟩ (.int .i64 ((rd_T185 l0_1 a2).f0))).setCell ⟨gb210, 1, none⟩ (.int .i64 ((rd_T185 l0_1 a2).f1))).setCell ⟨gb210, 2, none⟩ (.int .i64 ((rd_T185 l0_1 a2).f2))).setCell ⟨gb210, 3, none⟩ (.bool ((rd_T185 l0_1 a2).f3))).setCell ⟨gb210, 4, none⟩ (.slice A208_4 ((rd_T185 l0_1 a2).f4).length c208_4)).heap[gb210]? = some (.cells #[.int .i64 ((rd_T185 l0_1 a2).f0), .int .i64 ((rd_T185 l0_1 a2).f1), .int .i64 ((rd_T185 l0_1 a2).f2), .bool ((rd_T185 l0_1 a2).f3), .slice A208_4 ((rd_T185 l0_1 a2).f4).length c208_4] 185 (0, 0))) := ⟨by (with_reducible repeat (first | refine blk_drewN ?_ _ | refine blk_drew ?_ | refine blk_alloc ?_ _)); refine blk_put (cs := #[.int .i64 ((rd_T185 l0_1 a2).f0), .int .i64 ((rd_T185 l0_1 a2).f1), .int .i64 ((rd_T185 l0_1 a2).f2), .bool ((rd_T185 l0_1 a2).f3), .slice none 0 0]) ?_ 4 _ rfl; (with_reducible repeat (first | refine blk_drewN ?_ _ | refine blk_drew ?_ | refine blk_alloc ?_ _)); refine blk_put (cs := #[.int .i64 ((rd_T185 l0_1 a2).f0), .int .i64 ((rd_T185 l0_1 a2).f1), .int .i64 ((rd_T185 l0_1 a2).f2), .bool false, .slice none 0 0]) ?_ 3 _ rfl; (with_reducible repeat (first | refine blk_drewN ?_ _ | refine blk_drew ?_ | refine blk_alloc ?_ _)); refine blk_put (cs := #[.int .i64 ((rd_T185 l0_1 a2).f0), .int .i64 ((rd_T185 l0_1 a2).f1), .int .i64 0, .bool false, .slice none 0 0]) ?_ 2 _ rfl; (with_reducible repeat (first | refine blk_drewN ?_ _ | refine blk_drew ?_ | refine blk_alloc ?_ _)); refine blk_put (cs := #[.int .i64 ((rd_T185 l0_1 a2).f0), .int .i64 0, .int .i64 0, .bool false, .slice none 0 0]) ?_ 1 _ rfl; (with_reducible repeat (first | refine blk_drewN ?_ _ | refine blk_drew ?_ | refine blk_alloc ?_ _)); refine blk_put (cs := #[.int .i64 0, .int .i64 0, .int .i64 0, .bool false, .slice none 0 0]) ?_ 0 _ rfl; (with_reducible repeat (first | refine blk_drewN ?_ _ | refine blk_drew ?_ | refine blk_alloc ?_ _)); refine blk_far ?_ NB210_209.out _; (with_reducible repeat (first | refine blk_drewN ?_ _ | refine blk_drew ?_ | refine blk_alloc ?_ _)); refine blk_far ?_ NB210_209.out _; (with_reducible repeat (first | refine blk_drewN ?_ _ | refine blk_drew ?_ | refine blk_alloc ?_ _)); refine blk_far ?_ NB210_209.out _; (with_reducible repeat (first | refine blk_drewN ?_ _ | refine blk_drew ?_ | refine blk_alloc ?_ _)); refine blk_far ?_ NB210_209.out _; (with_reducible repeat (first | refine blk_drewN ?_ _ | refine blk_drew ?_ | refine blk_alloc ?_ _)); refine blk_far ?_ NB210_209.out _; (with_reducible repeat (first | refine blk_drewN ?_ _ | refine blk_drew ?_ | refine blk_alloc ?_ _)); exact BK210.out⟩
    have n3_ : Aside0 (Below w.heap.size w ((((((((((w18.setCell ⟨gb209, 0, none⟩ (.int .i64 ((rd_T185 l0_1 a1).f0))).setCell ⟨gb209, 1, none⟩ (.int .i64 ((rd_T185 l0_1 a1).f1))).setCell ⟨gb209, 2, none⟩ (.int .i64 ((rd_T185 l0_1 a1).f2))).setCell ⟨gb209, 3, none⟩ (.bool ((rd_T185 l0_1 a1).f3))).setCell ⟨gb209, 4, none⟩ (.slice A207_4 ((rd_T185 l0_1 a1).f4).length c207_4)).setCell ⟨gb210, 0, none⟩ (.int .i64 ((rd_T185 l0_1 a2).f0))).setCell ⟨gb210, 1, none⟩ (.int .i64 ((rd_T185 l0_1 a2).f1))).setCell ⟨gb210, 2, none⟩ (.int .i64 ((rd_T185 l0_1 a2).f2))).setCell ⟨gb210, 3, none⟩ (.bool ((rd_T185 l0_1 a2).f3))).setCell ⟨gb210, 4, none⟩ (.slice A208_4 ((rd_T185 l0_1 a2).f4).length c208_4))) := ⟨by repeat (first | (with_reducible first | exact HB.out | apply below_alloc | apply pw_below_drewN | apply below_drew1 | refine below_set ?_ GE206.out | refine below_set ?_ GE209.out | refine below_set ?_ GE210.out) | exact HB.out)⟩
    (try clear BK206)
    (try clear BK209)
    (try clear BK210)
    (try clear HB)
    generalize ((((((((((w18.setCell ⟨gb209, 0, none⟩ (.int .i64 ((rd_T185 l0_1 a1).f0))).setCell ⟨gb209, 1, none⟩ (.int .i64 ((rd_T185 l0_1 a1).f1))).setCell ⟨gb209, 2, none⟩ (.int .i64 ((rd_T185 l0_1 a1).f2))).setCell ⟨gb209, 3, none⟩ (.bool ((rd_T185 l0_1 a1).f3))).setCell ⟨gb209, 4, none⟩ (.slice A207_4 ((rd_T185 l0_1 a1).f4).length c207_4)).setCell ⟨gb210, 0, none⟩ (.int .i64 ((rd_T185 l0_1 a2).f0))).setCell ⟨gb210, 1, none⟩ (.int .i64 ((rd_T185 l0_1 a2).f1))).setCell ⟨gb210, 2, none⟩ (.int .i64 ((rd_T185 l0_1 a2).f2))).setCell ⟨gb210, 3, none⟩ (.bool ((rd_T185 l0_1 a2).f3))).setCell ⟨gb210, 4, none⟩ (.slice A208_4 ((rd_T185 l0_1 a2).f4).length c208_4)) = w29 at n0_ n1_ n2_ n3_ ⊢
    have BK206 := n0_
    have BK209 := n1_
    have BK210 := n2_
    have HB := n3_
    clear n0_ n1_ n2_ n3_
    have n0_ := Aside0.mk (blk_drew BK206.out)
    have n1_ := Aside0.mk (blk_drew BK209.out)
    have n2_ := Aside0.mk (blk_drew BK210.out)
    have n3_ := Aside0.mk (below_drew1 HB.out)
    clear BK206
    clear BK209
    clear BK210
    clear HB
    have BK206 := n0_
    have BK209 := n1_
    have BK210 := n2_
    have HB := n3_
    clear n0_ n1_ n2_ n3_
    have p211 : 0 ≤ (((rd_T185 l0_1 a2).f0) : Int) := of_decide_eq_true (by first | (with_reducible assumption) | assumption)
    have q211 : ((rd_T185 l0_1 a2).f0) < (l0_0.length : Int) := of_decide_eq_true (by first | (with_reducible assumption) | assumption)
    obtain ⟨ad211, e211, hx211_0, hx211_1, hx211_2⟩ := at_T186 HR0_0.out ((rd_T185 l0_1 a2).f0) p211 q211
    have hw211_2 := hx211_2
    have hw211_1 := hx211_1
    have hw211_0 := hx211_0
    cases e211
    replace hx211_0 := (HB.out.cell (World.block_lt_of_cell? w _ hx211_0)).trans hx211_0
    replace hx211_1 := (HB.out.cell (World.block_lt_of_cell? w _ hx211_1)).trans hx211_1
    replace hx211_2 := (HB.out.cell (World.block_lt_of_cell? w _ hx211_2)).trans hx211_2
    replace p211 := eq_true p211
    replace q211 := eq_true q211
    have p212 : 0 ≤ (((rd_T185 l0_1 a1).f0) : Int) := of_decide_eq_true (by first | (with_reducible assumption) | assumption)
    have q212 : ((rd_T185 l0_1 a1).f0) < (l0_0.length : Int) := of_decide_eq_true (by first | (with_reducible assumption) | assumption)
    obtain ⟨ad212, e212, hx212_0, hx212_1, hx212_2⟩ := at_T186 HR0_0.out ((rd_T185 l0_1 a1).f0) p212 q212
    have hw212_2 := hx212_2
    have hw212_1 := hx212_1
    have hw212_0 := hx212_0
    obtain rfl : ad211 = ad212 := (by injection e212)
    replace hx212_0 := (HB.out.cell (World.block_lt_of_cell? w _ hx212_0)).trans hx212_0
    replace hx212_1 := (HB.out.cell (World.block_lt_of_cell? w _ hx212_1)).trans hx212_1
    replace hx212_2 := (HB.out.cell (World.block_lt_of_cell? w _ hx212_2)).trans hx212_2
    replace p212 := eq_true p212
    replace q212 := eq_true q212
    refine start_ (n := 22) (S := fun w' => w'.cell? ⟨gb209, 0, none⟩ = some (.int .i64 ((rd_T185 l0_1 a1).f0)) ∧ w'.cell? ⟨gb209, 1, none⟩ = some (.int .i64 ((rd_T185 l0_1 a1).f1)) ∧ w'.cell? ⟨gb209, 2, none⟩ = some (.int .i64 ((rd_T185 l0_1 a1).f2)) ∧ w'.cell? ⟨gb209, 3, none⟩ = some (.bool ((rd_T185 l0_1 a1).f3)) ∧ w'.cell? ⟨gb209, 4, none⟩ = some (.slice A207_4 ((rd_T185 l0_1 a1).f4).length c207_4) ∧ w'.cell? ⟨gb206, 0, none⟩ = some (.slice (some ad211) l0_0.length c0_0) ∧ w'.cell? ⟨gb206, 1, none⟩ = some (.slice (some ad207) l0_1.length c0_1) ∧ w'.cell? ⟨gb210, 0, none⟩ = some (.int .i64 ((rd_T185 l0_1 a2).f0)) ∧ w'.cell? ⟨gb210, 1, none⟩ = some (.int .i64 ((rd_T185 l0_1 a2).f1)) ∧ w'.cell? ⟨gb210, 2, none⟩ = some (.int .i64 ((rd_T185 l0_1 a2).f2)) ∧ w'.cell? ⟨gb210, 3, none⟩ = some (.bool ((rd_T185 l0_1 a2).f3)) ∧ w'.cell? ⟨gb210, 4, none⟩ = some (.slice A208_4 ((rd_T185 l0_1 a2).f4).length c208_4) ∧ w'.cell? (ad211.add ((((rd_T185 l0_1 a2).f0)).toNat * 3)) = some (.int .i64 ((rd_T186 l0_0 ((rd_T185 l0_1 a2).f0)).f0)) ∧ w'.cell? ⟨(ad211.add ((((rd_T185 l0_1 a2).f0)).toNat * 3)).block, (ad211.add ((((rd_T185 l0_1 a2).f0)).toNat * 3)).off + 1, none⟩ = some (.int .i64 ((rd_T186 l0_0 ((rd_T185 l0_1 a2).f0)).f1)) ∧ w'.cell? ⟨(ad211.add ((((rd_T185 l0_1 a2).f0)).toNat * 3)).block, (ad211.add ((((rd_T185 l0_1 a2).f0)).toNat * 3)).off + 2, none⟩ = some (.string ((rd_T186 l0_0 ((rd_T185 l0_1 a2).f0)).f2)) ∧ w'.cell? (ad211.add ((((rd_T185 l0_1 a1).f0)).toNat * 3)) = some (.int .i64 ((rd_T186 l0_0 ((rd_T185 l0_1 a1).f0)).f0)) ∧ w'.cell? ⟨(ad211.add ((((rd_T185 l0_1 a1).f0)).toNat * 3)).block, (ad211.add ((((rd_T185 l0_1 a1).f0)).toNat * 3)).off + 1, none⟩ = some (.int .i64 ((rd_T186 l0_0 ((rd_T185 l0_1 a1).f0)).f1)) ∧ w'.cell? ⟨(ad211.add ((((rd_T185 l0_1 a1).f0)).toNat * 3)).block, (ad211.add ((((rd_T185 l0_1 a1).f0)).toNat * 3)).off + 2, none⟩ = some (.string ((rd_T186 l0_0 ((rd_T185 l0_1 a1).f0)).f2))) (ds := []) #[false, false, false, false, false, false, false, false, false, false, false, false, false, false, false, false, false, false, false, false, false, false] (by kernel_rfl) rfl rfl ⟨(blk_cell BK209.out 0).trans rfl, (blk_cell BK209.out 1).trans rfl, (blk_cell BK209.out 2).trans rfl, (blk_cell BK209.out 3).trans rfl, (blk_cell BK209.out 4).trans rfl, (blk_cell BK206.out 0).trans rfl, (blk_cell BK206.out 1).trans rfl, (blk_cell BK210.out 0).trans rfl, (blk_cell BK210.out 1).trans rfl, (blk_cell BK210.out 2).trans rfl, (blk_cell BK210.out 3).trans rfl, (blk_cell BK210.out 4).trans rfl, ((HB.out.cell (World.block_lt_of_cell? w _ hw211_0)).trans hw211_0), ((HB.out.cell (World.block_lt_of_cell? w _ hw211_1)).trans hw211_1), ((HB.out.cell (World.block_lt_of_cell? w _ hw211_2)).trans hw211_2), ((HB.out.cell (World.block_lt_of_cell? w _ hw212_0)).trans hw212_0), ((HB.out.cell (World.block_lt_of_cell? w _ hw212_1)).trans hw212_1), ((HB.out.cell (World.block_lt_of_cell? w _ hw212_2)).trans hw212_2)⟩ (fun hHeld => ?_); refine with_tabW impl_zearlier.tab2 impl_zearlier.bits2 (fun HT_ HW_ => ?_)
    generalize w29.drew = w30 at BK206 BK209 BK210 HB hx211_0 hx211_1 hx211_2 hx212_0 hx212_1 hx212_2 hHeld ⊢
    refine pure_ (i := 0) (N := some 21) (v := ?_) (a' := ?_) #[true, false, false, false, false, false, false, false, false, false, false, false, false, false, false, false, false, false, false, false, false, false] rfl rfl (any_of HT_.out (by kernel_rfl)) (fun _ _ _ h => h) (Or.inl ⟨by rfl, ?_⟩) ?_ ?_
    rotate_left
    · intro w'
      go_simp
      with_reducible rfl
    rotate_left
    · simp only [Act.put, List.setIfInBounds_toArray, List.set_cons_zero, List.set_cons_succ, i64_w, i32_w]
      rfl
    refine pure_ (i := 2) (N := some 23) (v := ?_) (a' := ?_) #[true, false, true, false, false, false, false, false, false, false, false, false, false, false, false, false, false, false, false, false, false, false] rfl rfl (any_of HT_.out (by kernel_rfl)) (fun _ _ _ h => h) (Or.inl ⟨by rfl, ?_⟩) ?_ ?_
    rotate_left
    · intro w'
      go_simp
      with_reducible rfl
    rotate_left
    · simp only [Act.put, List.setIfInBounds_toArray, List.set_cons_zero, List.set_cons_succ, i64_w, i32_w]
      rfl
    refine pure_ (i := 4) (N := some 25) (v := ?_) (a' := ?_) #[true, false, true, false, true, false, false, false, false, false, false, false, false, false, false, false, false, false, false, false, false, false] rfl rfl (any_of HT_.out (by kernel_rfl)) (fun _ _ _ h => h) (Or.inl ⟨by rfl, ?_⟩) ?_ ?_
    rotate_left
    · intro w'
      go_simp
      with_reducible rfl
    rotate_left
    · simp only [Act.put, List.setIfInBounds_toArray, List.set_cons_zero, List.set_cons_succ, i64_w, i32_w]
      rfl
    refine pure_ (i := 10) (N := some 31) (v := ?_) (a' := ?_) #[true, false, true, false, true, false, false, false, false, false, true, false, false, false, false, false, false, false, false, false, false, false] rfl rfl (any_of HT_.out (by kernel_rfl)) (fun _ _ _ h => h) (Or.inl ⟨by rfl, ?_⟩) ?_ ?_
    rotate_left
    · intro w'
      go_simp
      with_reducible rfl
    rotate_left
    · simp only [Act.put, List.setIfInBounds_toArray, List.set_cons_zero, List.set_cons_succ, i64_w, i32_w]
      rfl
    refine pure_ (i := 12) (N := some 33) (v := ?_) (a' := ?_) #[true, false, true, false, true, false, false, false, false, false, true, false, true, false, false, false, false, false, false, false, false, false] rfl rfl (any_of HT_.out (by kernel_rfl)) (fun _ _ _ h => h) (Or.inl ⟨by rfl, ?_⟩) ?_ ?_
    rotate_left
    · intro w'
      go_simp
      with_reducible rfl
    rotate_left
    · simp only [Act.put, List.setIfInBounds_toArray, List.set_cons_zero, List.set_cons_succ, i64_w, i32_w]
      rfl
    refine pure_ (i := 14) (N := some 35) (v := ?_) (a' := ?_) #[true, false, true, false, true, false, false, false, false, false, true, false, true, false, true, false, false, false, false, false, false, false] rfl rfl (any_of HT_.out (by kernel_rfl)) (fun _ _ _ h => h) (Or.inl ⟨by rfl, ?_⟩) ?_ ?_
    rotate_left
    · intro w'
      go_simp
      with_reducible rfl
    rotate_left
    · simp only [Act.put, List.setIfInBounds_toArray, List.set_cons_zero, List.set_cons_succ, i64_w, i32_w]
      rfl
    refine take_ (i := 1) (N := some 22) (v := ?_) (a' := ?_) #[true, true, true, false, true, false, false, false, false, false, true, false, true, false, true, false, false, false, false, false, false, false] rfl rfl (take_ofW HT_.out HW_.out (by kernel_rfl)) (fun _ _ _ h => h) (Or.inl ⟨by rfl, ?_⟩) hHeld ?_ ?_
    rotate_left
    · rintro w' ⟨s0, s1, s2, s3, s4, s5, s6, s7, s8, s9, s10, s11, s12, s13, s14, s15, s16, s17⟩
      go_simp
      with_reducible rfl
    rotate_left
    · simp only [Act.put, List.setIfInBounds_toArray, List.set_cons_zero, List.set_cons_succ, i64_w, i32_w]
      rfl
    refine take_ (i := 3) (N := some 24) (v := ?_) (a' := ?_) #[true, true, true, true, true, false, false, false, false, false, true, false, true, false, true, false, false, false, false, false, false, false] rfl rfl (take_ofW HT_.out HW_.out (by kernel_rfl)) (fun _ _ _ h => h) (Or.inl ⟨by rfl, ?_⟩) hHeld ?_ ?_
    rotate_left
    · rintro w' ⟨s0, s1, s2, s3, s4, s5, s6, s7, s8, s9, s10, s11, s12, s13, s14, s15, s16, s17⟩
      go_simp
      with_reducible rfl
    rotate_left
    · simp only [Act.put, List.setIfInBounds_toArray, List.set_cons_zero, List.set_cons_succ, i64_w, i32_w]
      rfl
    refine take_ (i := 5) (N := some 26) (v := ?_) (a' := ?_) #[true, true, true, true, true, true, false, false, false, false, true, false, true, false, true, false, false, false, false, false, false, false] rfl rfl (take_ofW HT_.out HW_.out (by kernel_rfl)) (fun _ _ _ h => h) (Or.inl ⟨by rfl, ?_⟩) hHeld ?_ ?_
    rotate_left
    · rintro w' ⟨s0, s1, s2, s3, s4, s5, s6, s7, s8, s9, s10, s11, s12, s13, s14, s15, s16, s17⟩
      go_simp
      with_reducible rfl
    rotate_left
    · simp only [Act.put, List.setIfInBounds_toArray, List.set_cons_zero, List.set_cons_succ, i64_w, i32_w]
      rfl
    refine pure_ (i := 6) (N := some 27) (v := ?_) (a' := ?_) #[true, true, true, true, true, true, true, false, false, false, true, false, true, false, true, false, false, false, false, false, false, false] rfl rfl (any_of HT_.out (by kernel_rfl)) (fun _ _ _ h => h) (Or.inl ⟨by rfl, ?_⟩) ?_ ?_
    rotate_left
    · intro w'
      go_simp
      with_reducible rfl
    rotate_left
    · simp only [Act.put, List.setIfInBounds_toArray, List.set_cons_zero, List.set_cons_succ, i64_w, i32_w]
      rfl
    refine pure_ (i := 7) (N := some 28) (v := ?_) (a' := ?_) #[true, true, true, true, true, true, true, true, false, false, true, false, true, false, true, false, false, false, false, false, false, false] rfl rfl (any_of HT_.out (by kernel_rfl)) (fun _ _ _ h => h) (Or.inl ⟨by rfl, ?_⟩) ?_ ?_
    rotate_left
    · intro w'
      go_simp
      with_reducible rfl
    rotate_left
    · simp only [Act.put, List.setIfInBounds_toArray, List.set_cons_zero, List.set_cons_succ, i64_w, i32_w]
      rfl
    refine take_ (i := 8) (N := some 29) (v := ?_) (a' := ?_) #[true, true, true, true, true, true, true, true, true, false, true, false, true, false, true, false, false, false, false, false, false, false] rfl rfl (take_ofW HT_.out HW_.out (by kernel_rfl)) (fun _ _ _ h => h) (Or.inl ⟨by rfl, ?_⟩) hHeld ?_ ?_
    rotate_left
    · rintro w' ⟨s0, s1, s2, s3, s4, s5, s6, s7, s8, s9, s10, s11, s12, s13, s14, s15, s16, s17⟩
      go_simp
      with_reducible rfl
    rotate_left
    · simp only [Act.put, List.setIfInBounds_toArray, List.set_cons_zero, List.set_cons_succ, i64_w, i32_w]
      rfl
    refine pure_ (i := 9) (N := some 30) (v := ?_) (a' := ?_) #[true, true, true, true, true, true, true, true, true, true, true, false, true, false, true, false, false, false, false, false, false, false] rfl rfl (any_of HT_.out (by kernel_rfl)) (fun _ _ _ h => h) (Or.inl ⟨by rfl, ?_⟩) ?_ ?_
    rotate_left
    · intro w'
      go_simp
      with_reducible rfl
    rotate_left
    · simp only [Act.put, List.setIfInBounds_toArray, List.set_cons_zero, List.set_cons_succ, i64_w, i32_w]
      rfl
    refine pure_ (i := 20) (N := some 9) (v := ?_) (a' := ?_) #[true, true, true, true, true, true, true, true, true, true, true, false, true, false, true, false, false, false, false, false, true, false] rfl rfl (any_of HT_.out (by kernel_rfl)) (fun _ _ _ h => h) (Or.inl ⟨by rfl, ?_⟩) ?_ ?_
    rotate_left
    · intro w'
      go_simp
      with_reducible rfl
    rotate_left
    · simp only [Act.put, List.setIfInBounds_toArray, List.set_cons_zero, List.set_cons_succ, i64_w, i32_w]
      rfl
    refine take_ (i := 11) (N := some 32) (v := ?_) (a' := ?_) #[true, true, true, true, true, true, true, true, true, true, true, true, true, false, true, false, false, false, false, false, true, false] rfl rfl (take_ofW HT_.out HW_.out (by kernel_rfl)) (fun _ _ _ h => h) (Or.inl ⟨by rfl, ?_⟩) hHeld ?_ ?_
    rotate_left
    · rintro w' ⟨s0, s1, s2, s3, s4, s5, s6, s7, s8, s9, s10, s11, s12, s13, s14, s15, s16, s17⟩
      go_simp
      with_reducible rfl
    rotate_left
    · simp only [Act.put, List.setIfInBounds_toArray, List.set_cons_zero, List.set_cons_succ, i64_w, i32_w]
      rfl
    refine take_ (i := 13) (N := some 34) (v := ?_) (a' := ?_) #[true, true, true, true, true, true, true, true, true, true, true, true, true, true, true, false, false, false, false, false, true, false] rfl rfl (take_ofW HT_.out HW_.out (by kernel_rfl)) (fun _ _ _ h => h) (Or.inl ⟨by rfl, ?_⟩) hHeld ?_ ?_
    rotate_left
    · rintro w' ⟨s0, s1, s2, s3, s4, s5, s6, s7, s8, s9, s10, s11, s12, s13, s14, s15, s16, s17⟩
      go_simp
      with_reducible rfl
    rotate_left
    · simp only [Act.put, List.setIfInBounds_toArray, List.set_cons_zero, List.set_cons_succ, i64_w, i32_w]
      rfl
    refine take_ (i := 15) (N := some 36) (v := ?_) (a' := ?_) #[true, true, true, true, true, true, true, true, true, true, true, true, true, true, true, true, false, false, false, false, true, false] rfl rfl (take_ofW HT_.out HW_.out (by kernel_rfl)) (fun _ _ _ h => h) (Or.inl ⟨by rfl, ?_⟩) hHeld ?_ ?_
    rotate_left
    · rintro w' ⟨s0, s1, s2, s3, s4, s5, s6, s7, s8, s9, s10, s11, s12, s13, s14, s15, s16, s17⟩
      go_simp
      with_reducible rfl
    rotate_left
    · simp only [Act.put, List.setIfInBounds_toArray, List.set_cons_zero, List.set_cons_succ, i64_w, i32_w]
      rfl
    refine pure_ (i := 16) (N := some 37) (v := ?_) (a' := ?_) #[true, true, true, true, true, true, true, true, true, true, true, true, true, true, true, true, true, false, false, false, true, false] rfl rfl (any_of HT_.out (by kernel_rfl)) (fun _ _ _ h => h) (Or.inl ⟨by rfl, ?_⟩) ?_ ?_
    rotate_left
    · intro w'
      go_simp
      with_reducible rfl
    rotate_left
    · simp only [Act.put, List.setIfInBounds_toArray, List.set_cons_zero, List.set_cons_succ, i64_w, i32_w]
      rfl
    refine pure_ (i := 17) (N := some 38) (v := ?_) (a' := ?_) #[true, true, true, true, true, true, true, true, true, true, true, true, true, true, true, true, true, true, false, false, true, false] rfl rfl (any_of HT_.out (by kernel_rfl)) (fun _ _ _ h => h) (Or.inl ⟨by rfl, ?_⟩) ?_ ?_
    rotate_left
    · intro w'
      go_simp
      with_reducible rfl
    rotate_left
    · simp only [Act.put, List.setIfInBounds_toArray, List.set_cons_zero, List.set_cons_succ, i64_w, i32_w]
      rfl
    refine take_ (i := 18) (N := some 39) (v := ?_) (a' := ?_) #[true, true, true, true, true, true, true, true, true, true, true, true, true, true, true, true, true, true, true, false, true, false] rfl rfl (take_ofW HT_.out HW_.out (by kernel_rfl)) (fun _ _ _ h => h) (Or.inl ⟨by rfl, ?_⟩) hHeld ?_ ?_
    rotate_left
    · rintro w' ⟨s0, s1, s2, s3, s4, s5, s6, s7, s8, s9, s10, s11, s12, s13, s14, s15, s16, s17⟩
      go_simp
      with_reducible rfl
    rotate_left
    · simp only [Act.put, List.setIfInBounds_toArray, List.set_cons_zero, List.set_cons_succ, i64_w, i32_w]
      rfl
    refine pure_ (i := 19) (N := some 40) (v := ?_) (a' := ?_) #[true, true, true, true, true, true, true, true, true, true, true, true, true, true, true, true, true, true, true, true, true, false] rfl rfl (any_of HT_.out (by kernel_rfl)) (fun _ _ _ h => h) (Or.inl ⟨by rfl, ?_⟩) ?_ ?_
    rotate_left
    · intro w'
      go_simp
      with_reducible rfl
    rotate_left
    · simp only [Act.put, List.setIfInBounds_toArray, List.set_cons_zero, List.set_cons_succ, i64_w, i32_w]
      rfl
    refine pure_ (i := 21) (N := some 10) (v := ?_) (a' := ?_) #[true, true, true, true, true, true, true, true, true, true, true, true, true, true, true, true, true, true, true, true, true, true] rfl rfl (any_of HT_.out (by kernel_rfl)) (fun _ _ _ h => h) (Or.inl ⟨by rfl, ?_⟩) ?_ ?_
    rotate_left
    · intro w'
      go_simp
      with_reducible rfl
    rotate_left
    · simp only [Act.put, List.setIfInBounds_toArray, List.set_cons_zero, List.set_cons_succ, i64_w, i32_w]
      rfl
    refine done_ (done_of HT_.out (by kernel_rfl)) ?_
  · try go_wp2
    go_ret
    exact ⟨by first | rfl | (simp [errW_none, errW_some] <;> rfl) | (simp [*, errW_none, errW_some] <;> rfl), by repeat (first | (with_reducible first | exact HB.out | apply below_alloc | apply pw_below_drewN | apply below_drew1 | refine below_set ?_ GE206.out | refine below_set ?_ GE209.out | refine below_set ?_ GE210.out) | exact HB.out)⟩
  · have hnb31 := NB209_206.out
    have hnc31 := NB206_209.out
    have hnb32 := NB209_210.out
    have hnc32 := NB210_209.out
    have hcz33_0 : w30.cell? ⟨gb209, 0, none⟩ = some (.int .i64 ((rd_T185 l0_1 a1).f0)) := (blk_cell BK209.out 0).trans rfl
    have hcz33_1 : w30.cell? ⟨gb209, 1, none⟩ = some (.int .i64 ((rd_T185 l0_1 a1).f1)) := (blk_cell BK209.out 1).trans rfl
    have hcz33_2 : w30.cell? ⟨gb209, 2, none⟩ = some (.int .i64 ((rd_T185 l0_1 a1).f2)) := (blk_cell BK209.out 2).trans rfl
    have hcz33_3 : w30.cell? ⟨gb209, 3, none⟩ = some (.bool ((rd_T185 l0_1 a1).f3)) := (blk_cell BK209.out 3).trans rfl
    have hcz33_4 : w30.cell? ⟨gb209, 4, none⟩ = some (.slice A207_4 ((rd_T185 l0_1 a1).f4).length c207_4) := (blk_cell BK209.out 4).trans rfl
    have hfz33_0 := blk_frozen BK209.out 0
    have hfz33_1 := blk_frozen BK209.out 1
    have hfz33_2 := blk_frozen BK209.out 2
    have hfz33_3 := blk_frozen BK209.out 3
    have hfz33_4 := blk_frozen BK209.out 4
    have hnb34 := NB210_206.out
    have hnc34 := NB206_210.out
    have hcz35_0 : w30.cell? ⟨gb210, 0, none⟩ = some (.int .i64 ((rd_T185 l0_1 a2).f0)) := (blk_cell BK210.out 0).trans rfl
    have hcz35_1 : w30.cell? ⟨gb210, 1, none⟩ = some (.int .i64 ((rd_T185 l0_1 a2).f1)) := (blk_cell BK210.out 1).trans rfl
    have hcz35_2 : w30.cell? ⟨gb210, 2, none⟩ = some (.int .i64 ((rd_T185 l0_1 a2).f2)) := (blk_cell BK210.out 2).trans rfl
    have hcz35_3 : w30.cell? ⟨gb210, 3, none⟩ = some (.bool ((rd_T185 l0_1 a2).f3)) := (blk_cell BK210.out 3).trans rfl
    have hcz35_4 : w30.cell? ⟨gb210, 4, none⟩ = some (.slice A208_4 ((rd_T185 l0_1 a2).f4).length c208_4) := (blk_cell BK210.out 4).trans rfl
    have hfz35_0 := blk_frozen BK210.out 0
    have hfz35_1 := blk_frozen BK210.out 1
    have hfz35_2 := blk_frozen BK210.out 2
    have hfz35_3 := blk_frozen BK210.out 3
    have hfz35_4 := blk_frozen BK210.out 4
    try go_wp2
    go_ret
    exact ⟨by first | rfl | (simp [errW_none, errW_some] <;> rfl) | (simp [*, errW_none, errW_some] <;> rfl), by repeat (first | (with_reducible first | exact HB.out | apply below_alloc | apply pw_below_drewN | apply below_drew1 | refine below_set ?_ GE206.out | refine below_set ?_ GE209.out | refine below_set ?_ GE210.out) | exact HB.out)⟩
  · have hnb31 := NB209_206.out
    have hnc31 := NB206_209.out
    have hnb32 := NB209_210.out
    have hnc32 := NB210_209.out
    have hcz33_0 : w30.cell? ⟨gb209, 0, none⟩ = some (.int .i64 ((rd_T185 l0_1 a1).f0)) := (blk_cell BK209.out 0).trans rfl
    have hcz33_1 : w30.cell? ⟨gb209, 1, none⟩ = some (.int .i64 ((rd_T185 l0_1 a1).f1)) := (blk_cell BK209.out 1).trans rfl
    have hcz33_2 : w30.cell? ⟨gb209, 2, none⟩ = some (.int .i64 ((rd_T185 l0_1 a1).f2)) := (blk_cell BK209.out 2).trans rfl
    have hcz33_3 : w30.cell? ⟨gb209, 3, none⟩ = some (.bool ((rd_T185 l0_1 a1).f3)) := (blk_cell BK209.out 3).trans rfl
    have hcz33_4 : w30.cell? ⟨gb209, 4, none⟩ = some (.slice A207_4 ((rd_T185 l0_1 a1).f4).length c207_4) := (blk_cell BK209.out 4).trans rfl
    have hfz33_0 := blk_frozen BK209.out 0
    have hfz33_1 := blk_frozen BK209.out 1
    have hfz33_2 := blk_frozen BK209.out 2
    have hfz33_3 := blk_frozen BK209.out 3
    have hfz33_4 := blk_frozen BK209.out 4
    have hnb34 := NB210_206.out
    have hnc34 := NB206_210.out
    have hcz35_0 : w30.cell? ⟨gb210, 0, none⟩ = some (.int .i64 ((rd_T185 l0_1 a2).f0)) := (blk_cell BK210.out 0).trans rfl
    have hcz35_1 : w30.cell? ⟨gb210, 1, none⟩ = some (.int .i64 ((rd_T185 l0_1 a2).f1)) := (blk_cell BK210.out 1).trans rfl
    have hcz35_2 : w30.cell? ⟨gb210, 2, none⟩ = some (.int .i64 ((rd_T185 l0_1 a2).f2)) := (blk_cell BK210.out 2).trans rfl
    have hcz35_3 : w30.cell? ⟨gb210, 3, none⟩ = some (.bool ((rd_T185 l0_1 a2).f3)) := (blk_cell BK210.out 3).trans rfl
    have hcz35_4 : w30.cell? ⟨gb210, 4, none⟩ = some (.slice A208_4 ((rd_T185 l0_1 a2).f4).length c208_4) := (blk_cell BK210.out 4).trans rfl
    have hfz35_0 := blk_frozen BK210.out 0
    have hfz35_1 := blk_frozen BK210.out 1
    have hfz35_2 := blk_frozen BK210.out 2
    have hfz35_3 := blk_frozen BK210.out 3
    have hfz35_4 := blk_frozen BK210.out 4
    try go_wp2
    go_ret
    exact ⟨by first | rfl | (simp [errW_none, errW_some] <;> rfl) | (simp [*, errW_none, errW_some] <;> rfl), by repeat (first | (with_reducible first | exact HB.out | apply below_alloc | apply pw_below_drewN | apply below_drew1 | refine below_set ?_ GE206.out | refine below_set ?_ GE209.out | refine below_set ?_ GE210.out) | exact HB.out)⟩

end Go.Proofs.Ytglaedjadlappaa.PFnExactDue

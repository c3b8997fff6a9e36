-- written by myprint.py (a program of this session's over the kit's print)
import Derived.Test.YtmnihpedokeggaaPFnExactGoodBoxx0
namespace Go.Proofs.Ytmnihpedokeggaa.PFnExactGoodBox
open Go.RowKit Go.Proofs.YtmnihpedokeggaaW.PrintWords Go.Proofs.YtmnihpedokeggaaW.PrintLast
set_option linter.unusedVariables false
set_option linter.unusedSimpArgs false

/-! ### impl_zearlier: function 112 -/
def impl_zearlier.f (l0_0 : List (S149)) (l0_1 : List (S148)) (a1 : Int) (a2 : Int) : Option (Bool) := if 0 ≤ a1 then (if a1 < (l0_1.length : Int) then (if 0 ≤ a2 then (if a2 < (l0_1.length : Int) then (if 0 ≤ ((rd_T148 l0_1 a2).f0) then (if ((rd_T148 l0_1 a2).f0) < (l0_0.length : Int) then (if 0 ≤ ((rd_T148 l0_1 a1).f0) then (if ((rd_T148 l0_1 a1).f0) < (l0_0.length : Int) then (if (wrap64 (((rd_T148 l0_1 a1).f1) * ((rd_T149 l0_0 ((rd_T148 l0_1 a2).f0)).f1))) = (wrap64 (((rd_T148 l0_1 a2).f1) * ((rd_T149 l0_0 ((rd_T148 l0_1 a1).f0)).f1))) then (if ((rd_T148 l0_1 a1).f0) = ((rd_T148 l0_1 a2).f0) then (some (decide (a1 < a2))) else (some (decide (((rd_T148 l0_1 a1).f0) < ((rd_T148 l0_1 a2).f0))))) else (some (decide ((wrap64 (((rd_T148 l0_1 a1).f1) * ((rd_T149 l0_0 ((rd_T148 l0_1 a2).f0)).f1))) < (wrap64 (((rd_T148 l0_1 a2).f1) * ((rd_T149 l0_0 ((rd_T148 l0_1 a1).f0)).f1))))))) else (none)) else (none)) else (none)) else (none)) else (none)) else (none)) else (none)) else (none)
def impl_zearlier.T1 : Bool × List (List Nat × List Nat) := (true, [([], []), ([0], [0]), ([], []), ([1, 2], [1, 2]), ([3], [3]), ([], []), ([5], [5]), ([], []), ([6, 7], [6, 7]), ([8], [8]), ([], []), ([], []), ([10, 4, 0, 1, 2, 3, 4, 10, 11], [4, 10]), ([11, 9, 12, 0, 1, 2, 3, 4, 5, 6, 7, 8, 9, 10, 11, 12], [9, 11])])
def impl_zearlier.B1 : List Nat := [0, 1, 0, 7, 15, 0, 32, 0, 224, 480, 0, 0, 3103, 8191]
theorem impl_zearlier.tab1 : rtab .any (opsOf Try.f112 1) = impl_zearlier.T1 := by kernel_rfl
theorem impl_zearlier.bits1 : waitsOk impl_zearlier.T1.2 impl_zearlier.B1 = true := by kernel_rfl
def impl_zearlier.T2 : Bool × List (List Nat × List Nat) := (true, [([], []), ([0], [0]), ([], []), ([2], [2]), ([], []), ([4], [4]), ([3, 5], [3, 5]), ([6], [6]), ([7], [7]), ([1, 8], [1, 8]), ([], []), ([10], [10]), ([], []), ([12], [12]), ([], []), ([14], [14]), ([13, 15], [13, 15]), ([16], [16]), ([17], [17]), ([11, 18], [11, 18]), ([9, 0, 1, 2, 3, 4, 5, 6, 7, 8, 9], [9]), ([19, 20, 0, 1, 2, 3, 4, 5, 6, 7, 8, 9, 10, 11, 12, 13, 14, 15, 16, 17, 18, 19, 20], [19])])
def impl_zearlier.B2 : List Nat := [0, 1, 0, 4, 0, 16, 60, 124, 252, 511, 0, 1024, 0, 4096, 0, 16384, 61440, 126976, 258048, 523264, 1023, 2097151]
theorem impl_zearlier.tab2 : rtab .any (opsOf Try.f112 2) = impl_zearlier.T2 := by kernel_rfl
theorem impl_zearlier.bits2 : waitsOk impl_zearlier.T2.2 impl_zearlier.B2 = true := by kernel_rfl
set_option maxHeartbeats 8000000 in
set_option maxRecDepth 100000 in
theorem impl_zearlier.calls (A0_0 : Option Addr) (c0_0 : Nat) (l0_0 : List (S149)) (A0_1 : Option Addr) (c0_1 : Nat) (l0_1 : List (S148)) (a1 : Int) (a2 : Int) (r : Bool) (w : World) (hr0_0 : Kd.C k149 w A0_0 l0_0.length l0_0) (hc0_0 : l0_0.length ≤ c0_0) (hr0_1 : Kd.C k148 w A0_1 l0_1.length l0_1) (hc0_1 : l0_1.length ≤ c0_1) (h : impl_zearlier.f l0_0 l0_1 a1 a2 = some r) :
    Calls Try.prog 112 #[.agg #[.slice A0_0 l0_0.length c0_0, .slice A0_1 l0_1.length c0_1], .int .i64 a1, .int .i64 a2] w fun e w' => e = .returned (.bool r) ∧ Below w.heap.size w w' := by
  have hu78 := Try.underlying78
  have hu148 := Try.underlying148
  have HR0_0 := Aside0.mk hr0_0
  have HC0_0 := Aside0.mk hc0_0
  clear hr0_0 hc0_0
  have HR0_1 := Aside0.mk hr0_1
  have HC0_1 := Aside0.mk hc0_1
  clear hr0_1 hc0_1
  have HB := Aside0.mk (Below.refl w.heap.size w)
  have H : (if 0 ≤ a1 then (if a1 < (l0_1.length : Int) then (if 0 ≤ a2 then (if a2 < (l0_1.length : Int) then (if 0 ≤ ((rd_T148 l0_1 a2).f0) then (if ((rd_T148 l0_1 a2).f0) < (l0_0.length : Int) then (if 0 ≤ ((rd_T148 l0_1 a1).f0) then (if ((rd_T148 l0_1 a1).f0) < (l0_0.length : Int) then (if (wrap64 (((rd_T148 l0_1 a1).f1) * ((rd_T149 l0_0 ((rd_T148 l0_1 a2).f0)).f1))) = (wrap64 (((rd_T148 l0_1 a2).f1) * ((rd_T149 l0_0 ((rd_T148 l0_1 a1).f0)).f1))) then (if ((rd_T148 l0_1 a1).f0) = ((rd_T148 l0_1 a2).f0) then (some (decide (a1 < a2))) else (some (decide (((rd_T148 l0_1 a1).f0) < ((rd_T148 l0_1 a2).f0))))) else (some (decide ((wrap64 (((rd_T148 l0_1 a1).f1) * ((rd_T149 l0_0 ((rd_T148 l0_1 a2).f0)).f1))) < (wrap64 (((rd_T148 l0_1 a2).f1) * ((rd_T149 l0_0 ((rd_T148 l0_1 a1).f0)).f1))))))) else (none)) else (none)) else (none)) else (none)) else (none)) else (none)) else (none)) else (none)) = some r := h
  clear h
  by_cases c4 : 0 ≤ a1
  rotate_left
  · rw [if_neg c4] at H
    exact absurd H (by simp)
  rw [if_pos c4] at H
  have c4b0 : decide (0 ≤ a1) = true := decide_eq_true c4
  clear c4
  by_cases c5 : a1 < (l0_1.length : Int)
  rotate_left
  · rw [if_neg c5] at H
    exact absurd H (by simp)
  rw [if_pos c5] at H
  have c5b0 : decide (a1 < (l0_1.length : Int)) = true := decide_eq_true c5
  clear c5
  by_cases c6 : 0 ≤ a2
  rotate_left
  · rw [if_neg c6] at H
    exact absurd H (by simp)
  rw [if_pos c6] at H
  have c6b0 : decide (0 ≤ a2) = true := decide_eq_true c6
  clear c6
  by_cases c7 : a2 < (l0_1.length : Int)
  rotate_left
  · rw [if_neg c7] at H
    exact absurd H (by simp)
  rw [if_pos c7] at H
  have c7b0 : decide (a2 < (l0_1.length : Int)) = true := decide_eq_true c7
  clear c7
  by_cases c8 : 0 ≤ ((rd_T148 l0_1 a2).f0)
  rotate_left
  · rw [if_neg c8] at H
    exact absurd H (by simp)
  rw [if_pos c8] at H
  have c8b0 : decide (0 ≤ ((rd_T148 l0_1 a2).f0)) = true := decide_eq_true c8
  clear c8
  by_cases c9 : ((rd_T148 l0_1 a2).f0) < (l0_0.length : Int)
  rotate_left
  · rw [if_neg c9] at H
    exact absurd H (by simp)
  rw [if_pos c9] at H
  have c9b0 : decide (((rd_T148 l0_1 a2).f0) < (l0_0.length : Int)) = true := decide_eq_true c9
  clear c9
  by_cases c10 : 0 ≤ ((rd_T148 l0_1 a1).f0)
  rotate_left
  · rw [if_neg c10] at H
    exact absurd H (by simp)
  rw [if_pos c10] at H
  have c10b0 : decide (0 ≤ ((rd_T148 l0_1 a1).f0)) = true := decide_eq_true c10
  clear c10
  by_cases c11 : ((rd_T148 l0_1 a1).f0) < (l0_0.length : Int)
  rotate_left
  · rw [if_neg c11] at H
    exact absurd H (by simp)
  rw [if_pos c11] at H
  have c11b0 : decide (((rd_T148 l0_1 a1).f0) < (l0_0.length : Int)) = true := decide_eq_true c11
  clear c11
  by_cases c12 : (wrap64 (((rd_T148 l0_1 a1).f1) * ((rd_T149 l0_0 ((rd_T148 l0_1 a2).f0)).f1))) = (wrap64 (((rd_T148 l0_1 a2).f1) * ((rd_T149 l0_0 ((rd_T148 l0_1 a1).f0)).f1)))
  rw [if_pos c12] at H
  have c12b0 : ((wrap64 (((rd_T148 l0_1 a1).f1) * ((rd_T149 l0_0 ((rd_T148 l0_1 a2).f0)).f1))) == (wrap64 (((rd_T148 l0_1 a2).f1) * ((rd_T149 l0_0 ((rd_T148 l0_1 a1).f0)).f1)))) = true := beq_iff_eq.mpr c12
  have c12b1 : ((wrap64 (((rd_T148 l0_1 a1).f1) * ((rd_T149 l0_0 ((rd_T148 l0_1 a2).f0)).f1))) != (wrap64 (((rd_T148 l0_1 a2).f1) * ((rd_T149 l0_0 ((rd_T148 l0_1 a1).f0)).f1)))) = false := bne_eq_false_iff_eq.mpr c12
  clear c12
  by_cases c13 : ((rd_T148 l0_1 a1).f0) = ((rd_T148 l0_1 a2).f0)
  rw [if_pos c13] at H
  have c13b0 : (((rd_T148 l0_1 a1).f0) == ((rd_T148 l0_1 a2).f0)) = true := beq_iff_eq.mpr c13
  have c13b1 : (((rd_T148 l0_1 a1).f0) != ((rd_T148 l0_1 a2).f0)) = false := bne_eq_false_iff_eq.mpr c13
  clear c13
  obtain rfl := Option.some.inj H
  rotate_left
  rw [if_neg c13] at H
  have c13b0 : (((rd_T148 l0_1 a1).f0) == ((rd_T148 l0_1 a2).f0)) = false := beq_eq_false_iff_ne.mpr c13
  have c13b1 : (((rd_T148 l0_1 a1).f0) != ((rd_T148 l0_1 a2).f0)) = true := bne_iff_ne.mpr c13
  obtain rfl := Option.some.inj H
  rotate_left
  rw [if_neg c12] at H
  have c12b0 : ((wrap64 (((rd_T148 l0_1 a1).f1) * ((rd_T149 l0_0 ((rd_T148 l0_1 a2).f0)).f1))) == (wrap64 (((rd_T148 l0_1 a2).f1) * ((rd_T149 l0_0 ((rd_T148 l0_1 a1).f0)).f1)))) = false := beq_eq_false_iff_ne.mpr c12
  have c12b1 : ((wrap64 (((rd_T148 l0_1 a1).f1) * ((rd_T149 l0_0 ((rd_T148 l0_1 a2).f0)).f1))) != (wrap64 (((rd_T148 l0_1 a2).f1) * ((rd_T149 l0_0 ((rd_T148 l0_1 a1).f0)).f1)))) = true := bne_iff_ne.mpr c12
  obtain rfl := Option.some.inj H
  all_goals
    go_enter Try.func112, Try.ntmps112
    try go_wp2_with (first | ((with_reducible refine gate_dst (N := 3) rfl ?_); refine box_event ?hg (N := 3) ?hd (cs := #[.slice A0_0 l0_0.length c0_0, .slice A0_1 l0_1.length c0_1]) (t := 78) ?hr ?_; (case hd => rfl); (case hg => rfl); (case hr => first | (go_simp; done) | (go_simp; rfl)); intro gb199 hg w14 hbox hb; have n0_ := Aside0.mk (below_step (by repeat (first | (with_reducible first | exact HB.out | apply below_alloc | apply pw_below_drewN | apply below_drew1) | exact HB.out)) hb); have n1_ := Aside0.mk (hbox); have n2_ := Aside0.mk ((by rw [hg]; exact (below_size (by repeat (first | (with_reducible first | exact HB.out | apply below_alloc | apply pw_below_drewN | apply below_drew1) | exact HB.out))) : w.heap.size ≤ gb199)); have n3_ := n2_; clear HB; have HB := n0_; have BK199 := n1_; have GW199 := n2_; have GE199 := n3_; clear n0_ n1_ n2_ n3_; clear hb hbox hg))
    have n0_ := Aside0.mk (blk_drew BK199.out)
    have n1_ := Aside0.mk (below_drew1 HB.out)
    clear BK199
    clear HB
    have BK199 := n0_
    have HB := n1_
    clear n0_ n1_
    have p200 : 0 ≤ (a1 : Int) := of_decide_eq_true (by first | (with_reducible assumption) | assumption)
    have q200 : a1 < (l0_1.length : Int) := of_decide_eq_true (by first | (with_reducible assumption) | assumption)
    obtain ⟨ad200, A200_4, c200_4, e200, hx200_0, hx200_1, hx200_2, hx200_3, hx200_4, hl200_4, hi200_4⟩ := at_T148 HR0_1.out a1 p200 q200
    have hw200_4 := hx200_4
    have hw200_3 := hx200_3
    have hw200_2 := hx200_2
    have hw200_1 := hx200_1
    have hw200_0 := hx200_0
    cases e200
    replace hx200_0 := (HB.out.cell (World.block_lt_of_cell? w _ hx200_0)).trans hx200_0
    replace hx200_1 := (HB.out.cell (World.block_lt_of_cell? w _ hx200_1)).trans hx200_1
    replace hx200_2 := (HB.out.cell (World.block_lt_of_cell? w _ hx200_2)).trans hx200_2
    replace hx200_3 := (HB.out.cell (World.block_lt_of_cell? w _ hx200_3)).trans hx200_3
    replace hx200_4 := (HB.out.cell (World.block_lt_of_cell? w _ hx200_4)).trans hx200_4
    have HR200_4 := Aside0.mk hi200_4
    have HC200_4 := Aside0.mk hl200_4
    clear hi200_4 hl200_4
    replace p200 := eq_true p200
    replace q200 := eq_true q200
    have p201 : 0 ≤ (a2 : Int) := of_decide_eq_true (by first | (with_reducible assumption) | assumption)
    have q201 : a2 < (l0_1.length : Int) := of_decide_eq_true (by first | (with_reducible assumption) | assumption)
    obtain ⟨ad201, A201_4, c201_4, e201, hx201_0, hx201_1, hx201_2, hx201_3, hx201_4, hl201_4, hi201_4⟩ := at_T148 HR0_1.out a2 p201 q201
    have hw201_4 := hx201_4
    have hw201_3 := hx201_3
    have hw201_2 := hx201_2
    have hw201_1 := hx201_1
    have hw201_0 := hx201_0
    obtain rfl : ad200 = ad201 := (by injection e201)
    replace hx201_0 := (HB.out.cell (World.block_lt_of_cell? w _ hx201_0)).trans hx201_0
    replace hx201_1 := (HB.out.cell (World.block_lt_of_cell? w _ hx201_1)).trans hx201_1
    replace hx201_2 := (HB.out.cell (World.block_lt_of_cell? w _ hx201_2)).trans hx201_2
    replace hx201_3 := (HB.out.cell (World.block_lt_of_cell? w _ hx201_3)).trans hx201_3
    replace hx201_4 := (HB.out.cell (World.block_lt_of_cell? w _ hx201_4)).trans hx201_4
    have HR201_4 := Aside0.mk hi201_4
    have HC201_4 := Aside0.mk hl201_4
    clear hi201_4 hl201_4
    replace p201 := eq_true p201
    replace q201 := eq_true q201
    refine start_ (n := 14) (S := fun w' => w'.cell? ⟨gb199, 0, none⟩ = some (.slice A0_0 l0_0.length c0_0) ∧ w'.cell? ⟨gb199, 1, none⟩ = some (.slice (some ad200) l0_1.length c0_1) ∧ w'.cell? (ad200.add ((a1).toNat * 5)) = some (.int .i64 ((rd_T148 l0_1 a1).f0)) ∧ w'.cell? ⟨(ad200.add ((a1).toNat * 5)).block, (ad200.add ((a1).toNat * 5)).off + 1, none⟩ = some (.int .i64 ((rd_T148 l0_1 a1).f1)) ∧ w'.cell? ⟨(ad200.add ((a1).toNat * 5)).block, (ad200.add ((a1).toNat * 5)).off + 2, none⟩ = some (.int .i64 ((rd_T148 l0_1 a1).f2)) ∧ w'.cell? ⟨(ad200.add ((a1).toNat * 5)).block, (ad200.add ((a1).toNat * 5)).off + 3, none⟩ = some (.bool ((rd_T148 l0_1 a1).f3)) ∧ w'.cell? ⟨(ad200.add ((a1).toNat * 5)).block, (ad200.add ((a1).toNat * 5)).off + 4, none⟩ = some (.slice A200_4 ((rd_T148 l0_1 a1).f4).length c200_4) ∧ w'.cell? (ad200.add ((a2).toNat * 5)) = some (.int .i64 ((rd_T148 l0_1 a2).f0)) ∧ w'.cell? ⟨(ad200.add ((a2).toNat * 5)).block, (ad200.add ((a2).toNat * 5)).off + 1, none⟩ = some (.int .i64 ((rd_T148 l0_1 a2).f1)) ∧ w'.cell? ⟨(ad200.add ((a2).toNat * 5)).block, (ad200.add ((a2).toNat * 5)).off + 2, none⟩ = some (.int .i64 ((rd_T148 l0_1 a2).f2)) ∧ w'.cell? ⟨(ad200.add ((a2).toNat * 5)).block, (ad200.add ((a2).toNat * 5)).off + 3, none⟩ = some (.bool ((rd_T148 l0_1 a2).f3)) ∧ w'.cell? ⟨(ad200.add ((a2).toNat * 5)).block, (ad200.add ((a2).toNat * 5)).off + 4, none⟩ = some (.slice A201_4 ((rd_T148 l0_1 a2).f4).length c201_4)) (ds := []) #[false, false, false, false, false, false, false, false, false, false, false, false, false, false] (by kernel_rfl) rfl rfl ⟨(blk_cell BK199.out 0).trans rfl, (blk_cell BK199.out 1).trans rfl, ((HB.out.cell (World.block_lt_of_cell? w _ hw200_0)).trans hw200_0), ((HB.out.cell (World.block_lt_of_cell? w _ hw200_1)).trans hw200_1), ((HB.out.cell (World.block_lt_of_cell? w _ hw200_2)).trans hw200_2), ((HB.out.cell (World.block_lt_of_cell? w _ hw200_3)).trans hw200_3), ((HB.out.cell (World.block_lt_of_cell? w _ hw200_4)).trans hw200_4), ((HB.out.cell (World.block_lt_of_cell? w _ hw201_0)).trans hw201_0), ((HB.out.cell (World.block_lt_of_cell? w _ hw201_1)).trans hw201_1), ((HB.out.cell (World.block_lt_of_cell? w _ hw201_2)).trans hw201_2), ((HB.out.cell (World.block_lt_of_cell? w _ hw201_3)).trans hw201_3), ((HB.out.cell (World.block_lt_of_cell? w _ hw201_4)).trans hw201_4)⟩ (fun hHeld => ?_); refine with_tabW impl_zearlier.tab1 impl_zearlier.bits1 (fun HT_ HW_ => ?_)
    generalize w14.drew = w15 at BK199 HB HR200_4 HR201_4 hx200_0 hx200_1 hx200_2 hx200_3 hx200_4 hx201_0 hx201_1 hx201_2 hx201_3 hx201_4 hHeld ⊢
    refine pure_ (i := 0) (N := some 11) (v := ?_) (a' := ?_) #[true, false, false, false, false, false, false, false, false, false, false, false, false, false] rfl rfl (any_of HT_.out (by kernel_rfl)) (fun _ _ _ h => h) (Or.inl ⟨by rfl, ?_⟩) ?_ ?_
    rotate_left
    · intro w'
      go_simp
      with_reducible rfl
    rotate_left
    · simp only [Act.put, List.setIfInBounds_toArray, List.set_cons_zero, List.set_cons_succ, i64_w, i32_w]
      rfl
    refine pure_ (i := 2) (N := some 13) (v := ?_) (a' := ?_) #[true, false, true, false, false, false, false, false, false, false, false, false, false, false] rfl rfl (any_of HT_.out (by kernel_rfl)) (fun _ _ _ h => h) (Or.inl ⟨by rfl, ?_⟩) ?_ ?_
    rotate_left
    · intro w'
      go_simp
      with_reducible rfl
    rotate_left
    · simp only [Act.put, List.setIfInBounds_toArray, List.set_cons_zero, List.set_cons_succ, i64_w, i32_w]
      rfl
    refine pure_ (i := 5) (N := some 16) (v := ?_) (a' := ?_) #[true, false, true, false, false, true, false, false, false, false, false, false, false, false] rfl rfl (any_of HT_.out (by kernel_rfl)) (fun _ _ _ h => h) (Or.inl ⟨by rfl, ?_⟩) ?_ ?_
    rotate_left
    · intro w'
      go_simp
      with_reducible rfl
    rotate_left
    · simp only [Act.put, List.setIfInBounds_toArray, List.set_cons_zero, List.set_cons_succ, i64_w, i32_w]
      rfl
    refine pure_ (i := 7) (N := some 18) (v := ?_) (a' := ?_) #[true, false, true, false, false, true, false, true, false, false, false, false, false, false] rfl rfl (any_of HT_.out (by kernel_rfl)) (fun _ _ _ h => h) (Or.inl ⟨by rfl, ?_⟩) ?_ ?_
    rotate_left
    · intro w'
      go_simp
      with_reducible rfl
    rotate_left
    · simp only [Act.put, List.setIfInBounds_toArray, List.set_cons_zero, List.set_cons_succ, i64_w, i32_w]
      rfl
    refine take_ (i := 1) (N := some 12) (v := ?_) (a' := ?_) #[true, true, true, false, false, true, false, true, false, false, false, false, false, false] rfl rfl (take_ofW HT_.out HW_.out (by kernel_rfl)) (fun _ _ _ h => h) (Or.inl ⟨by rfl, ?_⟩) hHeld ?_ ?_
    rotate_left
    · rintro w' ⟨s0, s1, s2, s3, s4, s5, s6, s7, s8, s9, s10, s11⟩
      go_simp
      with_reducible rfl
    rotate_left
    · simp only [Act.put, List.setIfInBounds_toArray, List.set_cons_zero, List.set_cons_succ, i64_w, i32_w]
      rfl
    refine pure_ (i := 3) (N := some 14) (v := ?_) (a' := ?_) #[true, true, true, true, false, true, false, true, false, false, false, false, false, false] rfl rfl (any_of HT_.out (by kernel_rfl)) (fun _ _ _ h => h) (Or.inl ⟨by rfl, ?_⟩) ?_ ?_
    rotate_left
    · intro w'
      go_simp
      with_reducible rfl
    rotate_left
    · simp only [Act.put, List.setIfInBounds_toArray, List.set_cons_zero, List.set_cons_succ, i64_w, i32_w]
      rfl
    refine take_ (i := 4) (N := some 15) (v := ?_) (a' := ?_) #[true, true, true, true, true, true, false, true, false, false, false, false, false, false] rfl rfl (take_ofW HT_.out HW_.out (by kernel_rfl)) (fun _ _ _ h => h) (Or.inl ⟨by rfl, ?_⟩) hHeld ?_ ?_
    rotate_left
    · rintro w' ⟨s0, s1, s2, s3, s4, s5, s6, s7, s8, s9, s10, s11⟩
      go_simp
      with_reducible rfl
    rotate_left
    · simp only [Act.put, List.setIfInBounds_toArray, List.set_cons_zero, List.set_cons_succ, i64_w, i32_w]
      rfl
    refine take_ (i := 6) (N := some 17) (v := ?_) (a' := ?_) #[true, true, true, true, true, true, true, true, false, false, false, false, false, false] rfl rfl (take_ofW HT_.out HW_.out (by kernel_rfl)) (fun _ _ _ h => h) (Or.inl ⟨by rfl, ?_⟩) hHeld ?_ ?_
    rotate_left
    · rintro w' ⟨s0, s1, s2, s3, s4, s5, s6, s7, s8, s9, s10, s11⟩
      go_simp
      with_reducible rfl
    rotate_left
    · simp only [Act.put, List.setIfInBounds_toArray, List.set_cons_zero, List.set_cons_succ, i64_w, i32_w]
      rfl
    refine pure_ (i := 8) (N := some 19) (v := ?_) (a' := ?_) #[true, true, true, true, true, true, true, true, true, false, false, false, false, false] rfl rfl (any_of HT_.out (by kernel_rfl)) (fun _ _ _ h => h) (Or.inl ⟨by rfl, ?_⟩) ?_ ?_
    rotate_left
    · intro w'
      go_simp
      with_reducible rfl
    rotate_left
    · simp only [Act.put, List.setIfInBounds_toArray, List.set_cons_zero, List.set_cons_succ, i64_w, i32_w]
      rfl
    refine take_ (i := 9) (N := some 20) (v := ?_) (a' := ?_) #[true, true, true, true, true, true, true, true, true, true, false, false, false, false] rfl rfl (take_ofW HT_.out HW_.out (by kernel_rfl)) (fun _ _ _ h => h) (Or.inl ⟨by rfl, ?_⟩) hHeld ?_ ?_
    rotate_left
    · rintro w' ⟨s0, s1, s2, s3, s4, s5, s6, s7, s8, s9, s10, s11⟩
      go_simp
      with_reducible rfl
    rotate_left
    · simp only [Act.put, List.setIfInBounds_toArray, List.set_cons_zero, List.set_cons_succ, i64_w, i32_w]
      rfl
    refine join_ (σ := Nat × Nat) 2 #[true, true, true, true, true, true, true, true, true, true, true, true, false, false] (fun s_ => [(7, .pointer (some ⟨s_.1, 0, none⟩)), (8, .pointer (some ⟨s_.2, 0, none⟩))]) (fun s_ w' => (w'.cell? ⟨gb199, 0, none⟩ = some (.slice A0_0 l0_0.length c0_0) ∧ w'.cell? ⟨gb199, 1, none⟩ = some (.slice (some ad200) l0_1.length c0_1) ∧ w'.cell? (ad200.add ((a1).toNat * 5)) = some (.int .i64 ((rd_T148 l0_1 a1).f0)) ∧ w'.cell? ⟨(ad200.add ((a1).toNat * 5)).block, (ad200.add ((a1).toNat * 5)).off + 1, none⟩ = some (.int .i64 ((rd_T148 l0_1 a1).f1)) ∧ w'.cell? ⟨(ad200.add ((a1).toNat * 5)).block, (ad200.add ((a1).toNat * 5)).off + 2, none⟩ = some (.int .i64 ((rd_T148 l0_1 a1).f2)) ∧ w'.cell? ⟨(ad200.add ((a1).toNat * 5)).block, (ad200.add ((a1).toNat * 5)).off + 3, none⟩ = some (.bool ((rd_T148 l0_1 a1).f3)) ∧ w'.cell? ⟨(ad200.add ((a1).toNat * 5)).block, (ad200.add ((a1).toNat * 5)).off + 4, none⟩ = some (.slice A200_4 ((rd_T148 l0_1 a1).f4).length c200_4) ∧ w'.cell? (ad200.add ((a2).toNat * 5)) = some (.int .i64 ((rd_T148 l0_1 a2).f0)) ∧ w'.cell? ⟨(ad200.add ((a2).toNat * 5)).block, (ad200.add ((a2).toNat * 5)).off + 1, none⟩ = some (.int .i64 ((rd_T148 l0_1 a2).f1)) ∧ w'.cell? ⟨(ad200.add ((a2).toNat * 5)).block, (ad200.add ((a2).toNat * 5)).off + 2, none⟩ = some (.int .i64 ((rd_T148 l0_1 a2).f2)) ∧ w'.cell? ⟨(ad200.add ((a2).toNat * 5)).block, (ad200.add ((a2).toNat * 5)).off + 3, none⟩ = some (.bool ((rd_T148 l0_1 a2).f3)) ∧ w'.cell? ⟨(ad200.add ((a2).toNat * 5)).block, (ad200.add ((a2).toNat * 5)).off + 4, none⟩ = some (.slice A201_4 ((rd_T148 l0_1 a2).f4).length c201_4)) ∧ (w'.heap[gb199]? = some (.cells #[.slice A0_0 l0_0.length c0_0, .slice (some ad200) l0_1.length c0_1] 78 (0, 0))) ∧ (w'.heap[s_.1]? = some (.cells #[.int .i64 0, .int .i64 0, .int .i64 0, .bool false, .slice none 0 0] 148 (0, 0))) ∧ (w'.heap[s_.2]? = some (.cells #[.int .i64 0, .int .i64 0, .int .i64 0, .bool false, .slice none 0 0] 148 (0, 0))) ∧ (w.heap.size ≤ s_.1) ∧ (w.heap.size ≤ s_.1) ∧ (gb199 ≠ s_.1) ∧ (s_.1 ≠ gb199) ∧ (s_.2 ≠ s_.1) ∧ (s_.1 ≠ s_.2) ∧ (w.heap.size ≤ s_.2) ∧ (w.heap.size ≤ s_.2) ∧ (gb199 ≠ s_.2) ∧ (s_.2 ≠ gb199) ∧ (Below w.heap.size w w')) ?_ ?_
    rotate_left
    · intro hCont
      refine two_ (i := 10) (j := 11) (Ni := some 7) (Nj := some 8) #[true, true, true, true, true, true, true, true, true, true, true, false, false, false] #[true, true, true, true, true, true, true, true, true, true, false, true, false, false] rfl rfl rfl rfl (two_of HT_.out (by kernel_rfl)) (by decide) (by decide) (fun K hK => ?_) (fun K hK => ?_)
      · skip
        refine box_step ?hg (N := 7) ?hd (cs := #[.int .i64 0, .int .i64 0, .int .i64 0, .bool false, .slice none 0 0]) (t := 148) ?hr ?_; (case hd => rfl); (case hg => rfl); (case hr => first | (go_simp; done) | (go_simp; rfl))
        intro gb202 hg w16 hbox hb
        have n0_ := Aside0.mk (blk_below (g := gb199) (o := .cells #[.slice A0_0 l0_0.length c0_0, .slice (some ad200) l0_1.length c0_1] 78 (0, 0)) (by (with_reducible repeat (first | refine blk_drewN ?_ _ | refine blk_drew ?_ | refine blk_alloc ?_ _)); exact BK199.out) hb)
        have n1_ := Aside0.mk (below_step (by repeat (first | (with_reducible first | exact HB.out | apply below_alloc | apply pw_below_drewN | apply below_drew1 | refine below_set ?_ GE199.out) | exact HB.out)) hb)
        have n2_ := Aside0.mk (hbox)
        have n3_ := Aside0.mk ((by rw [hg]; exact (below_size (by repeat (first | (with_reducible first | exact HB.out | apply below_alloc | apply pw_below_drewN | apply below_drew1 | refine below_set ?_ GE199.out) | exact HB.out))) : w.heap.size ≤ gb202))
        have n4_ := Aside0.mk ((by rw [hg]; exact (below_size (by repeat (first | (with_reducible first | exact HB.out | apply below_alloc | apply pw_below_drewN | apply below_drew1 | refine below_set ?_ GE199.out) | exact HB.out))) : w.heap.size ≤ gb202))
        have n5_ := Aside0.mk ((by rw [hg]; exact Nat.ne_of_lt (blk_lt (g := gb199) (o := .cells #[.slice A0_0 l0_0.length c0_0, .slice (some ad200) l0_1.length c0_1] 78 (0, 0)) (by (with_reducible repeat (first | refine blk_drewN ?_ _ | refine blk_drew ?_ | refine blk_alloc ?_ _)); exact BK199.out)) : gb199 ≠ gb202))
        have n6_ := Aside0.mk ((by rw [hg]; exact Nat.ne_of_gt (blk_lt (g := gb199) (o := .cells #[.slice A0_0 l0_0.length c0_0, .slice (some ad200) l0_1.length c0_1] 78 (0, 0)) (by (with_reducible repeat (first | refine blk_drewN ?_ _ | refine blk_drew ?_ | refine blk_alloc ?_ _)); exact BK199.out)) : gb202 ≠ gb199))
        clear BK199
        clear HB
        have BK199 := n0_
        have HB := n1_
        have BK202 := n2_
        have GW202 := n3_
        have GE202 := n4_
        have NB199_202 := n5_
        have NB202_199 := n6_
        clear n0_ n1_ n2_ n3_ n4_ n5_ n6_
        clear hb hbox hg
        refine hK.out _ _ ⟨(blk_cell BK199.out 0).trans rfl, (blk_cell BK199.out 1).trans rfl, ((HB.out.cell (World.block_lt_of_cell? w _ hw200_0)).trans hw200_0), ((HB.out.cell (World.block_lt_of_cell? w _ hw200_1)).trans hw200_1), ((HB.out.cell (World.block_lt_of_cell? w _ hw200_2)).trans hw200_2), ((HB.out.cell (World.block_lt_of_cell? w _ hw200_3)).trans hw200_3), ((HB.out.cell (World.block_lt_of_cell? w _ hw200_4)).trans hw200_4), ((HB.out.cell (World.block_lt_of_cell? w _ hw201_0)).trans hw201_0), ((HB.out.cell (World.block_lt_of_cell? w _ hw201_1)).trans hw201_1), ((HB.out.cell (World.block_lt_of_cell? w _ hw201_2)).trans hw201_2), ((HB.out.cell (World.block_lt_of_cell? w _ hw201_3)).trans hw201_3), ((HB.out.cell (World.block_lt_of_cell? w _ hw201_4)).trans hw201_4)⟩ (fun hHeld => ?_)
        clear hK K
        refine norm_ (a' := ?_) ?_ ?_
        rotate_left
        · show Act.put _ (some 7) _ = _
          simp only [Act.put, List.setIfInBounds_toArray, List.set_cons_zero, List.set_cons_succ, i64_w, i32_w]
          rfl
        refine one_ (i := 11) (N := some 8) #[true, true, true, true, true, true, true, true, true, true, true, true, false, false] rfl rfl (one_of HT_.out (by kernel_rfl)) (by decide) (fun K hK => ?_)
        refine box_step ?hg (N := 8) ?hd (cs := #[.int .i64 0, .int .i64 0, .int .i64 0, .bool false, .slice none 0 0]) (t := 148) ?hr ?_; (case hd => rfl); (case hg => rfl); (case hr => first | (go_simp; done) | (go_simp; rfl))
        intro gb203 hg w17 hbox hb
        have n0_ := Aside0.mk (blk_below (g := gb199) (o := .cells #[.slice A0_0 l0_0.length c0_0, .slice (some ad200) l0_1.length c0_1] 78 (0, 0)) (by (with_reducible repeat (first | refine blk_drewN ?_ _ | refine blk_drew ?_ | refine blk_alloc ?_ _)); exact BK199.out) hb)
        have n1_ := Aside0.mk (blk_below (g := gb202) (o := .cells #[.int .i64 0, .int .i64 0, .int .i64 0, .bool false, .slice none 0 0] 148 (0, 0)) (by (with_reducible repeat (first | refine blk_drewN ?_ _ | refine blk_drew ?_ | refine blk_alloc ?_ _)); exact BK202.out) hb)
        have n2_ := Aside0.mk (below_step (by repeat (first | (with_reducible first | exact HB.out | apply below_alloc | apply pw_below_drewN | apply below_drew1 | refine below_set ?_ GE199.out | refine below_set ?_ GE202.out) | exact HB.out)) hb)
        have n3_ := Aside0.mk (hbox)
        have n4_ := Aside0.mk ((by rw [hg]; exact (below_size (by repeat (first | (with_reducible first | exact HB.out | apply below_alloc | apply pw_below_drewN | apply below_drew1 | refine below_set ?_ GE199.out | refine below_set ?_ GE202.out) | exact HB.out))) : w.heap.size ≤ gb203))
        have n5_ := Aside0.mk ((by rw [hg]; exact (below_size (by repeat (first | (with_reducible first | exact HB.out | apply below_alloc | apply pw_below_drewN | apply below_drew1 | refine below_set ?_ GE199.out | refine below_set ?_ GE202.out) | exact HB.out))) : w.heap.size ≤ gb203))
        have n6_ := Aside0.mk ((by rw [hg]; exact Nat.ne_of_lt (blk_lt (g := gb199) (o := .cells #[.slice A0_0 l0_0.length c0_0, .slice (some ad200) l0_1.length c0_1] 78 (0, 0)) (by (with_reducible repeat (first | refine blk_drewN ?_ _ | refine blk_drew ?_ | refine blk_alloc ?_ _)); exact BK199.out)) : gb199 ≠ gb203))
        have n7_ := Aside0.mk ((by rw [hg]; exact Nat.ne_of_gt (blk_lt (g := gb199) (o := .cells #[.slice A0_0 l0_0.length c0_0, .slice (some ad200) l0_1.length c0_1] 78 (0, 0)) (by (with_reducible repeat (first | refine blk_drewN ?_ _ | refine blk_drew ?_ | refine blk_alloc ?_ _)); exact BK199.out)) : gb203 ≠ gb199))
        have n8_ := Aside0.mk ((by rw [hg]; exact Nat.ne_of_lt (blk_lt (g := gb202) (o := .cells #[.int .i64 0, .int .i64 0, .int .i64 0, .bool false, .slice none 0 0] 148 (0, 0)) (by (with_reducible repeat (first | refine blk_drewN ?_ _ | refine blk_drew ?_ | refine blk_alloc ?_ _)); exact BK202.out)) : gb202 ≠ gb203))
        have n9_ := Aside0.mk ((by rw [hg]; exact Nat.ne_of_gt (blk_lt (g := gb202) (o := .cells #[.int .i64 0, .int .i64 0, .int .i64 0, .bool false, .slice none 0 0] 148 (0, 0)) (by (with_reducible repeat (first | refine blk_drewN ?_ _ | refine blk_drew ?_ | refine blk_alloc ?_ _)); exact BK202.out)) : gb203 ≠ gb202))
        clear BK199
        clear BK202
        clear HB
        have BK199 := n0_
        have BK202 := n1_
        have HB := n2_
        have BK203 := n3_
        have GW203 := n4_
        have GE203 := n5_
        have NB199_203 := n6_
        have NB203_199 := n7_
        have NB202_203 := n8_
        have NB203_202 := n9_
        clear n0_ n1_ n2_ n3_ n4_ n5_ n6_ n7_ n8_ n9_
        clear hb hbox hg
        refine hK.out _ _ ⟨(blk_cell BK199.out 0).trans rfl, (blk_cell BK199.out 1).trans rfl, ((HB.out.cell (World.block_lt_of_cell? w _ hw200_0)).trans hw200_0), ((HB.out.cell (World.block_lt_of_cell? w _ hw200_1)).trans hw200_1), ((HB.out.cell (World.block_lt_of_cell? w _ hw200_2)).trans hw200_2), ((HB.out.cell (World.block_lt_of_cell? w _ hw200_3)).trans hw200_3), ((HB.out.cell (World.block_lt_of_cell? w _ hw200_4)).trans hw200_4), ((HB.out.cell (World.block_lt_of_cell? w _ hw201_0)).trans hw201_0), ((HB.out.cell (World.block_lt_of_cell? w _ hw201_1)).trans hw201_1), ((HB.out.cell (World.block_lt_of_cell? w _ hw201_2)).trans hw201_2), ((HB.out.cell (World.block_lt_of_cell? w _ hw201_3)).trans hw201_3), ((HB.out.cell (World.block_lt_of_cell? w _ hw201_4)).trans hw201_4)⟩ (fun hHeld => ?_)
        clear hK K
        refine norm_ (a' := ?_) ?_ ?_
        rotate_left
        · show Act.put _ (some 8) _ = _
          simp only [Act.put, List.setIfInBounds_toArray, List.set_cons_zero, List.set_cons_succ, i64_w, i32_w]
          rfl
        exact norm_ (by simp only [putAll, Act.put, List.setIfInBounds_toArray, List.set_cons_zero, List.set_cons_succ]) (hCont (gb202, gb203) _ ⟨hHeld, (by (with_reducible repeat (first | refine blk_drewN ?_ _ | refine blk_drew ?_ | refine blk_alloc ?_ _)); exact BK199.out), (by (with_reducible repeat (first | refine blk_drewN ?_ _ | refine blk_drew ?_ | refine blk_alloc ?_ _)); exact BK202.out), (by (with_reducible repeat (first | refine blk_drewN ?_ _ | refine blk_drew ?_ | refine blk_alloc ?_ _)); exact BK203.out), GW202.out, GE202.out, NB199_202.out, NB202_199.out, NB203_202.out, NB202_203.out, GW203.out, GE203.out, NB199_203.out, NB203_199.out, (by repeat (first | (with_reducible first | exact HB.out | apply below_alloc | apply pw_below_drewN | apply below_drew1 | refine below_set ?_ GE199.out | refine below_set ?_ GE202.out | refine below_set ?_ GE203.out) | exact HB.out))⟩)
      · skip
        refine box_step ?hg (N := 8) ?hd (cs := #[.int .i64 0, .int .i64 0, .int .i64 0, .bool false, .slice none 0 0]) (t := 148) ?hr ?_; (case hd => rfl); (case hg => rfl); (case hr => first | (go_simp; done) | (go_simp; rfl))
        intro gb203 hg w16 hbox hb
        have n0_ := Aside0.mk (blk_below (g := gb199) (o := .cells #[.slice A0_0 l0_0.length c0_0, .slice (some ad200) l0_1.length c0_1] 78 (0, 0)) (by (with_reducible repeat (first | refine blk_drewN ?_ _ | refine blk_drew ?_ | refine blk_alloc ?_ _)); exact BK199.out) hb)
        have n1_ := Aside0.mk (below_step (by repeat (first | (with_reducible first | exact HB.out | apply below_alloc | apply pw_below_drewN | apply below_drew1 | refine below_set ?_ GE199.out) | exact HB.out)) hb)
        have n2_ := Aside0.mk (hbox)
        have n3_ := Aside0.mk ((by rw [hg]; exact (below_size (by repeat (first | (with_reducible first | exact HB.out | apply below_alloc | apply pw_below_drewN | apply below_drew1 | refine below_set ?_ GE199.out) | exact HB.out))) : w.heap.size ≤ gb203))
        have n4_ := Aside0.mk ((by rw [hg]; exact (below_size (by repeat (first | (with_reducible first | exact HB.out | apply below_alloc | apply pw_below_drewN | apply below_drew1 | refine below_set ?_ GE199.out) | exact HB.out))) : w.heap.size ≤ gb203))
        have n5_ := Aside0.mk ((by rw [hg]; exact Nat.ne_of_lt (blk_lt (g := gb199) (o := .cells #[.slice A0_0 l0_0.length c0_0, .slice (some ad200) l0_1.length c0_1] 78 (0, 0)) (by (with_reducible repeat (first | refine blk_drewN ?_ _ | refine blk_drew ?_ | refine blk_alloc ?_ _)); exact BK199.out)) : gb199 ≠ gb203))
        have n6_ := Aside0.mk ((by rw [hg]; exact Nat.ne_of_gt (blk_lt (g := gb199) (o := .cells #[.slice A0_0 l0_0.length c0_0, .slice (some ad200) l0_1.length c0_1] 78 (0, 0)) (by (with_reducible repeat (first | refine blk_drewN ?_ _ | refine blk_drew ?_ | refine blk_alloc ?_ _)); exact BK199.out)) : gb203 ≠ gb199))
        clear BK199
        clear HB
        have BK199 := n0_
        have HB := n1_
        have BK203 := n2_
        have GW203 := n3_
        have GE203 := n4_
        have NB199_203 := n5_
        have NB203_199 := n6_
        clear n0_ n1_ n2_ n3_ n4_ n5_ n6_
        clear hb hbox hg
        refine hK.out _ _ ⟨(blk_cell BK199.out 0).trans rfl, (blk_cell BK199.out 1).trans rfl, ((HB.out.cell (World.block_lt_of_cell? w _ hw200_0)).trans hw200_0), ((HB.out.cell (World.block_lt_of_cell? w _ hw200_1)).trans hw200_1), ((HB.out.cell (World.block_lt_of_cell? w _ hw200_2)).trans hw200_2), ((HB.out.cell (World.block_lt_of_cell? w _ hw200_3)).trans hw200_3), ((HB.out.cell (World.block_lt_of_cell? w _ hw200_4)).trans hw200_4), ((HB.out.cell (World.block_lt_of_cell? w _ hw201_0)).trans hw201_0), ((HB.out.cell (World.block_lt_of_cell? w _ hw201_1)).trans hw201_1), ((HB.out.cell (World.block_lt_of_cell? w _ hw201_2)).trans hw201_2), ((HB.out.cell (World.block_lt_of_cell? w _ hw201_3)).trans hw201_3), ((HB.out.cell (World.block_lt_of_cell? w _ hw201_4)).trans hw201_4)⟩ (fun hHeld => ?_)
        clear hK K
        refine norm_ (a' := ?_) ?_ ?_
        rotate_left
        · show Act.put _ (some 8) _ = _
          simp only [Act.put, List.setIfInBounds_toArray, List.set_cons_zero, List.set_cons_succ, i64_w, i32_w]
          rfl
        refine one_ (i := 10) (N := some 7) #[true, true, true, true, true, true, true, true, true, true, true, true, false, false] rfl rfl (one_of HT_.out (by kernel_rfl)) (by decide) (fun K hK => ?_)
        refine box_step ?hg (N := 7) ?hd (cs := #[.int .i64 0, .int .i64 0, .int .i64 0, .bool false, .slice none 0 0]) (t := 148) ?hr ?_; (case hd => rfl); (case hg => rfl); (case hr => first | (go_simp; done) | (go_simp; rfl))
        intro gb202 hg w17 hbox hb
        have n0_ := Aside0.mk (blk_below (g := gb199) (o := .cells #[.slice A0_0 l0_0.length c0_0, .slice (some ad200) l0_1.length c0_1] 78 (0, 0)) (by (with_reducible repeat (first | refine blk_drewN ?_ _ | refine blk_drew ?_ | refine blk_alloc ?_ _)); exact BK199.out) hb)
        have n1_ := Aside0.mk (blk_below (g := gb203) (o := .cells #[.int .i64 0, .int .i64 0, .int .i64 0, .bool false, .slice none 0 0] 148 (0, 0)) (by (with_reducible repeat (first | refine blk_drewN ?_ _ | refine blk_drew ?_ | refine blk_alloc ?_ _)); exact BK203.out) hb)
        have n2_ := Aside0.mk (below_step (by repeat (first | (with_reducible first | exact HB.out | apply below_alloc | apply pw_below_drewN | apply below_drew1 | refine below_set ?_ GE199.out | refine below_set ?_ GE203.out) | exact HB.out)) hb)
        have n3_ := Aside0.mk (hbox)
        have n4_ := Aside0.mk ((by rw [hg]; exact (below_size (by repeat (first | (with_reducible first | exact HB.out | apply below_alloc | apply pw_below_drewN | apply below_drew1 | refine below_set ?_ GE199.out | refine below_set ?_ GE203.out) | exact HB.out))) : w.heap.size ≤ gb202))
        have n5_ := Aside0.mk ((by rw [hg]; exact (below_size (by repeat (first | (with_reducible first | exact HB.out | apply below_alloc | apply pw_below_drewN | apply below_drew1 | refine below_set ?_ GE199.out | refine below_set ?_ GE203.out) | exact HB.out))) : w.heap.size ≤ gb202))
        have n6_ := Aside0.mk ((by rw [hg]; exact Nat.ne_of_lt (blk_lt (g := gb199) (o := .cells #[.slice A0_0 l0_0.length c0_0, .slice (some ad200) l0_1.length c0_1] 78 (0, 0)) (by (with_reducible repeat (first | refine blk_drewN ?_ _ | refine blk_drew ?_ | refine blk_alloc ?_ _)); exact BK199.out)) : gb199 ≠ gb202))
        have n7_ := Aside0.mk ((by rw [hg]; exact Nat.ne_of_gt (blk_lt (g := gb199) (o := .cells #[.slice A0_0 l0_0.length c0_0, .slice (some ad200) l0_1.length c0_1] 78 (0, 0)) (by (with_reducible repeat (first | refine blk_drewN ?_ _ | refine blk_drew ?_ | refine blk_alloc ?_ _)); exact BK199.out)) : gb202 ≠ gb199))
        have n8_ := Aside0.mk ((by rw [hg]; exact Nat.ne_of_lt (blk_lt (g := gb203) (o := .cells #[.int .i64 0, .int .i64 0, .int .i64 0, .bool false, .slice none 0 0] 148 (0, 0)) (by (with_reducible repeat (first | refine blk_drewN ?_ _ | refine blk_drew ?_ | refine blk_alloc ?_ _)); exact BK203.out)) : gb203 ≠ gb202))
        have n9_ := Aside0.mk ((by rw [hg]; exact Nat.ne_of_gt (blk_lt (g := gb203) (o := .cells #[.int .i64 0, .int .i64 0, .int .i64 0, .bool false, .slice none 0 0] 148 (0, 0)) (by (with_reducible repeat (first | refine blk_drewN ?_ _ | refine blk_drew ?_ | refine blk_alloc ?_ _)); exact BK203.out)) : gb202 ≠ gb203))
        clear BK199
        clear BK203
        clear HB
        have BK199 := n0_
        have BK203 := n1_
        have HB := n2_
        have BK202 := n3_
        have GW202 := n4_
        have GE202 := n5_
        have NB199_202 := n6_
        have NB202_199 := n7_
        have NB203_202 := n8_
        have NB202_203 := n9_
        clear n0_ n1_ n2_ n3_ n4_ n5_ n6_ n7_ n8_ n9_
        clear hb hbox hg
        refine hK.out _ _ ⟨(blk_cell BK199.out 0).trans rfl, (blk_cell BK199.out 1).trans rfl, ((HB.out.cell (World.block_lt_of_cell? w _ hw200_0)).trans hw200_0), ((HB.out.cell (World.block_lt_of_cell? w _ hw200_1)).trans hw200_1), ((HB.out.cell (World.block_lt_of_cell? w _ hw200_2)).trans hw200_2), ((HB.out.cell (World.block_lt_of_cell? w _ hw200_3)).trans hw200_3), ((HB.out.cell (World.block_lt_of_cell? w _ hw200_4)).trans hw200_4), ((HB.out.cell (World.block_lt_of_cell? w _ hw201_0)).trans hw201_0), ((HB.out.cell (World.block_lt_of_cell? w _ hw201_1)).trans hw201_1), ((HB.out.cell (World.block_lt_of_cell? w _ hw201_2)).trans hw201_2), ((HB.out.cell (World.block_lt_of_cell? w _ hw201_3)).trans hw201_3), ((HB.out.cell (World.block_lt_of_cell? w _ hw201_4)).trans hw201_4)⟩ (fun hHeld => ?_)
        clear hK K
        refine norm_ (a' := ?_) ?_ ?_
        rotate_left
        · show Act.put _ (some 7) _ = _
          simp only [Act.put, List.setIfInBounds_toArray, List.set_cons_zero, List.set_cons_succ, i64_w, i32_w]
          rfl
        exact norm_ (by simp only [putAll, Act.put, List.setIfInBounds_toArray, List.set_cons_zero, List.set_cons_succ]) (hCont (gb202, gb203) _ ⟨hHeld, (by (with_reducible repeat (first | refine blk_drewN ?_ _ | refine blk_drew ?_ | refine blk_alloc ?_ _)); exact BK199.out), (by (with_reducible repeat (first | refine blk_drewN ?_ _ | refine blk_drew ?_ | refine blk_alloc ?_ _)); exact BK202.out), (by (with_reducible repeat (first | refine blk_drewN ?_ _ | refine blk_drew ?_ | refine blk_alloc ?_ _)); exact BK203.out), GW202.out, GE202.out, NB199_202.out, NB202_199.out, NB203_202.out, NB202_203.out, GW203.out, GE203.out, NB199_203.out, NB203_199.out, (by repeat (first | (with_reducible first | exact HB.out | apply below_alloc | apply pw_below_drewN | apply below_drew1 | refine below_set ?_ GE199.out | refine below_set ?_ GE203.out | refine below_set ?_ GE202.out) | exact HB.out))⟩)
    rintro ⟨gb202, gb203⟩ w18 ⟨hS_, h0_, h1_, h2_, h3_, h4_, h5_, h6_, h7_, h8_, h9_, h10_, h11_, h12_, h13_⟩
    have n0_ : Aside0 (w18.heap[gb199]? = some (.cells #[.slice A0_0 l0_0.length c0_0, .slice (some ad200) l0_1.length c0_1] 78 (0, 0))) := ⟨h0_⟩
    have n1_ : Aside0 (w18.heap[gb202]? = some (.cells #[.int .i64 0, .int .i64 0, .int .i64 0, .bool false, .slice none 0 0] 148 (0, 0))) := ⟨h1_⟩
    have n2_ : Aside0 (w18.heap[gb203]? = some (.cells #[.int .i64 0, .int .i64 0, .int .i64 0, .bool false, .slice none 0 0] 148 (0, 0))) := ⟨h2_⟩
    have n3_ : Aside0 (w.heap.size ≤ gb202) := ⟨h3_⟩
    have n4_ : Aside0 (w.heap.size ≤ gb202) := ⟨h4_⟩
    have n5_ : Aside0 (gb199 ≠ gb202) := ⟨h5_⟩
    have n6_ : Aside0 (gb202 ≠ gb199) := ⟨h6_⟩
    have n7_ : Aside0 (gb203 ≠ gb202) := ⟨h7_⟩
    have n8_ : Aside0 (gb202 ≠ gb203) := ⟨h8_⟩
    have n9_ : Aside0 (w.heap.size ≤ gb203) := ⟨h9_⟩
    have n10_ : Aside0 (w.heap.size ≤ gb203) := ⟨h10_⟩
    have n11_ : Aside0 (gb199 ≠ gb203) := ⟨h11_⟩
    have n12_ : Aside0 (gb203 ≠ gb199) := ⟨h12_⟩
    have n13_ : Aside0 (Below w.heap.size w w18) := ⟨h13_⟩
    clear BK199
    clear HB
    clear h0_ h1_ h2_ h3_ h4_ h5_ h6_ h7_ h8_ h9_ h10_ h11_ h12_ h13_
    have BK199 := n0_
    have BK202 := n1_
    have BK203 := n2_
    have GW202 := n3_
    have GE202 := n4_
    have NB199_202 := n5_
    have NB202_199 := n6_
    have NB203_202 := n7_
    have NB202_203 := n8_
    have GW203 := n9_
    have GE203 := n10_
    have NB199_203 := n11_
    have NB203_199 := n12_
    have HB := n13_
    clear n0_ n1_ n2_ n3_ n4_ n5_ n6_ n7_ n8_ n9_ n10_ n11_ n12_ n13_
    have hHeld : w18.cell? ⟨gb199, 0, none⟩ = some (.slice A0_0 l0_0.length c0_0) ∧ w18.cell? ⟨gb199, 1, none⟩ = some (.slice (some ad200) l0_1.length c0_1) ∧ w18.cell? (ad200.add ((a1).toNat * 5)) = some (.int .i64 ((rd_T148 l0_1 a1).f0)) ∧ w18.cell? ⟨(ad200.add ((a1).toNat * 5)).block, (ad200.add ((a1).toNat * 5)).off + 1, none⟩ = some (.int .i64 ((rd_T148 l0_1 a1).f1)) ∧ w18.cell? ⟨(ad200.add ((a1).toNat * 5)).block, (ad200.add ((a1).toNat * 5)).off + 2, none⟩ = some (.int .i64 ((rd_T148 l0_1 a1).f2)) ∧ w18.cell? ⟨(ad200.add ((a1).toNat * 5)).block, (ad200.add ((a1).toNat * 5)).off + 3, none⟩ = some (.bool ((rd_T148 l0_1 a1).f3)) ∧ w18.cell? ⟨(ad200.add ((a1).toNat * 5)).block, (ad200.add ((a1).toNat * 5)).off + 4, none⟩ = some (.slice A200_4 ((rd_T148 l0_1 a1).f4).length c200_4) ∧ w18.cell? (ad200.add ((a2).toNat * 5)) = some (.int .i64 ((rd_T148 l0_1 a2).f0)) ∧ w18.cell? ⟨(ad200.add ((a2).toNat * 5)).block, (ad200.add ((a2).toNat * 5)).off + 1, none⟩ = some (.int .i64 ((rd_T148 l0_1 a2).f1)) ∧ w18.cell? ⟨(ad200.add ((a2).toNat * 5)).block, (ad200.add ((a2).toNat * 5)).off + 2, none⟩ = some (.int .i64 ((rd_T148 l0_1 a2).f2)) ∧ w18.cell? ⟨(ad200.add ((a2).toNat * 5)).block, (ad200.add ((a2).toNat * 5)).off + 3, none⟩ = some (.bool ((rd_T148 l0_1 a2).f3)) ∧ w18.cell? ⟨(ad200.add ((a2).toNat * 5)).block, (ad200.add ((a2).toNat * 5)).off + 4, none⟩ = some (.slice A201_4 ((rd_T148 l0_1 a2).f4).length c201_4) := hS_
    refine norm_ (a' := ?_) ?_ ?_
    rotate_left
    · simp only [putAll, Act.put, List.setIfInBounds_toArray, List.set_cons_zero, List.set_cons_succ]
      rfl
    refine one_ (i := 12) (N := none) #[true, true, true, true, true, true, true, true, true, true, true, true, true, false] rfl rfl (one_of HT_.out (by kernel_rfl)) (by decide) (fun K hK => ?_)
    have hs19 : w18.cell? ⟨gb202, 0, none⟩ = some (.int .i64 0) := (blk_cell BK202.out 0).trans rfl
    have hfs19 := blk_frozen BK202.out 0
    have hns19_0 := NB199_202.out
    have hns19_2 := NB203_202.out
    have hms19_0 := NB202_199.out
    have hms19_2 := NB202_203.out
    have hs20 : w18.cell? ⟨gb202, 1, none⟩ = some (.int .i64 0) := (blk_cell BK202.out 1).trans rfl
    have hfs20 := blk_frozen BK202.out 1
    have hns20_0 := NB199_202.out
    have hns20_2 := NB203_202.out
    have hms20_0 := NB202_199.out
    have hms20_2 := NB202_203.out
    have hs21 : w18.cell? ⟨gb202, 2, none⟩ = some (.int .i64 0) := (blk_cell BK202.out 2).trans rfl
    have hfs21 := blk_frozen BK202.out 2
    have hns21_0 := NB199_202.out
    have hns21_2 := NB203_202.out
    have hms21_0 := NB202_199.out
    have hms21_2 := NB202_203.out
    have hs22 : w18.cell? ⟨gb202, 3, none⟩ = some (.bool false) := (blk_cell BK202.out 3).trans rfl
    have hfs22 := blk_frozen BK202.out 3
    have hns22_0 := NB199_202.out
    have hns22_2 := NB203_202.out
    have hms22_0 := NB202_199.out
    have hms22_2 := NB202_203.out
    have hs23 : w18.cell? ⟨gb202, 4, none⟩ = some (.slice none 0 0) := (blk_cell BK202.out 4).trans rfl
    have hfs23 := blk_frozen BK202.out 4
    have hns23_0 := NB199_202.out
    have hns23_2 := NB203_202.out
    have hms23_0 := NB202_199.out
    have hms23_2 := NB202_203.out
    refine skip_ (w1 := ?_) (by rfl) rfl ?_ ?_
    rotate_left
    · go_simp
      rfl
    have zb_ := World.block_lt_of_cell? _ _ hw200_0
    (try rw [add_block] at zb_)
    have zn200_0_202 := Nat.ne_of_lt (Nat.lt_of_lt_of_le zb_ GW202.out)
    clear zb_
    have zb_ := World.block_lt_of_cell? _ _ hw200_1
    (try rw [add_block] at zb_)
    have zn200_1_202 := Nat.ne_of_lt (Nat.lt_of_lt_of_le zb_ GW202.out)
    clear zb_
    have zb_ := World.block_lt_of_cell? _ _ hw200_2
    (try rw [add_block] at zb_)
    have zn200_2_202 := Nat.ne_of_lt (Nat.lt_of_lt_of_le zb_ GW202.out)
    clear zb_
    have zb_ := World.block_lt_of_cell? _ _ hw200_3
    (try rw [add_block] at zb_)
    have zn200_3_202 := Nat.ne_of_lt (Nat.lt_of_lt_of_le zb_ GW202.out)
    clear zb_
    have zb_ := World.block_lt_of_cell? _ _ hw200_4
    (try rw [add_block] at zb_)
    have zn200_4_202 := Nat.ne_of_lt (Nat.lt_of_lt_of_le zb_ GW202.out)
    clear zb_
    have zb_ := World.block_lt_of_cell? _ _ hw201_0
    (try rw [add_block] at zb_)
    have zn201_0_202 := Nat.ne_of_lt (Nat.lt_of_lt_of_le zb_ GW202.out)
    clear zb_
    have zb_ := World.block_lt_of_cell? _ _ hw201_1
    (try rw [add_block] at zb_)
    have zn201_1_202 := Nat.ne_of_lt (Nat.lt_of_lt_of_le zb_ GW202.out)
    clear zb_
    have zb_ := World.block_lt_of_cell? _ _ hw201_2
    (try rw [add_block] at zb_)
    have zn201_2_202 := Nat.ne_of_lt (Nat.lt_of_lt_of_le zb_ GW202.out)
    clear zb_
    have zb_ := World.block_lt_of_cell? _ _ hw201_3
    (try rw [add_block] at zb_)
    have zn201_3_202 := Nat.ne_of_lt (Nat.lt_of_lt_of_le zb_ GW202.out)
    clear zb_
    have zb_ := World.block_lt_of_cell? _ _ hw201_4
    (try rw [add_block] at zb_)
    have zn201_4_202 := Nat.ne_of_lt (Nat.lt_of_lt_of_le zb_ GW202.out)
    clear zb_
    refine hK.out _ _ ⟨((cell_far (p := ⟨gb202, _, none⟩) NB199_202.out _).trans (((cell_far (p := ⟨gb202, _, none⟩) NB199_202.out _).trans (((cell_far (p := ⟨gb202, _, none⟩) NB199_202.out _).trans (((cell_far (p := ⟨gb202, _, none⟩) NB199_202.out _).trans (((cell_far (p := ⟨gb202, _, none⟩) NB199_202.out _).trans (hHeld.1)))))))))), ((cell_far (p := ⟨gb202, _, none⟩) NB199_202.out _).trans (((cell_far (p := ⟨gb202, _, none⟩) NB199_202.out _).trans (((cell_far (p := ⟨gb202, _, none⟩) NB199_202.out _).trans (((cell_far (p := ⟨gb202, _, none⟩) NB199_202.out _).trans (((cell_far (p := ⟨gb202, _, none⟩) NB199_202.out _).trans (hHeld.2.1)))))))))), ((cell_far (p := ⟨gb202, _, none⟩) (by first | exact zn200_0_202 | (rw [add_block]; exact zn200_0_202) | (show (Addr.add _ _).block ≠ _; rw [add_block]; exact zn200_0_202) | (dsimp only; exact zn200_0_202)) _).trans (((cell_far (p := ⟨gb202, _, none⟩) (by first | exact zn200_0_202 | (rw [add_block]; exact zn200_0_202) | (show (Addr.add _ _).block ≠ _; rw [add_block]; exact zn200_0_202) | (dsimp only; exact zn200_0_202)) _).trans (((cell_far (p := ⟨gb202, _, none⟩) (by first | exact zn200_0_202 | (rw [add_block]; exact zn200_0_202) | (show (Addr.add _ _).block ≠ _; rw [add_block]; exact zn200_0_202) | (dsimp only; exact zn200_0_202)) _).trans (((cell_far (p := ⟨gb202, _, none⟩) (by first | exact zn200_0_202 | (rw [add_block]; exact zn200_0_202) | (show (Addr.add _ _).block ≠ _; rw [add_block]; exact zn200_0_202) | (dsimp only; exact zn200_0_202)) _).trans (((cell_far (p := ⟨gb202, _, none⟩) (by first | exact zn200_0_202 | (rw [add_block]; exact zn200_0_202) | (show (Addr.add _ _).block ≠ _; rw [add_block]; exact zn200_0_202) | (dsimp only; exact zn200_0_202)) _).trans (hHeld.2.2.1)))))))))), ((cell_far (p := ⟨gb202, _, none⟩) (by first | exact zn200_1_202 | (rw [add_block]; exact zn200_1_202) | (show (Addr.add _ _).block ≠ _; rw [add_block]; exact zn200_1_202) | (dsimp only; exact zn200_1_202)) _).trans (((cell_far (p := ⟨gb202, _, none⟩) (by first | exact zn200_1_202 | (rw [add_block]; exact zn200_1_202) | (show (Addr.add _ _).block ≠ _; rw [add_block]; exact zn200_1_202) | (dsimp only; exact zn200_1_202)) _).trans (((cell_far (p := ⟨gb202, _, none⟩) (by first | exact zn200_1_202 | (rw [add_block]; exact zn200_1_202) | (show (Addr.add _ _).block ≠ _; rw [add_block]; exact zn200_1_202) | (dsimp only; exact zn200_1_202)) _).trans (((cell_far (p := ⟨gb202, _, none⟩) (by first | exact zn200_1_202 | (rw [add_block]; exact zn200_1_202) | (show (Addr.add _ _).block ≠ _; rw [add_block]; exact zn200_1_202) | (dsimp only; exact zn200_1_202)) _).trans (((cell_far (p := ⟨gb202, _, none⟩) (by first | exact zn200_1_202 | (rw [add_block]; exact zn200_1_202) | (show (Addr.add _ _).block ≠ _; rw [add_block]; exact zn200_1_202) | (dsimp only; exact zn200_1_202)) _).trans (hHeld.2.2.2.1)))))))))), ((cell_far (p := ⟨gb202, _, none⟩) (by first | exact zn200_2_202 | (rw [add_block]; exact zn200_2_202) | (show (Addr.add _ _).block ≠ _; rw [add_block]; exact zn200_2_202) | (dsimp only; exact zn200_2_202)) _).trans (((cell_far (p := ⟨gb202, _, none⟩) (by first | exact zn200_2_202 | (rw [add_block]; exact zn200_2_202) | (show (Addr.add _ _).block ≠ _; rw [add_block]; exact zn200_2_202) | (dsimp only; exact zn200_2_202)) _).trans (((cell_far (p := ⟨gb202, _, none⟩) (by first | exact zn200_2_202 | (rw [add_block]; exact zn200_2_202) | (show (Addr.add _ _).block ≠ _; rw [add_block]; exact zn200_2_202) | (dsimp only; exact zn200_2_202)) _).trans (((cell_far (p := ⟨gb202, _, none⟩) (by first | exact zn200_2_202 | (rw [add_block]; exact zn200_2_202) | (show (Addr.add _ _).block ≠ _; rw [add_block]; exact zn200_2_202) | (dsimp only; exact zn200_2_202)) _).trans (((cell_far (p := ⟨gb202, _, none⟩) (by first | exact zn200_2_202 | (rw [add_block]; exact zn200_2_202) | (show (Addr.add _ _).block ≠ _; rw [add_block]; exact zn200_2_202) | (dsimp only; exact zn200_2_202)) _).trans (hHeld.2.2.2.2.1)))))))))), ((cell_far (p := ⟨gb202, _, none⟩) (by first | exact zn200_3_202 | (rw [add_block]; exact zn200_3_202) | (show (Addr.add _ _).block ≠ _; rw [add_block]; exact zn200_3_202) | (dsimp only; exact zn200_3_202)) _).trans (((cell_far (p := ⟨gb202, _, none⟩) (by first | exact zn200_3_202 | (rw [add_block]; exact zn200_3_202) | (show (Addr.add _ _).block ≠ _; rw [add_block]; exact zn200_3_202) | (dsimp only; exact zn200_3_202)) _).trans (((cell_far (p := ⟨gb202, _, none⟩) (by first | exact zn200_3_202 | (rw [add_block]; exact zn200_3_202) | (show (Addr.add _ _).block ≠ _; rw [add_block]; exact zn200_3_202) | (dsimp only; exact zn200_3_202)) _).trans (((cell_far (p := ⟨gb202, _, none⟩) (by first | exact zn200_3_202 | (rw [add_block]; exact zn200_3_202) | (show (Addr.add _ _).block ≠ _; rw [add_block]; exact zn200_3_202) | (dsimp only; exact zn200_3_202)) _).trans (((cell_far (p := ⟨gb202, _, none⟩) (by first | exact zn200_3_202 | (rw [add_block]; exact zn200_3_202) | (show (Addr.add _ _).block ≠ _; rw [add_block]; exact zn200_3_202) | (dsimp only; exact zn200_3_202)) _).trans (hHeld.2.2.2.2.2.1)))))))))), ((cell_far (p := ⟨gb202, _, none⟩) (by first | exact zn200_4_202 | (rw [add_block]; exact zn200_4_202) | (show (Addr.add _ _).block ≠ _; rw [add_block]; exact zn200_4_202) | (dsimp only; exact zn200_4_202)) _).trans (((cell_far (p := ⟨gb202, _, none⟩) (by first | exact zn200_4_202 | (rw [add_block]; exact zn200_4_202) | (show (Addr.add _ _).block ≠ _; rw [add_block]; exact zn200_4_202) | (dsimp only; exact zn200_4_202)) _).trans (((cell_far (p := ⟨gb202, _, none⟩) (by first | exact zn200_4_202 | (rw [add_block]; exact zn200_4_202) | (show (Addr.add _ _).block ≠ _; rw [add_block]; exact zn200_4_202) | (dsimp only; exact zn200_4_202)) _).trans (((cell_far (p := ⟨gb202, _, none⟩) (by first | exact zn200_4_202 | (rw [add_block]; exact zn200_4_202) | (show (Addr.add _ _).block ≠ _; rw [add_block]; exact zn200_4_202) | (dsimp only; exact zn200_4_202)) _).trans (((cell_far (p := ⟨gb202, _, none⟩) (by first | exact zn200_4_202 | (rw [add_block]; exact zn200_4_202) | (show (Addr.add _ _).block ≠ _; rw [add_block]; exact zn200_4_202) | (dsimp only; exact zn200_4_202)) _).trans (hHeld.2.2.2.2.2.2.1)))))))))), ((cell_far (p := ⟨gb202, _, none⟩) (by first | exact zn201_0_202 | (rw [add_block]; exact zn201_0_202) | (show (Addr.add _ _).block ≠ _; rw [add_block]; exact zn201_0_202) | (dsimp only; exact zn201_0_202)) _).trans (((cell_far (p := ⟨gb202, _, none⟩) (by first | exact zn201_0_202 | (rw [add_block]; exact zn201_0_202) | (show (Addr.add _ _).block ≠ _; rw [add_block]; exact zn201_0_202) | (dsimp only; exact zn201_0_202)) _).trans (((cell_far (p := ⟨gb202, _, none⟩) (by first | exact zn201_0_202 | (rw [add_block]; exact zn201_0_202) | (show (Addr.add _ _).block ≠ _; rw [add_block]; exact zn201_0_202) | (dsimp only; exact zn201_0_202)) _).trans (((cell_far (p := ⟨gb202, _, none⟩) (by first | exact zn201_0_202 | (rw [add_block]; exact zn201_0_202) | (show (Addr.add _ _).block ≠ _; rw [add_block]; exact zn201_0_202) | (dsimp only; exact zn201_0_202)) _).trans (((cell_far (p := ⟨gb202, _, none⟩) (by first | exact zn201_0_202 | (rw [add_block]; exact zn201_0_202) | (show (Addr.add _ _).block ≠ _; rw [add_block]; exact zn201_0_202) | (dsimp only; exact zn201_0_202)) _).trans (hHeld.2.2.2.2.2.2.2.1)))))))))), ((cell_far (p := ⟨gb202, _, none⟩) (by first | exact zn201_1_202 | (rw [add_block]; exact zn201_1_202) | (show (Addr.add _ _).block ≠ _; rw [add_block]; exact zn201_1_202) | (dsimp only; exact zn201_1_202)) _).trans (((cell_far (p := ⟨gb202, _, none⟩) (by first | exact zn201_1_202 | (rw [add_block]; exact zn201_1_202) | (show (Addr.add _ _).block ≠ _; rw [add_block]; exact zn201_1_202) | (dsimp only; exact zn201_1_202)) _).trans (((cell_far (p := ⟨gb202, _, none⟩) (by first | exact zn201_1_202 | (rw [add_block]; exact zn201_1_202) | (show (Addr.add _ _).block ≠ _; rw [add_block]; exact zn201_1_202) | (dsimp only; exact zn201_1_202)) _).trans (((cell_far (p := ⟨gb202, _, none⟩) (by first | exact zn201_1_202 | (rw [add_block]; exact zn201_1_202) | (show (Addr.add _ _).block ≠ _; rw [add_block]; exact zn201_1_202) | (dsimp only; exact zn201_1_202)) _).trans (((cell_far (p := ⟨gb202, _, none⟩) (by first | exact zn201_1_202 | (rw [add_block]; exact zn201_1_202) | (show (Addr.add _ _).block ≠ _; rw [add_block]; exact zn201_1_202) | (dsimp only; exact zn201_1_202)) _).trans (hHeld.2.2.2.2.2.2.2.2.1)))))))))), ((cell_far (p := ⟨gb202, _, none⟩) (by first | exact zn201_2_202 | (rw [add_block]; exact zn201_2_202) | (show (Addr.add _ _).block ≠ _; rw [add_block]; exact zn201_2_202) | (dsimp only; exact zn201_2_202)) _).trans (((cell_far (p := ⟨gb202, _, none⟩) (by first | exact zn201_2_202 | (rw [add_block]; exact zn201_2_202) | (show (Addr.add _ _).block ≠ _; rw [add_block]; exact zn201_2_202) | (dsimp only; exact zn201_2_202)) _).trans (((cell_far (p := ⟨gb202, _, none⟩) (by first | exact zn201_2_202 | (rw [add_block]; exact zn201_2_202) | (show (Addr.add _ _).block ≠ _; rw [add_block]; exact zn201_2_202) | (dsimp only; exact zn201_2_202)) _).trans (((cell_far (p := ⟨gb202, _, none⟩) (by first | exact zn201_2_202 | (rw [add_block]; exact zn201_2_202) | (show (Addr.add _ _).block ≠ _; rw [add_block]; exact zn201_2_202) | (dsimp only; exact zn201_2_202)) _).trans (((cell_far (p := ⟨gb202, _, none⟩) (by first | exact zn201_2_202 | (rw [add_block]; exact zn201_2_202) | (show (Addr.add _ _).block ≠ _; rw [add_block]; exact zn201_2_202) | (dsimp only; exact zn201_2_202)) _).trans (hHeld.2.2.2.2.2.2.2.2.2.1)))))))))), ((cell_far (p := ⟨gb202, _, none⟩) (by first | exact zn201_3_202 | (rw [add_block]; exact zn201_3_202) | (show (Addr.add _ _).block ≠ _; rw [add_block]; exact zn201_3_202) | (dsimp only; exact zn201_3_202)) _).trans (((cell_far (p := ⟨gb202, _, none⟩) (by first | exact zn201_3_202 | (rw [add_block]; exact zn201_3_202) | (show (Addr.add _ _).block ≠ _; rw [add_block]; exact zn201_3_202) | (dsimp only; exact zn201_3_202)) _).trans (((cell_far (p := ⟨gb202, _, none⟩) (by first | exact zn201_3_202 | (rw [add_block]; exact zn201_3_202) | (show (Addr.add _ _).block ≠ _; rw [add_block]; exact zn201_3_202) | (dsimp only; exact zn201_3_202)) _).trans (((cell_far (p := ⟨gb202, _, none⟩) (by first | exact zn201_3_202 | (rw [add_block]; exact zn201_3_202) | (show (Addr.add _ _).block ≠ _; rw [add_block]; exact zn201_3_202) | (dsimp only; exact zn201_3_202)) _).trans (((cell_far (p := ⟨gb202, _, none⟩) (by first | exact zn201_3_202 | (rw [add_block]; exact zn201_3_202) | (show (Addr.add _ _).block ≠ _; rw [add_block]; exact zn201_3_202) | (dsimp only; exact zn201_3_202)) _).trans (hHeld.2.2.2.2.2.2.2.2.2.2.1)))))))))), ((cell_far (p := ⟨gb202, _, none⟩) (by first | exact zn201_4_202 | (rw [add_block]; exact zn201_4_202) | (show (Addr.add _ _).block ≠ _; rw [add_block]; exact zn201_4_202) | (dsimp only; exact zn201_4_202)) _).trans (((cell_far (p := ⟨gb202, _, none⟩) (by first | exact zn201_4_202 | (rw [add_block]; exact zn201_4_202) | (show (Addr.add _ _).block ≠ _; rw [add_block]; exact zn201_4_202) | (dsimp only; exact zn201_4_202)) _).trans (((cell_far (p := ⟨gb202, _, none⟩) (by first | exact zn201_4_202 | (rw [add_block]; exact zn201_4_202) | (show (Addr.add _ _).block ≠ _; rw [add_block]; exact zn201_4_202) | (dsimp only; exact zn201_4_202)) _).trans (((cell_far (p := ⟨gb202, _, none⟩) (by first | exact zn201_4_202 | (rw [add_block]; exact zn201_4_202) | (show (Addr.add _ _).block ≠ _; rw [add_block]; exact zn201_4_202) | (dsimp only; exact zn201_4_202)) _).trans (((cell_far (p := ⟨gb202, _, none⟩) (by first | exact zn201_4_202 | (rw [add_block]; exact zn201_4_202) | (show (Addr.add _ _).block ≠ _; rw [add_block]; exact zn201_4_202) | (dsimp only; exact zn201_4_202)) _).trans (hHeld.2.2.2.2.2.2.2.2.2.2.2))))))))))⟩ (fun hHeld => ?_)
    clear zn200_0_202 zn200_1_202 zn200_2_202 zn200_3_202 zn200_4_202 zn201_0_202 zn201_1_202 zn201_2_202 zn201_3_202 zn201_4_202
    clear hK K
    refine one_ (i := 13) (N := none) #[true, true, true, true, true, true, true, true, true, true, true, true, true, true] rfl rfl (one_of HT_.out (by kernel_rfl)) (by decide) (fun K hK => ?_)
    have hs24 : w18.cell? ⟨gb203, 0, none⟩ = some (.int .i64 0) := (blk_cell BK203.out 0).trans rfl
    have hfs24 := blk_frozen BK203.out 0
    have hns24_0 := NB199_203.out
    have hns24_1 := NB202_203.out
    have hms24_0 := NB203_199.out
    have hms24_1 := NB203_202.out
    have hs25 : w18.cell? ⟨gb203, 1, none⟩ = some (.int .i64 0) := (blk_cell BK203.out 1).trans rfl
    have hfs25 := blk_frozen BK203.out 1
    have hns25_0 := NB199_203.out
    have hns25_1 := NB202_203.out
    have hms25_0 := NB203_199.out
    have hms25_1 := NB203_202.out
    have hs26 : w18.cell? ⟨gb203, 2, none⟩ = some (.int .i64 0) := (blk_cell BK203.out 2).trans rfl
    have hfs26 := blk_frozen BK203.out 2
    have hns26_0 := NB199_203.out
    have hns26_1 := NB202_203.out
    have hms26_0 := NB203_199.out
    have hms26_1 := NB203_202.out
    have hs27 : w18.cell? ⟨gb203, 3, none⟩ = some (.bool false) := (blk_cell BK203.out 3).trans rfl
    have hfs27 := blk_frozen BK203.out 3
    have hns27_0 := NB199_203.out
    have hns27_1 := NB202_203.out
    have hms27_0 := NB203_199.out
    have hms27_1 := NB203_202.out
    have hs28 : w18.cell? ⟨gb203, 4, none⟩ = some (.slice none 0 0) := (blk_cell BK203.out 4).trans rfl
    have hfs28 := blk_frozen BK203.out 4
    have hns28_0 := NB199_203.out
    have hns28_1 := NB202_203.out
    have hms28_0 := NB203_199.out
    have hms28_1 := NB203_202.out
    refine skip_ (w1 := ?_) (by rfl) rfl ?_ ?_
    rotate_left
    · go_simp
      rfl
    have zb_ := World.block_lt_of_cell? _ _ hw200_0
    (try rw [add_block] at zb_)
    have zn200_0_203 := Nat.ne_of_lt (Nat.lt_of_lt_of_le zb_ GW203.out)
    clear zb_
    have zb_ := World.block_lt_of_cell? _ _ hw200_1
    (try rw [add_block] at zb_)
    have zn200_1_203 := Nat.ne_of_lt (Nat.lt_of_lt_of_le zb_ GW203.out)
    clear zb_
    have zb_ := World.block_lt_of_cell? _ _ hw200_2
    (try rw [add_block] at zb_)
    have zn200_2_203 := Nat.ne_of_lt (Nat.lt_of_lt_of_le zb_ GW203.out)
    clear zb_
    have zb_ := World.block_lt_of_cell? _ _ hw200_3
    (try rw [add_block] at zb_)
    have zn200_3_203 := Nat.ne_of_lt (Nat.lt_of_lt_of_le zb_ GW203.out)
    clear zb_
    have zb_ := World.block_lt_of_cell? _ _ hw200_4
    (try rw [add_block] at zb_)
    have zn200_4_203 := Nat.ne_of_lt (Nat.lt_of_lt_of_le zb_ GW203.out)
    clear zb_
    have zb_ := World.block_lt_of_cell? _ _ hw201_0
    (try rw [add_block] at zb_)
    have zn201_0_203 := Nat.ne_of_lt (Nat.lt_of_lt_of_le zb_ GW203.out)
    clear zb_
    have zb_ := World.block_lt_of_cell? _ _ hw201_1
    (try rw [add_block] at zb_)
    have zn201_1_203 := Nat.ne_of_lt (Nat.lt_of_lt_of_le zb_ GW203.out)
    clear zb_
    have zb_ := World.block_lt_of_cell? _ _ hw201_2
    (try rw [add_block] at zb_)
    have zn201_2_203 := Nat.ne_of_lt (Nat.lt_of_lt_of_le zb_ GW203.out)
    clear zb_
    have zb_ := World.block_lt_of_cell? _ _ hw201_3
    (try rw [add_block] at zb_)
    have zn201_3_203 := Nat.ne_of_lt (Nat.lt_of_lt_of_le zb_ GW203.out)
    clear zb_
    have zb_ := World.block_lt_of_cell? _ _ hw201_4
    (try rw [add_block] at zb_)
    have zn201_4_203 := Nat.ne_of_lt (Nat.lt_of_lt_of_le zb_ GW203.out)
    clear zb_
    refine hK.out _ _ ⟨((cell_far (p := ⟨gb203, _, none⟩) NB199_203.out _).trans (((cell_far (p := ⟨gb203, _, none⟩) NB199_203.out _).trans (((cell_far (p := ⟨gb203, _, none⟩) NB199_203.out _).trans (((cell_far (p := ⟨gb203, _, none⟩) NB199_203.out _).trans (((cell_far (p := ⟨gb203, _, none⟩) NB199_203.out _).trans (hHeld.1)))))))))), ((cell_far (p := ⟨gb203, _, none⟩) NB199_203.out _).trans (((cell_far (p := ⟨gb203, _, none⟩) NB199_203.out _).trans (((cell_far (p := ⟨gb203, _, none⟩) NB199_203.out _).trans (((cell_far (p := ⟨gb203, _, none⟩) NB199_203.out _).trans (((cell_far (p := ⟨gb203, _, none⟩) NB199_203.out _).trans (hHeld.2.1)))))))))), ((cell_far (p := ⟨gb203, _, none⟩) (by first | exact zn200_0_203 | (rw [add_block]; exact zn200_0_203) | (show (Addr.add _ _).block ≠ _; rw [add_block]; exact zn200_0_203) | (dsimp only; exact zn200_0_203)) _).trans (((cell_far (p := ⟨gb203, _, none⟩) (by first | exact zn200_0_203 | (rw [add_block]; exact zn200_0_203) | (show (Addr.add _ _).block ≠ _; rw [add_block]; exact zn200_0_203) | (dsimp only; exact zn200_0_203)) _).trans (((cell_far (p := ⟨gb203, _, none⟩) (by first | exact zn200_0_203 | (rw [add_block]; exact zn200_0_203) | (show (Addr.add _ _).block ≠ _; rw [add_block]; exact zn200_0_203) | (dsimp only; exact zn200_0_203)) _).trans (((cell_far (p := ⟨gb203, _, none⟩) (by first | exact zn200_0_203 | (rw [add_block]; exact zn200_0_203) | (show (Addr.add _ _).block ≠ _; rw [add_block]; exact zn200_0_203) | (dsimp only; exact zn200_0_203)) _).trans (((cell_far (p := ⟨gb203, _, none⟩) (by first | exact zn200_0_203 | (rw [add_block]; exact zn200_0_203) | (show (Addr.add _ _).block ≠ _; rw [add_block]; exact zn200_0_203) | (dsimp only; exact zn200_0_203)) _).trans (hHeld.2.2.1)))))))))), ((cell_far (p := ⟨gb203, _, none⟩) (by first | exact zn200_1_203 | (rw [add_block]; exact zn200_1_203) | (show (Addr.add _ _).block ≠ _; rw [add_block]; exact zn200_1_203) | (dsimp only; exact zn200_1_203)) _).trans (((cell_far (p := ⟨gb203, _, none⟩) (by first | exact zn200_1_203 | (rw [add_block]; exact zn200_1_203) | (show (Addr.add _ _).block ≠ _; rw [add_block]; exact zn200_1_203) | (dsimp only; exact zn200_1_203)) _).trans (((cell_far (p := ⟨gb203, _, none⟩) (by first | exact zn200_1_203 | (rw [add_block]; exact zn200_1_203) | (show (Addr.add _ _).block ≠ _; rw [add_block]; exact zn200_1_203) | (dsimp only; exact zn200_1_203)) _).trans (((cell_far (p := ⟨gb203, _, none⟩) (by first | exact zn200_1_203 | (rw [add_block]; exact zn200_1_203) | (show (Addr.add _ _).block ≠ _; rw [add_block]; exact zn200_1_203) | (dsimp only; exact zn200_1_203)) _).trans (((cell_far (p := ⟨gb203, _, none⟩) (by first | exact zn200_1_203 | (rw [add_block]; exact zn200_1_203) | (show (Addr.add _ _).block ≠ _; rw [add_block]; exact zn200_1_203) | (dsimp only; exact zn200_1_203)) _).trans (hHeld.2.2.2.1)))))))))), ((cell_far (p := ⟨gb203, _, none⟩) (by first | exact zn200_2_203 | (rw [add_block]; exact zn200_2_203) | (show (Addr.add _ _).block ≠ _; rw [add_block]; exact zn200_2_203) | (dsimp only; exact zn200_2_203)) _).trans (((cell_far (p := ⟨gb203, _, none⟩) (by first | exact zn200_2_203 | (rw [add_block]; exact zn200_2_203) | (show (Addr.add _ _).block ≠ _; rw [add_block]; exact zn200_2_203) | (dsimp only; exact zn200_2_203)) _).trans (((cell_far (p := ⟨gb203, _, none⟩) (by first | exact zn200_2_203 | (rw [add_block]; exact zn200_2_203) | (show (Addr.add _ _).block ≠ _; rw [add_block]; exact zn200_2_203) | (dsimp only; exact zn200_2_203)) _).trans (((cell_far (p := ⟨gb203, _, none⟩) (by first | exact zn200_2_203 | (rw [add_block]; exact zn200_2_203) | (show (Addr.add _ _).block ≠ _; rw [add_block]; exact zn200_2_203) | (dsimp only; exact zn200_2_203)) _).trans (((cell_far (p := ⟨gb203, _, none⟩) (by first | exact zn200_2_203 | (rw [add_block]; exact zn200_2_203) | (show (Addr.add _ _).block ≠ _; rw [add_block]; exact zn200_2_203) | (dsimp only; exact zn200_2_203)) _).trans (hHeld.2.2.2.2.1)))))))))), ((cell_far (p := ⟨gb203, _, none⟩) (by first | exact zn200_3_203 | (rw [add_block]; exact zn200_3_203) | (show (Addr.add _ _).block ≠ _; rw [add_block]; exact zn200_3_203) | (dsimp only; exact zn200_3_203)) _).trans (((cell_far (p := ⟨gb203, _, none⟩) (by first | exact zn200_3_203 | (rw [add_block]; exact zn200_3_203) | (show (Addr.add _ _).block ≠ _; rw [add_block]; exact zn200_3_203) | (dsimp only; exact zn200_3_203)) _).trans (((cell_far (p := ⟨gb203, _, none⟩) (by first | exact zn200_3_203 | (rw [add_block]; exact zn200_3_203) | (show (Addr.add _ _).block ≠ _; rw [add_block]; exact zn200_3_203) | (dsimp only; exact zn200_3_203)) _).trans (((cell_far (p := ⟨gb203, _, none⟩) (by first | exact zn200_3_203 | (rw [add_block]; exact zn200_3_203) | (show (Addr.add _ _).block ≠ _; rw [add_block]; exact zn200_3_203) | (dsimp only; exact zn200_3_203)) _).trans (((cell_far (p := ⟨gb203, _, none⟩) (by first | exact zn200_3_203 | (rw [add_block]; exact zn200_3_203) | (show (Addr.add _ _).block ≠ _; rw [add_block]; exact zn200_3_203) | (dsimp only; exact zn200_3_203)) _).trans (hHeld.2.2.2.2.2.1)))))))))), ((cell_far (p := ⟨gb203, _, none⟩) (by first | exact zn200_4_203 | (rw [add_block]; exact zn200_4_203) | (show (Addr.add _ _).block ≠ _; rw [add_block]; exact zn200_4_203) | (dsimp only; exact zn200_4_203)) _).trans (((cell_far (p := ⟨gb203, _, none⟩) (by first | exact zn200_4_203 | (rw [add_block]; exact zn200_4_203) | (show (Addr.add _ _).block ≠ _; rw [add_block]; exact zn200_4_203) | (dsimp only; exact zn200_4_203)) _).trans (((cell_far (p := ⟨gb203, _, none⟩) (by first | exact zn200_4_203 | (rw [add_block]; exact zn200_4_203) | (show (Addr.add _ _).block ≠ _; rw [add_block]; exact zn200_4_203) | (dsimp only; exact zn200_4_203)) _).trans (((cell_far (p := ⟨gb203, _, none⟩) (by first | exact zn200_4_203 | (rw [add_block]; exact zn200_4_203) | (show (Addr.add _ _).block ≠ _; rw [add_block]; exact zn200_4_203) | (dsimp only; exact zn200_4_203)) _).trans (((cell_far (p := ⟨gb203, _, none⟩) (by first | exact zn200_4_203 | (rw [add_block]; exact zn200_4_203) | (show (Addr.add _ _).block ≠ _; rw [add_block]; exact zn200_4_203) | (dsimp only; exact zn200_4_203)) _).trans (hHeld.2.2.2.2.2.2.1)))))))))), ((cell_far (p := ⟨gb203, _, none⟩) (by first | exact zn201_0_203 | (rw [add_block]; exact zn201_0_203) | (show (Addr.add _ _).block ≠ _; rw [add_block]; exact zn201_0_203) | (dsimp only; exact zn201_0_203)) _).trans (((cell_far (p := ⟨gb203, _, none⟩) (by first | exact zn201_0_203 | (rw [add_block]; exact zn201_0_203) | (show (Addr.add _ _).block ≠ _; rw [add_block]; exact zn201_0_203) | (dsimp only; exact zn201_0_203)) _).trans (((cell_far (p := ⟨gb203, _, none⟩) (by first | exact zn201_0_203 | (rw [add_block]; exact zn201_0_203) | (show (Addr.add _ _).block ≠ _; rw [add_block]; exact zn201_0_203) | (dsimp only; exact zn201_0_203)) _).trans (((cell_far (p := ⟨gb203, _, none⟩) (by first | exact zn201_0_203 | (rw [add_block]; exact zn201_0_203) | (show (Addr.add _ _).block ≠ _; rw [add_block]; exact zn201_0_203) | (dsimp only; exact zn201_0_203)) _).trans (((cell_far (p := ⟨gb203, _, none⟩) (by first | exact zn201_0_203 | (rw [add_block]; exact zn201_0_203) | (show (Addr.add _ _).block ≠ _; rw [add_block]; exact zn201_0_203) | (dsimp only; exact zn201_0_203)) _).trans (hHeld.2.2.2.2.2.2.2.1)))))))))), ((cell_far (p := ⟨gb203, _, none⟩) (by first | exact zn201_1_203 | (rw [add_block]; exact zn201_1_203) | (show (Addr.add _ _).block ≠ _; rw [add_block]; exact zn201_1_203) | (dsimp only; exact zn201_1_203)) _).trans (((cell_far (p := ⟨gb203, _, none⟩) (by first | exact zn201_1_203 | (rw [add_block]; exact zn201_1_203) | (show (Addr.add _ _).block ≠ _; rw [add_block]; exact zn201_1_203) | (dsimp only; exact zn201_1_203)) _).trans (((cell_far (p := ⟨gb203, _, none⟩) (by first | exact zn201_1_203 | (rw [add_block]; exact zn201_1_203) | (show (Addr.add _ _).block ≠ _; rw [add_block]; exact zn201_1_203) | (dsimp only; exact zn201_1_203)) _).trans (((cell_far (p := ⟨gb203, _, none⟩) (by first | exact zn201_1_203 | (rw [add_block]; exact zn201_1_203) | (show (Addr.add _ _).block ≠ _; rw [add_block]; exact zn201_1_203) | (dsimp only; exact zn201_1_203)) _).trans (((cell_far (p := ⟨gb203, _, none⟩) (by first | exact zn201_1_203 | (rw [add_block]; exact zn201_1_203) | (show (Addr.add _ _).block ≠ _; rw [add_block]; exact zn201_1_203) | (dsimp only; exact zn201_1_203)) _).trans (hHeld.2.2.2.2.2.2.2.2.1)))))))))), ((cell_far (p := ⟨gb203, _, none⟩) (by first | exact zn201_2_203 | (rw [add_block]; exact zn201_2_203) | (show (Addr.add _ _).block ≠ _; rw [add_block]; exact zn201_2_203) | (dsimp only; exact zn201_2_203)) _).trans (((cell_far (p := ⟨gb203, _, none⟩) (by first | exact zn201_2_203 | (rw [add_block]; exact zn201_2_203) | (show (Addr.add _ _).block ≠ _; rw [add_block]; exact zn201_2_203) | (dsimp only; exact zn201_2_203)) _).trans (((cell_far (p := ⟨gb203, _, none⟩) (by first | exact zn201_2_203 | (rw [add_block]; exact zn201_2_203) | (show (Addr.add _ _).block ≠ _; rw [add_block]; exact zn201_2_203) | (dsimp only; exact zn201_2_203)) _).trans (((cell_far (p := ⟨gb203, _, none⟩) (by first | exact zn201_2_203 | (rw [add_block]; exact zn201_2_203) | (show (Addr.add _ _).block ≠ _; rw [add_block]; exact zn201_2_203) | (dsimp only; exact zn201_2_203)) _).trans (((cell_far (p := ⟨gb203, _, none⟩) (by first | exact zn201_2_203 | (rw [add_block]; exact zn201_2_203) | (show (Addr.add _ _).block ≠ _; rw [add_block]; exact zn201_2_203) | (dsimp only; exact zn201_2_203)) _).trans (hHeld.2.2.2.2.2.2.2.2.2.1)))))))))), ((cell_far (p := ⟨gb203, _, none⟩) (by first | exact zn201_3_203 | (rw [add_block]; exact zn201_3_203) | (show (Addr.add _ _).block ≠ _; rw [add_block]; exact zn201_3_203) | (dsimp only; exact zn201_3_203)) _).trans (((cell_far (p := ⟨gb203, _, none⟩) (by first | exact zn201_3_203 | (rw [add_block]; exact zn201_3_203) | (show (Addr.add _ _).block ≠ _; rw [add_block]; exact zn201_3_203) | (dsimp only; exact zn201_3_203)) _).trans (((cell_far (p := ⟨gb203, _, none⟩) (by first | exact zn201_3_203 | (rw [add_block]; exact zn201_3_203) | (show (Addr.add _ _).block ≠ _; rw [add_block]; exact zn201_3_203) | (dsimp only; exact zn201_3_203)) _).trans (((cell_far (p := ⟨gb203, _, none⟩) (by first | exact zn201_3_203 | (rw [add_block]; exact zn201_3_203) | (show (Addr.add _ _).block ≠ _; rw [add_block]; exact zn201_3_203) | (dsimp only; exact zn201_3_203)) _).trans (((cell_far (p := ⟨gb203, _, none⟩) (by first | exact zn201_3_203 | (rw [add_block]; exact zn201_3_203) | (show (Addr.add _ _).block ≠ _; rw [add_block]; exact zn201_3_203) | (dsimp only; exact zn201_3_203)) _).trans (hHeld.2.2.2.2.2.2.2.2.2.2.1)))))))))), ((cell_far (p := ⟨gb203, _, none⟩) (by first | exact zn201_4_203 | (rw [add_block]; exact zn201_4_203) | (show (Addr.add _ _).block ≠ _; rw [add_block]; exact zn201_4_203) | (dsimp only; exact zn201_4_203)) _).trans (((cell_far (p := ⟨gb203, _, none⟩) (by first | exact zn201_4_203 | (rw [add_block]; exact zn201_4_203) | (show (Addr.add _ _).block ≠ _; rw [add_block]; exact zn201_4_203) | (dsimp only; exact zn201_4_203)) _).trans (((cell_far (p := ⟨gb203, _, none⟩) (by first | exact zn201_4_203 | (rw [add_block]; exact zn201_4_203) | (show (Addr.add _ _).block ≠ _; rw [add_block]; exact zn201_4_203) | (dsimp only; exact zn201_4_203)) _).trans (((cell_far (p := ⟨gb203, _, none⟩) (by first | exact zn201_4_203 | (rw [add_block]; exact zn201_4_203) | (show (Addr.add _ _).block ≠ _; rw [add_block]; exact zn201_4_203) | (dsimp only; exact zn201_4_203)) _).trans (((cell_far (p := ⟨gb203, _, none⟩) (by first | exact zn201_4_203 | (rw [add_block]; exact zn201_4_203) | (show (Addr.add _ _).block ≠ _; rw [add_block]; exact zn201_4_203) | (dsimp only; exact zn201_4_203)) _).trans (hHeld.2.2.2.2.2.2.2.2.2.2.2))))))))))⟩ (fun hHeld => ?_)
    clear zn200_0_203 zn200_1_203 zn200_2_203 zn200_3_203 zn200_4_203 zn201_0_203 zn201_1_203 zn201_2_203 zn201_3_203 zn201_4_203
    clear hK K
    refine done_ (done_of HT_.out (by kernel_rfl)) ?_
    try go_wp2
    have n0_ : Aside0 (((((((((((w18.setCell ⟨gb202, 0, none⟩ (.int .i64 ((rd_T148 l0_1 a1).f0))).setCell ⟨gb202, 1, none⟩ (.int .i64 ((rd_T148 l0_1 a1).f1))).setCell ⟨gb202, 2, none⟩ (.int .i64 ((rd_T148 l0_1 a1).f2))).setCell ⟨gb202, 3, none⟩ (.bool ((rd_T148 l0_1 a1).f3))).setCell ⟨gb202, 4, none⟩ (.slice A200_4 ((rd_T148 l0_1 a1).f4).length c200_4)).setCell ⟨gb203, 0, none⟩ (.int .i64 ((rd_T148 l0_1 a2).f0))).setCell ⟨gb203, 1, none⟩ (.int .i64 ((rd_T148 l0_1 a2).f1))).setCell ⟨gb203, 2, none⟩ (.int .i64 ((rd_T148 l0_1 a2).f2))).setCell ⟨gb203, 3, none⟩ (.bool ((rd_T148 l0_1 a2).f3))).setCell ⟨gb203, 4, none⟩ (.slice A201_4 ((rd_T148 l0_1 a2).f4).length c201_4)).heap[gb199]? = some (.cells #[.slice A0_0 l0_0.length c0_0, .slice (some ad200) l0_1.length c0_1] 78 (0, 0))) := ⟨by (with_reducible repeat (first | refine blk_drewN ?_ _ | refine blk_drew ?_ | refine blk_alloc ?_ _)); refine blk_far ?_ NB199_203.out _; (with_reducible repeat (first | refine blk_drewN ?_ _ | refine blk_drew ?_ | refine blk_alloc ?_ _)); refine blk_far ?_ NB199_203.out _; (with_reducible repeat (first | refine blk_drewN ?_ _ | refine blk_drew ?_ | refine blk_alloc ?_ _)); refine blk_far ?_ NB199_203.out _; (with_reducible repeat (first | refine blk_drewN ?_ _ | refine blk_drew ?_ | refine blk_alloc ?_ _)); refine blk_far ?_ NB199_203.out _; (with_reducible repeat (first | refine blk_drewN ?_ _ | refine blk_drew ?_ | refine blk_alloc ?_ _)); refine blk_far ?_ NB199_203.out _; (with_reducible repeat (first | refine blk_drewN ?_ _ | refine blk_drew ?_ | refine blk_alloc ?_ _)); refine blk_far ?_ NB199_202.out _; (with_reducible repeat (first | refine blk_drewN ?_ _ | refine blk_drew ?_ | refine blk_alloc ?_ _)); refine blk_far ?_ NB199_202.out _; (with_reducible repeat (first | refine blk_drewN ?_ _ | refine blk_drew ?_ | refine blk_alloc ?_ _)); refine blk_far ?_ NB199_202.out _; (with_reducible repeat (first | refine blk_drewN ?_ _ | refine blk_drew ?_ | refine blk_alloc ?_ _)); refine blk_far ?_ NB199_202.out _; (with_reducible repeat (first | refine blk_drewN ?_ _ | refine blk_drew ?_ | refine blk_alloc ?_ _)); refine blk_far ?_ NB199_202.out _; (with_reducible repeat (first | refine blk_drewN ?_ _ | refine blk_drew ?_ | refine blk_alloc ?_ _)); exact BK199.out⟩
    have n1_ : Aside0 (((((((((((w18.setCell ⟨gb202, 0, none⟩ (.int .i64 ((rd_T148 l0_1 a1).f0))).setCell ⟨gb202, 1, none⟩ (.int .i64 ((rd_T148 l0_1 a1).f1))).setCell ⟨gb202, 2, none⟩ (.int .i64 ((rd_T148 l0_1 a1).f2))).setCell ⟨gb202, 3, none⟩ (.bool ((rd_T148 l0_1 a1).f3))).setCell ⟨gb202, 4, none⟩ (.slice A200_4 ((rd_T148 l0_1 a1).f4).length c200_4)).setCell ⟨gb203, 0, none⟩ (.int .i64 ((rd_T148 l0_1 a2).f0))).setCell ⟨gb203, 1, none⟩ (.int .i64 ((rd_T148 l0_1 a2).f1))).setCell ⟨gb203, 2, none⟩ (.int .i64 ((rd_T148 l0_1 a2).f2))).setCell ⟨gb203, 3, none⟩ (.bool ((rd_T148 l0_1 a2).f3))).setCell ⟨gb203, 4, none⟩ (.slice A201_4 ((rd_T148 l0_1 a2).f4).length c201_4)).heap[gb202]? = some (.cells #[.int .i64 ((rd_T148 l0_1 a1).f0), .int .i64 ((rd_T148 l0_1 a1).f1), .int .i64 ((rd_T148 l0_1 a1).f2), .bool ((rd_T148 l0_1 a1).f3), .slice A200_4 ((rd_T148 l0_1 a1).f4).length c200_4] 148 (0, 0))) := ⟨by (with_reducible repeat (first | refine blk_drewN ?_ _ | refine blk_drew ?_ | refine blk_alloc ?_ _)); refine blk_far ?_ NB202_203.out _; (with_reducible repeat (first | refine blk_drewN ?_ _ | refine blk_drew ?_ | refine blk_alloc ?_ _)); refine blk_far ?_ NB202_203.out _; (with_reducible repeat (first | refine blk_drewN ?_ _ | refine blk_drew ?_ | refine blk_alloc ?_ _)); refine blk_far ?_ NB202_203.out _; (with_reducible repeat (first | refine blk_drewN ?_ _ | refine blk_drew ?_ | refine blk_alloc ?_ _)); refine blk_far ?_ NB202_203.out _; (with_reducible repeat (first | refine blk_drewN ?_ _ | refine blk_drew ?_ | refine blk_alloc ?_ _)); refine blk_far ?_ NB202_203.out _; (with_reducible repeat (first | refine blk_drewN ?_ _ | refine blk_drew ?_ | refine blk_alloc ?_ _)); refine blk_put (cs := #[.int .i64 ((rd_T148 l0_1 a1).f0), .int .i64 ((rd_T148 l0_1 a1).f1), .int .i64 ((rd_T148 l0_1 a1).f2), .bool ((rd_T148 l0_1 a1).f3), .slice none 0 0]) ?_ 4 _ rfl; (with_reducible repeat (first | refine blk_drewN ?_ _ | refine blk_drew ?_ | refine blk_alloc ?_ _)); refine blk_put (cs := #[.int .i64 ((rd_T148 l0_1 a1).f0), .int .i64 ((rd_T148 l0_1 a1).f1), .int .i64 ((rd_T148 l0_1 a1).f2), .bool false, .slice none 0 0]) ?_ 3 _ rfl; (with_reducible repeat (first | refine blk_drewN ?_ _ | refine blk_drew ?_ | refine blk_alloc ?_ _)); refine blk_put (cs := #[.int .i64 ((rd_T148 l0_1 a1).f0), .int .i64 ((rd_T148 l0_1 a1).f1), .int .i64 0, .bool false, .slice none 0 0]) ?_ 2 _ rfl; (with_reducible repeat (first | refine blk_drewN ?_ _ | refine blk_drew ?_ | refine blk_alloc ?_ _)); refine blk_put (cs := #[.int .i64 ((rd_T148 l0_1 a1).f0), .int .i64 0, .int .i64 0, .bool false, .slice none 0 0]) ?_ 1 _ rfl; (with_reducible repeat (first | refine blk_drewN ?_ _ | refine blk_drew ?_ | refine blk_alloc ?_ _)); refine blk_put (cs := #[.int .i64 0, .int .i64 0, .int .i64 0, .bool false, .slice none 0 0]) ?_ 0 _ rfl; (with_reducible repeat (first | refine blk_drewN ?_ _ | refine blk_drew ?_ | refine blk_alloc ?_ _)); exact BK202.out⟩
    have n2_ : Aside0 (((((((((((w18.setCell ⟨gb202, 0, none⟩ (.int .i64 ((rd_T148 l0_1 a1).f0))).setCell ⟨gb202, 1, none⟩ (.int .i64 ((rd_T148 l0_1 a1).f1))).setCell ⟨gb202, 2, none⟩ (.int .i64 ((rd_T148 l0_1 a1).f2))).setCell ⟨gb202, 3, none⟩ (.bool ((rd_T148 l0_1 a1).f3))).setCell ⟨gb202, 4, none⟩ (.slice A200_4 ((rd_T148 l0_1 a1).f4).length c200_4)).setCell ⟨gb203, 0, none⟩ (.int .i64 ((rd_T148 l0_1 a2).f0))).setCell ⟨gb203, 1, none⟩ (.int .i64 ((rd_T148 l0_1 a2).f1))).setCell ⟨gb203, 2, none⟩ (.int .i64 ((rd_T148 l0_1 a2).f2))).setCell ⟨gb203, 3, none⟩ (.bool ((rd_T148 l0_1 a2).f3))).setCell ⟨gb203, 4, none⟩ (.slice A201_4 ((rd_T148 l0_1 a2).f4).length c201_4)).heap[gb203]? = some (.cells #[.int .i64 ((rd_T148 l0_1 a2).f0), .int .i64 ((rd_T148 l0_1 a2).f1), .int .i64 ((rd_T148 l0_1 a2).f2), .bool ((rd_T148 l0_1 a2).f3), .slice A201_4 ((rd_T148 l0_1 a2).f4).length c201_4] 148 (0, 0))) := ⟨by (with_reducible repeat (first | refine blk_drewN ?_ _ | refine blk_drew ?_ | refine blk_alloc ?_ _)); refine blk_put (cs := #[.int .i64 ((rd_T148 l0_1 a2).f0), .int .i64 ((rd_T148 l0_1 a2).f1), .int .i64 ((rd_T148 l0_1 a2).f2), .bool ((rd_T148 l0_1 a2).f3), .slice none 0 0]) ?_ 4 _ rfl; (with_reducible repeat (first | refine blk_drewN ?_ _ | refine blk_drew ?_ | refine blk_alloc ?_ _)); refine blk_put (cs := #[.int .i64 ((rd_T148 l0_1 a2).f0), .int .i64 ((rd_T148 l0_1 a2).f1), .int .i64 ((rd_T148 l0_1 a2).f2), .bool false, .slice none 0 0]) ?_ 3 _ rfl; (with_reducible repeat (first | refine blk_drewN ?_ _ | refine blk_drew ?_ | refine blk_alloc ?_ _)); refine blk_put (cs := #[.int .i64 ((rd_T148 l0_1 a2).f0), .int .i64 ((rd_T148 l0_1 a2).f1), .int .i64 0, .bool false, .slice none 0 0]) ?_ 2 _ rfl; (with_reducible repeat (first | refine blk_drewN ?_ _ | refine blk_drew ?_ | refine blk_alloc ?_ _)); refine blk_put (cs := #[.int .i64 ((rd_T148 l0_1 a2).f0), .int .i64 0, .int .i64 0, .bool false, .slice none 0 0]) ?_ 1 _ rfl; (with_reducible repeat (first | refine blk_drewN ?_ _ | refine blk_drew ?_ | refine blk_alloc ?_ _)); refine blk_put (cs := #[.int .i64 0, .int .i64 0, .int .i64 0, .bool false, .slice none 0 0]) ?_ 0 _ rfl; (with_reducible repeat (first | refine blk_drewN ?_ _ | refine blk_drew ?_ | refine blk_alloc ?_ _)); refine blk_far ?_ NB203_202.out _; (with_reducible repeat (first | refine blk_drewN ?_ _ | refine blk_drew ?_ | refine blk_alloc ?_ _)); refine blk_far ?_ NB203_202.out _; (with_reducible repeat (first | refine blk_drewN ?_ _ | refine blk_drew ?_ | refine blk_alloc ?_ _)); refine blk_far ?_ NB203_202.out _; (with_reducible repeat (first | refine blk_drewN ?_ _ | refine blk_drew ?_ | refine blk_alloc ?_ _)); refine blk_far ?_ NB203_202.out _; (with_reducible repeat (first | refine blk_drewN ?_ _ | refine blk_drew ?_ | refine blk_alloc ?_ _)); refine blk_far ?_ NB203_202.out _; (with_reducible repeat (first | refine blk_drewN ?_ _ | refine blk_drew ?_ | refine blk_alloc ?_ _)); exact BK203.out⟩
    have n3_ : Aside0 (Below w.heap.size w ((((((((((w18.setCell ⟨gb202, 0, none⟩ (.int .i64 ((rd_T148 l0_1 a1).f0))).setCell ⟨gb202, 1, none⟩ (.int .i64 ((rd_T148 l0_1 a1).f1))).setCell ⟨gb202, 2, none⟩ (.int .i64 ((rd_T148 l0_1 a1).f2))).setCell ⟨gb202, 3, none⟩ (.bool ((rd_T148 l0_1 a1).f3))).setCell ⟨gb202, 4, none⟩ (.slice A200_4 ((rd_T148 l0_1 a1).f4).length c200_4)).setCell ⟨gb203, 0, none⟩ (.int .i64 ((rd_T148 l0_1 a2).f0))).setCell ⟨gb203, 1, none⟩ (.int .i64 ((rd_T148 l0_1 a2).f1))).setCell ⟨gb203, 2, none⟩ (.int .i64 ((rd_T148 l0_1 a2).f2))).setCell ⟨gb203, 3, none⟩ (.bool ((rd_T148 l0_1 a2).f3))).setCell ⟨gb203, 4, none⟩ (.slice A201_4 ((rd_T148 l0_1 a2).f4).length c201_4))) := ⟨by repeat (first | (with_reducible first | exact HB.out | apply below_alloc | apply pw_below_drewN | apply below_drew1 | refine below_set ?_ GE199.out | refine below_set ?_ GE202.out | refine below_set ?_ GE203.out) | exact HB.out)⟩
    (try clear BK199)
    (try clear BK202)
    (try clear BK203)
    (try clear HB)
    generalize ((((((((((w18.setCell ⟨gb202, 0, none⟩ (.int .i64 ((rd_T148 l0_1 a1).f0))).setCell ⟨gb202, 1, none⟩ (.int .i64 ((rd_T148 l0_1 a1).f1))).setCell ⟨gb202, 2, none⟩ (.int .i64 ((rd_T148 l0_1 a1).f2))).setCell ⟨gb202, 3, none⟩ (.bool ((rd_T148 l0_1 a1).f3))).setCell ⟨gb202, 4, none⟩ (.slice A200_4 ((rd_T148 l0_1 a1).f4).length c200_4)).setCell ⟨gb203, 0, none⟩ (.int .i64 ((rd_T148 l0_1 a2).f0))).setCell ⟨gb203, 1, none⟩ (.int .i64 ((rd_T148 l0_1 a2).f1))).setCell ⟨gb203, 2, none⟩ (.int .i64 ((rd_T148 l0_1 a2).f2))).setCell ⟨gb203, 3, none⟩ (.bool ((rd_T148 l0_1 a2).f3))).setCell ⟨gb203, 4, none⟩ (.slice A201_4 ((rd_T148 l0_1 a2).f4).length c201_4)) = w29 at n0_ n1_ n2_ n3_ ⊢
    have BK199 := n0_
    have BK202 := n1_
    have BK203 := n2_
    have HB := n3_
    clear n0_ n1_ n2_ n3_
    have n0_ := Aside0.mk (blk_drew BK199.out)
    have n1_ := Aside0.mk (blk_drew BK202.out)
    have n2_ := Aside0.mk (blk_drew BK203.out)
    have n3_ := Aside0.mk (below_drew1 HB.out)
    clear BK199
    clear BK202
    clear BK203
    clear HB
    have BK199 := n0_
    have BK202 := n1_
    have BK203 := n2_
    have HB := n3_
    clear n0_ n1_ n2_ n3_
    have p204 : 0 ≤ (((rd_T148 l0_1 a2).f0) : Int) := of_decide_eq_true (by first | (with_reducible assumption) | assumption)
    have q204 : ((rd_T148 l0_1 a2).f0) < (l0_0.length : Int) := of_decide_eq_true (by first | (with_reducible assumption) | assumption)
    obtain ⟨ad204, e204, hx204_0, hx204_1, hx204_2⟩ := at_T149 HR0_0.out ((rd_T148 l0_1 a2).f0) p204 q204
    have hw204_2 := hx204_2
    have hw204_1 := hx204_1
    have hw204_0 := hx204_0
    cases e204
    replace hx204_0 := (HB.out.cell (World.block_lt_of_cell? w _ hx204_0)).trans hx204_0
    replace hx204_1 := (HB.out.cell (World.block_lt_of_cell? w _ hx204_1)).trans hx204_1
    replace hx204_2 := (HB.out.cell (World.block_lt_of_cell? w _ hx204_2)).trans hx204_2
    replace p204 := eq_true p204
    replace q204 := eq_true q204
    have p205 : 0 ≤ (((rd_T148 l0_1 a1).f0) : Int) := of_decide_eq_true (by first | (with_reducible assumption) | assumption)
    have q205 : ((rd_T148 l0_1 a1).f0) < (l0_0.length : Int) := of_decide_eq_true (by first | (with_reducible assumption) | assumption)
    obtain ⟨ad205, e205, hx205_0, hx205_1, hx205_2⟩ := at_T149 HR0_0.out ((rd_T148 l0_1 a1).f0) p205 q205
    have hw205_2 := hx205_2
    have hw205_1 := hx205_1
    have hw205_0 := hx205_0
    obtain rfl : ad204 = ad205 := (by injection e205)
    replace hx205_0 := (HB.out.cell (World.block_lt_of_cell? w _ hx205_0)).trans hx205_0
    replace hx205_1 := (HB.out.cell (World.block_lt_of_cell? w _ hx205_1)).trans hx205_1
    replace hx205_2 := (HB.out.cell (World.block_lt_of_cell? w _ hx205_2)).trans hx205_2
    replace p205 := eq_true p205
    replace q205 := eq_true q205
    refine start_ (n := 22) (S := fun w' => w'.cell? ⟨gb202, 0, none⟩ = some (.int .i64 ((rd_T148 l0_1 a1).f0)) ∧ w'.cell? ⟨gb202, 1, none⟩ = some (.int .i64 ((rd_T148 l0_1 a1).f1)) ∧ w'.cell? ⟨gb202, 2, none⟩ = some (.int .i64 ((rd_T148 l0_1 a1).f2)) ∧ w'.cell? ⟨gb202, 3, none⟩ = some (.bool ((rd_T148 l0_1 a1).f3)) ∧ w'.cell? ⟨gb202, 4, none⟩ = some (.slice A200_4 ((rd_T148 l0_1 a1).f4).length c200_4) ∧ w'.cell? ⟨gb199, 0, none⟩ = some (.slice (some ad204) l0_0.length c0_0) ∧ w'.cell? ⟨gb199, 1, none⟩ = some (.slice (some ad200) l0_1.length c0_1) ∧ w'.cell? ⟨gb203, 0, none⟩ = some (.int .i64 ((rd_T148 l0_1 a2).f0)) ∧ w'.cell? ⟨gb203, 1, none⟩ = some (.int .i64 ((rd_T148 l0_1 a2).f1)) ∧ w'.cell? ⟨gb203, 2, none⟩ = some (.int .i64 ((rd_T148 l0_1 a2).f2)) ∧ w'.cell? ⟨gb203, 3, none⟩ = some (.bool ((rd_T148 l0_1 a2).f3)) ∧ w'.cell? ⟨gb203, 4, none⟩ = some (.slice A201_4 ((rd_T148 l0_1 a2).f4).length c201_4) ∧ w'.cell? (ad204.add ((((rd_T148 l0_1 a2).f0)).toNat * 3)) = some (.int .i64 ((rd_T149 l0_0 ((rd_T148 l0_1 a2).f0)).f0)) ∧ w'.cell? ⟨(ad204.add ((((rd_T148 l0_1 a2).f0)).toNat * 3)).block, (ad204.add ((((rd_T148 l0_1 a2).f0)).toNat * 3)).off + 1, none⟩ = some (.int .i64 ((rd_T149 l0_0 ((rd_T148 l0_1 a2).f0)).f1)) ∧ w'.cell? ⟨(ad204.add ((((rd_T148 l0_1 a2).f0)).toNat * 3)).block, (ad204.add ((((rd_T148 l0_1 a2).f0)).toNat * 3)).off + 2, none⟩ = some (.string ((rd_T149 l0_0 ((rd_T148 l0_1 a2).f0)).f2)) ∧ w'.cell? (ad204.add ((((rd_T148 l0_1 a1).f0)).toNat * 3)) = some (.int .i64 ((rd_T149 l0_0 ((rd_T148 l0_1 a1).f0)).f0)) ∧ w'.cell? ⟨(ad204.add ((((rd_T148 l0_1 a1).f0)).toNat * 3)).block, (ad204.add ((((rd_T148 l0_1 a1).f0)).toNat * 3)).off + 1, none⟩ = some (.int .i64 ((rd_T149 l0_0 ((rd_T148 l0_1 a1).f0)).f1)) ∧ w'.cell? ⟨(ad204.add ((((rd_T148 l0_1 a1).f0)).toNat * 3)).block, (ad204.add ((((rd_T148 l0_1 a1).f0)).toNat * 3)).off + 2, none⟩ = some (.string ((rd_T149 l0_0 ((rd_T148 l0_1 a1).f0)).f2))) (ds := []) #[false, false, false, false, false, false, false, false, false, false, false, false, false, false, false, false, false, false, false, false, false, false] (by kernel_rfl) rfl rfl ⟨(blk_cell BK202.out 0).trans rfl, (blk_cell BK202.out 1).trans rfl, (blk_cell BK202.out 2).trans rfl, (blk_cell BK202.out 3).trans rfl, (blk_cell BK202.out 4).trans rfl, (blk_cell BK199.out 0).trans rfl, (blk_cell BK199.out 1).trans rfl, (blk_cell BK203.out 0).trans rfl, (blk_cell BK203.out 1).trans rfl, (blk_cell BK203.out 2).trans rfl, (blk_cell BK203.out 3).trans rfl, (blk_cell BK203.out 4).trans rfl, ((HB.out.cell (World.block_lt_of_cell? w _ hw204_0)).trans hw204_0), ((HB.out.cell (World.block_lt_of_cell? w _ hw204_1)).trans hw204_1), ((HB.out.cell (World.block_lt_of_cell? w _ hw204_2)).trans hw204_2), ((HB.out.cell (World.block_lt_of_cell? w _ hw205_0)).trans hw205_0), ((HB.out.cell (World.block_lt_of_cell? w _ hw205_1)).trans hw205_1), ((HB.out.cell (World.block_lt_of_cell? w _ hw205_2)).trans hw205_2)⟩ (fun hHeld => ?_); refine with_tabW impl_zearlier.tab2 impl_zearlier.bits2 (fun HT_ HW_ => ?_)
    generalize w29.drew = w30 at BK199 BK202 BK203 HB hx204_0 hx204_1 hx204_2 hx205_0 hx205_1 hx205_2 hHeld ⊢
    refine pure_ (i := 0) (N := some 21) (v := ?_) (a' := ?_) #[true, false, false, false, false, false, false, false, false, false, false, false, false, false, false, false, false, false, false, false, false, false] rfl rfl (any_of HT_.out (by kernel_rfl)) (fun _ _ _ h => h) (Or.inl ⟨by rfl, ?_⟩) ?_ ?_
    rotate_left
    · intro w'
      go_simp
      with_reducible rfl
    rotate_left
    · simp only [Act.put, List.setIfInBounds_toArray, List.set_cons_zero, List.set_cons_succ, i64_w, i32_w]
      rfl
    refine pure_ (i := 2) (N := some 23) (v := ?_) (a' := ?_) #[true, false, true, false, false, false, false, false, false, false, false, false, false, false, false, false, false, false, false, false, false, false] rfl rfl (any_of HT_.out (by kernel_rfl)) (fun _ _ _ h => h) (Or.inl ⟨by rfl, ?_⟩) ?_ ?_
    rotate_left
    · intro w'
      go_simp
      with_reducible rfl
    rotate_left
    · simp only [Act.put, List.setIfInBounds_toArray, List.set_cons_zero, List.set_cons_succ, i64_w, i32_w]
      rfl
    refine pure_ (i := 4) (N := some 25) (v := ?_) (a' := ?_) #[true, false, true, false, true, false, false, false, false, false, false, false, false, false, false, false, false, false, false, false, false, false] rfl rfl (any_of HT_.out (by kernel_rfl)) (fun _ _ _ h => h) (Or.inl ⟨by rfl, ?_⟩) ?_ ?_
    rotate_left
    · intro w'
      go_simp
      with_reducible rfl
    rotate_left
    · simp only [Act.put, List.setIfInBounds_toArray, List.set_cons_zero, List.set_cons_succ, i64_w, i32_w]
      rfl
    refine pure_ (i := 10) (N := some 31) (v := ?_) (a' := ?_) #[true, false, true, false, true, false, false, false, false, false, true, false, false, false, false, false, false, false, false, false, false, false] rfl rfl (any_of HT_.out (by kernel_rfl)) (fun _ _ _ h => h) (Or.inl ⟨by rfl, ?_⟩) ?_ ?_
    rotate_left
    · intro w'
      go_simp
      with_reducible rfl
    rotate_left
    · simp only [Act.put, List.setIfInBounds_toArray, List.set_cons_zero, List.set_cons_succ, i64_w, i32_w]
      rfl
    refine pure_ (i := 12) (N := some 33) (v := ?_) (a' := ?_) #[true, false, true, false, true, false, false, false, false, false, true, false, true, false, false, false, false, false, false, false, false, false] rfl rfl (any_of HT_.out (by kernel_rfl)) (fun _ _ _ h => h) (Or.inl ⟨by rfl, ?_⟩) ?_ ?_
    rotate_left
    · intro w'
      go_simp
      with_reducible rfl
    rotate_left
    · simp only [Act.put, List.setIfInBounds_toArray, List.set_cons_zero, List.set_cons_succ, i64_w, i32_w]
      rfl
    refine pure_ (i := 14) (N := some 35) (v := ?_) (a' := ?_) #[true, false, true, false, true, false, false, false, false, false, true, false, true, false, true, false, false, false, false, false, false, false] rfl rfl (any_of HT_.out (by kernel_rfl)) (fun _ _ _ h => h) (Or.inl ⟨by rfl, ?_⟩) ?_ ?_
    rotate_left
    · intro w'
      go_simp
      with_reducible rfl
    rotate_left
    · simp only [Act.put, List.setIfInBounds_toArray, List.set_cons_zero, List.set_cons_succ, i64_w, i32_w]
      rfl
    refine take_ (i := 1) (N := some 22) (v := ?_) (a' := ?_) #[true, true, true, false, true, false, false, false, false, false, true, false, true, false, true, false, false, false, false, false, false, false] rfl rfl (take_ofW HT_.out HW_.out (by kernel_rfl)) (fun _ _ _ h => h) (Or.inl ⟨by rfl, ?_⟩) hHeld ?_ ?_
    rotate_left
    · rintro w' ⟨s0, s1, s2, s3, s4, s5, s6, s7, s8, s9, s10, s11, s12, s13, s14, s15, s16, s17⟩
      go_simp
      with_reducible rfl
    rotate_left
    · simp only [Act.put, List.setIfInBounds_toArray, List.set_cons_zero, List.set_cons_succ, i64_w, i32_w]
      rfl
    refine take_ (i := 3) (N := some 24) (v := ?_) (a' := ?_) #[true, true, true, true, true, false, false, false, false, false, true, false, true, false, true, false, false, false, false, false, false, false] rfl rfl (take_ofW HT_.out HW_.out (by kernel_rfl)) (fun _ _ _ h => h) (Or.inl ⟨by rfl, ?_⟩) hHeld ?_ ?_
    rotate_left
    · rintro w' ⟨s0, s1, s2, s3, s4, s5, s6, s7, s8, s9, s10, s11, s12, s13, s14, s15, s16, s17⟩
      go_simp
      with_reducible rfl
    rotate_left
    · simp only [Act.put, List.setIfInBounds_toArray, List.set_cons_zero, List.set_cons_succ, i64_w, i32_w]
      rfl
    refine take_ (i := 5) (N := some 26) (v := ?_) (a' := ?_) #[true, true, true, true, true, true, false, false, false, false, true, false, true, false, true, false, false, false, false, false, false, false] rfl rfl (take_ofW HT_.out HW_.out (by kernel_rfl)) (fun _ _ _ h => h) (Or.inl ⟨by rfl, ?_⟩) hHeld ?_ ?_
    rotate_left
    · rintro w' ⟨s0, s1, s2, s3, s4, s5, s6, s7, s8, s9, s10, s11, s12, s13, s14, s15, s16, s17⟩
      go_simp
      with_reducible rfl
    rotate_left
    · simp only [Act.put, List.setIfInBounds_toArray, List.set_cons_zero, List.set_cons_succ, i64_w, i32_w]
      rfl
    refine pure_ (i := 6) (N := some 27) (v := ?_) (a' := ?_) #[true, true, true, true, true, true, true, false, false, false, true, false, true, false, true, false, false, false, false, false, false, false] rfl rfl (any_of HT_.out (by kernel_rfl)) (fun _ _ _ h => h) (Or.inl ⟨by rfl, ?_⟩) ?_ ?_
    rotate_left
    · intro w'
      go_simp
      with_reducible rfl
    rotate_left
    · simp only [Act.put, List.setIfInBounds_toArray, List.set_cons_zero, List.set_cons_succ, i64_w, i32_w]
      rfl
    refine pure_ (i := 7) (N := some 28) (v := ?_) (a' := ?_) #[true, true, true, true, true, true, true, true, false, false, true, false, true, false, true, false, false, false, false, false, false, false] rfl rfl (any_of HT_.out (by kernel_rfl)) (fun _ _ _ h => h) (Or.inl ⟨by rfl, ?_⟩) ?_ ?_
    rotate_left
    · intro w'
      go_simp
      with_reducible rfl
    rotate_left
    · simp only [Act.put, List.setIfInBounds_toArray, List.set_cons_zero, List.set_cons_succ, i64_w, i32_w]
      rfl
    refine take_ (i := 8) (N := some 29) (v := ?_) (a' := ?_) #[true, true, true, true, true, true, true, true, true, false, true, false, true, false, true, false, false, false, false, false, false, false] rfl rfl (take_ofW HT_.out HW_.out (by kernel_rfl)) (fun _ _ _ h => h) (Or.inl ⟨by rfl, ?_⟩) hHeld ?_ ?_
    rotate_left
    · rintro w' ⟨s0, s1, s2, s3, s4, s5, s6, s7, s8, s9, s10, s11, s12, s13, s14, s15, s16, s17⟩
      go_simp
      with_reducible rfl
    rotate_left
    · simp only [Act.put, List.setIfInBounds_toArray, List.set_cons_zero, List.set_cons_succ, i64_w, i32_w]
      rfl
    refine pure_ (i := 9) (N := some 30) (v := ?_) (a' := ?_) #[true, true, true, true, true, true, true, true, true, true, true, false, true, false, true, false, false, false, false, false, false, false] rfl rfl (any_of HT_.out (by kernel_rfl)) (fun _ _ _ h => h) (Or.inl ⟨by rfl, ?_⟩) ?_ ?_
    rotate_left
    · intro w'
      go_simp
      with_reducible rfl
    rotate_left
    · simp only [Act.put, List.setIfInBounds_toArray, List.set_cons_zero, List.set_cons_succ, i64_w, i32_w]
      rfl
    refine pure_ (i := 20) (N := some 9) (v := ?_) (a' := ?_) #[true, true, true, true, true, true, true, true, true, true, true, false, true, false, true, false, false, false, false, false, true, false] rfl rfl (any_of HT_.out (by kernel_rfl)) (fun _ _ _ h => h) (Or.inl ⟨by rfl, ?_⟩) ?_ ?_
    rotate_left
    · intro w'
      go_simp
      with_reducible rfl
    rotate_left
    · simp only [Act.put, List.setIfInBounds_toArray, List.set_cons_zero, List.set_cons_succ, i64_w, i32_w]
      rfl
    refine take_ (i := 11) (N := some 32) (v := ?_) (a' := ?_) #[true, true, true, true, true, true, true, true, true, true, true, true, true, false, true, false, false, false, false, false, true, false] rfl rfl (take_ofW HT_.out HW_.out (by kernel_rfl)) (fun _ _ _ h => h) (Or.inl ⟨by rfl, ?_⟩) hHeld ?_ ?_
    rotate_left
    · rintro w' ⟨s0, s1, s2, s3, s4, s5, s6, s7, s8, s9, s10, s11, s12, s13, s14, s15, s16, s17⟩
      go_simp
      with_reducible rfl
    rotate_left
    · simp only [Act.put, List.setIfInBounds_toArray, List.set_cons_zero, List.set_cons_succ, i64_w, i32_w]
      rfl
    refine take_ (i := 13) (N := some 34) (v := ?_) (a' := ?_) #[true, true, true, true, true, true, true, true, true, true, true, true, true, true, true, false, false, false, false, false, true, false] rfl rfl (take_ofW HT_.out HW_.out (by kernel_rfl)) (fun _ _ _ h => h) (Or.inl ⟨by rfl, ?_⟩) hHeld ?_ ?_
    rotate_left
    · rintro w' ⟨s0, s1, s2, s3, s4, s5, s6, s7, s8, s9, s10, s11, s12, s13, s14, s15, s16, s17⟩
      go_simp
      with_reducible rfl
    rotate_left
    · simp only [Act.put, List.setIfInBounds_toArray, List.set_cons_zero, List.set_cons_succ, i64_w, i32_w]
      rfl
    refine take_ (i := 15) (N := some 36) (v := ?_) (a' := ?_) #[true, true, true, true, true, true, true, true, true, true, true, true, true, true, true, true, false, false, false, false, true, false] rfl rfl (take_ofW HT_.out HW_.out (by kernel_rfl)) (fun _ _ _ h => h) (Or.inl ⟨by rfl, ?_⟩) hHeld ?_ ?_
    rotate_left
    · rintro w' ⟨s0, s1, s2, s3, s4, s5, s6, s7, s8, s9, s10, s11, s12, s13, s14, s15, s16, s17⟩
      go_simp
      with_reducible rfl
    rotate_left
    · simp only [Act.put, List.setIfInBounds_toArray, List.set_cons_zero, List.set_cons_succ, i64_w, i32_w]
      rfl
    refine pure_ (i := 16) (N := some 37) (v := ?_) (a' := ?_) #[true, true, true, true, true, true, true, true, true, true, true, true, true, true, true, true, true, false, false, false, true, false] rfl rfl (any_of HT_.out (by kernel_rfl)) (fun _ _ _ h => h) (Or.inl ⟨by rfl, ?_⟩) ?_ ?_
    rotate_left
    · intro w'
      go_simp
      with_reducible rfl
    rotate_left
    · simp only [Act.put, List.setIfInBounds_toArray, List.set_cons_zero, List.set_cons_succ, i64_w, i32_w]
      rfl
    refine pure_ (i := 17) (N := some 38) (v := ?_) (a' := ?_) #[true, true, true, true, true, true, true, true, true, true, true, true, true, true, true, true, true, true, false, false, true, false] rfl rfl (any_of HT_.out (by kernel_rfl)) (fun _ _ _ h => h) (Or.inl ⟨by rfl, ?_⟩) ?_ ?_
    rotate_left
    · intro w'
      go_simp
      with_reducible rfl
    rotate_left
    · simp only [Act.put, List.setIfInBounds_toArray, List.set_cons_zero, List.set_cons_succ, i64_w, i32_w]
      rfl
    refine take_ (i := 18) (N := some 39) (v := ?_) (a' := ?_) #[true, true, true, true, true, true, true, true, true, true, true, true, true, true, true, true, true, true, true, false, true, false] rfl rfl (take_ofW HT_.out HW_.out (by kernel_rfl)) (fun _ _ _ h => h) (Or.inl ⟨by rfl, ?_⟩) hHeld ?_ ?_
    rotate_left
    · rintro w' ⟨s0, s1, s2, s3, s4, s5, s6, s7, s8, s9, s10, s11, s12, s13, s14, s15, s16, s17⟩
      go_simp
      with_reducible rfl
    rotate_left
    · simp only [Act.put, List.setIfInBounds_toArray, List.set_cons_zero, List.set_cons_succ, i64_w, i32_w]
      rfl
    refine pure_ (i := 19) (N := some 40) (v := ?_) (a' := ?_) #[true, true, true, true, true, true, true, true, true, true, true, true, true, true, true, true, true, true, true, true, true, false] rfl rfl (any_of HT_.out (by kernel_rfl)) (fun _ _ _ h => h) (Or.inl ⟨by rfl, ?_⟩) ?_ ?_
    rotate_left
    · intro w'
      go_simp
      with_reducible rfl
    rotate_left
    · simp only [Act.put, List.setIfInBounds_toArray, List.set_cons_zero, List.set_cons_succ, i64_w, i32_w]
      rfl
    refine pure_ (i := 21) (N := some 10) (v := ?_) (a' := ?_) #[true, true, true, true, true, true, true, true, true, true, true, true, true, true, true, true, true, true, true, true, true, true] rfl rfl (any_of HT_.out (by kernel_rfl)) (fun _ _ _ h => h) (Or.inl ⟨by rfl, ?_⟩) ?_ ?_
    rotate_left
    · intro w'
      go_simp
      with_reducible rfl
    rotate_left
    · simp only [Act.put, List.setIfInBounds_toArray, List.set_cons_zero, List.set_cons_succ, i64_w, i32_w]
      rfl
    refine done_ (done_of HT_.out (by kernel_rfl)) ?_
  · try go_wp2
    go_ret
    exact ⟨by first | rfl | (simp [errW_none, errW_some] <;> rfl) | (simp [*, errW_none, errW_some] <;> rfl), by repeat (first | (with_reducible first | exact HB.out | apply below_alloc | apply pw_below_drewN | apply below_drew1 | refine below_set ?_ GE199.out | refine below_set ?_ GE202.out | refine below_set ?_ GE203.out) | exact HB.out)⟩
  · have hnb31 := NB202_199.out
    have hnc31 := NB199_202.out
    have hnb32 := NB202_203.out
    have hnc32 := NB203_202.out
    have hcz33_0 : w30.cell? ⟨gb202, 0, none⟩ = some (.int .i64 ((rd_T148 l0_1 a1).f0)) := (blk_cell BK202.out 0).trans rfl
    have hcz33_1 : w30.cell? ⟨gb202, 1, none⟩ = some (.int .i64 ((rd_T148 l0_1 a1).f1)) := (blk_cell BK202.out 1).trans rfl
    have hcz33_2 : w30.cell? ⟨gb202, 2, none⟩ = some (.int .i64 ((rd_T148 l0_1 a1).f2)) := (blk_cell BK202.out 2).trans rfl
    have hcz33_3 : w30.cell? ⟨gb202, 3, none⟩ = some (.bool ((rd_T148 l0_1 a1).f3)) := (blk_cell BK202.out 3).trans rfl
    have hcz33_4 : w30.cell? ⟨gb202, 4, none⟩ = some (.slice A200_4 ((rd_T148 l0_1 a1).f4).length c200_4) := (blk_cell BK202.out 4).trans rfl
    have hfz33_0 := blk_frozen BK202.out 0
    have hfz33_1 := blk_frozen BK202.out 1
    have hfz33_2 := blk_frozen BK202.out 2
    have hfz33_3 := blk_frozen BK202.out 3
    have hfz33_4 := blk_frozen BK202.out 4
    have hnb34 := NB203_199.out
    have hnc34 := NB199_203.out
    have hcz35_0 : w30.cell? ⟨gb203, 0, none⟩ = some (.int .i64 ((rd_T148 l0_1 a2).f0)) := (blk_cell BK203.out 0).trans rfl
    have hcz35_1 : w30.cell? ⟨gb203, 1, none⟩ = some (.int .i64 ((rd_T148 l0_1 a2).f1)) := (blk_cell BK203.out 1).trans rfl
    have hcz35_2 : w30.cell? ⟨gb203, 2, none⟩ = some (.int .i64 ((rd_T148 l0_1 a2).f2)) := (blk_cell BK203.out 2).trans rfl
    have hcz35_3 : w30.cell? ⟨gb203, 3, none⟩ = some (.bool ((rd_T148 l0_1 a2).f3)) := (blk_cell BK203.out 3).trans rfl
    have hcz35_4 : w30.cell? ⟨gb203, 4, none⟩ = some (.slice A201_4 ((rd_T148 l0_1 a2).f4).length c201_4) := (blk_cell BK203.out 4).trans rfl
    have hfz35_0 := blk_frozen BK203.out 0
    have hfz35_1 := blk_frozen BK203.out 1
    have hfz35_2 := blk_frozen BK203.out 2
    have hfz35_3 := blk_frozen BK203.out 3
    have hfz35_4 := blk_frozen BK203.out 4
    try go_wp2
    go_ret
    exact ⟨by first | rfl | (simp [errW_none, errW_some] <;> rfl) | (simp [*, errW_none, errW_some] <;> rfl), by repeat (first | (with_reducible first | exact HB.out | apply below_alloc | apply pw_below_drewN | apply below_drew1 | refine below_set ?_ GE199.out | refine below_set ?_ GE202.out | refine below_set ?_ GE203.out) | exact HB.out)⟩
  · have hnb31 := NB202_199.out
    have hnc31 := NB199_202.out
    have hnb32 := NB202_203.out
    have hnc32 := NB203_202.out
    have hcz33_0 : w30.cell? ⟨gb202, 0, none⟩ = some (.int .i64 ((rd_T148 l0_1 a1).f0)) := (blk_cell BK202.out 0).trans rfl
    have hcz33_1 : w30.cell? ⟨gb202, 1, none⟩ = some (.int .i64 ((rd_T148 l0_1 a1).f1)) := (blk_cell BK202.out 1).trans rfl
    have hcz33_2 : w30.cell? ⟨gb202, 2, none⟩ = some (.int .i64 ((rd_T148 l0_1 a1).f2)) := (blk_cell BK202.out 2).trans rfl
    have hcz33_3 : w30.cell? ⟨gb202, 3, none⟩ = some (.bool ((rd_T148 l0_1 a1).f3)) := (blk_cell BK202.out 3).trans rfl
    have hcz33_4 : w30.cell? ⟨gb202, 4, none⟩ = some (.slice A200_4 ((rd_T148 l0_1 a1).f4).length c200_4) := (blk_cell BK202.out 4).trans rfl
    have hfz33_0 := blk_frozen BK202.out 0
    have hfz33_1 := blk_frozen BK202.out 1
    have hfz33_2 := blk_frozen BK202.out 2
    have hfz33_3 := blk_frozen BK202.out 3
    have hfz33_4 := blk_frozen BK202.out 4
    have hnb34 := NB203_199.out
    have hnc34 := NB199_203.out
    have hcz35_0 : w30.cell? ⟨gb203, 0, none⟩ = some (.int .i64 ((rd_T148 l0_1 a2).f0)) := (blk_cell BK203.out 0).trans rfl
    have hcz35_1 : w30.cell? ⟨gb203, 1, none⟩ = some (.int .i64 ((rd_T148 l0_1 a2).f1)) := (blk_cell BK203.out 1).trans rfl
    have hcz35_2 : w30.cell? ⟨gb203, 2, none⟩ = some (.int .i64 ((rd_T148 l0_1 a2).f2)) := (blk_cell BK203.out 2).trans rfl
    have hcz35_3 : w30.cell? ⟨gb203, 3, none⟩ = some (.bool ((rd_T148 l0_1 a2).f3)) := (blk_cell BK203.out 3).trans rfl
    have hcz35_4 : w30.cell? ⟨gb203, 4, none⟩ = some (.slice A201_4 ((rd_T148 l0_1 a2).f4).length c201_4) := (blk_cell BK203.out 4).trans rfl
    have hfz35_0 := blk_frozen BK203.out 0
    have hfz35_1 := blk_frozen BK203.out 1
    have hfz35_2 := blk_frozen BK203.out 2
    have hfz35_3 := blk_frozen BK203.out 3
    have hfz35_4 := blk_frozen BK203.out 4
    try go_wp2
    go_ret
    exact ⟨by first | rfl | (simp [errW_none, errW_some] <;> rfl) | (simp [*, errW_none, errW_some] <;> rfl), by repeat (first | (with_reducible first | exact HB.out | apply below_alloc | apply pw_below_drewN | apply below_drew1 | refine below_set ?_ GE199.out | refine below_set ?_ GE202.out | refine below_set ?_ GE203.out) | exact HB.out)⟩

end Go.Proofs.Ytmnihpedokeggaa.PFnExactGoodBox

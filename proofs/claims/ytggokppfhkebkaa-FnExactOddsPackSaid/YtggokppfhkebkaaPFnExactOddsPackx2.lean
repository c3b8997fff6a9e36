-- written by myprint.py (a program of this session's over the kit's print)
import Derived.Test.YtggokppfhkebkaaPFnExactOddsPackx0
namespace Go.Proofs.Ytggokppfhkebkaa.PFnExactOddsPack
open Go.RowKit Go.Proofs.YtggokppfhkebkaaW.PrintWords Go.Proofs.YtggokppfhkebkaaW.PrintLast Go.Proofs.YtggokppfhkebkaaW.PrintMore
attribute [local go_sem] max2_int min2_int max_two min_two max_three min_three max_four min_four   -- for this text's walks alone
set_option linter.unusedVariables false
set_option linter.unusedSimpArgs false

/-! ### spec_l12Out_shift: function 139 -/
def spec_l12Out_shift.l0 : Nat → Int → List Int → Int → Int → Option (List Int × Int × Int)
  | 0, _, _, _, _ => none
  | k + 1, x2, x1000, x1001, x1002 => if x2 ≥ 0 then (if 0 ≤ x2 then (if x2 < (x1000.length : Int) then ((some (x1000.set (x2 : Int).toNat (((rd x1000 x2) + 1) % 256) : List Int)).bind fun y112 => (if (rd y112 x2) = 0 then (spec_l12Out_shift.l0 k (wrap64 (x2 - 1)) y112 x1001 x1002) else (if y112.length < 140737488355328 then (some ((y112 ++ [(x1001 / 16777216) % 256]), IntKind.u64.wrap ((Go.bits .and .u64 x1001 16777215) * 256), x1002)) else (none)))) else (none)) else (none)) else (if x1000.length < 140737488355328 then (some ((x1000 ++ [(x1001 / 16777216) % 256]), IntKind.u64.wrap ((Go.bits .and .u64 x1001 16777215) * 256), x1002)) else (none))
def spec_l12Out_shift.f (k : Nat) (s0_0 : List Int) (s0_1 : Int) (s0_2 : Int) : Option (List Int × Int × Int) := if (s0_1 / 4294967296) > 0 then (spec_l12Out_shift.l0 k (wrap64 ((s0_0.length : Int) - 1)) s0_0 s0_1 s0_2) else (if s0_0.length < 140737488355328 then (some ((s0_0 ++ [(s0_1 / 16777216) % 256]), IntKind.u64.wrap ((Go.bits .and .u64 s0_1 16777215) * 256), s0_2)) else (none))
theorem spec_l12Out_shift.mono_l : ∀ k, (∀ y0 y1 y2 y3, LeO (spec_l12Out_shift.l0 k y0 y1 y2 y3) (spec_l12Out_shift.l0 (k + 1) y0 y1 y2 y3))
  | 0 => fun _ _ _ _ r h => by simp [spec_l12Out_shift.l0] at h
  | k + 1 => by
    have ih0 := spec_l12Out_shift.mono_l k
    · intro y0 y1 y2 y3
      unfold spec_l12Out_shift.l0
      repeat' first
      | (with_reducible exact ih0 _ _ _ _)
      | (with_reducible exact LeO.refl _)
      | (with_reducible exact LeO.none _)
      | (with_reducible refine LeO.ite ?_ ?_)
      | (with_reducible refine LeO.bind ?_ (fun _ => ?_))
      | exact ih0 _ _ _ _
      | exact LeO.none _
      | refine LeO.ite ?_ ?_
      | refine LeO.bind ?_ (fun _ => ?_)
theorem spec_l12Out_shift.mono : ∀ a0 a1 a2 k, LeO (spec_l12Out_shift.f k a0 a1 a2) (spec_l12Out_shift.f (k + 1) a0 a1 a2) := by
  intro a0 a1 a2 k
  have ih0 := spec_l12Out_shift.mono_l k
  unfold spec_l12Out_shift.f
  repeat' first
      | (with_reducible exact ih0 _ _ _ _)
      | (with_reducible exact LeO.refl _)
      | (with_reducible exact LeO.none _)
      | (with_reducible refine LeO.ite ?_ ?_)
      | (with_reducible refine LeO.bind ?_ (fun _ => ?_))
      | exact ih0 _ _ _ _
      | exact LeO.none _
      | refine LeO.ite ?_ ?_
      | refine LeO.bind ?_ (fun _ => ?_)
def spec_l12Out_shift.T6 : Bool × List (List Nat × List Nat) := (true, [([], []), ([], []), ([1], [1]), ([2], [2]), ([3], [3]), ([], []), ([5], [5]), ([6], [6]), ([7], [7]), ([8], [8]), ([9], [9]), ([10], [10]), ([4, 11], [4, 11]), ([0, 0, 1, 2, 3, 4, 5, 6, 7, 8, 9, 10, 11, 12], [0]), ([13, 0, 1, 2, 3, 4, 5, 6, 7, 8, 9, 10, 11, 12], [13]), ([14, 12, 12, 0, 1, 2, 3, 4, 5, 6, 7, 8, 9, 10, 11, 12], [12, 14])])
def spec_l12Out_shift.B6 : List Nat := [0, 0, 2, 6, 14, 0, 32, 96, 224, 480, 992, 2016, 4094, 8191, 16383, 32767]
theorem spec_l12Out_shift.tab6 : rtab .any (opsOf Try.f139 6) = spec_l12Out_shift.T6 := by kernel_rfl
theorem spec_l12Out_shift.bits6 : waitsOk spec_l12Out_shift.T6.2 spec_l12Out_shift.B6 = true := by kernel_rfl
set_option maxHeartbeats 8000000 in
set_option maxRecDepth 100000 in
theorem spec_l12Out_shift.calls (k : Nat) (g : Nat) (s0_0 : List Int) (s0_1 : Int) (s0_2 : Int) (r1 : List Int) (r2 : Int) (r3 : Int) (w : World) (wa : World) (hB : Below w.heap.size w wa) (hG : w.heap.size ≤ g) (u900_ : Value) (hbb : wa.heap[g]? = some (.cells #[u900_, .int .u64 s0_1, .int .u64 s0_2] 151 (0, 0))) (hob0 : Kd.R (Kd.int .u8) 5 wa w.heap.size (fun _ => True) u900_ s0_0) (h : spec_l12Out_shift.f k s0_0 s0_1 s0_2 = some (r1, r2, r3)) :
    Calls Try.prog 139 #[.pointer (some ⟨g, 0, none⟩)] wa fun e w' => ∃ vb0_ : Value, e = .returned (.tuple #[]) ∧ w'.heap[g]? = some (.cells #[vb0_, .int .u64 r2, .int .u64 r3] 151 (0, 0)) ∧ Kd.R (Kd.int .u8) 5 w' w.heap.size (fun _ => True) vb0_ r1 ∧ Below w.heap.size w w' ∧ KT g 5 wa w' := by
  have HB := Aside0.mk hB
  have HKp := Aside0.mk (KT.refl g 5 wa)
  have GW0 := Aside0.mk hG
  have GE0 := Aside0.mk hG
  have BK0 := Aside0.mk hbb
  have HOb0 := Aside0.mk hob0
  clear hob0
  clear hB hG hbb
  have H : (if (s0_1 / 4294967296) > 0 then (spec_l12Out_shift.l0 k (wrap64 ((s0_0.length : Int) - 1)) s0_0 s0_1 s0_2) else (if s0_0.length < 140737488355328 then (some ((s0_0 ++ [(s0_1 / 16777216) % 256]), IntKind.u64.wrap ((Go.bits .and .u64 s0_1 16777215) * 256), s0_2)) else (none))) = some (r1, r2, r3) := h
  clear h
  by_cases c2 : (s0_1 / 4294967296) > 0
  rotate_left
  · rw [if_neg c2] at H
    have c2b0 : decide (0 < (s0_1 / 4294967296)) = false := decide_eq_false c2
    clear c2
    by_cases c32 : s0_0.length < 140737488355328
    rotate_left
    · rw [if_neg c32] at H
      exact absurd H (by simp)
    rw [if_pos c32] at H
    have LMc32 := Aside0.mk c32
    clear c32
    obtain ⟨y120, hy120⟩ : ∃ y_ : List Int, y_ = (s0_0 ++ [(s0_1 / 16777216) % 256]) := ⟨_, rfl⟩
    replace H : (some (y120, IntKind.u64.wrap ((Go.bits .and .u64 s0_1 16777215) * 256), s0_2)) = some (r1, r2, r3) := by first | (rw [hy120]; with_reducible exact H) | (have H2_ := (Option.bind_some _ _).symm.trans H; rw [hy120]; with_reducible exact H2_) | (have H2_ := (Option.bind_some _ _).symm.trans H; with_reducible exact H2_) | with_reducible exact H | (rw [hy120]; exact H) | exact H
    have Ny120 := Aside0.mk hy120
    clear hy120
    simp only [Option.some.injEq, Prod.mk.injEq] at H
    obtain ⟨rfl, rfl, rfl⟩ := H
    have hcz33_0 : wa.cell? ⟨g, 0, none⟩ = some (u900_) := (blk_cell BK0.out 0).trans rfl
    have hcz33_1 : wa.cell? ⟨g, 1, none⟩ = some (.int .u64 s0_1) := (blk_cell BK0.out 1).trans rfl
    have hcz33_2 : wa.cell? ⟨g, 2, none⟩ = some (.int .u64 s0_2) := (blk_cell BK0.out 2).trans rfl
    have hfz33_0 := blk_frozen BK0.out 0
    have hfz33_1 := blk_frozen BK0.out 1
    have hfz33_2 := blk_frozen BK0.out 2
    go_enter Try.func139, Try.ntmps139
    try go_wp2
    have n0_ := Aside0.mk (Kd.R_drew HOb0.out)
    have n1_ := Aside0.mk (blk_drew BK0.out)
    replace HKp := Aside0.mk (KT.drew HKp.out)
    have n2_ := Aside0.mk (below_drew1 HB.out)
    clear HOb0
    clear BK0
    clear HB
    have HOb0 := n0_
    have BK0 := n1_
    have HB := n2_
    clear n0_ n1_ n2_
    refine start_ (n := 16) (S := fun w' => w'.cell? ⟨g, 0, none⟩ = some (u900_) ∧ w'.cell? ⟨g, 1, none⟩ = some (.int .u64 s0_1) ∧ w'.cell? ⟨g, 2, none⟩ = some (.int .u64 s0_2)) (ds := [15]) #[false, false, false, false, false, false, false, false, false, false, false, false, false, false, false, false] (by kernel_rfl) rfl rfl ⟨(blk_cell BK0.out 0).trans rfl, (blk_cell BK0.out 1).trans rfl, (blk_cell BK0.out 2).trans rfl⟩ (fun hHeld => ?_); refine with_tabW spec_l12Out_shift.tab6 spec_l12Out_shift.bits6 (fun HT_ HW_ => ?_)
    generalize wa.drew = w34 at HKp HOb0 BK0 HB hHeld ⊢
    refine pure_ (i := 0) (N := some 36) (v := ?_) (a' := ?_) #[true, false, false, false, false, false, false, false, false, false, false, false, false, false, false, false] rfl rfl (any_of HT_.out (by kernel_rfl)) (fun _ _ _ h => h) (Or.inl ⟨by rfl, ?_⟩) ?_ ?_
    rotate_left
    · intro w'
      go_simp
      with_reducible rfl
    rotate_left
    · simp only [Act.put, List.setIfInBounds_toArray, List.set_cons_zero, List.set_cons_succ, i64_w, i32_w]
      rfl
    refine pure_ (i := 1) (N := some 37) (v := ?_) (a' := ?_) #[true, true, false, false, false, false, false, false, false, false, false, false, false, false, false, false] rfl rfl (any_of HT_.out (by kernel_rfl)) (fun _ _ _ h => h) (Or.inl ⟨by rfl, ?_⟩) ?_ ?_
    rotate_left
    · intro w'
      go_simp
      with_reducible rfl
    rotate_left
    · simp only [Act.put, List.setIfInBounds_toArray, List.set_cons_zero, List.set_cons_succ, i64_w, i32_w]
      rfl
    refine pure_ (i := 2) (N := some 38) (v := ?_) (a' := ?_) #[true, true, true, false, false, false, false, false, false, false, false, false, false, false, false, false] rfl rfl (any_of HT_.out (by kernel_rfl)) (fun _ _ _ h => h) (Or.inl ⟨by rfl, ?_⟩) ?_ ?_
    rotate_left
    · intro w'
      go_simp
      with_reducible rfl
    rotate_left
    · simp only [Act.put, List.setIfInBounds_toArray, List.set_cons_zero, List.set_cons_succ, i64_w, i32_w]
      rfl
    refine pure_ (i := 3) (N := some 39) (v := ?_) (a' := ?_) #[true, true, true, true, false, false, false, false, false, false, false, false, false, false, false, false] rfl rfl (any_of HT_.out (by kernel_rfl)) (fun _ _ _ h => h) (Or.inl ⟨by rfl, ?_⟩) ?_ ?_
    rotate_left
    · intro w'
      go_simp
      with_reducible rfl
    rotate_left
    · simp only [Act.put, List.setIfInBounds_toArray, List.set_cons_zero, List.set_cons_succ, i64_w, i32_w]
      rfl
    refine pure_ (i := 5) (N := some 41) (v := ?_) (a' := ?_) #[true, true, true, true, false, true, false, false, false, false, false, false, false, false, false, false] rfl rfl (any_of HT_.out (by kernel_rfl)) (fun _ _ _ h => h) (Or.inl ⟨by rfl, ?_⟩) ?_ ?_
    rotate_left
    · intro w'
      go_simp
      with_reducible rfl
    rotate_left
    · simp only [Act.put, List.setIfInBounds_toArray, List.set_cons_zero, List.set_cons_succ, i64_w, i32_w]
      rfl
    refine pure_ (i := 6) (N := some 42) (v := ?_) (a' := ?_) #[true, true, true, true, false, true, true, false, false, false, false, false, false, false, false, false] rfl rfl (any_of HT_.out (by kernel_rfl)) (fun _ _ _ h => h) (Or.inl ⟨by rfl, ?_⟩) ?_ ?_
    rotate_left
    · intro w'
      go_simp
      with_reducible rfl
    rotate_left
    · simp only [Act.put, List.setIfInBounds_toArray, List.set_cons_zero, List.set_cons_succ, i64_w, i32_w]
      rfl
    refine pure_ (i := 7) (N := some 43) (v := ?_) (a' := ?_) #[true, true, true, true, false, true, true, true, false, false, false, false, false, false, false, false] rfl rfl (any_of HT_.out (by kernel_rfl)) (fun _ _ _ h => h) (Or.inl ⟨by rfl, ?_⟩) ?_ ?_
    rotate_left
    · intro w'
      go_simp
      with_reducible rfl
    rotate_left
    · simp only [Act.put, List.setIfInBounds_toArray, List.set_cons_zero, List.set_cons_succ, i64_w, i32_w]
      rfl
    refine take_ (i := 4) (N := some 40) (v := ?_) (a' := ?_) #[true, true, true, true, true, true, true, true, false, false, false, false, false, false, false, false] rfl rfl (take_ofW HT_.out HW_.out (by kernel_rfl)) (fun _ _ _ h => h) (Or.inl ⟨by rfl, ?_⟩) hHeld ?_ ?_
    rotate_left
    · rintro w' ⟨s0, s1, s2⟩
      go_simp
      with_reducible rfl
    rotate_left
    · simp only [Act.put, List.setIfInBounds_toArray, List.set_cons_zero, List.set_cons_succ, i64_w, i32_w]
      rfl
    refine take_ (i := 8) (N := some 44) (v := ?_) (a' := ?_) #[true, true, true, true, true, true, true, true, true, false, false, false, false, false, false, false] rfl rfl (take_ofW HT_.out HW_.out (by kernel_rfl)) (fun _ _ _ h => h) (Or.inl ⟨by rfl, ?_⟩) hHeld ?_ ?_
    rotate_left
    · rintro w' ⟨s0, s1, s2⟩
      go_simp
      with_reducible rfl
    rotate_left
    · simp only [Act.put, List.setIfInBounds_toArray, List.set_cons_zero, List.set_cons_succ, i64_w, i32_w]
      rfl
    refine pure_ (i := 9) (N := some 45) (v := ?_) (a' := ?_) #[true, true, true, true, true, true, true, true, true, true, false, false, false, false, false, false] rfl rfl (any_of HT_.out (by kernel_rfl)) (fun _ _ _ h => h) (Or.inl ⟨by rfl, ?_⟩) ?_ ?_
    rotate_left
    · intro w'
      go_simp
      with_reducible rfl
    rotate_left
    · simp only [Act.put, List.setIfInBounds_toArray, List.set_cons_zero, List.set_cons_succ, i64_w, i32_w]
      rfl
    refine pure_ (i := 10) (N := some 46) (v := ?_) (a' := ?_) #[true, true, true, true, true, true, true, true, true, true, true, false, false, false, false, false] rfl rfl (any_of HT_.out (by kernel_rfl)) (fun _ _ _ h => h) (Or.inl ⟨by rfl, ?_⟩) ?_ ?_
    rotate_left
    · intro w'
      go_simp
      with_reducible rfl
    rotate_left
    · simp only [Act.put, List.setIfInBounds_toArray, List.set_cons_zero, List.set_cons_succ, i64_w, i32_w]
      rfl
    refine one_ (i := 11) (N := some 47) #[true, true, true, true, true, true, true, true, true, true, true, true, false, false, false, false] rfl rfl (one_of HT_.out (by kernel_rfl)) (by decide) (fun K hK => ?_)
    refine value_ (w1 := ?_) (v := ?_) (by rfl) rfl ?_ ?_
    rotate_left 2
    · go_simp
      constructor
      · rfl
      · rfl
    refine hK.out _ _ ⟨(blk_cell (blk_alloc BK0.out _) 0).trans rfl, (blk_cell (blk_alloc BK0.out _) 1).trans rfl, (blk_cell (blk_alloc BK0.out _) 2).trans rfl⟩ (fun hHeld => ?_)
    clear hK K
    refine norm_ (a' := ?_) ?_ ?_
    rotate_left
    · show Act.put _ (some 47) _ = _
      simp only [Act.put, List.setIfInBounds_toArray, List.set_cons_zero, List.set_cons_succ, i64_w, i32_w]
      rfl
    refine one_ (i := 12) (N := some 48) #[true, true, true, true, true, true, true, true, true, true, true, true, true, false, false, false] rfl rfl (one_of HT_.out (by kernel_rfl)) (by decide) (fun K hK => ?_)
    refine Kd.R_append_step (Kd.int .u8) (w0 := w) w.heap.size (by rfl) (.tmp 40) (.tmp 47) 23 5 (.int .u8 0) 1 rfl Try.underlying23 info5 rfl (by decide) (by omega) u900_ s0_0 ((s0_1 / 16777216) % 256) [.int .u8 ((s0_1 / 16777216) % 256)] (fun _ => True) (fun _ => False) rfl rfl ?aP (fun _ hk => hk.elim) ?aF ?aO ?aB ?aS ?aL ?_
    (case aP => exact rfl)
    (case aB => exact (by repeat (first | (with_reducible first | exact HB.out | apply below_alloc | apply pw_below_drewN | apply below_drew1 | refine below_set ?_ GE0.out) | exact HB.out)))
    (case aF => exact (fun _ _ => trivial))
    (case aO => exact (by (with_reducible repeat (first | apply Kd.R_alloc | apply Kd.R_drewN | apply Kd.R_drew)); exact HOb0.out))
    (case aS => exact (below_size (by repeat (first | (with_reducible first | exact HB.out | apply below_alloc | apply pw_below_drewN | apply below_drew1 | refine below_set ?_ GE0.out) | exact HB.out))))
    (case aL => have := LMc32.out; omega)
    intro v121 w35 ho hb hg hat
    replace HKp := Aside0.mk (KT.grown HKp.out hg (Kd.R_typed HOb0.out))
    rw [← Ny120.out] at ho
    have n0_ := Aside0.mk (blk_grown (g := g) (o := .cells #[u900_, .int .u64 s0_1, .int .u64 s0_2] 151 (0, 0)) (by (with_reducible repeat (first | refine blk_drewN ?_ _ | refine blk_drew ?_ | refine blk_alloc ?_ _)); exact BK0.out) hg (Kd.R_ne HOb0.out BK0.out (by decide)))
    have n1_ := Aside0.mk (hb)
    have n2_ := Aside0.mk (ho)
    clear BK0
    clear HB
    clear HOb0
    have BK0 := n0_
    have HB := n1_
    have HO122 := n2_
    clear n0_ n1_ n2_
    clear ho hb hg hat
    obtain ⟨Ao36, co36, eo36⟩ := Kd.R_slice HO122.out
    (first | subst eo36 | (injection eo36 with f1_ f2_ f3_; have f4_ := f1_.symm; have f5_ := f3_.symm; clear f1_ f2_ f3_; subst f4_; subst f5_))
    refine hK.out _ _ ⟨(blk_cell BK0.out 0).trans rfl, (blk_cell BK0.out 1).trans rfl, (blk_cell BK0.out 2).trans rfl⟩ (fun hHeld => ?_)
    clear hK K
    refine norm_ (a' := ?_) ?_ ?_
    rotate_left
    · show Act.put _ (some 48) _ = _
      simp only [Act.put, List.setIfInBounds_toArray, List.set_cons_zero, List.set_cons_succ, i64_w, i32_w]
      rfl
    refine pure_ (i := 13) (N := some 49) (v := ?_) (a' := ?_) #[true, true, true, true, true, true, true, true, true, true, true, true, true, true, false, false] rfl rfl (any_of HT_.out (by kernel_rfl)) (fun _ _ _ h => h) (Or.inl ⟨by rfl, ?_⟩) ?_ ?_
    rotate_left
    · intro w'
      go_simp
      with_reducible rfl
    rotate_left
    · simp only [Act.put, List.setIfInBounds_toArray, List.set_cons_zero, List.set_cons_succ, i64_w, i32_w]
      rfl
    refine pure_ (i := 14) (N := some 50) (v := ?_) (a' := ?_) #[true, true, true, true, true, true, true, true, true, true, true, true, true, true, true, false] rfl rfl (any_of HT_.out (by kernel_rfl)) (fun _ _ _ h => h) (Or.inl ⟨by rfl, ?_⟩) ?_ ?_
    rotate_left
    · intro w'
      go_simp
      with_reducible rfl
    rotate_left
    · simp only [Act.put, List.setIfInBounds_toArray, List.set_cons_zero, List.set_cons_succ, i64_w, i32_w]
      rfl
    refine last_ (i := 15) (N := none) #[true, true, true, true, true, true, true, true, true, true, true, true, true, true, true, true] rfl rfl (one_of HT_.out (by kernel_rfl)) (by decide) (fun K hK => ?_)
    have hs37 : w35.cell? ⟨g, 0, none⟩ = some (u900_) := (blk_cell BK0.out 0).trans rfl
    have hfs37 := blk_frozen BK0.out 0
    refine skip_ (w1 := ?_) (by rfl) rfl ?_ ?_
    rotate_left
    · go_simp
      rfl
    refine hK.out _ _ ?_
    clear hK K
    refine done_ (done_of HT_.out (by kernel_rfl)) ?_
    have hcz38_0 : w35.cell? ⟨g, 0, none⟩ = some (u900_) := (blk_cell BK0.out 0).trans rfl
    have hcz38_1 : w35.cell? ⟨g, 1, none⟩ = some (.int .u64 s0_1) := (blk_cell BK0.out 1).trans rfl
    have hcz38_2 : w35.cell? ⟨g, 2, none⟩ = some (.int .u64 s0_2) := (blk_cell BK0.out 2).trans rfl
    have hfz38_0 := blk_frozen BK0.out 0
    have hfz38_1 := blk_frozen BK0.out 1
    have hfz38_2 := blk_frozen BK0.out 2
    try go_wp2
    first | go_end0 | ((try simp only [Exit.inBlock, Exit.then]); refine bodyPost_ret (results_none rfl _ _ _) rfl ?_)
    exact ⟨_, by first | rfl | (simp; done), by (with_reducible repeat (first | refine blk_drewN ?_ _ | refine blk_drew ?_ | refine blk_alloc ?_ _)); refine blk_put (cs := #[.slice Ao36 y120.length co36, .int .u64 s0_1, .int .u64 s0_2]) ?_ 1 _ rfl; (with_reducible repeat (first | refine blk_drewN ?_ _ | refine blk_drew ?_ | refine blk_alloc ?_ _)); refine blk_put (cs := #[u900_, .int .u64 s0_1, .int .u64 s0_2]) ?_ 0 _ rfl; (with_reducible repeat (first | refine blk_drewN ?_ _ | refine blk_drew ?_ | refine blk_alloc ?_ _)); exact BK0.out, Kd.R_mono (by (with_reducible repeat (first | apply Kd.R_alloc | apply Kd.R_drewN | apply Kd.R_drew)); exact (Kd.R_mono (Kd.R_far (p := ⟨g, 1, none⟩) (Kd.R_far (p := ⟨g, 0, none⟩) (Kd.R_types HO122.out BK0.out (by decide)) (fun _ hk => hk.2) (.slice Ao36 y120.length co36)) (fun _ hk => hk.2) (.int .u64 (IntKind.u64.wrap ((Go.bits .and .u64 s0_1 16777215) * 256)))) (fun _ h_ => h_.1))) (fun _ _ => trivial), by repeat (first | (with_reducible first | exact HB.out | apply below_alloc | apply pw_below_drewN | apply below_drew1 | refine below_set ?_ GE0.out) | exact HB.out), by repeat (first | exact HKp.out | refine KT.set ?_ _ _ | refine KT.alloc ?_ _ | refine KT.drewN ?_ _ | refine KT.drew ?_)⟩
  rw [if_pos c2] at H
  have c2b0 : decide (0 < (s0_1 / 4294967296)) = true := decide_eq_true c2
  clear c2
  have H' := Aside0.mk H
  clear H
  have hcz3_0 : wa.cell? ⟨g, 0, none⟩ = some (u900_) := (blk_cell BK0.out 0).trans rfl
  have hcz3_1 : wa.cell? ⟨g, 1, none⟩ = some (.int .u64 s0_1) := (blk_cell BK0.out 1).trans rfl
  have hcz3_2 : wa.cell? ⟨g, 2, none⟩ = some (.int .u64 s0_2) := (blk_cell BK0.out 2).trans rfl
  have hfz3_0 := blk_frozen BK0.out 0
  have hfz3_1 := blk_frozen BK0.out 1
  have hfz3_2 := blk_frozen BK0.out 2
  obtain ⟨Ao4, co4, eo4⟩ := Kd.R_slice HOb0.out
  subst eo4
  go_enter Try.func139, Try.ntmps139
  go_wp2
  go_loopg [2] k (fun kq v2 w' => ∃ (x2_1 : Int) (x1000_1 : List Int) (u1000 : Value), v2 = .int .i64 x2_1 ∧ Aside0 (spec_l12Out_shift.l0 kq x2_1 x1000_1 s0_1 s0_2 = some (r1, r2, r3)) ∧ Aside0 (kq ≤ k) ∧ Aside0 (Kd.R (Kd.int .u8) 5 w' w.heap.size (fun _ => True) u1000 x1000_1) ∧ Aside0 (w'.heap[g]? = some (.cells #[u1000, .int .u64 s0_1, .int .u64 s0_2] 151 (0, 0))) ∧ Aside0 (Below w.heap.size w w') ∧ Aside0 (KT g 5 wa w'))
  case atStart => exact ⟨(wrap64 ((s0_0.length : Int) - 1)), (s0_0), (.slice Ao4 s0_0.length co4), (by first | rfl | (simp; done) | (simp [*]; done)), H', ⟨Nat.le_refl _⟩, ⟨by (with_reducible repeat (first | apply Kd.R_alloc | apply Kd.R_drewN | apply Kd.R_drew)); exact HOb0.out⟩, ⟨by (with_reducible repeat (first | refine blk_drewN ?_ _ | refine blk_drew ?_ | refine blk_alloc ?_ _)); exact BK0.out⟩, ⟨by repeat (first | (with_reducible first | exact HB.out | apply below_alloc | apply pw_below_drewN | apply below_drew1 | refine below_set ?_ GE0.out) | exact HB.out)⟩, ⟨by repeat (first | exact HKp.out | refine KT.set ?_ _ _ | refine KT.alloc ?_ _ | refine KT.drewN ?_ _ | refine KT.drew ?_)⟩⟩
  case round =>
    clear H'
    try clear c1
    try clear c2
    try clear c2b0
    try clear p2
    try clear hcz3_0
    try clear hcz3_1
    try clear hcz3_2
    try clear hfz3_0
    try clear hfz3_1
    try clear hfz3_2
    obtain ⟨x2_1, x1000_1, u1000, rfl, HA, HK1, HO_1000, BK0, HB, HKp⟩ := hrel
    cases gk with
    | zero => exact absurd HA.out (by simp [spec_l12Out_shift.l0])
    | succ k1 =>
      have H := HA.out
      clear HA
      simp only [spec_l12Out_shift.l0] at H
      by_cases c5 : x2_1 ≥ 0
      rotate_left
      · rw [if_neg c5] at H
        have c5b0 : decide (0 ≤ x2_1) = false := decide_eq_false c5
        clear c5
        by_cases c26 : x1000_1.length < 140737488355328
        rotate_left
        · rw [if_neg c26] at H
          exact absurd H (by simp)
        rw [if_pos c26] at H
        have LMc26 := Aside0.mk c26
        clear c26
        obtain ⟨y117, hy117⟩ : ∃ y_ : List Int, y_ = (x1000_1 ++ [(s0_1 / 16777216) % 256]) := ⟨_, rfl⟩
        replace H : (some (y117, IntKind.u64.wrap ((Go.bits .and .u64 s0_1 16777215) * 256), s0_2)) = some (r1, r2, r3) := by first | (rw [hy117]; with_reducible exact H) | (have H2_ := (Option.bind_some _ _).symm.trans H; rw [hy117]; with_reducible exact H2_) | (have H2_ := (Option.bind_some _ _).symm.trans H; with_reducible exact H2_) | with_reducible exact H | (rw [hy117]; exact H) | exact H
        have Ny117 := Aside0.mk hy117
        clear hy117
        simp only [Option.some.injEq, Prod.mk.injEq] at H
        obtain ⟨rfl, rfl, rfl⟩ := H
        try go_wp2
        have n0_ := Aside0.mk (Kd.R_drew HO_1000.out)
        have n1_ := Aside0.mk (blk_drew BK0.out)
        replace HKp := Aside0.mk (KT.drew HKp.out)
        have n2_ := Aside0.mk (below_drew1 HB.out)
        clear HO_1000
        clear BK0
        clear HB
        have HO_1000 := n0_
        have BK0 := n1_
        have HB := n2_
        clear n0_ n1_ n2_
        refine start_ (n := 16) (S := fun w' => w'.cell? ⟨g, 0, none⟩ = some (u1000) ∧ w'.cell? ⟨g, 1, none⟩ = some (.int .u64 s0_1) ∧ w'.cell? ⟨g, 2, none⟩ = some (.int .u64 s0_2)) (ds := [15]) #[false, false, false, false, false, false, false, false, false, false, false, false, false, false, false, false] (by kernel_rfl) rfl rfl ⟨(blk_cell BK0.out 0).trans rfl, (blk_cell BK0.out 1).trans rfl, (blk_cell BK0.out 2).trans rfl⟩ (fun hHeld => ?_); refine with_tabW spec_l12Out_shift.tab6 spec_l12Out_shift.bits6 (fun HT_ HW_ => ?_)
        generalize wr.drew = w27 at HKp HO_1000 BK0 HB hHeld ⊢
        refine pure_ (i := 0) (N := some 36) (v := ?_) (a' := ?_) #[true, false, false, false, false, false, false, false, false, false, false, false, false, false, false, false] rfl rfl (any_of HT_.out (by kernel_rfl)) (fun _ _ _ h => h) (Or.inl ⟨by rfl, ?_⟩) ?_ ?_
        rotate_left
        · intro w'
          go_simp
          with_reducible rfl
        rotate_left
        · simp only [Act.put, List.setIfInBounds_toArray, List.set_cons_zero, List.set_cons_succ, i64_w, i32_w]
          rfl
        refine pure_ (i := 1) (N := some 37) (v := ?_) (a' := ?_) #[true, true, false, false, false, false, false, false, false, false, false, false, false, false, false, false] rfl rfl (any_of HT_.out (by kernel_rfl)) (fun _ _ _ h => h) (Or.inl ⟨by rfl, ?_⟩) ?_ ?_
        rotate_left
        · intro w'
          go_simp
          with_reducible rfl
        rotate_left
        · simp only [Act.put, List.setIfInBounds_toArray, List.set_cons_zero, List.set_cons_succ, i64_w, i32_w]
          rfl
        refine pure_ (i := 2) (N := some 38) (v := ?_) (a' := ?_) #[true, true, true, false, false, false, false, false, false, false, false, false, false, false, false, false] rfl rfl (any_of HT_.out (by kernel_rfl)) (fun _ _ _ h => h) (Or.inl ⟨by rfl, ?_⟩) ?_ ?_
        rotate_left
        · intro w'
          go_simp
          with_reducible rfl
        rotate_left
        · simp only [Act.put, List.setIfInBounds_toArray, List.set_cons_zero, List.set_cons_succ, i64_w, i32_w]
          rfl
        refine pure_ (i := 3) (N := some 39) (v := ?_) (a' := ?_) #[true, true, true, true, false, false, false, false, false, false, false, false, false, false, false, false] rfl rfl (any_of HT_.out (by kernel_rfl)) (fun _ _ _ h => h) (Or.inl ⟨by rfl, ?_⟩) ?_ ?_
        rotate_left
        · intro w'
          go_simp
          with_reducible rfl
        rotate_left
        · simp only [Act.put, List.setIfInBounds_toArray, List.set_cons_zero, List.set_cons_succ, i64_w, i32_w]
          rfl
        refine pure_ (i := 5) (N := some 41) (v := ?_) (a' := ?_) #[true, true, true, true, false, true, false, false, false, false, false, false, false, false, false, false] rfl rfl (any_of HT_.out (by kernel_rfl)) (fun _ _ _ h => h) (Or.inl ⟨by rfl, ?_⟩) ?_ ?_
        rotate_left
        · intro w'
          go_simp
          with_reducible rfl
        rotate_left
        · simp only [Act.put, List.setIfInBounds_toArray, List.set_cons_zero, List.set_cons_succ, i64_w, i32_w]
          rfl
        refine pure_ (i := 6) (N := some 42) (v := ?_) (a' := ?_) #[true, true, true, true, false, true, true, false, false, false, false, false, false, false, false, false] rfl rfl (any_of HT_.out (by kernel_rfl)) (fun _ _ _ h => h) (Or.inl ⟨by rfl, ?_⟩) ?_ ?_
        rotate_left
        · intro w'
          go_simp
          with_reducible rfl
        rotate_left
        · simp only [Act.put, List.setIfInBounds_toArray, List.set_cons_zero, List.set_cons_succ, i64_w, i32_w]
          rfl
        refine pure_ (i := 7) (N := some 43) (v := ?_) (a' := ?_) #[true, true, true, true, false, true, true, true, false, false, false, false, false, false, false, false] rfl rfl (any_of HT_.out (by kernel_rfl)) (fun _ _ _ h => h) (Or.inl ⟨by rfl, ?_⟩) ?_ ?_
        rotate_left
        · intro w'
          go_simp
          with_reducible rfl
        rotate_left
        · simp only [Act.put, List.setIfInBounds_toArray, List.set_cons_zero, List.set_cons_succ, i64_w, i32_w]
          rfl
        refine take_ (i := 4) (N := some 40) (v := ?_) (a' := ?_) #[true, true, true, true, true, true, true, true, false, false, false, false, false, false, false, false] rfl rfl (take_ofW HT_.out HW_.out (by kernel_rfl)) (fun _ _ _ h => h) (Or.inl ⟨by rfl, ?_⟩) hHeld ?_ ?_
        rotate_left
        · rintro w' ⟨s0, s1, s2⟩
          go_simp
          with_reducible rfl
        rotate_left
        · simp only [Act.put, List.setIfInBounds_toArray, List.set_cons_zero, List.set_cons_succ, i64_w, i32_w]
          rfl
        refine take_ (i := 8) (N := some 44) (v := ?_) (a' := ?_) #[true, true, true, true, true, true, true, true, true, false, false, false, false, false, false, false] rfl rfl (take_ofW HT_.out HW_.out (by kernel_rfl)) (fun _ _ _ h => h) (Or.inl ⟨by rfl, ?_⟩) hHeld ?_ ?_
        rotate_left
        · rintro w' ⟨s0, s1, s2⟩
          go_simp
          with_reducible rfl
        rotate_left
        · simp only [Act.put, List.setIfInBounds_toArray, List.set_cons_zero, List.set_cons_succ, i64_w, i32_w]
          rfl
        refine pure_ (i := 9) (N := some 45) (v := ?_) (a' := ?_) #[true, true, true, true, true, true, true, true, true, true, false, false, false, false, false, false] rfl rfl (any_of HT_.out (by kernel_rfl)) (fun _ _ _ h => h) (Or.inl ⟨by rfl, ?_⟩) ?_ ?_
        rotate_left
        · intro w'
          go_simp
          with_reducible rfl
        rotate_left
        · simp only [Act.put, List.setIfInBounds_toArray, List.set_cons_zero, List.set_cons_succ, i64_w, i32_w]
          rfl
        refine pure_ (i := 10) (N := some 46) (v := ?_) (a' := ?_) #[true, true, true, true, true, true, true, true, true, true, true, false, false, false, false, false] rfl rfl (any_of HT_.out (by kernel_rfl)) (fun _ _ _ h => h) (Or.inl ⟨by rfl, ?_⟩) ?_ ?_
        rotate_left
        · intro w'
          go_simp
          with_reducible rfl
        rotate_left
        · simp only [Act.put, List.setIfInBounds_toArray, List.set_cons_zero, List.set_cons_succ, i64_w, i32_w]
          rfl
        refine one_ (i := 11) (N := some 47) #[true, true, true, true, true, true, true, true, true, true, true, true, false, false, false, false] rfl rfl (one_of HT_.out (by kernel_rfl)) (by decide) (fun K hK => ?_)
        refine value_ (w1 := ?_) (v := ?_) (by rfl) rfl ?_ ?_
        rotate_left 2
        · go_simp
          constructor
          · rfl
          · rfl
        refine hK.out _ _ ⟨(blk_cell (blk_alloc BK0.out _) 0).trans rfl, (blk_cell (blk_alloc BK0.out _) 1).trans rfl, (blk_cell (blk_alloc BK0.out _) 2).trans rfl⟩ (fun hHeld => ?_)
        clear hK K
        refine norm_ (a' := ?_) ?_ ?_
        rotate_left
        · show Act.put _ (some 47) _ = _
          simp only [Act.put, List.setIfInBounds_toArray, List.set_cons_zero, List.set_cons_succ, i64_w, i32_w]
          rfl
        refine one_ (i := 12) (N := some 48) #[true, true, true, true, true, true, true, true, true, true, true, true, true, false, false, false] rfl rfl (one_of HT_.out (by kernel_rfl)) (by decide) (fun K hK => ?_)
        refine Kd.R_append_step (Kd.int .u8) (w0 := w) w.heap.size (by rfl) (.tmp 40) (.tmp 47) 23 5 (.int .u8 0) 1 rfl Try.underlying23 info5 rfl (by decide) (by omega) u1000 x1000_1 ((s0_1 / 16777216) % 256) [.int .u8 ((s0_1 / 16777216) % 256)] (fun _ => True) (fun _ => False) rfl rfl ?aP (fun _ hk => hk.elim) ?aF ?aO ?aB ?aS ?aL ?_
        (case aP => exact rfl)
        (case aB => exact (by repeat (first | (with_reducible first | exact HB.out | apply below_alloc | apply pw_below_drewN | apply below_drew1 | refine below_set ?_ GE0.out) | exact HB.out)))
        (case aF => exact (fun _ _ => trivial))
        (case aO => exact (by (with_reducible repeat (first | apply Kd.R_alloc | apply Kd.R_drewN | apply Kd.R_drew)); exact HO_1000.out))
        (case aS => exact (below_size (by repeat (first | (with_reducible first | exact HB.out | apply below_alloc | apply pw_below_drewN | apply below_drew1 | refine below_set ?_ GE0.out) | exact HB.out))))
        (case aL => have := LMc26.out; omega)
        intro v118 w28 ho hb hg hat
        replace HKp := Aside0.mk (KT.grown HKp.out hg (Kd.R_typed HO_1000.out))
        rw [← Ny117.out] at ho
        have n0_ := Aside0.mk (blk_grown (g := g) (o := .cells #[u1000, .int .u64 s0_1, .int .u64 s0_2] 151 (0, 0)) (by (with_reducible repeat (first | refine blk_drewN ?_ _ | refine blk_drew ?_ | refine blk_alloc ?_ _)); exact BK0.out) hg (Kd.R_ne HO_1000.out BK0.out (by decide)))
        have n1_ := Aside0.mk (hb)
        have n2_ := Aside0.mk (ho)
        clear BK0
        clear HB
        clear HO_1000
        have BK0 := n0_
        have HB := n1_
        have HO119 := n2_
        clear n0_ n1_ n2_
        clear ho hb hg hat
        obtain ⟨Ao29, co29, eo29⟩ := Kd.R_slice HO119.out
        (first | subst eo29 | (injection eo29 with f1_ f2_ f3_; have f4_ := f1_.symm; have f5_ := f3_.symm; clear f1_ f2_ f3_; subst f4_; subst f5_))
        refine hK.out _ _ ⟨(blk_cell BK0.out 0).trans rfl, (blk_cell BK0.out 1).trans rfl, (blk_cell BK0.out 2).trans rfl⟩ (fun hHeld => ?_)
        clear hK K
        refine norm_ (a' := ?_) ?_ ?_
        rotate_left
        · show Act.put _ (some 48) _ = _
          simp only [Act.put, List.setIfInBounds_toArray, List.set_cons_zero, List.set_cons_succ, i64_w, i32_w]
          rfl
        refine pure_ (i := 13) (N := some 49) (v := ?_) (a' := ?_) #[true, true, true, true, true, true, true, true, true, true, true, true, true, true, false, false] rfl rfl (any_of HT_.out (by kernel_rfl)) (fun _ _ _ h => h) (Or.inl ⟨by rfl, ?_⟩) ?_ ?_
        rotate_left
        · intro w'
          go_simp
          with_reducible rfl
        rotate_left
        · simp only [Act.put, List.setIfInBounds_toArray, List.set_cons_zero, List.set_cons_succ, i64_w, i32_w]
          rfl
        refine pure_ (i := 14) (N := some 50) (v := ?_) (a' := ?_) #[true, true, true, true, true, true, true, true, true, true, true, true, true, true, true, false] rfl rfl (any_of HT_.out (by kernel_rfl)) (fun _ _ _ h => h) (Or.inl ⟨by rfl, ?_⟩) ?_ ?_
        rotate_left
        · intro w'
          go_simp
          with_reducible rfl
        rotate_left
        · simp only [Act.put, List.setIfInBounds_toArray, List.set_cons_zero, List.set_cons_succ, i64_w, i32_w]
          rfl
        refine last_ (i := 15) (N := none) #[true, true, true, true, true, true, true, true, true, true, true, true, true, true, true, true] rfl rfl (one_of HT_.out (by kernel_rfl)) (by decide) (fun K hK => ?_)
        have hs30 : w28.cell? ⟨g, 0, none⟩ = some (u1000) := (blk_cell BK0.out 0).trans rfl
        have hfs30 := blk_frozen BK0.out 0
        refine skip_ (w1 := ?_) (by rfl) rfl ?_ ?_
        rotate_left
        · go_simp
          rfl
        refine hK.out _ _ ?_
        clear hK K
        refine done_ (done_of HT_.out (by kernel_rfl)) ?_
        have hcz31_0 : w28.cell? ⟨g, 0, none⟩ = some (u1000) := (blk_cell BK0.out 0).trans rfl
        have hcz31_1 : w28.cell? ⟨g, 1, none⟩ = some (.int .u64 s0_1) := (blk_cell BK0.out 1).trans rfl
        have hcz31_2 : w28.cell? ⟨g, 2, none⟩ = some (.int .u64 s0_2) := (blk_cell BK0.out 2).trans rfl
        have hfz31_0 := blk_frozen BK0.out 0
        have hfz31_1 := blk_frozen BK0.out 1
        have hfz31_2 := blk_frozen BK0.out 2
        try go_wp2
        first | go_end0 | ((try simp only [Exit.inBlock, Exit.then]); refine bodyPost_ret (results_none rfl _ _ _) rfl ?_)
        exact ⟨_, by first | rfl | (simp; done), by (with_reducible repeat (first | refine blk_drewN ?_ _ | refine blk_drew ?_ | refine blk_alloc ?_ _)); refine blk_put (cs := #[.slice Ao29 y117.length co29, .int .u64 s0_1, .int .u64 s0_2]) ?_ 1 _ rfl; (with_reducible repeat (first | refine blk_drewN ?_ _ | refine blk_drew ?_ | refine blk_alloc ?_ _)); refine blk_put (cs := #[u1000, .int .u64 s0_1, .int .u64 s0_2]) ?_ 0 _ rfl; (with_reducible repeat (first | refine blk_drewN ?_ _ | refine blk_drew ?_ | refine blk_alloc ?_ _)); exact BK0.out, Kd.R_mono (by (with_reducible repeat (first | apply Kd.R_alloc | apply Kd.R_drewN | apply Kd.R_drew)); exact (Kd.R_mono (Kd.R_far (p := ⟨g, 1, none⟩) (Kd.R_far (p := ⟨g, 0, none⟩) (Kd.R_types HO119.out BK0.out (by decide)) (fun _ hk => hk.2) (.slice Ao29 y117.length co29)) (fun _ hk => hk.2) (.int .u64 (IntKind.u64.wrap ((Go.bits .and .u64 s0_1 16777215) * 256)))) (fun _ h_ => h_.1))) (fun _ _ => trivial), by repeat (first | (with_reducible first | exact HB.out | apply below_alloc | apply pw_below_drewN | apply below_drew1 | refine below_set ?_ GE0.out) | exact HB.out), by repeat (first | exact HKp.out | refine KT.set ?_ _ _ | refine KT.alloc ?_ _ | refine KT.drewN ?_ _ | refine KT.drew ?_)⟩
      rw [if_pos c5] at H
      have c5b0 : decide (0 ≤ x2_1) = true := decide_eq_true c5
      clear c5
      by_cases c6 : 0 ≤ x2_1
      rotate_left
      · rw [if_neg c6] at H
        exact absurd H (by simp)
      rw [if_pos c6] at H
      have c6b0 : decide (0 ≤ x2_1) = true := decide_eq_true c6
      clear c6
      by_cases c7 : x2_1 < (x1000_1.length : Int)
      rotate_left
      · rw [if_neg c7] at H
        exact absurd H (by simp)
      rw [if_pos c7] at H
      have c7b0 : decide (x2_1 < (x1000_1.length : Int)) = true := decide_eq_true c7
      clear c7
      obtain ⟨y112, hy112⟩ : ∃ y_ : List Int, y_ = (x1000_1.set (x2_1 : Int).toNat (((rd x1000_1 x2_1) + 1) % 256)) := ⟨_, rfl⟩
      replace H : (if (rd y112 x2_1) = 0 then (spec_l12Out_shift.l0 k1 (wrap64 (x2_1 - 1)) y112 s0_1 s0_2) else (if y112.length < 140737488355328 then (some ((y112 ++ [(s0_1 / 16777216) % 256]), IntKind.u64.wrap ((Go.bits .and .u64 s0_1 16777215) * 256), s0_2)) else (none))) = some (r1, r2, r3) := by first | (rw [hy112]; with_reducible exact H) | (have H2_ := (Option.bind_some _ _).symm.trans H; rw [hy112]; with_reducible exact H2_) | (have H2_ := (Option.bind_some _ _).symm.trans H; with_reducible exact H2_) | with_reducible exact H | (rw [hy112]; exact H) | exact H
      have Ny112 := Aside0.mk hy112
      clear hy112
      by_cases c9 : (rd y112 x2_1) = 0
      · rw [if_pos c9] at H
        have c9b0 : ((rd y112 x2_1) == 0) = true := beq_iff_eq.mpr c9
        have c9b1 : ((rd y112 x2_1) != 0) = false := bne_eq_false_iff_eq.mpr c9
        clear c9
        have H' := Aside0.mk H
        clear H
        have hcz10_0 : wr.cell? ⟨g, 0, none⟩ = some (u1000) := (blk_cell BK0.out 0).trans rfl
        have hcz10_1 : wr.cell? ⟨g, 1, none⟩ = some (.int .u64 s0_1) := (blk_cell BK0.out 1).trans rfl
        have hcz10_2 : wr.cell? ⟨g, 2, none⟩ = some (.int .u64 s0_2) := (blk_cell BK0.out 2).trans rfl
        have hfz10_0 := blk_frozen BK0.out 0
        have hfz10_1 := blk_frozen BK0.out 1
        have hfz10_2 := blk_frozen BK0.out 2
        obtain ⟨Ao11, co11, eo11⟩ := Kd.R_slice HO_1000.out
        subst eo11
        have p111 : 0 ≤ (x2_1 : Int) := of_decide_eq_true (by first | (with_reducible assumption) | assumption)
        have q111 : x2_1 < (x1000_1.length : Int) := of_decide_eq_true (by first | (with_reducible assumption) | assumption)
        obtain ⟨ad111, e111, hx111_0⟩ := Kd.at_int (Kd.R_reads' HO_1000.out).2.2 x2_1 p111 q111
        cases e111
        replace p111 := eq_true p111
        replace q111 := eq_true q111
        have p8 : 0 ≤ (x2_1 : Int) := of_decide_eq_true (by first | (with_reducible assumption) | assumption)
        have q8 : (x2_1 : Int) < ((x1000_1.length : Int) : Int) := of_decide_eq_true (by first | (with_reducible assumption) | assumption)
        obtain ⟨go8, co8, eo8, gb8, gl8, cl8, HG8⟩ := Kd.R_form HO_1000.out (by omega)
        (first | cases eo8 | (injection eo8 with ea_ en_ ec_; (first | subst ea_ | (injection ea_ with ea_; subst ea_)); subst ec_; clear en_))
        have GB8 := Aside0.mk gb8
        have GG8 := Aside0.mk HG8
        clear gb8 gl8 HG8
        (first | simp only [add_plain] at hx111_0 | skip)
        obtain ⟨hx8_0, hf8_0⟩ := Kd.R_celln 0 HO_1000.out (x2_1 : Int) p8 q8
        replace p8 := eq_true p8
        replace q8 := eq_true q8
        have HP12 := Kd.R_putg HO_1000.out (x2_1 : Int) (((rd x1000_1 x2_1) + 1) % 256)
        go_wp2_with (first | ((with_reducible refine gate_store (t := 5) (p := 27) rfl ?_); refine store_event (t := 5) (p := 27) (v := ?vo_w13) (w1 := (wr.setCell ⟨go8, (x2_1 : Int).toNat, none⟩ (.int .u8 (((rd x1000_1 x2_1) + 1) % 256)))) ?hg ?ho ?hn ?hr ?_; (case ho => rfl); (case hg => rfl); (case hn => rfl); (case hr => first | (go_simp; done) | (go_simp; rfl)); intro w13 hw; have hg : wr.grownBy w13 (some go8) := (by rw [hw]; exact HP12.2); have hp_ : Kd.R (Kd.int .u8) 5 w13 w.heap.size (fun _ => True) (.slice (some ⟨go8, 0, none⟩) x1000_1.length co11) y112 := (by rw [hw, Ny112.out]; exact HP12.1); replace HKp := Aside0.mk (KT.grown HKp.out hg (Kd.R_typed HO_1000.out)); clear HP12; have n0_ := Aside0.mk (hp_); have n1_ := Aside0.mk (blk_grown (g := g) (o := .cells #[.slice (some ⟨go8, 0, none⟩) x1000_1.length co11, .int .u64 s0_1, .int .u64 s0_2] 151 (0, 0)) (by (with_reducible repeat (first | refine blk_drewN ?_ _ | refine blk_drew ?_ | refine blk_alloc ?_ _)); exact BK0.out) hg (Kd.R_ne HO_1000.out BK0.out (by decide))); have n2_ := Aside0.mk ((by rw [hw]; exact below_set (HB.out) GB8.out : Below w.heap.size w w13)); clear HO_1000; clear BK0; clear HB; have HO_1000 := n0_; have BK0 := n1_; have HB := n2_; clear n0_ n1_ n2_; clear hg hw hp_; have hcz14_0 : w13.cell? ⟨g, 0, none⟩ = some (.slice (some ⟨go8, 0, none⟩) x1000_1.length co11) := (blk_cell BK0.out 0).trans rfl; have hcz14_1 : w13.cell? ⟨g, 1, none⟩ = some (.int .u64 s0_1) := (blk_cell BK0.out 1).trans rfl; have hcz14_2 : w13.cell? ⟨g, 2, none⟩ = some (.int .u64 s0_2) := (blk_cell BK0.out 2).trans rfl; have hfz14_0 := blk_frozen BK0.out 0; have hfz14_1 := blk_frozen BK0.out 1; have hfz14_2 := blk_frozen BK0.out 2; have p113 : 0 ≤ (x2_1 : Int) := of_decide_eq_true (by first | (with_reducible assumption) | assumption); have q113 : x2_1 < (y112.length : Int) := (by have h_ : (x2_1 : Int) < ((x1000_1.length : Int) : Int) := of_decide_eq_true (by first | (with_reducible assumption) | assumption); first | (have e_ := (Kd.R_reads' HO_1000.out).1; omega) | simpa only [Ny112.out, List.length_set] using h_); have ql113 : ((x2_1 : Int) < ((x1000_1.length : Int) : Int)) = True := eq_true (of_decide_eq_true (by first | (with_reducible assumption) | assumption)); obtain ⟨ad113, e113, hx113_0⟩ := Kd.at_int (Kd.R_reads' HO_1000.out).2.2 x2_1 p113 q113; obtain rfl : (⟨go8, 0, none⟩ : Addr) = ad113 := (by injection e113); (first | simp only [add_plain] at hx113_0 | simp only [add_at] at hx113_0 | simp only [Addr.add, Nat.zero_add] at hx113_0 | skip); replace p113 := eq_true p113; replace q113 := eq_true q113))
        go_roundg k1
        case measure => have := HK1.out; omega
        case rel => exact ⟨(wrap64 (x2_1 - 1)), (y112), (.slice (some ⟨go8, 0, none⟩) x1000_1.length co11), (by first | rfl | (simp; done) | (simp [*]; done)), H', ⟨by have := HK1.out; omega⟩, ⟨by (with_reducible repeat (first | apply Kd.R_alloc | apply Kd.R_drewN | apply Kd.R_drew)); exact HO_1000.out⟩, ⟨by (with_reducible repeat (first | refine blk_drewN ?_ _ | refine blk_drew ?_ | refine blk_alloc ?_ _)); exact BK0.out⟩, ⟨by repeat (first | (with_reducible first | exact HB.out | apply below_alloc | apply pw_below_drewN | apply below_drew1 | refine below_set ?_ GE0.out) | exact HB.out)⟩, ⟨by repeat (first | exact HKp.out | refine KT.set ?_ _ _ | refine KT.alloc ?_ _ | refine KT.drewN ?_ _ | refine KT.drew ?_)⟩⟩
      rw [if_neg c9] at H
      have c9b0 : ((rd y112 x2_1) == 0) = false := beq_eq_false_iff_ne.mpr c9
      have c9b1 : ((rd y112 x2_1) != 0) = true := bne_iff_ne.mpr c9
      by_cases c15 : y112.length < 140737488355328
      rotate_left
      · rw [if_neg c15] at H
        exact absurd H (by simp)
      rw [if_pos c15] at H
      have LMc15 := Aside0.mk c15
      clear c15
      obtain ⟨y114, hy114⟩ : ∃ y_ : List Int, y_ = (y112 ++ [(s0_1 / 16777216) % 256]) := ⟨_, rfl⟩
      replace H : (some (y114, IntKind.u64.wrap ((Go.bits .and .u64 s0_1 16777215) * 256), s0_2)) = some (r1, r2, r3) := by first | (rw [hy114]; with_reducible exact H) | (have H2_ := (Option.bind_some _ _).symm.trans H; rw [hy114]; with_reducible exact H2_) | (have H2_ := (Option.bind_some _ _).symm.trans H; with_reducible exact H2_) | with_reducible exact H | (rw [hy114]; exact H) | exact H
      have Ny114 := Aside0.mk hy114
      clear hy114
      simp only [Option.some.injEq, Prod.mk.injEq] at H
      obtain ⟨rfl, rfl, rfl⟩ := H
      have hcz16_0 : wr.cell? ⟨g, 0, none⟩ = some (u1000) := (blk_cell BK0.out 0).trans rfl
      have hcz16_1 : wr.cell? ⟨g, 1, none⟩ = some (.int .u64 s0_1) := (blk_cell BK0.out 1).trans rfl
      have hcz16_2 : wr.cell? ⟨g, 2, none⟩ = some (.int .u64 s0_2) := (blk_cell BK0.out 2).trans rfl
      have hfz16_0 := blk_frozen BK0.out 0
      have hfz16_1 := blk_frozen BK0.out 1
      have hfz16_2 := blk_frozen BK0.out 2
      obtain ⟨Ao17, co17, eo17⟩ := Kd.R_slice HO_1000.out
      subst eo17
      have p111 : 0 ≤ (x2_1 : Int) := of_decide_eq_true (by first | (with_reducible assumption) | assumption)
      have q111 : x2_1 < (x1000_1.length : Int) := of_decide_eq_true (by first | (with_reducible assumption) | assumption)
      obtain ⟨ad111, e111, hx111_0⟩ := Kd.at_int (Kd.R_reads' HO_1000.out).2.2 x2_1 p111 q111
      cases e111
      replace p111 := eq_true p111
      replace q111 := eq_true q111
      have p8 : 0 ≤ (x2_1 : Int) := of_decide_eq_true (by first | (with_reducible assumption) | assumption)
      have q8 : (x2_1 : Int) < ((x1000_1.length : Int) : Int) := of_decide_eq_true (by first | (with_reducible assumption) | assumption)
      obtain ⟨go8, co8, eo8, gb8, gl8, cl8, HG8⟩ := Kd.R_form HO_1000.out (by omega)
      (first | cases eo8 | (injection eo8 with ea_ en_ ec_; (first | subst ea_ | (injection ea_ with ea_; subst ea_)); subst ec_; clear en_))
      have GB8 := Aside0.mk gb8
      have GG8 := Aside0.mk HG8
      clear gb8 gl8 HG8
      (first | simp only [add_plain] at hx111_0 | skip)
      obtain ⟨hx8_0, hf8_0⟩ := Kd.R_celln 0 HO_1000.out (x2_1 : Int) p8 q8
      replace p8 := eq_true p8
      replace q8 := eq_true q8
      have HP18 := Kd.R_putg HO_1000.out (x2_1 : Int) (((rd x1000_1 x2_1) + 1) % 256)
      try go_wp2_with (first | ((with_reducible refine gate_store (t := 5) (p := 27) rfl ?_); refine store_event (t := 5) (p := 27) (v := ?vo_w19) (w1 := (wr.setCell ⟨go8, (x2_1 : Int).toNat, none⟩ (.int .u8 (((rd x1000_1 x2_1) + 1) % 256)))) ?hg ?ho ?hn ?hr ?_; (case ho => rfl); (case hg => rfl); (case hn => rfl); (case hr => first | (go_simp; done) | (go_simp; rfl)); intro w19 hw; have hg : wr.grownBy w19 (some go8) := (by rw [hw]; exact HP18.2); have hp_ : Kd.R (Kd.int .u8) 5 w19 w.heap.size (fun _ => True) (.slice (some ⟨go8, 0, none⟩) x1000_1.length co17) y112 := (by rw [hw, Ny112.out]; exact HP18.1); replace HKp := Aside0.mk (KT.grown HKp.out hg (Kd.R_typed HO_1000.out)); clear HP18; have n0_ := Aside0.mk (hp_); have n1_ := Aside0.mk (blk_grown (g := g) (o := .cells #[.slice (some ⟨go8, 0, none⟩) x1000_1.length co17, .int .u64 s0_1, .int .u64 s0_2] 151 (0, 0)) (by (with_reducible repeat (first | refine blk_drewN ?_ _ | refine blk_drew ?_ | refine blk_alloc ?_ _)); exact BK0.out) hg (Kd.R_ne HO_1000.out BK0.out (by decide))); have n2_ := Aside0.mk ((by rw [hw]; exact below_set (HB.out) GB8.out : Below w.heap.size w w19)); clear HO_1000; clear BK0; clear HB; have HO_1000 := n0_; have BK0 := n1_; have HB := n2_; clear n0_ n1_ n2_; clear hg hw hp_; have hcz20_0 : w19.cell? ⟨g, 0, none⟩ = some (.slice (some ⟨go8, 0, none⟩) x1000_1.length co17) := (blk_cell BK0.out 0).trans rfl; have hcz20_1 : w19.cell? ⟨g, 1, none⟩ = some (.int .u64 s0_1) := (blk_cell BK0.out 1).trans rfl; have hcz20_2 : w19.cell? ⟨g, 2, none⟩ = some (.int .u64 s0_2) := (blk_cell BK0.out 2).trans rfl; have hfz20_0 := blk_frozen BK0.out 0; have hfz20_1 := blk_frozen BK0.out 1; have hfz20_2 := blk_frozen BK0.out 2; have p113 : 0 ≤ (x2_1 : Int) := of_decide_eq_true (by first | (with_reducible assumption) | assumption); have q113 : x2_1 < (y112.length : Int) := (by have h_ : (x2_1 : Int) < ((x1000_1.length : Int) : Int) := of_decide_eq_true (by first | (with_reducible assumption) | assumption); first | (have e_ := (Kd.R_reads' HO_1000.out).1; omega) | simpa only [Ny112.out, List.length_set] using h_); have ql113 : ((x2_1 : Int) < ((x1000_1.length : Int) : Int)) = True := eq_true (of_decide_eq_true (by first | (with_reducible assumption) | assumption)); obtain ⟨ad113, e113, hx113_0⟩ := Kd.at_int (Kd.R_reads' HO_1000.out).2.2 x2_1 p113 q113; obtain rfl : (⟨go8, 0, none⟩ : Addr) = ad113 := (by injection e113); (first | simp only [add_plain] at hx113_0 | simp only [add_at] at hx113_0 | simp only [Addr.add, Nat.zero_add] at hx113_0 | skip); replace p113 := eq_true p113; replace q113 := eq_true q113))
      have n0_ := Aside0.mk (Kd.R_drew HO_1000.out)
      have n1_ := Aside0.mk (blk_drew BK0.out)
      replace HKp := Aside0.mk (KT.drew HKp.out)
      have n2_ := Aside0.mk (below_drew1 HB.out)
      clear HO_1000
      clear BK0
      clear HB
      have HO_1000 := n0_
      have BK0 := n1_
      have HB := n2_
      clear n0_ n1_ n2_
      refine start_ (n := 16) (S := fun w' => w'.cell? ⟨g, 0, none⟩ = some (.slice (some ⟨go8, 0, none⟩) x1000_1.length co17) ∧ w'.cell? ⟨g, 1, none⟩ = some (.int .u64 s0_1) ∧ w'.cell? ⟨g, 2, none⟩ = some (.int .u64 s0_2)) (ds := [15]) #[false, false, false, false, false, false, false, false, false, false, false, false, false, false, false, false] (by kernel_rfl) rfl rfl ⟨(blk_cell BK0.out 0).trans rfl, (blk_cell BK0.out 1).trans rfl, (blk_cell BK0.out 2).trans rfl⟩ (fun hHeld => ?_); refine with_tabW spec_l12Out_shift.tab6 spec_l12Out_shift.bits6 (fun HT_ HW_ => ?_)
      generalize w19.drew = w21 at HKp HO_1000 BK0 HB hHeld ⊢
      refine pure_ (i := 0) (N := some 36) (v := ?_) (a' := ?_) #[true, false, false, false, false, false, false, false, false, false, false, false, false, false, false, false] rfl rfl (any_of HT_.out (by kernel_rfl)) (fun _ _ _ h => h) (Or.inl ⟨by rfl, ?_⟩) ?_ ?_
      rotate_left
      · intro w'
        go_simp
        with_reducible rfl
      rotate_left
      · simp only [Act.put, List.setIfInBounds_toArray, List.set_cons_zero, List.set_cons_succ, i64_w, i32_w]
        rfl
      refine pure_ (i := 1) (N := some 37) (v := ?_) (a' := ?_) #[true, true, false, false, false, false, false, false, false, false, false, false, false, false, false, false] rfl rfl (any_of HT_.out (by kernel_rfl)) (fun _ _ _ h => h) (Or.inl ⟨by rfl, ?_⟩) ?_ ?_
      rotate_left
      · intro w'
        go_simp
        with_reducible rfl
      rotate_left
      · simp only [Act.put, List.setIfInBounds_toArray, List.set_cons_zero, List.set_cons_succ, i64_w, i32_w]
        rfl
      refine pure_ (i := 2) (N := some 38) (v := ?_) (a' := ?_) #[true, true, true, false, false, false, false, false, false, false, false, false, false, false, false, false] rfl rfl (any_of HT_.out (by kernel_rfl)) (fun _ _ _ h => h) (Or.inl ⟨by rfl, ?_⟩) ?_ ?_
      rotate_left
      · intro w'
        go_simp
        with_reducible rfl
      rotate_left
      · simp only [Act.put, List.setIfInBounds_toArray, List.set_cons_zero, List.set_cons_succ, i64_w, i32_w]
        rfl
      refine pure_ (i := 3) (N := some 39) (v := ?_) (a' := ?_) #[true, true, true, true, false, false, false, false, false, false, false, false, false, false, false, false] rfl rfl (any_of HT_.out (by kernel_rfl)) (fun _ _ _ h => h) (Or.inl ⟨by rfl, ?_⟩) ?_ ?_
      rotate_left
      · intro w'
        go_simp
        with_reducible rfl
      rotate_left
      · simp only [Act.put, List.setIfInBounds_toArray, List.set_cons_zero, List.set_cons_succ, i64_w, i32_w]
        rfl
      refine pure_ (i := 5) (N := some 41) (v := ?_) (a' := ?_) #[true, true, true, true, false, true, false, false, false, false, false, false, false, false, false, false] rfl rfl (any_of HT_.out (by kernel_rfl)) (fun _ _ _ h => h) (Or.inl ⟨by rfl, ?_⟩) ?_ ?_
      rotate_left
      · intro w'
        go_simp
        with_reducible rfl
      rotate_left
      · simp only [Act.put, List.setIfInBounds_toArray, List.set_cons_zero, List.set_cons_succ, i64_w, i32_w]
        rfl
      refine pure_ (i := 6) (N := some 42) (v := ?_) (a' := ?_) #[true, true, true, true, false, true, true, false, false, false, false, false, false, false, false, false] rfl rfl (any_of HT_.out (by kernel_rfl)) (fun _ _ _ h => h) (Or.inl ⟨by rfl, ?_⟩) ?_ ?_
      rotate_left
      · intro w'
        go_simp
        with_reducible rfl
      rotate_left
      · simp only [Act.put, List.setIfInBounds_toArray, List.set_cons_zero, List.set_cons_succ, i64_w, i32_w]
        rfl
      refine pure_ (i := 7) (N := some 43) (v := ?_) (a' := ?_) #[true, true, true, true, false, true, true, true, false, false, false, false, false, false, false, false] rfl rfl (any_of HT_.out (by kernel_rfl)) (fun _ _ _ h => h) (Or.inl ⟨by rfl, ?_⟩) ?_ ?_
      rotate_left
      · intro w'
        go_simp
        with_reducible rfl
      rotate_left
      · simp only [Act.put, List.setIfInBounds_toArray, List.set_cons_zero, List.set_cons_succ, i64_w, i32_w]
        rfl
      refine take_ (i := 4) (N := some 40) (v := ?_) (a' := ?_) #[true, true, true, true, true, true, true, true, false, false, false, false, false, false, false, false] rfl rfl (take_ofW HT_.out HW_.out (by kernel_rfl)) (fun _ _ _ h => h) (Or.inl ⟨by rfl, ?_⟩) hHeld ?_ ?_
      rotate_left
      · rintro w' ⟨s0, s1, s2⟩
        go_simp
        with_reducible rfl
      rotate_left
      · simp only [Act.put, List.setIfInBounds_toArray, List.set_cons_zero, List.set_cons_succ, i64_w, i32_w]
        rfl
      refine take_ (i := 8) (N := some 44) (v := ?_) (a' := ?_) #[true, true, true, true, true, true, true, true, true, false, false, false, false, false, false, false] rfl rfl (take_ofW HT_.out HW_.out (by kernel_rfl)) (fun _ _ _ h => h) (Or.inl ⟨by rfl, ?_⟩) hHeld ?_ ?_
      rotate_left
      · rintro w' ⟨s0, s1, s2⟩
        go_simp
        with_reducible rfl
      rotate_left
      · simp only [Act.put, List.setIfInBounds_toArray, List.set_cons_zero, List.set_cons_succ, i64_w, i32_w]
        rfl
      refine pure_ (i := 9) (N := some 45) (v := ?_) (a' := ?_) #[true, true, true, true, true, true, true, true, true, true, false, false, false, false, false, false] rfl rfl (any_of HT_.out (by kernel_rfl)) (fun _ _ _ h => h) (Or.inl ⟨by rfl, ?_⟩) ?_ ?_
      rotate_left
      · intro w'
        go_simp
        with_reducible rfl
      rotate_left
      · simp only [Act.put, List.setIfInBounds_toArray, List.set_cons_zero, List.set_cons_succ, i64_w, i32_w]
        rfl
      refine pure_ (i := 10) (N := some 46) (v := ?_) (a' := ?_) #[true, true, true, true, true, true, true, true, true, true, true, false, false, false, false, false] rfl rfl (any_of HT_.out (by kernel_rfl)) (fun _ _ _ h => h) (Or.inl ⟨by rfl, ?_⟩) ?_ ?_
      rotate_left
      · intro w'
        go_simp
        with_reducible rfl
      rotate_left
      · simp only [Act.put, List.setIfInBounds_toArray, List.set_cons_zero, List.set_cons_succ, i64_w, i32_w]
        rfl
      refine one_ (i := 11) (N := some 47) #[true, true, true, true, true, true, true, true, true, true, true, true, false, false, false, false] rfl rfl (one_of HT_.out (by kernel_rfl)) (by decide) (fun K hK => ?_)
      refine value_ (w1 := ?_) (v := ?_) (by rfl) rfl ?_ ?_
      rotate_left 2
      · go_simp
        constructor
        · rfl
        · rfl
      refine hK.out _ _ ⟨(blk_cell (blk_alloc BK0.out _) 0).trans rfl, (blk_cell (blk_alloc BK0.out _) 1).trans rfl, (blk_cell (blk_alloc BK0.out _) 2).trans rfl⟩ (fun hHeld => ?_)
      clear hK K
      refine norm_ (a' := ?_) ?_ ?_
      rotate_left
      · show Act.put _ (some 47) _ = _
        simp only [Act.put, List.setIfInBounds_toArray, List.set_cons_zero, List.set_cons_succ, i64_w, i32_w]
        rfl
      refine one_ (i := 12) (N := some 48) #[true, true, true, true, true, true, true, true, true, true, true, true, true, false, false, false] rfl rfl (one_of HT_.out (by kernel_rfl)) (by decide) (fun K hK => ?_)
      refine Kd.R_append_step (Kd.int .u8) (w0 := w) w.heap.size (by rfl) (.tmp 40) (.tmp 47) 23 5 (.int .u8 0) 1 rfl Try.underlying23 info5 rfl (by decide) (by omega) (.slice (some ⟨go8, 0, none⟩) x1000_1.length co17) y112 ((s0_1 / 16777216) % 256) [.int .u8 ((s0_1 / 16777216) % 256)] (fun _ => True) (fun _ => False) rfl rfl ?aP (fun _ hk => hk.elim) ?aF ?aO ?aB ?aS ?aL ?_
      (case aP => exact rfl)
      (case aB => exact (by repeat (first | (with_reducible first | exact HB.out | apply below_alloc | apply pw_below_drewN | apply below_drew1 | refine below_set ?_ GE0.out) | exact HB.out)))
      (case aF => exact (fun _ _ => trivial))
      (case aO => exact (by (with_reducible repeat (first | apply Kd.R_alloc | apply Kd.R_drewN | apply Kd.R_drew)); exact HO_1000.out))
      (case aS => exact (below_size (by repeat (first | (with_reducible first | exact HB.out | apply below_alloc | apply pw_below_drewN | apply below_drew1 | refine below_set ?_ GE0.out) | exact HB.out))))
      (case aL => have := LMc15.out; omega)
      intro v115 w22 ho hb hg hat
      replace HKp := Aside0.mk (KT.grown HKp.out hg (Kd.R_typed HO_1000.out))
      rw [← Ny114.out] at ho
      have n0_ := Aside0.mk (blk_grown (g := g) (o := .cells #[.slice (some ⟨go8, 0, none⟩) x1000_1.length co17, .int .u64 s0_1, .int .u64 s0_2] 151 (0, 0)) (by (with_reducible repeat (first | refine blk_drewN ?_ _ | refine blk_drew ?_ | refine blk_alloc ?_ _)); exact BK0.out) hg (Kd.R_ne HO_1000.out BK0.out (by decide)))
      have n1_ := Aside0.mk (hb)
      have n2_ := Aside0.mk (ho)
      clear BK0
      clear HB
      clear HO_1000
      have BK0 := n0_
      have HB := n1_
      have HO116 := n2_
      clear n0_ n1_ n2_
      clear ho hb hg hat
      obtain ⟨Ao23, co23, eo23⟩ := Kd.R_slice HO116.out
      (first | subst eo23 | (injection eo23 with f1_ f2_ f3_; have f4_ := f1_.symm; have f5_ := f3_.symm; clear f1_ f2_ f3_; subst f4_; subst f5_))
      refine hK.out _ _ ⟨(blk_cell BK0.out 0).trans rfl, (blk_cell BK0.out 1).trans rfl, (blk_cell BK0.out 2).trans rfl⟩ (fun hHeld => ?_)
      clear hK K
      refine norm_ (a' := ?_) ?_ ?_
      rotate_left
      · show Act.put _ (some 48) _ = _
        simp only [Act.put, List.setIfInBounds_toArray, List.set_cons_zero, List.set_cons_succ, i64_w, i32_w]
        rfl
      refine pure_ (i := 13) (N := some 49) (v := ?_) (a' := ?_) #[true, true, true, true, true, true, true, true, true, true, true, true, true, true, false, false] rfl rfl (any_of HT_.out (by kernel_rfl)) (fun _ _ _ h => h) (Or.inl ⟨by rfl, ?_⟩) ?_ ?_
      rotate_left
      · intro w'
        go_simp
        with_reducible rfl
      rotate_left
      · simp only [Act.put, List.setIfInBounds_toArray, List.set_cons_zero, List.set_cons_succ, i64_w, i32_w]
        rfl
      refine pure_ (i := 14) (N := some 50) (v := ?_) (a' := ?_) #[true, true, true, true, true, true, true, true, true, true, true, true, true, true, true, false] rfl rfl (any_of HT_.out (by kernel_rfl)) (fun _ _ _ h => h) (Or.inl ⟨by rfl, ?_⟩) ?_ ?_
      rotate_left
      · intro w'
        go_simp
        with_reducible rfl
      rotate_left
      · simp only [Act.put, List.setIfInBounds_toArray, List.set_cons_zero, List.set_cons_succ, i64_w, i32_w]
        rfl
      refine last_ (i := 15) (N := none) #[true, true, true, true, true, true, true, true, true, true, true, true, true, true, true, true] rfl rfl (one_of HT_.out (by kernel_rfl)) (by decide) (fun K hK => ?_)
      have hs24 : w22.cell? ⟨g, 0, none⟩ = some (.slice (some ⟨go8, 0, none⟩) x1000_1.length co17) := (blk_cell BK0.out 0).trans rfl
      have hfs24 := blk_frozen BK0.out 0
      refine skip_ (w1 := ?_) (by rfl) rfl ?_ ?_
      rotate_left
      · go_simp
        rfl
      refine hK.out _ _ ?_
      clear hK K
      refine done_ (done_of HT_.out (by kernel_rfl)) ?_
      have hcz25_0 : w22.cell? ⟨g, 0, none⟩ = some (.slice (some ⟨go8, 0, none⟩) x1000_1.length co17) := (blk_cell BK0.out 0).trans rfl
      have hcz25_1 : w22.cell? ⟨g, 1, none⟩ = some (.int .u64 s0_1) := (blk_cell BK0.out 1).trans rfl
      have hcz25_2 : w22.cell? ⟨g, 2, none⟩ = some (.int .u64 s0_2) := (blk_cell BK0.out 2).trans rfl
      have hfz25_0 := blk_frozen BK0.out 0
      have hfz25_1 := blk_frozen BK0.out 1
      have hfz25_2 := blk_frozen BK0.out 2
      try go_wp2
      first | go_end0 | ((try simp only [Exit.inBlock, Exit.then]); refine bodyPost_ret (results_none rfl _ _ _) rfl ?_)
      exact ⟨_, by first | rfl | (simp; done), by (with_reducible repeat (first | refine blk_drewN ?_ _ | refine blk_drew ?_ | refine blk_alloc ?_ _)); refine blk_put (cs := #[.slice Ao23 y114.length co23, .int .u64 s0_1, .int .u64 s0_2]) ?_ 1 _ rfl; (with_reducible repeat (first | refine blk_drewN ?_ _ | refine blk_drew ?_ | refine blk_alloc ?_ _)); refine blk_put (cs := #[.slice (some ⟨go8, 0, none⟩) x1000_1.length co17, .int .u64 s0_1, .int .u64 s0_2]) ?_ 0 _ rfl; (with_reducible repeat (first | refine blk_drewN ?_ _ | refine blk_drew ?_ | refine blk_alloc ?_ _)); exact BK0.out, Kd.R_mono (by (with_reducible repeat (first | apply Kd.R_alloc | apply Kd.R_drewN | apply Kd.R_drew)); exact (Kd.R_mono (Kd.R_far (p := ⟨g, 1, none⟩) (Kd.R_far (p := ⟨g, 0, none⟩) (Kd.R_types HO116.out BK0.out (by decide)) (fun _ hk => hk.2) (.slice Ao23 y114.length co23)) (fun _ hk => hk.2) (.int .u64 (IntKind.u64.wrap ((Go.bits .and .u64 s0_1 16777215) * 256)))) (fun _ h_ => h_.1))) (fun _ _ => trivial), by repeat (first | (with_reducible first | exact HB.out | apply below_alloc | apply pw_below_drewN | apply below_drew1 | refine below_set ?_ GE0.out) | exact HB.out), by repeat (first | exact HKp.out | refine KT.set ?_ _ _ | refine KT.alloc ?_ _ | refine KT.drewN ?_ _ | refine KT.drew ?_)⟩

end Go.Proofs.Ytggokppfhkebkaa.PFnExactOddsPack

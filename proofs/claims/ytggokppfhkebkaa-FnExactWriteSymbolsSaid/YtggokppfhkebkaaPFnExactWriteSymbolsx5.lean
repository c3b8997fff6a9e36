-- written by myprint.py (a program of this session's over the kit's print)
import Derived.Test.YtggokppfhkebkaaPFnExactWriteSymbolsx0
namespace Go.Proofs.Ytggokppfhkebkaa.PFnExactWriteSymbols
open Go.RowKit Go.Proofs.YtggokppfhkebkaaW.PrintWords Go.Proofs.YtggokppfhkebkaaW.PrintLast Go.Proofs.YtggokppfhkebkaaW.PrintMore
attribute [local go_sem] max2_int min2_int max_two min_two max_three min_three max_four min_four   -- for this text's walks alone
set_option linter.unusedVariables false
set_option linter.unusedSimpArgs false

/-! ### impl_bitsOut_bit: function 132 -/
def impl_bitsOut_bit.f (s0_0 : List Int) (s0_1 : Int) (s0_2 : Bool) (a1 : Int) : Option (List Int × Int × Bool) := if (Int.tmod s0_1 8) = 0 then (if s0_0.length < 140737488355328 then ((some (s0_0 ++ [0] : List Int)).bind fun y139 => (if s0_2 = true then (if 0 ≤ (wrap64 (Int.tdiv s0_1 8)) then (if (wrap64 (Int.tdiv s0_1 8)) < (y139.length : Int) then (if 0 ≤ (wrap64 (7 - (Int.tmod s0_1 8))) then (some ((y139.set ((wrap64 (Int.tdiv s0_1 8)) : Int).toNat (Go.bits .or .u8 (rd y139 (wrap64 (Int.tdiv s0_1 8))) (shl .u8 ((Go.bits .and .u64 a1 1) % 256) (wrap64 (7 - (Int.tmod s0_1 8)))))), wrap64 (s0_1 + 1), s0_2)) else (none)) else (none)) else (none)) else (if 0 ≤ (wrap64 (Int.tdiv s0_1 8)) then (if (wrap64 (Int.tdiv s0_1 8)) < (y139.length : Int) then (if 0 ≤ (Int.tmod s0_1 8) then (some ((y139.set ((wrap64 (Int.tdiv s0_1 8)) : Int).toNat (Go.bits .or .u8 (rd y139 (wrap64 (Int.tdiv s0_1 8))) (shl .u8 ((Go.bits .and .u64 a1 1) % 256) (Int.tmod s0_1 8)))), wrap64 (s0_1 + 1), s0_2)) else (none)) else (none)) else (none)))) else (none)) else (if s0_2 = true then (if 0 ≤ (wrap64 (Int.tdiv s0_1 8)) then (if (wrap64 (Int.tdiv s0_1 8)) < (s0_0.length : Int) then (if 0 ≤ (wrap64 (7 - (Int.tmod s0_1 8))) then (some ((s0_0.set ((wrap64 (Int.tdiv s0_1 8)) : Int).toNat (Go.bits .or .u8 (rd s0_0 (wrap64 (Int.tdiv s0_1 8))) (shl .u8 ((Go.bits .and .u64 a1 1) % 256) (wrap64 (7 - (Int.tmod s0_1 8)))))), wrap64 (s0_1 + 1), s0_2)) else (none)) else (none)) else (none)) else (if 0 ≤ (wrap64 (Int.tdiv s0_1 8)) then (if (wrap64 (Int.tdiv s0_1 8)) < (s0_0.length : Int) then (if 0 ≤ (Int.tmod s0_1 8) then (some ((s0_0.set ((wrap64 (Int.tdiv s0_1 8)) : Int).toNat (Go.bits .or .u8 (rd s0_0 (wrap64 (Int.tdiv s0_1 8))) (shl .u8 ((Go.bits .and .u64 a1 1) % 256) (Int.tmod s0_1 8)))), wrap64 (s0_1 + 1), s0_2)) else (none)) else (none)) else (none)))
def impl_bitsOut_bit.T5 : Bool × List (List Nat × List Nat) := (true, [([], []), ([0], [0]), ([1], [1]), ([2], [2]), ([], []), ([4], [4]), ([5], [5]), ([6], [6]), ([7], [7]), ([3, 8], [3, 8]), ([9], [9]), ([], []), ([11], [11]), ([12], [12]), ([], []), ([13, 14], [13, 14]), ([10, 15], [10, 15]), ([3, 8, 0, 1, 2, 3, 4, 5, 6, 7, 8, 9, 10, 11, 12, 13, 14, 15, 16], [3, 8]), ([17, 16, 0, 1, 2, 3, 4, 5, 6, 7, 8, 9, 10, 11, 12, 13, 14, 15, 16], [16, 17])])
def impl_bitsOut_bit.B5 : List Nat := [0, 1, 3, 7, 0, 16, 48, 112, 240, 511, 1023, 0, 2048, 6144, 0, 30720, 65535, 131071, 262143]
theorem impl_bitsOut_bit.tab5 : rtab .any (opsOf Try.f132 5) = impl_bitsOut_bit.T5 := by kernel_rfl
theorem impl_bitsOut_bit.bits5 : waitsOk impl_bitsOut_bit.T5.2 impl_bitsOut_bit.B5 = true := by kernel_rfl
set_option maxHeartbeats 8000000 in
set_option maxRecDepth 100000 in
theorem impl_bitsOut_bit.calls (g : Nat) (s0_0 : List Int) (s0_1 : Int) (s0_2 : Bool) (a1 : Int) (r1 : List Int) (r2 : Int) (r3 : Bool) (w : World) (wa : World) (hB : Below w.heap.size w wa) (hG : w.heap.size ≤ g) (u900_ : Value) (hbb : wa.heap[g]? = some (.cells #[u900_, .int .i64 s0_1, .bool s0_2] 100 (0, 0))) (hob0 : Kd.R (Kd.int .u8) 5 wa w.heap.size (fun _ => True) u900_ s0_0) (h : impl_bitsOut_bit.f s0_0 s0_1 s0_2 a1 = some (r1, r2, r3)) :
    Calls Try.prog 132 #[.pointer (some ⟨g, 0, none⟩), .int .u64 a1] wa fun e w' => ∃ vb0_ : Value, e = .returned (.tuple #[]) ∧ w'.heap[g]? = some (.cells #[vb0_, .int .i64 r2, .bool r3] 100 (0, 0)) ∧ Kd.R (Kd.int .u8) 5 w' w.heap.size (fun _ => True) vb0_ r1 ∧ Below w.heap.size w w' := by
  have HB := Aside0.mk hB
  have GW0 := Aside0.mk hG
  have GE0 := Aside0.mk hG
  have BK0 := Aside0.mk hbb
  have HOb0 := Aside0.mk hob0
  clear hob0
  clear hB hG hbb
  have H : (if (Int.tmod s0_1 8) = 0 then (if s0_0.length < 140737488355328 then ((some (s0_0 ++ [0] : List Int)).bind fun y139 => (if s0_2 = true then (if 0 ≤ (wrap64 (Int.tdiv s0_1 8)) then (if (wrap64 (Int.tdiv s0_1 8)) < (y139.length : Int) then (if 0 ≤ (wrap64 (7 - (Int.tmod s0_1 8))) then (some ((y139.set ((wrap64 (Int.tdiv s0_1 8)) : Int).toNat (Go.bits .or .u8 (rd y139 (wrap64 (Int.tdiv s0_1 8))) (shl .u8 ((Go.bits .and .u64 a1 1) % 256) (wrap64 (7 - (Int.tmod s0_1 8)))))), wrap64 (s0_1 + 1), s0_2)) else (none)) else (none)) else (none)) else (if 0 ≤ (wrap64 (Int.tdiv s0_1 8)) then (if (wrap64 (Int.tdiv s0_1 8)) < (y139.length : Int) then (if 0 ≤ (Int.tmod s0_1 8) then (some ((y139.set ((wrap64 (Int.tdiv s0_1 8)) : Int).toNat (Go.bits .or .u8 (rd y139 (wrap64 (Int.tdiv s0_1 8))) (shl .u8 ((Go.bits .and .u64 a1 1) % 256) (Int.tmod s0_1 8)))), wrap64 (s0_1 + 1), s0_2)) else (none)) else (none)) else (none)))) else (none)) else (if s0_2 = true then (if 0 ≤ (wrap64 (Int.tdiv s0_1 8)) then (if (wrap64 (Int.tdiv s0_1 8)) < (s0_0.length : Int) then (if 0 ≤ (wrap64 (7 - (Int.tmod s0_1 8))) then (some ((s0_0.set ((wrap64 (Int.tdiv s0_1 8)) : Int).toNat (Go.bits .or .u8 (rd s0_0 (wrap64 (Int.tdiv s0_1 8))) (shl .u8 ((Go.bits .and .u64 a1 1) % 256) (wrap64 (7 - (Int.tmod s0_1 8)))))), wrap64 (s0_1 + 1), s0_2)) else (none)) else (none)) else (none)) else (if 0 ≤ (wrap64 (Int.tdiv s0_1 8)) then (if (wrap64 (Int.tdiv s0_1 8)) < (s0_0.length : Int) then (if 0 ≤ (Int.tmod s0_1 8) then (some ((s0_0.set ((wrap64 (Int.tdiv s0_1 8)) : Int).toNat (Go.bits .or .u8 (rd s0_0 (wrap64 (Int.tdiv s0_1 8))) (shl .u8 ((Go.bits .and .u64 a1 1) % 256) (Int.tmod s0_1 8)))), wrap64 (s0_1 + 1), s0_2)) else (none)) else (none)) else (none)))) = some (r1, r2, r3) := h
  clear h
  by_cases c3 : (Int.tmod s0_1 8) = 0
  rotate_left
  · rw [if_neg c3] at H
    have c3b0 : ((Int.tmod s0_1 8) == 0) = false := beq_eq_false_iff_ne.mpr c3
    have c3b1 : ((Int.tmod s0_1 8) != 0) = true := bne_iff_ne.mpr c3
    by_cases c38 : s0_2 = true
    rotate_left
    · replace c38 := Bool.eq_false_iff.mpr c38
      subst c38
      have H1 : (if 0 ≤ (wrap64 (Int.tdiv s0_1 8)) then (if (wrap64 (Int.tdiv s0_1 8)) < (s0_0.length : Int) then (if 0 ≤ (Int.tmod s0_1 8) then (some ((s0_0.set ((wrap64 (Int.tdiv s0_1 8)) : Int).toNat (Go.bits .or .u8 (rd s0_0 (wrap64 (Int.tdiv s0_1 8))) (shl .u8 ((Go.bits .and .u64 a1 1) % 256) (Int.tmod s0_1 8)))), wrap64 (s0_1 + 1), false)) else (none)) else (none)) else (none)) = some (r1, r2, r3) := by rw [if_neg (show ¬ (false = true) by decide)] at H; exact H
      clear H
      have H := H1
      clear H1
      obtain ⟨ji52, hji52⟩ : ∃ j_ : Int, (wrap64 (Int.tdiv s0_1 8)) = j_ := ⟨_, rfl⟩
      replace H : (if 0 ≤ (ji52) then (if (ji52) < (s0_0.length : Int) then (if 0 ≤ (Int.tmod s0_1 8) then (some ((s0_0.set ((ji52) : Int).toNat (Go.bits .or .u8 (rd s0_0 (ji52)) (shl .u8 ((Go.bits .and .u64 a1 1) % 256) (Int.tmod s0_1 8)))), wrap64 (s0_1 + 1), false)) else (none)) else (none)) else (none)) = some (r1, r2, r3) := by first | (rw [hji52] at H; exact H) | (simp only [hji52] at H ⊢; exact H)
      have hji52w : (IntKind.i64.wrap (Int.tdiv s0_1 8)) = ji52 := (i64_w _).trans hji52
      by_cases c53 : 0 ≤ (ji52)
      rotate_left
      · rw [if_neg c53] at H
        exact absurd H (by simp)
      rw [if_pos c53] at H
      have c53b0 : decide (0 ≤ (ji52)) = true := decide_eq_true c53
      clear c53
      by_cases c54 : (ji52) < (s0_0.length : Int)
      rotate_left
      · rw [if_neg c54] at H
        exact absurd H (by simp)
      rw [if_pos c54] at H
      have c54b0 : decide ((ji52) < (s0_0.length : Int)) = true := decide_eq_true c54
      clear c54
      obtain ⟨ji55, hji55⟩ : ∃ j_ : Int, (Int.tmod s0_1 8) = j_ := ⟨_, rfl⟩
      replace H : (if 0 ≤ (ji55) then (some ((s0_0.set ((ji52) : Int).toNat (Go.bits .or .u8 (rd s0_0 (ji52)) (shl .u8 ((Go.bits .and .u64 a1 1) % 256) (ji55)))), wrap64 (s0_1 + 1), false)) else (none)) = some (r1, r2, r3) := by first | (rw [hji55] at H; exact H) | (simp only [hji55] at H ⊢; exact H)
      (try rw [hji55] at c3b0)
      (try rw [hji55] at c3b1)
      by_cases c56 : 0 ≤ (ji55)
      rotate_left
      · rw [if_neg c56] at H
        exact absurd H (by simp)
      rw [if_pos c56] at H
      have c56b0 := eq_true c56
      have c56b1 : decide (0 ≤ (ji55)) = true := decide_eq_true c56
      clear c56
      obtain ⟨ji57, hji57⟩ : ∃ j_ : Int, (shl .u8 ((Go.bits .and .u64 a1 1) % 256) (ji55)) = j_ := ⟨_, rfl⟩
      replace H : (some ((s0_0.set ((ji52) : Int).toNat (Go.bits .or .u8 (rd s0_0 (ji52)) (ji57))), wrap64 (s0_1 + 1), false)) = some (r1, r2, r3) := by first | (rw [hji57] at H; exact H) | (simp only [hji57] at H ⊢; exact H)
      have hji57_ : (IntKind.u8.wrap (((Go.bits .and .u64 a1 1) % 256) * 2 ^ min (ji55).toNat 8)) = ji57 := hji57
      have hji57v : (((Go.bits .and .u64 a1 1) % 256) * 2 ^ min (ji55).toNat 8) % 256 = ji57 := (IntKind.wrap_u8 _).symm.trans hji57_
      have hji57z : (ji55) ≤ 8 → (IntKind.u8.wrap (((Go.bits .and .u64 a1 1) % 256) * 2 ^ (ji55).toNat)) = ji57 := shl_small hji57
      obtain ⟨y149, hy149⟩ : ∃ y_ : List Int, y_ = (s0_0.set ((ji52) : Int).toNat (Go.bits .or .u8 (rd s0_0 (ji52)) (ji57))) := ⟨_, rfl⟩
      replace H : (some (y149, wrap64 (s0_1 + 1), false)) = some (r1, r2, r3) := by first | (rw [hy149]; with_reducible exact H) | (have H2_ := (Option.bind_some _ _).symm.trans H; rw [hy149]; with_reducible exact H2_) | (have H2_ := (Option.bind_some _ _).symm.trans H; with_reducible exact H2_) | with_reducible exact H | (rw [hy149]; exact H) | exact H
      have Ny149 := Aside0.mk hy149
      clear hy149
      simp only [Option.some.injEq, Prod.mk.injEq] at H
      obtain ⟨rfl, rfl, rfl⟩ := H
      have hcz59_0 : wa.cell? ⟨g, 0, none⟩ = some (u900_) := (blk_cell BK0.out 0).trans rfl
      have hcz59_1 : wa.cell? ⟨g, 1, none⟩ = some (.int .i64 s0_1) := (blk_cell BK0.out 1).trans rfl
      have hcz59_2 : wa.cell? ⟨g, 2, none⟩ = some (.bool false) := (blk_cell BK0.out 2).trans rfl
      have hfz59_0 := blk_frozen BK0.out 0
      have hfz59_1 := blk_frozen BK0.out 1
      have hfz59_2 := blk_frozen BK0.out 2
      go_enter Try.func132, Try.ntmps132
      try go_wp2
      have n0_ := Aside0.mk (Kd.R_drew HOb0.out)
      have n1_ := Aside0.mk (blk_drew BK0.out)
      have n2_ := Aside0.mk (below_drew1 HB.out)
      clear HOb0
      clear BK0
      clear HB
      have HOb0 := n0_
      have BK0 := n1_
      have HB := n2_
      clear n0_ n1_ n2_
      obtain ⟨Ao61, co61, eo61⟩ := Kd.R_slice HOb0.out
      (first | subst eo61 | (injection eo61 with f1_ f2_ f3_; have f4_ := f1_.symm; have f5_ := f3_.symm; clear f1_ f2_ f3_; subst f4_; subst f5_))
      have p148 : 0 ≤ ((ji52) : Int) := of_decide_eq_true (by first | (with_reducible assumption) | assumption)
      have q148 : (ji52) < (s0_0.length : Int) := of_decide_eq_true (by first | (with_reducible assumption) | assumption)
      obtain ⟨ad148, e148, hx148_0⟩ := Kd.at_int (Kd.R_reads' HOb0.out).2.2 (ji52) p148 q148
      cases e148
      replace p148 := eq_true p148
      replace q148 := eq_true q148
      have p58 : 0 ≤ ((ji52) : Int) := of_decide_eq_true (by first | (with_reducible assumption) | assumption)
      have q58 : ((ji52) : Int) < ((s0_0.length : Int) : Int) := of_decide_eq_true (by first | (with_reducible assumption) | assumption)
      obtain ⟨go58, co58, eo58, gb58, gl58, cl58, HG58⟩ := Kd.R_form HOb0.out (by omega)
      (first | cases eo58 | (injection eo58 with ea_ en_ ec_; (first | subst ea_ | (injection ea_ with ea_; subst ea_)); subst ec_; clear en_))
      have GB58 := Aside0.mk gb58
      have GG58 := Aside0.mk HG58
      clear gb58 gl58 HG58
      (first | simp only [add_plain] at hx148_0 | skip)
      obtain ⟨hx58_0, hf58_0⟩ := Kd.R_celln 0 HOb0.out ((ji52) : Int) p58 q58
      replace p58 := eq_true p58
      replace q58 := eq_true q58
      have HP62 := Kd.R_putn HOb0.out ((ji52) : Int) (Go.bits .or .u8 (rd s0_0 (ji52)) (ji57))
      rw [← Ny149.out] at HP62
      have HQ62 := Aside0.mk HP62
      clear HP62
      refine start_ (n := 19) (S := fun w' => w'.cell? ⟨g, 0, none⟩ = some (.slice (some ⟨go58, 0, none⟩) s0_0.length co61) ∧ w'.cell? ⟨g, 1, none⟩ = some (.int .i64 s0_1) ∧ w'.cell? ⟨g, 2, none⟩ = some (.bool false) ∧ w'.cell? ⟨go58, ((ji52)).toNat, none⟩ = some (.int .u8 (rd s0_0 (ji52)))) (ds := [18]) #[false, false, false, false, false, false, false, false, false, false, false, false, false, false, false, false, false, false, false] (by kernel_rfl) rfl rfl ⟨(blk_cell BK0.out 0).trans rfl, (blk_cell BK0.out 1).trans rfl, (blk_cell BK0.out 2).trans rfl, hx148_0⟩ (fun hHeld => ?_); refine with_tabW impl_bitsOut_bit.tab5 impl_bitsOut_bit.bits5 (fun HT_ HW_ => ?_)
      generalize wa.drew = w60 at HOb0 BK0 HB GG58 HQ62 hf58_0 hx148_0 hx58_0 hHeld ⊢
      refine pure_ (i := 0) (N := some 31) (v := ?_) (a' := ?_) #[true, false, false, false, false, false, false, false, false, false, false, false, false, false, false, false, false, false, false] rfl rfl (any_of HT_.out (by kernel_rfl)) (fun _ _ _ h => h) (Or.inl ⟨by rfl, ?_⟩) ?_ ?_
      rotate_left
      · intro w'
        go_simp
        with_reducible rfl
      rotate_left
      · simp only [Act.put, List.setIfInBounds_toArray, List.set_cons_zero, List.set_cons_succ, i64_w, i32_w]
        rfl
      refine pure_ (i := 1) (N := some 32) (v := ?_) (a' := ?_) #[true, true, false, false, false, false, false, false, false, false, false, false, false, false, false, false, false, false, false] rfl rfl (any_of HT_.out (by kernel_rfl)) (fun _ _ _ h => h) (Or.inl ⟨by rfl, ?_⟩) ?_ ?_
      rotate_left
      · intro w'
        go_simp
        with_reducible rfl
      rotate_left
      · simp only [Act.put, List.setIfInBounds_toArray, List.set_cons_zero, List.set_cons_succ, i64_w, i32_w]
        rfl
      refine pure_ (i := 2) (N := some 33) (v := ?_) (a' := ?_) #[true, true, true, false, false, false, false, false, false, false, false, false, false, false, false, false, false, false, false] rfl rfl (any_of HT_.out (by kernel_rfl)) (fun _ _ _ h => h) (Or.inl ⟨by rfl, ?_⟩) ?_ ?_
      rotate_left
      · intro w'
        go_simp
        with_reducible rfl
      rotate_left
      · simp only [Act.put, List.setIfInBounds_toArray, List.set_cons_zero, List.set_cons_succ, i64_w, i32_w]
        rfl
      refine pure_ (i := 4) (N := some 35) (v := ?_) (a' := ?_) #[true, true, true, false, true, false, false, false, false, false, false, false, false, false, false, false, false, false, false] rfl rfl (any_of HT_.out (by kernel_rfl)) (fun _ _ _ h => h) (Or.inl ⟨by rfl, ?_⟩) ?_ ?_
      rotate_left
      · intro w'
        go_simp
        with_reducible rfl
      rotate_left
      · simp only [Act.put, List.setIfInBounds_toArray, List.set_cons_zero, List.set_cons_succ, i64_w, i32_w]
        rfl
      refine pure_ (i := 5) (N := some 36) (v := ?_) (a' := ?_) #[true, true, true, false, true, true, false, false, false, false, false, false, false, false, false, false, false, false, false] rfl rfl (any_of HT_.out (by kernel_rfl)) (fun _ _ _ h => h) (Or.inl ⟨by rfl, ?_⟩) ?_ ?_
      rotate_left
      · intro w'
        go_simp
        with_reducible rfl
      rotate_left
      · simp only [Act.put, List.setIfInBounds_toArray, List.set_cons_zero, List.set_cons_succ, i64_w, i32_w]
        rfl
      refine pure_ (i := 6) (N := some 37) (v := ?_) (a' := ?_) #[true, true, true, false, true, true, true, false, false, false, false, false, false, false, false, false, false, false, false] rfl rfl (any_of HT_.out (by kernel_rfl)) (fun _ _ _ h => h) (Or.inl ⟨by rfl, ?_⟩) ?_ ?_
      rotate_left
      · intro w'
        go_simp
        with_reducible rfl
      rotate_left
      · simp only [Act.put, List.setIfInBounds_toArray, List.set_cons_zero, List.set_cons_succ, i64_w, i32_w]
        rfl
      refine pure_ (i := 11) (N := some 42) (v := ?_) (a' := ?_) #[true, true, true, false, true, true, true, false, false, false, false, true, false, false, false, false, false, false, false] rfl rfl (any_of HT_.out (by kernel_rfl)) (fun _ _ _ h => h) (Or.inl ⟨by rfl, ?_⟩) ?_ ?_
      rotate_left
      · intro w'
        go_simp
        with_reducible rfl
      rotate_left
      · simp only [Act.put, List.setIfInBounds_toArray, List.set_cons_zero, List.set_cons_succ, i64_w, i32_w]
        rfl
      refine pure_ (i := 12) (N := some 43) (v := ?_) (a' := ?_) #[true, true, true, false, true, true, true, false, false, false, false, true, true, false, false, false, false, false, false] rfl rfl (any_of HT_.out (by kernel_rfl)) (fun _ _ _ h => h) (Or.inl ⟨by rfl, ?_⟩) ?_ ?_
      rotate_left
      · intro w'
        go_simp
        with_reducible rfl
      rotate_left
      · simp only [Act.put, List.setIfInBounds_toArray, List.set_cons_zero, List.set_cons_succ, i64_w, i32_w]
        rfl
      refine pure_ (i := 13) (N := some 44) (v := ?_) (a' := ?_) #[true, true, true, false, true, true, true, false, false, false, false, true, true, true, false, false, false, false, false] rfl rfl (any_of HT_.out (by kernel_rfl)) (fun _ _ _ h => h) (Or.inl ⟨by rfl, ?_⟩) ?_ ?_
      rotate_left
      · intro w'
        go_simp
        with_reducible rfl
      rotate_left
      · simp only [Act.put, List.setIfInBounds_toArray, List.set_cons_zero, List.set_cons_succ, i64_w, i32_w]
        rfl
      refine pure_ (i := 14) (N := some 45) (v := ?_) (a' := ?_) #[true, true, true, false, true, true, true, false, false, false, false, true, true, true, true, false, false, false, false] rfl rfl (any_of HT_.out (by kernel_rfl)) (fun _ _ _ h => h) (Or.inl ⟨by rfl, ?_⟩) ?_ ?_
      rotate_left
      · intro w'
        go_simp
        with_reducible rfl
      rotate_left
      · simp only [Act.put, List.setIfInBounds_toArray, List.set_cons_zero, List.set_cons_succ, i64_w, i32_w]
        rfl
      refine pure_ (i := 15) (N := some 46) (v := ?_) (a' := ?_) #[true, true, true, false, true, true, true, false, false, false, false, true, true, true, true, true, false, false, false] rfl rfl (any_of HT_.out (by kernel_rfl)) (fun _ _ _ h => h) (Or.inl ⟨by rfl, ?_⟩) ?_ ?_
      rotate_left
      · intro w'
        go_simp
        with_reducible rfl
      rotate_left
      · simp only [Act.put, List.setIfInBounds_toArray, List.set_cons_zero, List.set_cons_succ, i64_w, i32_w]
        rfl
      refine take_ (i := 3) (N := some 34) (v := ?_) (a' := ?_) #[true, true, true, true, true, true, true, false, false, false, false, true, true, true, true, true, false, false, false] rfl rfl (take_ofW HT_.out HW_.out (by kernel_rfl)) (fun _ _ _ h => h) (Or.inl ⟨by rfl, ?_⟩) hHeld ?_ ?_
      rotate_left
      · rintro w' ⟨s0, s1, s2, s3⟩
        go_simp
        with_reducible rfl
      rotate_left
      · simp only [Act.put, List.setIfInBounds_toArray, List.set_cons_zero, List.set_cons_succ, i64_w, i32_w]
        rfl
      refine take_ (i := 7) (N := some 38) (v := ?_) (a' := ?_) #[true, true, true, true, true, true, true, true, false, false, false, true, true, true, true, true, false, false, false] rfl rfl (take_ofW HT_.out HW_.out (by kernel_rfl)) (fun _ _ _ h => h) (Or.inl ⟨by rfl, ?_⟩) hHeld ?_ ?_
      rotate_left
      · rintro w' ⟨s0, s1, s2, s3⟩
        go_simp
        with_reducible rfl
      rotate_left
      · simp only [Act.put, List.setIfInBounds_toArray, List.set_cons_zero, List.set_cons_succ, i64_w, i32_w]
        rfl
      refine pure_ (i := 8) (N := some 39) (v := ?_) (a' := ?_) #[true, true, true, true, true, true, true, true, true, false, false, true, true, true, true, true, false, false, false] rfl rfl (any_of HT_.out (by kernel_rfl)) (fun _ _ _ h => h) (Or.inl ⟨by rfl, ?_⟩) ?_ ?_
      rotate_left
      · intro w'
        go_simp
        with_reducible rfl
      rotate_left
      · simp only [Act.put, List.setIfInBounds_toArray, List.set_cons_zero, List.set_cons_succ, i64_w, i32_w]
        rfl
      refine pure_ (i := 9) (N := some 40) (v := ?_) (a' := ?_) #[true, true, true, true, true, true, true, true, true, true, false, true, true, true, true, true, false, false, false] rfl rfl (any_of HT_.out (by kernel_rfl)) (fun _ _ _ h => h) (Or.inl ⟨by rfl, ?_⟩) ?_ ?_
      rotate_left
      · intro w'
        go_simp
        with_reducible rfl
      rotate_left
      · simp only [Act.put, List.setIfInBounds_toArray, List.set_cons_zero, List.set_cons_succ, i64_w, i32_w]
        rfl
      refine take_ (i := 10) (N := some 41) (v := ?_) (a' := ?_) #[true, true, true, true, true, true, true, true, true, true, true, true, true, true, true, true, false, false, false] rfl rfl (take_ofW HT_.out HW_.out (by kernel_rfl)) (fun _ _ _ h => h) (Or.inl ⟨by rfl, ?_⟩) hHeld ?_ ?_
      rotate_left
      · rintro w' ⟨s0, s1, s2, s3⟩
        go_simp
        with_reducible rfl
      rotate_left
      · simp only [Act.put, List.setIfInBounds_toArray, List.set_cons_zero, List.set_cons_succ, i64_w, i32_w]
        rfl
      refine pure_ (i := 16) (N := some 47) (v := ?_) (a' := ?_) #[true, true, true, true, true, true, true, true, true, true, true, true, true, true, true, true, true, false, false] rfl rfl (any_of HT_.out (by kernel_rfl)) (fun _ _ _ h => h) (Or.inl ⟨by rfl, ?_⟩) ?_ ?_
      rotate_left
      · intro w'
        go_simp
        with_reducible rfl
      rotate_left
      · simp only [Act.put, List.setIfInBounds_toArray, List.set_cons_zero, List.set_cons_succ, i64_w, i32_w]
        rfl
      refine pure_ (i := 17) (N := some 48) (v := ?_) (a' := ?_) #[true, true, true, true, true, true, true, true, true, true, true, true, true, true, true, true, true, true, false] rfl rfl (any_of HT_.out (by kernel_rfl)) (fun _ _ _ h => h) (Or.inl ⟨by rfl, ?_⟩) ?_ ?_
      rotate_left
      · intro w'
        go_simp
        with_reducible rfl
      rotate_left
      · simp only [Act.put, List.setIfInBounds_toArray, List.set_cons_zero, List.set_cons_succ, i64_w, i32_w]
        rfl
      refine last_ (i := 18) (N := none) #[true, true, true, true, true, true, true, true, true, true, true, true, true, true, true, true, true, true, true] rfl rfl (one_of HT_.out (by kernel_rfl)) (by decide) (fun K hK => ?_)
      refine skip_ (w1 := ?_) (by rfl) rfl ?_ ?_
      rotate_left
      · go_simp
        rfl
      refine hK.out _ _ ?_
      clear hK K
      refine done_ (done_of HT_.out (by kernel_rfl)) ?_
      have n0_ : Aside0 (Kd.R (Kd.int .u8) 5 (w60.setCell ⟨go58, ((ji52) : Int).toNat, none⟩ (.int .u8 (Go.bits .or .u8 (rd s0_0 (ji52)) (ji57)))) w.heap.size (fun _ => True) (.slice (some ⟨go58, 0, none⟩) s0_0.length co61) y149) := ⟨by (with_reducible repeat (first | apply Kd.R_alloc | apply Kd.R_drewN | apply Kd.R_drew)); exact HQ62.out⟩
      have n1_ : Aside0 ((w60.setCell ⟨go58, ((ji52) : Int).toNat, none⟩ (.int .u8 (Go.bits .or .u8 (rd s0_0 (ji52)) (ji57)))).heap[g]? = some (.cells #[.slice (some ⟨go58, 0, none⟩) s0_0.length co61, .int .i64 s0_1, .bool false] 100 (0, 0))) := ⟨by (with_reducible repeat (first | refine blk_drewN ?_ _ | refine blk_drew ?_ | refine blk_alloc ?_ _)); refine blk_far ?_ (by have h_ := Kd.R_ne HOb0.out BK0.out (by decide); intro e_; exact h_ (by rw [e_]; rfl)) _; (with_reducible repeat (first | refine blk_drewN ?_ _ | refine blk_drew ?_ | refine blk_alloc ?_ _)); exact BK0.out⟩
      have n2_ : Aside0 (Below w.heap.size w (w60.setCell ⟨go58, ((ji52) : Int).toNat, none⟩ (.int .u8 (Go.bits .or .u8 (rd s0_0 (ji52)) (ji57))))) := ⟨by repeat (first | (with_reducible first | exact HB.out | apply below_alloc | apply pw_below_drewN | apply below_drew1 | refine below_set ?_ GB58.out | refine below_set ?_ GE0.out) | exact HB.out)⟩
      (try clear HOb0)
      (try clear BK0)
      (try clear HB)
      (try simp only [IntKind.wrap_u8, hji57v])
      (try (have hji57y := (IntKind.wrap_u8 _).symm.trans (hji57z (by first | omega | (have h_ := Int.tmod_lt_of_pos s0_1 (show (0 : Int) < 8 by decide); omega))); simp only [IntKind.wrap_u8, hji57y]))
      generalize (w60.setCell ⟨go58, ((ji52) : Int).toNat, none⟩ (.int .u8 (Go.bits .or .u8 (rd s0_0 (ji52)) (ji57)))) = w63 at n0_ n1_ n2_ ⊢
      have HOb0 := n0_
      have BK0 := n1_
      have HB := n2_
      clear n0_ n1_ n2_
      have hcz64_0 : w63.cell? ⟨g, 0, none⟩ = some (.slice (some ⟨go58, 0, none⟩) s0_0.length co61) := (blk_cell BK0.out 0).trans rfl
      have hcz64_1 : w63.cell? ⟨g, 1, none⟩ = some (.int .i64 s0_1) := (blk_cell BK0.out 1).trans rfl
      have hcz64_2 : w63.cell? ⟨g, 2, none⟩ = some (.bool false) := (blk_cell BK0.out 2).trans rfl
      have hfz64_0 := blk_frozen BK0.out 0
      have hfz64_1 := blk_frozen BK0.out 1
      have hfz64_2 := blk_frozen BK0.out 2
      try go_wp2
      first | go_end0 | ((try simp only [Exit.inBlock, Exit.then]); refine bodyPost_ret (results_none rfl _ _ _) rfl ?_)
      exact ⟨_, by first | rfl | (simp; done), by (with_reducible repeat (first | refine blk_drewN ?_ _ | refine blk_drew ?_ | refine blk_alloc ?_ _)); refine blk_put (cs := #[.slice (some ⟨go58, 0, none⟩) s0_0.length co61, .int .i64 s0_1, .bool false]) ?_ 1 _ rfl; (with_reducible repeat (first | refine blk_drewN ?_ _ | refine blk_drew ?_ | refine blk_alloc ?_ _)); exact BK0.out, Kd.R_mono (by (with_reducible repeat (first | apply Kd.R_alloc | apply Kd.R_drewN | apply Kd.R_drew)); exact (Kd.R_mono (Kd.R_far (p := ⟨g, 1, none⟩) (Kd.R_types HOb0.out BK0.out (by decide)) (fun _ hk => hk.2) (.int .i64 (wrap64 (s0_1 + 1)))) (fun _ h_ => h_.1))) (fun _ _ => trivial), by repeat (first | (with_reducible first | exact HB.out | apply below_alloc | apply pw_below_drewN | apply below_drew1 | refine below_set ?_ GE0.out) | exact HB.out)⟩
    subst c38
    have H1 : (if 0 ≤ (wrap64 (Int.tdiv s0_1 8)) then (if (wrap64 (Int.tdiv s0_1 8)) < (s0_0.length : Int) then (if 0 ≤ (wrap64 (7 - (Int.tmod s0_1 8))) then (some ((s0_0.set ((wrap64 (Int.tdiv s0_1 8)) : Int).toNat (Go.bits .or .u8 (rd s0_0 (wrap64 (Int.tdiv s0_1 8))) (shl .u8 ((Go.bits .and .u64 a1 1) % 256) (wrap64 (7 - (Int.tmod s0_1 8)))))), wrap64 (s0_1 + 1), true)) else (none)) else (none)) else (none)) = some (r1, r2, r3) := by rw [if_pos rfl] at H; exact H
    clear H
    have H := H1
    clear H1
    obtain ⟨ji39, hji39⟩ : ∃ j_ : Int, (wrap64 (Int.tdiv s0_1 8)) = j_ := ⟨_, rfl⟩
    replace H : (if 0 ≤ (ji39) then (if (ji39) < (s0_0.length : Int) then (if 0 ≤ (wrap64 (7 - (Int.tmod s0_1 8))) then (some ((s0_0.set ((ji39) : Int).toNat (Go.bits .or .u8 (rd s0_0 (ji39)) (shl .u8 ((Go.bits .and .u64 a1 1) % 256) (wrap64 (7 - (Int.tmod s0_1 8)))))), wrap64 (s0_1 + 1), true)) else (none)) else (none)) else (none)) = some (r1, r2, r3) := by first | (rw [hji39] at H; exact H) | (simp only [hji39] at H ⊢; exact H)
    have hji39w : (IntKind.i64.wrap (Int.tdiv s0_1 8)) = ji39 := (i64_w _).trans hji39
    by_cases c40 : 0 ≤ (ji39)
    rotate_left
    · rw [if_neg c40] at H
      exact absurd H (by simp)
    rw [if_pos c40] at H
    have c40b0 : decide (0 ≤ (ji39)) = true := decide_eq_true c40
    clear c40
    by_cases c41 : (ji39) < (s0_0.length : Int)
    rotate_left
    · rw [if_neg c41] at H
      exact absurd H (by simp)
    rw [if_pos c41] at H
    have c41b0 : decide ((ji39) < (s0_0.length : Int)) = true := decide_eq_true c41
    clear c41
    obtain ⟨ji42, hji42⟩ : ∃ j_ : Int, (wrap64 (7 - (Int.tmod s0_1 8))) = j_ := ⟨_, rfl⟩
    replace H : (if 0 ≤ (ji42) then (some ((s0_0.set ((ji39) : Int).toNat (Go.bits .or .u8 (rd s0_0 (ji39)) (shl .u8 ((Go.bits .and .u64 a1 1) % 256) (ji42)))), wrap64 (s0_1 + 1), true)) else (none)) = some (r1, r2, r3) := by first | (rw [hji42] at H; exact H) | (simp only [hji42] at H ⊢; exact H)
    have hji42w : (IntKind.i64.wrap (7 - (Int.tmod s0_1 8))) = ji42 := (i64_w _).trans hji42
    by_cases c43 : 0 ≤ (ji42)
    rotate_left
    · rw [if_neg c43] at H
      exact absurd H (by simp)
    rw [if_pos c43] at H
    have c43b0 := eq_true c43
    have c43b1 : decide (0 ≤ (ji42)) = true := decide_eq_true c43
    clear c43
    obtain ⟨ji44, hji44⟩ : ∃ j_ : Int, (shl .u8 ((Go.bits .and .u64 a1 1) % 256) (ji42)) = j_ := ⟨_, rfl⟩
    replace H : (some ((s0_0.set ((ji39) : Int).toNat (Go.bits .or .u8 (rd s0_0 (ji39)) (ji44))), wrap64 (s0_1 + 1), true)) = some (r1, r2, r3) := by first | (rw [hji44] at H; exact H) | (simp only [hji44] at H ⊢; exact H)
    have hji44_ : (IntKind.u8.wrap (((Go.bits .and .u64 a1 1) % 256) * 2 ^ min (ji42).toNat 8)) = ji44 := hji44
    have hji44v : (((Go.bits .and .u64 a1 1) % 256) * 2 ^ min (ji42).toNat 8) % 256 = ji44 := (IntKind.wrap_u8 _).symm.trans hji44_
    have hji44z : (ji42) ≤ 8 → (IntKind.u8.wrap (((Go.bits .and .u64 a1 1) % 256) * 2 ^ (ji42).toNat)) = ji44 := shl_small hji44
    obtain ⟨y147, hy147⟩ : ∃ y_ : List Int, y_ = (s0_0.set ((ji39) : Int).toNat (Go.bits .or .u8 (rd s0_0 (ji39)) (ji44))) := ⟨_, rfl⟩
    replace H : (some (y147, wrap64 (s0_1 + 1), true)) = some (r1, r2, r3) := by first | (rw [hy147]; with_reducible exact H) | (have H2_ := (Option.bind_some _ _).symm.trans H; rw [hy147]; with_reducible exact H2_) | (have H2_ := (Option.bind_some _ _).symm.trans H; with_reducible exact H2_) | with_reducible exact H | (rw [hy147]; exact H) | exact H
    have Ny147 := Aside0.mk hy147
    clear hy147
    simp only [Option.some.injEq, Prod.mk.injEq] at H
    obtain ⟨rfl, rfl, rfl⟩ := H
    have hcz46_0 : wa.cell? ⟨g, 0, none⟩ = some (u900_) := (blk_cell BK0.out 0).trans rfl
    have hcz46_1 : wa.cell? ⟨g, 1, none⟩ = some (.int .i64 s0_1) := (blk_cell BK0.out 1).trans rfl
    have hcz46_2 : wa.cell? ⟨g, 2, none⟩ = some (.bool true) := (blk_cell BK0.out 2).trans rfl
    have hfz46_0 := blk_frozen BK0.out 0
    have hfz46_1 := blk_frozen BK0.out 1
    have hfz46_2 := blk_frozen BK0.out 2
    go_enter Try.func132, Try.ntmps132
    try go_wp2
    have n0_ := Aside0.mk (Kd.R_drew HOb0.out)
    have n1_ := Aside0.mk (blk_drew BK0.out)
    have n2_ := Aside0.mk (below_drew1 HB.out)
    clear HOb0
    clear BK0
    clear HB
    have HOb0 := n0_
    have BK0 := n1_
    have HB := n2_
    clear n0_ n1_ n2_
    obtain ⟨Ao48, co48, eo48⟩ := Kd.R_slice HOb0.out
    (first | subst eo48 | (injection eo48 with f1_ f2_ f3_; have f4_ := f1_.symm; have f5_ := f3_.symm; clear f1_ f2_ f3_; subst f4_; subst f5_))
    have p146 : 0 ≤ ((ji39) : Int) := of_decide_eq_true (by first | (with_reducible assumption) | assumption)
    have q146 : (ji39) < (s0_0.length : Int) := of_decide_eq_true (by first | (with_reducible assumption) | assumption)
    obtain ⟨ad146, e146, hx146_0⟩ := Kd.at_int (Kd.R_reads' HOb0.out).2.2 (ji39) p146 q146
    cases e146
    replace p146 := eq_true p146
    replace q146 := eq_true q146
    have p45 : 0 ≤ ((ji39) : Int) := of_decide_eq_true (by first | (with_reducible assumption) | assumption)
    have q45 : ((ji39) : Int) < ((s0_0.length : Int) : Int) := of_decide_eq_true (by first | (with_reducible assumption) | assumption)
    obtain ⟨go45, co45, eo45, gb45, gl45, cl45, HG45⟩ := Kd.R_form HOb0.out (by omega)
    (first | cases eo45 | (injection eo45 with ea_ en_ ec_; (first | subst ea_ | (injection ea_ with ea_; subst ea_)); subst ec_; clear en_))
    have GB45 := Aside0.mk gb45
    have GG45 := Aside0.mk HG45
    clear gb45 gl45 HG45
    (first | simp only [add_plain] at hx146_0 | skip)
    obtain ⟨hx45_0, hf45_0⟩ := Kd.R_celln 0 HOb0.out ((ji39) : Int) p45 q45
    replace p45 := eq_true p45
    replace q45 := eq_true q45
    have HP49 := Kd.R_putn HOb0.out ((ji39) : Int) (Go.bits .or .u8 (rd s0_0 (ji39)) (ji44))
    rw [← Ny147.out] at HP49
    have HQ49 := Aside0.mk HP49
    clear HP49
    refine start_ (n := 19) (S := fun w' => w'.cell? ⟨g, 0, none⟩ = some (.slice (some ⟨go45, 0, none⟩) s0_0.length co48) ∧ w'.cell? ⟨g, 1, none⟩ = some (.int .i64 s0_1) ∧ w'.cell? ⟨g, 2, none⟩ = some (.bool true) ∧ w'.cell? ⟨go45, ((ji39)).toNat, none⟩ = some (.int .u8 (rd s0_0 (ji39)))) (ds := [18]) #[false, false, false, false, false, false, false, false, false, false, false, false, false, false, false, false, false, false, false] (by kernel_rfl) rfl rfl ⟨(blk_cell BK0.out 0).trans rfl, (blk_cell BK0.out 1).trans rfl, (blk_cell BK0.out 2).trans rfl, hx146_0⟩ (fun hHeld => ?_); refine with_tabW impl_bitsOut_bit.tab5 impl_bitsOut_bit.bits5 (fun HT_ HW_ => ?_)
    generalize wa.drew = w47 at HOb0 BK0 HB GG45 HQ49 hf45_0 hx146_0 hx45_0 hHeld ⊢
    refine pure_ (i := 0) (N := some 31) (v := ?_) (a' := ?_) #[true, false, false, false, false, false, false, false, false, false, false, false, false, false, false, false, false, false, false] rfl rfl (any_of HT_.out (by kernel_rfl)) (fun _ _ _ h => h) (Or.inl ⟨by rfl, ?_⟩) ?_ ?_
    rotate_left
    · intro w'
      go_simp
      with_reducible rfl
    rotate_left
    · simp only [Act.put, List.setIfInBounds_toArray, List.set_cons_zero, List.set_cons_succ, i64_w, i32_w]
      rfl
    refine pure_ (i := 1) (N := some 32) (v := ?_) (a' := ?_) #[true, true, false, false, false, false, false, false, false, false, false, false, false, false, false, false, false, false, false] rfl rfl (any_of HT_.out (by kernel_rfl)) (fun _ _ _ h => h) (Or.inl ⟨by rfl, ?_⟩) ?_ ?_
    rotate_left
    · intro w'
      go_simp
      with_reducible rfl
    rotate_left
    · simp only [Act.put, List.setIfInBounds_toArray, List.set_cons_zero, List.set_cons_succ, i64_w, i32_w]
      rfl
    refine pure_ (i := 2) (N := some 33) (v := ?_) (a' := ?_) #[true, true, true, false, false, false, false, false, false, false, false, false, false, false, false, false, false, false, false] rfl rfl (any_of HT_.out (by kernel_rfl)) (fun _ _ _ h => h) (Or.inl ⟨by rfl, ?_⟩) ?_ ?_
    rotate_left
    · intro w'
      go_simp
      with_reducible rfl
    rotate_left
    · simp only [Act.put, List.setIfInBounds_toArray, List.set_cons_zero, List.set_cons_succ, i64_w, i32_w]
      rfl
    refine pure_ (i := 4) (N := some 35) (v := ?_) (a' := ?_) #[true, true, true, false, true, false, false, false, false, false, false, false, false, false, false, false, false, false, false] rfl rfl (any_of HT_.out (by kernel_rfl)) (fun _ _ _ h => h) (Or.inl ⟨by rfl, ?_⟩) ?_ ?_
    rotate_left
    · intro w'
      go_simp
      with_reducible rfl
    rotate_left
    · simp only [Act.put, List.setIfInBounds_toArray, List.set_cons_zero, List.set_cons_succ, i64_w, i32_w]
      rfl
    refine pure_ (i := 5) (N := some 36) (v := ?_) (a' := ?_) #[true, true, true, false, true, true, false, false, false, false, false, false, false, false, false, false, false, false, false] rfl rfl (any_of HT_.out (by kernel_rfl)) (fun _ _ _ h => h) (Or.inl ⟨by rfl, ?_⟩) ?_ ?_
    rotate_left
    · intro w'
      go_simp
      with_reducible rfl
    rotate_left
    · simp only [Act.put, List.setIfInBounds_toArray, List.set_cons_zero, List.set_cons_succ, i64_w, i32_w]
      rfl
    refine pure_ (i := 6) (N := some 37) (v := ?_) (a' := ?_) #[true, true, true, false, true, true, true, false, false, false, false, false, false, false, false, false, false, false, false] rfl rfl (any_of HT_.out (by kernel_rfl)) (fun _ _ _ h => h) (Or.inl ⟨by rfl, ?_⟩) ?_ ?_
    rotate_left
    · intro w'
      go_simp
      with_reducible rfl
    rotate_left
    · simp only [Act.put, List.setIfInBounds_toArray, List.set_cons_zero, List.set_cons_succ, i64_w, i32_w]
      rfl
    refine pure_ (i := 11) (N := some 42) (v := ?_) (a' := ?_) #[true, true, true, false, true, true, true, false, false, false, false, true, false, false, false, false, false, false, false] rfl rfl (any_of HT_.out (by kernel_rfl)) (fun _ _ _ h => h) (Or.inl ⟨by rfl, ?_⟩) ?_ ?_
    rotate_left
    · intro w'
      go_simp
      with_reducible rfl
    rotate_left
    · simp only [Act.put, List.setIfInBounds_toArray, List.set_cons_zero, List.set_cons_succ, i64_w, i32_w]
      rfl
    refine pure_ (i := 12) (N := some 43) (v := ?_) (a' := ?_) #[true, true, true, false, true, true, true, false, false, false, false, true, true, false, false, false, false, false, false] rfl rfl (any_of HT_.out (by kernel_rfl)) (fun _ _ _ h => h) (Or.inl ⟨by rfl, ?_⟩) ?_ ?_
    rotate_left
    · intro w'
      go_simp
      with_reducible rfl
    rotate_left
    · simp only [Act.put, List.setIfInBounds_toArray, List.set_cons_zero, List.set_cons_succ, i64_w, i32_w]
      rfl
    refine pure_ (i := 13) (N := some 44) (v := ?_) (a' := ?_) #[true, true, true, false, true, true, true, false, false, false, false, true, true, true, false, false, false, false, false] rfl rfl (any_of HT_.out (by kernel_rfl)) (fun _ _ _ h => h) (Or.inl ⟨by rfl, ?_⟩) ?_ ?_
    rotate_left
    · intro w'
      go_simp
      with_reducible rfl
    rotate_left
    · simp only [Act.put, List.setIfInBounds_toArray, List.set_cons_zero, List.set_cons_succ, i64_w, i32_w]
      rfl
    refine pure_ (i := 14) (N := some 45) (v := ?_) (a' := ?_) #[true, true, true, false, true, true, true, false, false, false, false, true, true, true, true, false, false, false, false] rfl rfl (any_of HT_.out (by kernel_rfl)) (fun _ _ _ h => h) (Or.inl ⟨by rfl, ?_⟩) ?_ ?_
    rotate_left
    · intro w'
      go_simp
      with_reducible rfl
    rotate_left
    · simp only [Act.put, List.setIfInBounds_toArray, List.set_cons_zero, List.set_cons_succ, i64_w, i32_w]
      rfl
    refine pure_ (i := 15) (N := some 46) (v := ?_) (a' := ?_) #[true, true, true, false, true, true, true, false, false, false, false, true, true, true, true, true, false, false, false] rfl rfl (any_of HT_.out (by kernel_rfl)) (fun _ _ _ h => h) (Or.inl ⟨by rfl, ?_⟩) ?_ ?_
    rotate_left
    · intro w'
      go_simp
      with_reducible rfl
    rotate_left
    · simp only [Act.put, List.setIfInBounds_toArray, List.set_cons_zero, List.set_cons_succ, i64_w, i32_w]
      rfl
    refine take_ (i := 3) (N := some 34) (v := ?_) (a' := ?_) #[true, true, true, true, true, true, true, false, false, false, false, true, true, true, true, true, false, false, false] rfl rfl (take_ofW HT_.out HW_.out (by kernel_rfl)) (fun _ _ _ h => h) (Or.inl ⟨by rfl, ?_⟩) hHeld ?_ ?_
    rotate_left
    · rintro w' ⟨s0, s1, s2, s3⟩
      go_simp
      with_reducible rfl
    rotate_left
    · simp only [Act.put, List.setIfInBounds_toArray, List.set_cons_zero, List.set_cons_succ, i64_w, i32_w]
      rfl
    refine take_ (i := 7) (N := some 38) (v := ?_) (a' := ?_) #[true, true, true, true, true, true, true, true, false, false, false, true, true, true, true, true, false, false, false] rfl rfl (take_ofW HT_.out HW_.out (by kernel_rfl)) (fun _ _ _ h => h) (Or.inl ⟨by rfl, ?_⟩) hHeld ?_ ?_
    rotate_left
    · rintro w' ⟨s0, s1, s2, s3⟩
      go_simp
      with_reducible rfl
    rotate_left
    · simp only [Act.put, List.setIfInBounds_toArray, List.set_cons_zero, List.set_cons_succ, i64_w, i32_w]
      rfl
    refine pure_ (i := 8) (N := some 39) (v := ?_) (a' := ?_) #[true, true, true, true, true, true, true, true, true, false, false, true, true, true, true, true, false, false, false] rfl rfl (any_of HT_.out (by kernel_rfl)) (fun _ _ _ h => h) (Or.inl ⟨by rfl, ?_⟩) ?_ ?_
    rotate_left
    · intro w'
      go_simp
      with_reducible rfl
    rotate_left
    · simp only [Act.put, List.setIfInBounds_toArray, List.set_cons_zero, List.set_cons_succ, i64_w, i32_w]
      rfl
    refine pure_ (i := 9) (N := some 40) (v := ?_) (a' := ?_) #[true, true, true, true, true, true, true, true, true, true, false, true, true, true, true, true, false, false, false] rfl rfl (any_of HT_.out (by kernel_rfl)) (fun _ _ _ h => h) (Or.inl ⟨by rfl, ?_⟩) ?_ ?_
    rotate_left
    · intro w'
      go_simp
      with_reducible rfl
    rotate_left
    · simp only [Act.put, List.setIfInBounds_toArray, List.set_cons_zero, List.set_cons_succ, i64_w, i32_w]
      rfl
    refine take_ (i := 10) (N := some 41) (v := ?_) (a' := ?_) #[true, true, true, true, true, true, true, true, true, true, true, true, true, true, true, true, false, false, false] rfl rfl (take_ofW HT_.out HW_.out (by kernel_rfl)) (fun _ _ _ h => h) (Or.inl ⟨by rfl, ?_⟩) hHeld ?_ ?_
    rotate_left
    · rintro w' ⟨s0, s1, s2, s3⟩
      go_simp
      with_reducible rfl
    rotate_left
    · simp only [Act.put, List.setIfInBounds_toArray, List.set_cons_zero, List.set_cons_succ, i64_w, i32_w]
      rfl
    refine pure_ (i := 16) (N := some 47) (v := ?_) (a' := ?_) #[true, true, true, true, true, true, true, true, true, true, true, true, true, true, true, true, true, false, false] rfl rfl (any_of HT_.out (by kernel_rfl)) (fun _ _ _ h => h) (Or.inl ⟨by rfl, ?_⟩) ?_ ?_
    rotate_left
    · intro w'
      go_simp
      with_reducible rfl
    rotate_left
    · simp only [Act.put, List.setIfInBounds_toArray, List.set_cons_zero, List.set_cons_succ, i64_w, i32_w]
      rfl
    refine pure_ (i := 17) (N := some 48) (v := ?_) (a' := ?_) #[true, true, true, true, true, true, true, true, true, true, true, true, true, true, true, true, true, true, false] rfl rfl (any_of HT_.out (by kernel_rfl)) (fun _ _ _ h => h) (Or.inl ⟨by rfl, ?_⟩) ?_ ?_
    rotate_left
    · intro w'
      go_simp
      with_reducible rfl
    rotate_left
    · simp only [Act.put, List.setIfInBounds_toArray, List.set_cons_zero, List.set_cons_succ, i64_w, i32_w]
      rfl
    refine last_ (i := 18) (N := none) #[true, true, true, true, true, true, true, true, true, true, true, true, true, true, true, true, true, true, true] rfl rfl (one_of HT_.out (by kernel_rfl)) (by decide) (fun K hK => ?_)
    refine skip_ (w1 := ?_) (by rfl) rfl ?_ ?_
    rotate_left
    · go_simp
      rfl
    refine hK.out _ _ ?_
    clear hK K
    refine done_ (done_of HT_.out (by kernel_rfl)) ?_
    have n0_ : Aside0 (Kd.R (Kd.int .u8) 5 (w47.setCell ⟨go45, ((ji39) : Int).toNat, none⟩ (.int .u8 (Go.bits .or .u8 (rd s0_0 (ji39)) (ji44)))) w.heap.size (fun _ => True) (.slice (some ⟨go45, 0, none⟩) s0_0.length co48) y147) := ⟨by (with_reducible repeat (first | apply Kd.R_alloc | apply Kd.R_drewN | apply Kd.R_drew)); exact HQ49.out⟩
    have n1_ : Aside0 ((w47.setCell ⟨go45, ((ji39) : Int).toNat, none⟩ (.int .u8 (Go.bits .or .u8 (rd s0_0 (ji39)) (ji44)))).heap[g]? = some (.cells #[.slice (some ⟨go45, 0, none⟩) s0_0.length co48, .int .i64 s0_1, .bool true] 100 (0, 0))) := ⟨by (with_reducible repeat (first | refine blk_drewN ?_ _ | refine blk_drew ?_ | refine blk_alloc ?_ _)); refine blk_far ?_ (by have h_ := Kd.R_ne HOb0.out BK0.out (by decide); intro e_; exact h_ (by rw [e_]; rfl)) _; (with_reducible repeat (first | refine blk_drewN ?_ _ | refine blk_drew ?_ | refine blk_alloc ?_ _)); exact BK0.out⟩
    have n2_ : Aside0 (Below w.heap.size w (w47.setCell ⟨go45, ((ji39) : Int).toNat, none⟩ (.int .u8 (Go.bits .or .u8 (rd s0_0 (ji39)) (ji44))))) := ⟨by repeat (first | (with_reducible first | exact HB.out | apply below_alloc | apply pw_below_drewN | apply below_drew1 | refine below_set ?_ GB45.out | refine below_set ?_ GE0.out) | exact HB.out)⟩
    (try clear HOb0)
    (try clear BK0)
    (try clear HB)
    (try simp only [IntKind.wrap_u8, hji44v])
    (try (have hji44y := (IntKind.wrap_u8 _).symm.trans (hji44z (by first | omega | (have h_ := Int.tmod_lt_of_pos s0_1 (show (0 : Int) < 8 by decide); omega))); simp only [IntKind.wrap_u8, hji44y]))
    generalize (w47.setCell ⟨go45, ((ji39) : Int).toNat, none⟩ (.int .u8 (Go.bits .or .u8 (rd s0_0 (ji39)) (ji44)))) = w50 at n0_ n1_ n2_ ⊢
    have HOb0 := n0_
    have BK0 := n1_
    have HB := n2_
    clear n0_ n1_ n2_
    have hcz51_0 : w50.cell? ⟨g, 0, none⟩ = some (.slice (some ⟨go45, 0, none⟩) s0_0.length co48) := (blk_cell BK0.out 0).trans rfl
    have hcz51_1 : w50.cell? ⟨g, 1, none⟩ = some (.int .i64 s0_1) := (blk_cell BK0.out 1).trans rfl
    have hcz51_2 : w50.cell? ⟨g, 2, none⟩ = some (.bool true) := (blk_cell BK0.out 2).trans rfl
    have hfz51_0 := blk_frozen BK0.out 0
    have hfz51_1 := blk_frozen BK0.out 1
    have hfz51_2 := blk_frozen BK0.out 2
    try go_wp2
    first | go_end0 | ((try simp only [Exit.inBlock, Exit.then]); refine bodyPost_ret (results_none rfl _ _ _) rfl ?_)
    exact ⟨_, by first | rfl | (simp; done), by (with_reducible repeat (first | refine blk_drewN ?_ _ | refine blk_drew ?_ | refine blk_alloc ?_ _)); refine blk_put (cs := #[.slice (some ⟨go45, 0, none⟩) s0_0.length co48, .int .i64 s0_1, .bool true]) ?_ 1 _ rfl; (with_reducible repeat (first | refine blk_drewN ?_ _ | refine blk_drew ?_ | refine blk_alloc ?_ _)); exact BK0.out, Kd.R_mono (by (with_reducible repeat (first | apply Kd.R_alloc | apply Kd.R_drewN | apply Kd.R_drew)); exact (Kd.R_mono (Kd.R_far (p := ⟨g, 1, none⟩) (Kd.R_types HOb0.out BK0.out (by decide)) (fun _ hk => hk.2) (.int .i64 (wrap64 (s0_1 + 1)))) (fun _ h_ => h_.1))) (fun _ _ => trivial), by repeat (first | (with_reducible first | exact HB.out | apply below_alloc | apply pw_below_drewN | apply below_drew1 | refine below_set ?_ GE0.out) | exact HB.out)⟩
  rw [if_pos c3] at H
  have c3b0 : ((Int.tmod s0_1 8) == 0) = true := beq_iff_eq.mpr c3
  have c3b1 : ((Int.tmod s0_1 8) != 0) = false := bne_eq_false_iff_eq.mpr c3
  clear c3
  by_cases c4 : s0_0.length < 140737488355328
  rotate_left
  · rw [if_neg c4] at H
    exact absurd H (by simp)
  rw [if_pos c4] at H
  have LMc4 := Aside0.mk c4
  clear c4
  obtain ⟨y139, hy139⟩ : ∃ y_ : List Int, y_ = (s0_0 ++ [0]) := ⟨_, rfl⟩
  replace H : (if s0_2 = true then (if 0 ≤ (wrap64 (Int.tdiv s0_1 8)) then (if (wrap64 (Int.tdiv s0_1 8)) < (y139.length : Int) then (if 0 ≤ (wrap64 (7 - (Int.tmod s0_1 8))) then (some ((y139.set ((wrap64 (Int.tdiv s0_1 8)) : Int).toNat (Go.bits .or .u8 (rd y139 (wrap64 (Int.tdiv s0_1 8))) (shl .u8 ((Go.bits .and .u64 a1 1) % 256) (wrap64 (7 - (Int.tmod s0_1 8)))))), wrap64 (s0_1 + 1), s0_2)) else (none)) else (none)) else (none)) else (if 0 ≤ (wrap64 (Int.tdiv s0_1 8)) then (if (wrap64 (Int.tdiv s0_1 8)) < (y139.length : Int) then (if 0 ≤ (Int.tmod s0_1 8) then (some ((y139.set ((wrap64 (Int.tdiv s0_1 8)) : Int).toNat (Go.bits .or .u8 (rd y139 (wrap64 (Int.tdiv s0_1 8))) (shl .u8 ((Go.bits .and .u64 a1 1) % 256) (Int.tmod s0_1 8)))), wrap64 (s0_1 + 1), s0_2)) else (none)) else (none)) else (none))) = some (r1, r2, r3) := by first | (rw [hy139]; with_reducible exact H) | (have H2_ := (Option.bind_some _ _).symm.trans H; rw [hy139]; with_reducible exact H2_) | (have H2_ := (Option.bind_some _ _).symm.trans H; with_reducible exact H2_) | with_reducible exact H | (rw [hy139]; exact H) | exact H
  have Ny139 := Aside0.mk hy139
  clear hy139
  by_cases c5 : s0_2 = true
  · subst c5
    have H1 : (if 0 ≤ (wrap64 (Int.tdiv s0_1 8)) then (if (wrap64 (Int.tdiv s0_1 8)) < (y139.length : Int) then (if 0 ≤ (wrap64 (7 - (Int.tmod s0_1 8))) then (some ((y139.set ((wrap64 (Int.tdiv s0_1 8)) : Int).toNat (Go.bits .or .u8 (rd y139 (wrap64 (Int.tdiv s0_1 8))) (shl .u8 ((Go.bits .and .u64 a1 1) % 256) (wrap64 (7 - (Int.tmod s0_1 8)))))), wrap64 (s0_1 + 1), true)) else (none)) else (none)) else (none)) = some (r1, r2, r3) := by rw [if_pos rfl] at H; exact H
    clear H
    have H := H1
    clear H1
    obtain ⟨ji6, hji6⟩ : ∃ j_ : Int, (wrap64 (Int.tdiv s0_1 8)) = j_ := ⟨_, rfl⟩
    replace H : (if 0 ≤ (ji6) then (if (ji6) < (y139.length : Int) then (if 0 ≤ (wrap64 (7 - (Int.tmod s0_1 8))) then (some ((y139.set ((ji6) : Int).toNat (Go.bits .or .u8 (rd y139 (ji6)) (shl .u8 ((Go.bits .and .u64 a1 1) % 256) (wrap64 (7 - (Int.tmod s0_1 8)))))), wrap64 (s0_1 + 1), true)) else (none)) else (none)) else (none)) = some (r1, r2, r3) := by first | (rw [hji6] at H; exact H) | (simp only [hji6] at H ⊢; exact H)
    have hji6w : (IntKind.i64.wrap (Int.tdiv s0_1 8)) = ji6 := (i64_w _).trans hji6
    by_cases c7 : 0 ≤ (ji6)
    rotate_left
    · rw [if_neg c7] at H
      exact absurd H (by simp)
    rw [if_pos c7] at H
    have c7b0 : decide (0 ≤ (ji6)) = true := decide_eq_true c7
    clear c7
    by_cases c8 : (ji6) < (y139.length : Int)
    rotate_left
    · rw [if_neg c8] at H
      exact absurd H (by simp)
    rw [if_pos c8] at H
    have c8b0 : decide ((ji6) < (y139.length : Int)) = true := decide_eq_true c8
    clear c8
    obtain ⟨ji9, hji9⟩ : ∃ j_ : Int, (wrap64 (7 - (Int.tmod s0_1 8))) = j_ := ⟨_, rfl⟩
    replace H : (if 0 ≤ (ji9) then (some ((y139.set ((ji6) : Int).toNat (Go.bits .or .u8 (rd y139 (ji6)) (shl .u8 ((Go.bits .and .u64 a1 1) % 256) (ji9)))), wrap64 (s0_1 + 1), true)) else (none)) = some (r1, r2, r3) := by first | (rw [hji9] at H; exact H) | (simp only [hji9] at H ⊢; exact H)
    have hji9w : (IntKind.i64.wrap (7 - (Int.tmod s0_1 8))) = ji9 := (i64_w _).trans hji9
    by_cases c10 : 0 ≤ (ji9)
    rotate_left
    · rw [if_neg c10] at H
      exact absurd H (by simp)
    rw [if_pos c10] at H
    have c10b0 := eq_true c10
    have c10b1 : decide (0 ≤ (ji9)) = true := decide_eq_true c10
    clear c10
    obtain ⟨ji11, hji11⟩ : ∃ j_ : Int, (shl .u8 ((Go.bits .and .u64 a1 1) % 256) (ji9)) = j_ := ⟨_, rfl⟩
    replace H : (some ((y139.set ((ji6) : Int).toNat (Go.bits .or .u8 (rd y139 (ji6)) (ji11))), wrap64 (s0_1 + 1), true)) = some (r1, r2, r3) := by first | (rw [hji11] at H; exact H) | (simp only [hji11] at H ⊢; exact H)
    have hji11_ : (IntKind.u8.wrap (((Go.bits .and .u64 a1 1) % 256) * 2 ^ min (ji9).toNat 8)) = ji11 := hji11
    have hji11v : (((Go.bits .and .u64 a1 1) % 256) * 2 ^ min (ji9).toNat 8) % 256 = ji11 := (IntKind.wrap_u8 _).symm.trans hji11_
    have hji11z : (ji9) ≤ 8 → (IntKind.u8.wrap (((Go.bits .and .u64 a1 1) % 256) * 2 ^ (ji9).toNat)) = ji11 := shl_small hji11
    obtain ⟨y143, hy143⟩ : ∃ y_ : List Int, y_ = (y139.set ((ji6) : Int).toNat (Go.bits .or .u8 (rd y139 (ji6)) (ji11))) := ⟨_, rfl⟩
    replace H : (some (y143, wrap64 (s0_1 + 1), true)) = some (r1, r2, r3) := by first | (rw [hy143]; with_reducible exact H) | (have H2_ := (Option.bind_some _ _).symm.trans H; rw [hy143]; with_reducible exact H2_) | (have H2_ := (Option.bind_some _ _).symm.trans H; with_reducible exact H2_) | with_reducible exact H | (rw [hy143]; exact H) | exact H
    have Ny143 := Aside0.mk hy143
    clear hy143
    simp only [Option.some.injEq, Prod.mk.injEq] at H
    obtain ⟨rfl, rfl, rfl⟩ := H
    have hcz13_0 : wa.cell? ⟨g, 0, none⟩ = some (u900_) := (blk_cell BK0.out 0).trans rfl
    have hcz13_1 : wa.cell? ⟨g, 1, none⟩ = some (.int .i64 s0_1) := (blk_cell BK0.out 1).trans rfl
    have hcz13_2 : wa.cell? ⟨g, 2, none⟩ = some (.bool true) := (blk_cell BK0.out 2).trans rfl
    have hfz13_0 := blk_frozen BK0.out 0
    have hfz13_1 := blk_frozen BK0.out 1
    have hfz13_2 := blk_frozen BK0.out 2
    go_enter Try.func132, Try.ntmps132
    try go_wp2_with (first | ((with_reducible refine gate_builtin (b := .append) (xs := #[.tmp 15, .tmp 16]) rfl ?_); at_builtin; refine Kd.R_append (Kd.int .u8) (w0 := w) w.heap.size rfl (.tmp 15) (.tmp 16) 23 5 (.int .u8 0) 1 rfl Try.underlying23 info5 rfl (by decide) (by omega) u900_ s0_0 0 [.int .u8 0] (fun _ => True) (fun _ => False) rfl rfl ?aP (fun _ hk => hk.elim) ?aF ?aO ?aB ?aS ?aL ?_; (case aP => exact rfl); (case aB => exact (by repeat (first | (with_reducible first | exact HB.out | apply below_alloc | apply pw_below_drewN | apply below_drew1 | refine below_set ?_ GE0.out) | exact HB.out))); (case aF => exact (fun _ _ => trivial)); (case aO => exact (by (with_reducible repeat (first | apply Kd.R_alloc | apply Kd.R_drewN | apply Kd.R_drew)); exact HOb0.out)); (case aS => exact (below_size (by repeat (first | (with_reducible first | exact HB.out | apply below_alloc | apply pw_below_drewN | apply below_drew1 | refine below_set ?_ GE0.out) | exact HB.out)))); (case aL => have := LMc4.out; omega); intro v140 w14 ho hb hg hat; rw [← Ny139.out] at ho; have n0_ := Aside0.mk (blk_grown (g := g) (o := .cells #[u900_, .int .i64 s0_1, .bool true] 100 (0, 0)) (by (with_reducible repeat (first | refine blk_drewN ?_ _ | refine blk_drew ?_ | refine blk_alloc ?_ _)); exact BK0.out) hg (Kd.R_ne HOb0.out BK0.out (by decide))); have n1_ := Aside0.mk (hb); have n2_ := Aside0.mk (ho); clear BK0; clear HB; clear HOb0; have BK0 := n0_; have HB := n1_; have HO141 := n2_; clear n0_ n1_ n2_; clear ho hb hg hat; obtain ⟨Ao15, co15, eo15⟩ := Kd.R_slice HO141.out; subst eo15; have hcz16_0 : w14.cell? ⟨g, 0, none⟩ = some (u900_) := (blk_cell BK0.out 0).trans rfl; have hcz16_1 : w14.cell? ⟨g, 1, none⟩ = some (.int .i64 s0_1) := (blk_cell BK0.out 1).trans rfl; have hcz16_2 : w14.cell? ⟨g, 2, none⟩ = some (.bool true) := (blk_cell BK0.out 2).trans rfl; have hfz16_0 := blk_frozen BK0.out 0; have hfz16_1 := blk_frozen BK0.out 1; have hfz16_2 := blk_frozen BK0.out 2))
    have n0_ : Aside0 (Kd.R (Kd.int .u8) 5 (w14.setCell ⟨g, 0, none⟩ (.slice Ao15 y139.length co15)) w.heap.size (fun _ => True) (.slice Ao15 y139.length co15) y139) := ⟨by (with_reducible repeat (first | apply Kd.R_alloc | apply Kd.R_drewN | apply Kd.R_drew)); exact Kd.R_mono (Kd.R_far (p := ⟨g, 0, none⟩) (Kd.R_types HO141.out BK0.out (by decide)) (fun _ hk => hk.2) (.slice Ao15 y139.length co15)) (fun _ hk => trivial)⟩
    have n1_ : Aside0 ((w14.setCell ⟨g, 0, none⟩ (.slice Ao15 y139.length co15)).heap[g]? = some (.cells #[.slice Ao15 y139.length co15, .int .i64 s0_1, .bool true] 100 (0, 0))) := ⟨by (with_reducible repeat (first | refine blk_drewN ?_ _ | refine blk_drew ?_ | refine blk_alloc ?_ _)); refine blk_put (cs := #[u900_, .int .i64 s0_1, .bool true]) ?_ 0 _ rfl; (with_reducible repeat (first | refine blk_drewN ?_ _ | refine blk_drew ?_ | refine blk_alloc ?_ _)); exact BK0.out⟩
    have n2_ : Aside0 (Below w.heap.size w (w14.setCell ⟨g, 0, none⟩ (.slice Ao15 y139.length co15))) := ⟨by repeat (first | (with_reducible first | exact HB.out | apply below_alloc | apply pw_below_drewN | apply below_drew1 | refine below_set ?_ GE0.out) | exact HB.out)⟩
    (try clear HO141)
    (try clear BK0)
    (try clear HB)
    generalize (w14.setCell ⟨g, 0, none⟩ (.slice Ao15 y139.length co15)) = w17 at n0_ n1_ n2_ ⊢
    have HO141 := n0_
    have BK0 := n1_
    have HB := n2_
    clear n0_ n1_ n2_
    have n0_ := Aside0.mk (Kd.R_drew HO141.out)
    have n1_ := Aside0.mk (blk_drew BK0.out)
    have n2_ := Aside0.mk (below_drew1 HB.out)
    clear HO141
    clear BK0
    clear HB
    have HO141 := n0_
    have BK0 := n1_
    have HB := n2_
    clear n0_ n1_ n2_
    have p142 : 0 ≤ ((ji6) : Int) := of_decide_eq_true (by first | (with_reducible assumption) | assumption)
    have q142 : (ji6) < (y139.length : Int) := of_decide_eq_true (by first | (with_reducible assumption) | assumption)
    obtain ⟨ad142, e142, hx142_0⟩ := Kd.at_int (Kd.R_reads' HO141.out).2.2 (ji6) p142 q142
    cases e142
    replace p142 := eq_true p142
    replace q142 := eq_true q142
    have p12 : 0 ≤ ((ji6) : Int) := of_decide_eq_true (by first | (with_reducible assumption) | assumption)
    have q12 : ((ji6) : Int) < ((y139.length : Int) : Int) := of_decide_eq_true (by first | (with_reducible assumption) | assumption)
    obtain ⟨go12, co12, eo12, gb12, gl12, cl12, HG12⟩ := Kd.R_form HO141.out (by omega)
    (first | cases eo12 | (injection eo12 with ea_ en_ ec_; (first | subst ea_ | (injection ea_ with ea_; subst ea_)); subst ec_; clear en_))
    have GB12 := Aside0.mk gb12
    have GG12 := Aside0.mk HG12
    clear gb12 gl12 HG12
    (first | simp only [add_plain] at hx142_0 | skip)
    obtain ⟨hx12_0, hf12_0⟩ := Kd.R_celln 0 HO141.out ((ji6) : Int) p12 q12
    replace p12 := eq_true p12
    replace q12 := eq_true q12
    have HP19 := Kd.R_putn HO141.out ((ji6) : Int) (Go.bits .or .u8 (rd y139 (ji6)) (ji11))
    rw [← Ny143.out] at HP19
    have HQ19 := Aside0.mk HP19
    clear HP19
    refine start_ (n := 19) (S := fun w' => w'.cell? ⟨g, 0, none⟩ = some (.slice (some ⟨go12, 0, none⟩) y139.length co15) ∧ w'.cell? ⟨g, 1, none⟩ = some (.int .i64 s0_1) ∧ w'.cell? ⟨g, 2, none⟩ = some (.bool true) ∧ w'.cell? ⟨go12, ((ji6)).toNat, none⟩ = some (.int .u8 (rd y139 (ji6)))) (ds := [18]) #[false, false, false, false, false, false, false, false, false, false, false, false, false, false, false, false, false, false, false] (by kernel_rfl) rfl rfl ⟨(blk_cell BK0.out 0).trans rfl, (blk_cell BK0.out 1).trans rfl, (blk_cell BK0.out 2).trans rfl, hx142_0⟩ (fun hHeld => ?_); refine with_tabW impl_bitsOut_bit.tab5 impl_bitsOut_bit.bits5 (fun HT_ HW_ => ?_)
    generalize w17.drew = w18 at HO141 BK0 HB GG12 HQ19 hf12_0 hx12_0 hx142_0 hHeld ⊢
    refine pure_ (i := 0) (N := some 31) (v := ?_) (a' := ?_) #[true, false, false, false, false, false, false, false, false, false, false, false, false, false, false, false, false, false, false] rfl rfl (any_of HT_.out (by kernel_rfl)) (fun _ _ _ h => h) (Or.inl ⟨by rfl, ?_⟩) ?_ ?_
    rotate_left
    · intro w'
      go_simp
      with_reducible rfl
    rotate_left
    · simp only [Act.put, List.setIfInBounds_toArray, List.set_cons_zero, List.set_cons_succ, i64_w, i32_w]
      rfl
    refine pure_ (i := 1) (N := some 32) (v := ?_) (a' := ?_) #[true, true, false, false, false, false, false, false, false, false, false, false, false, false, false, false, false, false, false] rfl rfl (any_of HT_.out (by kernel_rfl)) (fun _ _ _ h => h) (Or.inl ⟨by rfl, ?_⟩) ?_ ?_
    rotate_left
    · intro w'
      go_simp
      with_reducible rfl
    rotate_left
    · simp only [Act.put, List.setIfInBounds_toArray, List.set_cons_zero, List.set_cons_succ, i64_w, i32_w]
      rfl
    refine pure_ (i := 2) (N := some 33) (v := ?_) (a' := ?_) #[true, true, true, false, false, false, false, false, false, false, false, false, false, false, false, false, false, false, false] rfl rfl (any_of HT_.out (by kernel_rfl)) (fun _ _ _ h => h) (Or.inl ⟨by rfl, ?_⟩) ?_ ?_
    rotate_left
    · intro w'
      go_simp
      with_reducible rfl
    rotate_left
    · simp only [Act.put, List.setIfInBounds_toArray, List.set_cons_zero, List.set_cons_succ, i64_w, i32_w]
      rfl
    refine pure_ (i := 4) (N := some 35) (v := ?_) (a' := ?_) #[true, true, true, false, true, false, false, false, false, false, false, false, false, false, false, false, false, false, false] rfl rfl (any_of HT_.out (by kernel_rfl)) (fun _ _ _ h => h) (Or.inl ⟨by rfl, ?_⟩) ?_ ?_
    rotate_left
    · intro w'
      go_simp
      with_reducible rfl
    rotate_left
    · simp only [Act.put, List.setIfInBounds_toArray, List.set_cons_zero, List.set_cons_succ, i64_w, i32_w]
      rfl
    refine pure_ (i := 5) (N := some 36) (v := ?_) (a' := ?_) #[true, true, true, false, true, true, false, false, false, false, false, false, false, false, false, false, false, false, false] rfl rfl (any_of HT_.out (by kernel_rfl)) (fun _ _ _ h => h) (Or.inl ⟨by rfl, ?_⟩) ?_ ?_
    rotate_left
    · intro w'
      go_simp
      with_reducible rfl
    rotate_left
    · simp only [Act.put, List.setIfInBounds_toArray, List.set_cons_zero, List.set_cons_succ, i64_w, i32_w]
      rfl
    refine pure_ (i := 6) (N := some 37) (v := ?_) (a' := ?_) #[true, true, true, false, true, true, true, false, false, false, false, false, false, false, false, false, false, false, false] rfl rfl (any_of HT_.out (by kernel_rfl)) (fun _ _ _ h => h) (Or.inl ⟨by rfl, ?_⟩) ?_ ?_
    rotate_left
    · intro w'
      go_simp
      with_reducible rfl
    rotate_left
    · simp only [Act.put, List.setIfInBounds_toArray, List.set_cons_zero, List.set_cons_succ, i64_w, i32_w]
      rfl
    refine pure_ (i := 11) (N := some 42) (v := ?_) (a' := ?_) #[true, true, true, false, true, true, true, false, false, false, false, true, false, false, false, false, false, false, false] rfl rfl (any_of HT_.out (by kernel_rfl)) (fun _ _ _ h => h) (Or.inl ⟨by rfl, ?_⟩) ?_ ?_
    rotate_left
    · intro w'
      go_simp
      with_reducible rfl
    rotate_left
    · simp only [Act.put, List.setIfInBounds_toArray, List.set_cons_zero, List.set_cons_succ, i64_w, i32_w]
      rfl
    refine pure_ (i := 12) (N := some 43) (v := ?_) (a' := ?_) #[true, true, true, false, true, true, true, false, false, false, false, true, true, false, false, false, false, false, false] rfl rfl (any_of HT_.out (by kernel_rfl)) (fun _ _ _ h => h) (Or.inl ⟨by rfl, ?_⟩) ?_ ?_
    rotate_left
    · intro w'
      go_simp
      with_reducible rfl
    rotate_left
    · simp only [Act.put, List.setIfInBounds_toArray, List.set_cons_zero, List.set_cons_succ, i64_w, i32_w]
      rfl
    refine pure_ (i := 13) (N := some 44) (v := ?_) (a' := ?_) #[true, true, true, false, true, true, true, false, false, false, false, true, true, true, false, false, false, false, false] rfl rfl (any_of HT_.out (by kernel_rfl)) (fun _ _ _ h => h) (Or.inl ⟨by rfl, ?_⟩) ?_ ?_
    rotate_left
    · intro w'
      go_simp
      with_reducible rfl
    rotate_left
    · simp only [Act.put, List.setIfInBounds_toArray, List.set_cons_zero, List.set_cons_succ, i64_w, i32_w]
      rfl
    refine pure_ (i := 14) (N := some 45) (v := ?_) (a' := ?_) #[true, true, true, false, true, true, true, false, false, false, false, true, true, true, true, false, false, false, false] rfl rfl (any_of HT_.out (by kernel_rfl)) (fun _ _ _ h => h) (Or.inl ⟨by rfl, ?_⟩) ?_ ?_
    rotate_left
    · intro w'
      go_simp
      with_reducible rfl
    rotate_left
    · simp only [Act.put, List.setIfInBounds_toArray, List.set_cons_zero, List.set_cons_succ, i64_w, i32_w]
      rfl
    refine pure_ (i := 15) (N := some 46) (v := ?_) (a' := ?_) #[true, true, true, false, true, true, true, false, false, false, false, true, true, true, true, true, false, false, false] rfl rfl (any_of HT_.out (by kernel_rfl)) (fun _ _ _ h => h) (Or.inl ⟨by rfl, ?_⟩) ?_ ?_
    rotate_left
    · intro w'
      go_simp
      with_reducible rfl
    rotate_left
    · simp only [Act.put, List.setIfInBounds_toArray, List.set_cons_zero, List.set_cons_succ, i64_w, i32_w]
      rfl
    refine take_ (i := 3) (N := some 34) (v := ?_) (a' := ?_) #[true, true, true, true, true, true, true, false, false, false, false, true, true, true, true, true, false, false, false] rfl rfl (take_ofW HT_.out HW_.out (by kernel_rfl)) (fun _ _ _ h => h) (Or.inl ⟨by rfl, ?_⟩) hHeld ?_ ?_
    rotate_left
    · rintro w' ⟨s0, s1, s2, s3⟩
      go_simp
      with_reducible rfl
    rotate_left
    · simp only [Act.put, List.setIfInBounds_toArray, List.set_cons_zero, List.set_cons_succ, i64_w, i32_w]
      rfl
    refine take_ (i := 7) (N := some 38) (v := ?_) (a' := ?_) #[true, true, true, true, true, true, true, true, false, false, false, true, true, true, true, true, false, false, false] rfl rfl (take_ofW HT_.out HW_.out (by kernel_rfl)) (fun _ _ _ h => h) (Or.inl ⟨by rfl, ?_⟩) hHeld ?_ ?_
    rotate_left
    · rintro w' ⟨s0, s1, s2, s3⟩
      go_simp
      with_reducible rfl
    rotate_left
    · simp only [Act.put, List.setIfInBounds_toArray, List.set_cons_zero, List.set_cons_succ, i64_w, i32_w]
      rfl
    refine pure_ (i := 8) (N := some 39) (v := ?_) (a' := ?_) #[true, true, true, true, true, true, true, true, true, false, false, true, true, true, true, true, false, false, false] rfl rfl (any_of HT_.out (by kernel_rfl)) (fun _ _ _ h => h) (Or.inl ⟨by rfl, ?_⟩) ?_ ?_
    rotate_left
    · intro w'
      go_simp
      with_reducible rfl
    rotate_left
    · simp only [Act.put, List.setIfInBounds_toArray, List.set_cons_zero, List.set_cons_succ, i64_w, i32_w]
      rfl
    refine pure_ (i := 9) (N := some 40) (v := ?_) (a' := ?_) #[true, true, true, true, true, true, true, true, true, true, false, true, true, true, true, true, false, false, false] rfl rfl (any_of HT_.out (by kernel_rfl)) (fun _ _ _ h => h) (Or.inl ⟨by rfl, ?_⟩) ?_ ?_
    rotate_left
    · intro w'
      go_simp
      with_reducible rfl
    rotate_left
    · simp only [Act.put, List.setIfInBounds_toArray, List.set_cons_zero, List.set_cons_succ, i64_w, i32_w]
      rfl
    refine take_ (i := 10) (N := some 41) (v := ?_) (a' := ?_) #[true, true, true, true, true, true, true, true, true, true, true, true, true, true, true, true, false, false, false] rfl rfl (take_ofW HT_.out HW_.out (by kernel_rfl)) (fun _ _ _ h => h) (Or.inl ⟨by rfl, ?_⟩) hHeld ?_ ?_
    rotate_left
    · rintro w' ⟨s0, s1, s2, s3⟩
      go_simp
      with_reducible rfl
    rotate_left
    · simp only [Act.put, List.setIfInBounds_toArray, List.set_cons_zero, List.set_cons_succ, i64_w, i32_w]
      rfl
    refine pure_ (i := 16) (N := some 47) (v := ?_) (a' := ?_) #[true, true, true, true, true, true, true, true, true, true, true, true, true, true, true, true, true, false, false] rfl rfl (any_of HT_.out (by kernel_rfl)) (fun _ _ _ h => h) (Or.inl ⟨by rfl, ?_⟩) ?_ ?_
    rotate_left
    · intro w'
      go_simp
      with_reducible rfl
    rotate_left
    · simp only [Act.put, List.setIfInBounds_toArray, List.set_cons_zero, List.set_cons_succ, i64_w, i32_w]
      rfl
    refine pure_ (i := 17) (N := some 48) (v := ?_) (a' := ?_) #[true, true, true, true, true, true, true, true, true, true, true, true, true, true, true, true, true, true, false] rfl rfl (any_of HT_.out (by kernel_rfl)) (fun _ _ _ h => h) (Or.inl ⟨by rfl, ?_⟩) ?_ ?_
    rotate_left
    · intro w'
      go_simp
      with_reducible rfl
    rotate_left
    · simp only [Act.put, List.setIfInBounds_toArray, List.set_cons_zero, List.set_cons_succ, i64_w, i32_w]
      rfl
    refine last_ (i := 18) (N := none) #[true, true, true, true, true, true, true, true, true, true, true, true, true, true, true, true, true, true, true] rfl rfl (one_of HT_.out (by kernel_rfl)) (by decide) (fun K hK => ?_)
    refine skip_ (w1 := ?_) (by rfl) rfl ?_ ?_
    rotate_left
    · go_simp
      rfl
    refine hK.out _ _ ?_
    clear hK K
    refine done_ (done_of HT_.out (by kernel_rfl)) ?_
    have n0_ : Aside0 (Kd.R (Kd.int .u8) 5 (w18.setCell ⟨go12, ((ji6) : Int).toNat, none⟩ (.int .u8 (Go.bits .or .u8 (rd y139 (ji6)) (ji11)))) w.heap.size (fun _ => True) (.slice (some ⟨go12, 0, none⟩) y139.length co15) y143) := ⟨by (with_reducible repeat (first | apply Kd.R_alloc | apply Kd.R_drewN | apply Kd.R_drew)); exact HQ19.out⟩
    have n1_ : Aside0 ((w18.setCell ⟨go12, ((ji6) : Int).toNat, none⟩ (.int .u8 (Go.bits .or .u8 (rd y139 (ji6)) (ji11)))).heap[g]? = some (.cells #[.slice (some ⟨go12, 0, none⟩) y139.length co15, .int .i64 s0_1, .bool true] 100 (0, 0))) := ⟨by (with_reducible repeat (first | refine blk_drewN ?_ _ | refine blk_drew ?_ | refine blk_alloc ?_ _)); refine blk_far ?_ (by have h_ := Kd.R_ne HO141.out BK0.out (by decide); intro e_; exact h_ (by rw [e_]; rfl)) _; (with_reducible repeat (first | refine blk_drewN ?_ _ | refine blk_drew ?_ | refine blk_alloc ?_ _)); exact BK0.out⟩
    have n2_ : Aside0 (Below w.heap.size w (w18.setCell ⟨go12, ((ji6) : Int).toNat, none⟩ (.int .u8 (Go.bits .or .u8 (rd y139 (ji6)) (ji11))))) := ⟨by repeat (first | (with_reducible first | exact HB.out | apply below_alloc | apply pw_below_drewN | apply below_drew1 | refine below_set ?_ GB12.out | refine below_set ?_ GE0.out) | exact HB.out)⟩
    (try clear HO141)
    (try clear BK0)
    (try clear HB)
    (try simp only [IntKind.wrap_u8, hji11v])
    (try (have hji11y := (IntKind.wrap_u8 _).symm.trans (hji11z (by first | omega | (have h_ := Int.tmod_lt_of_pos s0_1 (show (0 : Int) < 8 by decide); omega))); simp only [IntKind.wrap_u8, hji11y]))
    generalize (w18.setCell ⟨go12, ((ji6) : Int).toNat, none⟩ (.int .u8 (Go.bits .or .u8 (rd y139 (ji6)) (ji11)))) = w20 at n0_ n1_ n2_ ⊢
    have HO141 := n0_
    have BK0 := n1_
    have HB := n2_
    clear n0_ n1_ n2_
    have hcz21_0 : w20.cell? ⟨g, 0, none⟩ = some (.slice (some ⟨go12, 0, none⟩) y139.length co15) := (blk_cell BK0.out 0).trans rfl
    have hcz21_1 : w20.cell? ⟨g, 1, none⟩ = some (.int .i64 s0_1) := (blk_cell BK0.out 1).trans rfl
    have hcz21_2 : w20.cell? ⟨g, 2, none⟩ = some (.bool true) := (blk_cell BK0.out 2).trans rfl
    have hfz21_0 := blk_frozen BK0.out 0
    have hfz21_1 := blk_frozen BK0.out 1
    have hfz21_2 := blk_frozen BK0.out 2
    try go_wp2
    first | go_end0 | ((try simp only [Exit.inBlock, Exit.then]); refine bodyPost_ret (results_none rfl _ _ _) rfl ?_)
    exact ⟨_, by first | rfl | (simp; done), by (with_reducible repeat (first | refine blk_drewN ?_ _ | refine blk_drew ?_ | refine blk_alloc ?_ _)); refine blk_put (cs := #[.slice (some ⟨go12, 0, none⟩) y139.length co15, .int .i64 s0_1, .bool true]) ?_ 1 _ rfl; (with_reducible repeat (first | refine blk_drewN ?_ _ | refine blk_drew ?_ | refine blk_alloc ?_ _)); exact BK0.out, Kd.R_mono (by (with_reducible repeat (first | apply Kd.R_alloc | apply Kd.R_drewN | apply Kd.R_drew)); exact (Kd.R_mono (Kd.R_far (p := ⟨g, 1, none⟩) (Kd.R_types HO141.out BK0.out (by decide)) (fun _ hk => hk.2) (.int .i64 (wrap64 (s0_1 + 1)))) (fun _ h_ => h_.1))) (fun _ _ => trivial), by repeat (first | (with_reducible first | exact HB.out | apply below_alloc | apply pw_below_drewN | apply below_drew1 | refine below_set ?_ GE0.out) | exact HB.out)⟩
  replace c5 := Bool.eq_false_iff.mpr c5
  subst c5
  have H1 : (if 0 ≤ (wrap64 (Int.tdiv s0_1 8)) then (if (wrap64 (Int.tdiv s0_1 8)) < (y139.length : Int) then (if 0 ≤ (Int.tmod s0_1 8) then (some ((y139.set ((wrap64 (Int.tdiv s0_1 8)) : Int).toNat (Go.bits .or .u8 (rd y139 (wrap64 (Int.tdiv s0_1 8))) (shl .u8 ((Go.bits .and .u64 a1 1) % 256) (Int.tmod s0_1 8)))), wrap64 (s0_1 + 1), false)) else (none)) else (none)) else (none)) = some (r1, r2, r3) := by rw [if_neg (show ¬ (false = true) by decide)] at H; exact H
  clear H
  have H := H1
  clear H1
  obtain ⟨ji22, hji22⟩ : ∃ j_ : Int, (wrap64 (Int.tdiv s0_1 8)) = j_ := ⟨_, rfl⟩
  replace H : (if 0 ≤ (ji22) then (if (ji22) < (y139.length : Int) then (if 0 ≤ (Int.tmod s0_1 8) then (some ((y139.set ((ji22) : Int).toNat (Go.bits .or .u8 (rd y139 (ji22)) (shl .u8 ((Go.bits .and .u64 a1 1) % 256) (Int.tmod s0_1 8)))), wrap64 (s0_1 + 1), false)) else (none)) else (none)) else (none)) = some (r1, r2, r3) := by first | (rw [hji22] at H; exact H) | (simp only [hji22] at H ⊢; exact H)
  have hji22w : (IntKind.i64.wrap (Int.tdiv s0_1 8)) = ji22 := (i64_w _).trans hji22
  by_cases c23 : 0 ≤ (ji22)
  rotate_left
  · rw [if_neg c23] at H
    exact absurd H (by simp)
  rw [if_pos c23] at H
  have c23b0 : decide (0 ≤ (ji22)) = true := decide_eq_true c23
  clear c23
  by_cases c24 : (ji22) < (y139.length : Int)
  rotate_left
  · rw [if_neg c24] at H
    exact absurd H (by simp)
  rw [if_pos c24] at H
  have c24b0 : decide ((ji22) < (y139.length : Int)) = true := decide_eq_true c24
  clear c24
  obtain ⟨ji25, hji25⟩ : ∃ j_ : Int, (Int.tmod s0_1 8) = j_ := ⟨_, rfl⟩
  replace H : (if 0 ≤ (ji25) then (some ((y139.set ((ji22) : Int).toNat (Go.bits .or .u8 (rd y139 (ji22)) (shl .u8 ((Go.bits .and .u64 a1 1) % 256) (ji25)))), wrap64 (s0_1 + 1), false)) else (none)) = some (r1, r2, r3) := by first | (rw [hji25] at H; exact H) | (simp only [hji25] at H ⊢; exact H)
  (try rw [hji25] at c3b0)
  (try rw [hji25] at c3b1)
  by_cases c26 : 0 ≤ (ji25)
  rotate_left
  · rw [if_neg c26] at H
    exact absurd H (by simp)
  rw [if_pos c26] at H
  have c26b0 := eq_true c26
  have c26b1 : decide (0 ≤ (ji25)) = true := decide_eq_true c26
  clear c26
  obtain ⟨ji27, hji27⟩ : ∃ j_ : Int, (shl .u8 ((Go.bits .and .u64 a1 1) % 256) (ji25)) = j_ := ⟨_, rfl⟩
  replace H : (some ((y139.set ((ji22) : Int).toNat (Go.bits .or .u8 (rd y139 (ji22)) (ji27))), wrap64 (s0_1 + 1), false)) = some (r1, r2, r3) := by first | (rw [hji27] at H; exact H) | (simp only [hji27] at H ⊢; exact H)
  have hji27_ : (IntKind.u8.wrap (((Go.bits .and .u64 a1 1) % 256) * 2 ^ min (ji25).toNat 8)) = ji27 := hji27
  have hji27v : (((Go.bits .and .u64 a1 1) % 256) * 2 ^ min (ji25).toNat 8) % 256 = ji27 := (IntKind.wrap_u8 _).symm.trans hji27_
  have hji27z : (ji25) ≤ 8 → (IntKind.u8.wrap (((Go.bits .and .u64 a1 1) % 256) * 2 ^ (ji25).toNat)) = ji27 := shl_small hji27
  obtain ⟨y145, hy145⟩ : ∃ y_ : List Int, y_ = (y139.set ((ji22) : Int).toNat (Go.bits .or .u8 (rd y139 (ji22)) (ji27))) := ⟨_, rfl⟩
  replace H : (some (y145, wrap64 (s0_1 + 1), false)) = some (r1, r2, r3) := by first | (rw [hy145]; with_reducible exact H) | (have H2_ := (Option.bind_some _ _).symm.trans H; rw [hy145]; with_reducible exact H2_) | (have H2_ := (Option.bind_some _ _).symm.trans H; with_reducible exact H2_) | with_reducible exact H | (rw [hy145]; exact H) | exact H
  have Ny145 := Aside0.mk hy145
  clear hy145
  simp only [Option.some.injEq, Prod.mk.injEq] at H
  obtain ⟨rfl, rfl, rfl⟩ := H
  have hcz29_0 : wa.cell? ⟨g, 0, none⟩ = some (u900_) := (blk_cell BK0.out 0).trans rfl
  have hcz29_1 : wa.cell? ⟨g, 1, none⟩ = some (.int .i64 s0_1) := (blk_cell BK0.out 1).trans rfl
  have hcz29_2 : wa.cell? ⟨g, 2, none⟩ = some (.bool false) := (blk_cell BK0.out 2).trans rfl
  have hfz29_0 := blk_frozen BK0.out 0
  have hfz29_1 := blk_frozen BK0.out 1
  have hfz29_2 := blk_frozen BK0.out 2
  go_enter Try.func132, Try.ntmps132
  try go_wp2_with (first | ((with_reducible refine gate_builtin (b := .append) (xs := #[.tmp 15, .tmp 16]) rfl ?_); at_builtin; refine Kd.R_append (Kd.int .u8) (w0 := w) w.heap.size rfl (.tmp 15) (.tmp 16) 23 5 (.int .u8 0) 1 rfl Try.underlying23 info5 rfl (by decide) (by omega) u900_ s0_0 0 [.int .u8 0] (fun _ => True) (fun _ => False) rfl rfl ?aP (fun _ hk => hk.elim) ?aF ?aO ?aB ?aS ?aL ?_; (case aP => exact rfl); (case aB => exact (by repeat (first | (with_reducible first | exact HB.out | apply below_alloc | apply pw_below_drewN | apply below_drew1 | refine below_set ?_ GE0.out) | exact HB.out))); (case aF => exact (fun _ _ => trivial)); (case aO => exact (by (with_reducible repeat (first | apply Kd.R_alloc | apply Kd.R_drewN | apply Kd.R_drew)); exact HOb0.out)); (case aS => exact (below_size (by repeat (first | (with_reducible first | exact HB.out | apply below_alloc | apply pw_below_drewN | apply below_drew1 | refine below_set ?_ GE0.out) | exact HB.out)))); (case aL => have := LMc4.out; omega); intro v140 w30 ho hb hg hat; rw [← Ny139.out] at ho; have n0_ := Aside0.mk (blk_grown (g := g) (o := .cells #[u900_, .int .i64 s0_1, .bool false] 100 (0, 0)) (by (with_reducible repeat (first | refine blk_drewN ?_ _ | refine blk_drew ?_ | refine blk_alloc ?_ _)); exact BK0.out) hg (Kd.R_ne HOb0.out BK0.out (by decide))); have n1_ := Aside0.mk (hb); have n2_ := Aside0.mk (ho); clear BK0; clear HB; clear HOb0; have BK0 := n0_; have HB := n1_; have HO141 := n2_; clear n0_ n1_ n2_; clear ho hb hg hat; obtain ⟨Ao31, co31, eo31⟩ := Kd.R_slice HO141.out; subst eo31; have hcz32_0 : w30.cell? ⟨g, 0, none⟩ = some (u900_) := (blk_cell BK0.out 0).trans rfl; have hcz32_1 : w30.cell? ⟨g, 1, none⟩ = some (.int .i64 s0_1) := (blk_cell BK0.out 1).trans rfl; have hcz32_2 : w30.cell? ⟨g, 2, none⟩ = some (.bool false) := (blk_cell BK0.out 2).trans rfl; have hfz32_0 := blk_frozen BK0.out 0; have hfz32_1 := blk_frozen BK0.out 1; have hfz32_2 := blk_frozen BK0.out 2))
  have n0_ : Aside0 (Kd.R (Kd.int .u8) 5 (w30.setCell ⟨g, 0, none⟩ (.slice Ao31 y139.length co31)) w.heap.size (fun _ => True) (.slice Ao31 y139.length co31) y139) := ⟨by (with_reducible repeat (first | apply Kd.R_alloc | apply Kd.R_drewN | apply Kd.R_drew)); exact Kd.R_mono (Kd.R_far (p := ⟨g, 0, none⟩) (Kd.R_types HO141.out BK0.out (by decide)) (fun _ hk => hk.2) (.slice Ao31 y139.length co31)) (fun _ hk => trivial)⟩
  have n1_ : Aside0 ((w30.setCell ⟨g, 0, none⟩ (.slice Ao31 y139.length co31)).heap[g]? = some (.cells #[.slice Ao31 y139.length co31, .int .i64 s0_1, .bool false] 100 (0, 0))) := ⟨by (with_reducible repeat (first | refine blk_drewN ?_ _ | refine blk_drew ?_ | refine blk_alloc ?_ _)); refine blk_put (cs := #[u900_, .int .i64 s0_1, .bool false]) ?_ 0 _ rfl; (with_reducible repeat (first | refine blk_drewN ?_ _ | refine blk_drew ?_ | refine blk_alloc ?_ _)); exact BK0.out⟩
  have n2_ : Aside0 (Below w.heap.size w (w30.setCell ⟨g, 0, none⟩ (.slice Ao31 y139.length co31))) := ⟨by repeat (first | (with_reducible first | exact HB.out | apply below_alloc | apply pw_below_drewN | apply below_drew1 | refine below_set ?_ GE0.out) | exact HB.out)⟩
  (try clear HO141)
  (try clear BK0)
  (try clear HB)
  generalize (w30.setCell ⟨g, 0, none⟩ (.slice Ao31 y139.length co31)) = w33 at n0_ n1_ n2_ ⊢
  have HO141 := n0_
  have BK0 := n1_
  have HB := n2_
  clear n0_ n1_ n2_
  have n0_ := Aside0.mk (Kd.R_drew HO141.out)
  have n1_ := Aside0.mk (blk_drew BK0.out)
  have n2_ := Aside0.mk (below_drew1 HB.out)
  clear HO141
  clear BK0
  clear HB
  have HO141 := n0_
  have BK0 := n1_
  have HB := n2_
  clear n0_ n1_ n2_
  have p144 : 0 ≤ ((ji22) : Int) := of_decide_eq_true (by first | (with_reducible assumption) | assumption)
  have q144 : (ji22) < (y139.length : Int) := of_decide_eq_true (by first | (with_reducible assumption) | assumption)
  obtain ⟨ad144, e144, hx144_0⟩ := Kd.at_int (Kd.R_reads' HO141.out).2.2 (ji22) p144 q144
  cases e144
  replace p144 := eq_true p144
  replace q144 := eq_true q144
  have p28 : 0 ≤ ((ji22) : Int) := of_decide_eq_true (by first | (with_reducible assumption) | assumption)
  have q28 : ((ji22) : Int) < ((y139.length : Int) : Int) := of_decide_eq_true (by first | (with_reducible assumption) | assumption)
  obtain ⟨go28, co28, eo28, gb28, gl28, cl28, HG28⟩ := Kd.R_form HO141.out (by omega)
  (first | cases eo28 | (injection eo28 with ea_ en_ ec_; (first | subst ea_ | (injection ea_ with ea_; subst ea_)); subst ec_; clear en_))
  have GB28 := Aside0.mk gb28
  have GG28 := Aside0.mk HG28
  clear gb28 gl28 HG28
  (first | simp only [add_plain] at hx144_0 | skip)
  obtain ⟨hx28_0, hf28_0⟩ := Kd.R_celln 0 HO141.out ((ji22) : Int) p28 q28
  replace p28 := eq_true p28
  replace q28 := eq_true q28
  have HP35 := Kd.R_putn HO141.out ((ji22) : Int) (Go.bits .or .u8 (rd y139 (ji22)) (ji27))
  rw [← Ny145.out] at HP35
  have HQ35 := Aside0.mk HP35
  clear HP35
  refine start_ (n := 19) (S := fun w' => w'.cell? ⟨g, 0, none⟩ = some (.slice (some ⟨go28, 0, none⟩) y139.length co31) ∧ w'.cell? ⟨g, 1, none⟩ = some (.int .i64 s0_1) ∧ w'.cell? ⟨g, 2, none⟩ = some (.bool false) ∧ w'.cell? ⟨go28, ((ji22)).toNat, none⟩ = some (.int .u8 (rd y139 (ji22)))) (ds := [18]) #[false, false, false, false, false, false, false, false, false, false, false, false, false, false, false, false, false, false, false] (by kernel_rfl) rfl rfl ⟨(blk_cell BK0.out 0).trans rfl, (blk_cell BK0.out 1).trans rfl, (blk_cell BK0.out 2).trans rfl, hx144_0⟩ (fun hHeld => ?_); refine with_tabW impl_bitsOut_bit.tab5 impl_bitsOut_bit.bits5 (fun HT_ HW_ => ?_)
  generalize w33.drew = w34 at HO141 BK0 HB GG28 HQ35 hf28_0 hx144_0 hx28_0 hHeld ⊢
  refine pure_ (i := 0) (N := some 31) (v := ?_) (a' := ?_) #[true, false, false, false, false, false, false, false, false, false, false, false, false, false, false, false, false, false, false] rfl rfl (any_of HT_.out (by kernel_rfl)) (fun _ _ _ h => h) (Or.inl ⟨by rfl, ?_⟩) ?_ ?_
  rotate_left
  · intro w'
    go_simp
    with_reducible rfl
  rotate_left
  · simp only [Act.put, List.setIfInBounds_toArray, List.set_cons_zero, List.set_cons_succ, i64_w, i32_w]
    rfl
  refine pure_ (i := 1) (N := some 32) (v := ?_) (a' := ?_) #[true, true, false, false, false, false, false, false, false, false, false, false, false, false, false, false, false, false, false] rfl rfl (any_of HT_.out (by kernel_rfl)) (fun _ _ _ h => h) (Or.inl ⟨by rfl, ?_⟩) ?_ ?_
  rotate_left
  · intro w'
    go_simp
    with_reducible rfl
  rotate_left
  · simp only [Act.put, List.setIfInBounds_toArray, List.set_cons_zero, List.set_cons_succ, i64_w, i32_w]
    rfl
  refine pure_ (i := 2) (N := some 33) (v := ?_) (a' := ?_) #[true, true, true, false, false, false, false, false, false, false, false, false, false, false, false, false, false, false, false] rfl rfl (any_of HT_.out (by kernel_rfl)) (fun _ _ _ h => h) (Or.inl ⟨by rfl, ?_⟩) ?_ ?_
  rotate_left
  · intro w'
    go_simp
    with_reducible rfl
  rotate_left
  · simp only [Act.put, List.setIfInBounds_toArray, List.set_cons_zero, List.set_cons_succ, i64_w, i32_w]
    rfl
  refine pure_ (i := 4) (N := some 35) (v := ?_) (a' := ?_) #[true, true, true, false, true, false, false, false, false, false, false, false, false, false, false, false, false, false, false] rfl rfl (any_of HT_.out (by kernel_rfl)) (fun _ _ _ h => h) (Or.inl ⟨by rfl, ?_⟩) ?_ ?_
  rotate_left
  · intro w'
    go_simp
    with_reducible rfl
  rotate_left
  · simp only [Act.put, List.setIfInBounds_toArray, List.set_cons_zero, List.set_cons_succ, i64_w, i32_w]
    rfl
  refine pure_ (i := 5) (N := some 36) (v := ?_) (a' := ?_) #[true, true, true, false, true, true, false, false, false, false, false, false, false, false, false, false, false, false, false] rfl rfl (any_of HT_.out (by kernel_rfl)) (fun _ _ _ h => h) (Or.inl ⟨by rfl, ?_⟩) ?_ ?_
  rotate_left
  · intro w'
    go_simp
    with_reducible rfl
  rotate_left
  · simp only [Act.put, List.setIfInBounds_toArray, List.set_cons_zero, List.set_cons_succ, i64_w, i32_w]
    rfl
  refine pure_ (i := 6) (N := some 37) (v := ?_) (a' := ?_) #[true, true, true, false, true, true, true, false, false, false, false, false, false, false, false, false, false, false, false] rfl rfl (any_of HT_.out (by kernel_rfl)) (fun _ _ _ h => h) (Or.inl ⟨by rfl, ?_⟩) ?_ ?_
  rotate_left
  · intro w'
    go_simp
    with_reducible rfl
  rotate_left
  · simp only [Act.put, List.setIfInBounds_toArray, List.set_cons_zero, List.set_cons_succ, i64_w, i32_w]
    rfl
  refine pure_ (i := 11) (N := some 42) (v := ?_) (a' := ?_) #[true, true, true, false, true, true, true, false, false, false, false, true, false, false, false, false, false, false, false] rfl rfl (any_of HT_.out (by kernel_rfl)) (fun _ _ _ h => h) (Or.inl ⟨by rfl, ?_⟩) ?_ ?_
  rotate_left
  · intro w'
    go_simp
    with_reducible rfl
  rotate_left
  · simp only [Act.put, List.setIfInBounds_toArray, List.set_cons_zero, List.set_cons_succ, i64_w, i32_w]
    rfl
  refine pure_ (i := 12) (N := some 43) (v := ?_) (a' := ?_) #[true, true, true, false, true, true, true, false, false, false, false, true, true, false, false, false, false, false, false] rfl rfl (any_of HT_.out (by kernel_rfl)) (fun _ _ _ h => h) (Or.inl ⟨by rfl, ?_⟩) ?_ ?_
  rotate_left
  · intro w'
    go_simp
    with_reducible rfl
  rotate_left
  · simp only [Act.put, List.setIfInBounds_toArray, List.set_cons_zero, List.set_cons_succ, i64_w, i32_w]
    rfl
  refine pure_ (i := 13) (N := some 44) (v := ?_) (a' := ?_) #[true, true, true, false, true, true, true, false, false, false, false, true, true, true, false, false, false, false, false] rfl rfl (any_of HT_.out (by kernel_rfl)) (fun _ _ _ h => h) (Or.inl ⟨by rfl, ?_⟩) ?_ ?_
  rotate_left
  · intro w'
    go_simp
    with_reducible rfl
  rotate_left
  · simp only [Act.put, List.setIfInBounds_toArray, List.set_cons_zero, List.set_cons_succ, i64_w, i32_w]
    rfl
  refine pure_ (i := 14) (N := some 45) (v := ?_) (a' := ?_) #[true, true, true, false, true, true, true, false, false, false, false, true, true, true, true, false, false, false, false] rfl rfl (any_of HT_.out (by kernel_rfl)) (fun _ _ _ h => h) (Or.inl ⟨by rfl, ?_⟩) ?_ ?_
  rotate_left
  · intro w'
    go_simp
    with_reducible rfl
  rotate_left
  · simp only [Act.put, List.setIfInBounds_toArray, List.set_cons_zero, List.set_cons_succ, i64_w, i32_w]
    rfl
  refine pure_ (i := 15) (N := some 46) (v := ?_) (a' := ?_) #[true, true, true, false, true, true, true, false, false, false, false, true, true, true, true, true, false, false, false] rfl rfl (any_of HT_.out (by kernel_rfl)) (fun _ _ _ h => h) (Or.inl ⟨by rfl, ?_⟩) ?_ ?_
  rotate_left
  · intro w'
    go_simp
    with_reducible rfl
  rotate_left
  · simp only [Act.put, List.setIfInBounds_toArray, List.set_cons_zero, List.set_cons_succ, i64_w, i32_w]
    rfl
  refine take_ (i := 3) (N := some 34) (v := ?_) (a' := ?_) #[true, true, true, true, true, true, true, false, false, false, false, true, true, true, true, true, false, false, false] rfl rfl (take_ofW HT_.out HW_.out (by kernel_rfl)) (fun _ _ _ h => h) (Or.inl ⟨by rfl, ?_⟩) hHeld ?_ ?_
  rotate_left
  · rintro w' ⟨s0, s1, s2, s3⟩
    go_simp
    with_reducible rfl
  rotate_left
  · simp only [Act.put, List.setIfInBounds_toArray, List.set_cons_zero, List.set_cons_succ, i64_w, i32_w]
    rfl
  refine take_ (i := 7) (N := some 38) (v := ?_) (a' := ?_) #[true, true, true, true, true, true, true, true, false, false, false, true, true, true, true, true, false, false, false] rfl rfl (take_ofW HT_.out HW_.out (by kernel_rfl)) (fun _ _ _ h => h) (Or.inl ⟨by rfl, ?_⟩) hHeld ?_ ?_
  rotate_left
  · rintro w' ⟨s0, s1, s2, s3⟩
    go_simp
    with_reducible rfl
  rotate_left
  · simp only [Act.put, List.setIfInBounds_toArray, List.set_cons_zero, List.set_cons_succ, i64_w, i32_w]
    rfl
  refine pure_ (i := 8) (N := some 39) (v := ?_) (a' := ?_) #[true, true, true, true, true, true, true, true, true, false, false, true, true, true, true, true, false, false, false] rfl rfl (any_of HT_.out (by kernel_rfl)) (fun _ _ _ h => h) (Or.inl ⟨by rfl, ?_⟩) ?_ ?_
  rotate_left
  · intro w'
    go_simp
    with_reducible rfl
  rotate_left
  · simp only [Act.put, List.setIfInBounds_toArray, List.set_cons_zero, List.set_cons_succ, i64_w, i32_w]
    rfl
  refine pure_ (i := 9) (N := some 40) (v := ?_) (a' := ?_) #[true, true, true, true, true, true, true, true, true, true, false, true, true, true, true, true, false, false, false] rfl rfl (any_of HT_.out (by kernel_rfl)) (fun _ _ _ h => h) (Or.inl ⟨by rfl, ?_⟩) ?_ ?_
  rotate_left
  · intro w'
    go_simp
    with_reducible rfl
  rotate_left
  · simp only [Act.put, List.setIfInBounds_toArray, List.set_cons_zero, List.set_cons_succ, i64_w, i32_w]
    rfl
  refine take_ (i := 10) (N := some 41) (v := ?_) (a' := ?_) #[true, true, true, true, true, true, true, true, true, true, true, true, true, true, true, true, false, false, false] rfl rfl (take_ofW HT_.out HW_.out (by kernel_rfl)) (fun _ _ _ h => h) (Or.inl ⟨by rfl, ?_⟩) hHeld ?_ ?_
  rotate_left
  · rintro w' ⟨s0, s1, s2, s3⟩
    go_simp
    with_reducible rfl
  rotate_left
  · simp only [Act.put, List.setIfInBounds_toArray, List.set_cons_zero, List.set_cons_succ, i64_w, i32_w]
    rfl
  refine pure_ (i := 16) (N := some 47) (v := ?_) (a' := ?_) #[true, true, true, true, true, true, true, true, true, true, true, true, true, true, true, true, true, false, false] rfl rfl (any_of HT_.out (by kernel_rfl)) (fun _ _ _ h => h) (Or.inl ⟨by rfl, ?_⟩) ?_ ?_
  rotate_left
  · intro w'
    go_simp
    with_reducible rfl
  rotate_left
  · simp only [Act.put, List.setIfInBounds_toArray, List.set_cons_zero, List.set_cons_succ, i64_w, i32_w]
    rfl
  refine pure_ (i := 17) (N := some 48) (v := ?_) (a' := ?_) #[true, true, true, true, true, true, true, true, true, true, true, true, true, true, true, true, true, true, false] rfl rfl (any_of HT_.out (by kernel_rfl)) (fun _ _ _ h => h) (Or.inl ⟨by rfl, ?_⟩) ?_ ?_
  rotate_left
  · intro w'
    go_simp
    with_reducible rfl
  rotate_left
  · simp only [Act.put, List.setIfInBounds_toArray, List.set_cons_zero, List.set_cons_succ, i64_w, i32_w]
    rfl
  refine last_ (i := 18) (N := none) #[true, true, true, true, true, true, true, true, true, true, true, true, true, true, true, true, true, true, true] rfl rfl (one_of HT_.out (by kernel_rfl)) (by decide) (fun K hK => ?_)
  refine skip_ (w1 := ?_) (by rfl) rfl ?_ ?_
  rotate_left
  · go_simp
    rfl
  refine hK.out _ _ ?_
  clear hK K
  refine done_ (done_of HT_.out (by kernel_rfl)) ?_
  have n0_ : Aside0 (Kd.R (Kd.int .u8) 5 (w34.setCell ⟨go28, ((ji22) : Int).toNat, none⟩ (.int .u8 (Go.bits .or .u8 (rd y139 (ji22)) (ji27)))) w.heap.size (fun _ => True) (.slice (some ⟨go28, 0, none⟩) y139.length co31) y145) := ⟨by (with_reducible repeat (first | apply Kd.R_alloc | apply Kd.R_drewN | apply Kd.R_drew)); exact HQ35.out⟩
  have n1_ : Aside0 ((w34.setCell ⟨go28, ((ji22) : Int).toNat, none⟩ (.int .u8 (Go.bits .or .u8 (rd y139 (ji22)) (ji27)))).heap[g]? = some (.cells #[.slice (some ⟨go28, 0, none⟩) y139.length co31, .int .i64 s0_1, .bool false] 100 (0, 0))) := ⟨by (with_reducible repeat (first | refine blk_drewN ?_ _ | refine blk_drew ?_ | refine blk_alloc ?_ _)); refine blk_far ?_ (by have h_ := Kd.R_ne HO141.out BK0.out (by decide); intro e_; exact h_ (by rw [e_]; rfl)) _; (with_reducible repeat (first | refine blk_drewN ?_ _ | refine blk_drew ?_ | refine blk_alloc ?_ _)); exact BK0.out⟩
  have n2_ : Aside0 (Below w.heap.size w (w34.setCell ⟨go28, ((ji22) : Int).toNat, none⟩ (.int .u8 (Go.bits .or .u8 (rd y139 (ji22)) (ji27))))) := ⟨by repeat (first | (with_reducible first | exact HB.out | apply below_alloc | apply pw_below_drewN | apply below_drew1 | refine below_set ?_ GB28.out | refine below_set ?_ GE0.out) | exact HB.out)⟩
  (try clear HO141)
  (try clear BK0)
  (try clear HB)
  (try simp only [IntKind.wrap_u8, hji27v])
  (try (have hji27y := (IntKind.wrap_u8 _).symm.trans (hji27z (by first | omega | (have h_ := Int.tmod_lt_of_pos s0_1 (show (0 : Int) < 8 by decide); omega))); simp only [IntKind.wrap_u8, hji27y]))
  generalize (w34.setCell ⟨go28, ((ji22) : Int).toNat, none⟩ (.int .u8 (Go.bits .or .u8 (rd y139 (ji22)) (ji27)))) = w36 at n0_ n1_ n2_ ⊢
  have HO141 := n0_
  have BK0 := n1_
  have HB := n2_
  clear n0_ n1_ n2_
  have hcz37_0 : w36.cell? ⟨g, 0, none⟩ = some (.slice (some ⟨go28, 0, none⟩) y139.length co31) := (blk_cell BK0.out 0).trans rfl
  have hcz37_1 : w36.cell? ⟨g, 1, none⟩ = some (.int .i64 s0_1) := (blk_cell BK0.out 1).trans rfl
  have hcz37_2 : w36.cell? ⟨g, 2, none⟩ = some (.bool false) := (blk_cell BK0.out 2).trans rfl
  have hfz37_0 := blk_frozen BK0.out 0
  have hfz37_1 := blk_frozen BK0.out 1
  have hfz37_2 := blk_frozen BK0.out 2
  try go_wp2
  first | go_end0 | ((try simp only [Exit.inBlock, Exit.then]); refine bodyPost_ret (results_none rfl _ _ _) rfl ?_)
  exact ⟨_, by first | rfl | (simp; done), by (with_reducible repeat (first | refine blk_drewN ?_ _ | refine blk_drew ?_ | refine blk_alloc ?_ _)); refine blk_put (cs := #[.slice (some ⟨go28, 0, none⟩) y139.length co31, .int .i64 s0_1, .bool false]) ?_ 1 _ rfl; (with_reducible repeat (first | refine blk_drewN ?_ _ | refine blk_drew ?_ | refine blk_alloc ?_ _)); exact BK0.out, Kd.R_mono (by (with_reducible repeat (first | apply Kd.R_alloc | apply Kd.R_drewN | apply Kd.R_drew)); exact (Kd.R_mono (Kd.R_far (p := ⟨g, 1, none⟩) (Kd.R_types HO141.out BK0.out (by decide)) (fun _ hk => hk.2) (.int .i64 (wrap64 (s0_1 + 1)))) (fun _ h_ => h_.1))) (fun _ _ => trivial), by repeat (first | (with_reducible first | exact HB.out | apply below_alloc | apply pw_below_drewN | apply below_drew1 | refine below_set ?_ GE0.out) | exact HB.out)⟩

end Go.Proofs.Ytggokppfhkebkaa.PFnExactWriteSymbols

-- written by myprint.py (a program of this session's over the kit's print)
import Derived.Test.YtidblealnaicpaaPFnPlanx0
import Derived.Test.YtidblealnaicpaaPFnPlanx3
namespace Go.Proofs.Ytidblealnaicpaa.PFnPlan
open Go.RowKit Go.Proofs.YtidblealnaicpaaW.PrintWords Go.Proofs.YtidblealnaicpaaW.PrintLast Go.Proofs.YtidblealnaicpaaW.PrintMore
attribute [local go_sem] max2_int min2_int max_two min_two max_three min_three max_four min_four   -- for this text's walks alone
set_option linter.unusedVariables false
set_option linter.unusedSimpArgs false

/-! ### impl_zfits: function 80 -/
def impl_zfits.f (a0 : Int) (a1 : Int) (a2 : Int) : Option (Bool) := if a0 ≥ 0 then (if a0 ≤ 4 then (if a0 ≤ a2 then (if a1 ≥ 0 then (if a1 ≤ 4 then (if 0 ≤ a1 then (if (shl .i64 1 a1) = 0 then (none) else (if (Int.tmod a2 (shl .i64 1 a1)) = 0 then (some (decide ((shr .i64 a2 a1) ≥ a0))) else (some false))) else (none)) else (some false)) else (some false)) else (some false)) else (some false)) else (some false)
set_option maxHeartbeats 8000000 in
set_option maxRecDepth 100000 in
theorem impl_zfits.calls (a0 : Int) (a1 : Int) (a2 : Int) (r : Bool) (w : World) (h : impl_zfits.f a0 a1 a2 = some r) :
    Calls Try.prog 80 #[.int .i64 a0, .int .i64 a1, .int .i64 a2] w fun e w' => e = .returned (.bool r) ∧ Drawn0 w w' := by
  have H : (if a0 ≥ 0 then (if a0 ≤ 4 then (if a0 ≤ a2 then (if a1 ≥ 0 then (if a1 ≤ 4 then (if 0 ≤ a1 then (if (shl .i64 1 a1) = 0 then (none) else (if (Int.tmod a2 (shl .i64 1 a1)) = 0 then (some (decide ((shr .i64 a2 a1) ≥ a0))) else (some false))) else (none)) else (some false)) else (some false)) else (some false)) else (some false)) else (some false)) = some r := h
  clear h
  by_cases c4 : a0 ≥ 0
  rotate_left
  · rw [if_neg c4] at H
    have c4b0 : decide (0 ≤ a0) = false := decide_eq_false c4
    clear c4
    obtain rfl := Option.some.inj H
    go_enter Try.func80, Try.ntmps80
    go_wp2
    go_ret
    exact ⟨by first | rfl | (simp; done) | (simp [*]; done), by repeat (first | exact Drawn0.refl _ | apply Drawn0.step)⟩
  rw [if_pos c4] at H
  have c4b0 : decide (0 ≤ a0) = true := decide_eq_true c4
  clear c4
  by_cases c5 : a0 ≤ 4
  rotate_left
  · rw [if_neg c5] at H
    have c5b0 : decide (a0 ≤ 4) = false := decide_eq_false c5
    clear c5
    obtain rfl := Option.some.inj H
    go_enter Try.func80, Try.ntmps80
    go_wp2
    go_ret
    exact ⟨by first | rfl | (simp; done) | (simp [*]; done), by repeat (first | exact Drawn0.refl _ | apply Drawn0.step)⟩
  rw [if_pos c5] at H
  have c5b0 : decide (a0 ≤ 4) = true := decide_eq_true c5
  clear c5
  by_cases c6 : a0 ≤ a2
  rotate_left
  · rw [if_neg c6] at H
    have c6b0 : decide (a0 ≤ a2) = false := decide_eq_false c6
    clear c6
    obtain rfl := Option.some.inj H
    go_enter Try.func80, Try.ntmps80
    go_wp2
    go_ret
    exact ⟨by first | rfl | (simp; done) | (simp [*]; done), by repeat (first | exact Drawn0.refl _ | apply Drawn0.step)⟩
  rw [if_pos c6] at H
  have c6b0 : decide (a0 ≤ a2) = true := decide_eq_true c6
  clear c6
  by_cases c7 : a1 ≥ 0
  rotate_left
  · rw [if_neg c7] at H
    have c7b0 : decide (0 ≤ a1) = false := decide_eq_false c7
    clear c7
    obtain rfl := Option.some.inj H
    go_enter Try.func80, Try.ntmps80
    go_wp2
    go_ret
    exact ⟨by first | rfl | (simp; done) | (simp [*]; done), by repeat (first | exact Drawn0.refl _ | apply Drawn0.step)⟩
  rw [if_pos c7] at H
  have c7b0 : decide (0 ≤ a1) = true := decide_eq_true c7
  clear c7
  by_cases c8 : a1 ≤ 4
  rotate_left
  · rw [if_neg c8] at H
    have c8b0 : decide (a1 ≤ 4) = false := decide_eq_false c8
    clear c8
    obtain rfl := Option.some.inj H
    go_enter Try.func80, Try.ntmps80
    go_wp2
    go_ret
    exact ⟨by first | rfl | (simp; done) | (simp [*]; done), by repeat (first | exact Drawn0.refl _ | apply Drawn0.step)⟩
  rw [if_pos c8] at H
  have c8b0 : decide (a1 ≤ 4) = true := decide_eq_true c8
  clear c8
  by_cases c9 : 0 ≤ a1
  rotate_left
  · rw [if_neg c9] at H
    exact absurd H (by simp)
  rw [if_pos c9] at H
  have c9b0 := eq_true c9
  have c9b1 : decide (0 ≤ a1) = true := decide_eq_true c9
  clear c9
  obtain ⟨ji10, hji10⟩ : ∃ j_ : Int, (shl .i64 1 a1) = j_ := ⟨_, rfl⟩
  replace H : (if (ji10) = 0 then (none) else (if (Int.tmod a2 (ji10)) = 0 then (some (decide ((shr .i64 a2 a1) ≥ a0))) else (some false))) = some r := by first | (rw [hji10] at H; exact H) | (simp only [hji10] at H ⊢; exact H)
  have hji10_ : (IntKind.i64.wrap (1 * 2 ^ min a1.toNat 64)) = ji10 := hji10
  have hji10z : a1 ≤ 64 → (IntKind.i64.wrap (1 * 2 ^ a1.toNat)) = ji10 := shl_small hji10
  have hji10u : (IntKind.i64.wrap (2 ^ min a1.toNat 64)) = ji10 := by have h_ := hji10_; rw [Int.one_mul] at h_; exact h_
  have hji10v : a1 ≤ 64 → (IntKind.i64.wrap (2 ^ a1.toNat)) = ji10 := fun hle_ => by have h_ := hji10z hle_; rw [Int.one_mul] at h_; exact h_
  have hji10y : (wrap64 (1 * 2 ^ min a1.toNat 64)) = ji10 := (i64_w _).symm.trans hji10_
  have hji10x : a1 ≤ 64 → (wrap64 (1 * 2 ^ a1.toNat)) = ji10 := fun h_ => (i64_w _).symm.trans (hji10z h_)
  by_cases c11 : (ji10) = 0
  · rw [if_pos c11] at H
    exact absurd H (by simp)
  rw [if_neg c11] at H
  have c11b0 : ((ji10) == 0) = false := beq_eq_false_iff_ne.mpr c11
  have c11b1 : ((ji10) != 0) = true := bne_iff_ne.mpr c11
  by_cases c12 : (Int.tmod a2 (ji10)) = 0
  rotate_left
  · rw [if_neg c12] at H
    have c12b0 : ((Int.tmod a2 (ji10)) == 0) = false := beq_eq_false_iff_ne.mpr c12
    have c12b1 : ((Int.tmod a2 (ji10)) != 0) = true := bne_iff_ne.mpr c12
    obtain rfl := Option.some.inj H
    go_enter Try.func80, Try.ntmps80
    go_wp2
    go_ret
    exact ⟨by first | rfl | (simp; done) | (simp only [← hji10] <;> (first | rfl | simp)) | (simp [*]; done), by repeat (first | exact Drawn0.refl _ | apply Drawn0.step)⟩
  rw [if_pos c12] at H
  have c12b0 : ((Int.tmod a2 (ji10)) == 0) = true := beq_iff_eq.mpr c12
  have c12b1 : ((Int.tmod a2 (ji10)) != 0) = false := bne_eq_false_iff_eq.mpr c12
  clear c12
  have c13b0 := eq_true (of_decide_eq_true (by first | (with_reducible assumption) | assumption) : 0 ≤ a1)
  obtain ⟨ji14, hji14⟩ : ∃ j_ : Int, (shr .i64 a2 a1) = j_ := ⟨_, rfl⟩
  replace H : (some (decide ((ji14) ≥ a0))) = some r := by first | (rw [hji14] at H; exact H) | (simp only [hji14] at H ⊢; exact H)
  have hji14_ : (a2 / 2 ^ min a1.toNat 64) = ji14 := hji14
  have hji14z : a1 ≤ 64 → (a2 / 2 ^ a1.toNat) = ji14 := shr_small hji14
  obtain rfl := Option.some.inj H
  go_enter Try.func80, Try.ntmps80
  go_wp2
  go_ret
  exact ⟨by first | rfl | (simp; done) | (simp only [← hji10, ← hji14] <;> (first | rfl | simp)) | (simp [*]; done), by repeat (first | exact Drawn0.refl _ | apply Drawn0.step)⟩

/-! ### impl_zpart: function 81 -/
def impl_zpart.f (a0 : Int) (a1 : Int) (l2 : List Int) (a3 : Int) : Option (List Int) := if 0 ≤ a1 then (if 0 ≤ (mx (wrap64 (a3 * (shr .i64 (l2.length : Int) a1))) a0) then (if (mx (wrap64 (a3 * (shr .i64 (l2.length : Int) a1))) a0) ≤ (wrap64 ((wrap64 (a3 + 1)) * (shr .i64 (l2.length : Int) a1))) then (if (wrap64 ((wrap64 (a3 + 1)) * (shr .i64 (l2.length : Int) a1))) ≤ (l2.length : Int) then (some ((l2.take ((wrap64 ((wrap64 (a3 + 1)) * (shr .i64 (l2.length : Int) a1))) : Int).toNat).drop ((mx (wrap64 (a3 * (shr .i64 (l2.length : Int) a1))) a0) : Int).toNat)) else (none)) else (none)) else (none)) else (none)
set_option maxHeartbeats 8000000 in
set_option maxRecDepth 100000 in
theorem impl_zpart.calls (a0 : Int) (a1 : Int) (P2_ : Nat → Prop) (A2 : Option Addr) (c2 : Nat) (l2 : List Int) (a3 : Int) (r : List Int) (w : World) (hs2 : Kd.V (Kd.int .i64) 3 w w.heap.size (fun k_ => P2_ k_) (.slice A2 l2.length c2) l2) (h : impl_zpart.f a0 a1 l2 a3 = some r) :
    Calls Try.prog 81 #[.int .i64 a0, .int .i64 a1, .slice A2 l2.length c2, .int .i64 a3] w fun e w' => ∃ v0_ : Value, e = .returned (v0_) ∧ Kd.V (Kd.int .i64) 3 w' w.heap.size (fun k_ => (P2_ k_ ∨ w.heap.size ≤ k_)) v0_ r ∧ Below w.heap.size w w' := by
  have HO2 := Aside0.mk (show Kd.V (Kd.int .i64) 3 w w.heap.size (fun k_ => (P2_ k_ ∨ w.heap.size ≤ k_)) (.slice A2 l2.length c2) l2 from Kd.V_mono hs2 (fun k_ hk => .inl hk))
  have HB := Aside0.mk (Below.refl w.heap.size w)
  have H : (if 0 ≤ a1 then (if 0 ≤ (mx (wrap64 (a3 * (shr .i64 (l2.length : Int) a1))) a0) then (if (mx (wrap64 (a3 * (shr .i64 (l2.length : Int) a1))) a0) ≤ (wrap64 ((wrap64 (a3 + 1)) * (shr .i64 (l2.length : Int) a1))) then (if (wrap64 ((wrap64 (a3 + 1)) * (shr .i64 (l2.length : Int) a1))) ≤ (l2.length : Int) then (some ((l2.take ((wrap64 ((wrap64 (a3 + 1)) * (shr .i64 (l2.length : Int) a1))) : Int).toNat).drop ((mx (wrap64 (a3 * (shr .i64 (l2.length : Int) a1))) a0) : Int).toNat)) else (none)) else (none)) else (none)) else (none)) = some r := h
  clear h
  by_cases c5 : 0 ≤ a1
  rotate_left
  · rw [if_neg c5] at H
    exact absurd H (by simp)
  rw [if_pos c5] at H
  have c5b0 := eq_true c5
  have c5b1 : decide (0 ≤ a1) = true := decide_eq_true c5
  clear c5
  obtain ⟨ji6, hji6⟩ : ∃ j_ : Int, (shr .i64 (l2.length : Int) a1) = j_ := ⟨_, rfl⟩
  replace H : (if 0 ≤ (mx (wrap64 (a3 * (ji6))) a0) then (if (mx (wrap64 (a3 * (ji6))) a0) ≤ (wrap64 ((wrap64 (a3 + 1)) * (ji6))) then (if (wrap64 ((wrap64 (a3 + 1)) * (ji6))) ≤ (l2.length : Int) then (some ((l2.take ((wrap64 ((wrap64 (a3 + 1)) * (ji6))) : Int).toNat).drop ((mx (wrap64 (a3 * (ji6))) a0) : Int).toNat)) else (none)) else (none)) else (none)) = some r := by first | (rw [hji6] at H; exact H) | (simp only [hji6] at H ⊢; exact H)
  have hji6_ : ((l2.length : Int) / 2 ^ min a1.toNat 64) = ji6 := hji6
  have hji6z : a1 ≤ 64 → ((l2.length : Int) / 2 ^ a1.toNat) = ji6 := shr_small hji6
  obtain ⟨ji7, hji7⟩ : ∃ j_ : Int, (mx (wrap64 (a3 * (ji6))) a0) = j_ := ⟨_, rfl⟩
  replace H : (if 0 ≤ (ji7) then (if (ji7) ≤ (wrap64 ((wrap64 (a3 + 1)) * (ji6))) then (if (wrap64 ((wrap64 (a3 + 1)) * (ji6))) ≤ (l2.length : Int) then (some ((l2.take ((wrap64 ((wrap64 (a3 + 1)) * (ji6))) : Int).toNat).drop ((ji7) : Int).toNat)) else (none)) else (none)) else (none)) = some r := by first | (rw [hji7] at H; exact H) | (simp only [hji7] at H ⊢; exact H)
  have hji7_ : (if (wrap64 (a3 * (ji6))) < a0 then a0 else (wrap64 (a3 * (ji6)))) = ji7 := hji7
  by_cases c8 : 0 ≤ (ji7)
  rotate_left
  · rw [if_neg c8] at H
    exact absurd H (by simp)
  rw [if_pos c8] at H
  have c8b0 := eq_true c8
  have c8b1 : decide (0 ≤ (ji7)) = true := decide_eq_true c8
  clear c8
  by_cases c9 : (ji7) ≤ (wrap64 ((wrap64 (a3 + 1)) * (ji6)))
  rotate_left
  · rw [if_neg c9] at H
    exact absurd H (by simp)
  rw [if_pos c9] at H
  have c9b0 := eq_true c9
  have c9b1 : decide ((ji7) ≤ (wrap64 ((wrap64 (a3 + 1)) * (ji6)))) = true := decide_eq_true c9
  by_cases c10 : (wrap64 ((wrap64 (a3 + 1)) * (ji6))) ≤ (l2.length : Int)
  rotate_left
  · rw [if_neg c10] at H
    exact absurd H (by simp)
  rw [if_pos c10] at H
  have c10b0 := eq_true c10
  have c10b1 : decide ((wrap64 ((wrap64 (a3 + 1)) * (ji6))) ≤ (l2.length : Int)) = true := decide_eq_true c10
  obtain ⟨y181, hy181⟩ : ∃ y_ : List Int, y_ = ((l2.take ((wrap64 ((wrap64 (a3 + 1)) * (ji6))) : Int).toNat).drop ((ji7) : Int).toNat) := ⟨_, rfl⟩
  replace H : (some y181) = some r := by first | (rw [hy181]; with_reducible exact H) | (have H2_ := (Option.bind_some _ _).symm.trans H; rw [hy181]; with_reducible exact H2_) | (have H2_ := (Option.bind_some _ _).symm.trans H; with_reducible exact H2_) | with_reducible exact H | (rw [hy181]; exact H) | exact H
  have Ny181 := Aside0.mk hy181
  clear hy181
  obtain rfl := Option.some.inj H
  have q11 : ((wrap64 ((wrap64 (a3 + 1)) * (ji6))) : Int) ≤ ((l2.length : Int) : Int) := of_decide_eq_true (by first | (with_reducible assumption) | assumption)
  obtain ⟨i011, hi011, _, hsz11, _⟩ := info_parts info3
  have hroom11 : l2.length ≤ c2 := (Kd.V_reads' HO2.out).2.1
  have hC11 : Kd.F (Kd.int .i64) _ _ A2 l2.length l2 := (Kd.V_at (base := w.heap.size) HO2.out).2.2
  have ql11 : ((ji7) : Int) ≤ ((wrap64 ((wrap64 (a3 + 1)) * (ji6))) : Int) := of_decide_eq_true (by first | (with_reducible assumption) | assumption)
  have q011 : (0 : Int) ≤ ((ji7) : Int) := of_decide_eq_true (by first | (with_reducible assumption) | assumption)
  have hcut11 := cut_mid (P := Try.prog) 22 3 .i64 .i64 Try.underlying22 hi011 1 hsz11 A2 l2.length c2 (ji7) (wrap64 ((wrap64 (a3 + 1)) * (ji6))) q011 ql11 q11 hroom11
  have hr11 := Kd.F_mid (lo := ((ji7) : Int).toNat) (hi := ((wrap64 ((wrap64 (a3 + 1)) * (ji6))) : Int).toNat) (c := c2) hC11 (by omega) (by omega) hroom11
  obtain ⟨A11, hA11⟩ : ∃ A1, A1 = (if c2 = ((ji7) : Int).toNat then A2 else (A2 : Option Addr).map (·.add (((ji7) : Int).toNat * 1))) := ⟨_, rfl⟩
  obtain ⟨c11, hc11⟩ : ∃ c1, c1 = c2 - ((ji7) : Int).toNat := ⟨_, rfl⟩
  have hy11 : y181.length = ((wrap64 ((wrap64 (a3 + 1)) * (ji6))) : Int).toNat - ((ji7) : Int).toNat := (by rw [Ny181.out, List.length_drop, List.length_take] <;> omega)
  rw [show ((l2).take ((wrap64 ((wrap64 (a3 + 1)) * (ji6))) : Int).toNat).drop ((ji7) : Int).toNat = y181 from Ny181.out.symm] at hr11
  replace hr11 : Kd.F (Kd.int .i64) _ _ A11 y181.length y181 := (by rw [hA11]; exact hr11)
  rw [← hy11, ← hA11, ← hc11] at hcut11
  have HO185 := Aside0.mk (show Kd.V (Kd.int .i64) 3 _ w.heap.size _ (.slice A11 y181.length c11) y181 from Kd.V_mk (by rw [hy11, hc11]; exact Nat.sub_le_sub_right (Nat.le_trans (by omega) hroom11) _) hr11)
  have HC185 := Aside0.mk (show y181.length ≤ c11 from by rw [hy11, hc11]; exact Nat.sub_le_sub_right (Nat.le_trans (by omega) hroom11) _)
  clear hr11 hC11 hroom11 hi011 hsz11 hc11
  have KY11 := Aside0.mk hy11
  have KA11 := Aside0.mk hA11
  clear hy11 hA11
  replace q11 := eq_true q11
  go_enter Try.func81, Try.ntmps81
  go_wp2
  go_ret
  exact ⟨_, by first | rfl | (simp [errW_none, errW_some] <;> rfl) | (simp only [← hji6, ← hji7]; first | rfl | (simp [errW_none, errW_some] <;> rfl)) | (simp [*, errW_none, errW_some] <;> rfl), by (with_reducible repeat (first | apply Kd.V_alloc | apply Kd.V_drewN | apply Kd.V_drew)); exact HO185.out, by repeat (first | (with_reducible first | exact HB.out | apply below_alloc | apply pw_below_drewN | apply below_drew1) | exact HB.out)⟩

/-! ### impl_Fold: function 163 -/
def impl_Fold.f (a0 : Int) : Option (Int) := some (Go.bits .xor .u64 (IntKind.u64.wrap ((IntKind.u64.wrap (a0)) * 2)) (IntKind.u64.wrap (a0 / 9223372036854775808)))
set_option maxHeartbeats 8000000 in
set_option maxRecDepth 100000 in
theorem impl_Fold.calls (a0 : Int) (r : Int) (w : World) (h : impl_Fold.f a0 = some r) :
    Calls Try.prog 163 #[.int .i64 a0] w fun e w' => e = .returned (.int .u64 r) ∧ Drawn0 w w' := by
  have H : (some (Go.bits .xor .u64 (IntKind.u64.wrap ((IntKind.u64.wrap (a0)) * 2)) (IntKind.u64.wrap (a0 / 9223372036854775808)))) = some r := h
  clear h
  obtain rfl := Option.some.inj H
  go_enter Try.func163, Try.ntmps163
  go_wp2
  go_ret
  exact ⟨by first | rfl | (simp; done) | (simp [*]; done), by repeat (first | exact Drawn0.refl _ | apply Drawn0.step)⟩

/-! ### impl_zkeyCost: function 82 -/
def impl_zkeyCost.l0 : Nat → Int → Int → List Int → Int → Int → Option (Int)
  | 0, _, _, _, _, _ => none
  | k + 1, x0, x5, x14, x15, x16 => if x16 < x15 then (if 0 ≤ x16 then (if x16 < (x14.length : Int) then ((impl_Fold.f (rd x14 x16)).bind fun t187 => (if 0 ≤ x0 then (impl_zkeyCost.l0 k x0 (wrap64 (x5 + (wrap64 ((wrap64 ((wrap64 (shr .u64 t187 x0)) + 1)) + x0)))) x14 x15 (wrap64 (x16 + 1))) else (none))) else (none)) else (none)) else (some x5)
def impl_zkeyCost.f (k : Nat) (a0 : Int) (l1 : List Int) : Option (Int) := if a0 = 25 then (some (wrap64 (5 + (wrap64 (32 * (l1.length : Int)))))) else (impl_zkeyCost.l0 k a0 5 l1 (l1.length : Int) 0)
theorem impl_zkeyCost.mono_l : ∀ k, (∀ y0 y1 y2 y3 y4, LeO (impl_zkeyCost.l0 k y0 y1 y2 y3 y4) (impl_zkeyCost.l0 (k + 1) y0 y1 y2 y3 y4))
  | 0 => fun _ _ _ _ _ r h => by simp [impl_zkeyCost.l0] at h
  | k + 1 => by
    have ih0 := impl_zkeyCost.mono_l k
    · intro y0 y1 y2 y3 y4
      unfold impl_zkeyCost.l0
      repeat' first
      | (with_reducible exact ih0 _ _ _ _ _)
      | (with_reducible exact LeO.refl _)
      | (with_reducible exact LeO.none _)
      | (with_reducible refine LeO.ite ?_ ?_)
      | (with_reducible refine LeO.bind ?_ (fun _ => ?_))
      | exact ih0 _ _ _ _ _
      | exact LeO.none _
      | refine LeO.ite ?_ ?_
      | refine LeO.bind ?_ (fun _ => ?_)
theorem impl_zkeyCost.mono : ∀ a0 a1 k, LeO (impl_zkeyCost.f k a0 a1) (impl_zkeyCost.f (k + 1) a0 a1) := by
  intro a0 a1 k
  have ih0 := impl_zkeyCost.mono_l k
  unfold impl_zkeyCost.f
  repeat' first
      | (with_reducible exact ih0 _ _ _ _ _)
      | (with_reducible exact LeO.refl _)
      | (with_reducible exact LeO.none _)
      | (with_reducible refine LeO.ite ?_ ?_)
      | (with_reducible refine LeO.bind ?_ (fun _ => ?_))
      | exact ih0 _ _ _ _ _
      | exact LeO.none _
      | refine LeO.ite ?_ ?_
      | refine LeO.bind ?_ (fun _ => ?_)
set_option maxHeartbeats 8000000 in
set_option maxRecDepth 100000 in
theorem impl_zkeyCost.calls (k : Nat) (a0 : Int) (A1 : Option Addr) (c1 : Nat) (l1 : List Int) (r : Int) (w : World) (hr1 : Kd.C (Kd.int .i64) w A1 l1.length l1) (hc1 : l1.length ≤ c1) (h : impl_zkeyCost.f k a0 l1 = some r) :
    Calls Try.prog 82 #[.int .i64 a0, .slice A1 l1.length c1] w fun e w' => e = .returned (.int .i64 r) ∧ Drawn0 w w' := by
  have HR1 := Aside0.mk hr1
  have HC1 := Aside0.mk hc1
  clear hr1 hc1
  have H : (if a0 = 25 then (some (wrap64 (5 + (wrap64 (32 * (l1.length : Int)))))) else (impl_zkeyCost.l0 k a0 5 l1 (l1.length : Int) 0)) = some r := h
  clear h
  by_cases c3 : a0 = 25
  · rw [if_pos c3] at H
    have c3b0 : (a0 == 25) = true := beq_iff_eq.mpr c3
    have c3b1 : (a0 != 25) = false := bne_eq_false_iff_eq.mpr c3
    clear c3
    obtain rfl := Option.some.inj H
    go_enter Try.func82, Try.ntmps82
    go_wp2
    go_ret
    exact ⟨by first | rfl | (simp; done) | (simp [*]; done), by repeat (first | exact Drawn0.refl _ | apply Drawn0.step)⟩
  rw [if_neg c3] at H
  have c3b0 : (a0 == 25) = false := beq_eq_false_iff_ne.mpr c3
  have c3b1 : (a0 != 25) = true := bne_iff_ne.mpr c3
  have H' := Aside0.mk H
  clear H
  go_enter Try.func82, Try.ntmps82
  go_wp2
  go_loopg [5, 16] k (fun kq v5 v16 w' => ∃ (x5_1 : Int) (x16_1 : Int), v5 = .int .i64 x5_1 ∧ v16 = .int .i64 x16_1 ∧ Aside0 (impl_zkeyCost.l0 kq a0 x5_1 l1 (l1.length : Int) x16_1 = some r) ∧ Aside0 (kq ≤ k) ∧ Drawn0 w w')
  case atStart => exact ⟨(5), (0), (by first | rfl | (simp; done) | (simp [*]; done)), (by first | rfl | (simp; done) | (simp [*]; done)), H', ⟨Nat.le_refl _⟩, by repeat (first | exact Drawn0.refl _ | apply Drawn0.step)⟩
  case round =>
    clear H'
    try clear c1
    try clear p2
    try clear c3
    try clear c3b0
    try clear c3b1
    obtain ⟨x5_1, x16_1, rfl, rfl, HA, HK1, ⟨m1, rfl⟩⟩ := hrel
    cases gk with
    | zero => exact absurd HA.out (by simp [impl_zkeyCost.l0])
    | succ k1 =>
      have H := HA.out
      clear HA
      simp only [impl_zkeyCost.l0] at H
      by_cases c4 : x16_1 < (l1.length : Int)
      rotate_left
      · rw [if_neg c4] at H
        have c4b0 : decide (x16_1 < (l1.length : Int)) = false := decide_eq_false c4
        clear c4
        obtain rfl := Option.some.inj H
        go_wp2
        go_ret
        exact ⟨by first | rfl | (simp; done) | (simp [*]; done), by repeat (first | exact Drawn0.refl _ | apply Drawn0.step)⟩
      rw [if_pos c4] at H
      have c4b0 : decide (x16_1 < (l1.length : Int)) = true := decide_eq_true c4
      clear c4
      by_cases c5 : 0 ≤ x16_1
      rotate_left
      · rw [if_neg c5] at H
        exact absurd H (by simp)
      rw [if_pos c5] at H
      have c5b0 : decide (0 ≤ x16_1) = true := decide_eq_true c5
      clear c5
      by_cases c6 : x16_1 < (l1.length : Int)
      rotate_left
      · rw [if_neg c6] at H
        exact absurd H (by simp)
      rw [if_pos c6] at H
      have c6b0 : decide (x16_1 < (l1.length : Int)) = true := decide_eq_true c6
      clear c6
      replace H := Option.bind_eq_some_iff.mp H
      obtain ⟨t187, A70, H⟩ := H
      replace H : (if 0 ≤ a0 then (impl_zkeyCost.l0 k1 a0 (wrap64 (x5_1 + (wrap64 ((wrap64 ((wrap64 (shr .u64 t187 a0)) + 1)) + a0)))) l1 (l1.length : Int) (wrap64 (x16_1 + 1))) else (none)) = some r := H
      have A7 := Aside0.mk A70
      clear A70
      by_cases c8 : 0 ≤ a0
      rotate_left
      · rw [if_neg c8] at H
        exact absurd H (by simp)
      rw [if_pos c8] at H
      have c8b0 := eq_true c8
      have c8b1 : decide (0 ≤ a0) = true := decide_eq_true c8
      clear c8
      obtain ⟨ji9, hji9⟩ : ∃ j_ : Int, (shr .u64 t187 a0) = j_ := ⟨_, rfl⟩
      replace H : (impl_zkeyCost.l0 k1 a0 (wrap64 (x5_1 + (wrap64 ((wrap64 ((wrap64 (ji9)) + 1)) + a0)))) l1 (l1.length : Int) (wrap64 (x16_1 + 1))) = some r := by first | (rw [hji9] at H; exact H) | (simp only [hji9] at H ⊢; exact H)
      (try rw [hji9] at A7)
      have hji9_ : (t187 / 2 ^ min a0.toNat 64) = ji9 := hji9
      have hji9z : a0 ≤ 64 → (t187 / 2 ^ a0.toNat) = ji9 := shr_small hji9
      have H' := Aside0.mk H
      clear H
      have p186 : 0 ≤ (x16_1 : Int) := of_decide_eq_true (by first | (with_reducible assumption) | assumption)
      have q186 : x16_1 < (l1.length : Int) := of_decide_eq_true (by first | (with_reducible assumption) | assumption)
      obtain ⟨ad186, e186, hx186_0⟩ := Kd.at_int HR1.out x16_1 p186 q186
      cases e186
      replace p186 := eq_true p186
      replace q186 := eq_true q186
      go_wp2_with (first | ((with_reducible refine gate_callee (f := 163) rfl ?_); refine goesL_ (some 22) rfl rfl Try.func163 (by kernel_rfl) rfl #[.int .i64 (rd l1 x16_1)] rfl (by (try simp only [List.map_toArray, List.map_cons, List.map_nil]); first | done | rfl | (simp only [List.length_drop, List.length_take]; rfl)) ?_; (with_reducible refine (impl_Fold.calls (rd l1 x16_1) t187 _ A7.out).mono ?_); rintro e w' ⟨rfl, ⟨nd, rfl⟩⟩; refine ⟨_, rfl, ?_⟩))
      go_roundg k1
      case measure => have := HK1.out; omega
      case rel => exact ⟨(wrap64 (x5_1 + (wrap64 ((wrap64 ((wrap64 (ji9)) + 1)) + a0)))), (wrap64 (x16_1 + 1)), (by first | rfl | (simp; done) | (simp only [← hji9] <;> (first | rfl | simp)) | (simp [*]; done)), (by first | rfl | (simp; done) | (simp [*]; done)), H', ⟨by have := HK1.out; omega⟩, by repeat (first | exact Drawn0.refl _ | apply Drawn0.step)⟩

/-! ### impl_BestPlan: function 15 -/
mutual
def impl_BestPlan.l0 : Nat → List Int → Int → Int → Int → Int → List Int → Option (Int × Int × List Int)
  | 0, _, _, _, _, _, _ => none
  | k + 1, x0, x4, x5, x190000, x190001, x190002 => if x5 ≤ 4 then ((impl_Residue.f k x5 x0).bind fun t191 => (impl_BestPlan.l1 k x0 x4 x5 t191 0 x190000 x190001 x190002)) else (some (x190000, x190001, x190002))
def impl_BestPlan.l1 : Nat → List Int → Int → Int → List Int → Int → Int → Int → List Int → Option (Int × Int × List Int)
  | 0, _, _, _, _, _, _, _, _ => none
  | k + 1, x0, x4, x5, x6, x7, x190000, x190001, x190002 => if x7 ≤ 4 then ((impl_zfits.f x5 x7 (x0.length : Int)).bind fun t194 => (if t194 = true then (if 0 ≤ x7 then (impl_BestPlan.l2 k x0 x4 x5 x6 x7 (wrap64 (6 + (wrap64 (26 * x5)))) (shl .i64 1 x7) 0 x190000 x190001 x190002 x5 x7 ([] : List Int)) else (none)) else (impl_BestPlan.l1 k x0 x4 x5 x6 (wrap64 (x7 + 1)) x190000 x190001 x190002))) else (impl_BestPlan.l0 k x0 x4 (wrap64 (x5 + 1)) x190000 x190001 x190002)
def impl_BestPlan.l2 : Nat → List Int → Int → Int → List Int → Int → Int → Int → Int → Int → Int → List Int → Int → Int → List Int → Option (Int × Int × List Int)
  | 0, _, _, _, _, _, _, _, _, _, _, _, _, _, _ => none
  | k + 1, x0, x4, x5, x6, x7, x9, x44, x45, x190000, x190001, x190002, x196000, x196001, x196002 => if x45 < x44 then ((impl_zpart.f x5 x7 x6 x45).bind fun t196 => (impl_BestPlan.l3 k x0 x4 x5 x6 x7 x9 t196 0 (-1) 0 x44 x45 x190000 x190001 x190002 x196000 x196001 x196002)) else (if x4 < 0 then (impl_BestPlan.l1 k x0 x9 x5 x6 (wrap64 (x7 + 1)) x196000 x196001 x196002) else (if x9 < x4 then (impl_BestPlan.l1 k x0 x9 x5 x6 (wrap64 (x7 + 1)) x196000 x196001 x196002) else (impl_BestPlan.l1 k x0 x4 x5 x6 (wrap64 (x7 + 1)) x190000 x190001 x190002)))
def impl_BestPlan.l3 : Nat → List Int → Int → Int → List Int → Int → Int → List Int → Int → Int → Int → Int → Int → Int → Int → List Int → Int → Int → List Int → Option (Int × Int × List Int)
  | 0, _, _, _, _, _, _, _, _, _, _, _, _, _, _, _, _, _, _ => none
  | k + 1, x0, x4, x5, x6, x7, x9, x11, x12, x13, x14, x44, x45, x190000, x190001, x190002, x196000, x196001, x196002 => if x14 ≤ 25 then ((impl_zkeyCost.f k x14 x11).bind fun t199 => (if x13 < 0 then (impl_BestPlan.l3 k x0 x4 x5 x6 x7 x9 x11 x14 t199 (wrap64 (x14 + 1)) x44 x45 x190000 x190001 x190002 x196000 x196001 x196002) else (if t199 < x13 then (impl_BestPlan.l3 k x0 x4 x5 x6 x7 x9 x11 x14 t199 (wrap64 (x14 + 1)) x44 x45 x190000 x190001 x190002 x196000 x196001 x196002) else (impl_BestPlan.l3 k x0 x4 x5 x6 x7 x9 x11 x12 x13 (wrap64 (x14 + 1)) x44 x45 x190000 x190001 x190002 x196000 x196001 x196002)))) else (if x196002.length < 17592186044416 then (impl_BestPlan.l2 k x0 x4 x5 x6 x7 (wrap64 (x9 + x13)) x44 (wrap64 (x45 + 1)) x190000 x190001 x190002 x196000 x196001 (x196002 ++ [x12])) else (none))
end
def impl_BestPlan.f (k : Nat) (l0 : List Int) : Option (Int × Int × List Int) := (impl_zlist.f k l0).bind fun t190 => (if t190 = true then (impl_BestPlan.l0 k l0 (-1) 0 0 0 ([] : List Int)) else (some (0, 0, ([] : List Int))))
theorem impl_BestPlan.mono_l : ∀ k, (∀ y0 y1 y2 y3 y4 y5, LeO (impl_BestPlan.l0 k y0 y1 y2 y3 y4 y5) (impl_BestPlan.l0 (k + 1) y0 y1 y2 y3 y4 y5)) ∧ (∀ y0 y1 y2 y3 y4 y5 y6 y7, LeO (impl_BestPlan.l1 k y0 y1 y2 y3 y4 y5 y6 y7) (impl_BestPlan.l1 (k + 1) y0 y1 y2 y3 y4 y5 y6 y7)) ∧ (∀ y0 y1 y2 y3 y4 y5 y6 y7 y8 y9 y10 y11 y12 y13, LeO (impl_BestPlan.l2 k y0 y1 y2 y3 y4 y5 y6 y7 y8 y9 y10 y11 y12 y13) (impl_BestPlan.l2 (k + 1) y0 y1 y2 y3 y4 y5 y6 y7 y8 y9 y10 y11 y12 y13)) ∧ (∀ y0 y1 y2 y3 y4 y5 y6 y7 y8 y9 y10 y11 y12 y13 y14 y15 y16 y17, LeO (impl_BestPlan.l3 k y0 y1 y2 y3 y4 y5 y6 y7 y8 y9 y10 y11 y12 y13 y14 y15 y16 y17) (impl_BestPlan.l3 (k + 1) y0 y1 y2 y3 y4 y5 y6 y7 y8 y9 y10 y11 y12 y13 y14 y15 y16 y17))
  | 0 => ⟨fun _ _ _ _ _ _ r h => by simp [impl_BestPlan.l0] at h, fun _ _ _ _ _ _ _ _ r h => by simp [impl_BestPlan.l1] at h, fun _ _ _ _ _ _ _ _ _ _ _ _ _ _ r h => by simp [impl_BestPlan.l2] at h, fun _ _ _ _ _ _ _ _ _ _ _ _ _ _ _ _ _ _ r h => by simp [impl_BestPlan.l3] at h⟩
  | k + 1 => by
    obtain ⟨ih0, ih1, ih2, ih3⟩ := impl_BestPlan.mono_l k
    refine ⟨?_, ?_, ?_, ?_⟩
    · intro y0 y1 y2 y3 y4 y5
      unfold impl_BestPlan.l0
      repeat' first
      | (with_reducible exact ih0 _ _ _ _ _ _)
      | (with_reducible exact ih1 _ _ _ _ _ _ _ _)
      | (with_reducible exact ih2 _ _ _ _ _ _ _ _ _ _ _ _ _ _)
      | (with_reducible exact ih3 _ _ _ _ _ _ _ _ _ _ _ _ _ _ _ _ _ _)
      | (with_reducible exact impl_Residue.mono _ _ _)
      | (with_reducible exact impl_zkeyCost.mono _ _ _)
      | (with_reducible exact impl_zlist.mono _ _)
      | (with_reducible exact LeO.refl _)
      | (with_reducible exact LeO.none _)
      | (with_reducible refine LeO.ite ?_ ?_)
      | (with_reducible refine LeO.bind ?_ (fun _ => ?_))
      | exact ih0 _ _ _ _ _ _
      | exact ih1 _ _ _ _ _ _ _ _
      | exact ih2 _ _ _ _ _ _ _ _ _ _ _ _ _ _
      | exact ih3 _ _ _ _ _ _ _ _ _ _ _ _ _ _ _ _ _ _
      | exact impl_Residue.mono _ _ _
      | exact impl_zkeyCost.mono _ _ _
      | exact impl_zlist.mono _ _
      | exact LeO.none _
      | refine LeO.ite ?_ ?_
      | refine LeO.bind ?_ (fun _ => ?_)
    · intro y0 y1 y2 y3 y4 y5 y6 y7
      unfold impl_BestPlan.l1
      repeat' first
      | (with_reducible exact ih0 _ _ _ _ _ _)
      | (with_reducible exact ih1 _ _ _ _ _ _ _ _)
      | (with_reducible exact ih2 _ _ _ _ _ _ _ _ _ _ _ _ _ _)
      | (with_reducible exact ih3 _ _ _ _ _ _ _ _ _ _ _ _ _ _ _ _ _ _)
      | (with_reducible exact impl_Residue.mono _ _ _)
      | (with_reducible exact impl_zkeyCost.mono _ _ _)
      | (with_reducible exact impl_zlist.mono _ _)
      | (with_reducible exact LeO.refl _)
      | (with_reducible exact LeO.none _)
      | (with_reducible refine LeO.ite ?_ ?_)
      | (with_reducible refine LeO.bind ?_ (fun _ => ?_))
      | exact ih0 _ _ _ _ _ _
      | exact ih1 _ _ _ _ _ _ _ _
      | exact ih2 _ _ _ _ _ _ _ _ _ _ _ _ _ _
      | exact ih3 _ _ _ _ _ _ _ _ _ _ _ _ _ _ _ _ _ _
      | exact impl_Residue.mono _ _ _
      | exact impl_zkeyCost.mono _ _ _
      | exact impl_zlist.mono _ _
      | exact LeO.none _
      | refine LeO.ite ?_ ?_
      | refine LeO.bind ?_ (fun _ => ?_)
    · intro y0 y1 y2 y3 y4 y5 y6 y7 y8 y9 y10 y11 y12 y13
      unfold impl_BestPlan.l2
      repeat' first
      | (with_reducible exact ih0 _ _ _ _ _ _)
      | (with_reducible exact ih1 _ _ _ _ _ _ _ _)
      | (with_reducible exact ih2 _ _ _ _ _ _ _ _ _ _ _ _ _ _)
      | (with_reducible exact ih3 _ _ _ _ _ _ _ _ _ _ _ _ _ _ _ _ _ _)
      | (with_reducible exact impl_Residue.mono _ _ _)
      | (with_reducible exact impl_zkeyCost.mono _ _ _)
      | (with_reducible exact impl_zlist.mono _ _)
      | (with_reducible exact LeO.refl _)
      | (with_reducible exact LeO.none _)
      | (with_reducible refine LeO.ite ?_ ?_)
      | (with_reducible refine LeO.bind ?_ (fun _ => ?_))
      | exact ih0 _ _ _ _ _ _
      | exact ih1 _ _ _ _ _ _ _ _
      | exact ih2 _ _ _ _ _ _ _ _ _ _ _ _ _ _
      | exact ih3 _ _ _ _ _ _ _ _ _ _ _ _ _ _ _ _ _ _
      | exact impl_Residue.mono _ _ _
      | exact impl_zkeyCost.mono _ _ _
      | exact impl_zlist.mono _ _
      | exact LeO.none _
      | refine LeO.ite ?_ ?_
      | refine LeO.bind ?_ (fun _ => ?_)
    · intro y0 y1 y2 y3 y4 y5 y6 y7 y8 y9 y10 y11 y12 y13 y14 y15 y16 y17
      unfold impl_BestPlan.l3
      repeat' first
      | (with_reducible exact ih0 _ _ _ _ _ _)
      | (with_reducible exact ih1 _ _ _ _ _ _ _ _)
      | (with_reducible exact ih2 _ _ _ _ _ _ _ _ _ _ _ _ _ _)
      | (with_reducible exact ih3 _ _ _ _ _ _ _ _ _ _ _ _ _ _ _ _ _ _)
      | (with_reducible exact impl_Residue.mono _ _ _)
      | (with_reducible exact impl_zkeyCost.mono _ _ _)
      | (with_reducible exact impl_zlist.mono _ _)
      | (with_reducible exact LeO.refl _)
      | (with_reducible exact LeO.none _)
      | (with_reducible refine LeO.ite ?_ ?_)
      | (with_reducible refine LeO.bind ?_ (fun _ => ?_))
      | exact ih0 _ _ _ _ _ _
      | exact ih1 _ _ _ _ _ _ _ _
      | exact ih2 _ _ _ _ _ _ _ _ _ _ _ _ _ _
      | exact ih3 _ _ _ _ _ _ _ _ _ _ _ _ _ _ _ _ _ _
      | exact impl_Residue.mono _ _ _
      | exact impl_zkeyCost.mono _ _ _
      | exact impl_zlist.mono _ _
      | exact LeO.none _
      | refine LeO.ite ?_ ?_
      | refine LeO.bind ?_ (fun _ => ?_)
theorem impl_BestPlan.mono : ∀ a0 k, LeO (impl_BestPlan.f k a0) (impl_BestPlan.f (k + 1) a0) := by
  intro a0 k
  obtain ⟨ih0, ih1, ih2, ih3⟩ := impl_BestPlan.mono_l k
  unfold impl_BestPlan.f
  repeat' first
      | (with_reducible exact ih0 _ _ _ _ _ _)
      | (with_reducible exact ih1 _ _ _ _ _ _ _ _)
      | (with_reducible exact ih2 _ _ _ _ _ _ _ _ _ _ _ _ _ _)
      | (with_reducible exact ih3 _ _ _ _ _ _ _ _ _ _ _ _ _ _ _ _ _ _)
      | (with_reducible exact impl_Residue.mono _ _ _)
      | (with_reducible exact impl_zkeyCost.mono _ _ _)
      | (with_reducible exact impl_zlist.mono _ _)
      | (with_reducible exact LeO.refl _)
      | (with_reducible exact LeO.none _)
      | (with_reducible refine LeO.ite ?_ ?_)
      | (with_reducible refine LeO.bind ?_ (fun _ => ?_))
      | exact ih0 _ _ _ _ _ _
      | exact ih1 _ _ _ _ _ _ _ _
      | exact ih2 _ _ _ _ _ _ _ _ _ _ _ _ _ _
      | exact ih3 _ _ _ _ _ _ _ _ _ _ _ _ _ _ _ _ _ _
      | exact impl_Residue.mono _ _ _
      | exact impl_zkeyCost.mono _ _ _
      | exact impl_zlist.mono _ _
      | exact LeO.none _
      | refine LeO.ite ?_ ?_
      | refine LeO.bind ?_ (fun _ => ?_)
set_option maxHeartbeats 8000000 in
set_option maxRecDepth 100000 in
theorem impl_BestPlan.calls (k : Nat) (A0 : Option Addr) (c0 : Nat) (l0 : List Int) (r1 : Int) (r2 : Int) (r3 : List Int) (w : World) (hr0 : Kd.C (Kd.int .i64) w A0 l0.length l0) (hc0 : l0.length ≤ c0) (h : impl_BestPlan.f k l0 = some (r1, r2, r3)) :
    Calls Try.prog 15 #[.slice A0 l0.length c0] w fun e w' => ∃ v2_ : Value, e = .returned (.agg #[.int .i64 r1, .int .i64 r2, v2_]) ∧ Kd.R (Kd.int .i64) 3 w' w.heap.size (fun _ => True) v2_ r3 ∧ Below w.heap.size w w' := by
  have hu24 := Try.underlying24
  have HR0 := Aside0.mk hr0
  have HC0 := Aside0.mk hc0
  clear hr0 hc0
  have HB := Aside0.mk (Below.refl w.heap.size w)
  have H : ((impl_zlist.f k l0).bind fun t190 => (if t190 = true then (impl_BestPlan.l0 k l0 (-1) 0 0 0 ([] : List Int)) else (some (0, 0, ([] : List Int))))) = some (r1, r2, r3) := h
  clear h
  replace H := Option.bind_eq_some_iff.mp H
  obtain ⟨t190, A20, H⟩ := H
  replace H : (if t190 = true then (impl_BestPlan.l0 k l0 (-1) 0 0 0 ([] : List Int)) else (some (0, 0, ([] : List Int)))) = some (r1, r2, r3) := H
  have A2 := Aside0.mk A20
  clear A20
  by_cases c3 : t190 = true
  rotate_left
  · replace c3 := Bool.eq_false_iff.mpr c3
    subst c3
    have H1 : (some (0, 0, ([] : List Int))) = some (r1, r2, r3) := by rw [if_neg (show ¬ (false = true) by decide)] at H; exact H
    clear H
    have H := H1
    clear H1
    simp only [Option.some.injEq, Prod.mk.injEq] at H
    obtain ⟨rfl, rfl, rfl⟩ := H
    go_enter Try.func15, Try.ntmps15
    go_wp2_with (first | ((with_reducible refine gate_dst (N := 2) rfl ?_); refine box_event ?hg (N := 2) ?hd (cs := #[.int .i64 0, .int .i64 0, .slice none 0 0]) (t := 24) ?hr ?_; (case hd => rfl); (case hg => rfl); (case hr => first | (go_simp; done) | (go_simp; rfl)); intro gb188 hg w54 hbox hb; have n0_ := Aside0.mk (below_step (by repeat (first | (with_reducible first | exact HB.out | apply below_alloc | apply pw_below_drewN | apply below_drew1) | exact HB.out)) hb); have n1_ := Aside0.mk (hbox); have n2_ := Aside0.mk ((by rw [hg]; exact (below_size (by repeat (first | (with_reducible first | exact HB.out | apply below_alloc | apply pw_below_drewN | apply below_drew1) | exact HB.out))) : w.heap.size ≤ gb188)); have n3_ := n2_; clear HB; have HB := n0_; have BK188 := n1_; have GW188 := n2_; have GE188 := n3_; clear n0_ n1_ n2_ n3_; clear hb hbox hg) | ((with_reducible refine gate_dst (N := 3) rfl ?_); refine box_event ?hg (N := 3) ?hd (cs := #[.int .i64 0, .int .i64 0, .slice none 0 0]) (t := 24) ?hr ?_; (case hd => rfl); (case hg => rfl); (case hr => first | (go_simp; done) | (go_simp; rfl)); intro gb189 hg w55 hbox hb; have n0_ := Aside0.mk (blk_below (g := gb188) (o := .cells #[.int .i64 0, .int .i64 0, .slice none 0 0] 24 (0, 0)) (by (with_reducible repeat (first | refine blk_drewN ?_ _ | refine blk_drew ?_ | refine blk_alloc ?_ _)); exact BK188.out) hb); have n1_ := Aside0.mk (below_step (by repeat (first | (with_reducible first | exact HB.out | apply below_alloc | apply pw_below_drewN | apply below_drew1 | refine below_set ?_ GE188.out) | exact HB.out)) hb); have n2_ := Aside0.mk (hbox); have n3_ := Aside0.mk ((by rw [hg]; exact (below_size (by repeat (first | (with_reducible first | exact HB.out | apply below_alloc | apply pw_below_drewN | apply below_drew1 | refine below_set ?_ GE188.out) | exact HB.out))) : w.heap.size ≤ gb189)); have n4_ := n3_; have n5_ := Aside0.mk ((by rw [hg]; exact Nat.ne_of_lt (blk_lt (g := gb188) (o := .cells #[.int .i64 0, .int .i64 0, .slice none 0 0] 24 (0, 0)) (by (with_reducible repeat (first | refine blk_drewN ?_ _ | refine blk_drew ?_ | refine blk_alloc ?_ _)); exact BK188.out)) : gb188 ≠ gb189)); have n6_ := Aside0.mk ((by rw [hg]; exact Nat.ne_of_gt (blk_lt (g := gb188) (o := .cells #[.int .i64 0, .int .i64 0, .slice none 0 0] 24 (0, 0)) (by (with_reducible repeat (first | refine blk_drewN ?_ _ | refine blk_drew ?_ | refine blk_alloc ?_ _)); exact BK188.out)) : gb189 ≠ gb188)); clear BK188; clear HB; have BK188 := n0_; have HB := n1_; have BK189 := n2_; have GW189 := n3_; have GE189 := n4_; have NB188_189 := n5_; have NB189_188 := n6_; clear n0_ n1_ n2_ n3_ n4_ n5_ n6_; clear hb hbox hg) | ((with_reducible refine gate_callee (f := 78) rfl ?_); refine goesL_ (some 17) rfl rfl Try.func78 (by kernel_rfl) rfl #[.slice A0 l0.length c0] rfl (by (try simp only [List.map_toArray, List.map_cons, List.map_nil]); first | done | rfl | (simp only [List.length_drop, List.length_take]; rfl)) ?_; (with_reducible refine (impl_zlist.calls k _ _ l0 false _ ?side1 ?side2 A2.out).mono ?_); (case side1 => repeat (first | exact (Kd.C_below HR0.out HB.out) | (with_reducible refine Kd.C_alloc ?_ _) | (with_reducible refine Kd.C_drewN ?_ _) | (with_reducible refine Kd.C_drew ?_))); (case side2 => exact HC0.out); rintro e w' ⟨rfl, ⟨nd, rfl⟩⟩; refine ⟨_, rfl, ?_⟩; (try (rw [drewN_self w55]; generalize hq_ : World.drewN w55 _ = w55; have n0_ : Aside0 (w55.heap[gb188]? = some (.cells #[.int .i64 0, .int .i64 0, .slice none 0 0] 24 (0, 0))) := ⟨by rw [← hq_]; exact (by (with_reducible repeat (first | refine blk_drewN ?_ _ | refine blk_drew ?_ | refine blk_alloc ?_ _)); exact BK188.out)⟩; have n1_ : Aside0 (w55.heap[gb189]? = some (.cells #[.int .i64 0, .int .i64 0, .slice none 0 0] 24 (0, 0))) := ⟨by rw [← hq_]; exact (by (with_reducible repeat (first | refine blk_drewN ?_ _ | refine blk_drew ?_ | refine blk_alloc ?_ _)); exact BK189.out)⟩; have n2_ : Aside0 (Below w.heap.size w w55) := ⟨by rw [← hq_]; exact (by repeat (first | (with_reducible first | exact HB.out | apply below_alloc | apply pw_below_drewN | apply below_drew1 | refine below_set ?_ GE188.out | refine below_set ?_ GE189.out) | exact HB.out))⟩; clear BK188 BK189 HB hq_; have BK188 := n0_; have BK189 := n1_; have HB := n2_; clear n0_ n1_ n2_)); have hnb56 := NB189_188.out; have hnc56 := NB188_189.out; have hcz57_0 : w55.cell? ⟨gb189, 0, none⟩ = some (.int .i64 0) := (blk_cell BK189.out 0).trans rfl; have hcz57_1 : w55.cell? ⟨gb189, 1, none⟩ = some (.int .i64 0) := (blk_cell BK189.out 1).trans rfl; have hcz57_2 : w55.cell? ⟨gb189, 2, none⟩ = some (.slice none 0 0) := (blk_cell BK189.out 2).trans rfl; have hfz57_0 := blk_frozen BK189.out 0; have hfz57_1 := blk_frozen BK189.out 1; have hfz57_2 := blk_frozen BK189.out 2; have hcz58_0 : w55.cell? ⟨gb188, 0, none⟩ = some (.int .i64 0) := (blk_cell BK188.out 0).trans rfl; have hcz58_1 : w55.cell? ⟨gb188, 1, none⟩ = some (.int .i64 0) := (blk_cell BK188.out 1).trans rfl; have hcz58_2 : w55.cell? ⟨gb188, 2, none⟩ = some (.slice none 0 0) := (blk_cell BK188.out 2).trans rfl; have hfz58_0 := blk_frozen BK188.out 0; have hfz58_1 := blk_frozen BK188.out 1; have hfz58_2 := blk_frozen BK188.out 2))
    refine bodyPost_ret (results_cell_row rfl _ _ gb188 24 #[.int .i64 0, .int .i64 0, .slice none 0 0] (0, 0) _ rfl (by (with_reducible repeat (first | refine blk_drewN ?_ _ | refine blk_drew ?_ | refine blk_alloc ?_ _)); refine blk_put (cs := #[.int .i64 0, .int .i64 0, .slice none 0 0]) ?_ 2 _ rfl; (with_reducible repeat (first | refine blk_drewN ?_ _ | refine blk_drew ?_ | refine blk_alloc ?_ _)); refine blk_put (cs := #[.int .i64 0, .int .i64 0, .slice none 0 0]) ?_ 1 _ rfl; (with_reducible repeat (first | refine blk_drewN ?_ _ | refine blk_drew ?_ | refine blk_alloc ?_ _)); refine blk_put (cs := #[.int .i64 0, .int .i64 0, .slice none 0 0]) ?_ 0 _ rfl; (with_reducible repeat (first | refine blk_drewN ?_ _ | refine blk_drew ?_ | refine blk_alloc ?_ _)); exact BK188.out) Try.underlying24 rfl (by kernel_rfl)) rfl ?_
    exact ⟨_, by first | rfl | (simp [errW_none, errW_some] <;> rfl) | (simp [*, errW_none, errW_some] <;> rfl), by first | exact Kd.R_nil _ _ _ _ _ | exact Kd.N_nil _ _ _ _ _ | exact Kd.V_nil _ _ _ _ _ | exact Kd.Q_nil _ _ _ _ _ | exact Kd.S_nil _ _ _ _ _, by repeat (first | (with_reducible first | exact HB.out | apply below_alloc | apply pw_below_drewN | apply below_drew1 | refine below_set ?_ GE188.out | refine below_set ?_ GE189.out) | exact HB.out)⟩
  subst c3
  have H1 : (impl_BestPlan.l0 k l0 (-1) 0 0 0 ([] : List Int)) = some (r1, r2, r3) := by rw [if_pos rfl] at H; exact H
  clear H
  have H := H1
  clear H1
  have H' := Aside0.mk H
  clear H
  go_enter Try.func15, Try.ntmps15
  go_wp2_with (first | ((with_reducible refine gate_dst (N := 2) rfl ?_); refine box_event ?hg (N := 2) ?hd (cs := #[.int .i64 0, .int .i64 0, .slice none 0 0]) (t := 24) ?hr ?_; (case hd => rfl); (case hg => rfl); (case hr => first | (go_simp; done) | (go_simp; rfl)); intro gb188 hg w4 hbox hb; have n0_ := Aside0.mk (below_step (by repeat (first | (with_reducible first | exact HB.out | apply below_alloc | apply pw_below_drewN | apply below_drew1) | exact HB.out)) hb); have n1_ := Aside0.mk (hbox); have n2_ := Aside0.mk ((by rw [hg]; exact (below_size (by repeat (first | (with_reducible first | exact HB.out | apply below_alloc | apply pw_below_drewN | apply below_drew1) | exact HB.out))) : w.heap.size ≤ gb188)); have n3_ := n2_; clear HB; have HB := n0_; have BK188 := n1_; have GW188 := n2_; have GE188 := n3_; clear n0_ n1_ n2_ n3_; clear hb hbox hg) | ((with_reducible refine gate_dst (N := 3) rfl ?_); refine box_event ?hg (N := 3) ?hd (cs := #[.int .i64 0, .int .i64 0, .slice none 0 0]) (t := 24) ?hr ?_; (case hd => rfl); (case hg => rfl); (case hr => first | (go_simp; done) | (go_simp; rfl)); intro gb189 hg w5 hbox hb; have n0_ := Aside0.mk (blk_below (g := gb188) (o := .cells #[.int .i64 0, .int .i64 0, .slice none 0 0] 24 (0, 0)) (by (with_reducible repeat (first | refine blk_drewN ?_ _ | refine blk_drew ?_ | refine blk_alloc ?_ _)); exact BK188.out) hb); have n1_ := Aside0.mk (below_step (by repeat (first | (with_reducible first | exact HB.out | apply below_alloc | apply pw_below_drewN | apply below_drew1 | refine below_set ?_ GE188.out) | exact HB.out)) hb); have n2_ := Aside0.mk (hbox); have n3_ := Aside0.mk ((by rw [hg]; exact (below_size (by repeat (first | (with_reducible first | exact HB.out | apply below_alloc | apply pw_below_drewN | apply below_drew1 | refine below_set ?_ GE188.out) | exact HB.out))) : w.heap.size ≤ gb189)); have n4_ := n3_; have n5_ := Aside0.mk ((by rw [hg]; exact Nat.ne_of_lt (blk_lt (g := gb188) (o := .cells #[.int .i64 0, .int .i64 0, .slice none 0 0] 24 (0, 0)) (by (with_reducible repeat (first | refine blk_drewN ?_ _ | refine blk_drew ?_ | refine blk_alloc ?_ _)); exact BK188.out)) : gb188 ≠ gb189)); have n6_ := Aside0.mk ((by rw [hg]; exact Nat.ne_of_gt (blk_lt (g := gb188) (o := .cells #[.int .i64 0, .int .i64 0, .slice none 0 0] 24 (0, 0)) (by (with_reducible repeat (first | refine blk_drewN ?_ _ | refine blk_drew ?_ | refine blk_alloc ?_ _)); exact BK188.out)) : gb189 ≠ gb188)); clear BK188; clear HB; have BK188 := n0_; have HB := n1_; have BK189 := n2_; have GW189 := n3_; have GE189 := n4_; have NB188_189 := n5_; have NB189_188 := n6_; clear n0_ n1_ n2_ n3_ n4_ n5_ n6_; clear hb hbox hg) | ((with_reducible refine gate_callee (f := 78) rfl ?_); refine goesL_ (some 17) rfl rfl Try.func78 (by kernel_rfl) rfl #[.slice A0 l0.length c0] rfl (by (try simp only [List.map_toArray, List.map_cons, List.map_nil]); first | done | rfl | (simp only [List.length_drop, List.length_take]; rfl)) ?_; (with_reducible refine (impl_zlist.calls k _ _ l0 true _ ?side1 ?side2 A2.out).mono ?_); (case side1 => repeat (first | exact (Kd.C_below HR0.out HB.out) | (with_reducible refine Kd.C_alloc ?_ _) | (with_reducible refine Kd.C_drewN ?_ _) | (with_reducible refine Kd.C_drew ?_))); (case side2 => exact HC0.out); rintro e w' ⟨rfl, ⟨nd, rfl⟩⟩; refine ⟨_, rfl, ?_⟩))
  go_loopg [4, 5] k (fun kq v4 v5 w' => ∃ (x4_1 : Int) (x5_1 : Int) (x190000_1 : Int) (x190001_1 : Int) (x190002_1 : List Int) (u190002 : Value), v4 = .int .i64 x4_1 ∧ v5 = .int .i64 x5_1 ∧ Aside0 (impl_BestPlan.l0 kq l0 x4_1 x5_1 x190000_1 x190001_1 x190002_1 = some (r1, r2, r3)) ∧ Aside0 (kq ≤ k) ∧ Aside0 (Kd.R (Kd.int .i64) 3 w' w.heap.size (fun _ => True) u190002 x190002_1) ∧ Aside0 (w'.heap[gb188]? = some (.cells #[.int .i64 0, .int .i64 0, (.slice none 0 0)] 24 (0, 0))) ∧ Aside0 (w'.heap[gb189]? = some (.cells #[.int .i64 x190000_1, .int .i64 x190001_1, u190002] 24 (0, 0))) ∧ Aside0 (Below w.heap.size w w'))
  case atStart => exact ⟨((-1)), (0), (0), (0), (([] : List Int)), (.slice none 0 0), (by first | rfl | (simp; done) | (simp [*]; done)), (by first | rfl | (simp; done) | (simp [*]; done)), H', ⟨Nat.le_refl _⟩, ⟨by first | exact Kd.R_nil _ _ _ _ _ | exact Kd.N_nil _ _ _ _ _ | exact Kd.V_nil _ _ _ _ _ | exact Kd.Q_nil _ _ _ _ _ | exact Kd.S_nil _ _ _ _ _⟩, ⟨by (with_reducible repeat (first | refine blk_drewN ?_ _ | refine blk_drew ?_ | refine blk_alloc ?_ _)); exact BK188.out⟩, ⟨by (with_reducible repeat (first | refine blk_drewN ?_ _ | refine blk_drew ?_ | refine blk_alloc ?_ _)); exact BK189.out⟩, ⟨by repeat (first | (with_reducible first | exact HB.out | apply below_alloc | apply pw_below_drewN | apply below_drew1 | refine below_set ?_ GE188.out | refine below_set ?_ GE189.out) | exact HB.out)⟩⟩
  case round =>
    clear H'
    try clear c1
    try clear p2
    try clear c3
    obtain ⟨x4_1, x5_1, x190000_1, x190001_1, x190002_1, u190002, rfl, rfl, HA, HK1, HO_190002, BK188, BK189, HB⟩ := hrel
    cases gk with
    | zero => exact absurd HA.out (by simp [impl_BestPlan.l0])
    | succ k1 =>
      have H := HA.out
      clear HA
      simp only [impl_BestPlan.l0] at H
      by_cases c6 : x5_1 ≤ 4
      rotate_left
      · rw [if_neg c6] at H
        have c6b0 : decide (x5_1 ≤ 4) = false := decide_eq_false c6
        clear c6
        simp only [Option.some.injEq, Prod.mk.injEq] at H
        obtain ⟨rfl, rfl, rfl⟩ := H
        have hnb50 := NB189_188.out
        have hnc50 := NB188_189.out
        have hcz51_0 : wr.cell? ⟨gb189, 0, none⟩ = some (.int .i64 x190000_1) := (blk_cell BK189.out 0).trans rfl
        have hcz51_1 : wr.cell? ⟨gb189, 1, none⟩ = some (.int .i64 x190001_1) := (blk_cell BK189.out 1).trans rfl
        have hcz51_2 : wr.cell? ⟨gb189, 2, none⟩ = some (u190002) := (blk_cell BK189.out 2).trans rfl
        have hfz51_0 := blk_frozen BK189.out 0
        have hfz51_1 := blk_frozen BK189.out 1
        have hfz51_2 := blk_frozen BK189.out 2
        have hcz52_0 : wr.cell? ⟨gb188, 0, none⟩ = some (.int .i64 0) := (blk_cell BK188.out 0).trans rfl
        have hcz52_1 : wr.cell? ⟨gb188, 1, none⟩ = some (.int .i64 0) := (blk_cell BK188.out 1).trans rfl
        have hcz52_2 : wr.cell? ⟨gb188, 2, none⟩ = some (.slice none 0 0) := (blk_cell BK188.out 2).trans rfl
        have hfz52_0 := blk_frozen BK188.out 0
        have hfz52_1 := blk_frozen BK188.out 1
        have hfz52_2 := blk_frozen BK188.out 2
        obtain ⟨Ao53, co53, eo53⟩ := Kd.R_slice HO_190002.out
        subst eo53
        go_wp2
        refine bodyPost_ret (results_cell_row rfl _ _ gb188 24 #[.int .i64 x190000_1, .int .i64 x190001_1, .slice Ao53 x190002_1.length co53] (0, 0) _ rfl (by (with_reducible repeat (first | refine blk_drewN ?_ _ | refine blk_drew ?_ | refine blk_alloc ?_ _)); refine blk_put (cs := #[.int .i64 x190000_1, .int .i64 x190001_1, .slice none 0 0]) ?_ 2 _ rfl; (with_reducible repeat (first | refine blk_drewN ?_ _ | refine blk_drew ?_ | refine blk_alloc ?_ _)); refine blk_put (cs := #[.int .i64 x190000_1, .int .i64 0, .slice none 0 0]) ?_ 1 _ rfl; (with_reducible repeat (first | refine blk_drewN ?_ _ | refine blk_drew ?_ | refine blk_alloc ?_ _)); refine blk_put (cs := #[.int .i64 0, .int .i64 0, .slice none 0 0]) ?_ 0 _ rfl; (with_reducible repeat (first | refine blk_drewN ?_ _ | refine blk_drew ?_ | refine blk_alloc ?_ _)); exact BK188.out) Try.underlying24 rfl (by kernel_rfl)) rfl ?_
        exact ⟨_, by first | rfl | (simp [errW_none, errW_some] <;> rfl) | (simp [*, errW_none, errW_some] <;> rfl), by (with_reducible repeat (first | apply Kd.R_alloc | apply Kd.R_drewN | apply Kd.R_drew)); exact Kd.R_mono (Kd.R_far (p := ⟨gb188, 2, none⟩) (Kd.R_far (p := ⟨gb188, 1, none⟩) (Kd.R_far (p := ⟨gb188, 0, none⟩) (Kd.R_types HO_190002.out BK188.out (by decide)) (fun _ hk => hk.2) (.int .i64 x190000_1)) (fun _ hk => hk.2) (.int .i64 x190001_1)) (fun _ hk => hk.2) (.slice Ao53 x190002_1.length co53)) (fun _ hk => trivial), by repeat (first | (with_reducible first | exact HB.out | apply below_alloc | apply pw_below_drewN | apply below_drew1 | refine below_set ?_ GE188.out | refine below_set ?_ GE189.out) | exact HB.out)⟩
      rw [if_pos c6] at H
      have c6b0 : decide (x5_1 ≤ 4) = true := decide_eq_true c6
      clear c6
      replace H := Option.bind_eq_some_iff.mp H
      obtain ⟨t191, A70, H⟩ := H
      replace H : (impl_BestPlan.l1 k1 l0 x4_1 x5_1 t191 0 x190000_1 x190001_1 x190002_1) = some (r1, r2, r3) := H
      have A7 := Aside0.mk A70
      clear A70
      have H' := Aside0.mk H
      clear H
      go_wp2_with (first | ((with_reducible refine gate_callee (f := 79) rfl ?_); refine goesL_ (some 26) rfl rfl Try.func79 (by kernel_rfl) rfl #[.int .i64 x5_1, .slice A0 l0.length c0] rfl (by (try simp only [List.map_toArray, List.map_cons, List.map_nil]); first | done | rfl | (simp only [List.length_drop, List.length_take]; rfl)) ?_; (with_reducible refine (impl_Residue.calls k1 x5_1 _ _ l0 t191 _ ?side1 ?side2 A7.out).mono ?_); (case side1 => repeat (first | exact (Kd.C_below HR0.out HB.out) | (with_reducible refine Kd.C_alloc ?_ _) | (with_reducible refine Kd.C_drewN ?_ _) | (with_reducible refine Kd.C_drew ?_))); (case side2 => exact HC0.out); rintro e w8 ⟨v192, rfl, ho0, hb⟩; refine ⟨_, rfl, ?_⟩; have n0_ := Aside0.mk (Kd.R_elder' (by (with_reducible repeat (first | apply Kd.R_alloc | apply Kd.R_drewN | apply Kd.R_drew)); exact HO_190002.out) (Kd.R_base ho0) hb); have n1_ := Aside0.mk (Kd.R_lower (Kd.R_new' ho0 (Kd.R_lt (by (with_reducible repeat (first | apply Kd.R_alloc | apply Kd.R_drewN | apply Kd.R_drew)); exact HO_190002.out))) (below_size (by repeat (first | (with_reducible first | exact HB.out | apply below_alloc | apply pw_below_drewN | apply below_drew1 | refine below_set ?_ GE188.out | refine below_set ?_ GE189.out) | exact HB.out)))); have n2_ := Aside0.mk (blk_below (g := gb188) (o := .cells #[.int .i64 0, .int .i64 0, .slice none 0 0] 24 (0, 0)) (by (with_reducible repeat (first | refine blk_drewN ?_ _ | refine blk_drew ?_ | refine blk_alloc ?_ _)); exact BK188.out) hb); have n3_ := Aside0.mk (blk_below (g := gb189) (o := .cells #[.int .i64 x190000_1, .int .i64 x190001_1, u190002] 24 (0, 0)) (by (with_reducible repeat (first | refine blk_drewN ?_ _ | refine blk_drew ?_ | refine blk_alloc ?_ _)); exact BK189.out) hb); have n4_ := Aside0.mk (below_step (by repeat (first | (with_reducible first | exact HB.out | apply below_alloc | apply pw_below_drewN | apply below_drew1 | refine below_set ?_ GE188.out | refine below_set ?_ GE189.out) | exact HB.out)) hb); clear HO_190002; clear BK188; clear BK189; clear HB; have HO_190002 := n0_; have HO193 := n1_; have BK188 := n2_; have BK189 := n3_; have HB := n4_; clear n0_ n1_ n2_ n3_ n4_; (try clear hb); (try clear hb2); (try clear hk); (try clear hi); (try clear ho0)))
      go_loopg [4, 7] k1 (fun kq v4 v7 w' => ∃ (x4_2 : Int) (x7_2 : Int) (x190000_2 : Int) (x190001_2 : Int) (x190002_2 : List Int) (u190002 : Value), v4 = .int .i64 x4_2 ∧ v7 = .int .i64 x7_2 ∧ Aside0 (impl_BestPlan.l1 kq l0 x4_2 x5_1 t191 x7_2 x190000_2 x190001_2 x190002_2 = some (r1, r2, r3)) ∧ Aside0 (kq ≤ k1) ∧ Aside0 (Kd.R (Kd.int .i64) 3 w' w.heap.size (fun k_ => some k_ ≠ (u190002 : Value).ownBlock) v192 t191) ∧ Aside0 (Kd.R (Kd.int .i64) 3 w' w.heap.size (fun k_ => some k_ ≠ (v192 : Value).ownBlock) u190002 x190002_2) ∧ Aside0 (w'.heap[gb188]? = some (.cells #[.int .i64 0, .int .i64 0, (.slice none 0 0)] 24 (0, 0))) ∧ Aside0 (w'.heap[gb189]? = some (.cells #[.int .i64 x190000_2, .int .i64 x190001_2, u190002] 24 (0, 0))) ∧ Aside0 (Below w.heap.size w w'))
      case atStart => exact ⟨(x4_1), (0), (x190000_1), (x190001_1), (x190002_1), (u190002), (by first | rfl | (simp; done) | (simp [*]; done)), (by first | rfl | (simp; done) | (simp [*]; done)), H', ⟨Nat.le_refl _⟩, ⟨by (with_reducible repeat (first | apply Kd.R_alloc | apply Kd.R_drewN | apply Kd.R_drew)); exact Kd.R_mono HO193.out (fun _ hk => hk.2)⟩, ⟨by (with_reducible repeat (first | apply Kd.R_alloc | apply Kd.R_drewN | apply Kd.R_drew)); exact Kd.R_mono HO_190002.out (fun _ hk => hk.2)⟩, ⟨by (with_reducible repeat (first | refine blk_drewN ?_ _ | refine blk_drew ?_ | refine blk_alloc ?_ _)); exact BK188.out⟩, ⟨by (with_reducible repeat (first | refine blk_drewN ?_ _ | refine blk_drew ?_ | refine blk_alloc ?_ _)); exact BK189.out⟩, ⟨by repeat (first | (with_reducible first | exact HB.out | apply below_alloc | apply pw_below_drewN | apply below_drew1 | refine below_set ?_ GE188.out | refine below_set ?_ GE189.out) | exact HB.out)⟩⟩
      case round =>
        clear H'
        try clear c1
        try clear p2
        try clear c3
        try clear c6
        try clear c6b0
        try clear c7
        try clear p2
        obtain ⟨x4_2, x7_2, x190000_2, x190001_2, x190002_2, u190002, rfl, rfl, HA, HK2, HO_6, HO_190002, BK188, BK189, HB⟩ := hrel
        cases gk with
        | zero => exact absurd HA.out (by simp [impl_BestPlan.l1])
        | succ k2 =>
          have H := HA.out
          clear HA
          simp only [impl_BestPlan.l1] at H
          by_cases c9 : x7_2 ≤ 4
          rotate_left
          · rw [if_neg c9] at H
            have c9b0 : decide (x7_2 ≤ 4) = false := decide_eq_false c9
            clear c9
            have H' := Aside0.mk H
            clear H
            go_wp2
            go_roundg k2
            case measure => have := HK1.out; have := HK2.out; omega
            case rel => exact ⟨(x4_2), (wrap64 (x5_1 + 1)), (x190000_2), (x190001_2), (x190002_2), (u190002), (by first | rfl | (simp; done) | (simp [*]; done)), (by first | rfl | (simp; done) | (simp [*]; done)), H', ⟨by have := HK1.out; have := HK2.out; omega⟩, ⟨by (with_reducible repeat (first | apply Kd.R_alloc | apply Kd.R_drewN | apply Kd.R_drew)); exact Kd.R_mono HO_190002.out (fun _ hk => trivial)⟩, ⟨by (with_reducible repeat (first | refine blk_drewN ?_ _ | refine blk_drew ?_ | refine blk_alloc ?_ _)); exact BK188.out⟩, ⟨by (with_reducible repeat (first | refine blk_drewN ?_ _ | refine blk_drew ?_ | refine blk_alloc ?_ _)); exact BK189.out⟩, ⟨by repeat (first | (with_reducible first | exact HB.out | apply below_alloc | apply pw_below_drewN | apply below_drew1 | refine below_set ?_ GE188.out | refine below_set ?_ GE189.out) | exact HB.out)⟩⟩
          rw [if_pos c9] at H
          have c9b0 : decide (x7_2 ≤ 4) = true := decide_eq_true c9
          clear c9
          replace H := Option.bind_eq_some_iff.mp H
          obtain ⟨t194, A100, H⟩ := H
          replace H : (if t194 = true then (if 0 ≤ x7_2 then (impl_BestPlan.l2 k2 l0 x4_2 x5_1 t191 x7_2 (wrap64 (6 + (wrap64 (26 * x5_1)))) (shl .i64 1 x7_2) 0 x190000_2 x190001_2 x190002_2 x5_1 x7_2 ([] : List Int)) else (none)) else (impl_BestPlan.l1 k2 l0 x4_2 x5_1 t191 (wrap64 (x7_2 + 1)) x190000_2 x190001_2 x190002_2)) = some (r1, r2, r3) := H
          have A10 := Aside0.mk A100
          clear A100
          by_cases c11 : t194 = true
          rotate_left
          · replace c11 := Bool.eq_false_iff.mpr c11
            subst c11
            have H1 : (impl_BestPlan.l1 k2 l0 x4_2 x5_1 t191 (wrap64 (x7_2 + 1)) x190000_2 x190001_2 x190002_2) = some (r1, r2, r3) := by rw [if_neg (show ¬ (false = true) by decide)] at H; exact H
            clear H
            have H := H1
            clear H1
            have H' := Aside0.mk H
            clear H
            go_wp2_with (first | ((with_reducible refine gate_callee (f := 80) rfl ?_); refine goesL_ (some 35) rfl rfl Try.func80 (by kernel_rfl) rfl #[.int .i64 x5_1, .int .i64 x7_2, .int .i64 (l0.length : Int)] rfl (by (try simp only [List.map_toArray, List.map_cons, List.map_nil]); first | done | rfl | (simp only [List.length_drop, List.length_take]; rfl)) ?_; (with_reducible refine (impl_zfits.calls x5_1 x7_2 (l0.length : Int) false _ A10.out).mono ?_); rintro e w' ⟨rfl, ⟨nd, rfl⟩⟩; refine ⟨_, rfl, ?_⟩))
            go_roundg k2
            case measure => have := HK1.out; have := HK2.out; omega
            case rel => exact ⟨(x4_2), (wrap64 (x7_2 + 1)), (x190000_2), (x190001_2), (x190002_2), (u190002), (by first | rfl | (simp; done) | (simp [*]; done)), (by first | rfl | (simp; done) | (simp [*]; done)), H', ⟨by have := HK1.out; have := HK2.out; omega⟩, ⟨by (with_reducible repeat (first | apply Kd.R_alloc | apply Kd.R_drewN | apply Kd.R_drew)); exact HO_6.out⟩, ⟨by (with_reducible repeat (first | apply Kd.R_alloc | apply Kd.R_drewN | apply Kd.R_drew)); exact HO_190002.out⟩, ⟨by (with_reducible repeat (first | refine blk_drewN ?_ _ | refine blk_drew ?_ | refine blk_alloc ?_ _)); exact BK188.out⟩, ⟨by (with_reducible repeat (first | refine blk_drewN ?_ _ | refine blk_drew ?_ | refine blk_alloc ?_ _)); exact BK189.out⟩, ⟨by repeat (first | (with_reducible first | exact HB.out | apply below_alloc | apply pw_below_drewN | apply below_drew1 | refine below_set ?_ GE188.out | refine below_set ?_ GE189.out) | exact HB.out)⟩⟩
          subst c11
          have H1 : (if 0 ≤ x7_2 then (impl_BestPlan.l2 k2 l0 x4_2 x5_1 t191 x7_2 (wrap64 (6 + (wrap64 (26 * x5_1)))) (shl .i64 1 x7_2) 0 x190000_2 x190001_2 x190002_2 x5_1 x7_2 ([] : List Int)) else (none)) = some (r1, r2, r3) := by rw [if_pos rfl] at H; exact H
          clear H
          have H := H1
          clear H1
          by_cases c12 : 0 ≤ x7_2
          rotate_left
          · rw [if_neg c12] at H
            exact absurd H (by simp)
          rw [if_pos c12] at H
          have c12b0 := eq_true c12
          have c12b1 : decide (0 ≤ x7_2) = true := decide_eq_true c12
          clear c12
          obtain ⟨ji13, hji13⟩ : ∃ j_ : Int, (shl .i64 1 x7_2) = j_ := ⟨_, rfl⟩
          replace H : (impl_BestPlan.l2 k2 l0 x4_2 x5_1 t191 x7_2 (wrap64 (6 + (wrap64 (26 * x5_1)))) ji13 0 x190000_2 x190001_2 x190002_2 x5_1 x7_2 ([] : List Int)) = some (r1, r2, r3) := by first | (rw [hji13] at H; exact H) | (simp only [hji13] at H ⊢; exact H)
          (try rw [hji13] at A10)
          have hji13_ : (IntKind.i64.wrap (1 * 2 ^ min x7_2.toNat 64)) = ji13 := hji13
          have hji13z : x7_2 ≤ 64 → (IntKind.i64.wrap (1 * 2 ^ x7_2.toNat)) = ji13 := shl_small hji13
          have hji13u : (IntKind.i64.wrap (2 ^ min x7_2.toNat 64)) = ji13 := by have h_ := hji13_; rw [Int.one_mul] at h_; exact h_
          have hji13v : x7_2 ≤ 64 → (IntKind.i64.wrap (2 ^ x7_2.toNat)) = ji13 := fun hle_ => by have h_ := hji13z hle_; rw [Int.one_mul] at h_; exact h_
          have hji13y : (wrap64 (1 * 2 ^ min x7_2.toNat 64)) = ji13 := (i64_w _).symm.trans hji13_
          have hji13x : x7_2 ≤ 64 → (wrap64 (1 * 2 ^ x7_2.toNat)) = ji13 := fun h_ => (i64_w _).symm.trans (hji13z h_)
          have H' := Aside0.mk H
          clear H
          go_wp2_with (first | ((with_reducible refine gate_callee (f := 80) rfl ?_); refine goesL_ (some 35) rfl rfl Try.func80 (by kernel_rfl) rfl #[.int .i64 x5_1, .int .i64 x7_2, .int .i64 (l0.length : Int)] rfl (by (try simp only [List.map_toArray, List.map_cons, List.map_nil]); first | done | rfl | (simp only [List.length_drop, List.length_take]; rfl)) ?_; (with_reducible refine (impl_zfits.calls x5_1 x7_2 (l0.length : Int) true _ A10.out).mono ?_); rintro e w' ⟨rfl, ⟨nd, rfl⟩⟩; refine ⟨_, rfl, ?_⟩; (try (rw [drewN_self wr]; generalize hq_ : World.drewN wr _ = wr; have n0_ : Aside0 (Kd.R (Kd.int .i64) 3 wr w.heap.size (fun k_ => some k_ ≠ (v192 : Value).ownBlock) u190002 x190002_2) := ⟨by rw [← hq_]; exact (by (with_reducible repeat (first | apply Kd.R_alloc | apply Kd.R_drewN | apply Kd.R_drew)); exact HO_190002.out)⟩; have n1_ : Aside0 (Kd.R (Kd.int .i64) 3 wr w.heap.size (fun k_ => some k_ ≠ (u190002 : Value).ownBlock) v192 t191) := ⟨by rw [← hq_]; exact (by (with_reducible repeat (first | apply Kd.R_alloc | apply Kd.R_drewN | apply Kd.R_drew)); exact HO_6.out)⟩; have n2_ : Aside0 (wr.heap[gb188]? = some (.cells #[.int .i64 0, .int .i64 0, .slice none 0 0] 24 (0, 0))) := ⟨by rw [← hq_]; exact (by (with_reducible repeat (first | refine blk_drewN ?_ _ | refine blk_drew ?_ | refine blk_alloc ?_ _)); exact BK188.out)⟩; have n3_ : Aside0 (wr.heap[gb189]? = some (.cells #[.int .i64 x190000_2, .int .i64 x190001_2, u190002] 24 (0, 0))) := ⟨by rw [← hq_]; exact (by (with_reducible repeat (first | refine blk_drewN ?_ _ | refine blk_drew ?_ | refine blk_alloc ?_ _)); exact BK189.out)⟩; have n4_ : Aside0 (Below w.heap.size w wr) := ⟨by rw [← hq_]; exact (by repeat (first | (with_reducible first | exact HB.out | apply below_alloc | apply pw_below_drewN | apply below_drew1 | refine below_set ?_ GE188.out | refine below_set ?_ GE189.out) | exact HB.out))⟩; clear HO_190002 HO_6 BK188 BK189 HB hq_; have HO_190002 := n0_; have HO_6 := n1_; have BK188 := n2_; have BK189 := n3_; have HB := n4_; clear n0_ n1_ n2_ n3_ n4_))) | ((with_reducible refine gate_dst (N := 8) rfl ?_); refine box_event ?hg (N := 8) ?hd (cs := #[.int .i64 0, .int .i64 0, .slice none 0 0]) (t := 24) ?hr ?_; (case hd => rfl); (case hg => rfl); (case hr => first | (go_simp; done) | (go_simp; rfl)); intro gb195 hg w14 hbox hb; have n0_ := Aside0.mk (Kd.R_below (by (with_reducible repeat (first | apply Kd.R_alloc | apply Kd.R_drewN | apply Kd.R_drew)); exact HO_6.out) hb); have n1_ := Aside0.mk (Kd.R_below (by (with_reducible repeat (first | apply Kd.R_alloc | apply Kd.R_drewN | apply Kd.R_drew)); exact HO_190002.out) hb); have n2_ := Aside0.mk (blk_below (g := gb188) (o := .cells #[.int .i64 0, .int .i64 0, .slice none 0 0] 24 (0, 0)) (by (with_reducible repeat (first | refine blk_drewN ?_ _ | refine blk_drew ?_ | refine blk_alloc ?_ _)); exact BK188.out) hb); have n3_ := Aside0.mk (blk_below (g := gb189) (o := .cells #[.int .i64 x190000_2, .int .i64 x190001_2, u190002] 24 (0, 0)) (by (with_reducible repeat (first | refine blk_drewN ?_ _ | refine blk_drew ?_ | refine blk_alloc ?_ _)); exact BK189.out) hb); have n4_ := Aside0.mk (below_step (by repeat (first | (with_reducible first | exact HB.out | apply below_alloc | apply pw_below_drewN | apply below_drew1 | refine below_set ?_ GE188.out | refine below_set ?_ GE189.out) | exact HB.out)) hb); have n5_ := Aside0.mk (hbox); have n6_ := Aside0.mk ((by rw [hg]; exact (below_size (by repeat (first | (with_reducible first | exact HB.out | apply below_alloc | apply pw_below_drewN | apply below_drew1 | refine below_set ?_ GE188.out | refine below_set ?_ GE189.out) | exact HB.out))) : w.heap.size ≤ gb195)); have n7_ := n6_; have n8_ := Aside0.mk ((by rw [hg]; exact Nat.ne_of_lt (blk_lt (g := gb188) (o := .cells #[.int .i64 0, .int .i64 0, .slice none 0 0] 24 (0, 0)) (by (with_reducible repeat (first | refine blk_drewN ?_ _ | refine blk_drew ?_ | refine blk_alloc ?_ _)); exact BK188.out)) : gb188 ≠ gb195)); have n9_ := Aside0.mk ((by rw [hg]; exact Nat.ne_of_gt (blk_lt (g := gb188) (o := .cells #[.int .i64 0, .int .i64 0, .slice none 0 0] 24 (0, 0)) (by (with_reducible repeat (first | refine blk_drewN ?_ _ | refine blk_drew ?_ | refine blk_alloc ?_ _)); exact BK188.out)) : gb195 ≠ gb188)); have n10_ := Aside0.mk ((by rw [hg]; exact Nat.ne_of_lt (blk_lt (g := gb189) (o := .cells #[.int .i64 x190000_2, .int .i64 x190001_2, u190002] 24 (0, 0)) (by (with_reducible repeat (first | refine blk_drewN ?_ _ | refine blk_drew ?_ | refine blk_alloc ?_ _)); exact BK189.out)) : gb189 ≠ gb195)); have n11_ := Aside0.mk ((by rw [hg]; exact Nat.ne_of_gt (blk_lt (g := gb189) (o := .cells #[.int .i64 x190000_2, .int .i64 x190001_2, u190002] 24 (0, 0)) (by (with_reducible repeat (first | refine blk_drewN ?_ _ | refine blk_drew ?_ | refine blk_alloc ?_ _)); exact BK189.out)) : gb195 ≠ gb189)); clear HO_6; clear HO_190002; clear BK188; clear BK189; clear HB; have HO_6 := n0_; have HO_190002 := n1_; have BK188 := n2_; have BK189 := n3_; have HB := n4_; have BK195 := n5_; have GW195 := n6_; have GE195 := n7_; have NB188_195 := n8_; have NB195_188 := n9_; have NB189_195 := n10_; have NB195_189 := n11_; clear n0_ n1_ n2_ n3_ n4_ n5_ n6_ n7_ n8_ n9_ n10_ n11_; clear hb hbox hg; have hnb15 := NB195_188.out; have hnc15 := NB188_195.out; have hnb16 := NB195_189.out; have hnc16 := NB189_195.out; have hcz17_0 : w14.cell? ⟨gb195, 0, none⟩ = some (.int .i64 0) := (blk_cell BK195.out 0).trans rfl; have hcz17_1 : w14.cell? ⟨gb195, 1, none⟩ = some (.int .i64 0) := (blk_cell BK195.out 1).trans rfl; have hcz17_2 : w14.cell? ⟨gb195, 2, none⟩ = some (.slice none 0 0) := (blk_cell BK195.out 2).trans rfl; have hfz17_0 := blk_frozen BK195.out 0; have hfz17_1 := blk_frozen BK195.out 1; have hfz17_2 := blk_frozen BK195.out 2))
          go_loopg [9, 45] k2 (fun kq v9 v45 w' => ∃ (x9_3 : Int) (x45_3 : Int) (x196002_3 : List Int) (u196002 : Value), v9 = .int .i64 x9_3 ∧ v45 = .int .i64 x45_3 ∧ Aside0 (impl_BestPlan.l2 kq l0 x4_2 x5_1 t191 x7_2 x9_3 ji13 x45_3 x190000_2 x190001_2 x190002_2 x5_1 x7_2 x196002_3 = some (r1, r2, r3)) ∧ Aside0 (kq ≤ k2) ∧ Aside0 (Kd.R (Kd.int .i64) 3 w' w.heap.size (fun k_ => some k_ ≠ (u190002 : Value).ownBlock ∧ some k_ ≠ (u196002 : Value).ownBlock) v192 t191) ∧ Aside0 (Kd.R (Kd.int .i64) 3 w' w.heap.size (fun k_ => some k_ ≠ (v192 : Value).ownBlock ∧ some k_ ≠ (u196002 : Value).ownBlock) u190002 x190002_2) ∧ Aside0 (Kd.R (Kd.int .i64) 3 w' w.heap.size (fun k_ => some k_ ≠ (v192 : Value).ownBlock ∧ some k_ ≠ (u190002 : Value).ownBlock) u196002 x196002_3) ∧ Aside0 (w'.heap[gb188]? = some (.cells #[.int .i64 0, .int .i64 0, (.slice none 0 0)] 24 (0, 0))) ∧ Aside0 (w'.heap[gb189]? = some (.cells #[.int .i64 x190000_2, .int .i64 x190001_2, u190002] 24 (0, 0))) ∧ Aside0 (w'.heap[gb195]? = some (.cells #[.int .i64 x5_1, .int .i64 x7_2, u196002] 24 (0, 0))) ∧ Aside0 (Below w.heap.size w w'))
          case atStart => exact ⟨(wrap64 (6 + (wrap64 (26 * x5_1)))), (0), (([] : List Int)), (.slice none 0 0), (by first | rfl | (simp; done) | (simp [*]; done)), (by first | rfl | (simp; done) | (simp [*]; done)), H', ⟨Nat.le_refl _⟩, ⟨by (with_reducible repeat (first | apply Kd.R_alloc | apply Kd.R_drewN | apply Kd.R_drew)); exact Kd.R_mono (Kd.R_far (p := ⟨gb195, 2, none⟩) (Kd.R_far (p := ⟨gb195, 1, none⟩) (Kd.R_far (p := ⟨gb195, 0, none⟩) (Kd.R_types HO_6.out BK195.out (by decide)) (fun _ hk => hk.2) (.int .i64 x5_1)) (fun _ hk => hk.2) (.int .i64 x7_2)) (fun _ hk => hk.2) (.slice none 0 0)) (fun _ hk => ⟨hk.1, (by simp [Value.ownBlock])⟩)⟩, ⟨by (with_reducible repeat (first | apply Kd.R_alloc | apply Kd.R_drewN | apply Kd.R_drew)); exact Kd.R_mono (Kd.R_far (p := ⟨gb195, 2, none⟩) (Kd.R_far (p := ⟨gb195, 1, none⟩) (Kd.R_far (p := ⟨gb195, 0, none⟩) (Kd.R_types HO_190002.out BK195.out (by decide)) (fun _ hk => hk.2) (.int .i64 x5_1)) (fun _ hk => hk.2) (.int .i64 x7_2)) (fun _ hk => hk.2) (.slice none 0 0)) (fun _ hk => ⟨hk.1, (by simp [Value.ownBlock])⟩)⟩, ⟨by first | exact Kd.R_nil _ _ _ _ _ | exact Kd.N_nil _ _ _ _ _ | exact Kd.V_nil _ _ _ _ _ | exact Kd.Q_nil _ _ _ _ _ | exact Kd.S_nil _ _ _ _ _⟩, ⟨by (with_reducible repeat (first | refine blk_drewN ?_ _ | refine blk_drew ?_ | refine blk_alloc ?_ _)); refine blk_far ?_ NB188_195.out _; (with_reducible repeat (first | refine blk_drewN ?_ _ | refine blk_drew ?_ | refine blk_alloc ?_ _)); refine blk_far ?_ NB188_195.out _; (with_reducible repeat (first | refine blk_drewN ?_ _ | refine blk_drew ?_ | refine blk_alloc ?_ _)); refine blk_far ?_ NB188_195.out _; (with_reducible repeat (first | refine blk_drewN ?_ _ | refine blk_drew ?_ | refine blk_alloc ?_ _)); exact BK188.out⟩, ⟨by (with_reducible repeat (first | refine blk_drewN ?_ _ | refine blk_drew ?_ | refine blk_alloc ?_ _)); refine blk_far ?_ NB189_195.out _; (with_reducible repeat (first | refine blk_drewN ?_ _ | refine blk_drew ?_ | refine blk_alloc ?_ _)); refine blk_far ?_ NB189_195.out _; (with_reducible repeat (first | refine blk_drewN ?_ _ | refine blk_drew ?_ | refine blk_alloc ?_ _)); refine blk_far ?_ NB189_195.out _; (with_reducible repeat (first | refine blk_drewN ?_ _ | refine blk_drew ?_ | refine blk_alloc ?_ _)); exact BK189.out⟩, ⟨by (with_reducible repeat (first | refine blk_drewN ?_ _ | refine blk_drew ?_ | refine blk_alloc ?_ _)); refine blk_put (cs := #[.int .i64 x5_1, .int .i64 x7_2, .slice none 0 0]) ?_ 2 _ rfl; (with_reducible repeat (first | refine blk_drewN ?_ _ | refine blk_drew ?_ | refine blk_alloc ?_ _)); refine blk_put (cs := #[.int .i64 x5_1, .int .i64 0, .slice none 0 0]) ?_ 1 _ rfl; (with_reducible repeat (first | refine blk_drewN ?_ _ | refine blk_drew ?_ | refine blk_alloc ?_ _)); refine blk_put (cs := #[.int .i64 0, .int .i64 0, .slice none 0 0]) ?_ 0 _ rfl; (with_reducible repeat (first | refine blk_drewN ?_ _ | refine blk_drew ?_ | refine blk_alloc ?_ _)); exact BK195.out⟩, ⟨by repeat (first | (with_reducible first | exact HB.out | apply below_alloc | apply pw_below_drewN | apply below_drew1 | refine below_set ?_ GE188.out | refine below_set ?_ GE189.out | refine below_set ?_ GE195.out) | exact HB.out)⟩⟩
          case round =>
            clear H'
            try clear c1
            try clear p2
            try clear c3
            try clear c6
            try clear c6b0
            try clear p6
            try clear c7
            try clear c8
            try clear c9
            try clear c9b0
            try clear c11
            try clear c12
            try clear c12b0
            try clear c12b1
            try clear c15
            try clear c16
            try clear hcz17_0
            try clear hcz17_1
            try clear hcz17_2
            try clear hfz17_0
            try clear hfz17_1
            try clear hfz17_2
            try clear p2
            obtain ⟨x9_3, x45_3, x196002_3, u196002, rfl, rfl, HA, HK3, HO_6, HO_190002, HO_196002, BK188, BK189, BK195, HB⟩ := hrel
            cases gk with
            | zero => exact absurd HA.out (by simp [impl_BestPlan.l2])
            | succ k3 =>
              have H := HA.out
              clear HA
              simp only [impl_BestPlan.l2] at H
              by_cases c18 : x45_3 < ji13
              rotate_left
              · rw [if_neg c18] at H
                have c18b0 : decide (x45_3 < ji13) = false := decide_eq_false c18
                clear c18
                by_cases c36 : x4_2 < 0
                · rw [if_pos c36] at H
                  have c36b0 : decide (x4_2 < 0) = true := decide_eq_true c36
                  clear c36
                  have H' := Aside0.mk H
                  clear H
                  have hnb37 := NB195_188.out
                  have hnc37 := NB188_195.out
                  have hnb38 := NB195_189.out
                  have hnc38 := NB189_195.out
                  have hcz39_0 : wr.cell? ⟨gb195, 0, none⟩ = some (.int .i64 x5_1) := (blk_cell BK195.out 0).trans rfl
                  have hcz39_1 : wr.cell? ⟨gb195, 1, none⟩ = some (.int .i64 x7_2) := (blk_cell BK195.out 1).trans rfl
                  have hcz39_2 : wr.cell? ⟨gb195, 2, none⟩ = some (u196002) := (blk_cell BK195.out 2).trans rfl
                  have hfz39_0 := blk_frozen BK195.out 0
                  have hfz39_1 := blk_frozen BK195.out 1
                  have hfz39_2 := blk_frozen BK195.out 2
                  have hnb40 := NB189_188.out
                  have hnc40 := NB188_189.out
                  have hcz41_0 : wr.cell? ⟨gb189, 0, none⟩ = some (.int .i64 x190000_2) := (blk_cell BK189.out 0).trans rfl
                  have hcz41_1 : wr.cell? ⟨gb189, 1, none⟩ = some (.int .i64 x190001_2) := (blk_cell BK189.out 1).trans rfl
                  have hcz41_2 : wr.cell? ⟨gb189, 2, none⟩ = some (u190002) := (blk_cell BK189.out 2).trans rfl
                  have hfz41_0 := blk_frozen BK189.out 0
                  have hfz41_1 := blk_frozen BK189.out 1
                  have hfz41_2 := blk_frozen BK189.out 2
                  obtain ⟨Ao42, co42, eo42⟩ := Kd.R_slice HO_196002.out
                  subst eo42
                  go_wp2
                  go_roundg k3
                  case measure => have := HK1.out; have := HK2.out; have := HK3.out; omega
                  case rel => exact ⟨(x9_3), (wrap64 (x7_2 + 1)), (x5_1), (x7_2), (x196002_3), (.slice Ao42 x196002_3.length co42), (by first | rfl | (simp; done) | (simp [*]; done)), (by first | rfl | (simp; done) | (simp [*]; done)), H', ⟨by have := HK1.out; have := HK2.out; have := HK3.out; omega⟩, ⟨by (with_reducible repeat (first | apply Kd.R_alloc | apply Kd.R_drewN | apply Kd.R_drew)); exact Kd.R_mono (Kd.R_far (p := ⟨gb189, 2, none⟩) (Kd.R_far (p := ⟨gb189, 1, none⟩) (Kd.R_far (p := ⟨gb189, 0, none⟩) (Kd.R_types HO_6.out BK189.out (by decide)) (fun _ hk => hk.2) (.int .i64 x5_1)) (fun _ hk => hk.2) (.int .i64 x7_2)) (fun _ hk => hk.2) (.slice Ao42 x196002_3.length co42)) (fun _ hk => hk.1.2)⟩, ⟨by (with_reducible repeat (first | apply Kd.R_alloc | apply Kd.R_drewN | apply Kd.R_drew)); exact Kd.R_mono (Kd.R_far (p := ⟨gb189, 2, none⟩) (Kd.R_far (p := ⟨gb189, 1, none⟩) (Kd.R_far (p := ⟨gb189, 0, none⟩) (Kd.R_types HO_196002.out BK189.out (by decide)) (fun _ hk => hk.2) (.int .i64 x5_1)) (fun _ hk => hk.2) (.int .i64 x7_2)) (fun _ hk => hk.2) (.slice Ao42 x196002_3.length co42)) (fun _ hk => hk.1.1)⟩, ⟨by (with_reducible repeat (first | refine blk_drewN ?_ _ | refine blk_drew ?_ | refine blk_alloc ?_ _)); refine blk_far ?_ NB188_189.out _; (with_reducible repeat (first | refine blk_drewN ?_ _ | refine blk_drew ?_ | refine blk_alloc ?_ _)); refine blk_far ?_ NB188_189.out _; (with_reducible repeat (first | refine blk_drewN ?_ _ | refine blk_drew ?_ | refine blk_alloc ?_ _)); refine blk_far ?_ NB188_189.out _; (with_reducible repeat (first | refine blk_drewN ?_ _ | refine blk_drew ?_ | refine blk_alloc ?_ _)); exact BK188.out⟩, ⟨by (with_reducible repeat (first | refine blk_drewN ?_ _ | refine blk_drew ?_ | refine blk_alloc ?_ _)); refine blk_put (cs := #[.int .i64 x5_1, .int .i64 x7_2, u190002]) ?_ 2 _ rfl; (with_reducible repeat (first | refine blk_drewN ?_ _ | refine blk_drew ?_ | refine blk_alloc ?_ _)); refine blk_put (cs := #[.int .i64 x5_1, .int .i64 x190001_2, u190002]) ?_ 1 _ rfl; (with_reducible repeat (first | refine blk_drewN ?_ _ | refine blk_drew ?_ | refine blk_alloc ?_ _)); refine blk_put (cs := #[.int .i64 x190000_2, .int .i64 x190001_2, u190002]) ?_ 0 _ rfl; (with_reducible repeat (first | refine blk_drewN ?_ _ | refine blk_drew ?_ | refine blk_alloc ?_ _)); exact BK189.out⟩, ⟨by repeat (first | (with_reducible first | exact HB.out | apply below_alloc | apply pw_below_drewN | apply below_drew1 | refine below_set ?_ GE188.out | refine below_set ?_ GE189.out | refine below_set ?_ GE195.out) | exact HB.out)⟩⟩
                rw [if_neg c36] at H
                have c36b0 : decide (x4_2 < 0) = false := decide_eq_false c36
                clear c36
                by_cases c43 : x9_3 < x4_2
                rotate_left
                · rw [if_neg c43] at H
                  have c43b0 : decide (x9_3 < x4_2) = false := decide_eq_false c43
                  clear c43
                  have H' := Aside0.mk H
                  clear H
                  go_wp2
                  go_roundg k3
                  case measure => have := HK1.out; have := HK2.out; have := HK3.out; omega
                  case rel => exact ⟨(x4_2), (wrap64 (x7_2 + 1)), (x190000_2), (x190001_2), (x190002_2), (u190002), (by first | rfl | (simp; done) | (simp [*]; done)), (by first | rfl | (simp; done) | (simp [*]; done)), H', ⟨by have := HK1.out; have := HK2.out; have := HK3.out; omega⟩, ⟨by (with_reducible repeat (first | apply Kd.R_alloc | apply Kd.R_drewN | apply Kd.R_drew)); exact Kd.R_mono HO_6.out (fun _ hk => hk.1)⟩, ⟨by (with_reducible repeat (first | apply Kd.R_alloc | apply Kd.R_drewN | apply Kd.R_drew)); exact Kd.R_mono HO_190002.out (fun _ hk => hk.1)⟩, ⟨by (with_reducible repeat (first | refine blk_drewN ?_ _ | refine blk_drew ?_ | refine blk_alloc ?_ _)); exact BK188.out⟩, ⟨by (with_reducible repeat (first | refine blk_drewN ?_ _ | refine blk_drew ?_ | refine blk_alloc ?_ _)); exact BK189.out⟩, ⟨by repeat (first | (with_reducible first | exact HB.out | apply below_alloc | apply pw_below_drewN | apply below_drew1 | refine below_set ?_ GE188.out | refine below_set ?_ GE189.out | refine below_set ?_ GE195.out) | exact HB.out)⟩⟩
                rw [if_pos c43] at H
                have c43b0 : decide (x9_3 < x4_2) = true := decide_eq_true c43
                clear c43
                have H' := Aside0.mk H
                clear H
                have hnb44 := NB195_188.out
                have hnc44 := NB188_195.out
                have hnb45 := NB195_189.out
                have hnc45 := NB189_195.out
                have hcz46_0 : wr.cell? ⟨gb195, 0, none⟩ = some (.int .i64 x5_1) := (blk_cell BK195.out 0).trans rfl
                have hcz46_1 : wr.cell? ⟨gb195, 1, none⟩ = some (.int .i64 x7_2) := (blk_cell BK195.out 1).trans rfl
                have hcz46_2 : wr.cell? ⟨gb195, 2, none⟩ = some (u196002) := (blk_cell BK195.out 2).trans rfl
                have hfz46_0 := blk_frozen BK195.out 0
                have hfz46_1 := blk_frozen BK195.out 1
                have hfz46_2 := blk_frozen BK195.out 2
                have hnb47 := NB189_188.out
                have hnc47 := NB188_189.out
                have hcz48_0 : wr.cell? ⟨gb189, 0, none⟩ = some (.int .i64 x190000_2) := (blk_cell BK189.out 0).trans rfl
                have hcz48_1 : wr.cell? ⟨gb189, 1, none⟩ = some (.int .i64 x190001_2) := (blk_cell BK189.out 1).trans rfl
                have hcz48_2 : wr.cell? ⟨gb189, 2, none⟩ = some (u190002) := (blk_cell BK189.out 2).trans rfl
                have hfz48_0 := blk_frozen BK189.out 0
                have hfz48_1 := blk_frozen BK189.out 1
                have hfz48_2 := blk_frozen BK189.out 2
                obtain ⟨Ao49, co49, eo49⟩ := Kd.R_slice HO_196002.out
                subst eo49
                go_wp2
                go_roundg k3
                case measure => have := HK1.out; have := HK2.out; have := HK3.out; omega
                case rel => exact ⟨(x9_3), (wrap64 (x7_2 + 1)), (x5_1), (x7_2), (x196002_3), (.slice Ao49 x196002_3.length co49), (by first | rfl | (simp; done) | (simp [*]; done)), (by first | rfl | (simp; done) | (simp [*]; done)), H', ⟨by have := HK1.out; have := HK2.out; have := HK3.out; omega⟩, ⟨by (with_reducible repeat (first | apply Kd.R_alloc | apply Kd.R_drewN | apply Kd.R_drew)); exact Kd.R_mono (Kd.R_far (p := ⟨gb189, 2, none⟩) (Kd.R_far (p := ⟨gb189, 1, none⟩) (Kd.R_far (p := ⟨gb189, 0, none⟩) (Kd.R_types HO_6.out BK189.out (by decide)) (fun _ hk => hk.2) (.int .i64 x5_1)) (fun _ hk => hk.2) (.int .i64 x7_2)) (fun _ hk => hk.2) (.slice Ao49 x196002_3.length co49)) (fun _ hk => hk.1.2)⟩, ⟨by (with_reducible repeat (first | apply Kd.R_alloc | apply Kd.R_drewN | apply Kd.R_drew)); exact Kd.R_mono (Kd.R_far (p := ⟨gb189, 2, none⟩) (Kd.R_far (p := ⟨gb189, 1, none⟩) (Kd.R_far (p := ⟨gb189, 0, none⟩) (Kd.R_types HO_196002.out BK189.out (by decide)) (fun _ hk => hk.2) (.int .i64 x5_1)) (fun _ hk => hk.2) (.int .i64 x7_2)) (fun _ hk => hk.2) (.slice Ao49 x196002_3.length co49)) (fun _ hk => hk.1.1)⟩, ⟨by (with_reducible repeat (first | refine blk_drewN ?_ _ | refine blk_drew ?_ | refine blk_alloc ?_ _)); refine blk_far ?_ NB188_189.out _; (with_reducible repeat (first | refine blk_drewN ?_ _ | refine blk_drew ?_ | refine blk_alloc ?_ _)); refine blk_far ?_ NB188_189.out _; (with_reducible repeat (first | refine blk_drewN ?_ _ | refine blk_drew ?_ | refine blk_alloc ?_ _)); refine blk_far ?_ NB188_189.out _; (with_reducible repeat (first | refine blk_drewN ?_ _ | refine blk_drew ?_ | refine blk_alloc ?_ _)); exact BK188.out⟩, ⟨by (with_reducible repeat (first | refine blk_drewN ?_ _ | refine blk_drew ?_ | refine blk_alloc ?_ _)); refine blk_put (cs := #[.int .i64 x5_1, .int .i64 x7_2, u190002]) ?_ 2 _ rfl; (with_reducible repeat (first | refine blk_drewN ?_ _ | refine blk_drew ?_ | refine blk_alloc ?_ _)); refine blk_put (cs := #[.int .i64 x5_1, .int .i64 x190001_2, u190002]) ?_ 1 _ rfl; (with_reducible repeat (first | refine blk_drewN ?_ _ | refine blk_drew ?_ | refine blk_alloc ?_ _)); refine blk_put (cs := #[.int .i64 x190000_2, .int .i64 x190001_2, u190002]) ?_ 0 _ rfl; (with_reducible repeat (first | refine blk_drewN ?_ _ | refine blk_drew ?_ | refine blk_alloc ?_ _)); exact BK189.out⟩, ⟨by repeat (first | (with_reducible first | exact HB.out | apply below_alloc | apply pw_below_drewN | apply below_drew1 | refine below_set ?_ GE188.out | refine below_set ?_ GE189.out | refine below_set ?_ GE195.out) | exact HB.out)⟩⟩
              rw [if_pos c18] at H
              have c18b0 : decide (x45_3 < ji13) = true := decide_eq_true c18
              clear c18
              replace H := Option.bind_eq_some_iff.mp H
              obtain ⟨t196, A190, H⟩ := H
              replace H : (impl_BestPlan.l3 k3 l0 x4_2 x5_1 t191 x7_2 x9_3 t196 0 (-1) 0 ji13 x45_3 x190000_2 x190001_2 x190002_2 x5_1 x7_2 x196002_3) = some (r1, r2, r3) := H
              have A19 := Aside0.mk A190
              clear A190
              have H' := Aside0.mk H
              clear H
              obtain ⟨Ao20, co20, eo20⟩ := Kd.R_slice HO_6.out
              subst eo20
              go_wp2_with (first | ((with_reducible refine gate_callee (f := 81) rfl ?_); refine goesL_ (some 52) rfl rfl Try.func81 (by kernel_rfl) rfl #[.int .i64 x5_1, .int .i64 x7_2, .slice Ao20 t191.length co20, .int .i64 x45_3] rfl (by (try simp only [List.map_toArray, List.map_cons, List.map_nil]); first | done | rfl | (simp only [List.length_drop, List.length_take]; rfl)) ?_; (with_reducible refine (impl_zpart.calls x5_1 x7_2 (fun k_ => some k_ = (.slice Ao20 t191.length co20 : Value).ownBlock) _ _ t191 x45_3 t196 _ ?side1 A19.out).mono ?_); (case side1 => exact Kd.R_V (Kd.R_tight rfl (Kd.R_types (Kd.R_types (Kd.R_types (HO_6.out) BK188.out (by decide)) BK189.out (by decide)) BK195.out (by decide)))); rintro e w21 ⟨v197, rfl, ho0, hb⟩; refine ⟨_, rfl, ?_⟩; have n0_ := Aside0.mk (Kd.R_below (by (with_reducible repeat (first | apply Kd.R_alloc | apply Kd.R_drewN | apply Kd.R_drew)); exact HO_6.out) hb); have n1_ := Aside0.mk (Kd.R_below (by (with_reducible repeat (first | apply Kd.R_alloc | apply Kd.R_drewN | apply Kd.R_drew)); exact HO_190002.out) hb); have n2_ := Aside0.mk (Kd.R_below (by (with_reducible repeat (first | apply Kd.R_alloc | apply Kd.R_drewN | apply Kd.R_drew)); exact HO_196002.out) hb); have n3_ := Aside0.mk (Kd.V_lower (Kd.V_mono (ok' := fun k_ => some k_ ≠ (u190002 : Value).ownBlock ∧ some k_ ≠ (u196002 : Value).ownBlock ∧ k_ ≠ gb188 ∧ k_ ≠ gb189 ∧ k_ ≠ gb195) ho0 (fun k_ hk_ => ⟨Or.elim hk_ (fun hs_ => ((Kd.R_types (Kd.R_types (Kd.R_types (HO_6.out) BK188.out (by decide)) BK189.out (by decide)) BK195.out (by decide)).1 k_ hs_.symm).1.1.1.1) (fun hn_ => (Kd.fresh' (Kd.R_lt (by (with_reducible repeat (first | apply Kd.R_alloc | apply Kd.R_drewN | apply Kd.R_drew)); exact HO_190002.out)) k_ hn_)), Or.elim hk_ (fun hs_ => ((Kd.R_types (Kd.R_types (Kd.R_types (HO_6.out) BK188.out (by decide)) BK189.out (by decide)) BK195.out (by decide)).1 k_ hs_.symm).1.1.1.2) (fun hn_ => (Kd.fresh' (Kd.R_lt (by (with_reducible repeat (first | apply Kd.R_alloc | apply Kd.R_drewN | apply Kd.R_drew)); exact HO_196002.out)) k_ hn_)), Or.elim hk_ (fun hs_ => ((Kd.R_types (Kd.R_types (Kd.R_types (HO_6.out) BK188.out (by decide)) BK189.out (by decide)) BK195.out (by decide)).1 k_ hs_.symm).1.1.2) (fun hn_ => (Kd.freshB (g := gb188) (o := .cells #[.int .i64 0, .int .i64 0, .slice none 0 0] 24 (0, 0)) (by (with_reducible repeat (first | refine blk_drewN ?_ _ | refine blk_drew ?_ | refine blk_alloc ?_ _)); exact BK188.out) k_ hn_)), Or.elim hk_ (fun hs_ => ((Kd.R_types (Kd.R_types (Kd.R_types (HO_6.out) BK188.out (by decide)) BK189.out (by decide)) BK195.out (by decide)).1 k_ hs_.symm).1.2) (fun hn_ => (Kd.freshB (g := gb189) (o := .cells #[.int .i64 x190000_2, .int .i64 x190001_2, u190002] 24 (0, 0)) (by (with_reducible repeat (first | refine blk_drewN ?_ _ | refine blk_drew ?_ | refine blk_alloc ?_ _)); exact BK189.out) k_ hn_)), Or.elim hk_ (fun hs_ => ((Kd.R_types (Kd.R_types (Kd.R_types (HO_6.out) BK188.out (by decide)) BK189.out (by decide)) BK195.out (by decide)).1 k_ hs_.symm).2) (fun hn_ => (Kd.freshB (g := gb195) (o := .cells #[.int .i64 x5_1, .int .i64 x7_2, u196002] 24 (0, 0)) (by (with_reducible repeat (first | refine blk_drewN ?_ _ | refine blk_drew ?_ | refine blk_alloc ?_ _)); exact BK195.out) k_ hn_))⟩)) (below_size (by repeat (first | (with_reducible first | exact HB.out | apply below_alloc | apply pw_below_drewN | apply below_drew1 | refine below_set ?_ GE188.out | refine below_set ?_ GE189.out | refine below_set ?_ GE195.out) | exact HB.out)))); have n4_ := Aside0.mk (blk_below (g := gb188) (o := .cells #[.int .i64 0, .int .i64 0, .slice none 0 0] 24 (0, 0)) (by (with_reducible repeat (first | refine blk_drewN ?_ _ | refine blk_drew ?_ | refine blk_alloc ?_ _)); exact BK188.out) hb); have n5_ := Aside0.mk (blk_below (g := gb189) (o := .cells #[.int .i64 x190000_2, .int .i64 x190001_2, u190002] 24 (0, 0)) (by (with_reducible repeat (first | refine blk_drewN ?_ _ | refine blk_drew ?_ | refine blk_alloc ?_ _)); exact BK189.out) hb); have n6_ := Aside0.mk (blk_below (g := gb195) (o := .cells #[.int .i64 x5_1, .int .i64 x7_2, u196002] 24 (0, 0)) (by (with_reducible repeat (first | refine blk_drewN ?_ _ | refine blk_drew ?_ | refine blk_alloc ?_ _)); exact BK195.out) hb); have n7_ := Aside0.mk (below_step (by repeat (first | (with_reducible first | exact HB.out | apply below_alloc | apply pw_below_drewN | apply below_drew1 | refine below_set ?_ GE188.out | refine below_set ?_ GE189.out | refine below_set ?_ GE195.out) | exact HB.out)) hb); clear HO_6; clear HO_190002; clear HO_196002; clear BK188; clear BK189; clear BK195; clear HB; have HO_6 := n0_; have HO_190002 := n1_; have HO_196002 := n2_; have HO198 := n3_; have BK188 := n4_; have BK189 := n5_; have BK195 := n6_; have HB := n7_; clear n0_ n1_ n2_ n3_ n4_ n5_ n6_ n7_; (try clear hb); (try clear hb2); (try clear hk); (try clear hi); (try clear ho0)))
              go_loopg [12, 13, 14] k3 (fun kq v12 v13 v14 w' => ∃ (x12_4 : Int) (x13_4 : Int) (x14_4 : Int), v12 = .int .i64 x12_4 ∧ v13 = .int .i64 x13_4 ∧ v14 = .int .i64 x14_4 ∧ Aside0 (impl_BestPlan.l3 kq l0 x4_2 x5_1 t191 x7_2 x9_3 t196 x12_4 x13_4 x14_4 ji13 x45_3 x190000_2 x190001_2 x190002_2 x5_1 x7_2 x196002_3 = some (r1, r2, r3)) ∧ Aside0 (kq ≤ k3) ∧ Aside0 (Kd.R (Kd.int .i64) 3 w' w.heap.size (fun k_ => some k_ ≠ (u190002 : Value).ownBlock ∧ some k_ ≠ (u196002 : Value).ownBlock) (.slice Ao20 t191.length co20) t191) ∧ Aside0 (Kd.V (Kd.int .i64) 3 w' w.heap.size (fun k_ => some k_ ≠ (u190002 : Value).ownBlock ∧ some k_ ≠ (u196002 : Value).ownBlock ∧ k_ ≠ gb188 ∧ k_ ≠ gb189 ∧ k_ ≠ gb195) v197 t196) ∧ Aside0 (Kd.R (Kd.int .i64) 3 w' w.heap.size (fun k_ => some k_ ≠ ((.slice Ao20 t191.length co20) : Value).ownBlock ∧ some k_ ≠ (u196002 : Value).ownBlock) u190002 x190002_2) ∧ Aside0 (Kd.R (Kd.int .i64) 3 w' w.heap.size (fun k_ => some k_ ≠ ((.slice Ao20 t191.length co20) : Value).ownBlock ∧ some k_ ≠ (u190002 : Value).ownBlock) u196002 x196002_3) ∧ Aside0 (w'.heap[gb188]? = some (.cells #[.int .i64 0, .int .i64 0, (.slice none 0 0)] 24 (0, 0))) ∧ Aside0 (w'.heap[gb189]? = some (.cells #[.int .i64 x190000_2, .int .i64 x190001_2, u190002] 24 (0, 0))) ∧ Aside0 (w'.heap[gb195]? = some (.cells #[.int .i64 x5_1, .int .i64 x7_2, u196002] 24 (0, 0))) ∧ Aside0 (Below w.heap.size w w'))
              case atStart => exact ⟨(0), ((-1)), (0), (by first | rfl | (simp; done) | (simp [*]; done)), (by first | rfl | (simp; done) | (simp [*]; done)), (by first | rfl | (simp; done) | (simp [*]; done)), H', ⟨Nat.le_refl _⟩, ⟨by (with_reducible repeat (first | apply Kd.R_alloc | apply Kd.R_drewN | apply Kd.R_drew)); exact HO_6.out⟩, ⟨by (with_reducible repeat (first | apply Kd.V_alloc | apply Kd.V_drewN | apply Kd.V_drew)); exact HO198.out⟩, ⟨by (with_reducible repeat (first | apply Kd.R_alloc | apply Kd.R_drewN | apply Kd.R_drew)); exact HO_190002.out⟩, ⟨by (with_reducible repeat (first | apply Kd.R_alloc | apply Kd.R_drewN | apply Kd.R_drew)); exact HO_196002.out⟩, ⟨by (with_reducible repeat (first | refine blk_drewN ?_ _ | refine blk_drew ?_ | refine blk_alloc ?_ _)); exact BK188.out⟩, ⟨by (with_reducible repeat (first | refine blk_drewN ?_ _ | refine blk_drew ?_ | refine blk_alloc ?_ _)); exact BK189.out⟩, ⟨by (with_reducible repeat (first | refine blk_drewN ?_ _ | refine blk_drew ?_ | refine blk_alloc ?_ _)); exact BK195.out⟩, ⟨by repeat (first | (with_reducible first | exact HB.out | apply below_alloc | apply pw_below_drewN | apply below_drew1 | refine below_set ?_ GE188.out | refine below_set ?_ GE189.out | refine below_set ?_ GE195.out) | exact HB.out)⟩⟩
              case round =>
                clear H'
                try clear c1
                try clear p2
                try clear c3
                try clear c6
                try clear c6b0
                try clear p6
                try clear c7
                try clear c8
                try clear c9
                try clear c9b0
                try clear c11
                try clear c12
                try clear c12b0
                try clear c12b1
                try clear c15
                try clear c16
                try clear c18
                try clear c18b0
                try clear hcz17_0
                try clear hcz17_1
                try clear hcz17_2
                try clear hfz17_0
                try clear hfz17_1
                try clear hfz17_2
                try clear p2
                try clear p6
                obtain ⟨x12_4, x13_4, x14_4, rfl, rfl, rfl, HA, HK4, HO_6, HO_11, HO_190002, HO_196002, BK188, BK189, BK195, HB⟩ := hrel
                cases gk with
                | zero => exact absurd HA.out (by simp [impl_BestPlan.l3])
                | succ k4 =>
                  have H := HA.out
                  clear HA
                  simp only [impl_BestPlan.l3] at H
                  by_cases c22 : x14_4 ≤ 25
                  rotate_left
                  · rw [if_neg c22] at H
                    have c22b0 : decide (x14_4 ≤ 25) = false := decide_eq_false c22
                    clear c22
                    by_cases c29 : x196002_3.length < 17592186044416
                    rotate_left
                    · rw [if_neg c29] at H
                      exact absurd H (by simp)
                    rw [if_pos c29] at H
                    have LMc29 := Aside0.mk c29
                    clear c29
                    obtain ⟨y200, hy200⟩ : ∃ y_ : List Int, y_ = (x196002_3 ++ [x12_4]) := ⟨_, rfl⟩
                    replace H : (impl_BestPlan.l2 k4 l0 x4_2 x5_1 t191 x7_2 (wrap64 (x9_3 + x13_4)) ji13 (wrap64 (x45_3 + 1)) x190000_2 x190001_2 x190002_2 x5_1 x7_2 y200) = some (r1, r2, r3) := by first | (rw [hy200]; with_reducible exact H) | (have H2_ := (Option.bind_some _ _).symm.trans H; rw [hy200]; with_reducible exact H2_) | (have H2_ := (Option.bind_some _ _).symm.trans H; with_reducible exact H2_) | with_reducible exact H | (rw [hy200]; exact H) | exact H
                    have Ny200 := Aside0.mk hy200
                    clear hy200
                    have H' := Aside0.mk H
                    clear H
                    have hnb30 := NB195_188.out
                    have hnc30 := NB188_195.out
                    have hnb31 := NB195_189.out
                    have hnc31 := NB189_195.out
                    have hcz32_0 : wr.cell? ⟨gb195, 0, none⟩ = some (.int .i64 x5_1) := (blk_cell BK195.out 0).trans rfl
                    have hcz32_1 : wr.cell? ⟨gb195, 1, none⟩ = some (.int .i64 x7_2) := (blk_cell BK195.out 1).trans rfl
                    have hcz32_2 : wr.cell? ⟨gb195, 2, none⟩ = some (u196002) := (blk_cell BK195.out 2).trans rfl
                    have hfz32_0 := blk_frozen BK195.out 0
                    have hfz32_1 := blk_frozen BK195.out 1
                    have hfz32_2 := blk_frozen BK195.out 2
                    go_wp2_with (first | ((with_reducible refine gate_builtin (b := .append) (xs := #[.tmp 70, .tmp 72]) rfl ?_); at_builtin; refine Kd.R_append (Kd.int .i64) (w0 := w) w.heap.size rfl (.tmp 70) (.tmp 72) 22 3 (.int .i64 0) 8 rfl Try.underlying22 info3 rfl (by decide) (by omega) u196002 x196002_3 x12_4 [.int .i64 x12_4] (fun k_ => some k_ ≠ (.slice Ao20 t191.length co20 : Value).ownBlock ∧ some k_ ≠ (u190002 : Value).ownBlock) (fun _ => False) rfl rfl ?aP (fun _ hk => hk.elim) ?aF ?aO ?aB ?aS ?aL ?_; (case aP => exact rfl); (case aB => exact (by repeat (first | (with_reducible first | exact HB.out | apply below_alloc | apply pw_below_drewN | apply below_drew1 | refine below_set ?_ GE188.out | refine below_set ?_ GE189.out | refine below_set ?_ GE195.out) | exact HB.out))); (case aF => exact (fun k_ hk => ⟨Kd.fresh' (Kd.R_lt (by (with_reducible repeat (first | apply Kd.R_alloc | apply Kd.R_drewN | apply Kd.R_drew)); exact HO_6.out)) k_ hk, Kd.fresh' (Kd.R_lt (by (with_reducible repeat (first | apply Kd.R_alloc | apply Kd.R_drewN | apply Kd.R_drew)); exact HO_190002.out)) k_ hk⟩)); (case aO => exact (by (with_reducible repeat (first | apply Kd.R_alloc | apply Kd.R_drewN | apply Kd.R_drew)); exact HO_196002.out)); (case aS => exact (below_size (by repeat (first | (with_reducible first | exact HB.out | apply below_alloc | apply pw_below_drewN | apply below_drew1 | refine below_set ?_ GE188.out | refine below_set ?_ GE189.out | refine below_set ?_ GE195.out) | exact HB.out)))); (case aL => have := LMc29.out; omega); intro v201 w33 ho hb hg hat; rw [← Ny200.out] at ho; have n0_ := Aside0.mk (Kd.R_after (ok := (fun k_ => some k_ ≠ (u190002 : Value).ownBlock)) (by (with_reducible repeat (first | apply Kd.R_alloc | apply Kd.R_drewN | apply Kd.R_drew)); exact HO_6.out) hg hat); have n1_ := Aside0.mk (Kd.V_afterv (ok := (fun k_ => some k_ ≠ (u190002 : Value).ownBlock ∧ k_ ≠ gb188 ∧ k_ ≠ gb189 ∧ k_ ≠ gb195)) (by (with_reducible repeat (first | apply Kd.V_alloc | apply Kd.V_drewN | apply Kd.V_drew)); exact Kd.V_mono HO_11.out (fun _ hk => ⟨⟨hk.1, ⟨hk.2.2.1, ⟨hk.2.2.2.1, hk.2.2.2.2⟩⟩⟩, hk.2.1⟩)) hg hat); have n2_ := Aside0.mk (Kd.R_after (ok := (fun k_ => some k_ ≠ (.slice Ao20 t191.length co20 : Value).ownBlock)) (by (with_reducible repeat (first | apply Kd.R_alloc | apply Kd.R_drewN | apply Kd.R_drew)); exact HO_190002.out) hg hat); have n3_ := Aside0.mk (blk_grown (g := gb188) (o := .cells #[.int .i64 0, .int .i64 0, .slice none 0 0] 24 (0, 0)) (by (with_reducible repeat (first | refine blk_drewN ?_ _ | refine blk_drew ?_ | refine blk_alloc ?_ _)); exact BK188.out) hg (Kd.R_ne HO_196002.out BK188.out (by decide))); have n4_ := Aside0.mk (blk_grown (g := gb189) (o := .cells #[.int .i64 x190000_2, .int .i64 x190001_2, u190002] 24 (0, 0)) (by (with_reducible repeat (first | refine blk_drewN ?_ _ | refine blk_drew ?_ | refine blk_alloc ?_ _)); exact BK189.out) hg (Kd.R_ne HO_196002.out BK189.out (by decide))); have n5_ := Aside0.mk (blk_grown (g := gb195) (o := .cells #[.int .i64 x5_1, .int .i64 x7_2, u196002] 24 (0, 0)) (by (with_reducible repeat (first | refine blk_drewN ?_ _ | refine blk_drew ?_ | refine blk_alloc ?_ _)); exact BK195.out) hg (Kd.R_ne HO_196002.out BK195.out (by decide))); have n6_ := Aside0.mk (hb); have n7_ := Aside0.mk (ho); clear HO_6; clear HO_11; clear HO_190002; clear BK188; clear BK189; clear BK195; clear HB; clear HO_196002; have HO_6 := n0_; have HO_11 := n1_; have HO_190002 := n2_; have BK188 := n3_; have BK189 := n4_; have BK195 := n5_; have HB := n6_; have HO202 := n7_; clear n0_ n1_ n2_ n3_ n4_ n5_ n6_ n7_; clear ho hb hg hat; obtain ⟨Ao34, co34, eo34⟩ := Kd.R_slice HO202.out; subst eo34; have hcz35_0 : w33.cell? ⟨gb195, 0, none⟩ = some (.int .i64 x5_1) := (blk_cell BK195.out 0).trans rfl; have hcz35_1 : w33.cell? ⟨gb195, 1, none⟩ = some (.int .i64 x7_2) := (blk_cell BK195.out 1).trans rfl; have hcz35_2 : w33.cell? ⟨gb195, 2, none⟩ = some (u196002) := (blk_cell BK195.out 2).trans rfl; have hfz35_0 := blk_frozen BK195.out 0; have hfz35_1 := blk_frozen BK195.out 1; have hfz35_2 := blk_frozen BK195.out 2))
                    go_roundg k4
                    case measure => have := HK1.out; have := HK2.out; have := HK3.out; have := HK4.out; omega
                    case rel => exact ⟨(wrap64 (x9_3 + x13_4)), (wrap64 (x45_3 + 1)), (y200), (.slice Ao34 y200.length co34), (by first | rfl | (simp; done) | (simp [*]; done)), (by first | rfl | (simp; done) | (simp [*]; done)), H', ⟨by have := HK1.out; have := HK2.out; have := HK3.out; have := HK4.out; omega⟩, ⟨by (with_reducible repeat (first | apply Kd.R_alloc | apply Kd.R_drewN | apply Kd.R_drew)); exact Kd.R_mono (Kd.R_far (p := ⟨gb195, 2, none⟩) (Kd.R_types HO_6.out BK195.out (by decide)) (fun _ hk => hk.2) (.slice Ao34 y200.length co34)) (fun _ hk => ⟨hk.1.1, hk.1.2⟩)⟩, ⟨by (with_reducible repeat (first | apply Kd.R_alloc | apply Kd.R_drewN | apply Kd.R_drew)); exact Kd.R_mono (Kd.R_far (p := ⟨gb195, 2, none⟩) (Kd.R_types HO_190002.out BK195.out (by decide)) (fun _ hk => hk.2) (.slice Ao34 y200.length co34)) (fun _ hk => ⟨hk.1.1, hk.1.2⟩)⟩, ⟨by (with_reducible repeat (first | apply Kd.R_alloc | apply Kd.R_drewN | apply Kd.R_drew)); exact Kd.R_mono (Kd.R_far (p := ⟨gb195, 2, none⟩) (Kd.R_types HO202.out BK195.out (by decide)) (fun _ hk => hk.2) (.slice Ao34 y200.length co34)) (fun _ hk => ⟨hk.1.1, hk.1.2⟩)⟩, ⟨by (with_reducible repeat (first | refine blk_drewN ?_ _ | refine blk_drew ?_ | refine blk_alloc ?_ _)); refine blk_far ?_ NB188_195.out _; (with_reducible repeat (first | refine blk_drewN ?_ _ | refine blk_drew ?_ | refine blk_alloc ?_ _)); exact BK188.out⟩, ⟨by (with_reducible repeat (first | refine blk_drewN ?_ _ | refine blk_drew ?_ | refine blk_alloc ?_ _)); refine blk_far ?_ NB189_195.out _; (with_reducible repeat (first | refine blk_drewN ?_ _ | refine blk_drew ?_ | refine blk_alloc ?_ _)); exact BK189.out⟩, ⟨by (with_reducible repeat (first | refine blk_drewN ?_ _ | refine blk_drew ?_ | refine blk_alloc ?_ _)); refine blk_put (cs := #[.int .i64 x5_1, .int .i64 x7_2, u196002]) ?_ 2 _ rfl; (with_reducible repeat (first | refine blk_drewN ?_ _ | refine blk_drew ?_ | refine blk_alloc ?_ _)); exact BK195.out⟩, ⟨by repeat (first | (with_reducible first | exact HB.out | apply below_alloc | apply pw_below_drewN | apply below_drew1 | refine below_set ?_ GE188.out | refine below_set ?_ GE189.out | refine below_set ?_ GE195.out) | exact HB.out)⟩⟩
                  rw [if_pos c22] at H
                  have c22b0 : decide (x14_4 ≤ 25) = true := decide_eq_true c22
                  clear c22
                  replace H := Option.bind_eq_some_iff.mp H
                  obtain ⟨t199, A230, H⟩ := H
                  replace H : (if x13_4 < 0 then (impl_BestPlan.l3 k4 l0 x4_2 x5_1 t191 x7_2 x9_3 t196 x14_4 t199 (wrap64 (x14_4 + 1)) ji13 x45_3 x190000_2 x190001_2 x190002_2 x5_1 x7_2 x196002_3) else (if t199 < x13_4 then (impl_BestPlan.l3 k4 l0 x4_2 x5_1 t191 x7_2 x9_3 t196 x14_4 t199 (wrap64 (x14_4 + 1)) ji13 x45_3 x190000_2 x190001_2 x190002_2 x5_1 x7_2 x196002_3) else (impl_BestPlan.l3 k4 l0 x4_2 x5_1 t191 x7_2 x9_3 t196 x12_4 x13_4 (wrap64 (x14_4 + 1)) ji13 x45_3 x190000_2 x190001_2 x190002_2 x5_1 x7_2 x196002_3))) = some (r1, r2, r3) := H
                  have A23 := Aside0.mk A230
                  clear A230
                  by_cases c24 : x13_4 < 0
                  · rw [if_pos c24] at H
                    have c24b0 : decide (x13_4 < 0) = true := decide_eq_true c24
                    clear c24
                    have H' := Aside0.mk H
                    clear H
                    obtain ⟨Ao25, co25, eo25⟩ := Kd.V_slice HO_11.out
                    subst eo25
                    go_wp2_with (first | ((with_reducible refine gate_callee (f := 82) rfl ?_); refine goesL_ (some 59) rfl rfl Try.func82 (by kernel_rfl) rfl #[.int .i64 x14_4, .slice Ao25 t196.length co25] rfl (by (try simp only [List.map_toArray, List.map_cons, List.map_nil]); first | done | rfl | (simp only [List.length_drop, List.length_take]; rfl)) ?_; (with_reducible refine (impl_zkeyCost.calls k4 x14_4 _ _ t196 t199 _ ?side1 ?side2 A23.out).mono ?_); (case side1 => repeat (first | exact (Kd.V_reads' HO_11.out).2.2 | (with_reducible refine Kd.C_alloc ?_ _) | (with_reducible refine Kd.C_drewN ?_ _) | (with_reducible refine Kd.C_drew ?_))); (case side2 => exact (Kd.V_reads' HO_11.out).2.1); rintro e w' ⟨rfl, ⟨nd, rfl⟩⟩; refine ⟨_, rfl, ?_⟩))
                    go_roundg k4
                    case measure => have := HK1.out; have := HK2.out; have := HK3.out; have := HK4.out; omega
                    case rel => exact ⟨(x14_4), (t199), (wrap64 (x14_4 + 1)), (by first | rfl | (simp; done) | (simp [*]; done)), (by first | rfl | (simp; done) | (simp [*]; done)), (by first | rfl | (simp; done) | (simp [*]; done)), H', ⟨by have := HK1.out; have := HK2.out; have := HK3.out; have := HK4.out; omega⟩, ⟨by (with_reducible repeat (first | apply Kd.R_alloc | apply Kd.R_drewN | apply Kd.R_drew)); exact HO_6.out⟩, ⟨by (with_reducible repeat (first | apply Kd.V_alloc | apply Kd.V_drewN | apply Kd.V_drew)); exact HO_11.out⟩, ⟨by (with_reducible repeat (first | apply Kd.R_alloc | apply Kd.R_drewN | apply Kd.R_drew)); exact HO_190002.out⟩, ⟨by (with_reducible repeat (first | apply Kd.R_alloc | apply Kd.R_drewN | apply Kd.R_drew)); exact HO_196002.out⟩, ⟨by (with_reducible repeat (first | refine blk_drewN ?_ _ | refine blk_drew ?_ | refine blk_alloc ?_ _)); exact BK188.out⟩, ⟨by (with_reducible repeat (first | refine blk_drewN ?_ _ | refine blk_drew ?_ | refine blk_alloc ?_ _)); exact BK189.out⟩, ⟨by (with_reducible repeat (first | refine blk_drewN ?_ _ | refine blk_drew ?_ | refine blk_alloc ?_ _)); exact BK195.out⟩, ⟨by repeat (first | (with_reducible first | exact HB.out | apply below_alloc | apply pw_below_drewN | apply below_drew1 | refine below_set ?_ GE188.out | refine below_set ?_ GE189.out | refine below_set ?_ GE195.out) | exact HB.out)⟩⟩
                  rw [if_neg c24] at H
                  have c24b0 : decide (x13_4 < 0) = false := decide_eq_false c24
                  clear c24
                  by_cases c26 : t199 < x13_4
                  · rw [if_pos c26] at H
                    have c26b0 : decide (t199 < x13_4) = true := decide_eq_true c26
                    clear c26
                    have H' := Aside0.mk H
                    clear H
                    obtain ⟨Ao27, co27, eo27⟩ := Kd.V_slice HO_11.out
                    subst eo27
                    go_wp2_with (first | ((with_reducible refine gate_callee (f := 82) rfl ?_); refine goesL_ (some 59) rfl rfl Try.func82 (by kernel_rfl) rfl #[.int .i64 x14_4, .slice Ao27 t196.length co27] rfl (by (try simp only [List.map_toArray, List.map_cons, List.map_nil]); first | done | rfl | (simp only [List.length_drop, List.length_take]; rfl)) ?_; (with_reducible refine (impl_zkeyCost.calls k4 x14_4 _ _ t196 t199 _ ?side1 ?side2 A23.out).mono ?_); (case side1 => repeat (first | exact (Kd.V_reads' HO_11.out).2.2 | (with_reducible refine Kd.C_alloc ?_ _) | (with_reducible refine Kd.C_drewN ?_ _) | (with_reducible refine Kd.C_drew ?_))); (case side2 => exact (Kd.V_reads' HO_11.out).2.1); rintro e w' ⟨rfl, ⟨nd, rfl⟩⟩; refine ⟨_, rfl, ?_⟩))
                    go_roundg k4
                    case measure => have := HK1.out; have := HK2.out; have := HK3.out; have := HK4.out; omega
                    case rel => exact ⟨(x14_4), (t199), (wrap64 (x14_4 + 1)), (by first | rfl | (simp; done) | (simp [*]; done)), (by first | rfl | (simp; done) | (simp [*]; done)), (by first | rfl | (simp; done) | (simp [*]; done)), H', ⟨by have := HK1.out; have := HK2.out; have := HK3.out; have := HK4.out; omega⟩, ⟨by (with_reducible repeat (first | apply Kd.R_alloc | apply Kd.R_drewN | apply Kd.R_drew)); exact HO_6.out⟩, ⟨by (with_reducible repeat (first | apply Kd.V_alloc | apply Kd.V_drewN | apply Kd.V_drew)); exact HO_11.out⟩, ⟨by (with_reducible repeat (first | apply Kd.R_alloc | apply Kd.R_drewN | apply Kd.R_drew)); exact HO_190002.out⟩, ⟨by (with_reducible repeat (first | apply Kd.R_alloc | apply Kd.R_drewN | apply Kd.R_drew)); exact HO_196002.out⟩, ⟨by (with_reducible repeat (first | refine blk_drewN ?_ _ | refine blk_drew ?_ | refine blk_alloc ?_ _)); exact BK188.out⟩, ⟨by (with_reducible repeat (first | refine blk_drewN ?_ _ | refine blk_drew ?_ | refine blk_alloc ?_ _)); exact BK189.out⟩, ⟨by (with_reducible repeat (first | refine blk_drewN ?_ _ | refine blk_drew ?_ | refine blk_alloc ?_ _)); exact BK195.out⟩, ⟨by repeat (first | (with_reducible first | exact HB.out | apply below_alloc | apply pw_below_drewN | apply below_drew1 | refine below_set ?_ GE188.out | refine below_set ?_ GE189.out | refine below_set ?_ GE195.out) | exact HB.out)⟩⟩
                  rw [if_neg c26] at H
                  have c26b0 : decide (t199 < x13_4) = false := decide_eq_false c26
                  clear c26
                  have H' := Aside0.mk H
                  clear H
                  obtain ⟨Ao28, co28, eo28⟩ := Kd.V_slice HO_11.out
                  subst eo28
                  go_wp2_with (first | ((with_reducible refine gate_callee (f := 82) rfl ?_); refine goesL_ (some 59) rfl rfl Try.func82 (by kernel_rfl) rfl #[.int .i64 x14_4, .slice Ao28 t196.length co28] rfl (by (try simp only [List.map_toArray, List.map_cons, List.map_nil]); first | done | rfl | (simp only [List.length_drop, List.length_take]; rfl)) ?_; (with_reducible refine (impl_zkeyCost.calls k4 x14_4 _ _ t196 t199 _ ?side1 ?side2 A23.out).mono ?_); (case side1 => repeat (first | exact (Kd.V_reads' HO_11.out).2.2 | (with_reducible refine Kd.C_alloc ?_ _) | (with_reducible refine Kd.C_drewN ?_ _) | (with_reducible refine Kd.C_drew ?_))); (case side2 => exact (Kd.V_reads' HO_11.out).2.1); rintro e w' ⟨rfl, ⟨nd, rfl⟩⟩; refine ⟨_, rfl, ?_⟩))
                  go_roundg k4
                  case measure => have := HK1.out; have := HK2.out; have := HK3.out; have := HK4.out; omega
                  case rel => exact ⟨(x12_4), (x13_4), (wrap64 (x14_4 + 1)), (by first | rfl | (simp; done) | (simp [*]; done)), (by first | rfl | (simp; done) | (simp [*]; done)), (by first | rfl | (simp; done) | (simp [*]; done)), H', ⟨by have := HK1.out; have := HK2.out; have := HK3.out; have := HK4.out; omega⟩, ⟨by (with_reducible repeat (first | apply Kd.R_alloc | apply Kd.R_drewN | apply Kd.R_drew)); exact HO_6.out⟩, ⟨by (with_reducible repeat (first | apply Kd.V_alloc | apply Kd.V_drewN | apply Kd.V_drew)); exact HO_11.out⟩, ⟨by (with_reducible repeat (first | apply Kd.R_alloc | apply Kd.R_drewN | apply Kd.R_drew)); exact HO_190002.out⟩, ⟨by (with_reducible repeat (first | apply Kd.R_alloc | apply Kd.R_drewN | apply Kd.R_drew)); exact HO_196002.out⟩, ⟨by (with_reducible repeat (first | refine blk_drewN ?_ _ | refine blk_drew ?_ | refine blk_alloc ?_ _)); exact BK188.out⟩, ⟨by (with_reducible repeat (first | refine blk_drewN ?_ _ | refine blk_drew ?_ | refine blk_alloc ?_ _)); exact BK189.out⟩, ⟨by (with_reducible repeat (first | refine blk_drewN ?_ _ | refine blk_drew ?_ | refine blk_alloc ?_ _)); exact BK195.out⟩, ⟨by repeat (first | (with_reducible first | exact HB.out | apply below_alloc | apply pw_below_drewN | apply below_drew1 | refine below_set ?_ GE188.out | refine below_set ?_ GE189.out | refine below_set ?_ GE195.out) | exact HB.out)⟩⟩

end Go.Proofs.Ytidblealnaicpaa.PFnPlan

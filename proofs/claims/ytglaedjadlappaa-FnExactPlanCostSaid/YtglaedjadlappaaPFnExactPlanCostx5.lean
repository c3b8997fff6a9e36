-- written by myprint.py (a program of this session's over the kit's print)
import Derived.Test.YtglaedjadlappaaPFnExactPlanCostx0
import Derived.Test.YtglaedjadlappaaPFnExactPlanCostx1
import Derived.Test.YtglaedjadlappaaPFnExactPlanCostx3
import Derived.Test.YtglaedjadlappaaPFnExactPlanCostx4
namespace Go.Proofs.Ytglaedjadlappaa.PFnExactPlanCost
open Go.RowKit Go.Proofs.YtglaedjadlappaaW.PrintWords Go.Proofs.YtglaedjadlappaaW.PrintLast Go.Proofs.YtglaedjadlappaaW.PrintMore
attribute [local go_sem] max2_int min2_int max_two min_two max_three min_three max_four min_four   -- for this text's walks alone
set_option linter.unusedVariables false
set_option linter.unusedSimpArgs false

/-! ### impl_zkeyCost: function 109 -/
def impl_zkeyCost.l0 : Nat → Int → Int → List Int → Int → Int → Option (Int)
  | 0, _, _, _, _, _ => none
  | k + 1, x0, x5, x14, x15, x16 => if x16 < x15 then (if 0 ≤ x16 then (if x16 < (x14.length : Int) then ((impl_Fold.f (rd x14 x16)).bind fun t184 => (if 0 ≤ x0 then (impl_zkeyCost.l0 k x0 (wrap64 (x5 + (wrap64 ((wrap64 ((wrap64 (shr .u64 t184 x0)) + 1)) + x0)))) x14 x15 (wrap64 (x16 + 1))) else (none))) else (none)) else (none)) else (some x5)
def impl_zkeyCost.f (k : Nat) (a0 : Int) (l1 : List Int) : Option (Int) := if a0 = 25 then (some (wrap64 (5 + (wrap64 (32 * (l1.length : Int)))))) else (impl_zkeyCost.l0 k a0 5 l1 (l1.length : Int) 0)
theorem impl_zkeyCost.mono_l : ∀ k, (∀ y0 y1 y2 y3 y4, LeO (impl_zkeyCost.l0 k y0 y1 y2 y3 y4) (impl_zkeyCost.l0 (k + 1) y0 y1 y2 y3 y4))
  | 0 => fun _ _ _ _ _ r h => by simp [impl_zkeyCost.l0] at h
  | k + 1 => by
    have ih0 := impl_zkeyCost.mono_l k
    · intro y0 y1 y2 y3 y4
      unfold impl_zkeyCost.l0
      repeat' first
      | (with_reducible exact ih0 _ _ _ _ _)
      | (with_reducible exact LeO.refl _)
      | (with_reducible exact LeO.none _)
      | (with_reducible refine LeO.ite ?_ ?_)
      | (with_reducible refine LeO.bind ?_ (fun _ => ?_))
      | exact ih0 _ _ _ _ _
      | exact LeO.none _
      | refine LeO.ite ?_ ?_
      | refine LeO.bind ?_ (fun _ => ?_)
theorem impl_zkeyCost.mono : ∀ a0 a1 k, LeO (impl_zkeyCost.f k a0 a1) (impl_zkeyCost.f (k + 1) a0 a1) := by
  intro a0 a1 k
  have ih0 := impl_zkeyCost.mono_l k
  unfold impl_zkeyCost.f
  repeat' first
      | (with_reducible exact ih0 _ _ _ _ _)
      | (with_reducible exact LeO.refl _)
      | (with_reducible exact LeO.none _)
      | (with_reducible refine LeO.ite ?_ ?_)
      | (with_reducible refine LeO.bind ?_ (fun _ => ?_))
      | exact ih0 _ _ _ _ _
      | exact LeO.none _
      | refine LeO.ite ?_ ?_
      | refine LeO.bind ?_ (fun _ => ?_)
set_option maxHeartbeats 8000000 in
set_option maxRecDepth 100000 in
theorem impl_zkeyCost.calls (k : Nat) (a0 : Int) (A1 : Option Addr) (c1 : Nat) (l1 : List Int) (r : Int) (w : World) (hr1 : Kd.C (Kd.int .i64) w A1 l1.length l1) (hc1 : l1.length ≤ c1) (h : impl_zkeyCost.f k a0 l1 = some r) :
    Calls Try.prog 109 #[.int .i64 a0, .slice A1 l1.length c1] w fun e w' => e = .returned (.int .i64 r) ∧ Drawn0 w w' := by
  have HR1 := Aside0.mk hr1
  have HC1 := Aside0.mk hc1
  clear hr1 hc1
  have H : (if a0 = 25 then (some (wrap64 (5 + (wrap64 (32 * (l1.length : Int)))))) else (impl_zkeyCost.l0 k a0 5 l1 (l1.length : Int) 0)) = some r := h
  clear h
  by_cases c3 : a0 = 25
  · rw [if_pos c3] at H
    have c3b0 : (a0 == 25) = true := beq_iff_eq.mpr c3
    have c3b1 : (a0 != 25) = false := bne_eq_false_iff_eq.mpr c3
    clear c3
    obtain rfl := Option.some.inj H
    go_enter Try.func109, Try.ntmps109
    go_wp2
    go_ret
    exact ⟨by first | rfl | (simp; done) | (simp [*]; done), by repeat (first | exact Drawn0.refl _ | apply Drawn0.step)⟩
  rw [if_neg c3] at H
  have c3b0 : (a0 == 25) = false := beq_eq_false_iff_ne.mpr c3
  have c3b1 : (a0 != 25) = true := bne_iff_ne.mpr c3
  have H' := Aside0.mk H
  clear H
  go_enter Try.func109, Try.ntmps109
  go_wp2
  go_loopg [5, 16] k (fun kq v5 v16 w' => ∃ (x5_1 : Int) (x16_1 : Int), v5 = .int .i64 x5_1 ∧ v16 = .int .i64 x16_1 ∧ Aside0 (impl_zkeyCost.l0 kq a0 x5_1 l1 (l1.length : Int) x16_1 = some r) ∧ Aside0 (kq ≤ k) ∧ Drawn0 w w')
  case atStart => exact ⟨(5), (0), (by first | rfl | (simp; done) | (simp [*]; done)), (by first | rfl | (simp; done) | (simp [*]; done)), H', ⟨Nat.le_refl _⟩, by repeat (first | exact Drawn0.refl _ | apply Drawn0.step)⟩
  case round =>
    clear H'
    try clear c1
    try clear p2
    try clear c3
    try clear c3b0
    try clear c3b1
    obtain ⟨x5_1, x16_1, rfl, rfl, HA, HK1, ⟨m1, rfl⟩⟩ := hrel
    cases gk with
    | zero => exact absurd HA.out (by simp [impl_zkeyCost.l0])
    | succ k1 =>
      have H := HA.out
      clear HA
      simp only [impl_zkeyCost.l0] at H
      by_cases c4 : x16_1 < (l1.length : Int)
      rotate_left
      · rw [if_neg c4] at H
        have c4b0 : decide (x16_1 < (l1.length : Int)) = false := decide_eq_false c4
        clear c4
        obtain rfl := Option.some.inj H
        go_wp2
        go_ret
        exact ⟨by first | rfl | (simp; done) | (simp [*]; done), by repeat (first | exact Drawn0.refl _ | apply Drawn0.step)⟩
      rw [if_pos c4] at H
      have c4b0 : decide (x16_1 < (l1.length : Int)) = true := decide_eq_true c4
      clear c4
      by_cases c5 : 0 ≤ x16_1
      rotate_left
      · rw [if_neg c5] at H
        exact absurd H (by simp)
      rw [if_pos c5] at H
      have c5b0 : decide (0 ≤ x16_1) = true := decide_eq_true c5
      clear c5
      by_cases c6 : x16_1 < (l1.length : Int)
      rotate_left
      · rw [if_neg c6] at H
        exact absurd H (by simp)
      rw [if_pos c6] at H
      have c6b0 : decide (x16_1 < (l1.length : Int)) = true := decide_eq_true c6
      clear c6
      replace H := Option.bind_eq_some_iff.mp H
      obtain ⟨t184, A70, H⟩ := H
      replace H : (if 0 ≤ a0 then (impl_zkeyCost.l0 k1 a0 (wrap64 (x5_1 + (wrap64 ((wrap64 ((wrap64 (shr .u64 t184 a0)) + 1)) + a0)))) l1 (l1.length : Int) (wrap64 (x16_1 + 1))) else (none)) = some r := H
      have A7 := Aside0.mk A70
      clear A70
      by_cases c8 : 0 ≤ a0
      rotate_left
      · rw [if_neg c8] at H
        exact absurd H (by simp)
      rw [if_pos c8] at H
      have c8b0 := eq_true c8
      have c8b1 : decide (0 ≤ a0) = true := decide_eq_true c8
      clear c8
      obtain ⟨ji9, hji9⟩ : ∃ j_ : Int, (shr .u64 t184 a0) = j_ := ⟨_, rfl⟩
      replace H : (impl_zkeyCost.l0 k1 a0 (wrap64 (x5_1 + (wrap64 ((wrap64 ((wrap64 (ji9)) + 1)) + a0)))) l1 (l1.length : Int) (wrap64 (x16_1 + 1))) = some r := by first | (rw [hji9] at H; exact H) | (simp only [hji9] at H ⊢; exact H)
      (try rw [hji9] at A7)
      have hji9_ : (t184 / 2 ^ min a0.toNat 64) = ji9 := hji9
      have hji9z : a0 ≤ 64 → (t184 / 2 ^ a0.toNat) = ji9 := shr_small hji9
      have H' := Aside0.mk H
      clear H
      have p183 : 0 ≤ (x16_1 : Int) := of_decide_eq_true (by first | (with_reducible assumption) | assumption)
      have q183 : x16_1 < (l1.length : Int) := of_decide_eq_true (by first | (with_reducible assumption) | assumption)
      obtain ⟨ad183, e183, hx183_0⟩ := Kd.at_int HR1.out x16_1 p183 q183
      cases e183
      replace p183 := eq_true p183
      replace q183 := eq_true q183
      go_wp2_with (first | ((with_reducible refine gate_callee (f := 86) rfl ?_); refine goesL_ (some 22) rfl rfl Try.func86 (by kernel_rfl) rfl #[.int .i64 (rd l1 x16_1)] rfl (by (try simp only [List.map_toArray, List.map_cons, List.map_nil]); first | done | rfl | (simp only [List.length_drop, List.length_take]; rfl)) ?_; (with_reducible refine (impl_Fold.calls (rd l1 x16_1) t184 _ A7.out).mono ?_); rintro e w' ⟨rfl, ⟨nd, rfl⟩⟩; refine ⟨_, rfl, ?_⟩))
      go_roundg k1
      case measure => have := HK1.out; omega
      case rel => exact ⟨(wrap64 (x5_1 + (wrap64 ((wrap64 ((wrap64 (ji9)) + 1)) + a0)))), (wrap64 (x16_1 + 1)), (by first | rfl | (simp; done) | (simp only [← hji9] <;> (first | rfl | simp)) | (simp [*]; done)), (by first | rfl | (simp; done) | (simp [*]; done)), H', ⟨by have := HK1.out; omega⟩, by repeat (first | exact Drawn0.refl _ | apply Drawn0.step)⟩

/-! ### impl_zpart: function 110 -/
def impl_zpart.f (a0 : Int) (a1 : Int) (l2 : List Int) (a3 : Int) : Option (List Int) := if 0 ≤ a1 then (if 0 ≤ (mx (wrap64 (a3 * (shr .i64 (l2.length : Int) a1))) a0) then (if (mx (wrap64 (a3 * (shr .i64 (l2.length : Int) a1))) a0) ≤ (wrap64 ((wrap64 (a3 + 1)) * (shr .i64 (l2.length : Int) a1))) then (if (wrap64 ((wrap64 (a3 + 1)) * (shr .i64 (l2.length : Int) a1))) ≤ (l2.length : Int) then (some ((l2.take ((wrap64 ((wrap64 (a3 + 1)) * (shr .i64 (l2.length : Int) a1))) : Int).toNat).drop ((mx (wrap64 (a3 * (shr .i64 (l2.length : Int) a1))) a0) : Int).toNat)) else (none)) else (none)) else (none)) else (none)
set_option maxHeartbeats 8000000 in
set_option maxRecDepth 100000 in
theorem impl_zpart.calls (a0 : Int) (a1 : Int) (P2_ : Nat → Prop) (A2 : Option Addr) (c2 : Nat) (l2 : List Int) (a3 : Int) (r : List Int) (w : World) (hs2 : Kd.V (Kd.int .i64) 3 w w.heap.size (fun k_ => P2_ k_) (.slice A2 l2.length c2) l2) (h : impl_zpart.f a0 a1 l2 a3 = some r) :
    Calls Try.prog 110 #[.int .i64 a0, .int .i64 a1, .slice A2 l2.length c2, .int .i64 a3] w fun e w' => ∃ v0_ : Value, e = .returned (v0_) ∧ Kd.V (Kd.int .i64) 3 w' w.heap.size (fun k_ => (P2_ k_ ∨ w.heap.size ≤ k_)) v0_ r ∧ Below w.heap.size w w' := by
  have HO2 := Aside0.mk (show Kd.V (Kd.int .i64) 3 w w.heap.size (fun k_ => (P2_ k_ ∨ w.heap.size ≤ k_)) (.slice A2 l2.length c2) l2 from Kd.V_mono hs2 (fun k_ hk => .inl hk))
  have HB := Aside0.mk (Below.refl w.heap.size w)
  have H : (if 0 ≤ a1 then (if 0 ≤ (mx (wrap64 (a3 * (shr .i64 (l2.length : Int) a1))) a0) then (if (mx (wrap64 (a3 * (shr .i64 (l2.length : Int) a1))) a0) ≤ (wrap64 ((wrap64 (a3 + 1)) * (shr .i64 (l2.length : Int) a1))) then (if (wrap64 ((wrap64 (a3 + 1)) * (shr .i64 (l2.length : Int) a1))) ≤ (l2.length : Int) then (some ((l2.take ((wrap64 ((wrap64 (a3 + 1)) * (shr .i64 (l2.length : Int) a1))) : Int).toNat).drop ((mx (wrap64 (a3 * (shr .i64 (l2.length : Int) a1))) a0) : Int).toNat)) else (none)) else (none)) else (none)) else (none)) = some r := h
  clear h
  by_cases c5 : 0 ≤ a1
  rotate_left
  · rw [if_neg c5] at H
    exact absurd H (by simp)
  rw [if_pos c5] at H
  have c5b0 := eq_true c5
  have c5b1 : decide (0 ≤ a1) = true := decide_eq_true c5
  clear c5
  obtain ⟨ji6, hji6⟩ : ∃ j_ : Int, (shr .i64 (l2.length : Int) a1) = j_ := ⟨_, rfl⟩
  replace H : (if 0 ≤ (mx (wrap64 (a3 * (ji6))) a0) then (if (mx (wrap64 (a3 * (ji6))) a0) ≤ (wrap64 ((wrap64 (a3 + 1)) * (ji6))) then (if (wrap64 ((wrap64 (a3 + 1)) * (ji6))) ≤ (l2.length : Int) then (some ((l2.take ((wrap64 ((wrap64 (a3 + 1)) * (ji6))) : Int).toNat).drop ((mx (wrap64 (a3 * (ji6))) a0) : Int).toNat)) else (none)) else (none)) else (none)) = some r := by first | (rw [hji6] at H; exact H) | (simp only [hji6] at H ⊢; exact H)
  have hji6_ : ((l2.length : Int) / 2 ^ min a1.toNat 64) = ji6 := hji6
  have hji6z : a1 ≤ 64 → ((l2.length : Int) / 2 ^ a1.toNat) = ji6 := shr_small hji6
  obtain ⟨ji7, hji7⟩ : ∃ j_ : Int, (mx (wrap64 (a3 * (ji6))) a0) = j_ := ⟨_, rfl⟩
  replace H : (if 0 ≤ (ji7) then (if (ji7) ≤ (wrap64 ((wrap64 (a3 + 1)) * (ji6))) then (if (wrap64 ((wrap64 (a3 + 1)) * (ji6))) ≤ (l2.length : Int) then (some ((l2.take ((wrap64 ((wrap64 (a3 + 1)) * (ji6))) : Int).toNat).drop ((ji7) : Int).toNat)) else (none)) else (none)) else (none)) = some r := by first | (rw [hji7] at H; exact H) | (simp only [hji7] at H ⊢; exact H)
  have hji7_ : (if (wrap64 (a3 * (ji6))) < a0 then a0 else (wrap64 (a3 * (ji6)))) = ji7 := hji7
  by_cases c8 : 0 ≤ (ji7)
  rotate_left
  · rw [if_neg c8] at H
    exact absurd H (by simp)
  rw [if_pos c8] at H
  have c8b0 := eq_true c8
  have c8b1 : decide (0 ≤ (ji7)) = true := decide_eq_true c8
  clear c8
  by_cases c9 : (ji7) ≤ (wrap64 ((wrap64 (a3 + 1)) * (ji6)))
  rotate_left
  · rw [if_neg c9] at H
    exact absurd H (by simp)
  rw [if_pos c9] at H
  have c9b0 := eq_true c9
  have c9b1 : decide ((ji7) ≤ (wrap64 ((wrap64 (a3 + 1)) * (ji6)))) = true := decide_eq_true c9
  by_cases c10 : (wrap64 ((wrap64 (a3 + 1)) * (ji6))) ≤ (l2.length : Int)
  rotate_left
  · rw [if_neg c10] at H
    exact absurd H (by simp)
  rw [if_pos c10] at H
  have c10b0 := eq_true c10
  have c10b1 : decide ((wrap64 ((wrap64 (a3 + 1)) * (ji6))) ≤ (l2.length : Int)) = true := decide_eq_true c10
  obtain ⟨y185, hy185⟩ : ∃ y_ : List Int, y_ = ((l2.take ((wrap64 ((wrap64 (a3 + 1)) * (ji6))) : Int).toNat).drop ((ji7) : Int).toNat) := ⟨_, rfl⟩
  replace H : (some y185) = some r := by first | (rw [hy185]; with_reducible exact H) | (have H2_ := (Option.bind_some _ _).symm.trans H; rw [hy185]; with_reducible exact H2_) | (have H2_ := (Option.bind_some _ _).symm.trans H; with_reducible exact H2_) | with_reducible exact H | (rw [hy185]; exact H) | exact H
  have Ny185 := Aside0.mk hy185
  clear hy185
  obtain rfl := Option.some.inj H
  have q11 : ((wrap64 ((wrap64 (a3 + 1)) * (ji6))) : Int) ≤ ((l2.length : Int) : Int) := of_decide_eq_true (by first | (with_reducible assumption) | assumption)
  obtain ⟨i011, hi011, _, hsz11, _⟩ := info_parts info3
  have hroom11 : l2.length ≤ c2 := (Kd.V_reads' HO2.out).2.1
  have hC11 : Kd.F (Kd.int .i64) _ _ A2 l2.length l2 := (Kd.V_at (base := w.heap.size) HO2.out).2.2
  have ql11 : ((ji7) : Int) ≤ ((wrap64 ((wrap64 (a3 + 1)) * (ji6))) : Int) := of_decide_eq_true (by first | (with_reducible assumption) | assumption)
  have q011 : (0 : Int) ≤ ((ji7) : Int) := of_decide_eq_true (by first | (with_reducible assumption) | assumption)
  have hcut11 := cut_mid (P := Try.prog) 22 3 .i64 .i64 Try.underlying22 hi011 1 hsz11 A2 l2.length c2 (ji7) (wrap64 ((wrap64 (a3 + 1)) * (ji6))) q011 ql11 q11 hroom11
  have hr11 := Kd.F_mid (lo := ((ji7) : Int).toNat) (hi := ((wrap64 ((wrap64 (a3 + 1)) * (ji6))) : Int).toNat) (c := c2) hC11 (by omega) (by omega) hroom11
  obtain ⟨A11, hA11⟩ : ∃ A1, A1 = (if c2 = ((ji7) : Int).toNat then A2 else (A2 : Option Addr).map (·.add (((ji7) : Int).toNat * 1))) := ⟨_, rfl⟩
  obtain ⟨c11, hc11⟩ : ∃ c1, c1 = c2 - ((ji7) : Int).toNat := ⟨_, rfl⟩
  have hy11 : y185.length = ((wrap64 ((wrap64 (a3 + 1)) * (ji6))) : Int).toNat - ((ji7) : Int).toNat := (by rw [Ny185.out, List.length_drop, List.length_take] <;> omega)
  rw [show ((l2).take ((wrap64 ((wrap64 (a3 + 1)) * (ji6))) : Int).toNat).drop ((ji7) : Int).toNat = y185 from Ny185.out.symm] at hr11
  replace hr11 : Kd.F (Kd.int .i64) _ _ A11 y185.length y185 := (by rw [hA11]; exact hr11)
  rw [← hy11, ← hA11, ← hc11] at hcut11
  have HO189 := Aside0.mk (show Kd.V (Kd.int .i64) 3 _ w.heap.size _ (.slice A11 y185.length c11) y185 from Kd.V_mk (by rw [hy11, hc11]; exact Nat.sub_le_sub_right (Nat.le_trans (by omega) hroom11) _) hr11)
  have HC189 := Aside0.mk (show y185.length ≤ c11 from by rw [hy11, hc11]; exact Nat.sub_le_sub_right (Nat.le_trans (by omega) hroom11) _)
  clear hr11 hC11 hroom11 hi011 hsz11 hc11
  have KY11 := Aside0.mk hy11
  have KA11 := Aside0.mk hA11
  clear hy11 hA11
  replace q11 := eq_true q11
  go_enter Try.func110, Try.ntmps110
  go_wp2
  go_ret
  exact ⟨_, by first | rfl | (simp [errW_none, errW_some] <;> rfl) | (simp only [← hji6, ← hji7]; first | rfl | (simp [errW_none, errW_some] <;> rfl)) | (simp [*, errW_none, errW_some] <;> rfl), by (with_reducible repeat (first | apply Kd.V_alloc | apply Kd.V_drewN | apply Kd.V_drew)); exact HO189.out, by repeat (first | (with_reducible first | exact HB.out | apply below_alloc | apply pw_below_drewN | apply below_drew1) | exact HB.out)⟩

/-! ### impl_PlanCost: function 43 -/
mutual
def impl_PlanCost.j0 : Nat → List Int → Bool → Int → Int → List Int → Option (Int)
  | 0, _, _, _, _, _ => none
  | k + 1, x1, x36, x191000, x191001, x191002 => if x36 = true then (some (-1)) else ((impl_Residue.f k x191000 x1).bind fun t194 => (impl_PlanCost.l0 k t194 (wrap64 (6 + (wrap64 (26 * x191000)))) x191002 (x191002.length : Int) 0 x191000 x191001 x191002))
def impl_PlanCost.l0 : Nat → List Int → Int → List Int → Int → Int → Int → Int → List Int → Option (Int)
  | 0, _, _, _, _, _, _, _, _ => none
  | k + 1, x5, x6, x46, x47, x48, x191000, x191001, x191002 => if x48 < x47 then (if 0 ≤ x48 then (if x48 < (x46.length : Int) then ((impl_zpart.f x191000 x191001 x5 x48).bind fun t198 => ((impl_zkeyCost.f k (rd x46 x48) t198).bind fun t201 => (impl_PlanCost.l0 k x5 (wrap64 (x6 + t201)) x46 x47 (wrap64 (x48 + 1)) x191000 x191001 x191002))) else (none)) else (none)) else (some x6)
end
def impl_PlanCost.f (k : Nat) (a0_0 : Int) (a0_1 : Int) (l0_2 : List Int) (l1 : List Int) : Option (Int) := (impl_zlist.f k l1).bind fun t191 => (if t191 = true then ((impl_zfits.f a0_0 a0_1 (l1.length : Int)).bind fun t192 => (if t192 = true then (if 0 ≤ a0_1 then (if (l0_2.length : Int) = (shl .i64 1 a0_1) then ((impl_zrange.f k l0_2 0 25 16).bind fun t193 => (impl_PlanCost.j0 k l1 (!t193) a0_0 a0_1 l0_2)) else (impl_PlanCost.j0 k l1 true a0_0 a0_1 l0_2)) else (none)) else (impl_PlanCost.j0 k l1 true a0_0 a0_1 l0_2))) else (impl_PlanCost.j0 k l1 true a0_0 a0_1 l0_2))
theorem impl_PlanCost.mono_l : ∀ k, (∀ y0 y1 y2 y3 y4, LeO (impl_PlanCost.j0 k y0 y1 y2 y3 y4) (impl_PlanCost.j0 (k + 1) y0 y1 y2 y3 y4)) ∧ (∀ y0 y1 y2 y3 y4 y5 y6 y7, LeO (impl_PlanCost.l0 k y0 y1 y2 y3 y4 y5 y6 y7) (impl_PlanCost.l0 (k + 1) y0 y1 y2 y3 y4 y5 y6 y7))
  | 0 => ⟨fun _ _ _ _ _ r h => by simp [impl_PlanCost.j0] at h, fun _ _ _ _ _ _ _ _ r h => by simp [impl_PlanCost.l0] at h⟩
  | k + 1 => by
    obtain ⟨ih0, ih1⟩ := impl_PlanCost.mono_l k
    refine ⟨?_, ?_⟩
    · intro y0 y1 y2 y3 y4
      unfold impl_PlanCost.j0
      repeat' first
      | (with_reducible exact ih0 _ _ _ _ _)
      | (with_reducible exact ih1 _ _ _ _ _ _ _ _)
      | (with_reducible exact impl_Residue.mono _ _ _)
      | (with_reducible exact impl_zkeyCost.mono _ _ _)
      | (with_reducible exact impl_zlist.mono _ _)
      | (with_reducible exact impl_zrange.mono _ _ _ _ _)
      | (with_reducible exact LeO.refl _)
      | (with_reducible exact LeO.none _)
      | (with_reducible refine LeO.ite ?_ ?_)
      | (with_reducible refine LeO.bind ?_ (fun _ => ?_))
      | exact ih0 _ _ _ _ _
      | exact ih1 _ _ _ _ _ _ _ _
      | exact impl_Residue.mono _ _ _
      | exact impl_zkeyCost.mono _ _ _
      | exact impl_zlist.mono _ _
      | exact impl_zrange.mono _ _ _ _ _
      | exact LeO.none _
      | refine LeO.ite ?_ ?_
      | refine LeO.bind ?_ (fun _ => ?_)
    · intro y0 y1 y2 y3 y4 y5 y6 y7
      unfold impl_PlanCost.l0
      repeat' first
      | (with_reducible exact ih0 _ _ _ _ _)
      | (with_reducible exact ih1 _ _ _ _ _ _ _ _)
      | (with_reducible exact impl_Residue.mono _ _ _)
      | (with_reducible exact impl_zkeyCost.mono _ _ _)
      | (with_reducible exact impl_zlist.mono _ _)
      | (with_reducible exact impl_zrange.mono _ _ _ _ _)
      | (with_reducible exact LeO.refl _)
      | (with_reducible exact LeO.none _)
      | (with_reducible refine LeO.ite ?_ ?_)
      | (with_reducible refine LeO.bind ?_ (fun _ => ?_))
      | exact ih0 _ _ _ _ _
      | exact ih1 _ _ _ _ _ _ _ _
      | exact impl_Residue.mono _ _ _
      | exact impl_zkeyCost.mono _ _ _
      | exact impl_zlist.mono _ _
      | exact impl_zrange.mono _ _ _ _ _
      | exact LeO.none _
      | refine LeO.ite ?_ ?_
      | refine LeO.bind ?_ (fun _ => ?_)
theorem impl_PlanCost.mono : ∀ a0 a1 a2 a3 k, LeO (impl_PlanCost.f k a0 a1 a2 a3) (impl_PlanCost.f (k + 1) a0 a1 a2 a3) := by
  intro a0 a1 a2 a3 k
  obtain ⟨ih0, ih1⟩ := impl_PlanCost.mono_l k
  unfold impl_PlanCost.f
  repeat' first
      | (with_reducible exact ih0 _ _ _ _ _)
      | (with_reducible exact ih1 _ _ _ _ _ _ _ _)
      | (with_reducible exact impl_Residue.mono _ _ _)
      | (with_reducible exact impl_zkeyCost.mono _ _ _)
      | (with_reducible exact impl_zlist.mono _ _)
      | (with_reducible exact impl_zrange.mono _ _ _ _ _)
      | (with_reducible exact LeO.refl _)
      | (with_reducible exact LeO.none _)
      | (with_reducible refine LeO.ite ?_ ?_)
      | (with_reducible refine LeO.bind ?_ (fun _ => ?_))
      | exact ih0 _ _ _ _ _
      | exact ih1 _ _ _ _ _ _ _ _
      | exact impl_Residue.mono _ _ _
      | exact impl_zkeyCost.mono _ _ _
      | exact impl_zlist.mono _ _
      | exact impl_zrange.mono _ _ _ _ _
      | exact LeO.none _
      | refine LeO.ite ?_ ?_
      | refine LeO.bind ?_ (fun _ => ?_)
set_option maxHeartbeats 8000000 in
set_option maxRecDepth 100000 in
theorem impl_PlanCost.calls (k : Nat) (a0_0 : Int) (a0_1 : Int) (A0_2 : Option Addr) (c0_2 : Nat) (l0_2 : List Int) (A1 : Option Addr) (c1 : Nat) (l1 : List Int) (r : Int) (w : World) (hr0_2 : Kd.C (Kd.int .i64) w A0_2 l0_2.length l0_2) (hc0_2 : l0_2.length ≤ c0_2) (hr1 : Kd.C (Kd.int .i64) w A1 l1.length l1) (hc1 : l1.length ≤ c1) (h : impl_PlanCost.f k a0_0 a0_1 l0_2 l1 = some r) :
    Calls Try.prog 43 #[.agg #[.int .i64 a0_0, .int .i64 a0_1, .slice A0_2 l0_2.length c0_2], .slice A1 l1.length c1] w fun e w' => e = .returned (.int .i64 r) ∧ Below w.heap.size w w' := by
  have hu63 := Try.underlying63
  have HR0_2 := Aside0.mk hr0_2
  have HC0_2 := Aside0.mk hc0_2
  clear hr0_2 hc0_2
  have HR1 := Aside0.mk hr1
  have HC1 := Aside0.mk hc1
  clear hr1 hc1
  have HB := Aside0.mk (Below.refl w.heap.size w)
  have H : ((impl_zlist.f k l1).bind fun t191 => (if t191 = true then ((impl_zfits.f a0_0 a0_1 (l1.length : Int)).bind fun t192 => (if t192 = true then (if 0 ≤ a0_1 then (if (l0_2.length : Int) = (shl .i64 1 a0_1) then ((impl_zrange.f k l0_2 0 25 16).bind fun t193 => (impl_PlanCost.j0 k l1 (!t193) a0_0 a0_1 l0_2)) else (impl_PlanCost.j0 k l1 true a0_0 a0_1 l0_2)) else (none)) else (impl_PlanCost.j0 k l1 true a0_0 a0_1 l0_2))) else (impl_PlanCost.j0 k l1 true a0_0 a0_1 l0_2))) = some r := h
  clear h
  have HC3 := Aside0.mk H
  clear H
  go_enter Try.func43, Try.ntmps43
  go_upto_region 1 with (first | ((with_reducible refine gate_dst (N := 2) rfl ?_); (try (refine gate_guard (by rfl) ?_; dsimp only)); refine box_event ?hg (N := 2) ?hd (cs := #[.int .i64 a0_0, .int .i64 a0_1, .slice A0_2 l0_2.length c0_2]) (t := 63) ?hr ?_; (case hd => rfl); (case hg => rfl); (case hr => first | (go_simp; done) | (go_simp; rfl)); intro gb190 hg w4 hbox hb; have n0_ := Aside0.mk (below_step (by repeat (first | (with_reducible first | exact HB.out | apply below_alloc | apply pw_below_drewN | apply below_drew1) | exact HB.out)) hb); have n1_ := Aside0.mk (hbox); have n2_ := Aside0.mk ((by rw [hg]; exact (below_size (by repeat (first | (with_reducible first | exact HB.out | apply below_alloc | apply pw_below_drewN | apply below_drew1) | exact HB.out))) : w.heap.size ≤ gb190)); have n3_ := n2_; clear HB; have HB := n0_; have BK190 := n1_; have GW190 := n2_; have GE190 := n3_; clear n0_ n1_ n2_ n3_; clear hb hbox hg))
  repeat (go_quiet (first | ((with_reducible refine gate_dst (N := 2) rfl ?_); (try (refine gate_guard (by rfl) ?_; dsimp only)); refine box_event ?hg (N := 2) ?hd (cs := #[.int .i64 a0_0, .int .i64 a0_1, .slice A0_2 l0_2.length c0_2]) (t := 63) ?hr ?_; (case hd => rfl); (case hg => rfl); (case hr => first | (go_simp; done) | (go_simp; rfl)); intro gb190 hg w4 hbox hb; have n0_ := Aside0.mk (below_step (by repeat (first | (with_reducible first | exact HB.out | apply below_alloc | apply pw_below_drewN | apply below_drew1) | exact HB.out)) hb); have n1_ := Aside0.mk (hbox); have n2_ := Aside0.mk ((by rw [hg]; exact (below_size (by repeat (first | (with_reducible first | exact HB.out | apply below_alloc | apply pw_below_drewN | apply below_drew1) | exact HB.out))) : w.heap.size ≤ gb190)); have n3_ := n2_; clear HB; have HB := n0_; have BK190 := n1_; have GW190 := n2_; have GE190 := n3_; clear n0_ n1_ n2_ n3_; clear hb hbox hg)); go_upto_region 1 with (first | ((with_reducible refine gate_dst (N := 2) rfl ?_); (try (refine gate_guard (by rfl) ?_; dsimp only)); refine box_event ?hg (N := 2) ?hd (cs := #[.int .i64 a0_0, .int .i64 a0_1, .slice A0_2 l0_2.length c0_2]) (t := 63) ?hr ?_; (case hd => rfl); (case hg => rfl); (case hr => first | (go_simp; done) | (go_simp; rfl)); intro gb190 hg w4 hbox hb; have n0_ := Aside0.mk (below_step (by repeat (first | (with_reducible first | exact HB.out | apply below_alloc | apply pw_below_drewN | apply below_drew1) | exact HB.out)) hb); have n1_ := Aside0.mk (hbox); have n2_ := Aside0.mk ((by rw [hg]; exact (below_size (by repeat (first | (with_reducible first | exact HB.out | apply below_alloc | apply pw_below_drewN | apply below_drew1) | exact HB.out))) : w.heap.size ≤ gb190)); have n3_ := n2_; clear HB; have HB := n0_; have BK190 := n1_; have GW190 := n2_; have GE190 := n3_; clear n0_ n1_ n2_ n3_; clear hb hbox hg)))
  (try simp only [Act.put, List.setIfInBounds_toArray, List.set_cons_zero, List.set_cons_succ])
  go_cut [36] (fun v36 wc => ∃ (kq : Nat) (x36_2 : Bool), v36 = .bool x36_2 ∧ Aside0 (impl_PlanCost.j0 kq l1 x36_2 a0_0 a0_1 l0_2 = some r) ∧ Aside0 (kq ≤ k) ∧ Aside0 (wc.heap[gb190]? = some (.cells #[.int .i64 a0_0, .int .i64 a0_1, (.slice A0_2 l0_2.length c0_2)] 63 (0, 0))) ∧ Aside0 (Below w.heap.size w wc))
  case first =>
    have H := HC3.out
    clear HC3
    replace H := Option.bind_eq_some_iff.mp H
    obtain ⟨t191, A50, H⟩ := H
    replace H : (if t191 = true then ((impl_zfits.f a0_0 a0_1 (l1.length : Int)).bind fun t192 => (if t192 = true then (if 0 ≤ a0_1 then (if (l0_2.length : Int) = (shl .i64 1 a0_1) then ((impl_zrange.f k l0_2 0 25 16).bind fun t193 => (impl_PlanCost.j0 k l1 (!t193) a0_0 a0_1 l0_2)) else (impl_PlanCost.j0 k l1 true a0_0 a0_1 l0_2)) else (none)) else (impl_PlanCost.j0 k l1 true a0_0 a0_1 l0_2))) else (impl_PlanCost.j0 k l1 true a0_0 a0_1 l0_2)) = some r := H
    have A5 := Aside0.mk A50
    clear A50
    by_cases c6 : t191 = true
    rotate_left
    · replace c6 := Bool.eq_false_iff.mpr c6
      subst c6
      have H1 : (impl_PlanCost.j0 k l1 true a0_0 a0_1 l0_2) = some r := by rw [if_neg (show ¬ (false = true) by decide)] at H; exact H
      clear H
      have H := H1
      clear H1
      have H' := Aside0.mk H
      clear H
      iterate 3 (try go_wp2_with (first | (go_at_call 105; (with_reducible refine (impl_zlist.calls k _ _ l1 false _ ?side1 ?side2 A5.out).mono ?_); (case side1 => repeat (first | exact (Kd.C_below HR1.out HB.out) | (with_reducible refine Kd.C_alloc ?_ _) | (with_reducible refine Kd.C_drewN ?_ _) | (with_reducible refine Kd.C_drew ?_))); (case side2 => exact HC1.out); rintro e w' ⟨rfl, ⟨nd, rfl⟩⟩; (try first | exact ⟨rfl, _, World.drewN_drewN _ _ _⟩ | exact ⟨rfl, _, Eq.trans (World.drewN_drewN _ _ _) (congrArg (World.drewN _) (Nat.add_assoc _ _ _))⟩))); try go_quiet (first | (go_at_call 105; (with_reducible refine (impl_zlist.calls k _ _ l1 false _ ?side1 ?side2 A5.out).mono ?_); (case side1 => repeat (first | exact (Kd.C_below HR1.out HB.out) | (with_reducible refine Kd.C_alloc ?_ _) | (with_reducible refine Kd.C_drewN ?_ _) | (with_reducible refine Kd.C_drew ?_))); (case side2 => exact HC1.out); rintro e w' ⟨rfl, ⟨nd, rfl⟩⟩; (try first | exact ⟨rfl, _, World.drewN_drewN _ _ _⟩ | exact ⟨rfl, _, Eq.trans (World.drewN_drewN _ _ _) (congrArg (World.drewN _) (Nat.add_assoc _ _ _))⟩))))
      go_meet
      case rel => exact ⟨_, (true), (by first | rfl | (simp; done) | (simp [*]; done)), H', ⟨by first | omega | exact Nat.le_refl _⟩, ⟨by (with_reducible repeat (first | refine blk_drewN ?_ _ | refine blk_drew ?_ | refine blk_alloc ?_ _)); exact BK190.out⟩, ⟨by repeat (first | (with_reducible first | exact HB.out | apply below_alloc | apply pw_below_drewN | apply below_drew1 | refine below_set ?_ GE190.out) | exact HB.out)⟩⟩
    subst c6
    have H1 : ((impl_zfits.f a0_0 a0_1 (l1.length : Int)).bind fun t192 => (if t192 = true then (if 0 ≤ a0_1 then (if (l0_2.length : Int) = (shl .i64 1 a0_1) then ((impl_zrange.f k l0_2 0 25 16).bind fun t193 => (impl_PlanCost.j0 k l1 (!t193) a0_0 a0_1 l0_2)) else (impl_PlanCost.j0 k l1 true a0_0 a0_1 l0_2)) else (none)) else (impl_PlanCost.j0 k l1 true a0_0 a0_1 l0_2))) = some r := by rw [if_pos rfl] at H; exact H
    clear H
    have H := H1
    clear H1
    replace H := Option.bind_eq_some_iff.mp H
    obtain ⟨t192, A70, H⟩ := H
    replace H : (if t192 = true then (if 0 ≤ a0_1 then (if (l0_2.length : Int) = (shl .i64 1 a0_1) then ((impl_zrange.f k l0_2 0 25 16).bind fun t193 => (impl_PlanCost.j0 k l1 (!t193) a0_0 a0_1 l0_2)) else (impl_PlanCost.j0 k l1 true a0_0 a0_1 l0_2)) else (none)) else (impl_PlanCost.j0 k l1 true a0_0 a0_1 l0_2)) = some r := H
    have A7 := Aside0.mk A70
    clear A70
    by_cases c8 : t192 = true
    rotate_left
    · replace c8 := Bool.eq_false_iff.mpr c8
      subst c8
      have H1 : (impl_PlanCost.j0 k l1 true a0_0 a0_1 l0_2) = some r := by rw [if_neg (show ¬ (false = true) by decide)] at H; exact H
      clear H
      have H := H1
      clear H1
      have H' := Aside0.mk H
      clear H
      have hcz15_0 : w4.cell? ⟨gb190, 0, none⟩ = some (.int .i64 a0_0) := (blk_cell BK190.out 0).trans rfl; have hcz15_1 : w4.cell? ⟨gb190, 1, none⟩ = some (.int .i64 a0_1) := (blk_cell BK190.out 1).trans rfl; have hcz15_2 : w4.cell? ⟨gb190, 2, none⟩ = some (.slice A0_2 l0_2.length c0_2) := (blk_cell BK190.out 2).trans rfl; have hfz15_0 := blk_frozen BK190.out 0; have hfz15_1 := blk_frozen BK190.out 1; have hfz15_2 := blk_frozen BK190.out 2
      iterate 3 (try go_wp2_with (first | (go_at_call 105; (with_reducible refine (impl_zlist.calls k _ _ l1 true _ ?side1 ?side2 A5.out).mono ?_); (case side1 => repeat (first | exact (Kd.C_below HR1.out HB.out) | (with_reducible refine Kd.C_alloc ?_ _) | (with_reducible refine Kd.C_drewN ?_ _) | (with_reducible refine Kd.C_drew ?_))); (case side2 => exact HC1.out); rintro e w' ⟨rfl, ⟨nd, rfl⟩⟩; (try first | exact ⟨rfl, _, World.drewN_drewN _ _ _⟩ | exact ⟨rfl, _, Eq.trans (World.drewN_drewN _ _ _) (congrArg (World.drewN _) (Nat.add_assoc _ _ _))⟩)) | (go_at_call 106; (with_reducible refine (impl_zfits.calls a0_0 a0_1 (l1.length : Int) false _ A7.out).mono ?_); rintro e w' ⟨rfl, ⟨nd, rfl⟩⟩; (try first | exact ⟨rfl, _, World.drewN_drewN _ _ _⟩ | exact ⟨rfl, _, Eq.trans (World.drewN_drewN _ _ _) (congrArg (World.drewN _) (Nat.add_assoc _ _ _))⟩))); try go_quiet (first | (go_at_call 105; (with_reducible refine (impl_zlist.calls k _ _ l1 true _ ?side1 ?side2 A5.out).mono ?_); (case side1 => repeat (first | exact (Kd.C_below HR1.out HB.out) | (with_reducible refine Kd.C_alloc ?_ _) | (with_reducible refine Kd.C_drewN ?_ _) | (with_reducible refine Kd.C_drew ?_))); (case side2 => exact HC1.out); rintro e w' ⟨rfl, ⟨nd, rfl⟩⟩; (try first | exact ⟨rfl, _, World.drewN_drewN _ _ _⟩ | exact ⟨rfl, _, Eq.trans (World.drewN_drewN _ _ _) (congrArg (World.drewN _) (Nat.add_assoc _ _ _))⟩)) | (go_at_call 106; (with_reducible refine (impl_zfits.calls a0_0 a0_1 (l1.length : Int) false _ A7.out).mono ?_); rintro e w' ⟨rfl, ⟨nd, rfl⟩⟩; (try first | exact ⟨rfl, _, World.drewN_drewN _ _ _⟩ | exact ⟨rfl, _, Eq.trans (World.drewN_drewN _ _ _) (congrArg (World.drewN _) (Nat.add_assoc _ _ _))⟩))))
      go_meet
      case rel => exact ⟨_, (true), (by first | rfl | (simp; done) | (simp [*]; done)), H', ⟨by first | omega | exact Nat.le_refl _⟩, ⟨by (with_reducible repeat (first | refine blk_drewN ?_ _ | refine blk_drew ?_ | refine blk_alloc ?_ _)); exact BK190.out⟩, ⟨by repeat (first | (with_reducible first | exact HB.out | apply below_alloc | apply pw_below_drewN | apply below_drew1 | refine below_set ?_ GE190.out) | exact HB.out)⟩⟩
    subst c8
    have H1 : (if 0 ≤ a0_1 then (if (l0_2.length : Int) = (shl .i64 1 a0_1) then ((impl_zrange.f k l0_2 0 25 16).bind fun t193 => (impl_PlanCost.j0 k l1 (!t193) a0_0 a0_1 l0_2)) else (impl_PlanCost.j0 k l1 true a0_0 a0_1 l0_2)) else (none)) = some r := by rw [if_pos rfl] at H; exact H
    clear H
    have H := H1
    clear H1
    by_cases c9 : 0 ≤ a0_1
    rotate_left
    · rw [if_neg c9] at H
      exact absurd H (by simp)
    rw [if_pos c9] at H
    have c9b0 := eq_true c9
    have c9b1 : decide (0 ≤ a0_1) = true := decide_eq_true c9
    clear c9
    obtain ⟨ji10, hji10⟩ : ∃ j_ : Int, (shl .i64 1 a0_1) = j_ := ⟨_, rfl⟩
    replace H : (if (l0_2.length : Int) = (ji10) then ((impl_zrange.f k l0_2 0 25 16).bind fun t193 => (impl_PlanCost.j0 k l1 (!t193) a0_0 a0_1 l0_2)) else (impl_PlanCost.j0 k l1 true a0_0 a0_1 l0_2)) = some r := by first | (rw [hji10] at H; exact H) | (simp only [hji10] at H ⊢; exact H)
    (try rw [hji10] at A5)
    (try rw [hji10] at A7)
    have hji10_ : (IntKind.i64.wrap (1 * 2 ^ min a0_1.toNat 64)) = ji10 := hji10
    have hji10z : a0_1 ≤ 64 → (IntKind.i64.wrap (1 * 2 ^ a0_1.toNat)) = ji10 := shl_small hji10
    have hji10u : (IntKind.i64.wrap (2 ^ min a0_1.toNat 64)) = ji10 := by have h_ := hji10_; rw [Int.one_mul] at h_; exact h_
    have hji10v : a0_1 ≤ 64 → (IntKind.i64.wrap (2 ^ a0_1.toNat)) = ji10 := fun hle_ => by have h_ := hji10z hle_; rw [Int.one_mul] at h_; exact h_
    have hji10y : (wrap64 (1 * 2 ^ min a0_1.toNat 64)) = ji10 := (i64_w _).symm.trans hji10_
    have hji10x : a0_1 ≤ 64 → (wrap64 (1 * 2 ^ a0_1.toNat)) = ji10 := fun h_ => (i64_w _).symm.trans (hji10z h_)
    by_cases c11 : (l0_2.length : Int) = (ji10)
    rotate_left
    · rw [if_neg c11] at H
      have c11b0 : ((l0_2.length : Int) == (ji10)) = false := beq_eq_false_iff_ne.mpr c11
      have c11b1 : ((l0_2.length : Int) != (ji10)) = true := bne_iff_ne.mpr c11
      (first | rw [c11b0] | (simp only [i64_w, i32_w]; rw [c11b0]) | skip)
      have H' := Aside0.mk H
      clear H
      have hcz14_0 : w4.cell? ⟨gb190, 0, none⟩ = some (.int .i64 a0_0) := (blk_cell BK190.out 0).trans rfl; have hcz14_1 : w4.cell? ⟨gb190, 1, none⟩ = some (.int .i64 a0_1) := (blk_cell BK190.out 1).trans rfl; have hcz14_2 : w4.cell? ⟨gb190, 2, none⟩ = some (.slice A0_2 l0_2.length c0_2) := (blk_cell BK190.out 2).trans rfl; have hfz14_0 := blk_frozen BK190.out 0; have hfz14_1 := blk_frozen BK190.out 1; have hfz14_2 := blk_frozen BK190.out 2
      iterate 3 (try go_wp2_with (first | (go_at_call 105; (with_reducible refine (impl_zlist.calls k _ _ l1 true _ ?side1 ?side2 A5.out).mono ?_); (case side1 => repeat (first | exact (Kd.C_below HR1.out HB.out) | (with_reducible refine Kd.C_alloc ?_ _) | (with_reducible refine Kd.C_drewN ?_ _) | (with_reducible refine Kd.C_drew ?_))); (case side2 => exact HC1.out); rintro e w' ⟨rfl, ⟨nd, rfl⟩⟩; (try first | exact ⟨rfl, _, World.drewN_drewN _ _ _⟩ | exact ⟨rfl, _, Eq.trans (World.drewN_drewN _ _ _) (congrArg (World.drewN _) (Nat.add_assoc _ _ _))⟩)) | (go_at_call 106; (with_reducible refine (impl_zfits.calls a0_0 a0_1 (l1.length : Int) true _ A7.out).mono ?_); rintro e w' ⟨rfl, ⟨nd, rfl⟩⟩; (try first | exact ⟨rfl, _, World.drewN_drewN _ _ _⟩ | exact ⟨rfl, _, Eq.trans (World.drewN_drewN _ _ _) (congrArg (World.drewN _) (Nat.add_assoc _ _ _))⟩))); try go_quiet (first | (go_at_call 105; (with_reducible refine (impl_zlist.calls k _ _ l1 true _ ?side1 ?side2 A5.out).mono ?_); (case side1 => repeat (first | exact (Kd.C_below HR1.out HB.out) | (with_reducible refine Kd.C_alloc ?_ _) | (with_reducible refine Kd.C_drewN ?_ _) | (with_reducible refine Kd.C_drew ?_))); (case side2 => exact HC1.out); rintro e w' ⟨rfl, ⟨nd, rfl⟩⟩; (try first | exact ⟨rfl, _, World.drewN_drewN _ _ _⟩ | exact ⟨rfl, _, Eq.trans (World.drewN_drewN _ _ _) (congrArg (World.drewN _) (Nat.add_assoc _ _ _))⟩)) | (go_at_call 106; (with_reducible refine (impl_zfits.calls a0_0 a0_1 (l1.length : Int) true _ A7.out).mono ?_); rintro e w' ⟨rfl, ⟨nd, rfl⟩⟩; (try first | exact ⟨rfl, _, World.drewN_drewN _ _ _⟩ | exact ⟨rfl, _, Eq.trans (World.drewN_drewN _ _ _) (congrArg (World.drewN _) (Nat.add_assoc _ _ _))⟩))))
      go_meet
      case rel => exact ⟨_, (true), (by first | rfl | (simp; done) | (simp [*]; done)), H', ⟨by first | omega | exact Nat.le_refl _⟩, ⟨by (with_reducible repeat (first | refine blk_drewN ?_ _ | refine blk_drew ?_ | refine blk_alloc ?_ _)); exact BK190.out⟩, ⟨by repeat (first | (with_reducible first | exact HB.out | apply below_alloc | apply pw_below_drewN | apply below_drew1 | refine below_set ?_ GE190.out) | exact HB.out)⟩⟩
    rw [if_pos c11] at H
    have c11b0 : ((l0_2.length : Int) == (ji10)) = true := beq_iff_eq.mpr c11
    have c11b1 : ((l0_2.length : Int) != (ji10)) = false := bne_eq_false_iff_eq.mpr c11
    clear c11
    (first | rw [c11b0] | (simp only [i64_w, i32_w]; rw [c11b0]) | skip)
    replace H := Option.bind_eq_some_iff.mp H
    obtain ⟨t193, A120, H⟩ := H
    replace H : (impl_PlanCost.j0 k l1 (!t193) a0_0 a0_1 l0_2) = some r := H
    have A12 := Aside0.mk A120
    clear A120
    have H' := Aside0.mk H
    clear H
    have hcz13_0 : w4.cell? ⟨gb190, 0, none⟩ = some (.int .i64 a0_0) := (blk_cell BK190.out 0).trans rfl; have hcz13_1 : w4.cell? ⟨gb190, 1, none⟩ = some (.int .i64 a0_1) := (blk_cell BK190.out 1).trans rfl; have hcz13_2 : w4.cell? ⟨gb190, 2, none⟩ = some (.slice A0_2 l0_2.length c0_2) := (blk_cell BK190.out 2).trans rfl; have hfz13_0 := blk_frozen BK190.out 0; have hfz13_1 := blk_frozen BK190.out 1; have hfz13_2 := blk_frozen BK190.out 2
    iterate 3 (try go_wp2_with (first | (go_at_call 105; (with_reducible refine (impl_zlist.calls k _ _ l1 true _ ?side1 ?side2 A5.out).mono ?_); (case side1 => repeat (first | exact (Kd.C_below HR1.out HB.out) | (with_reducible refine Kd.C_alloc ?_ _) | (with_reducible refine Kd.C_drewN ?_ _) | (with_reducible refine Kd.C_drew ?_))); (case side2 => exact HC1.out); rintro e w' ⟨rfl, ⟨nd, rfl⟩⟩; (try first | exact ⟨rfl, _, World.drewN_drewN _ _ _⟩ | exact ⟨rfl, _, Eq.trans (World.drewN_drewN _ _ _) (congrArg (World.drewN _) (Nat.add_assoc _ _ _))⟩)) | (go_at_call 106; (with_reducible refine (impl_zfits.calls a0_0 a0_1 (l1.length : Int) true _ A7.out).mono ?_); rintro e w' ⟨rfl, ⟨nd, rfl⟩⟩; (try first | exact ⟨rfl, _, World.drewN_drewN _ _ _⟩ | exact ⟨rfl, _, Eq.trans (World.drewN_drewN _ _ _) (congrArg (World.drewN _) (Nat.add_assoc _ _ _))⟩)) | (go_at_call 107; (with_reducible refine (impl_zrange.calls k _ _ l0_2 0 25 16 t193 _ ?side1 ?side2 A12.out).mono ?_); (case side1 => repeat (first | exact (Kd.C_below HR0_2.out (by repeat (first | (with_reducible first | exact HB.out | apply below_alloc | apply pw_below_drewN | apply below_drew1 | refine below_set ?_ GE190.out) | exact HB.out))) | (with_reducible refine Kd.C_alloc ?_ _) | (with_reducible refine Kd.C_drewN ?_ _) | (with_reducible refine Kd.C_drew ?_))); (case side2 => exact HC0_2.out); rintro e w' ⟨rfl, ⟨nd, rfl⟩⟩; (try first | exact ⟨rfl, _, World.drewN_drewN _ _ _⟩ | exact ⟨rfl, _, Eq.trans (World.drewN_drewN _ _ _) (congrArg (World.drewN _) (Nat.add_assoc _ _ _))⟩))); try go_quiet (first | (go_at_call 105; (with_reducible refine (impl_zlist.calls k _ _ l1 true _ ?side1 ?side2 A5.out).mono ?_); (case side1 => repeat (first | exact (Kd.C_below HR1.out HB.out) | (with_reducible refine Kd.C_alloc ?_ _) | (with_reducible refine Kd.C_drewN ?_ _) | (with_reducible refine Kd.C_drew ?_))); (case side2 => exact HC1.out); rintro e w' ⟨rfl, ⟨nd, rfl⟩⟩; (try first | exact ⟨rfl, _, World.drewN_drewN _ _ _⟩ | exact ⟨rfl, _, Eq.trans (World.drewN_drewN _ _ _) (congrArg (World.drewN _) (Nat.add_assoc _ _ _))⟩)) | (go_at_call 106; (with_reducible refine (impl_zfits.calls a0_0 a0_1 (l1.length : Int) true _ A7.out).mono ?_); rintro e w' ⟨rfl, ⟨nd, rfl⟩⟩; (try first | exact ⟨rfl, _, World.drewN_drewN _ _ _⟩ | exact ⟨rfl, _, Eq.trans (World.drewN_drewN _ _ _) (congrArg (World.drewN _) (Nat.add_assoc _ _ _))⟩)) | (go_at_call 107; (with_reducible refine (impl_zrange.calls k _ _ l0_2 0 25 16 t193 _ ?side1 ?side2 A12.out).mono ?_); (case side1 => repeat (first | exact (Kd.C_below HR0_2.out (by repeat (first | (with_reducible first | exact HB.out | apply below_alloc | apply pw_below_drewN | apply below_drew1 | refine below_set ?_ GE190.out) | exact HB.out))) | (with_reducible refine Kd.C_alloc ?_ _) | (with_reducible refine Kd.C_drewN ?_ _) | (with_reducible refine Kd.C_drew ?_))); (case side2 => exact HC0_2.out); rintro e w' ⟨rfl, ⟨nd, rfl⟩⟩; (try first | exact ⟨rfl, _, World.drewN_drewN _ _ _⟩ | exact ⟨rfl, _, Eq.trans (World.drewN_drewN _ _ _) (congrArg (World.drewN _) (Nat.add_assoc _ _ _))⟩))))
    go_meet
    case rel => exact ⟨_, (!t193), (by first | rfl | (simp; done) | (simp [*]; done)), H', ⟨by first | omega | exact Nat.le_refl _⟩, ⟨by (with_reducible repeat (first | refine blk_drewN ?_ _ | refine blk_drew ?_ | refine blk_alloc ?_ _)); exact BK190.out⟩, ⟨by repeat (first | (with_reducible first | exact HB.out | apply below_alloc | apply pw_below_drewN | apply below_drew1 | refine below_set ?_ GE190.out) | exact HB.out)⟩⟩
  case rest =>
    clear HC3
    try clear c1
    try clear p2
    try clear c4
    try clear c6
    try clear p6
    try clear c8
    try clear c9
    try clear c9b0
    try clear c9b1
    try clear c11
    try clear c11b0
    try clear c11b1
    try clear hcz13_0
    try clear hcz13_1
    try clear hcz13_2
    try clear hcz14_0
    try clear hcz14_1
    try clear hcz14_2
    try clear hcz15_0
    try clear hcz15_1
    try clear hcz15_2
    try clear hfz13_0
    try clear hfz13_1
    try clear hfz13_2
    try clear hfz14_0
    try clear hfz14_1
    try clear hfz14_2
    try clear hfz15_0
    try clear hfz15_1
    try clear hfz15_2
    obtain ⟨kq, x36_2, rfl, HA, HJ2, BK190, HB⟩ := hcut
    cases kq with
    | zero => exact absurd HA.out (by simp [impl_PlanCost.j0])
    | succ kj2 =>
      have H := HA.out
      clear HA
      simp only [impl_PlanCost.j0] at H
      by_cases c16 : x36_2 = true
      · subst c16
        have H1 : (some (-1)) = some r := by rw [if_pos rfl] at H; exact H
        clear H
        have H := H1
        clear H1
        obtain rfl := Option.some.inj H
        go_wp2
        repeat (go_quiet (fail); try go_wp2)
        go_ret
        exact ⟨by first | rfl | (simp [errW_none, errW_some] <;> rfl) | (simp [*, errW_none, errW_some] <;> rfl), by repeat (first | (with_reducible first | exact HB.out | apply below_alloc | apply pw_below_drewN | apply below_drew1 | refine below_set ?_ GE190.out) | exact HB.out)⟩
      replace c16 := Bool.eq_false_iff.mpr c16
      subst c16
      have H1 : ((impl_Residue.f kj2 a0_0 l1).bind fun t194 => (impl_PlanCost.l0 kj2 t194 (wrap64 (6 + (wrap64 (26 * a0_0)))) l0_2 (l0_2.length : Int) 0 a0_0 a0_1 l0_2)) = some r := by rw [if_neg (show ¬ (false = true) by decide)] at H; exact H
      clear H
      have H := H1
      clear H1
      replace H := Option.bind_eq_some_iff.mp H
      obtain ⟨t194, A170, H⟩ := H
      replace H : (impl_PlanCost.l0 kj2 t194 (wrap64 (6 + (wrap64 (26 * a0_0)))) l0_2 (l0_2.length : Int) 0 a0_0 a0_1 l0_2) = some r := H
      have A17 := Aside0.mk A170
      clear A170
      have H' := Aside0.mk H
      clear H
      have hcz18_0 : wc.cell? ⟨gb190, 0, none⟩ = some (.int .i64 a0_0) := (blk_cell BK190.out 0).trans rfl
      have hcz18_1 : wc.cell? ⟨gb190, 1, none⟩ = some (.int .i64 a0_1) := (blk_cell BK190.out 1).trans rfl
      have hcz18_2 : wc.cell? ⟨gb190, 2, none⟩ = some (.slice A0_2 l0_2.length c0_2) := (blk_cell BK190.out 2).trans rfl
      have hfz18_0 := blk_frozen BK190.out 0
      have hfz18_1 := blk_frozen BK190.out 1
      have hfz18_2 := blk_frozen BK190.out 2
      iterate 3 (try go_wp2_with (first | (go_at_call 108; (with_reducible refine (impl_Residue.calls kj2 a0_0 _ _ l1 t194 _ ?side1 ?side2 A17.out).mono ?_); (case side1 => repeat (first | exact (Kd.C_below HR1.out HB.out) | (with_reducible refine Kd.C_alloc ?_ _) | (with_reducible refine Kd.C_drewN ?_ _) | (with_reducible refine Kd.C_drew ?_))); (case side2 => exact HC1.out); rintro e w19 ⟨v195, rfl, ho0, hb⟩; have n0_ := Aside0.mk (Kd.R_lower ho0 (below_size (by repeat (first | (with_reducible first | exact HB.out | apply below_alloc | apply pw_below_drewN | apply below_drew1 | refine below_set ?_ GE190.out) | exact HB.out)))); have n1_ := Aside0.mk (blk_below (g := gb190) (o := .cells #[.int .i64 a0_0, .int .i64 a0_1, .slice A0_2 l0_2.length c0_2] 63 (0, 0)) (by (with_reducible repeat (first | refine blk_drewN ?_ _ | refine blk_drew ?_ | refine blk_alloc ?_ _)); exact BK190.out) hb); have n2_ := Aside0.mk (below_step (by repeat (first | (with_reducible first | exact HB.out | apply below_alloc | apply pw_below_drewN | apply below_drew1 | refine below_set ?_ GE190.out) | exact HB.out)) hb); clear BK190; clear HB; have HO196 := n0_; have BK190 := n1_; have HB := n2_; clear n0_ n1_ n2_; (try clear hb); (try clear hb2); (try clear hk); (try clear hi); (try clear ho0); have hcz20_0 : w19.cell? ⟨gb190, 0, none⟩ = some (.int .i64 a0_0) := (blk_cell BK190.out 0).trans rfl; have hcz20_1 : w19.cell? ⟨gb190, 1, none⟩ = some (.int .i64 a0_1) := (blk_cell BK190.out 1).trans rfl; have hcz20_2 : w19.cell? ⟨gb190, 2, none⟩ = some (.slice A0_2 l0_2.length c0_2) := (blk_cell BK190.out 2).trans rfl; have hfz20_0 := blk_frozen BK190.out 0; have hfz20_1 := blk_frozen BK190.out 1; have hfz20_2 := blk_frozen BK190.out 2)); try go_quiet (first | (go_at_call 108; (with_reducible refine (impl_Residue.calls kj2 a0_0 _ _ l1 t194 _ ?side1 ?side2 A17.out).mono ?_); (case side1 => repeat (first | exact (Kd.C_below HR1.out HB.out) | (with_reducible refine Kd.C_alloc ?_ _) | (with_reducible refine Kd.C_drewN ?_ _) | (with_reducible refine Kd.C_drew ?_))); (case side2 => exact HC1.out); rintro e w19 ⟨v195, rfl, ho0, hb⟩; have n0_ := Aside0.mk (Kd.R_lower ho0 (below_size (by repeat (first | (with_reducible first | exact HB.out | apply below_alloc | apply pw_below_drewN | apply below_drew1 | refine below_set ?_ GE190.out) | exact HB.out)))); have n1_ := Aside0.mk (blk_below (g := gb190) (o := .cells #[.int .i64 a0_0, .int .i64 a0_1, .slice A0_2 l0_2.length c0_2] 63 (0, 0)) (by (with_reducible repeat (first | refine blk_drewN ?_ _ | refine blk_drew ?_ | refine blk_alloc ?_ _)); exact BK190.out) hb); have n2_ := Aside0.mk (below_step (by repeat (first | (with_reducible first | exact HB.out | apply below_alloc | apply pw_below_drewN | apply below_drew1 | refine below_set ?_ GE190.out) | exact HB.out)) hb); clear BK190; clear HB; have HO196 := n0_; have BK190 := n1_; have HB := n2_; clear n0_ n1_ n2_; (try clear hb); (try clear hb2); (try clear hk); (try clear hi); (try clear ho0); have hcz20_0 : w19.cell? ⟨gb190, 0, none⟩ = some (.int .i64 a0_0) := (blk_cell BK190.out 0).trans rfl; have hcz20_1 : w19.cell? ⟨gb190, 1, none⟩ = some (.int .i64 a0_1) := (blk_cell BK190.out 1).trans rfl; have hcz20_2 : w19.cell? ⟨gb190, 2, none⟩ = some (.slice A0_2 l0_2.length c0_2) := (blk_cell BK190.out 2).trans rfl; have hfz20_0 := blk_frozen BK190.out 0; have hfz20_1 := blk_frozen BK190.out 1; have hfz20_2 := blk_frozen BK190.out 2)))
      go_loopg [6, 48] kj2 (fun kq v6 v48 w' => ∃ (x6_2 : Int) (x48_2 : Int), v6 = .int .i64 x6_2 ∧ v48 = .int .i64 x48_2 ∧ Aside0 (impl_PlanCost.l0 kq t194 x6_2 l0_2 (l0_2.length : Int) x48_2 a0_0 a0_1 l0_2 = some r) ∧ Aside0 (kq ≤ kj2) ∧ Aside0 (Kd.R (Kd.int .i64) 3 w' w.heap.size (fun _ => True) v195 t194) ∧ Aside0 (w'.heap[gb190]? = some (.cells #[.int .i64 a0_0, .int .i64 a0_1, (.slice A0_2 l0_2.length c0_2)] 63 (0, 0))) ∧ Aside0 (Below w.heap.size w w'))
      case atStart => exact ⟨(wrap64 (6 + (wrap64 (26 * a0_0)))), (0), (by first | rfl | (simp; done) | (simp [*]; done)), (by first | rfl | (simp; done) | (simp [*]; done)), H', ⟨Nat.le_refl _⟩, ⟨by (with_reducible repeat (first | apply Kd.R_alloc | apply Kd.R_drewN | apply Kd.R_drew)); exact HO196.out⟩, ⟨by (with_reducible repeat (first | refine blk_drewN ?_ _ | refine blk_drew ?_ | refine blk_alloc ?_ _)); exact BK190.out⟩, ⟨by repeat (first | (with_reducible first | exact HB.out | apply below_alloc | apply pw_below_drewN | apply below_drew1 | refine below_set ?_ GE190.out) | exact HB.out)⟩⟩
      case round =>
        clear H'
        try clear c1
        try clear p2
        try clear c4
        try clear c6
        try clear p6
        try clear c8
        try clear c9
        try clear c9b0
        try clear c9b1
        try clear c11
        try clear c11b0
        try clear c11b1
        try clear c16
        try clear hcz13_0
        try clear hcz13_1
        try clear hcz13_2
        try clear hcz14_0
        try clear hcz14_1
        try clear hcz14_2
        try clear hcz15_0
        try clear hcz15_1
        try clear hcz15_2
        try clear hcz18_0
        try clear hcz18_1
        try clear hcz18_2
        try clear hcz20_0
        try clear hcz20_1
        try clear hcz20_2
        try clear hfz13_0
        try clear hfz13_1
        try clear hfz13_2
        try clear hfz14_0
        try clear hfz14_1
        try clear hfz14_2
        try clear hfz15_0
        try clear hfz15_1
        try clear hfz15_2
        try clear hfz18_0
        try clear hfz18_1
        try clear hfz18_2
        try clear hfz20_0
        try clear hfz20_1
        try clear hfz20_2
        try clear p2
        try clear p6
        obtain ⟨x6_2, x48_2, rfl, rfl, HA, HK2, HO_5, BK190, HB⟩ := hrel
        cases gk with
        | zero => exact absurd HA.out (by simp [impl_PlanCost.l0])
        | succ k2 =>
          have H := HA.out
          clear HA
          simp only [impl_PlanCost.l0] at H
          by_cases c21 : x48_2 < (l0_2.length : Int)
          rotate_left
          · rw [if_neg c21] at H
            have c21b0 : decide (x48_2 < (l0_2.length : Int)) = false := decide_eq_false c21
            clear c21
            obtain rfl := Option.some.inj H
            go_wp2
            repeat (go_quiet (fail); try go_wp2)
            go_ret
            exact ⟨by first | rfl | (simp [errW_none, errW_some] <;> rfl) | (simp [*, errW_none, errW_some] <;> rfl), by repeat (first | (with_reducible first | exact HB.out | apply below_alloc | apply pw_below_drewN | apply below_drew1 | refine below_set ?_ GE190.out) | exact HB.out)⟩
          rw [if_pos c21] at H
          have c21b0 : decide (x48_2 < (l0_2.length : Int)) = true := decide_eq_true c21
          clear c21
          by_cases c22 : 0 ≤ x48_2
          rotate_left
          · rw [if_neg c22] at H
            exact absurd H (by simp)
          rw [if_pos c22] at H
          have c22b0 : decide (0 ≤ x48_2) = true := decide_eq_true c22
          clear c22
          by_cases c23 : x48_2 < (l0_2.length : Int)
          rotate_left
          · rw [if_neg c23] at H
            exact absurd H (by simp)
          rw [if_pos c23] at H
          have c23b0 : decide (x48_2 < (l0_2.length : Int)) = true := decide_eq_true c23
          clear c23
          replace H := Option.bind_eq_some_iff.mp H
          obtain ⟨t198, A240, H⟩ := H
          replace H : ((impl_zkeyCost.f k2 (rd l0_2 x48_2) t198).bind fun t201 => (impl_PlanCost.l0 k2 t194 (wrap64 (x6_2 + t201)) l0_2 (l0_2.length : Int) (wrap64 (x48_2 + 1)) a0_0 a0_1 l0_2)) = some r := H
          have A24 := Aside0.mk A240
          clear A240
          replace H := Option.bind_eq_some_iff.mp H
          obtain ⟨t201, A250, H⟩ := H
          replace H : (impl_PlanCost.l0 k2 t194 (wrap64 (x6_2 + t201)) l0_2 (l0_2.length : Int) (wrap64 (x48_2 + 1)) a0_0 a0_1 l0_2) = some r := H
          have A25 := Aside0.mk A250
          clear A250
          have H' := Aside0.mk H
          clear H
          have p197 : 0 ≤ (x48_2 : Int) := of_decide_eq_true (by first | (with_reducible assumption) | assumption)
          have q197 : x48_2 < (l0_2.length : Int) := of_decide_eq_true (by first | (with_reducible assumption) | assumption)
          obtain ⟨ad197, e197, hx197_0⟩ := Kd.at_int HR0_2.out x48_2 p197 q197
          cases e197
          replace hx197_0 := (HB.out.cell (World.block_lt_of_cell? w _ hx197_0)).trans hx197_0
          replace p197 := eq_true p197
          replace q197 := eq_true q197
          have hcz26_0 : wr.cell? ⟨gb190, 0, none⟩ = some (.int .i64 a0_0) := (blk_cell BK190.out 0).trans rfl
          have hcz26_1 : wr.cell? ⟨gb190, 1, none⟩ = some (.int .i64 a0_1) := (blk_cell BK190.out 1).trans rfl
          have hcz26_2 : wr.cell? ⟨gb190, 2, none⟩ = some (.slice (some ad197) l0_2.length c0_2) := (blk_cell BK190.out 2).trans rfl
          have hfz26_0 := blk_frozen BK190.out 0
          have hfz26_1 := blk_frozen BK190.out 1
          have hfz26_2 := blk_frozen BK190.out 2
          obtain ⟨Ao27, co27, eo27⟩ := Kd.R_slice HO_5.out
          subst eo27
          iterate 3 (try go_wp2_with (first | (go_at_call 110; (with_reducible refine (impl_zpart.calls a0_0 a0_1 (fun k_ => some k_ = (.slice Ao27 t194.length co27 : Value).ownBlock) _ _ t194 x48_2 t198 _ ?side1 A24.out).mono ?_); (case side1 => exact Kd.R_V (Kd.R_tight rfl (Kd.R_types (HO_5.out) BK190.out (by decide)))); rintro e w28 ⟨v199, rfl, ho0, hb⟩; have n0_ := Aside0.mk (Kd.R_below (by (with_reducible repeat (first | apply Kd.R_alloc | apply Kd.R_drewN | apply Kd.R_drew)); exact HO_5.out) hb); have n1_ := Aside0.mk (Kd.V_lower (Kd.V_mono (ok' := fun k_ => k_ ≠ gb190) ho0 (fun k_ hk_ => Or.elim hk_ (fun hs_ => ((Kd.R_types (HO_5.out) BK190.out (by decide)).1 k_ hs_.symm).2) (fun hn_ => (Kd.freshB (g := gb190) (o := .cells #[.int .i64 a0_0, .int .i64 a0_1, .slice (some ad197) l0_2.length c0_2] 63 (0, 0)) (by (with_reducible repeat (first | refine blk_drewN ?_ _ | refine blk_drew ?_ | refine blk_alloc ?_ _)); exact BK190.out) k_ hn_)))) (below_size (by repeat (first | (with_reducible first | exact HB.out | apply below_alloc | apply pw_below_drewN | apply below_drew1 | refine below_set ?_ GE190.out) | exact HB.out)))); have n2_ := Aside0.mk (blk_below (g := gb190) (o := .cells #[.int .i64 a0_0, .int .i64 a0_1, .slice (some ad197) l0_2.length c0_2] 63 (0, 0)) (by (with_reducible repeat (first | refine blk_drewN ?_ _ | refine blk_drew ?_ | refine blk_alloc ?_ _)); exact BK190.out) hb); have n3_ := Aside0.mk (below_step (by repeat (first | (with_reducible first | exact HB.out | apply below_alloc | apply pw_below_drewN | apply below_drew1 | refine below_set ?_ GE190.out) | exact HB.out)) hb); clear HO_5; clear BK190; clear HB; have HO_5 := n0_; have HO200 := n1_; have BK190 := n2_; have HB := n3_; clear n0_ n1_ n2_ n3_; (try clear hb); (try clear hb2); (try clear hk); (try clear hi); (try clear ho0); obtain ⟨Ao29, co29, eo29⟩ := Kd.V_slice HO200.out; subst eo29) | (go_at_call 109; (with_reducible refine (impl_zkeyCost.calls k2 (rd l0_2 x48_2) _ _ t198 t201 _ ?side1 ?side2 A25.out).mono ?_); (case side1 => repeat (first | exact (Kd.V_reads' HO200.out).2.2 | (with_reducible refine Kd.C_alloc ?_ _) | (with_reducible refine Kd.C_drewN ?_ _) | (with_reducible refine Kd.C_drew ?_))); (case side2 => exact (Kd.V_reads' HO200.out).2.1); rintro e w' ⟨rfl, ⟨nd, rfl⟩⟩; (try first | exact ⟨rfl, _, World.drewN_drewN _ _ _⟩ | exact ⟨rfl, _, Eq.trans (World.drewN_drewN _ _ _) (congrArg (World.drewN _) (Nat.add_assoc _ _ _))⟩))); try go_quiet (first | (go_at_call 110; (with_reducible refine (impl_zpart.calls a0_0 a0_1 (fun k_ => some k_ = (.slice Ao27 t194.length co27 : Value).ownBlock) _ _ t194 x48_2 t198 _ ?side1 A24.out).mono ?_); (case side1 => exact Kd.R_V (Kd.R_tight rfl (Kd.R_types (HO_5.out) BK190.out (by decide)))); rintro e w28 ⟨v199, rfl, ho0, hb⟩; have n0_ := Aside0.mk (Kd.R_below (by (with_reducible repeat (first | apply Kd.R_alloc | apply Kd.R_drewN | apply Kd.R_drew)); exact HO_5.out) hb); have n1_ := Aside0.mk (Kd.V_lower (Kd.V_mono (ok' := fun k_ => k_ ≠ gb190) ho0 (fun k_ hk_ => Or.elim hk_ (fun hs_ => ((Kd.R_types (HO_5.out) BK190.out (by decide)).1 k_ hs_.symm).2) (fun hn_ => (Kd.freshB (g := gb190) (o := .cells #[.int .i64 a0_0, .int .i64 a0_1, .slice (some ad197) l0_2.length c0_2] 63 (0, 0)) (by (with_reducible repeat (first | refine blk_drewN ?_ _ | refine blk_drew ?_ | refine blk_alloc ?_ _)); exact BK190.out) k_ hn_)))) (below_size (by repeat (first | (with_reducible first | exact HB.out | apply below_alloc | apply pw_below_drewN | apply below_drew1 | refine below_set ?_ GE190.out) | exact HB.out)))); have n2_ := Aside0.mk (blk_below (g := gb190) (o := .cells #[.int .i64 a0_0, .int .i64 a0_1, .slice (some ad197) l0_2.length c0_2] 63 (0, 0)) (by (with_reducible repeat (first | refine blk_drewN ?_ _ | refine blk_drew ?_ | refine blk_alloc ?_ _)); exact BK190.out) hb); have n3_ := Aside0.mk (below_step (by repeat (first | (with_reducible first | exact HB.out | apply below_alloc | apply pw_below_drewN | apply below_drew1 | refine below_set ?_ GE190.out) | exact HB.out)) hb); clear HO_5; clear BK190; clear HB; have HO_5 := n0_; have HO200 := n1_; have BK190 := n2_; have HB := n3_; clear n0_ n1_ n2_ n3_; (try clear hb); (try clear hb2); (try clear hk); (try clear hi); (try clear ho0); obtain ⟨Ao29, co29, eo29⟩ := Kd.V_slice HO200.out; subst eo29) | (go_at_call 109; (with_reducible refine (impl_zkeyCost.calls k2 (rd l0_2 x48_2) _ _ t198 t201 _ ?side1 ?side2 A25.out).mono ?_); (case side1 => repeat (first | exact (Kd.V_reads' HO200.out).2.2 | (with_reducible refine Kd.C_alloc ?_ _) | (with_reducible refine Kd.C_drewN ?_ _) | (with_reducible refine Kd.C_drew ?_))); (case side2 => exact (Kd.V_reads' HO200.out).2.1); rintro e w' ⟨rfl, ⟨nd, rfl⟩⟩; (try first | exact ⟨rfl, _, World.drewN_drewN _ _ _⟩ | exact ⟨rfl, _, Eq.trans (World.drewN_drewN _ _ _) (congrArg (World.drewN _) (Nat.add_assoc _ _ _))⟩))))
          go_roundg k2
          case measure => have := HJ2.out; have := HK2.out; omega
          case rel => exact ⟨(wrap64 (x6_2 + t201)), (wrap64 (x48_2 + 1)), (by first | rfl | (simp; done) | (simp [*]; done)), (by first | rfl | (simp; done) | (simp [*]; done)), H', ⟨by have := HJ2.out; have := HK2.out; omega⟩, ⟨by (with_reducible repeat (first | apply Kd.R_alloc | apply Kd.R_drewN | apply Kd.R_drew)); exact HO_5.out⟩, ⟨by (with_reducible repeat (first | refine blk_drewN ?_ _ | refine blk_drew ?_ | refine blk_alloc ?_ _)); exact BK190.out⟩, ⟨by repeat (first | (with_reducible first | exact HB.out | apply below_alloc | apply pw_below_drewN | apply below_drew1 | refine below_set ?_ GE190.out) | exact HB.out)⟩⟩

/-! ### laws_eqPlan: function 44 -/
def laws_eqPlan.f (k : Nat) (a0_0 : Int) (a0_1 : Int) (l0_2 : List Int) (a1_0 : Int) (a1_1 : Int) (l1_2 : List Int) : Option (Bool) := if a0_0 = a1_0 then (if a0_1 = a1_1 then ((laws_eqIntS.f k l0_2 l1_2).bind fun t204 => (if t204 = true then (some true) else (some false))) else (some false)) else (some false)
theorem laws_eqPlan.mono : ∀ a0 a1 a2 a3 a4 a5 k, LeO (laws_eqPlan.f k a0 a1 a2 a3 a4 a5) (laws_eqPlan.f (k + 1) a0 a1 a2 a3 a4 a5) := by
  intro a0 a1 a2 a3 a4 a5 k
  unfold laws_eqPlan.f
  repeat' first
      | (with_reducible exact laws_eqIntS.mono _ _ _)
      | (with_reducible exact LeO.refl _)
      | (with_reducible exact LeO.none _)
      | (with_reducible refine LeO.ite ?_ ?_)
      | (with_reducible refine LeO.bind ?_ (fun _ => ?_))
      | exact laws_eqIntS.mono _ _ _
      | exact LeO.none _
      | refine LeO.ite ?_ ?_
      | refine LeO.bind ?_ (fun _ => ?_)
set_option maxHeartbeats 8000000 in
set_option maxRecDepth 100000 in
theorem laws_eqPlan.calls (k : Nat) (a0_0 : Int) (a0_1 : Int) (A0_2 : Option Addr) (c0_2 : Nat) (l0_2 : List Int) (a1_0 : Int) (a1_1 : Int) (A1_2 : Option Addr) (c1_2 : Nat) (l1_2 : List Int) (r : Bool) (w : World) (hr0_2 : Kd.C (Kd.int .i64) w A0_2 l0_2.length l0_2) (hc0_2 : l0_2.length ≤ c0_2) (hr1_2 : Kd.C (Kd.int .i64) w A1_2 l1_2.length l1_2) (hc1_2 : l1_2.length ≤ c1_2) (h : laws_eqPlan.f k a0_0 a0_1 l0_2 a1_0 a1_1 l1_2 = some r) :
    Calls Try.prog 44 #[.agg #[.int .i64 a0_0, .int .i64 a0_1, .slice A0_2 l0_2.length c0_2], .agg #[.int .i64 a1_0, .int .i64 a1_1, .slice A1_2 l1_2.length c1_2]] w fun e w' => e = .returned (.bool r) ∧ Below w.heap.size w w' := by
  have hu63 := Try.underlying63
  have HR0_2 := Aside0.mk hr0_2
  have HC0_2 := Aside0.mk hc0_2
  clear hr0_2 hc0_2
  have HR1_2 := Aside0.mk hr1_2
  have HC1_2 := Aside0.mk hc1_2
  clear hr1_2 hc1_2
  have HB := Aside0.mk (Below.refl w.heap.size w)
  have H : (if a0_0 = a1_0 then (if a0_1 = a1_1 then ((laws_eqIntS.f k l0_2 l1_2).bind fun t204 => (if t204 = true then (some true) else (some false))) else (some false)) else (some false)) = some r := h
  clear h
  by_cases c3 : a0_0 = a1_0
  rw [if_pos c3] at H
  have c3b0 : (a0_0 == a1_0) = true := beq_iff_eq.mpr c3
  have c3b1 : (a0_0 != a1_0) = false := bne_eq_false_iff_eq.mpr c3
  clear c3
  by_cases c4 : a0_1 = a1_1
  · rw [if_pos c4] at H
    have c4b0 : (a0_1 == a1_1) = true := beq_iff_eq.mpr c4
    have c4b1 : (a0_1 != a1_1) = false := bne_eq_false_iff_eq.mpr c4
    clear c4
    replace H := Option.bind_eq_some_iff.mp H
    obtain ⟨t204, A50, H⟩ := H
    replace H : (if t204 = true then (some true) else (some false)) = some r := H
    have A5 := Aside0.mk A50
    clear A50
    by_cases c6 : t204 = true
    · subst c6
      have H1 : (some true) = some r := by rw [if_pos rfl] at H; exact H
      clear H
      have H := H1
      clear H1
      obtain rfl := Option.some.inj H
      go_enter Try.func44, Try.ntmps44
      go_wp2_with (first | ((with_reducible refine gate_dst (N := 2) rfl ?_); refine box_event ?hg (N := 2) ?hd (cs := #[.int .i64 a0_0, .int .i64 a0_1, .slice A0_2 l0_2.length c0_2]) (t := 63) ?hr ?_; (case hd => rfl); (case hg => rfl); (case hr => first | (go_simp; done) | (go_simp; rfl)); intro gb202 hg w7 hbox hb; have n0_ := Aside0.mk (below_step (by repeat (first | (with_reducible first | exact HB.out | apply below_alloc | apply pw_below_drewN | apply below_drew1) | exact HB.out)) hb); have n1_ := Aside0.mk (hbox); have n2_ := Aside0.mk ((by rw [hg]; exact (below_size (by repeat (first | (with_reducible first | exact HB.out | apply below_alloc | apply pw_below_drewN | apply below_drew1) | exact HB.out))) : w.heap.size ≤ gb202)); have n3_ := n2_; clear HB; have HB := n0_; have BK202 := n1_; have GW202 := n2_; have GE202 := n3_; clear n0_ n1_ n2_ n3_; clear hb hbox hg) | ((with_reducible refine gate_dst (N := 3) rfl ?_); refine box_event ?hg (N := 3) ?hd (cs := #[.int .i64 a1_0, .int .i64 a1_1, .slice A1_2 l1_2.length c1_2]) (t := 63) ?hr ?_; (case hd => rfl); (case hg => rfl); (case hr => first | (go_simp; done) | (go_simp; rfl)); intro gb203 hg w8 hbox hb; have n0_ := Aside0.mk (blk_below (g := gb202) (o := .cells #[.int .i64 a0_0, .int .i64 a0_1, .slice A0_2 l0_2.length c0_2] 63 (0, 0)) (by (with_reducible repeat (first | refine blk_drewN ?_ _ | refine blk_drew ?_ | refine blk_alloc ?_ _)); exact BK202.out) hb); have n1_ := Aside0.mk (below_step (by repeat (first | (with_reducible first | exact HB.out | apply below_alloc | apply pw_below_drewN | apply below_drew1 | refine below_set ?_ GE202.out) | exact HB.out)) hb); have n2_ := Aside0.mk (hbox); have n3_ := Aside0.mk ((by rw [hg]; exact (below_size (by repeat (first | (with_reducible first | exact HB.out | apply below_alloc | apply pw_below_drewN | apply below_drew1 | refine below_set ?_ GE202.out) | exact HB.out))) : w.heap.size ≤ gb203)); have n4_ := n3_; have n5_ := Aside0.mk ((by rw [hg]; exact Nat.ne_of_lt (blk_lt (g := gb202) (o := .cells #[.int .i64 a0_0, .int .i64 a0_1, .slice A0_2 l0_2.length c0_2] 63 (0, 0)) (by (with_reducible repeat (first | refine blk_drewN ?_ _ | refine blk_drew ?_ | refine blk_alloc ?_ _)); exact BK202.out)) : gb202 ≠ gb203)); have n6_ := Aside0.mk ((by rw [hg]; exact Nat.ne_of_gt (blk_lt (g := gb202) (o := .cells #[.int .i64 a0_0, .int .i64 a0_1, .slice A0_2 l0_2.length c0_2] 63 (0, 0)) (by (with_reducible repeat (first | refine blk_drewN ?_ _ | refine blk_drew ?_ | refine blk_alloc ?_ _)); exact BK202.out)) : gb203 ≠ gb202)); clear BK202; clear HB; have BK202 := n0_; have HB := n1_; have BK203 := n2_; have GW203 := n3_; have GE203 := n4_; have NB202_203 := n5_; have NB203_202 := n6_; clear n0_ n1_ n2_ n3_ n4_ n5_ n6_; clear hb hbox hg; have hnb9 := NB202_203.out; have hnc9 := NB203_202.out; have hcz10_0 : w8.cell? ⟨gb202, 0, none⟩ = some (.int .i64 a0_0) := (blk_cell BK202.out 0).trans rfl; have hcz10_1 : w8.cell? ⟨gb202, 1, none⟩ = some (.int .i64 a0_1) := (blk_cell BK202.out 1).trans rfl; have hcz10_2 : w8.cell? ⟨gb202, 2, none⟩ = some (.slice A0_2 l0_2.length c0_2) := (blk_cell BK202.out 2).trans rfl; have hfz10_0 := blk_frozen BK202.out 0; have hfz10_1 := blk_frozen BK202.out 1; have hfz10_2 := blk_frozen BK202.out 2; have hcz11_0 : w8.cell? ⟨gb203, 0, none⟩ = some (.int .i64 a1_0) := (blk_cell BK203.out 0).trans rfl; have hcz11_1 : w8.cell? ⟨gb203, 1, none⟩ = some (.int .i64 a1_1) := (blk_cell BK203.out 1).trans rfl; have hcz11_2 : w8.cell? ⟨gb203, 2, none⟩ = some (.slice A1_2 l1_2.length c1_2) := (blk_cell BK203.out 2).trans rfl; have hfz11_0 := blk_frozen BK203.out 0; have hfz11_1 := blk_frozen BK203.out 1; have hfz11_2 := blk_frozen BK203.out 2) | ((with_reducible refine gate_callee (f := 36) rfl ?_); refine goesL_ (some 19) rfl rfl Try.func36 (by kernel_rfl) rfl #[.slice A0_2 l0_2.length c0_2, .slice A1_2 l1_2.length c1_2] rfl (by (try simp only [List.map_toArray, List.map_cons, List.map_nil]); first | done | rfl | (simp only [List.length_drop, List.length_take]; rfl)) ?_; (with_reducible refine (laws_eqIntS.calls k _ _ l0_2 _ _ l1_2 true _ ?side1 ?side2 ?side3 ?side4 A5.out).mono ?_); (case side1 => repeat (first | exact (Kd.C_below HR0_2.out HB.out) | (with_reducible refine Kd.C_alloc ?_ _) | (with_reducible refine Kd.C_drewN ?_ _) | (with_reducible refine Kd.C_drew ?_))); (case side2 => exact HC0_2.out); (case side3 => repeat (first | exact (Kd.C_below HR1_2.out HB.out) | (with_reducible refine Kd.C_alloc ?_ _) | (with_reducible refine Kd.C_drewN ?_ _) | (with_reducible refine Kd.C_drew ?_))); (case side4 => exact HC1_2.out); rintro e w' ⟨rfl, ⟨nd, rfl⟩⟩; refine ⟨_, rfl, ?_⟩))
      go_ret
      exact ⟨by first | rfl | (simp [errW_none, errW_some] <;> rfl) | (simp [*, errW_none, errW_some] <;> rfl), by repeat (first | (with_reducible first | exact HB.out | apply below_alloc | apply pw_below_drewN | apply below_drew1 | refine below_set ?_ GE202.out | refine below_set ?_ GE203.out) | exact HB.out)⟩
    replace c6 := Bool.eq_false_iff.mpr c6
    subst c6
    have H1 : (some false) = some r := by rw [if_neg (show ¬ (false = true) by decide)] at H; exact H
    clear H
    have H := H1
    clear H1
    obtain rfl := Option.some.inj H
    go_enter Try.func44, Try.ntmps44
    go_wp2_with (first | ((with_reducible refine gate_dst (N := 2) rfl ?_); refine box_event ?hg (N := 2) ?hd (cs := #[.int .i64 a0_0, .int .i64 a0_1, .slice A0_2 l0_2.length c0_2]) (t := 63) ?hr ?_; (case hd => rfl); (case hg => rfl); (case hr => first | (go_simp; done) | (go_simp; rfl)); intro gb202 hg w12 hbox hb; have n0_ := Aside0.mk (below_step (by repeat (first | (with_reducible first | exact HB.out | apply below_alloc | apply pw_below_drewN | apply below_drew1) | exact HB.out)) hb); have n1_ := Aside0.mk (hbox); have n2_ := Aside0.mk ((by rw [hg]; exact (below_size (by repeat (first | (with_reducible first | exact HB.out | apply below_alloc | apply pw_below_drewN | apply below_drew1) | exact HB.out))) : w.heap.size ≤ gb202)); have n3_ := n2_; clear HB; have HB := n0_; have BK202 := n1_; have GW202 := n2_; have GE202 := n3_; clear n0_ n1_ n2_ n3_; clear hb hbox hg) | ((with_reducible refine gate_dst (N := 3) rfl ?_); refine box_event ?hg (N := 3) ?hd (cs := #[.int .i64 a1_0, .int .i64 a1_1, .slice A1_2 l1_2.length c1_2]) (t := 63) ?hr ?_; (case hd => rfl); (case hg => rfl); (case hr => first | (go_simp; done) | (go_simp; rfl)); intro gb203 hg w13 hbox hb; have n0_ := Aside0.mk (blk_below (g := gb202) (o := .cells #[.int .i64 a0_0, .int .i64 a0_1, .slice A0_2 l0_2.length c0_2] 63 (0, 0)) (by (with_reducible repeat (first | refine blk_drewN ?_ _ | refine blk_drew ?_ | refine blk_alloc ?_ _)); exact BK202.out) hb); have n1_ := Aside0.mk (below_step (by repeat (first | (with_reducible first | exact HB.out | apply below_alloc | apply pw_below_drewN | apply below_drew1 | refine below_set ?_ GE202.out) | exact HB.out)) hb); have n2_ := Aside0.mk (hbox); have n3_ := Aside0.mk ((by rw [hg]; exact (below_size (by repeat (first | (with_reducible first | exact HB.out | apply below_alloc | apply pw_below_drewN | apply below_drew1 | refine below_set ?_ GE202.out) | exact HB.out))) : w.heap.size ≤ gb203)); have n4_ := n3_; have n5_ := Aside0.mk ((by rw [hg]; exact Nat.ne_of_lt (blk_lt (g := gb202) (o := .cells #[.int .i64 a0_0, .int .i64 a0_1, .slice A0_2 l0_2.length c0_2] 63 (0, 0)) (by (with_reducible repeat (first | refine blk_drewN ?_ _ | refine blk_drew ?_ | refine blk_alloc ?_ _)); exact BK202.out)) : gb202 ≠ gb203)); have n6_ := Aside0.mk ((by rw [hg]; exact Nat.ne_of_gt (blk_lt (g := gb202) (o := .cells #[.int .i64 a0_0, .int .i64 a0_1, .slice A0_2 l0_2.length c0_2] 63 (0, 0)) (by (with_reducible repeat (first | refine blk_drewN ?_ _ | refine blk_drew ?_ | refine blk_alloc ?_ _)); exact BK202.out)) : gb203 ≠ gb202)); clear BK202; clear HB; have BK202 := n0_; have HB := n1_; have BK203 := n2_; have GW203 := n3_; have GE203 := n4_; have NB202_203 := n5_; have NB203_202 := n6_; clear n0_ n1_ n2_ n3_ n4_ n5_ n6_; clear hb hbox hg; have hnb14 := NB202_203.out; have hnc14 := NB203_202.out; have hcz15_0 : w13.cell? ⟨gb202, 0, none⟩ = some (.int .i64 a0_0) := (blk_cell BK202.out 0).trans rfl; have hcz15_1 : w13.cell? ⟨gb202, 1, none⟩ = some (.int .i64 a0_1) := (blk_cell BK202.out 1).trans rfl; have hcz15_2 : w13.cell? ⟨gb202, 2, none⟩ = some (.slice A0_2 l0_2.length c0_2) := (blk_cell BK202.out 2).trans rfl; have hfz15_0 := blk_frozen BK202.out 0; have hfz15_1 := blk_frozen BK202.out 1; have hfz15_2 := blk_frozen BK202.out 2; have hcz16_0 : w13.cell? ⟨gb203, 0, none⟩ = some (.int .i64 a1_0) := (blk_cell BK203.out 0).trans rfl; have hcz16_1 : w13.cell? ⟨gb203, 1, none⟩ = some (.int .i64 a1_1) := (blk_cell BK203.out 1).trans rfl; have hcz16_2 : w13.cell? ⟨gb203, 2, none⟩ = some (.slice A1_2 l1_2.length c1_2) := (blk_cell BK203.out 2).trans rfl; have hfz16_0 := blk_frozen BK203.out 0; have hfz16_1 := blk_frozen BK203.out 1; have hfz16_2 := blk_frozen BK203.out 2) | ((with_reducible refine gate_callee (f := 36) rfl ?_); refine goesL_ (some 19) rfl rfl Try.func36 (by kernel_rfl) rfl #[.slice A0_2 l0_2.length c0_2, .slice A1_2 l1_2.length c1_2] rfl (by (try simp only [List.map_toArray, List.map_cons, List.map_nil]); first | done | rfl | (simp only [List.length_drop, List.length_take]; rfl)) ?_; (with_reducible refine (laws_eqIntS.calls k _ _ l0_2 _ _ l1_2 false _ ?side1 ?side2 ?side3 ?side4 A5.out).mono ?_); (case side1 => repeat (first | exact (Kd.C_below HR0_2.out HB.out) | (with_reducible refine Kd.C_alloc ?_ _) | (with_reducible refine Kd.C_drewN ?_ _) | (with_reducible refine Kd.C_drew ?_))); (case side2 => exact HC0_2.out); (case side3 => repeat (first | exact (Kd.C_below HR1_2.out HB.out) | (with_reducible refine Kd.C_alloc ?_ _) | (with_reducible refine Kd.C_drewN ?_ _) | (with_reducible refine Kd.C_drew ?_))); (case side4 => exact HC1_2.out); rintro e w' ⟨rfl, ⟨nd, rfl⟩⟩; refine ⟨_, rfl, ?_⟩))
    go_ret
    exact ⟨by first | rfl | (simp [errW_none, errW_some] <;> rfl) | (simp [*, errW_none, errW_some] <;> rfl), by repeat (first | (with_reducible first | exact HB.out | apply below_alloc | apply pw_below_drewN | apply below_drew1 | refine below_set ?_ GE202.out | refine below_set ?_ GE203.out) | exact HB.out)⟩
  rw [if_neg c4] at H
  have c4b0 : (a0_1 == a1_1) = false := beq_eq_false_iff_ne.mpr c4
  have c4b1 : (a0_1 != a1_1) = true := bne_iff_ne.mpr c4
  obtain rfl := Option.some.inj H
  rotate_left
  rw [if_neg c3] at H
  have c3b0 : (a0_0 == a1_0) = false := beq_eq_false_iff_ne.mpr c3
  have c3b1 : (a0_0 != a1_0) = true := bne_iff_ne.mpr c3
  obtain rfl := Option.some.inj H
  all_goals
    go_enter Try.func44, Try.ntmps44
    go_wp2_with (first | ((with_reducible refine gate_dst (N := 2) rfl ?_); refine box_event ?hg (N := 2) ?hd (cs := #[.int .i64 a0_0, .int .i64 a0_1, .slice A0_2 l0_2.length c0_2]) (t := 63) ?hr ?_; (case hd => rfl); (case hg => rfl); (case hr => first | (go_simp; done) | (go_simp; rfl)); intro gb202 hg w17 hbox hb; have n0_ := Aside0.mk (below_step (by repeat (first | (with_reducible first | exact HB.out | apply below_alloc | apply pw_below_drewN | apply below_drew1) | exact HB.out)) hb); have n1_ := Aside0.mk (hbox); have n2_ := Aside0.mk ((by rw [hg]; exact (below_size (by repeat (first | (with_reducible first | exact HB.out | apply below_alloc | apply pw_below_drewN | apply below_drew1) | exact HB.out))) : w.heap.size ≤ gb202)); have n3_ := n2_; clear HB; have HB := n0_; have BK202 := n1_; have GW202 := n2_; have GE202 := n3_; clear n0_ n1_ n2_ n3_; clear hb hbox hg) | ((with_reducible refine gate_dst (N := 3) rfl ?_); refine box_event ?hg (N := 3) ?hd (cs := #[.int .i64 a1_0, .int .i64 a1_1, .slice A1_2 l1_2.length c1_2]) (t := 63) ?hr ?_; (case hd => rfl); (case hg => rfl); (case hr => first | (go_simp; done) | (go_simp; rfl)); intro gb203 hg w18 hbox hb; have n0_ := Aside0.mk (blk_below (g := gb202) (o := .cells #[.int .i64 a0_0, .int .i64 a0_1, .slice A0_2 l0_2.length c0_2] 63 (0, 0)) (by (with_reducible repeat (first | refine blk_drewN ?_ _ | refine blk_drew ?_ | refine blk_alloc ?_ _)); exact BK202.out) hb); have n1_ := Aside0.mk (below_step (by repeat (first | (with_reducible first | exact HB.out | apply below_alloc | apply pw_below_drewN | apply below_drew1 | refine below_set ?_ GE202.out) | exact HB.out)) hb); have n2_ := Aside0.mk (hbox); have n3_ := Aside0.mk ((by rw [hg]; exact (below_size (by repeat (first | (with_reducible first | exact HB.out | apply below_alloc | apply pw_below_drewN | apply below_drew1 | refine below_set ?_ GE202.out) | exact HB.out))) : w.heap.size ≤ gb203)); have n4_ := n3_; have n5_ := Aside0.mk ((by rw [hg]; exact Nat.ne_of_lt (blk_lt (g := gb202) (o := .cells #[.int .i64 a0_0, .int .i64 a0_1, .slice A0_2 l0_2.length c0_2] 63 (0, 0)) (by (with_reducible repeat (first | refine blk_drewN ?_ _ | refine blk_drew ?_ | refine blk_alloc ?_ _)); exact BK202.out)) : gb202 ≠ gb203)); have n6_ := Aside0.mk ((by rw [hg]; exact Nat.ne_of_gt (blk_lt (g := gb202) (o := .cells #[.int .i64 a0_0, .int .i64 a0_1, .slice A0_2 l0_2.length c0_2] 63 (0, 0)) (by (with_reducible repeat (first | refine blk_drewN ?_ _ | refine blk_drew ?_ | refine blk_alloc ?_ _)); exact BK202.out)) : gb203 ≠ gb202)); clear BK202; clear HB; have BK202 := n0_; have HB := n1_; have BK203 := n2_; have GW203 := n3_; have GE203 := n4_; have NB202_203 := n5_; have NB203_202 := n6_; clear n0_ n1_ n2_ n3_ n4_ n5_ n6_; clear hb hbox hg; have hnb19 := NB202_203.out; have hnc19 := NB203_202.out; have hcz20_0 : w18.cell? ⟨gb202, 0, none⟩ = some (.int .i64 a0_0) := (blk_cell BK202.out 0).trans rfl; have hcz20_1 : w18.cell? ⟨gb202, 1, none⟩ = some (.int .i64 a0_1) := (blk_cell BK202.out 1).trans rfl; have hcz20_2 : w18.cell? ⟨gb202, 2, none⟩ = some (.slice A0_2 l0_2.length c0_2) := (blk_cell BK202.out 2).trans rfl; have hfz20_0 := blk_frozen BK202.out 0; have hfz20_1 := blk_frozen BK202.out 1; have hfz20_2 := blk_frozen BK202.out 2; have hcz21_0 : w18.cell? ⟨gb203, 0, none⟩ = some (.int .i64 a1_0) := (blk_cell BK203.out 0).trans rfl; have hcz21_1 : w18.cell? ⟨gb203, 1, none⟩ = some (.int .i64 a1_1) := (blk_cell BK203.out 1).trans rfl; have hcz21_2 : w18.cell? ⟨gb203, 2, none⟩ = some (.slice A1_2 l1_2.length c1_2) := (blk_cell BK203.out 2).trans rfl; have hfz21_0 := blk_frozen BK203.out 0; have hfz21_1 := blk_frozen BK203.out 1; have hfz21_2 := blk_frozen BK203.out 2))
    go_ret
    exact ⟨by first | rfl | (simp [errW_none, errW_some] <;> rfl) | (simp [*, errW_none, errW_some] <;> rfl), by repeat (first | (with_reducible first | exact HB.out | apply below_alloc | apply pw_below_drewN | apply below_drew1 | refine below_set ?_ GE202.out | refine below_set ?_ GE203.out) | exact HB.out)⟩

end Go.Proofs.Ytglaedjadlappaa.PFnExactPlanCost

-- written by myprint.py (a program of this session's over the kit's print)
import Derived.Test.YtglaedjadlappaaPFnExactPlanCostx0
import Derived.Test.YtglaedjadlappaaPFnExactPlanCostx1
import Derived.Test.YtglaedjadlappaaPFnExactPlanCostx2
namespace Go.Proofs.Ytglaedjadlappaa.PFnExactPlanCost
open Go.RowKit Go.Proofs.YtglaedjadlappaaW.PrintWords Go.Proofs.YtglaedjadlappaaW.PrintLast Go.Proofs.YtglaedjadlappaaW.PrintMore
attribute [local go_sem] max2_int min2_int max_two min_two max_three min_three max_four min_four   -- for this text's walks alone
set_option linter.unusedVariables false
set_option linter.unusedSimpArgs false

/-! ### spec_l10Part: function 104 -/
def spec_l10Part.f (l0 : List Int) (a1 : Int) (a2 : Int) (a3 : Int) : Option (List Int) := if 0 ≤ (IntKind.u64.wrap (a2)) then (if a3 = 0 then (if 0 ≤ a1 then (if a1 ≤ (shr .i64 (l0.length : Int) (IntKind.u64.wrap (a2))) then (if (shr .i64 (l0.length : Int) (IntKind.u64.wrap (a2))) ≤ (l0.length : Int) then (some ((l0.take ((shr .i64 (l0.length : Int) (IntKind.u64.wrap (a2))) : Int).toNat).drop (a1 : Int).toNat)) else (none)) else (none)) else (none)) else (if 0 ≤ (wrap64 ((shr .i64 (l0.length : Int) (IntKind.u64.wrap (a2))) * a3)) then (if (wrap64 ((shr .i64 (l0.length : Int) (IntKind.u64.wrap (a2))) * a3)) ≤ (wrap64 ((wrap64 ((shr .i64 (l0.length : Int) (IntKind.u64.wrap (a2))) * a3)) + (shr .i64 (l0.length : Int) (IntKind.u64.wrap (a2))))) then (if (wrap64 ((wrap64 ((shr .i64 (l0.length : Int) (IntKind.u64.wrap (a2))) * a3)) + (shr .i64 (l0.length : Int) (IntKind.u64.wrap (a2))))) ≤ (l0.length : Int) then (some ((l0.take ((wrap64 ((wrap64 ((shr .i64 (l0.length : Int) (IntKind.u64.wrap (a2))) * a3)) + (shr .i64 (l0.length : Int) (IntKind.u64.wrap (a2))))) : Int).toNat).drop ((wrap64 ((shr .i64 (l0.length : Int) (IntKind.u64.wrap (a2))) * a3)) : Int).toNat)) else (none)) else (none)) else (none))) else (none)
set_option maxHeartbeats 8000000 in
set_option maxRecDepth 100000 in
theorem spec_l10Part.calls (P0_ : Nat → Prop) (A0 : Option Addr) (c0 : Nat) (l0 : List Int) (a1 : Int) (a2 : Int) (a3 : Int) (r : List Int) (w : World) (hs0 : Kd.V (Kd.int .i64) 3 w w.heap.size (fun k_ => P0_ k_) (.slice A0 l0.length c0) l0) (h : spec_l10Part.f l0 a1 a2 a3 = some r) :
    Calls Try.prog 104 #[.slice A0 l0.length c0, .int .i64 a1, .int .i64 a2, .int .i64 a3] w fun e w' => ∃ v0_ : Value, e = .returned (v0_) ∧ Kd.V (Kd.int .i64) 3 w' w.heap.size (fun k_ => (P0_ k_ ∨ w.heap.size ≤ k_)) v0_ r ∧ Below w.heap.size w w' := by
  have HO0 := Aside0.mk (show Kd.V (Kd.int .i64) 3 w w.heap.size (fun k_ => (P0_ k_ ∨ w.heap.size ≤ k_)) (.slice A0 l0.length c0) l0 from Kd.V_mono hs0 (fun k_ hk => .inl hk))
  have HB := Aside0.mk (Below.refl w.heap.size w)
  have H : (if 0 ≤ (IntKind.u64.wrap (a2)) then (if a3 = 0 then (if 0 ≤ a1 then (if a1 ≤ (shr .i64 (l0.length : Int) (IntKind.u64.wrap (a2))) then (if (shr .i64 (l0.length : Int) (IntKind.u64.wrap (a2))) ≤ (l0.length : Int) then (some ((l0.take ((shr .i64 (l0.length : Int) (IntKind.u64.wrap (a2))) : Int).toNat).drop (a1 : Int).toNat)) else (none)) else (none)) else (none)) else (if 0 ≤ (wrap64 ((shr .i64 (l0.length : Int) (IntKind.u64.wrap (a2))) * a3)) then (if (wrap64 ((shr .i64 (l0.length : Int) (IntKind.u64.wrap (a2))) * a3)) ≤ (wrap64 ((wrap64 ((shr .i64 (l0.length : Int) (IntKind.u64.wrap (a2))) * a3)) + (shr .i64 (l0.length : Int) (IntKind.u64.wrap (a2))))) then (if (wrap64 ((wrap64 ((shr .i64 (l0.length : Int) (IntKind.u64.wrap (a2))) * a3)) + (shr .i64 (l0.length : Int) (IntKind.u64.wrap (a2))))) ≤ (l0.length : Int) then (some ((l0.take ((wrap64 ((wrap64 ((shr .i64 (l0.length : Int) (IntKind.u64.wrap (a2))) * a3)) + (shr .i64 (l0.length : Int) (IntKind.u64.wrap (a2))))) : Int).toNat).drop ((wrap64 ((shr .i64 (l0.length : Int) (IntKind.u64.wrap (a2))) * a3)) : Int).toNat)) else (none)) else (none)) else (none))) else (none)) = some r := h
  clear h
  obtain ⟨ji5, hji5⟩ : ∃ j_ : Int, (IntKind.u64.wrap (a2)) = j_ := ⟨_, rfl⟩
  replace H : (if 0 ≤ (ji5) then (if a3 = 0 then (if 0 ≤ a1 then (if a1 ≤ (shr .i64 (l0.length : Int) (ji5)) then (if (shr .i64 (l0.length : Int) (ji5)) ≤ (l0.length : Int) then (some ((l0.take ((shr .i64 (l0.length : Int) (ji5)) : Int).toNat).drop (a1 : Int).toNat)) else (none)) else (none)) else (none)) else (if 0 ≤ (wrap64 ((shr .i64 (l0.length : Int) (ji5)) * a3)) then (if (wrap64 ((shr .i64 (l0.length : Int) (ji5)) * a3)) ≤ (wrap64 ((wrap64 ((shr .i64 (l0.length : Int) (ji5)) * a3)) + (shr .i64 (l0.length : Int) (ji5)))) then (if (wrap64 ((wrap64 ((shr .i64 (l0.length : Int) (ji5)) * a3)) + (shr .i64 (l0.length : Int) (ji5)))) ≤ (l0.length : Int) then (some ((l0.take ((wrap64 ((wrap64 ((shr .i64 (l0.length : Int) (ji5)) * a3)) + (shr .i64 (l0.length : Int) (ji5)))) : Int).toNat).drop ((wrap64 ((shr .i64 (l0.length : Int) (ji5)) * a3)) : Int).toNat)) else (none)) else (none)) else (none))) else (none)) = some r := by first | (rw [hji5] at H; exact H) | (simp only [hji5] at H ⊢; exact H)
  by_cases c6 : 0 ≤ (ji5)
  rotate_left
  · rw [if_neg c6] at H
    exact absurd H (by simp)
  rw [if_pos c6] at H
  have c6b0 := eq_true c6
  have c6b1 : decide (0 ≤ (ji5)) = true := decide_eq_true c6
  clear c6
  obtain ⟨ji7, hji7⟩ : ∃ j_ : Int, (shr .i64 (l0.length : Int) (ji5)) = j_ := ⟨_, rfl⟩
  replace H : (if a3 = 0 then (if 0 ≤ a1 then (if a1 ≤ (ji7) then (if (ji7) ≤ (l0.length : Int) then (some ((l0.take ((ji7) : Int).toNat).drop (a1 : Int).toNat)) else (none)) else (none)) else (none)) else (if 0 ≤ (wrap64 ((ji7) * a3)) then (if (wrap64 ((ji7) * a3)) ≤ (wrap64 ((wrap64 ((ji7) * a3)) + (ji7))) then (if (wrap64 ((wrap64 ((ji7) * a3)) + (ji7))) ≤ (l0.length : Int) then (some ((l0.take ((wrap64 ((wrap64 ((ji7) * a3)) + (ji7))) : Int).toNat).drop ((wrap64 ((ji7) * a3)) : Int).toNat)) else (none)) else (none)) else (none))) = some r := by first | (rw [hji7] at H; exact H) | (simp only [hji7] at H ⊢; exact H)
  have hji7_ : ((l0.length : Int) / 2 ^ min (ji5).toNat 64) = ji7 := hji7
  have hji7z : (ji5) ≤ 64 → ((l0.length : Int) / 2 ^ (ji5).toNat) = ji7 := shr_small hji7
  by_cases c8 : a3 = 0
  · rw [if_pos c8] at H
    have c8b0 : (a3 == 0) = true := beq_iff_eq.mpr c8
    have c8b1 : (a3 != 0) = false := bne_eq_false_iff_eq.mpr c8
    clear c8
    by_cases c9 : 0 ≤ a1
    rotate_left
    · rw [if_neg c9] at H
      exact absurd H (by simp)
    rw [if_pos c9] at H
    have c9b0 := eq_true c9
    have c9b1 : decide (0 ≤ a1) = true := decide_eq_true c9
    clear c9
    by_cases c10 : a1 ≤ (ji7)
    rotate_left
    · rw [if_neg c10] at H
      exact absurd H (by simp)
    rw [if_pos c10] at H
    have c10b0 := eq_true c10
    have c10b1 : decide (a1 ≤ (ji7)) = true := decide_eq_true c10
    clear c10
    by_cases c11 : (ji7) ≤ (l0.length : Int)
    rotate_left
    · rw [if_neg c11] at H
      exact absurd H (by simp)
    rw [if_pos c11] at H
    have c11b0 := eq_true c11
    have c11b1 : decide ((ji7) ≤ (l0.length : Int)) = true := decide_eq_true c11
    clear c11
    obtain ⟨y131, hy131⟩ : ∃ y_ : List Int, y_ = ((l0.take ((ji7) : Int).toNat).drop (a1 : Int).toNat) := ⟨_, rfl⟩
    replace H : (some y131) = some r := by first | (rw [hy131]; with_reducible exact H) | (have H2_ := (Option.bind_some _ _).symm.trans H; rw [hy131]; with_reducible exact H2_) | (have H2_ := (Option.bind_some _ _).symm.trans H; with_reducible exact H2_) | with_reducible exact H | (rw [hy131]; exact H) | exact H
    have Ny131 := Aside0.mk hy131
    clear hy131
    obtain rfl := Option.some.inj H
    have q12 : ((ji7) : Int) ≤ ((l0.length : Int) : Int) := of_decide_eq_true (by first | (with_reducible assumption) | assumption)
    obtain ⟨i012, hi012, _, hsz12, _⟩ := info_parts info3
    have hroom12 : l0.length ≤ c0 := (Kd.V_reads' HO0.out).2.1
    have hC12 : Kd.F (Kd.int .i64) _ _ A0 l0.length l0 := (Kd.V_at (base := w.heap.size) HO0.out).2.2
    have ql12 : (a1 : Int) ≤ ((ji7) : Int) := of_decide_eq_true (by first | (with_reducible assumption) | assumption)
    have q012 : (0 : Int) ≤ (a1 : Int) := of_decide_eq_true (by first | (with_reducible assumption) | assumption)
    have hcut12 := cut_mid (P := Try.prog) 22 3 .i64 .i64 Try.underlying22 hi012 1 hsz12 A0 l0.length c0 a1 (ji7) q012 ql12 q12 hroom12
    have hr12 := Kd.F_mid (lo := (a1 : Int).toNat) (hi := ((ji7) : Int).toNat) (c := c0) hC12 (by omega) (by omega) hroom12
    obtain ⟨A12, hA12⟩ : ∃ A1, A1 = (if c0 = (a1 : Int).toNat then A0 else (A0 : Option Addr).map (·.add ((a1 : Int).toNat * 1))) := ⟨_, rfl⟩
    obtain ⟨c12, hc12⟩ : ∃ c1, c1 = c0 - (a1 : Int).toNat := ⟨_, rfl⟩
    have hy12 : y131.length = ((ji7) : Int).toNat - (a1 : Int).toNat := (by rw [Ny131.out, List.length_drop, List.length_take] <;> omega)
    rw [show ((l0).take ((ji7) : Int).toNat).drop (a1 : Int).toNat = y131 from Ny131.out.symm] at hr12
    replace hr12 : Kd.F (Kd.int .i64) _ _ A12 y131.length y131 := (by rw [hA12]; exact hr12)
    rw [← hy12, ← hA12, ← hc12] at hcut12
    have HO135 := Aside0.mk (show Kd.V (Kd.int .i64) 3 _ w.heap.size _ (.slice A12 y131.length c12) y131 from Kd.V_mk (by rw [hy12, hc12]; exact Nat.sub_le_sub_right (Nat.le_trans (by omega) hroom12) _) hr12)
    have HC135 := Aside0.mk (show y131.length ≤ c12 from by rw [hy12, hc12]; exact Nat.sub_le_sub_right (Nat.le_trans (by omega) hroom12) _)
    clear hr12 hC12 hroom12 hi012 hsz12 hc12
    have KY12 := Aside0.mk hy12
    have KA12 := Aside0.mk hA12
    clear hy12 hA12
    replace q12 := eq_true q12
    go_enter Try.func104, Try.ntmps104
    go_wp2
    go_ret
    exact ⟨_, by first | rfl | (simp [errW_none, errW_some] <;> rfl) | (simp only [← hji5, ← hji7]; first | rfl | (simp [errW_none, errW_some] <;> rfl)) | (simp [*, errW_none, errW_some] <;> rfl), by (with_reducible repeat (first | apply Kd.V_alloc | apply Kd.V_drewN | apply Kd.V_drew)); exact HO135.out, by repeat (first | (with_reducible first | exact HB.out | apply below_alloc | apply pw_below_drewN | apply below_drew1) | exact HB.out)⟩
  rw [if_neg c8] at H
  have c8b0 : (a3 == 0) = false := beq_eq_false_iff_ne.mpr c8
  have c8b1 : (a3 != 0) = true := bne_iff_ne.mpr c8
  obtain ⟨ji13, hji13⟩ : ∃ j_ : Int, (wrap64 ((ji7) * a3)) = j_ := ⟨_, rfl⟩
  replace H : (if 0 ≤ (ji13) then (if (ji13) ≤ (wrap64 ((ji13) + (ji7))) then (if (wrap64 ((ji13) + (ji7))) ≤ (l0.length : Int) then (some ((l0.take ((wrap64 ((ji13) + (ji7))) : Int).toNat).drop ((ji13) : Int).toNat)) else (none)) else (none)) else (none)) = some r := by first | (rw [hji13] at H; exact H) | (simp only [hji13] at H ⊢; exact H)
  have hji13w : (IntKind.i64.wrap ((ji7) * a3)) = ji13 := (i64_w _).trans hji13
  by_cases c14 : 0 ≤ (ji13)
  rotate_left
  · rw [if_neg c14] at H
    exact absurd H (by simp)
  rw [if_pos c14] at H
  have c14b0 := eq_true c14
  have c14b1 : decide (0 ≤ (ji13)) = true := decide_eq_true c14
  clear c14
  by_cases c15 : (ji13) ≤ (wrap64 ((ji13) + (ji7)))
  rotate_left
  · rw [if_neg c15] at H
    exact absurd H (by simp)
  rw [if_pos c15] at H
  have c15b0 := eq_true c15
  have c15b1 : decide ((ji13) ≤ (wrap64 ((ji13) + (ji7)))) = true := decide_eq_true c15
  by_cases c16 : (wrap64 ((ji13) + (ji7))) ≤ (l0.length : Int)
  rotate_left
  · rw [if_neg c16] at H
    exact absurd H (by simp)
  rw [if_pos c16] at H
  have c16b0 := eq_true c16
  have c16b1 : decide ((wrap64 ((ji13) + (ji7))) ≤ (l0.length : Int)) = true := decide_eq_true c16
  obtain ⟨y136, hy136⟩ : ∃ y_ : List Int, y_ = ((l0.take ((wrap64 ((ji13) + (ji7))) : Int).toNat).drop ((ji13) : Int).toNat) := ⟨_, rfl⟩
  replace H : (some y136) = some r := by first | (rw [hy136]; with_reducible exact H) | (have H2_ := (Option.bind_some _ _).symm.trans H; rw [hy136]; with_reducible exact H2_) | (have H2_ := (Option.bind_some _ _).symm.trans H; with_reducible exact H2_) | with_reducible exact H | (rw [hy136]; exact H) | exact H
  have Ny136 := Aside0.mk hy136
  clear hy136
  obtain rfl := Option.some.inj H
  have q17 : ((wrap64 ((ji13) + (ji7))) : Int) ≤ ((l0.length : Int) : Int) := of_decide_eq_true (by first | (with_reducible assumption) | assumption)
  obtain ⟨i017, hi017, _, hsz17, _⟩ := info_parts info3
  have hroom17 : l0.length ≤ c0 := (Kd.V_reads' HO0.out).2.1
  have hC17 : Kd.F (Kd.int .i64) _ _ A0 l0.length l0 := (Kd.V_at (base := w.heap.size) HO0.out).2.2
  have ql17 : ((ji13) : Int) ≤ ((wrap64 ((ji13) + (ji7))) : Int) := of_decide_eq_true (by first | (with_reducible assumption) | assumption)
  have q017 : (0 : Int) ≤ ((ji13) : Int) := of_decide_eq_true (by first | (with_reducible assumption) | assumption)
  have hcut17 := cut_mid (P := Try.prog) 22 3 .i64 .i64 Try.underlying22 hi017 1 hsz17 A0 l0.length c0 (ji13) (wrap64 ((ji13) + (ji7))) q017 ql17 q17 hroom17
  have hr17 := Kd.F_mid (lo := ((ji13) : Int).toNat) (hi := ((wrap64 ((ji13) + (ji7))) : Int).toNat) (c := c0) hC17 (by omega) (by omega) hroom17
  obtain ⟨A17, hA17⟩ : ∃ A1, A1 = (if c0 = ((ji13) : Int).toNat then A0 else (A0 : Option Addr).map (·.add (((ji13) : Int).toNat * 1))) := ⟨_, rfl⟩
  obtain ⟨c17, hc17⟩ : ∃ c1, c1 = c0 - ((ji13) : Int).toNat := ⟨_, rfl⟩
  have hy17 : y136.length = ((wrap64 ((ji13) + (ji7))) : Int).toNat - ((ji13) : Int).toNat := (by rw [Ny136.out, List.length_drop, List.length_take] <;> omega)
  rw [show ((l0).take ((wrap64 ((ji13) + (ji7))) : Int).toNat).drop ((ji13) : Int).toNat = y136 from Ny136.out.symm] at hr17
  replace hr17 : Kd.F (Kd.int .i64) _ _ A17 y136.length y136 := (by rw [hA17]; exact hr17)
  rw [← hy17, ← hA17, ← hc17] at hcut17
  have HO140 := Aside0.mk (show Kd.V (Kd.int .i64) 3 _ w.heap.size _ (.slice A17 y136.length c17) y136 from Kd.V_mk (by rw [hy17, hc17]; exact Nat.sub_le_sub_right (Nat.le_trans (by omega) hroom17) _) hr17)
  have HC140 := Aside0.mk (show y136.length ≤ c17 from by rw [hy17, hc17]; exact Nat.sub_le_sub_right (Nat.le_trans (by omega) hroom17) _)
  clear hr17 hC17 hroom17 hi017 hsz17 hc17
  have KY17 := Aside0.mk hy17
  have KA17 := Aside0.mk hA17
  clear hy17 hA17
  replace q17 := eq_true q17
  go_enter Try.func104, Try.ntmps104
  go_wp2
  go_ret
  exact ⟨_, by first | rfl | (simp [errW_none, errW_some] <;> rfl) | (simp only [← hji5, ← hji7, ← hji13]; first | rfl | (simp [errW_none, errW_some] <;> rfl)) | (simp [*, errW_none, errW_some] <;> rfl), by (with_reducible repeat (first | apply Kd.V_alloc | apply Kd.V_drewN | apply Kd.V_drew)); exact HO140.out, by repeat (first | (with_reducible first | exact HB.out | apply below_alloc | apply pw_below_drewN | apply below_drew1) | exact HB.out)⟩

/-! ### spec_PlanCost: function 41 -/
mutual
def spec_PlanCost.j0 : Nat → List Int → Bool → Int → Int → List Int → Option (Int)
  | 0, _, _, _, _, _ => none
  | k + 1, x1, x31, x142000, x142001, x142002 => if x31 = true then (some (-1)) else ((spec_l10Residue.f k x142000 x1).bind fun t144 => (spec_PlanCost.l0 k t144 (wrap64 (6 + (wrap64 (26 * x142000)))) x142002 (x142002.length : Int) 0 x142000 x142001 x142002))
def spec_PlanCost.l0 : Nat → List Int → Int → List Int → Int → Int → Int → Int → List Int → Option (Int)
  | 0, _, _, _, _, _, _, _, _ => none
  | k + 1, x5, x6, x41, x42, x43, x142000, x142001, x142002 => if x43 < x42 then (if 0 ≤ x43 then (if x43 < (x41.length : Int) then (if (rd x41 x43) < 0 then (spec_PlanCost.j2 k x5 x6 x43 (rd x41 x43) x41 x42 x43 true x142000 x142001 x142002) else (spec_PlanCost.j2 k x5 x6 x43 (rd x41 x43) x41 x42 x43 (decide ((rd x41 x43) > 25)) x142000 x142001 x142002)) else (none)) else (none)) else (some x6)
def spec_PlanCost.j2 : Nat → List Int → Int → Int → Int → List Int → Int → Int → Bool → Int → Int → List Int → Option (Int)
  | 0, _, _, _, _, _, _, _, _, _, _, _ => none
  | k + 1, x5, x6, x7, x8, x41, x42, x43, x53, x142000, x142001, x142002 => if x53 = true then (some (-1)) else ((spec_l10Part.f x5 x142000 x142001 x7).bind fun t148 => ((spec_l10KeyCost.f k x8 t148).bind fun t151 => (spec_PlanCost.l0 k x5 (wrap64 (x6 + t151)) x41 x42 (wrap64 (x43 + 1)) x142000 x142001 x142002)))
end
def spec_PlanCost.f (k : Nat) (a0_0 : Int) (a0_1 : Int) (l0_2 : List Int) (l1 : List Int) : Option (Int) := (spec_l10List.f k l1).bind fun t142 => (if t142 = true then ((spec_l10Parts.f a0_0 a0_1 (l1.length : Int)).bind fun t143 => (if t143 = true then (if 0 ≤ (IntKind.u64.wrap (a0_1)) then (spec_PlanCost.j0 k l1 ((l0_2.length : Int) != (shl .i64 1 (IntKind.u64.wrap (a0_1)))) a0_0 a0_1 l0_2) else (none)) else (spec_PlanCost.j0 k l1 true a0_0 a0_1 l0_2))) else (spec_PlanCost.j0 k l1 true a0_0 a0_1 l0_2))
theorem spec_PlanCost.mono_l : ∀ k, (∀ y0 y1 y2 y3 y4, LeO (spec_PlanCost.j0 k y0 y1 y2 y3 y4) (spec_PlanCost.j0 (k + 1) y0 y1 y2 y3 y4)) ∧ (∀ y0 y1 y2 y3 y4 y5 y6 y7, LeO (spec_PlanCost.l0 k y0 y1 y2 y3 y4 y5 y6 y7) (spec_PlanCost.l0 (k + 1) y0 y1 y2 y3 y4 y5 y6 y7)) ∧ (∀ y0 y1 y2 y3 y4 y5 y6 y7 y8 y9 y10, LeO (spec_PlanCost.j2 k y0 y1 y2 y3 y4 y5 y6 y7 y8 y9 y10) (spec_PlanCost.j2 (k + 1) y0 y1 y2 y3 y4 y5 y6 y7 y8 y9 y10))
  | 0 => ⟨fun _ _ _ _ _ r h => by simp [spec_PlanCost.j0] at h, fun _ _ _ _ _ _ _ _ r h => by simp [spec_PlanCost.l0] at h, fun _ _ _ _ _ _ _ _ _ _ _ r h => by simp [spec_PlanCost.j2] at h⟩
  | k + 1 => by
    obtain ⟨ih0, ih1, ih2⟩ := spec_PlanCost.mono_l k
    refine ⟨?_, ?_, ?_⟩
    · intro y0 y1 y2 y3 y4
      unfold spec_PlanCost.j0
      repeat' first
      | (with_reducible exact ih0 _ _ _ _ _)
      | (with_reducible exact ih1 _ _ _ _ _ _ _ _)
      | (with_reducible exact ih2 _ _ _ _ _ _ _ _ _ _ _)
      | (with_reducible exact spec_l10KeyCost.mono _ _ _)
      | (with_reducible exact spec_l10List.mono _ _)
      | (with_reducible exact spec_l10Residue.mono _ _ _)
      | (with_reducible exact LeO.refl _)
      | (with_reducible exact LeO.none _)
      | (with_reducible refine LeO.ite ?_ ?_)
      | (with_reducible refine LeO.bind ?_ (fun _ => ?_))
      | exact ih0 _ _ _ _ _
      | exact ih1 _ _ _ _ _ _ _ _
      | exact ih2 _ _ _ _ _ _ _ _ _ _ _
      | exact spec_l10KeyCost.mono _ _ _
      | exact spec_l10List.mono _ _
      | exact spec_l10Residue.mono _ _ _
      | exact LeO.none _
      | refine LeO.ite ?_ ?_
      | refine LeO.bind ?_ (fun _ => ?_)
    · intro y0 y1 y2 y3 y4 y5 y6 y7
      unfold spec_PlanCost.l0
      repeat' first
      | (with_reducible exact ih0 _ _ _ _ _)
      | (with_reducible exact ih1 _ _ _ _ _ _ _ _)
      | (with_reducible exact ih2 _ _ _ _ _ _ _ _ _ _ _)
      | (with_reducible exact spec_l10KeyCost.mono _ _ _)
      | (with_reducible exact spec_l10List.mono _ _)
      | (with_reducible exact spec_l10Residue.mono _ _ _)
      | (with_reducible exact LeO.refl _)
      | (with_reducible exact LeO.none _)
      | (with_reducible refine LeO.ite ?_ ?_)
      | (with_reducible refine LeO.bind ?_ (fun _ => ?_))
      | exact ih0 _ _ _ _ _
      | exact ih1 _ _ _ _ _ _ _ _
      | exact ih2 _ _ _ _ _ _ _ _ _ _ _
      | exact spec_l10KeyCost.mono _ _ _
      | exact spec_l10List.mono _ _
      | exact spec_l10Residue.mono _ _ _
      | exact LeO.none _
      | refine LeO.ite ?_ ?_
      | refine LeO.bind ?_ (fun _ => ?_)
    · intro y0 y1 y2 y3 y4 y5 y6 y7 y8 y9 y10
      unfold spec_PlanCost.j2
      repeat' first
      | (with_reducible exact ih0 _ _ _ _ _)
      | (with_reducible exact ih1 _ _ _ _ _ _ _ _)
      | (with_reducible exact ih2 _ _ _ _ _ _ _ _ _ _ _)
      | (with_reducible exact spec_l10KeyCost.mono _ _ _)
      | (with_reducible exact spec_l10List.mono _ _)
      | (with_reducible exact spec_l10Residue.mono _ _ _)
      | (with_reducible exact LeO.refl _)
      | (with_reducible exact LeO.none _)
      | (with_reducible refine LeO.ite ?_ ?_)
      | (with_reducible refine LeO.bind ?_ (fun _ => ?_))
      | exact ih0 _ _ _ _ _
      | exact ih1 _ _ _ _ _ _ _ _
      | exact ih2 _ _ _ _ _ _ _ _ _ _ _
      | exact spec_l10KeyCost.mono _ _ _
      | exact spec_l10List.mono _ _
      | exact spec_l10Residue.mono _ _ _
      | exact LeO.none _
      | refine LeO.ite ?_ ?_
      | refine LeO.bind ?_ (fun _ => ?_)
theorem spec_PlanCost.mono : ∀ a0 a1 a2 a3 k, LeO (spec_PlanCost.f k a0 a1 a2 a3) (spec_PlanCost.f (k + 1) a0 a1 a2 a3) := by
  intro a0 a1 a2 a3 k
  obtain ⟨ih0, ih1, ih2⟩ := spec_PlanCost.mono_l k
  unfold spec_PlanCost.f
  repeat' first
      | (with_reducible exact ih0 _ _ _ _ _)
      | (with_reducible exact ih1 _ _ _ _ _ _ _ _)
      | (with_reducible exact ih2 _ _ _ _ _ _ _ _ _ _ _)
      | (with_reducible exact spec_l10KeyCost.mono _ _ _)
      | (with_reducible exact spec_l10List.mono _ _)
      | (with_reducible exact spec_l10Residue.mono _ _ _)
      | (with_reducible exact LeO.refl _)
      | (with_reducible exact LeO.none _)
      | (with_reducible refine LeO.ite ?_ ?_)
      | (with_reducible refine LeO.bind ?_ (fun _ => ?_))
      | exact ih0 _ _ _ _ _
      | exact ih1 _ _ _ _ _ _ _ _
      | exact ih2 _ _ _ _ _ _ _ _ _ _ _
      | exact spec_l10KeyCost.mono _ _ _
      | exact spec_l10List.mono _ _
      | exact spec_l10Residue.mono _ _ _
      | exact LeO.none _
      | refine LeO.ite ?_ ?_
      | refine LeO.bind ?_ (fun _ => ?_)
set_option maxHeartbeats 8000000 in
set_option maxRecDepth 100000 in
theorem spec_PlanCost.calls (k : Nat) (a0_0 : Int) (a0_1 : Int) (A0_2 : Option Addr) (c0_2 : Nat) (l0_2 : List Int) (A1 : Option Addr) (c1 : Nat) (l1 : List Int) (r : Int) (w : World) (hr0_2 : Kd.C (Kd.int .i64) w A0_2 l0_2.length l0_2) (hc0_2 : l0_2.length ≤ c0_2) (hr1 : Kd.C (Kd.int .i64) w A1 l1.length l1) (hc1 : l1.length ≤ c1) (h : spec_PlanCost.f k a0_0 a0_1 l0_2 l1 = some r) :
    Calls Try.prog 41 #[.agg #[.int .i64 a0_0, .int .i64 a0_1, .slice A0_2 l0_2.length c0_2], .slice A1 l1.length c1] w fun e w' => e = .returned (.int .i64 r) ∧ Below w.heap.size w w' := by
  have hu63 := Try.underlying63
  have HR0_2 := Aside0.mk hr0_2
  have HC0_2 := Aside0.mk hc0_2
  clear hr0_2 hc0_2
  have HR1 := Aside0.mk hr1
  have HC1 := Aside0.mk hc1
  clear hr1 hc1
  have HB := Aside0.mk (Below.refl w.heap.size w)
  have H : ((spec_l10List.f k l1).bind fun t142 => (if t142 = true then ((spec_l10Parts.f a0_0 a0_1 (l1.length : Int)).bind fun t143 => (if t143 = true then (if 0 ≤ (IntKind.u64.wrap (a0_1)) then (spec_PlanCost.j0 k l1 ((l0_2.length : Int) != (shl .i64 1 (IntKind.u64.wrap (a0_1)))) a0_0 a0_1 l0_2) else (none)) else (spec_PlanCost.j0 k l1 true a0_0 a0_1 l0_2))) else (spec_PlanCost.j0 k l1 true a0_0 a0_1 l0_2))) = some r := h
  clear h
  have HC3 := Aside0.mk H
  clear H
  go_enter Try.func41, Try.ntmps41
  go_upto_region 1 with (first | ((with_reducible refine gate_dst (N := 2) rfl ?_); (try (refine gate_guard (by rfl) ?_; dsimp only)); refine box_event ?hg (N := 2) ?hd (cs := #[.int .i64 a0_0, .int .i64 a0_1, .slice A0_2 l0_2.length c0_2]) (t := 63) ?hr ?_; (case hd => rfl); (case hg => rfl); (case hr => first | (go_simp; done) | (go_simp; rfl)); intro gb141 hg w4 hbox hb; have n0_ := Aside0.mk (below_step (by repeat (first | (with_reducible first | exact HB.out | apply below_alloc | apply pw_below_drewN | apply below_drew1) | exact HB.out)) hb); have n1_ := Aside0.mk (hbox); have n2_ := Aside0.mk ((by rw [hg]; exact (below_size (by repeat (first | (with_reducible first | exact HB.out | apply below_alloc | apply pw_below_drewN | apply below_drew1) | exact HB.out))) : w.heap.size ≤ gb141)); have n3_ := n2_; clear HB; have HB := n0_; have BK141 := n1_; have GW141 := n2_; have GE141 := n3_; clear n0_ n1_ n2_ n3_; clear hb hbox hg))
  (try simp only [Act.put, List.setIfInBounds_toArray, List.set_cons_zero, List.set_cons_succ])
  go_cut [31] (fun v31 wc => ∃ (kq : Nat) (x31_2 : Bool), v31 = .bool x31_2 ∧ Aside0 (spec_PlanCost.j0 kq l1 x31_2 a0_0 a0_1 l0_2 = some r) ∧ Aside0 (kq ≤ k) ∧ Aside0 (wc.heap[gb141]? = some (.cells #[.int .i64 a0_0, .int .i64 a0_1, (.slice A0_2 l0_2.length c0_2)] 63 (0, 0))) ∧ Aside0 (Below w.heap.size w wc))
  case first =>
    have H := HC3.out
    clear HC3
    replace H := Option.bind_eq_some_iff.mp H
    obtain ⟨t142, A50, H⟩ := H
    replace H : (if t142 = true then ((spec_l10Parts.f a0_0 a0_1 (l1.length : Int)).bind fun t143 => (if t143 = true then (if 0 ≤ (IntKind.u64.wrap (a0_1)) then (spec_PlanCost.j0 k l1 ((l0_2.length : Int) != (shl .i64 1 (IntKind.u64.wrap (a0_1)))) a0_0 a0_1 l0_2) else (none)) else (spec_PlanCost.j0 k l1 true a0_0 a0_1 l0_2))) else (spec_PlanCost.j0 k l1 true a0_0 a0_1 l0_2)) = some r := H
    have A5 := Aside0.mk A50
    clear A50
    by_cases c6 : t142 = true
    rotate_left
    · replace c6 := Bool.eq_false_iff.mpr c6
      subst c6
      have H1 : (spec_PlanCost.j0 k l1 true a0_0 a0_1 l0_2) = some r := by rw [if_neg (show ¬ (false = true) by decide)] at H; exact H
      clear H
      have H := H1
      clear H1
      have H' := Aside0.mk H
      clear H
      go_wp2_with (first | ((with_reducible refine gate_callee (f := 100) rfl ?_); refine goesL_ (some 10) rfl rfl Try.func100 (by kernel_rfl) rfl #[.slice A1 l1.length c1] rfl (by (try simp only [List.map_toArray, List.map_cons, List.map_nil]); first | done | rfl | (simp only [List.length_drop, List.length_take]; rfl)) ?_; (with_reducible refine (spec_l10List.calls k _ _ l1 false _ ?side1 ?side2 A5.out).mono ?_); (case side1 => repeat (first | exact (Kd.C_below HR1.out HB.out) | (with_reducible refine Kd.C_alloc ?_ _) | (with_reducible refine Kd.C_drewN ?_ _) | (with_reducible refine Kd.C_drew ?_))); (case side2 => exact HC1.out); rintro e w' ⟨rfl, ⟨nd, rfl⟩⟩; refine ⟨_, rfl, ?_⟩))
      go_meet
      case rel => exact ⟨_, (true), (by first | rfl | (simp; done) | (simp [*]; done)), H', ⟨by first | omega | exact Nat.le_refl _⟩, ⟨by (with_reducible repeat (first | refine blk_drewN ?_ _ | refine blk_drew ?_ | refine blk_alloc ?_ _)); exact BK141.out⟩, ⟨by repeat (first | (with_reducible first | exact HB.out | apply below_alloc | apply pw_below_drewN | apply below_drew1 | refine below_set ?_ GE141.out) | exact HB.out)⟩⟩
    subst c6
    have H1 : ((spec_l10Parts.f a0_0 a0_1 (l1.length : Int)).bind fun t143 => (if t143 = true then (if 0 ≤ (IntKind.u64.wrap (a0_1)) then (spec_PlanCost.j0 k l1 ((l0_2.length : Int) != (shl .i64 1 (IntKind.u64.wrap (a0_1)))) a0_0 a0_1 l0_2) else (none)) else (spec_PlanCost.j0 k l1 true a0_0 a0_1 l0_2))) = some r := by rw [if_pos rfl] at H; exact H
    clear H
    have H := H1
    clear H1
    replace H := Option.bind_eq_some_iff.mp H
    obtain ⟨t143, A70, H⟩ := H
    replace H : (if t143 = true then (if 0 ≤ (IntKind.u64.wrap (a0_1)) then (spec_PlanCost.j0 k l1 ((l0_2.length : Int) != (shl .i64 1 (IntKind.u64.wrap (a0_1)))) a0_0 a0_1 l0_2) else (none)) else (spec_PlanCost.j0 k l1 true a0_0 a0_1 l0_2)) = some r := H
    have A7 := Aside0.mk A70
    clear A70
    by_cases c8 : t143 = true
    rotate_left
    · replace c8 := Bool.eq_false_iff.mpr c8
      subst c8
      have H1 : (spec_PlanCost.j0 k l1 true a0_0 a0_1 l0_2) = some r := by rw [if_neg (show ¬ (false = true) by decide)] at H; exact H
      clear H
      have H := H1
      clear H1
      have H' := Aside0.mk H
      clear H
      go_wp2_with (first | ((with_reducible refine gate_callee (f := 100) rfl ?_); refine goesL_ (some 10) rfl rfl Try.func100 (by kernel_rfl) rfl #[.slice A1 l1.length c1] rfl (by (try simp only [List.map_toArray, List.map_cons, List.map_nil]); first | done | rfl | (simp only [List.length_drop, List.length_take]; rfl)) ?_; (with_reducible refine (spec_l10List.calls k _ _ l1 true _ ?side1 ?side2 A5.out).mono ?_); (case side1 => repeat (first | exact (Kd.C_below HR1.out HB.out) | (with_reducible refine Kd.C_alloc ?_ _) | (with_reducible refine Kd.C_drewN ?_ _) | (with_reducible refine Kd.C_drew ?_))); (case side2 => exact HC1.out); rintro e w' ⟨rfl, ⟨nd, rfl⟩⟩; refine ⟨_, rfl, ?_⟩; have hcz13_0 : w4.cell? ⟨gb141, 0, none⟩ = some (.int .i64 a0_0) := (blk_cell BK141.out 0).trans rfl; have hcz13_1 : w4.cell? ⟨gb141, 1, none⟩ = some (.int .i64 a0_1) := (blk_cell BK141.out 1).trans rfl; have hcz13_2 : w4.cell? ⟨gb141, 2, none⟩ = some (.slice A0_2 l0_2.length c0_2) := (blk_cell BK141.out 2).trans rfl; have hfz13_0 := blk_frozen BK141.out 0; have hfz13_1 := blk_frozen BK141.out 1; have hfz13_2 := blk_frozen BK141.out 2) | (go_at_call 101; (with_reducible refine (spec_l10Parts.calls a0_0 a0_1 (l1.length : Int) false _ A7.out).mono ?_); rintro e w' ⟨rfl, ⟨nd, rfl⟩⟩))
      go_meet
      case rel => exact ⟨_, (true), (by first | rfl | (simp; done) | (simp [*]; done)), H', ⟨by first | omega | exact Nat.le_refl _⟩, ⟨by (with_reducible repeat (first | refine blk_drewN ?_ _ | refine blk_drew ?_ | refine blk_alloc ?_ _)); exact BK141.out⟩, ⟨by repeat (first | (with_reducible first | exact HB.out | apply below_alloc | apply pw_below_drewN | apply below_drew1 | refine below_set ?_ GE141.out) | exact HB.out)⟩⟩
    subst c8
    have H1 : (if 0 ≤ (IntKind.u64.wrap (a0_1)) then (spec_PlanCost.j0 k l1 ((l0_2.length : Int) != (shl .i64 1 (IntKind.u64.wrap (a0_1)))) a0_0 a0_1 l0_2) else (none)) = some r := by rw [if_pos rfl] at H; exact H
    clear H
    have H := H1
    clear H1
    obtain ⟨ji9, hji9⟩ : ∃ j_ : Int, (IntKind.u64.wrap (a0_1)) = j_ := ⟨_, rfl⟩
    replace H : (if 0 ≤ (ji9) then (spec_PlanCost.j0 k l1 ((l0_2.length : Int) != (shl .i64 1 (ji9))) a0_0 a0_1 l0_2) else (none)) = some r := by first | (rw [hji9] at H; exact H) | (simp only [hji9] at H ⊢; exact H)
    (try rw [hji9] at A5)
    (try rw [hji9] at A7)
    by_cases c10 : 0 ≤ (ji9)
    rotate_left
    · rw [if_neg c10] at H
      exact absurd H (by simp)
    rw [if_pos c10] at H
    have c10b0 := eq_true c10
    have c10b1 : decide (0 ≤ (ji9)) = true := decide_eq_true c10
    clear c10
    obtain ⟨ji11, hji11⟩ : ∃ j_ : Int, (shl .i64 1 (ji9)) = j_ := ⟨_, rfl⟩
    replace H : (spec_PlanCost.j0 k l1 ((l0_2.length : Int) != (ji11)) a0_0 a0_1 l0_2) = some r := by first | (rw [hji11] at H; exact H) | (simp only [hji11] at H ⊢; exact H)
    (try rw [hji11] at A5)
    (try rw [hji11] at A7)
    have hji11_ : (IntKind.i64.wrap (1 * 2 ^ min (ji9).toNat 64)) = ji11 := hji11
    have hji11z : (ji9) ≤ 64 → (IntKind.i64.wrap (1 * 2 ^ (ji9).toNat)) = ji11 := shl_small hji11
    have hji11u : (IntKind.i64.wrap (2 ^ min (ji9).toNat 64)) = ji11 := by have h_ := hji11_; rw [Int.one_mul] at h_; exact h_
    have hji11v : (ji9) ≤ 64 → (IntKind.i64.wrap (2 ^ (ji9).toNat)) = ji11 := fun hle_ => by have h_ := hji11z hle_; rw [Int.one_mul] at h_; exact h_
    have hji11y : (wrap64 (1 * 2 ^ min (ji9).toNat 64)) = ji11 := (i64_w _).symm.trans hji11_
    have hji11x : (ji9) ≤ 64 → (wrap64 (1 * 2 ^ (ji9).toNat)) = ji11 := fun h_ => (i64_w _).symm.trans (hji11z h_)
    have H' := Aside0.mk H
    clear H
    go_wp2_with (first | ((with_reducible refine gate_callee (f := 100) rfl ?_); refine goesL_ (some 10) rfl rfl Try.func100 (by kernel_rfl) rfl #[.slice A1 l1.length c1] rfl (by (try simp only [List.map_toArray, List.map_cons, List.map_nil]); first | done | rfl | (simp only [List.length_drop, List.length_take]; rfl)) ?_; (with_reducible refine (spec_l10List.calls k _ _ l1 true _ ?side1 ?side2 A5.out).mono ?_); (case side1 => repeat (first | exact (Kd.C_below HR1.out HB.out) | (with_reducible refine Kd.C_alloc ?_ _) | (with_reducible refine Kd.C_drewN ?_ _) | (with_reducible refine Kd.C_drew ?_))); (case side2 => exact HC1.out); rintro e w' ⟨rfl, ⟨nd, rfl⟩⟩; refine ⟨_, rfl, ?_⟩; have hcz12_0 : w4.cell? ⟨gb141, 0, none⟩ = some (.int .i64 a0_0) := (blk_cell BK141.out 0).trans rfl; have hcz12_1 : w4.cell? ⟨gb141, 1, none⟩ = some (.int .i64 a0_1) := (blk_cell BK141.out 1).trans rfl; have hcz12_2 : w4.cell? ⟨gb141, 2, none⟩ = some (.slice A0_2 l0_2.length c0_2) := (blk_cell BK141.out 2).trans rfl; have hfz12_0 := blk_frozen BK141.out 0; have hfz12_1 := blk_frozen BK141.out 1; have hfz12_2 := blk_frozen BK141.out 2) | (go_at_call 101; (with_reducible refine (spec_l10Parts.calls a0_0 a0_1 (l1.length : Int) true _ A7.out).mono ?_); rintro e w' ⟨rfl, ⟨nd, rfl⟩⟩))
    go_meet
    case rel => exact ⟨_, (((l0_2.length : Int) != (ji11))), (by first | rfl | (simp; done) | (simp only [← hji11] <;> (first | rfl | simp)) | (simp [*]; done)), H', ⟨by first | omega | exact Nat.le_refl _⟩, ⟨by (with_reducible repeat (first | refine blk_drewN ?_ _ | refine blk_drew ?_ | refine blk_alloc ?_ _)); exact BK141.out⟩, ⟨by repeat (first | (with_reducible first | exact HB.out | apply below_alloc | apply pw_below_drewN | apply below_drew1 | refine below_set ?_ GE141.out) | exact HB.out)⟩⟩
  case rest =>
    clear HC3
    try clear c1
    try clear p2
    try clear c4
    try clear c6
    try clear p6
    try clear c8
    try clear c10
    try clear c10b0
    try clear c10b1
    try clear hcz12_0
    try clear hcz12_1
    try clear hcz12_2
    try clear hcz13_0
    try clear hcz13_1
    try clear hcz13_2
    try clear hfz12_0
    try clear hfz12_1
    try clear hfz12_2
    try clear hfz13_0
    try clear hfz13_1
    try clear hfz13_2
    obtain ⟨kq, x31_2, rfl, HA, HJ2, BK141, HB⟩ := hcut
    cases kq with
    | zero => exact absurd HA.out (by simp [spec_PlanCost.j0])
    | succ kj2 =>
      have H := HA.out
      clear HA
      simp only [spec_PlanCost.j0] at H
      by_cases c14 : x31_2 = true
      · subst c14
        have H1 : (some (-1)) = some r := by rw [if_pos rfl] at H; exact H
        clear H
        have H := H1
        clear H1
        obtain rfl := Option.some.inj H
        go_wp2
        go_ret
        exact ⟨by first | rfl | (simp [errW_none, errW_some] <;> rfl) | (simp [*, errW_none, errW_some] <;> rfl), by repeat (first | (with_reducible first | exact HB.out | apply below_alloc | apply pw_below_drewN | apply below_drew1 | refine below_set ?_ GE141.out) | exact HB.out)⟩
      replace c14 := Bool.eq_false_iff.mpr c14
      subst c14
      have H1 : ((spec_l10Residue.f kj2 a0_0 l1).bind fun t144 => (spec_PlanCost.l0 kj2 t144 (wrap64 (6 + (wrap64 (26 * a0_0)))) l0_2 (l0_2.length : Int) 0 a0_0 a0_1 l0_2)) = some r := by rw [if_neg (show ¬ (false = true) by decide)] at H; exact H
      clear H
      have H := H1
      clear H1
      replace H := Option.bind_eq_some_iff.mp H
      obtain ⟨t144, A150, H⟩ := H
      replace H : (spec_PlanCost.l0 kj2 t144 (wrap64 (6 + (wrap64 (26 * a0_0)))) l0_2 (l0_2.length : Int) 0 a0_0 a0_1 l0_2) = some r := H
      have A15 := Aside0.mk A150
      clear A150
      have H' := Aside0.mk H
      clear H
      have hcz16_0 : wc.cell? ⟨gb141, 0, none⟩ = some (.int .i64 a0_0) := (blk_cell BK141.out 0).trans rfl
      have hcz16_1 : wc.cell? ⟨gb141, 1, none⟩ = some (.int .i64 a0_1) := (blk_cell BK141.out 1).trans rfl
      have hcz16_2 : wc.cell? ⟨gb141, 2, none⟩ = some (.slice A0_2 l0_2.length c0_2) := (blk_cell BK141.out 2).trans rfl
      have hfz16_0 := blk_frozen BK141.out 0
      have hfz16_1 := blk_frozen BK141.out 1
      have hfz16_2 := blk_frozen BK141.out 2
      go_wp2_with (first | ((with_reducible refine gate_callee (f := 102) rfl ?_); refine goesL_ (some 35) rfl rfl Try.func102 (by kernel_rfl) rfl #[.int .i64 a0_0, .slice A1 l1.length c1] rfl (by (try simp only [List.map_toArray, List.map_cons, List.map_nil]); first | done | rfl | (simp only [List.length_drop, List.length_take]; rfl)) ?_; (with_reducible refine (spec_l10Residue.calls kj2 a0_0 _ _ l1 t144 _ ?side1 ?side2 A15.out).mono ?_); (case side1 => repeat (first | exact (Kd.C_below HR1.out HB.out) | (with_reducible refine Kd.C_alloc ?_ _) | (with_reducible refine Kd.C_drewN ?_ _) | (with_reducible refine Kd.C_drew ?_))); (case side2 => exact HC1.out); rintro e w17 ⟨v145, rfl, ho0, hb⟩; refine ⟨_, rfl, ?_⟩; have n0_ := Aside0.mk (Kd.R_lower ho0 (below_size (by repeat (first | (with_reducible first | exact HB.out | apply below_alloc | apply pw_below_drewN | apply below_drew1 | refine below_set ?_ GE141.out) | exact HB.out)))); have n1_ := Aside0.mk (blk_below (g := gb141) (o := .cells #[.int .i64 a0_0, .int .i64 a0_1, .slice A0_2 l0_2.length c0_2] 63 (0, 0)) (by (with_reducible repeat (first | refine blk_drewN ?_ _ | refine blk_drew ?_ | refine blk_alloc ?_ _)); exact BK141.out) hb); have n2_ := Aside0.mk (below_step (by repeat (first | (with_reducible first | exact HB.out | apply below_alloc | apply pw_below_drewN | apply below_drew1 | refine below_set ?_ GE141.out) | exact HB.out)) hb); clear BK141; clear HB; have HO146 := n0_; have BK141 := n1_; have HB := n2_; clear n0_ n1_ n2_; (try clear hb); (try clear hb2); (try clear hk); (try clear hi); (try clear ho0); have hcz18_0 : w17.cell? ⟨gb141, 0, none⟩ = some (.int .i64 a0_0) := (blk_cell BK141.out 0).trans rfl; have hcz18_1 : w17.cell? ⟨gb141, 1, none⟩ = some (.int .i64 a0_1) := (blk_cell BK141.out 1).trans rfl; have hcz18_2 : w17.cell? ⟨gb141, 2, none⟩ = some (.slice A0_2 l0_2.length c0_2) := (blk_cell BK141.out 2).trans rfl; have hfz18_0 := blk_frozen BK141.out 0; have hfz18_1 := blk_frozen BK141.out 1; have hfz18_2 := blk_frozen BK141.out 2))
      go_loopg [6, 43] kj2 (fun kq v6 v43 w' => ∃ (x6_2 : Int) (x43_2 : Int), v6 = .int .i64 x6_2 ∧ v43 = .int .i64 x43_2 ∧ Aside0 (spec_PlanCost.l0 kq t144 x6_2 l0_2 (l0_2.length : Int) x43_2 a0_0 a0_1 l0_2 = some r) ∧ Aside0 (kq ≤ kj2) ∧ Aside0 (Kd.R (Kd.int .i64) 3 w' w.heap.size (fun _ => True) v145 t144) ∧ Aside0 (w'.heap[gb141]? = some (.cells #[.int .i64 a0_0, .int .i64 a0_1, (.slice A0_2 l0_2.length c0_2)] 63 (0, 0))) ∧ Aside0 (Below w.heap.size w w'))
      case atStart => exact ⟨(wrap64 (6 + (wrap64 (26 * a0_0)))), (0), (by first | rfl | (simp; done) | (simp [*]; done)), (by first | rfl | (simp; done) | (simp [*]; done)), H', ⟨Nat.le_refl _⟩, ⟨by (with_reducible repeat (first | apply Kd.R_alloc | apply Kd.R_drewN | apply Kd.R_drew)); exact HO146.out⟩, ⟨by (with_reducible repeat (first | refine blk_drewN ?_ _ | refine blk_drew ?_ | refine blk_alloc ?_ _)); exact BK141.out⟩, ⟨by repeat (first | (with_reducible first | exact HB.out | apply below_alloc | apply pw_below_drewN | apply below_drew1 | refine below_set ?_ GE141.out) | exact HB.out)⟩⟩
      case round =>
        clear H'
        try clear c1
        try clear p2
        try clear c4
        try clear c6
        try clear p6
        try clear c8
        try clear c10
        try clear c10b0
        try clear c10b1
        try clear c14
        try clear hcz12_0
        try clear hcz12_1
        try clear hcz12_2
        try clear hcz13_0
        try clear hcz13_1
        try clear hcz13_2
        try clear hcz16_0
        try clear hcz16_1
        try clear hcz16_2
        try clear hcz18_0
        try clear hcz18_1
        try clear hcz18_2
        try clear hfz12_0
        try clear hfz12_1
        try clear hfz12_2
        try clear hfz13_0
        try clear hfz13_1
        try clear hfz13_2
        try clear hfz16_0
        try clear hfz16_1
        try clear hfz16_2
        try clear hfz18_0
        try clear hfz18_1
        try clear hfz18_2
        try clear p2
        try clear p6
        obtain ⟨x6_2, x43_2, rfl, rfl, HA, HK2, HO_5, BK141, HB⟩ := hrel
        cases gk with
        | zero => exact absurd HA.out (by simp [spec_PlanCost.l0])
        | succ k2 =>
          have H := HA.out
          clear HA
          simp only [spec_PlanCost.l0] at H
          by_cases c19 : x43_2 < (l0_2.length : Int)
          rotate_left
          · rw [if_neg c19] at H
            have c19b0 : decide (x43_2 < (l0_2.length : Int)) = false := decide_eq_false c19
            clear c19
            obtain rfl := Option.some.inj H
            go_wp2
            go_ret
            exact ⟨by first | rfl | (simp [errW_none, errW_some] <;> rfl) | (simp [*, errW_none, errW_some] <;> rfl), by repeat (first | (with_reducible first | exact HB.out | apply below_alloc | apply pw_below_drewN | apply below_drew1 | refine below_set ?_ GE141.out) | exact HB.out)⟩
          rw [if_pos c19] at H
          have c19b0 : decide (x43_2 < (l0_2.length : Int)) = true := decide_eq_true c19
          clear c19
          by_cases c20 : 0 ≤ x43_2
          rotate_left
          · rw [if_neg c20] at H
            exact absurd H (by simp)
          rw [if_pos c20] at H
          have c20b0 : decide (0 ≤ x43_2) = true := decide_eq_true c20
          clear c20
          by_cases c21 : x43_2 < (l0_2.length : Int)
          rotate_left
          · rw [if_neg c21] at H
            exact absurd H (by simp)
          rw [if_pos c21] at H
          have c21b0 : decide (x43_2 < (l0_2.length : Int)) = true := decide_eq_true c21
          clear c21
          have HC22 := Aside0.mk H
          clear H
          have p147 : 0 ≤ (x43_2 : Int) := of_decide_eq_true (by first | (with_reducible assumption) | assumption)
          have q147 : x43_2 < (l0_2.length : Int) := of_decide_eq_true (by first | (with_reducible assumption) | assumption)
          obtain ⟨ad147, e147, hx147_0⟩ := Kd.at_int HR0_2.out x43_2 p147 q147
          cases e147
          replace hx147_0 := (HB.out.cell (World.block_lt_of_cell? w _ hx147_0)).trans hx147_0
          replace p147 := eq_true p147
          replace q147 := eq_true q147
          go_upto_region 8 with (fail)
          go_cut [53] (fun v53 wc => ∃ (kq : Nat) (x53_21 : Bool), v53 = .bool x53_21 ∧ Aside0 (spec_PlanCost.j2 kq t144 x6_2 x43_2 (rd l0_2 x43_2) l0_2 (l0_2.length : Int) x43_2 x53_21 a0_0 a0_1 l0_2 = some r) ∧ Aside0 (kq ≤ k2) ∧ Aside0 (Kd.R (Kd.int .i64) 3 wc w.heap.size (fun _ => True) v145 t144) ∧ Aside0 (wc.heap[gb141]? = some (.cells #[.int .i64 a0_0, .int .i64 a0_1, (.slice (some ad147) l0_2.length c0_2)] 63 (0, 0))) ∧ Aside0 (Below w.heap.size w wc))
          case first =>
            have H := HC22.out
            clear HC22
            by_cases c23 : (rd l0_2 x43_2) < 0
            · rw [if_pos c23] at H
              have c23b0 : decide ((rd l0_2 x43_2) < 0) = true := decide_eq_true c23
              clear c23
              (first | rw [c23b0] | (simp only [i64_w, i32_w]; rw [c23b0]) | skip)
              have H' := Aside0.mk H
              clear H
              go_wp2
              go_meet
              case rel => exact ⟨_, (true), (by first | rfl | (simp; done) | (simp [*]; done)), H', ⟨by have := HJ2.out; have := HK2.out; first | omega | exact Nat.le_refl _⟩, ⟨by (with_reducible repeat (first | apply Kd.R_alloc | apply Kd.R_drewN | apply Kd.R_drew)); exact HO_5.out⟩, ⟨by (with_reducible repeat (first | refine blk_drewN ?_ _ | refine blk_drew ?_ | refine blk_alloc ?_ _)); exact BK141.out⟩, ⟨by repeat (first | (with_reducible first | exact HB.out | apply below_alloc | apply pw_below_drewN | apply below_drew1 | refine below_set ?_ GE141.out) | exact HB.out)⟩⟩
            rw [if_neg c23] at H
            have c23b0 : decide ((rd l0_2 x43_2) < 0) = false := decide_eq_false c23
            clear c23
            (first | rw [c23b0] | (simp only [i64_w, i32_w]; rw [c23b0]) | skip)
            have H' := Aside0.mk H
            clear H
            go_wp2
            go_meet
            case rel => exact ⟨_, (decide ((rd l0_2 x43_2) > 25)), (by first | rfl | (simp; done) | (simp [*]; done)), H', ⟨by have := HJ2.out; have := HK2.out; first | omega | exact Nat.le_refl _⟩, ⟨by (with_reducible repeat (first | apply Kd.R_alloc | apply Kd.R_drewN | apply Kd.R_drew)); exact HO_5.out⟩, ⟨by (with_reducible repeat (first | refine blk_drewN ?_ _ | refine blk_drew ?_ | refine blk_alloc ?_ _)); exact BK141.out⟩, ⟨by repeat (first | (with_reducible first | exact HB.out | apply below_alloc | apply pw_below_drewN | apply below_drew1 | refine below_set ?_ GE141.out) | exact HB.out)⟩⟩
          case rest =>
            clear HC22
            try clear c1
            try clear p1
            try clear q1
            try clear hx1
            try clear c2
            try clear p2
            try clear c4
            try clear c6
            try clear p6
            try clear c8
            try clear c10
            try clear c10b0
            try clear c10b1
            try clear c14
            try clear p14
            try clear q14
            try clear hx14
            try clear c19
            try clear c19b0
            try clear c20
            try clear c20b0
            try clear c21
            try clear c21b0
            try clear c23
            try clear c23b0
            try clear hcz12_0
            try clear hcz12_1
            try clear hcz12_2
            try clear hcz13_0
            try clear hcz13_1
            try clear hcz13_2
            try clear hcz16_0
            try clear hcz16_1
            try clear hcz16_2
            try clear hcz18_0
            try clear hcz18_1
            try clear hcz18_2
            try clear hfz12_0
            try clear hfz12_1
            try clear hfz12_2
            try clear hfz13_0
            try clear hfz13_1
            try clear hfz13_2
            try clear hfz16_0
            try clear hfz16_1
            try clear hfz16_2
            try clear hfz18_0
            try clear hfz18_1
            try clear hfz18_2
            try clear hx147_0
            try clear p147
            try clear p2
            try clear p6
            try clear q147
            obtain ⟨kq, x53_21, rfl, HA, HJ21, HO_5, BK141, HB⟩ := hcut
            cases kq with
            | zero => exact absurd HA.out (by simp [spec_PlanCost.j2])
            | succ kj21 =>
              have H := HA.out
              clear HA
              simp only [spec_PlanCost.j2] at H
              by_cases c24 : x53_21 = true
              · subst c24
                have H1 : (some (-1)) = some r := by rw [if_pos rfl] at H; exact H
                clear H
                have H := H1
                clear H1
                obtain rfl := Option.some.inj H
                go_wp2
                go_ret
                exact ⟨by first | rfl | (simp [errW_none, errW_some] <;> rfl) | (simp [*, errW_none, errW_some] <;> rfl), by repeat (first | (with_reducible first | exact HB.out | apply below_alloc | apply pw_below_drewN | apply below_drew1 | refine below_set ?_ GE141.out) | exact HB.out)⟩
              replace c24 := Bool.eq_false_iff.mpr c24
              subst c24
              have H1 : ((spec_l10Part.f t144 a0_0 a0_1 x43_2).bind fun t148 => ((spec_l10KeyCost.f kj21 (rd l0_2 x43_2) t148).bind fun t151 => (spec_PlanCost.l0 kj21 t144 (wrap64 (x6_2 + t151)) l0_2 (l0_2.length : Int) (wrap64 (x43_2 + 1)) a0_0 a0_1 l0_2))) = some r := by rw [if_neg (show ¬ (false = true) by decide)] at H; exact H
              clear H
              have H := H1
              clear H1
              replace H := Option.bind_eq_some_iff.mp H
              obtain ⟨t148, A250, H⟩ := H
              replace H : ((spec_l10KeyCost.f kj21 (rd l0_2 x43_2) t148).bind fun t151 => (spec_PlanCost.l0 kj21 t144 (wrap64 (x6_2 + t151)) l0_2 (l0_2.length : Int) (wrap64 (x43_2 + 1)) a0_0 a0_1 l0_2)) = some r := H
              have A25 := Aside0.mk A250
              clear A250
              replace H := Option.bind_eq_some_iff.mp H
              obtain ⟨t151, A260, H⟩ := H
              replace H : (spec_PlanCost.l0 kj21 t144 (wrap64 (x6_2 + t151)) l0_2 (l0_2.length : Int) (wrap64 (x43_2 + 1)) a0_0 a0_1 l0_2) = some r := H
              have A26 := Aside0.mk A260
              clear A260
              have H' := Aside0.mk H
              clear H
              have hcz27_0 : wc.cell? ⟨gb141, 0, none⟩ = some (.int .i64 a0_0) := (blk_cell BK141.out 0).trans rfl
              have hcz27_1 : wc.cell? ⟨gb141, 1, none⟩ = some (.int .i64 a0_1) := (blk_cell BK141.out 1).trans rfl
              have hcz27_2 : wc.cell? ⟨gb141, 2, none⟩ = some (.slice (some ad147) l0_2.length c0_2) := (blk_cell BK141.out 2).trans rfl
              have hfz27_0 := blk_frozen BK141.out 0
              have hfz27_1 := blk_frozen BK141.out 1
              have hfz27_2 := blk_frozen BK141.out 2
              obtain ⟨Ao28, co28, eo28⟩ := Kd.R_slice HO_5.out
              subst eo28
              go_wp2_with (first | ((with_reducible refine gate_callee (f := 104) rfl ?_); refine goesL_ (some 62) rfl rfl Try.func104 (by kernel_rfl) rfl #[.slice Ao28 t144.length co28, .int .i64 a0_0, .int .i64 a0_1, .int .i64 x43_2] rfl (by (try simp only [List.map_toArray, List.map_cons, List.map_nil]); first | done | rfl | (simp only [List.length_drop, List.length_take]; rfl)) ?_; (with_reducible refine (spec_l10Part.calls (fun k_ => some k_ = (.slice Ao28 t144.length co28 : Value).ownBlock) _ _ t144 a0_0 a0_1 x43_2 t148 _ ?side1 A25.out).mono ?_); (case side1 => exact Kd.R_V (Kd.R_tight rfl (Kd.R_types (HO_5.out) BK141.out (by decide)))); rintro e w29 ⟨v149, rfl, ho0, hb⟩; refine ⟨_, rfl, ?_⟩; have n0_ := Aside0.mk (Kd.R_below (by (with_reducible repeat (first | apply Kd.R_alloc | apply Kd.R_drewN | apply Kd.R_drew)); exact HO_5.out) hb); have n1_ := Aside0.mk (Kd.V_lower (Kd.V_mono (ok' := fun k_ => k_ ≠ gb141) ho0 (fun k_ hk_ => Or.elim hk_ (fun hs_ => ((Kd.R_types (HO_5.out) BK141.out (by decide)).1 k_ hs_.symm).2) (fun hn_ => (Kd.freshB (g := gb141) (o := .cells #[.int .i64 a0_0, .int .i64 a0_1, .slice (some ad147) l0_2.length c0_2] 63 (0, 0)) (by (with_reducible repeat (first | refine blk_drewN ?_ _ | refine blk_drew ?_ | refine blk_alloc ?_ _)); exact BK141.out) k_ hn_)))) (below_size (by repeat (first | (with_reducible first | exact HB.out | apply below_alloc | apply pw_below_drewN | apply below_drew1 | refine below_set ?_ GE141.out) | exact HB.out)))); have n2_ := Aside0.mk (blk_below (g := gb141) (o := .cells #[.int .i64 a0_0, .int .i64 a0_1, .slice (some ad147) l0_2.length c0_2] 63 (0, 0)) (by (with_reducible repeat (first | refine blk_drewN ?_ _ | refine blk_drew ?_ | refine blk_alloc ?_ _)); exact BK141.out) hb); have n3_ := Aside0.mk (below_step (by repeat (first | (with_reducible first | exact HB.out | apply below_alloc | apply pw_below_drewN | apply below_drew1 | refine below_set ?_ GE141.out) | exact HB.out)) hb); clear HO_5; clear BK141; clear HB; have HO_5 := n0_; have HO150 := n1_; have BK141 := n2_; have HB := n3_; clear n0_ n1_ n2_ n3_; (try clear hb); (try clear hb2); (try clear hk); (try clear hi); (try clear ho0); obtain ⟨Ao30, co30, eo30⟩ := Kd.V_slice HO150.out; subst eo30) | ((with_reducible refine gate_callee (f := 103) rfl ?_); refine goesL_ (some 63) rfl rfl Try.func103 (by kernel_rfl) rfl #[.int .i64 (rd l0_2 x43_2), .slice Ao30 t148.length co30] rfl (by (try simp only [List.map_toArray, List.map_cons, List.map_nil]); first | done | rfl | (simp only [List.length_drop, List.length_take]; rfl)) ?_; (with_reducible refine (spec_l10KeyCost.calls kj21 (rd l0_2 x43_2) _ _ t148 t151 _ ?side1 ?side2 A26.out).mono ?_); (case side1 => repeat (first | exact (Kd.V_reads' HO150.out).2.2 | (with_reducible refine Kd.C_alloc ?_ _) | (with_reducible refine Kd.C_drewN ?_ _) | (with_reducible refine Kd.C_drew ?_))); (case side2 => exact (Kd.V_reads' HO150.out).2.1); rintro e w' ⟨rfl, ⟨nd, rfl⟩⟩; refine ⟨_, rfl, ?_⟩))
              go_roundg kj21
              case measure => have := HJ2.out; have := HK2.out; have := HJ21.out; omega
              case rel => exact ⟨(wrap64 (x6_2 + t151)), (wrap64 (x43_2 + 1)), (by first | rfl | (simp; done) | (simp [*]; done)), (by first | rfl | (simp; done) | (simp [*]; done)), H', ⟨by have := HJ2.out; have := HK2.out; have := HJ21.out; omega⟩, ⟨by (with_reducible repeat (first | apply Kd.R_alloc | apply Kd.R_drewN | apply Kd.R_drew)); exact HO_5.out⟩, ⟨by (with_reducible repeat (first | refine blk_drewN ?_ _ | refine blk_drew ?_ | refine blk_alloc ?_ _)); exact BK141.out⟩, ⟨by repeat (first | (with_reducible first | exact HB.out | apply below_alloc | apply pw_below_drewN | apply below_drew1 | refine below_set ?_ GE141.out) | exact HB.out)⟩⟩

/-! ### laws_toPlan: function 42 -/
def laws_toPlan.f (k : Nat) (a0_0 : Int) (a0_1 : Int) (l0_2 : List Int) : Option (Int × Int × List Int) := (laws_toIntS.f k l0_2).bind fun t155 => (some (a0_0, a0_1, t155))
theorem laws_toPlan.mono : ∀ a0 a1 a2 k, LeO (laws_toPlan.f k a0 a1 a2) (laws_toPlan.f (k + 1) a0 a1 a2) := by
  intro a0 a1 a2 k
  unfold laws_toPlan.f
  repeat' first
      | (with_reducible exact laws_toIntS.mono _ _)
      | (with_reducible exact LeO.refl _)
      | (with_reducible exact LeO.none _)
      | (with_reducible refine LeO.ite ?_ ?_)
      | (with_reducible refine LeO.bind ?_ (fun _ => ?_))
      | exact laws_toIntS.mono _ _
      | exact LeO.none _
      | refine LeO.ite ?_ ?_
      | refine LeO.bind ?_ (fun _ => ?_)
set_option maxHeartbeats 8000000 in
set_option maxRecDepth 100000 in
theorem laws_toPlan.calls (k : Nat) (a0_0 : Int) (a0_1 : Int) (A0_2 : Option Addr) (c0_2 : Nat) (l0_2 : List Int) (r1 : Int) (r2 : Int) (r3 : List Int) (w : World) (hr0_2 : Kd.C (Kd.int .i64) w A0_2 l0_2.length l0_2) (hc0_2 : l0_2.length ≤ c0_2) (h : laws_toPlan.f k a0_0 a0_1 l0_2 = some (r1, r2, r3)) :
    Calls Try.prog 42 #[.agg #[.int .i64 a0_0, .int .i64 a0_1, .slice A0_2 l0_2.length c0_2]] w fun e w' => ∃ v2_ : Value, e = .returned (.agg #[.int .i64 r1, .int .i64 r2, v2_]) ∧ Kd.R (Kd.int .i64) 3 w' w.heap.size (fun _ => True) v2_ r3 ∧ Below w.heap.size w w' := by
  have hu60 := Try.underlying60
  have hu63 := Try.underlying63
  have HR0_2 := Aside0.mk hr0_2
  have HC0_2 := Aside0.mk hc0_2
  clear hr0_2 hc0_2
  have HB := Aside0.mk (Below.refl w.heap.size w)
  have H : ((laws_toIntS.f k l0_2).bind fun t155 => (some (a0_0, a0_1, t155))) = some (r1, r2, r3) := h
  clear h
  replace H := Option.bind_eq_some_iff.mp H
  obtain ⟨t155, A20, H⟩ := H
  replace H : (some (a0_0, a0_1, t155)) = some (r1, r2, r3) := H
  have A2 := Aside0.mk A20
  clear A20
  simp only [Option.some.injEq, Prod.mk.injEq] at H
  obtain ⟨rfl, rfl, rfl⟩ := H
  go_enter Try.func42, Try.ntmps42
  go_wp2_with (first | ((with_reducible refine gate_dst (N := 1) rfl ?_); refine box_event ?hg (N := 1) ?hd (cs := #[.int .i64 a0_0, .int .i64 a0_1, .slice A0_2 l0_2.length c0_2]) (t := 60) ?hr ?_; (case hd => rfl); (case hg => rfl); (case hr => first | (go_simp; done) | (go_simp; rfl)); intro gb152 hg w3 hbox hb; have n0_ := Aside0.mk (below_step (by repeat (first | (with_reducible first | exact HB.out | apply below_alloc | apply pw_below_drewN | apply below_drew1) | exact HB.out)) hb); have n1_ := Aside0.mk (hbox); have n2_ := Aside0.mk ((by rw [hg]; exact (below_size (by repeat (first | (with_reducible first | exact HB.out | apply below_alloc | apply pw_below_drewN | apply below_drew1) | exact HB.out))) : w.heap.size ≤ gb152)); have n3_ := n2_; clear HB; have HB := n0_; have BK152 := n1_; have GW152 := n2_; have GE152 := n3_; clear n0_ n1_ n2_ n3_; clear hb hbox hg) | ((with_reducible refine gate_dst (N := 2) rfl ?_); refine box_event ?hg (N := 2) ?hd (cs := #[.int .i64 0, .int .i64 0, .slice none 0 0]) (t := 63) ?hr ?_; (case hd => rfl); (case hg => rfl); (case hr => first | (go_simp; done) | (go_simp; rfl)); intro gb153 hg w4 hbox hb; have n0_ := Aside0.mk (blk_below (g := gb152) (o := .cells #[.int .i64 a0_0, .int .i64 a0_1, .slice A0_2 l0_2.length c0_2] 60 (0, 0)) (by (with_reducible repeat (first | refine blk_drewN ?_ _ | refine blk_drew ?_ | refine blk_alloc ?_ _)); exact BK152.out) hb); have n1_ := Aside0.mk (below_step (by repeat (first | (with_reducible first | exact HB.out | apply below_alloc | apply pw_below_drewN | apply below_drew1 | refine below_set ?_ GE152.out) | exact HB.out)) hb); have n2_ := Aside0.mk (hbox); have n3_ := Aside0.mk ((by rw [hg]; exact (below_size (by repeat (first | (with_reducible first | exact HB.out | apply below_alloc | apply pw_below_drewN | apply below_drew1 | refine below_set ?_ GE152.out) | exact HB.out))) : w.heap.size ≤ gb153)); have n4_ := n3_; have n5_ := Aside0.mk ((by rw [hg]; exact Nat.ne_of_lt (blk_lt (g := gb152) (o := .cells #[.int .i64 a0_0, .int .i64 a0_1, .slice A0_2 l0_2.length c0_2] 60 (0, 0)) (by (with_reducible repeat (first | refine blk_drewN ?_ _ | refine blk_drew ?_ | refine blk_alloc ?_ _)); exact BK152.out)) : gb152 ≠ gb153)); have n6_ := Aside0.mk ((by rw [hg]; exact Nat.ne_of_gt (blk_lt (g := gb152) (o := .cells #[.int .i64 a0_0, .int .i64 a0_1, .slice A0_2 l0_2.length c0_2] 60 (0, 0)) (by (with_reducible repeat (first | refine blk_drewN ?_ _ | refine blk_drew ?_ | refine blk_alloc ?_ _)); exact BK152.out)) : gb153 ≠ gb152)); clear BK152; clear HB; have BK152 := n0_; have HB := n1_; have BK153 := n2_; have GW153 := n3_; have GE153 := n4_; have NB152_153 := n5_; have NB153_152 := n6_; clear n0_ n1_ n2_ n3_ n4_ n5_ n6_; clear hb hbox hg) | ((with_reducible refine gate_dst (N := 3) rfl ?_); refine box_event ?hg (N := 3) ?hd (cs := #[.int .i64 0, .int .i64 0, .slice none 0 0]) (t := 63) ?hr ?_; (case hd => rfl); (case hg => rfl); (case hr => first | (go_simp; done) | (go_simp; rfl)); intro gb154 hg w5 hbox hb; have n0_ := Aside0.mk (blk_below (g := gb152) (o := .cells #[.int .i64 a0_0, .int .i64 a0_1, .slice A0_2 l0_2.length c0_2] 60 (0, 0)) (by (with_reducible repeat (first | refine blk_drewN ?_ _ | refine blk_drew ?_ | refine blk_alloc ?_ _)); exact BK152.out) hb); have n1_ := Aside0.mk (blk_below (g := gb153) (o := .cells #[.int .i64 0, .int .i64 0, .slice none 0 0] 63 (0, 0)) (by (with_reducible repeat (first | refine blk_drewN ?_ _ | refine blk_drew ?_ | refine blk_alloc ?_ _)); exact BK153.out) hb); have n2_ := Aside0.mk (below_step (by repeat (first | (with_reducible first | exact HB.out | apply below_alloc | apply pw_below_drewN | apply below_drew1 | refine below_set ?_ GE152.out | refine below_set ?_ GE153.out) | exact HB.out)) hb); have n3_ := Aside0.mk (hbox); have n4_ := Aside0.mk ((by rw [hg]; exact (below_size (by repeat (first | (with_reducible first | exact HB.out | apply below_alloc | apply pw_below_drewN | apply below_drew1 | refine below_set ?_ GE152.out | refine below_set ?_ GE153.out) | exact HB.out))) : w.heap.size ≤ gb154)); have n5_ := n4_; have n6_ := Aside0.mk ((by rw [hg]; exact Nat.ne_of_lt (blk_lt (g := gb152) (o := .cells #[.int .i64 a0_0, .int .i64 a0_1, .slice A0_2 l0_2.length c0_2] 60 (0, 0)) (by (with_reducible repeat (first | refine blk_drewN ?_ _ | refine blk_drew ?_ | refine blk_alloc ?_ _)); exact BK152.out)) : gb152 ≠ gb154)); have n7_ := Aside0.mk ((by rw [hg]; exact Nat.ne_of_gt (blk_lt (g := gb152) (o := .cells #[.int .i64 a0_0, .int .i64 a0_1, .slice A0_2 l0_2.length c0_2] 60 (0, 0)) (by (with_reducible repeat (first | refine blk_drewN ?_ _ | refine blk_drew ?_ | refine blk_alloc ?_ _)); exact BK152.out)) : gb154 ≠ gb152)); have n8_ := Aside0.mk ((by rw [hg]; exact Nat.ne_of_lt (blk_lt (g := gb153) (o := .cells #[.int .i64 0, .int .i64 0, .slice none 0 0] 63 (0, 0)) (by (with_reducible repeat (first | refine blk_drewN ?_ _ | refine blk_drew ?_ | refine blk_alloc ?_ _)); exact BK153.out)) : gb153 ≠ gb154)); have n9_ := Aside0.mk ((by rw [hg]; exact Nat.ne_of_gt (blk_lt (g := gb153) (o := .cells #[.int .i64 0, .int .i64 0, .slice none 0 0] 63 (0, 0)) (by (with_reducible repeat (first | refine blk_drewN ?_ _ | refine blk_drew ?_ | refine blk_alloc ?_ _)); exact BK153.out)) : gb154 ≠ gb153)); clear BK152; clear BK153; clear HB; have BK152 := n0_; have BK153 := n1_; have HB := n2_; have BK154 := n3_; have GW154 := n4_; have GE154 := n5_; have NB152_154 := n6_; have NB154_152 := n7_; have NB153_154 := n8_; have NB154_153 := n9_; clear n0_ n1_ n2_ n3_ n4_ n5_ n6_ n7_ n8_ n9_; clear hb hbox hg; have hnb6 := NB152_153.out; have hnc6 := NB153_152.out; have hnb7 := NB152_154.out; have hnc7 := NB154_152.out; have hcz8_0 : w5.cell? ⟨gb152, 0, none⟩ = some (.int .i64 a0_0) := (blk_cell BK152.out 0).trans rfl; have hcz8_1 : w5.cell? ⟨gb152, 1, none⟩ = some (.int .i64 a0_1) := (blk_cell BK152.out 1).trans rfl; have hcz8_2 : w5.cell? ⟨gb152, 2, none⟩ = some (.slice A0_2 l0_2.length c0_2) := (blk_cell BK152.out 2).trans rfl; have hfz8_0 := blk_frozen BK152.out 0; have hfz8_1 := blk_frozen BK152.out 1; have hfz8_2 := blk_frozen BK152.out 2; have hnb9 := NB154_153.out; have hnc9 := NB153_154.out; have hcz10_0 : w5.cell? ⟨gb154, 0, none⟩ = some (.int .i64 0) := (blk_cell BK154.out 0).trans rfl; have hcz10_1 : w5.cell? ⟨gb154, 1, none⟩ = some (.int .i64 0) := (blk_cell BK154.out 1).trans rfl; have hcz10_2 : w5.cell? ⟨gb154, 2, none⟩ = some (.slice none 0 0) := (blk_cell BK154.out 2).trans rfl; have hfz10_0 := blk_frozen BK154.out 0; have hfz10_1 := blk_frozen BK154.out 1; have hfz10_2 := blk_frozen BK154.out 2) | ((with_reducible refine gate_callee (f := 34) rfl ?_); refine goesL_ (some 12) rfl rfl Try.func34 (by kernel_rfl) rfl #[.slice A0_2 l0_2.length c0_2] rfl (by (try simp only [List.map_toArray, List.map_cons, List.map_nil]); first | done | rfl | (simp only [List.length_drop, List.length_take]; rfl)) ?_; (with_reducible refine (laws_toIntS.calls k _ _ l0_2 t155 _ ?side1 ?side2 A2.out).mono ?_); (case side1 => exact Kd.C_below HR0_2.out (by repeat (first | (with_reducible first | exact HB.out | apply below_alloc | apply pw_below_drewN | apply below_drew1 | refine below_set ?_ GE152.out | refine below_set ?_ GE153.out | refine below_set ?_ GE154.out) | exact HB.out))); (case side2 => exact HC0_2.out); rintro e w11 ⟨v156, rfl, ho0, hb⟩; refine ⟨_, rfl, ?_⟩; have n0_ := Aside0.mk (Kd.R_lower ho0 (below_size (by repeat (first | (with_reducible first | exact HB.out | apply below_alloc | apply pw_below_drewN | apply below_drew1 | refine below_set ?_ GE152.out | refine below_set ?_ GE153.out | refine below_set ?_ GE154.out) | exact HB.out)))); have n1_ := Aside0.mk (blk_below (g := gb152) (o := .cells #[.int .i64 a0_0, .int .i64 a0_1, .slice A0_2 l0_2.length c0_2] 60 (0, 0)) (by (with_reducible repeat (first | refine blk_drewN ?_ _ | refine blk_drew ?_ | refine blk_alloc ?_ _)); refine blk_far ?_ NB152_154.out _; (with_reducible repeat (first | refine blk_drewN ?_ _ | refine blk_drew ?_ | refine blk_alloc ?_ _)); refine blk_far ?_ NB152_154.out _; (with_reducible repeat (first | refine blk_drewN ?_ _ | refine blk_drew ?_ | refine blk_alloc ?_ _)); exact BK152.out) hb); have n2_ := Aside0.mk (blk_below (g := gb153) (o := .cells #[.int .i64 0, .int .i64 0, .slice none 0 0] 63 (0, 0)) (by (with_reducible repeat (first | refine blk_drewN ?_ _ | refine blk_drew ?_ | refine blk_alloc ?_ _)); refine blk_far ?_ NB153_154.out _; (with_reducible repeat (first | refine blk_drewN ?_ _ | refine blk_drew ?_ | refine blk_alloc ?_ _)); refine blk_far ?_ NB153_154.out _; (with_reducible repeat (first | refine blk_drewN ?_ _ | refine blk_drew ?_ | refine blk_alloc ?_ _)); exact BK153.out) hb); have n3_ := Aside0.mk (blk_below (g := gb154) (o := .cells #[.int .i64 a0_0, .int .i64 a0_1, .slice none 0 0] 63 (0, 0)) (by (with_reducible repeat (first | refine blk_drewN ?_ _ | refine blk_drew ?_ | refine blk_alloc ?_ _)); refine blk_put (cs := #[.int .i64 a0_0, .int .i64 0, .slice none 0 0]) ?_ 1 _ rfl; (with_reducible repeat (first | refine blk_drewN ?_ _ | refine blk_drew ?_ | refine blk_alloc ?_ _)); refine blk_put (cs := #[.int .i64 0, .int .i64 0, .slice none 0 0]) ?_ 0 _ rfl; (with_reducible repeat (first | refine blk_drewN ?_ _ | refine blk_drew ?_ | refine blk_alloc ?_ _)); exact BK154.out) hb); have n4_ := Aside0.mk (below_step (by repeat (first | (with_reducible first | exact HB.out | apply below_alloc | apply pw_below_drewN | apply below_drew1 | refine below_set ?_ GE152.out | refine below_set ?_ GE153.out | refine below_set ?_ GE154.out) | exact HB.out)) hb); clear BK152; clear BK153; clear BK154; clear HB; have HO157 := n0_; have BK152 := n1_; have BK153 := n2_; have BK154 := n3_; have HB := n4_; clear n0_ n1_ n2_ n3_ n4_; (try clear hb); (try clear hb2); (try clear hk); (try clear hi); (try clear ho0); obtain ⟨Ao12, co12, eo12⟩ := Kd.R_slice HO157.out; subst eo12; have hcz13_0 : w11.cell? ⟨gb154, 0, none⟩ = some (.int .i64 a0_0) := (blk_cell BK154.out 0).trans rfl; have hcz13_1 : w11.cell? ⟨gb154, 1, none⟩ = some (.int .i64 a0_1) := (blk_cell BK154.out 1).trans rfl; have hcz13_2 : w11.cell? ⟨gb154, 2, none⟩ = some (.slice none 0 0) := (blk_cell BK154.out 2).trans rfl; have hfz13_0 := blk_frozen BK154.out 0; have hfz13_1 := blk_frozen BK154.out 1; have hfz13_2 := blk_frozen BK154.out 2; have hcz14_0 : w11.cell? ⟨gb153, 0, none⟩ = some (.int .i64 0) := (blk_cell BK153.out 0).trans rfl; have hcz14_1 : w11.cell? ⟨gb153, 1, none⟩ = some (.int .i64 0) := (blk_cell BK153.out 1).trans rfl; have hcz14_2 : w11.cell? ⟨gb153, 2, none⟩ = some (.slice none 0 0) := (blk_cell BK153.out 2).trans rfl; have hfz14_0 := blk_frozen BK153.out 0; have hfz14_1 := blk_frozen BK153.out 1; have hfz14_2 := blk_frozen BK153.out 2))
  refine bodyPost_ret (results_cell_row rfl _ _ gb153 63 #[.int .i64 a0_0, .int .i64 a0_1, .slice Ao12 t155.length co12] (0, 0) _ rfl (by (with_reducible repeat (first | refine blk_drewN ?_ _ | refine blk_drew ?_ | refine blk_alloc ?_ _)); refine blk_put (cs := #[.int .i64 a0_0, .int .i64 a0_1, .slice none 0 0]) ?_ 2 _ rfl; (with_reducible repeat (first | refine blk_drewN ?_ _ | refine blk_drew ?_ | refine blk_alloc ?_ _)); refine blk_put (cs := #[.int .i64 a0_0, .int .i64 0, .slice none 0 0]) ?_ 1 _ rfl; (with_reducible repeat (first | refine blk_drewN ?_ _ | refine blk_drew ?_ | refine blk_alloc ?_ _)); refine blk_put (cs := #[.int .i64 0, .int .i64 0, .slice none 0 0]) ?_ 0 _ rfl; (with_reducible repeat (first | refine blk_drewN ?_ _ | refine blk_drew ?_ | refine blk_alloc ?_ _)); refine blk_far ?_ NB153_154.out _; (with_reducible repeat (first | refine blk_drewN ?_ _ | refine blk_drew ?_ | refine blk_alloc ?_ _)); exact BK153.out) Try.underlying63 rfl (by kernel_rfl)) rfl ?_
  exact ⟨_, by first | rfl | (simp [errW_none, errW_some] <;> rfl) | (simp [*, errW_none, errW_some] <;> rfl), by (with_reducible repeat (first | apply Kd.R_alloc | apply Kd.R_drewN | apply Kd.R_drew)); exact Kd.R_mono (Kd.R_far (p := ⟨gb153, 2, none⟩) (Kd.R_far (p := ⟨gb153, 1, none⟩) (Kd.R_far (p := ⟨gb153, 0, none⟩) (Kd.R_far (p := ⟨gb154, 2, none⟩) (Kd.R_types (Kd.R_types HO157.out BK154.out (by decide)) BK153.out (by decide)) (fun _ hk => hk.1.2) (.slice Ao12 t155.length co12)) (fun _ hk => hk.2) (.int .i64 a0_0)) (fun _ hk => hk.2) (.int .i64 a0_1)) (fun _ hk => hk.2) (.slice Ao12 t155.length co12)) (fun _ hk => trivial), by repeat (first | (with_reducible first | exact HB.out | apply below_alloc | apply pw_below_drewN | apply below_drew1 | refine below_set ?_ GE152.out | refine below_set ?_ GE153.out | refine below_set ?_ GE154.out) | exact HB.out)⟩

/-! ### impl_zrange: function 107 -/
def impl_zrange.l0 : Nat → Int → Int → List Int → Int → Int → Option (Bool)
  | 0, _, _, _, _, _ => none
  | k + 1, x1, x2, x15, x16, x17 => if x17 < x16 then (if 0 ≤ x17 then (if x17 < (x15.length : Int) then (if (rd x15 x17) < x1 then (some false) else (if (rd x15 x17) > x2 then (some false) else (impl_zrange.l0 k x1 x2 x15 x16 (wrap64 (x17 + 1))))) else (none)) else (none)) else (some true)
def impl_zrange.f (k : Nat) (l0 : List Int) (a1 : Int) (a2 : Int) (a3 : Int) : Option (Bool) := if (l0.length : Int) > a3 then (some false) else (impl_zrange.l0 k a1 a2 l0 (l0.length : Int) 0)
theorem impl_zrange.mono_l : ∀ k, (∀ y0 y1 y2 y3 y4, LeO (impl_zrange.l0 k y0 y1 y2 y3 y4) (impl_zrange.l0 (k + 1) y0 y1 y2 y3 y4))
  | 0 => fun _ _ _ _ _ r h => by simp [impl_zrange.l0] at h
  | k + 1 => by
    have ih0 := impl_zrange.mono_l k
    · intro y0 y1 y2 y3 y4
      unfold impl_zrange.l0
      repeat' first
      | (with_reducible exact ih0 _ _ _ _ _)
      | (with_reducible exact LeO.refl _)
      | (with_reducible exact LeO.none _)
      | (with_reducible refine LeO.ite ?_ ?_)
      | (with_reducible refine LeO.bind ?_ (fun _ => ?_))
      | exact ih0 _ _ _ _ _
      | exact LeO.none _
      | refine LeO.ite ?_ ?_
      | refine LeO.bind ?_ (fun _ => ?_)
theorem impl_zrange.mono : ∀ a0 a1 a2 a3 k, LeO (impl_zrange.f k a0 a1 a2 a3) (impl_zrange.f (k + 1) a0 a1 a2 a3) := by
  intro a0 a1 a2 a3 k
  have ih0 := impl_zrange.mono_l k
  unfold impl_zrange.f
  repeat' first
      | (with_reducible exact ih0 _ _ _ _ _)
      | (with_reducible exact LeO.refl _)
      | (with_reducible exact LeO.none _)
      | (with_reducible refine LeO.ite ?_ ?_)
      | (with_reducible refine LeO.bind ?_ (fun _ => ?_))
      | exact ih0 _ _ _ _ _
      | exact LeO.none _
      | refine LeO.ite ?_ ?_
      | refine LeO.bind ?_ (fun _ => ?_)
set_option maxHeartbeats 8000000 in
set_option maxRecDepth 100000 in
theorem impl_zrange.calls (k : Nat) (A0 : Option Addr) (c0 : Nat) (l0 : List Int) (a1 : Int) (a2 : Int) (a3 : Int) (r : Bool) (w : World) (hr0 : Kd.C (Kd.int .i64) w A0 l0.length l0) (hc0 : l0.length ≤ c0) (h : impl_zrange.f k l0 a1 a2 a3 = some r) :
    Calls Try.prog 107 #[.slice A0 l0.length c0, .int .i64 a1, .int .i64 a2, .int .i64 a3] w fun e w' => e = .returned (.bool r) ∧ Drawn0 w w' := by
  have HR0 := Aside0.mk hr0
  have HC0 := Aside0.mk hc0
  clear hr0 hc0
  have H : (if (l0.length : Int) > a3 then (some false) else (impl_zrange.l0 k a1 a2 l0 (l0.length : Int) 0)) = some r := h
  clear h
  by_cases c5 : (l0.length : Int) > a3
  · rw [if_pos c5] at H
    have c5b0 : decide (a3 < (l0.length : Int)) = true := decide_eq_true c5
    clear c5
    obtain rfl := Option.some.inj H
    go_enter Try.func107, Try.ntmps107
    go_wp2
    go_ret
    exact ⟨by first | rfl | (simp; done) | (simp [*]; done), by repeat (first | exact Drawn0.refl _ | apply Drawn0.step)⟩
  rw [if_neg c5] at H
  have c5b0 : decide (a3 < (l0.length : Int)) = false := decide_eq_false c5
  clear c5
  have H' := Aside0.mk H
  clear H
  go_enter Try.func107, Try.ntmps107
  go_wp2
  go_loopg [17] k (fun kq v17 w' => ∃ (x17_1 : Int), v17 = .int .i64 x17_1 ∧ Aside0 (impl_zrange.l0 kq a1 a2 l0 (l0.length : Int) x17_1 = some r) ∧ Aside0 (kq ≤ k) ∧ Drawn0 w w')
  case atStart => exact ⟨(0), (by first | rfl | (simp; done) | (simp [*]; done)), H', ⟨Nat.le_refl _⟩, by repeat (first | exact Drawn0.refl _ | apply Drawn0.step)⟩
  case round =>
    clear H'
    try clear c1
    try clear p2
    try clear c5
    try clear c5b0
    obtain ⟨x17_1, rfl, HA, HK1, ⟨m1, rfl⟩⟩ := hrel
    cases gk with
    | zero => exact absurd HA.out (by simp [impl_zrange.l0])
    | succ k1 =>
      have H := HA.out
      clear HA
      simp only [impl_zrange.l0] at H
      by_cases c6 : x17_1 < (l0.length : Int)
      rotate_left
      · rw [if_neg c6] at H
        have c6b0 : decide (x17_1 < (l0.length : Int)) = false := decide_eq_false c6
        clear c6
        obtain rfl := Option.some.inj H
        go_wp2
        go_ret
        exact ⟨by first | rfl | (simp; done) | (simp [*]; done), by repeat (first | exact Drawn0.refl _ | apply Drawn0.step)⟩
      rw [if_pos c6] at H
      have c6b0 : decide (x17_1 < (l0.length : Int)) = true := decide_eq_true c6
      clear c6
      by_cases c7 : 0 ≤ x17_1
      rotate_left
      · rw [if_neg c7] at H
        exact absurd H (by simp)
      rw [if_pos c7] at H
      have c7b0 : decide (0 ≤ x17_1) = true := decide_eq_true c7
      clear c7
      by_cases c8 : x17_1 < (l0.length : Int)
      rotate_left
      · rw [if_neg c8] at H
        exact absurd H (by simp)
      rw [if_pos c8] at H
      have c8b0 : decide (x17_1 < (l0.length : Int)) = true := decide_eq_true c8
      clear c8
      by_cases c9 : (rd l0 x17_1) < a1
      · rw [if_pos c9] at H
        have c9b0 : decide ((rd l0 x17_1) < a1) = true := decide_eq_true c9
        clear c9
        obtain rfl := Option.some.inj H
        have p158 : 0 ≤ (x17_1 : Int) := of_decide_eq_true (by first | (with_reducible assumption) | assumption)
        have q158 : x17_1 < (l0.length : Int) := of_decide_eq_true (by first | (with_reducible assumption) | assumption)
        obtain ⟨ad158, e158, hx158_0⟩ := Kd.at_int HR0.out x17_1 p158 q158
        cases e158
        replace p158 := eq_true p158
        replace q158 := eq_true q158
        go_wp2
        go_ret
        exact ⟨by first | rfl | (simp; done) | (simp [*]; done), by repeat (first | exact Drawn0.refl _ | apply Drawn0.step)⟩
      rw [if_neg c9] at H
      have c9b0 : decide ((rd l0 x17_1) < a1) = false := decide_eq_false c9
      clear c9
      by_cases c10 : (rd l0 x17_1) > a2
      · rw [if_pos c10] at H
        have c10b0 : decide (a2 < (rd l0 x17_1)) = true := decide_eq_true c10
        clear c10
        obtain rfl := Option.some.inj H
        have p158 : 0 ≤ (x17_1 : Int) := of_decide_eq_true (by first | (with_reducible assumption) | assumption)
        have q158 : x17_1 < (l0.length : Int) := of_decide_eq_true (by first | (with_reducible assumption) | assumption)
        obtain ⟨ad158, e158, hx158_0⟩ := Kd.at_int HR0.out x17_1 p158 q158
        cases e158
        replace p158 := eq_true p158
        replace q158 := eq_true q158
        go_wp2
        go_ret
        exact ⟨by first | rfl | (simp; done) | (simp [*]; done), by repeat (first | exact Drawn0.refl _ | apply Drawn0.step)⟩
      rw [if_neg c10] at H
      have c10b0 : decide (a2 < (rd l0 x17_1)) = false := decide_eq_false c10
      clear c10
      have H' := Aside0.mk H
      clear H
      have p158 : 0 ≤ (x17_1 : Int) := of_decide_eq_true (by first | (with_reducible assumption) | assumption)
      have q158 : x17_1 < (l0.length : Int) := of_decide_eq_true (by first | (with_reducible assumption) | assumption)
      obtain ⟨ad158, e158, hx158_0⟩ := Kd.at_int HR0.out x17_1 p158 q158
      cases e158
      replace p158 := eq_true p158
      replace q158 := eq_true q158
      go_wp2
      go_roundg k1
      case measure => have := HK1.out; omega
      case rel => exact ⟨(wrap64 (x17_1 + 1)), (by first | rfl | (simp; done) | (simp [*]; done)), H', ⟨by have := HK1.out; omega⟩, by repeat (first | exact Drawn0.refl _ | apply Drawn0.step)⟩

/-! ### impl_zlist: function 105 -/
def impl_zlist.f (k : Nat) (l0 : List Int) : Option (Bool) := (impl_zrange.f k l0 (-67108864) 67108863 4000).bind fun t159 => (some t159)
theorem impl_zlist.mono : ∀ a0 k, LeO (impl_zlist.f k a0) (impl_zlist.f (k + 1) a0) := by
  intro a0 k
  unfold impl_zlist.f
  repeat' first
      | (with_reducible exact impl_zrange.mono _ _ _ _ _)
      | (with_reducible exact LeO.refl _)
      | (with_reducible exact LeO.none _)
      | (with_reducible refine LeO.ite ?_ ?_)
      | (with_reducible refine LeO.bind ?_ (fun _ => ?_))
      | exact impl_zrange.mono _ _ _ _ _
      | exact LeO.none _
      | refine LeO.ite ?_ ?_
      | refine LeO.bind ?_ (fun _ => ?_)
set_option maxHeartbeats 8000000 in
set_option maxRecDepth 100000 in
theorem impl_zlist.calls (k : Nat) (A0 : Option Addr) (c0 : Nat) (l0 : List Int) (r : Bool) (w : World) (hr0 : Kd.C (Kd.int .i64) w A0 l0.length l0) (hc0 : l0.length ≤ c0) (h : impl_zlist.f k l0 = some r) :
    Calls Try.prog 105 #[.slice A0 l0.length c0] w fun e w' => e = .returned (.bool r) ∧ Drawn0 w w' := by
  have HR0 := Aside0.mk hr0
  have HC0 := Aside0.mk hc0
  clear hr0 hc0
  have H : ((impl_zrange.f k l0 (-67108864) 67108863 4000).bind fun t159 => (some t159)) = some r := h
  clear h
  replace H := Option.bind_eq_some_iff.mp H
  obtain ⟨t159, A20, H⟩ := H
  replace H : (some t159) = some r := H
  have A2 := Aside0.mk A20
  clear A20
  obtain rfl := Option.some.inj H
  go_enter Try.func105, Try.ntmps105
  go_wp2_with (first | ((with_reducible refine gate_callee (f := 107) rfl ?_); refine goesL_ (some 4) rfl rfl Try.func107 (by kernel_rfl) rfl #[.slice A0 l0.length c0, .int .i64 (-67108864), .int .i64 67108863, .int .i64 4000] rfl (by (try simp only [List.map_toArray, List.map_cons, List.map_nil]); first | done | rfl | (simp only [List.length_drop, List.length_take]; rfl)) ?_; (with_reducible refine (impl_zrange.calls k _ _ l0 (-67108864) 67108863 4000 t159 _ ?side1 ?side2 A2.out).mono ?_); (case side1 => repeat (first | exact HR0.out | (with_reducible refine Kd.C_alloc ?_ _) | (with_reducible refine Kd.C_drewN ?_ _) | (with_reducible refine Kd.C_drew ?_))); (case side2 => exact HC0.out); rintro e w' ⟨rfl, ⟨nd, rfl⟩⟩; refine ⟨_, rfl, ?_⟩))
  go_ret
  exact ⟨by first | rfl | (simp; done) | (simp [*]; done), by repeat (first | exact Drawn0.refl _ | apply Drawn0.step)⟩

end Go.Proofs.Ytglaedjadlappaa.PFnExactPlanCost

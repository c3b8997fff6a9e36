-- written by myprint.py (a program of this session's over the kit's print)
import Derived.Test.YtidblealnaicpaaPFnPlanx0
namespace Go.Proofs.Ytidblealnaicpaa.PFnPlan
open Go.RowKit Go.Proofs.YtidblealnaicpaaW.PrintWords Go.Proofs.YtidblealnaicpaaW.PrintLast Go.Proofs.YtidblealnaicpaaW.PrintMore
attribute [local go_sem] max2_int min2_int max_two min_two max_three min_three max_four min_four   -- for this text's walks alone
set_option linter.unusedVariables false
set_option linter.unusedSimpArgs false

/-! ### impl_zrange: function 156 -/
def impl_zrange.l0 : Nat → Int → Int → List Int → Int → Int → Option (Bool)
  | 0, _, _, _, _, _ => none
  | k + 1, x1, x2, x15, x16, x17 => if x17 < x16 then (if 0 ≤ x17 then (if x17 < (x15.length : Int) then (if (rd x15 x17) < x1 then (some false) else (if (rd x15 x17) > x2 then (some false) else (impl_zrange.l0 k x1 x2 x15 x16 (wrap64 (x17 + 1))))) else (none)) else (none)) else (some true)
def impl_zrange.f (k : Nat) (l0 : List Int) (a1 : Int) (a2 : Int) (a3 : Int) : Option (Bool) := if (l0.length : Int) > a3 then (some false) else (impl_zrange.l0 k a1 a2 l0 (l0.length : Int) 0)
theorem impl_zrange.mono_l : ∀ k, (∀ y0 y1 y2 y3 y4, LeO (impl_zrange.l0 k y0 y1 y2 y3 y4) (impl_zrange.l0 (k + 1) y0 y1 y2 y3 y4))
  | 0 => fun _ _ _ _ _ r h => by simp [impl_zrange.l0] at h
  | k + 1 => by
    have ih0 := impl_zrange.mono_l k
    · intro y0 y1 y2 y3 y4
      unfold impl_zrange.l0
      repeat' first
      | (with_reducible exact ih0 _ _ _ _ _)
      | (with_reducible exact LeO.refl _)
      | (with_reducible exact LeO.none _)
      | (with_reducible refine LeO.ite ?_ ?_)
      | (with_reducible refine LeO.bind ?_ (fun _ => ?_))
      | exact ih0 _ _ _ _ _
      | exact LeO.none _
      | refine LeO.ite ?_ ?_
      | refine LeO.bind ?_ (fun _ => ?_)
theorem impl_zrange.mono : ∀ a0 a1 a2 a3 k, LeO (impl_zrange.f k a0 a1 a2 a3) (impl_zrange.f (k + 1) a0 a1 a2 a3) := by
  intro a0 a1 a2 a3 k
  have ih0 := impl_zrange.mono_l k
  unfold impl_zrange.f
  repeat' first
      | (with_reducible exact ih0 _ _ _ _ _)
      | (with_reducible exact LeO.refl _)
      | (with_reducible exact LeO.none _)
      | (with_reducible refine LeO.ite ?_ ?_)
      | (with_reducible refine LeO.bind ?_ (fun _ => ?_))
      | exact ih0 _ _ _ _ _
      | exact LeO.none _
      | refine LeO.ite ?_ ?_
      | refine LeO.bind ?_ (fun _ => ?_)
set_option maxHeartbeats 8000000 in
set_option maxRecDepth 100000 in
theorem impl_zrange.calls (k : Nat) (A0 : Option Addr) (c0 : Nat) (l0 : List Int) (a1 : Int) (a2 : Int) (a3 : Int) (r : Bool) (w : World) (hr0 : Kd.C (Kd.int .i64) w A0 l0.length l0) (hc0 : l0.length ≤ c0) (h : impl_zrange.f k l0 a1 a2 a3 = some r) :
    Calls Try.prog 156 #[.slice A0 l0.length c0, .int .i64 a1, .int .i64 a2, .int .i64 a3] w fun e w' => e = .returned (.bool r) ∧ Drawn0 w w' := by
  have HR0 := Aside0.mk hr0
  have HC0 := Aside0.mk hc0
  clear hr0 hc0
  have H : (if (l0.length : Int) > a3 then (some false) else (impl_zrange.l0 k a1 a2 l0 (l0.length : Int) 0)) = some r := h
  clear h
  by_cases c5 : (l0.length : Int) > a3
  · rw [if_pos c5] at H
    have c5b0 : decide (a3 < (l0.length : Int)) = true := decide_eq_true c5
    clear c5
    obtain rfl := Option.some.inj H
    go_enter Try.func156, Try.ntmps156
    go_wp2
    go_ret
    exact ⟨by first | rfl | (simp; done) | (simp [*]; done), by repeat (first | exact Drawn0.refl _ | apply Drawn0.step)⟩
  rw [if_neg c5] at H
  have c5b0 : decide (a3 < (l0.length : Int)) = false := decide_eq_false c5
  clear c5
  have H' := Aside0.mk H
  clear H
  go_enter Try.func156, Try.ntmps156
  go_wp2
  go_loopg [17] k (fun kq v17 w' => ∃ (x17_1 : Int), v17 = .int .i64 x17_1 ∧ Aside0 (impl_zrange.l0 kq a1 a2 l0 (l0.length : Int) x17_1 = some r) ∧ Aside0 (kq ≤ k) ∧ Drawn0 w w')
  case atStart => exact ⟨(0), (by first | rfl | (simp; done) | (simp [*]; done)), H', ⟨Nat.le_refl _⟩, by repeat (first | exact Drawn0.refl _ | apply Drawn0.step)⟩
  case round =>
    clear H'
    try clear c1
    try clear p2
    try clear c5
    try clear c5b0
    obtain ⟨x17_1, rfl, HA, HK1, ⟨m1, rfl⟩⟩ := hrel
    cases gk with
    | zero => exact absurd HA.out (by simp [impl_zrange.l0])
    | succ k1 =>
      have H := HA.out
      clear HA
      simp only [impl_zrange.l0] at H
      by_cases c6 : x17_1 < (l0.length : Int)
      rotate_left
      · rw [if_neg c6] at H
        have c6b0 : decide (x17_1 < (l0.length : Int)) = false := decide_eq_false c6
        clear c6
        obtain rfl := Option.some.inj H
        go_wp2
        go_ret
        exact ⟨by first | rfl | (simp; done) | (simp [*]; done), by repeat (first | exact Drawn0.refl _ | apply Drawn0.step)⟩
      rw [if_pos c6] at H
      have c6b0 : decide (x17_1 < (l0.length : Int)) = true := decide_eq_true c6
      clear c6
      by_cases c7 : 0 ≤ x17_1
      rotate_left
      · rw [if_neg c7] at H
        exact absurd H (by simp)
      rw [if_pos c7] at H
      have c7b0 : decide (0 ≤ x17_1) = true := decide_eq_true c7
      clear c7
      by_cases c8 : x17_1 < (l0.length : Int)
      rotate_left
      · rw [if_neg c8] at H
        exact absurd H (by simp)
      rw [if_pos c8] at H
      have c8b0 : decide (x17_1 < (l0.length : Int)) = true := decide_eq_true c8
      clear c8
      by_cases c9 : (rd l0 x17_1) < a1
      · rw [if_pos c9] at H
        have c9b0 : decide ((rd l0 x17_1) < a1) = true := decide_eq_true c9
        clear c9
        obtain rfl := Option.some.inj H
        have p156 : 0 ≤ (x17_1 : Int) := of_decide_eq_true (by first | (with_reducible assumption) | assumption)
        have q156 : x17_1 < (l0.length : Int) := of_decide_eq_true (by first | (with_reducible assumption) | assumption)
        obtain ⟨ad156, e156, hx156_0⟩ := Kd.at_int HR0.out x17_1 p156 q156
        cases e156
        replace p156 := eq_true p156
        replace q156 := eq_true q156
        go_wp2
        go_ret
        exact ⟨by first | rfl | (simp; done) | (simp [*]; done), by repeat (first | exact Drawn0.refl _ | apply Drawn0.step)⟩
      rw [if_neg c9] at H
      have c9b0 : decide ((rd l0 x17_1) < a1) = false := decide_eq_false c9
      clear c9
      by_cases c10 : (rd l0 x17_1) > a2
      · rw [if_pos c10] at H
        have c10b0 : decide (a2 < (rd l0 x17_1)) = true := decide_eq_true c10
        clear c10
        obtain rfl := Option.some.inj H
        have p156 : 0 ≤ (x17_1 : Int) := of_decide_eq_true (by first | (with_reducible assumption) | assumption)
        have q156 : x17_1 < (l0.length : Int) := of_decide_eq_true (by first | (with_reducible assumption) | assumption)
        obtain ⟨ad156, e156, hx156_0⟩ := Kd.at_int HR0.out x17_1 p156 q156
        cases e156
        replace p156 := eq_true p156
        replace q156 := eq_true q156
        go_wp2
        go_ret
        exact ⟨by first | rfl | (simp; done) | (simp [*]; done), by repeat (first | exact Drawn0.refl _ | apply Drawn0.step)⟩
      rw [if_neg c10] at H
      have c10b0 : decide (a2 < (rd l0 x17_1)) = false := decide_eq_false c10
      clear c10
      have H' := Aside0.mk H
      clear H
      have p156 : 0 ≤ (x17_1 : Int) := of_decide_eq_true (by first | (with_reducible assumption) | assumption)
      have q156 : x17_1 < (l0.length : Int) := of_decide_eq_true (by first | (with_reducible assumption) | assumption)
      obtain ⟨ad156, e156, hx156_0⟩ := Kd.at_int HR0.out x17_1 p156 q156
      cases e156
      replace p156 := eq_true p156
      replace q156 := eq_true q156
      go_wp2
      go_roundg k1
      case measure => have := HK1.out; omega
      case rel => exact ⟨(wrap64 (x17_1 + 1)), (by first | rfl | (simp; done) | (simp [*]; done)), H', ⟨by have := HK1.out; omega⟩, by repeat (first | exact Drawn0.refl _ | apply Drawn0.step)⟩

/-! ### impl_zlist: function 78 -/
def impl_zlist.f (k : Nat) (l0 : List Int) : Option (Bool) := (impl_zrange.f k l0 (-67108864) 67108863 4000).bind fun t157 => (some t157)
theorem impl_zlist.mono : ∀ a0 k, LeO (impl_zlist.f k a0) (impl_zlist.f (k + 1) a0) := by
  intro a0 k
  unfold impl_zlist.f
  repeat' first
      | (with_reducible exact impl_zrange.mono _ _ _ _ _)
      | (with_reducible exact LeO.refl _)
      | (with_reducible exact LeO.none _)
      | (with_reducible refine LeO.ite ?_ ?_)
      | (with_reducible refine LeO.bind ?_ (fun _ => ?_))
      | exact impl_zrange.mono _ _ _ _ _
      | exact LeO.none _
      | refine LeO.ite ?_ ?_
      | refine LeO.bind ?_ (fun _ => ?_)
set_option maxHeartbeats 8000000 in
set_option maxRecDepth 100000 in
theorem impl_zlist.calls (k : Nat) (A0 : Option Addr) (c0 : Nat) (l0 : List Int) (r : Bool) (w : World) (hr0 : Kd.C (Kd.int .i64) w A0 l0.length l0) (hc0 : l0.length ≤ c0) (h : impl_zlist.f k l0 = some r) :
    Calls Try.prog 78 #[.slice A0 l0.length c0] w fun e w' => e = .returned (.bool r) ∧ Drawn0 w w' := by
  have HR0 := Aside0.mk hr0
  have HC0 := Aside0.mk hc0
  clear hr0 hc0
  have H : ((impl_zrange.f k l0 (-67108864) 67108863 4000).bind fun t157 => (some t157)) = some r := h
  clear h
  replace H := Option.bind_eq_some_iff.mp H
  obtain ⟨t157, A20, H⟩ := H
  replace H : (some t157) = some r := H
  have A2 := Aside0.mk A20
  clear A20
  obtain rfl := Option.some.inj H
  go_enter Try.func78, Try.ntmps78
  go_wp2_with (first | ((with_reducible refine gate_callee (f := 156) rfl ?_); refine goesL_ (some 4) rfl rfl Try.func156 (by kernel_rfl) rfl #[.slice A0 l0.length c0, .int .i64 (-67108864), .int .i64 67108863, .int .i64 4000] rfl (by (try simp only [List.map_toArray, List.map_cons, List.map_nil]); first | done | rfl | (simp only [List.length_drop, List.length_take]; rfl)) ?_; (with_reducible refine (impl_zrange.calls k _ _ l0 (-67108864) 67108863 4000 t157 _ ?side1 ?side2 A2.out).mono ?_); (case side1 => repeat (first | exact HR0.out | (with_reducible refine Kd.C_alloc ?_ _) | (with_reducible refine Kd.C_drewN ?_ _) | (with_reducible refine Kd.C_drew ?_))); (case side2 => exact HC0.out); rintro e w' ⟨rfl, ⟨nd, rfl⟩⟩; refine ⟨_, rfl, ?_⟩))
  go_ret
  exact ⟨by first | rfl | (simp; done) | (simp [*]; done), by repeat (first | exact Drawn0.refl _ | apply Drawn0.step)⟩

/-! ### impl_zcopy: function 161 -/
def impl_zcopy.f (l0 : List Int) : Option (List Int) := (some (([] : List Int) : List Int)).bind fun y158 => (if y158.length + l0.length < 17592186044416 then (some (y158 ++ l0)) else (none))
set_option maxHeartbeats 8000000 in
set_option maxRecDepth 100000 in
theorem impl_zcopy.calls (A0 : Option Addr) (c0 : Nat) (l0 : List Int) (r : List Int) (w : World) (hr0 : Kd.C (Kd.int .i64) w A0 l0.length l0) (hc0 : l0.length ≤ c0) (h : impl_zcopy.f l0 = some r) :
    Calls Try.prog 161 #[.slice A0 l0.length c0] w fun e w' => ∃ v0_ : Value, e = .returned (v0_) ∧ Kd.R (Kd.int .i64) 3 w' w.heap.size (fun _ => True) v0_ r ∧ Below w.heap.size w w' := by
  have HR0 := Aside0.mk hr0
  have HC0 := Aside0.mk hc0
  clear hr0 hc0
  have HB := Aside0.mk (Below.refl w.heap.size w)
  have H : ((some (([] : List Int) : List Int)).bind fun y158 => (if y158.length + l0.length < 17592186044416 then (some (y158 ++ l0)) else (none))) = some r := h
  clear h
  obtain ⟨y158, hy158⟩ : ∃ y_ : List Int, y_ = (([] : List Int)) := ⟨_, rfl⟩
  replace H : (if y158.length + l0.length < 17592186044416 then (some (y158 ++ l0)) else (none)) = some r := by first | (rw [hy158]; with_reducible exact H) | (have H2_ := (Option.bind_some _ _).symm.trans H; rw [hy158]; with_reducible exact H2_) | (have H2_ := (Option.bind_some _ _).symm.trans H; with_reducible exact H2_) | with_reducible exact H | (rw [hy158]; exact H) | exact H
  have Ny158 := Aside0.mk hy158
  clear hy158
  by_cases c2 : y158.length + l0.length < 17592186044416
  rotate_left
  · rw [if_neg c2] at H
    exact absurd H (by simp)
  rw [if_pos c2] at H
  have LMc2 := Aside0.mk c2
  clear c2
  obtain ⟨y161, hy161⟩ : ∃ y_ : List Int, y_ = (y158 ++ l0) := ⟨_, rfl⟩
  replace H : (some y161) = some r := by first | (rw [hy161]; with_reducible exact H) | (have H2_ := (Option.bind_some _ _).symm.trans H; rw [hy161]; with_reducible exact H2_) | (have H2_ := (Option.bind_some _ _).symm.trans H; with_reducible exact H2_) | with_reducible exact H | (rw [hy161]; exact H) | exact H
  have Ny161 := Aside0.mk hy161
  clear hy161
  obtain rfl := Option.some.inj H
  go_enter Try.func161, Try.ntmps161
  go_wp2_with (first | ((with_reducible refine gate_dst (N := 3) rfl ?_); refine Kd.R_lit (Kd.int .i64) _ 3 ?hg (N := 3) ?hd (xs := ([] : List Int)) (inner := []) (ok := fun _ => True) (okp := fun _ => True) ?hr ?hp (fun _ hk => hk) trivial (Below.refl _ _) (Nat.le_refl _) (by simp) ?_; (case hd => rfl); (case hg => rfl); (case hr => first | (go_simp; done) | (go_simp; rfl)); (case hp => exact (Reps.none _ _)); intro v159 w3 ho4 hb hg_ hnew_; clear hg_ hnew_; (first | rw [← Ny158.out] at ho4 | (simp only [Int.reduceToNat] at ho4; rw [← Ny158.out] at ho4)); have n0_ := Aside0.mk (Kd.R_lower ho4 (below_size (by repeat (first | (with_reducible first | exact HB.out | apply below_alloc | apply pw_below_drewN | apply below_drew1) | exact HB.out)))); have n1_ := Aside0.mk (below_step (by repeat (first | (with_reducible first | exact HB.out | apply below_alloc | apply pw_below_drewN | apply below_drew1) | exact HB.out)) hb); clear HB; have HO160 := n0_; have HB := n1_; clear n0_ n1_; clear hb ho4) | ((with_reducible refine gate_builtin (b := .append) (xs := #[.tmp 3, .tmp 4]) rfl ?_); at_builtin; refine Kd.R_append_rows (Kd.int .i64) (w0 := w) w.heap.size rfl (.tmp 3) (.tmp 4) 22 3 (.int .i64 0) 8 rfl Try.underlying22 info3 rfl (by decide) (by omega) v159 y158 l0 _ _ _ (fun _ => True) (fun _ => False) rfl rfl ?aO ?aR (fun _ _ h => h) (fun _ h => h.elim) ?aF ?aB ?aS ?aL ?_; (case aR => repeat (first | exact (Kd.C_below HR0.out HB.out) | (with_reducible refine Kd.C_alloc ?_ _) | (with_reducible refine Kd.C_drewN ?_ _) | (with_reducible refine Kd.C_drew ?_))); (case aB => exact (by repeat (first | (with_reducible first | exact HB.out | apply below_alloc | apply pw_below_drewN | apply below_drew1) | exact HB.out))); (case aF => exact (fun _ _ => trivial)); (case aO => exact (by (with_reducible repeat (first | apply Kd.R_alloc | apply Kd.R_drewN | apply Kd.R_drew)); exact HO160.out)); (case aS => exact (below_size (by repeat (first | (with_reducible first | exact HB.out | apply below_alloc | apply pw_below_drewN | apply below_drew1) | exact HB.out)))); (case aL => have := LMc2.out; omega); intro v162 w5 ho hb hg hat; rw [← Ny161.out] at ho; have n0_ := Aside0.mk (hb); have n1_ := Aside0.mk (ho); clear HB; clear HO160; have HB := n0_; have HO163 := n1_; clear n0_ n1_; clear ho hb hg hat))
  go_ret
  exact ⟨_, by first | rfl | (simp [errW_none, errW_some] <;> rfl) | (simp [*, errW_none, errW_some] <;> rfl), by (with_reducible repeat (first | apply Kd.R_alloc | apply Kd.R_drewN | apply Kd.R_drew)); exact HO163.out, by repeat (first | (with_reducible first | exact HB.out | apply below_alloc | apply pw_below_drewN | apply below_drew1) | exact HB.out)⟩

/-! ### impl_zguess: function 162 -/
def impl_zguess.f (a0 : Int) (l1 : List Int) (a2 : Int) : Option (Int) := if a0 = 1 then (if 0 ≤ (wrap64 (a2 - 1)) then (if (wrap64 (a2 - 1)) < (l1.length : Int) then (some (rd l1 (wrap64 (a2 - 1)))) else (none)) else (none)) else (if a0 = 2 then (if 0 ≤ (wrap64 (a2 - 1)) then (if (wrap64 (a2 - 1)) < (l1.length : Int) then (if 0 ≤ (wrap64 (a2 - 2)) then (if (wrap64 (a2 - 2)) < (l1.length : Int) then (some (wrap64 ((wrap64 (2 * (rd l1 (wrap64 (a2 - 1))))) - (rd l1 (wrap64 (a2 - 2)))))) else (none)) else (none)) else (none)) else (none)) else (if a0 = 3 then (if 0 ≤ (wrap64 (a2 - 1)) then (if (wrap64 (a2 - 1)) < (l1.length : Int) then (if 0 ≤ (wrap64 (a2 - 2)) then (if (wrap64 (a2 - 2)) < (l1.length : Int) then (if 0 ≤ (wrap64 (a2 - 3)) then (if (wrap64 (a2 - 3)) < (l1.length : Int) then (some (wrap64 ((wrap64 ((wrap64 (3 * (rd l1 (wrap64 (a2 - 1))))) - (wrap64 (3 * (rd l1 (wrap64 (a2 - 2))))))) + (rd l1 (wrap64 (a2 - 3)))))) else (none)) else (none)) else (none)) else (none)) else (none)) else (none)) else (if a0 = 4 then (if 0 ≤ (wrap64 (a2 - 1)) then (if (wrap64 (a2 - 1)) < (l1.length : Int) then (if 0 ≤ (wrap64 (a2 - 2)) then (if (wrap64 (a2 - 2)) < (l1.length : Int) then (if 0 ≤ (wrap64 (a2 - 3)) then (if (wrap64 (a2 - 3)) < (l1.length : Int) then (if 0 ≤ (wrap64 (a2 - 4)) then (if (wrap64 (a2 - 4)) < (l1.length : Int) then (some (wrap64 ((wrap64 ((wrap64 ((wrap64 (4 * (rd l1 (wrap64 (a2 - 1))))) - (wrap64 (6 * (rd l1 (wrap64 (a2 - 2))))))) + (wrap64 (4 * (rd l1 (wrap64 (a2 - 3))))))) - (rd l1 (wrap64 (a2 - 4)))))) else (none)) else (none)) else (none)) else (none)) else (none)) else (none)) else (none)) else (none)) else (some 0))))
set_option maxHeartbeats 8000000 in
set_option maxRecDepth 100000 in
theorem impl_zguess.calls (a0 : Int) (A1 : Option Addr) (c1 : Nat) (l1 : List Int) (a2 : Int) (r : Int) (w : World) (hr1 : Kd.C (Kd.int .i64) w A1 l1.length l1) (hc1 : l1.length ≤ c1) (h : impl_zguess.f a0 l1 a2 = some r) :
    Calls Try.prog 162 #[.int .i64 a0, .slice A1 l1.length c1, .int .i64 a2] w fun e w' => e = .returned (.int .i64 r) ∧ Drawn0 w w' := by
  have HR1 := Aside0.mk hr1
  have HC1 := Aside0.mk hc1
  clear hr1 hc1
  have H : (if a0 = 1 then (if 0 ≤ (wrap64 (a2 - 1)) then (if (wrap64 (a2 - 1)) < (l1.length : Int) then (some (rd l1 (wrap64 (a2 - 1)))) else (none)) else (none)) else (if a0 = 2 then (if 0 ≤ (wrap64 (a2 - 1)) then (if (wrap64 (a2 - 1)) < (l1.length : Int) then (if 0 ≤ (wrap64 (a2 - 2)) then (if (wrap64 (a2 - 2)) < (l1.length : Int) then (some (wrap64 ((wrap64 (2 * (rd l1 (wrap64 (a2 - 1))))) - (rd l1 (wrap64 (a2 - 2)))))) else (none)) else (none)) else (none)) else (none)) else (if a0 = 3 then (if 0 ≤ (wrap64 (a2 - 1)) then (if (wrap64 (a2 - 1)) < (l1.length : Int) then (if 0 ≤ (wrap64 (a2 - 2)) then (if (wrap64 (a2 - 2)) < (l1.length : Int) then (if 0 ≤ (wrap64 (a2 - 3)) then (if (wrap64 (a2 - 3)) < (l1.length : Int) then (some (wrap64 ((wrap64 ((wrap64 (3 * (rd l1 (wrap64 (a2 - 1))))) - (wrap64 (3 * (rd l1 (wrap64 (a2 - 2))))))) + (rd l1 (wrap64 (a2 - 3)))))) else (none)) else (none)) else (none)) else (none)) else (none)) else (none)) else (if a0 = 4 then (if 0 ≤ (wrap64 (a2 - 1)) then (if (wrap64 (a2 - 1)) < (l1.length : Int) then (if 0 ≤ (wrap64 (a2 - 2)) then (if (wrap64 (a2 - 2)) < (l1.length : Int) then (if 0 ≤ (wrap64 (a2 - 3)) then (if (wrap64 (a2 - 3)) < (l1.length : Int) then (if 0 ≤ (wrap64 (a2 - 4)) then (if (wrap64 (a2 - 4)) < (l1.length : Int) then (some (wrap64 ((wrap64 ((wrap64 ((wrap64 (4 * (rd l1 (wrap64 (a2 - 1))))) - (wrap64 (6 * (rd l1 (wrap64 (a2 - 2))))))) + (wrap64 (4 * (rd l1 (wrap64 (a2 - 3))))))) - (rd l1 (wrap64 (a2 - 4)))))) else (none)) else (none)) else (none)) else (none)) else (none)) else (none)) else (none)) else (none)) else (some 0))))) = some r := h
  clear h
  by_cases c4 : a0 = 1
  · rw [if_pos c4] at H
    have c4b0 : (a0 == 1) = true := beq_iff_eq.mpr c4
    have c4b1 : (a0 != 1) = false := bne_eq_false_iff_eq.mpr c4
    clear c4
    obtain ⟨ji5, hji5⟩ : ∃ j_ : Int, (wrap64 (a2 - 1)) = j_ := ⟨_, rfl⟩
    replace H : (if 0 ≤ (ji5) then (if (ji5) < (l1.length : Int) then (some (rd l1 (ji5))) else (none)) else (none)) = some r := by first | (rw [hji5] at H; exact H) | (simp only [hji5] at H ⊢; exact H)
    have hji5w : (IntKind.i64.wrap (a2 - 1)) = ji5 := (i64_w _).trans hji5
    by_cases c6 : 0 ≤ (ji5)
    rotate_left
    · rw [if_neg c6] at H
      exact absurd H (by simp)
    rw [if_pos c6] at H
    have c6b0 : decide (0 ≤ (ji5)) = true := decide_eq_true c6
    clear c6
    by_cases c7 : (ji5) < (l1.length : Int)
    rotate_left
    · rw [if_neg c7] at H
      exact absurd H (by simp)
    rw [if_pos c7] at H
    have c7b0 : decide ((ji5) < (l1.length : Int)) = true := decide_eq_true c7
    clear c7
    obtain rfl := Option.some.inj H
    have p164 : 0 ≤ ((ji5) : Int) := of_decide_eq_true (by first | (with_reducible assumption) | assumption)
    have q164 : (ji5) < (l1.length : Int) := of_decide_eq_true (by first | (with_reducible assumption) | assumption)
    obtain ⟨ad164, e164, hx164_0⟩ := Kd.at_int HR1.out (ji5) p164 q164
    cases e164
    replace p164 := eq_true p164
    replace q164 := eq_true q164
    go_enter Try.func162, Try.ntmps162
    go_wp2
    repeat (go_quiet (fail); try go_wp2)
    go_ret
    exact ⟨by first | rfl | (simp; done) | (simp only [← hji5] <;> (first | rfl | simp)) | (simp [*]; done), by repeat (first | exact Drawn0.refl _ | apply Drawn0.step)⟩
  rw [if_neg c4] at H
  have c4b0 : (a0 == 1) = false := beq_eq_false_iff_ne.mpr c4
  have c4b1 : (a0 != 1) = true := bne_iff_ne.mpr c4
  by_cases c8 : a0 = 2
  · rw [if_pos c8] at H
    have c8b0 : (a0 == 2) = true := beq_iff_eq.mpr c8
    have c8b1 : (a0 != 2) = false := bne_eq_false_iff_eq.mpr c8
    clear c8
    obtain ⟨ji9, hji9⟩ : ∃ j_ : Int, (wrap64 (a2 - 1)) = j_ := ⟨_, rfl⟩
    replace H : (if 0 ≤ (ji9) then (if (ji9) < (l1.length : Int) then (if 0 ≤ (wrap64 (a2 - 2)) then (if (wrap64 (a2 - 2)) < (l1.length : Int) then (some (wrap64 ((wrap64 (2 * (rd l1 (ji9)))) - (rd l1 (wrap64 (a2 - 2)))))) else (none)) else (none)) else (none)) else (none)) = some r := by first | (rw [hji9] at H; exact H) | (simp only [hji9] at H ⊢; exact H)
    have hji9w : (IntKind.i64.wrap (a2 - 1)) = ji9 := (i64_w _).trans hji9
    by_cases c10 : 0 ≤ (ji9)
    rotate_left
    · rw [if_neg c10] at H
      exact absurd H (by simp)
    rw [if_pos c10] at H
    have c10b0 : decide (0 ≤ (ji9)) = true := decide_eq_true c10
    clear c10
    by_cases c11 : (ji9) < (l1.length : Int)
    rotate_left
    · rw [if_neg c11] at H
      exact absurd H (by simp)
    rw [if_pos c11] at H
    have c11b0 : decide ((ji9) < (l1.length : Int)) = true := decide_eq_true c11
    clear c11
    obtain ⟨ji12, hji12⟩ : ∃ j_ : Int, (wrap64 (a2 - 2)) = j_ := ⟨_, rfl⟩
    replace H : (if 0 ≤ (ji12) then (if (ji12) < (l1.length : Int) then (some (wrap64 ((wrap64 (2 * (rd l1 (ji9)))) - (rd l1 (ji12))))) else (none)) else (none)) = some r := by first | (rw [hji12] at H; exact H) | (simp only [hji12] at H ⊢; exact H)
    have hji12w : (IntKind.i64.wrap (a2 - 2)) = ji12 := (i64_w _).trans hji12
    by_cases c13 : 0 ≤ (ji12)
    rotate_left
    · rw [if_neg c13] at H
      exact absurd H (by simp)
    rw [if_pos c13] at H
    have c13b0 : decide (0 ≤ (ji12)) = true := decide_eq_true c13
    clear c13
    by_cases c14 : (ji12) < (l1.length : Int)
    rotate_left
    · rw [if_neg c14] at H
      exact absurd H (by simp)
    rw [if_pos c14] at H
    have c14b0 : decide ((ji12) < (l1.length : Int)) = true := decide_eq_true c14
    clear c14
    obtain rfl := Option.some.inj H
    have p165 : 0 ≤ ((ji9) : Int) := of_decide_eq_true (by first | (with_reducible assumption) | assumption)
    have q165 : (ji9) < (l1.length : Int) := of_decide_eq_true (by first | (with_reducible assumption) | assumption)
    obtain ⟨ad165, e165, hx165_0⟩ := Kd.at_int HR1.out (ji9) p165 q165
    cases e165
    replace p165 := eq_true p165
    replace q165 := eq_true q165
    have p166 : 0 ≤ ((ji12) : Int) := of_decide_eq_true (by first | (with_reducible assumption) | assumption)
    have q166 : (ji12) < (l1.length : Int) := of_decide_eq_true (by first | (with_reducible assumption) | assumption)
    obtain ⟨ad166, e166, hx166_0⟩ := Kd.at_int HR1.out (ji12) p166 q166
    obtain rfl : ad165 = ad166 := (by injection e166)
    replace p166 := eq_true p166
    replace q166 := eq_true q166
    go_enter Try.func162, Try.ntmps162
    go_wp2
    repeat (go_quiet (fail); try go_wp2)
    go_ret
    exact ⟨by first | rfl | (simp; done) | (simp only [← hji9, ← hji12] <;> (first | rfl | simp)) | (simp [*]; done), by repeat (first | exact Drawn0.refl _ | apply Drawn0.step)⟩
  rw [if_neg c8] at H
  have c8b0 : (a0 == 2) = false := beq_eq_false_iff_ne.mpr c8
  have c8b1 : (a0 != 2) = true := bne_iff_ne.mpr c8
  by_cases c15 : a0 = 3
  · rw [if_pos c15] at H
    have c15b0 : (a0 == 3) = true := beq_iff_eq.mpr c15
    have c15b1 : (a0 != 3) = false := bne_eq_false_iff_eq.mpr c15
    clear c15
    obtain ⟨ji16, hji16⟩ : ∃ j_ : Int, (wrap64 (a2 - 1)) = j_ := ⟨_, rfl⟩
    replace H : (if 0 ≤ (ji16) then (if (ji16) < (l1.length : Int) then (if 0 ≤ (wrap64 (a2 - 2)) then (if (wrap64 (a2 - 2)) < (l1.length : Int) then (if 0 ≤ (wrap64 (a2 - 3)) then (if (wrap64 (a2 - 3)) < (l1.length : Int) then (some (wrap64 ((wrap64 ((wrap64 (3 * (rd l1 (ji16)))) - (wrap64 (3 * (rd l1 (wrap64 (a2 - 2))))))) + (rd l1 (wrap64 (a2 - 3)))))) else (none)) else (none)) else (none)) else (none)) else (none)) else (none)) = some r := by first | (rw [hji16] at H; exact H) | (simp only [hji16] at H ⊢; exact H)
    have hji16w : (IntKind.i64.wrap (a2 - 1)) = ji16 := (i64_w _).trans hji16
    by_cases c17 : 0 ≤ (ji16)
    rotate_left
    · rw [if_neg c17] at H
      exact absurd H (by simp)
    rw [if_pos c17] at H
    have c17b0 : decide (0 ≤ (ji16)) = true := decide_eq_true c17
    clear c17
    by_cases c18 : (ji16) < (l1.length : Int)
    rotate_left
    · rw [if_neg c18] at H
      exact absurd H (by simp)
    rw [if_pos c18] at H
    have c18b0 : decide ((ji16) < (l1.length : Int)) = true := decide_eq_true c18
    clear c18
    obtain ⟨ji19, hji19⟩ : ∃ j_ : Int, (wrap64 (a2 - 2)) = j_ := ⟨_, rfl⟩
    replace H : (if 0 ≤ (ji19) then (if (ji19) < (l1.length : Int) then (if 0 ≤ (wrap64 (a2 - 3)) then (if (wrap64 (a2 - 3)) < (l1.length : Int) then (some (wrap64 ((wrap64 ((wrap64 (3 * (rd l1 (ji16)))) - (wrap64 (3 * (rd l1 (ji19)))))) + (rd l1 (wrap64 (a2 - 3)))))) else (none)) else (none)) else (none)) else (none)) = some r := by first | (rw [hji19] at H; exact H) | (simp only [hji19] at H ⊢; exact H)
    have hji19w : (IntKind.i64.wrap (a2 - 2)) = ji19 := (i64_w _).trans hji19
    by_cases c20 : 0 ≤ (ji19)
    rotate_left
    · rw [if_neg c20] at H
      exact absurd H (by simp)
    rw [if_pos c20] at H
    have c20b0 : decide (0 ≤ (ji19)) = true := decide_eq_true c20
    clear c20
    by_cases c21 : (ji19) < (l1.length : Int)
    rotate_left
    · rw [if_neg c21] at H
      exact absurd H (by simp)
    rw [if_pos c21] at H
    have c21b0 : decide ((ji19) < (l1.length : Int)) = true := decide_eq_true c21
    clear c21
    obtain ⟨ji22, hji22⟩ : ∃ j_ : Int, (wrap64 (a2 - 3)) = j_ := ⟨_, rfl⟩
    replace H : (if 0 ≤ (ji22) then (if (ji22) < (l1.length : Int) then (some (wrap64 ((wrap64 ((wrap64 (3 * (rd l1 (ji16)))) - (wrap64 (3 * (rd l1 (ji19)))))) + (rd l1 (ji22))))) else (none)) else (none)) = some r := by first | (rw [hji22] at H; exact H) | (simp only [hji22] at H ⊢; exact H)
    have hji22w : (IntKind.i64.wrap (a2 - 3)) = ji22 := (i64_w _).trans hji22
    by_cases c23 : 0 ≤ (ji22)
    rotate_left
    · rw [if_neg c23] at H
      exact absurd H (by simp)
    rw [if_pos c23] at H
    have c23b0 : decide (0 ≤ (ji22)) = true := decide_eq_true c23
    clear c23
    by_cases c24 : (ji22) < (l1.length : Int)
    rotate_left
    · rw [if_neg c24] at H
      exact absurd H (by simp)
    rw [if_pos c24] at H
    have c24b0 : decide ((ji22) < (l1.length : Int)) = true := decide_eq_true c24
    clear c24
    obtain rfl := Option.some.inj H
    have p167 : 0 ≤ ((ji16) : Int) := of_decide_eq_true (by first | (with_reducible assumption) | assumption)
    have q167 : (ji16) < (l1.length : Int) := of_decide_eq_true (by first | (with_reducible assumption) | assumption)
    obtain ⟨ad167, e167, hx167_0⟩ := Kd.at_int HR1.out (ji16) p167 q167
    cases e167
    replace p167 := eq_true p167
    replace q167 := eq_true q167
    have p168 : 0 ≤ ((ji19) : Int) := of_decide_eq_true (by first | (with_reducible assumption) | assumption)
    have q168 : (ji19) < (l1.length : Int) := of_decide_eq_true (by first | (with_reducible assumption) | assumption)
    obtain ⟨ad168, e168, hx168_0⟩ := Kd.at_int HR1.out (ji19) p168 q168
    obtain rfl : ad167 = ad168 := (by injection e168)
    replace p168 := eq_true p168
    replace q168 := eq_true q168
    have p169 : 0 ≤ ((ji22) : Int) := of_decide_eq_true (by first | (with_reducible assumption) | assumption)
    have q169 : (ji22) < (l1.length : Int) := of_decide_eq_true (by first | (with_reducible assumption) | assumption)
    obtain ⟨ad169, e169, hx169_0⟩ := Kd.at_int HR1.out (ji22) p169 q169
    obtain rfl : ad167 = ad169 := (by injection e169)
    replace p169 := eq_true p169
    replace q169 := eq_true q169
    go_enter Try.func162, Try.ntmps162
    go_wp2
    repeat (go_quiet (fail); try go_wp2)
    go_ret
    exact ⟨by first | rfl | (simp; done) | (simp only [← hji16, ← hji19, ← hji22] <;> (first | rfl | simp)) | (simp [*]; done), by repeat (first | exact Drawn0.refl _ | apply Drawn0.step)⟩
  rw [if_neg c15] at H
  have c15b0 : (a0 == 3) = false := beq_eq_false_iff_ne.mpr c15
  have c15b1 : (a0 != 3) = true := bne_iff_ne.mpr c15
  by_cases c25 : a0 = 4
  rotate_left
  · rw [if_neg c25] at H
    have c25b0 : (a0 == 4) = false := beq_eq_false_iff_ne.mpr c25
    have c25b1 : (a0 != 4) = true := bne_iff_ne.mpr c25
    obtain rfl := Option.some.inj H
    go_enter Try.func162, Try.ntmps162
    go_wp2
    repeat (go_quiet (fail); try go_wp2)
    go_ret
    exact ⟨by first | rfl | (simp; done) | (simp [*]; done), by repeat (first | exact Drawn0.refl _ | apply Drawn0.step)⟩
  rw [if_pos c25] at H
  have c25b0 : (a0 == 4) = true := beq_iff_eq.mpr c25
  have c25b1 : (a0 != 4) = false := bne_eq_false_iff_eq.mpr c25
  clear c25
  obtain ⟨ji26, hji26⟩ : ∃ j_ : Int, (wrap64 (a2 - 1)) = j_ := ⟨_, rfl⟩
  replace H : (if 0 ≤ (ji26) then (if (ji26) < (l1.length : Int) then (if 0 ≤ (wrap64 (a2 - 2)) then (if (wrap64 (a2 - 2)) < (l1.length : Int) then (if 0 ≤ (wrap64 (a2 - 3)) then (if (wrap64 (a2 - 3)) < (l1.length : Int) then (if 0 ≤ (wrap64 (a2 - 4)) then (if (wrap64 (a2 - 4)) < (l1.length : Int) then (some (wrap64 ((wrap64 ((wrap64 ((wrap64 (4 * (rd l1 (ji26)))) - (wrap64 (6 * (rd l1 (wrap64 (a2 - 2))))))) + (wrap64 (4 * (rd l1 (wrap64 (a2 - 3))))))) - (rd l1 (wrap64 (a2 - 4)))))) else (none)) else (none)) else (none)) else (none)) else (none)) else (none)) else (none)) else (none)) = some r := by first | (rw [hji26] at H; exact H) | (simp only [hji26] at H ⊢; exact H)
  have hji26w : (IntKind.i64.wrap (a2 - 1)) = ji26 := (i64_w _).trans hji26
  by_cases c27 : 0 ≤ (ji26)
  rotate_left
  · rw [if_neg c27] at H
    exact absurd H (by simp)
  rw [if_pos c27] at H
  have c27b0 : decide (0 ≤ (ji26)) = true := decide_eq_true c27
  clear c27
  by_cases c28 : (ji26) < (l1.length : Int)
  rotate_left
  · rw [if_neg c28] at H
    exact absurd H (by simp)
  rw [if_pos c28] at H
  have c28b0 : decide ((ji26) < (l1.length : Int)) = true := decide_eq_true c28
  clear c28
  obtain ⟨ji29, hji29⟩ : ∃ j_ : Int, (wrap64 (a2 - 2)) = j_ := ⟨_, rfl⟩
  replace H : (if 0 ≤ (ji29) then (if (ji29) < (l1.length : Int) then (if 0 ≤ (wrap64 (a2 - 3)) then (if (wrap64 (a2 - 3)) < (l1.length : Int) then (if 0 ≤ (wrap64 (a2 - 4)) then (if (wrap64 (a2 - 4)) < (l1.length : Int) then (some (wrap64 ((wrap64 ((wrap64 ((wrap64 (4 * (rd l1 (ji26)))) - (wrap64 (6 * (rd l1 (ji29)))))) + (wrap64 (4 * (rd l1 (wrap64 (a2 - 3))))))) - (rd l1 (wrap64 (a2 - 4)))))) else (none)) else (none)) else (none)) else (none)) else (none)) else (none)) = some r := by first | (rw [hji29] at H; exact H) | (simp only [hji29] at H ⊢; exact H)
  have hji29w : (IntKind.i64.wrap (a2 - 2)) = ji29 := (i64_w _).trans hji29
  by_cases c30 : 0 ≤ (ji29)
  rotate_left
  · rw [if_neg c30] at H
    exact absurd H (by simp)
  rw [if_pos c30] at H
  have c30b0 : decide (0 ≤ (ji29)) = true := decide_eq_true c30
  clear c30
  by_cases c31 : (ji29) < (l1.length : Int)
  rotate_left
  · rw [if_neg c31] at H
    exact absurd H (by simp)
  rw [if_pos c31] at H
  have c31b0 : decide ((ji29) < (l1.length : Int)) = true := decide_eq_true c31
  clear c31
  obtain ⟨ji32, hji32⟩ : ∃ j_ : Int, (wrap64 (a2 - 3)) = j_ := ⟨_, rfl⟩
  replace H : (if 0 ≤ (ji32) then (if (ji32) < (l1.length : Int) then (if 0 ≤ (wrap64 (a2 - 4)) then (if (wrap64 (a2 - 4)) < (l1.length : Int) then (some (wrap64 ((wrap64 ((wrap64 ((wrap64 (4 * (rd l1 (ji26)))) - (wrap64 (6 * (rd l1 (ji29)))))) + (wrap64 (4 * (rd l1 (ji32)))))) - (rd l1 (wrap64 (a2 - 4)))))) else (none)) else (none)) else (none)) else (none)) = some r := by first | (rw [hji32] at H; exact H) | (simp only [hji32] at H ⊢; exact H)
  have hji32w : (IntKind.i64.wrap (a2 - 3)) = ji32 := (i64_w _).trans hji32
  by_cases c33 : 0 ≤ (ji32)
  rotate_left
  · rw [if_neg c33] at H
    exact absurd H (by simp)
  rw [if_pos c33] at H
  have c33b0 : decide (0 ≤ (ji32)) = true := decide_eq_true c33
  clear c33
  by_cases c34 : (ji32) < (l1.length : Int)
  rotate_left
  · rw [if_neg c34] at H
    exact absurd H (by simp)
  rw [if_pos c34] at H
  have c34b0 : decide ((ji32) < (l1.length : Int)) = true := decide_eq_true c34
  clear c34
  obtain ⟨ji35, hji35⟩ : ∃ j_ : Int, (wrap64 (a2 - 4)) = j_ := ⟨_, rfl⟩
  replace H : (if 0 ≤ (ji35) then (if (ji35) < (l1.length : Int) then (some (wrap64 ((wrap64 ((wrap64 ((wrap64 (4 * (rd l1 (ji26)))) - (wrap64 (6 * (rd l1 (ji29)))))) + (wrap64 (4 * (rd l1 (ji32)))))) - (rd l1 (ji35))))) else (none)) else (none)) = some r := by first | (rw [hji35] at H; exact H) | (simp only [hji35] at H ⊢; exact H)
  have hji35w : (IntKind.i64.wrap (a2 - 4)) = ji35 := (i64_w _).trans hji35
  by_cases c36 : 0 ≤ (ji35)
  rotate_left
  · rw [if_neg c36] at H
    exact absurd H (by simp)
  rw [if_pos c36] at H
  have c36b0 : decide (0 ≤ (ji35)) = true := decide_eq_true c36
  clear c36
  by_cases c37 : (ji35) < (l1.length : Int)
  rotate_left
  · rw [if_neg c37] at H
    exact absurd H (by simp)
  rw [if_pos c37] at H
  have c37b0 : decide ((ji35) < (l1.length : Int)) = true := decide_eq_true c37
  clear c37
  obtain rfl := Option.some.inj H
  have p170 : 0 ≤ ((ji26) : Int) := of_decide_eq_true (by first | (with_reducible assumption) | assumption)
  have q170 : (ji26) < (l1.length : Int) := of_decide_eq_true (by first | (with_reducible assumption) | assumption)
  obtain ⟨ad170, e170, hx170_0⟩ := Kd.at_int HR1.out (ji26) p170 q170
  cases e170
  replace p170 := eq_true p170
  replace q170 := eq_true q170
  have p171 : 0 ≤ ((ji29) : Int) := of_decide_eq_true (by first | (with_reducible assumption) | assumption)
  have q171 : (ji29) < (l1.length : Int) := of_decide_eq_true (by first | (with_reducible assumption) | assumption)
  obtain ⟨ad171, e171, hx171_0⟩ := Kd.at_int HR1.out (ji29) p171 q171
  obtain rfl : ad170 = ad171 := (by injection e171)
  replace p171 := eq_true p171
  replace q171 := eq_true q171
  have p172 : 0 ≤ ((ji32) : Int) := of_decide_eq_true (by first | (with_reducible assumption) | assumption)
  have q172 : (ji32) < (l1.length : Int) := of_decide_eq_true (by first | (with_reducible assumption) | assumption)
  obtain ⟨ad172, e172, hx172_0⟩ := Kd.at_int HR1.out (ji32) p172 q172
  obtain rfl : ad170 = ad172 := (by injection e172)
  replace p172 := eq_true p172
  replace q172 := eq_true q172
  have p173 : 0 ≤ ((ji35) : Int) := of_decide_eq_true (by first | (with_reducible assumption) | assumption)
  have q173 : (ji35) < (l1.length : Int) := of_decide_eq_true (by first | (with_reducible assumption) | assumption)
  obtain ⟨ad173, e173, hx173_0⟩ := Kd.at_int HR1.out (ji35) p173 q173
  obtain rfl : ad170 = ad173 := (by injection e173)
  replace p173 := eq_true p173
  replace q173 := eq_true q173
  go_enter Try.func162, Try.ntmps162
  go_wp2
  repeat (go_quiet (fail); try go_wp2)
  go_ret
  exact ⟨by first | rfl | (simp; done) | (simp only [← hji26, ← hji29, ← hji32, ← hji35] <;> (first | rfl | simp)) | (simp [*]; done), by repeat (first | exact Drawn0.refl _ | apply Drawn0.step)⟩

/-! ### impl_Residue: function 79 -/
mutual
def impl_Residue.j0 : Nat → Int → List Int → Bool → Option (List Int)
  | 0, _, _, _ => none
  | k + 1, x0, x1, x17 => if x17 = true then (some ([] : List Int)) else ((impl_zcopy.f x1).bind fun t175 => (impl_Residue.l0 k x0 x1 t175 x0))
def impl_Residue.l0 : Nat → Int → List Int → List Int → Int → Option (List Int)
  | 0, _, _, _, _ => none
  | k + 1, x0, x1, x5, x6 => if x6 < (x1.length : Int) then (if 0 ≤ x6 then ((impl_zguess.f x0 x1 x6).bind fun t179 => (if x6 < (x5.length : Int) then (impl_Residue.l0 k x0 x1 (x5.set (x6 : Int).toNat (wrap64 ((rd x1 x6) - t179))) (wrap64 (x6 + 1))) else (none))) else (none)) else (some x5)
end
def impl_Residue.f (k : Nat) (a0 : Int) (l1 : List Int) : Option (List Int) := (impl_zlist.f k l1).bind fun t174 => (if t174 = true then (if a0 < 0 then (impl_Residue.j0 k a0 l1 true) else (impl_Residue.j0 k a0 l1 (decide (a0 > 4)))) else (impl_Residue.j0 k a0 l1 true))
theorem impl_Residue.mono_l : ∀ k, (∀ y0 y1 y2, LeO (impl_Residue.j0 k y0 y1 y2) (impl_Residue.j0 (k + 1) y0 y1 y2)) ∧ (∀ y0 y1 y2 y3, LeO (impl_Residue.l0 k y0 y1 y2 y3) (impl_Residue.l0 (k + 1) y0 y1 y2 y3))
  | 0 => ⟨fun _ _ _ r h => by simp [impl_Residue.j0] at h, fun _ _ _ _ r h => by simp [impl_Residue.l0] at h⟩
  | k + 1 => by
    obtain ⟨ih0, ih1⟩ := impl_Residue.mono_l k
    refine ⟨?_, ?_⟩
    · intro y0 y1 y2
      unfold impl_Residue.j0
      repeat' first
      | (with_reducible exact ih0 _ _ _)
      | (with_reducible exact ih1 _ _ _ _)
      | (with_reducible exact impl_zlist.mono _ _)
      | (with_reducible exact LeO.refl _)
      | (with_reducible exact LeO.none _)
      | (with_reducible refine LeO.ite ?_ ?_)
      | (with_reducible refine LeO.bind ?_ (fun _ => ?_))
      | exact ih0 _ _ _
      | exact ih1 _ _ _ _
      | exact impl_zlist.mono _ _
      | exact LeO.none _
      | refine LeO.ite ?_ ?_
      | refine LeO.bind ?_ (fun _ => ?_)
    · intro y0 y1 y2 y3
      unfold impl_Residue.l0
      repeat' first
      | (with_reducible exact ih0 _ _ _)
      | (with_reducible exact ih1 _ _ _ _)
      | (with_reducible exact impl_zlist.mono _ _)
      | (with_reducible exact LeO.refl _)
      | (with_reducible exact LeO.none _)
      | (with_reducible refine LeO.ite ?_ ?_)
      | (with_reducible refine LeO.bind ?_ (fun _ => ?_))
      | exact ih0 _ _ _
      | exact ih1 _ _ _ _
      | exact impl_zlist.mono _ _
      | exact LeO.none _
      | refine LeO.ite ?_ ?_
      | refine LeO.bind ?_ (fun _ => ?_)
theorem impl_Residue.mono : ∀ a0 a1 k, LeO (impl_Residue.f k a0 a1) (impl_Residue.f (k + 1) a0 a1) := by
  intro a0 a1 k
  obtain ⟨ih0, ih1⟩ := impl_Residue.mono_l k
  unfold impl_Residue.f
  repeat' first
      | (with_reducible exact ih0 _ _ _)
      | (with_reducible exact ih1 _ _ _ _)
      | (with_reducible exact impl_zlist.mono _ _)
      | (with_reducible exact LeO.refl _)
      | (with_reducible exact LeO.none _)
      | (with_reducible refine LeO.ite ?_ ?_)
      | (with_reducible refine LeO.bind ?_ (fun _ => ?_))
      | exact ih0 _ _ _
      | exact ih1 _ _ _ _
      | exact impl_zlist.mono _ _
      | exact LeO.none _
      | refine LeO.ite ?_ ?_
      | refine LeO.bind ?_ (fun _ => ?_)
def impl_Residue.T7 : Bool × List (List Nat × List Nat) := (true, [([], []), ([], []), ([], []), ([], []), ([2, 3], [2, 3]), ([4], [4]), ([], []), ([], []), ([], []), ([6, 7, 8], [6, 7, 8]), ([5, 9], [5, 9]), ([0, 1, 0, 1, 2, 3, 4, 5, 6, 7, 8, 9, 10], [0, 1]), ([11, 10, 9, 0, 1, 2, 3, 4, 5, 6, 7, 8, 9, 10], [10, 11])])
def impl_Residue.B7 : List Nat := [0, 0, 0, 0, 12, 28, 0, 0, 0, 448, 1020, 2047, 4095]
theorem impl_Residue.tab7 : rtab .any (opsOf Try.f79 7) = impl_Residue.T7 := by kernel_rfl
theorem impl_Residue.bits7 : waitsOk impl_Residue.T7.2 impl_Residue.B7 = true := by kernel_rfl
set_option maxHeartbeats 8000000 in
set_option maxRecDepth 100000 in
theorem impl_Residue.calls (k : Nat) (a0 : Int) (A1 : Option Addr) (c1 : Nat) (l1 : List Int) (r : List Int) (w : World) (hr1 : Kd.C (Kd.int .i64) w A1 l1.length l1) (hc1 : l1.length ≤ c1) (h : impl_Residue.f k a0 l1 = some r) :
    Calls Try.prog 79 #[.int .i64 a0, .slice A1 l1.length c1] w fun e w' => ∃ v0_ : Value, e = .returned (v0_) ∧ Kd.R (Kd.int .i64) 3 w' w.heap.size (fun _ => True) v0_ r ∧ Below w.heap.size w w' := by
  have HR1 := Aside0.mk hr1
  have HC1 := Aside0.mk hc1
  clear hr1 hc1
  have HB := Aside0.mk (Below.refl w.heap.size w)
  have H : ((impl_zlist.f k l1).bind fun t174 => (if t174 = true then (if a0 < 0 then (impl_Residue.j0 k a0 l1 true) else (impl_Residue.j0 k a0 l1 (decide (a0 > 4)))) else (impl_Residue.j0 k a0 l1 true))) = some r := h
  clear h
  have HC3 := Aside0.mk H
  clear H
  go_enter Try.func79, Try.ntmps79
  go_upto_region 1 with (fail)
  go_cut [17] (fun v17 wc => ∃ (kq : Nat) (x17_2 : Bool), v17 = .bool x17_2 ∧ Aside0 (impl_Residue.j0 kq a0 l1 x17_2 = some r) ∧ Aside0 (kq ≤ k) ∧ Aside0 (Below w.heap.size w wc))
  case first =>
    have H := HC3.out
    clear HC3
    replace H := Option.bind_eq_some_iff.mp H
    obtain ⟨t174, A40, H⟩ := H
    replace H : (if t174 = true then (if a0 < 0 then (impl_Residue.j0 k a0 l1 true) else (impl_Residue.j0 k a0 l1 (decide (a0 > 4)))) else (impl_Residue.j0 k a0 l1 true)) = some r := H
    have A4 := Aside0.mk A40
    clear A40
    by_cases c5 : t174 = true
    rotate_left
    · replace c5 := Bool.eq_false_iff.mpr c5
      subst c5
      have H1 : (impl_Residue.j0 k a0 l1 true) = some r := by rw [if_neg (show ¬ (false = true) by decide)] at H; exact H
      clear H
      have H := H1
      clear H1
      have H' := Aside0.mk H
      clear H
      go_wp2_with (first | ((with_reducible refine gate_callee (f := 78) rfl ?_); refine goesL_ (some 8) rfl rfl Try.func78 (by kernel_rfl) rfl #[.slice A1 l1.length c1] rfl (by (try simp only [List.map_toArray, List.map_cons, List.map_nil]); first | done | rfl | (simp only [List.length_drop, List.length_take]; rfl)) ?_; (with_reducible refine (impl_zlist.calls k _ _ l1 false _ ?side1 ?side2 A4.out).mono ?_); (case side1 => repeat (first | exact (Kd.C_below HR1.out HB.out) | (with_reducible refine Kd.C_alloc ?_ _) | (with_reducible refine Kd.C_drewN ?_ _) | (with_reducible refine Kd.C_drew ?_))); (case side2 => exact HC1.out); rintro e w' ⟨rfl, ⟨nd, rfl⟩⟩; refine ⟨_, rfl, ?_⟩))
      go_meet
      case rel => exact ⟨_, (true), (by first | rfl | (simp; done) | (simp [*]; done)), H', ⟨by first | omega | exact Nat.le_refl _⟩, ⟨by repeat (first | (with_reducible first | exact HB.out | apply below_alloc | apply pw_below_drewN | apply below_drew1) | exact HB.out)⟩⟩
    subst c5
    have H1 : (if a0 < 0 then (impl_Residue.j0 k a0 l1 true) else (impl_Residue.j0 k a0 l1 (decide (a0 > 4)))) = some r := by rw [if_pos rfl] at H; exact H
    clear H
    have H := H1
    clear H1
    by_cases c6 : a0 < 0
    · rw [if_pos c6] at H
      have c6b0 : decide (a0 < 0) = true := decide_eq_true c6
      clear c6
      (first | rw [c6b0] | (simp only [i64_w, i32_w]; rw [c6b0]) | skip)
      have H' := Aside0.mk H
      clear H
      go_wp2_with (first | ((with_reducible refine gate_callee (f := 78) rfl ?_); refine goesL_ (some 8) rfl rfl Try.func78 (by kernel_rfl) rfl #[.slice A1 l1.length c1] rfl (by (try simp only [List.map_toArray, List.map_cons, List.map_nil]); first | done | rfl | (simp only [List.length_drop, List.length_take]; rfl)) ?_; (with_reducible refine (impl_zlist.calls k _ _ l1 true _ ?side1 ?side2 A4.out).mono ?_); (case side1 => repeat (first | exact (Kd.C_below HR1.out HB.out) | (with_reducible refine Kd.C_alloc ?_ _) | (with_reducible refine Kd.C_drewN ?_ _) | (with_reducible refine Kd.C_drew ?_))); (case side2 => exact HC1.out); rintro e w' ⟨rfl, ⟨nd, rfl⟩⟩; refine ⟨_, rfl, ?_⟩))
      go_meet
      case rel => exact ⟨_, (true), (by first | rfl | (simp; done) | (simp [*]; done)), H', ⟨by first | omega | exact Nat.le_refl _⟩, ⟨by repeat (first | (with_reducible first | exact HB.out | apply below_alloc | apply pw_below_drewN | apply below_drew1) | exact HB.out)⟩⟩
    rw [if_neg c6] at H
    have c6b0 : decide (a0 < 0) = false := decide_eq_false c6
    clear c6
    (first | rw [c6b0] | (simp only [i64_w, i32_w]; rw [c6b0]) | skip)
    have H' := Aside0.mk H
    clear H
    go_wp2_with (first | ((with_reducible refine gate_callee (f := 78) rfl ?_); refine goesL_ (some 8) rfl rfl Try.func78 (by kernel_rfl) rfl #[.slice A1 l1.length c1] rfl (by (try simp only [List.map_toArray, List.map_cons, List.map_nil]); first | done | rfl | (simp only [List.length_drop, List.length_take]; rfl)) ?_; (with_reducible refine (impl_zlist.calls k _ _ l1 true _ ?side1 ?side2 A4.out).mono ?_); (case side1 => repeat (first | exact (Kd.C_below HR1.out HB.out) | (with_reducible refine Kd.C_alloc ?_ _) | (with_reducible refine Kd.C_drewN ?_ _) | (with_reducible refine Kd.C_drew ?_))); (case side2 => exact HC1.out); rintro e w' ⟨rfl, ⟨nd, rfl⟩⟩; refine ⟨_, rfl, ?_⟩))
    go_meet
    case rel => exact ⟨_, (decide (a0 > 4)), (by first | rfl | (simp; done) | (simp [*]; done)), H', ⟨by first | omega | exact Nat.le_refl _⟩, ⟨by repeat (first | (with_reducible first | exact HB.out | apply below_alloc | apply pw_below_drewN | apply below_drew1) | exact HB.out)⟩⟩
  case rest =>
    clear HC3
    try clear c1
    try clear p2
    try clear c5
    try clear c6
    try clear c6b0
    obtain ⟨kq, x17_2, rfl, HA, HJ2, HB⟩ := hcut
    cases kq with
    | zero => exact absurd HA.out (by simp [impl_Residue.j0])
    | succ kj2 =>
      have H := HA.out
      clear HA
      simp only [impl_Residue.j0] at H
      by_cases c7 : x17_2 = true
      · subst c7
        have H1 : (some ([] : List Int)) = some r := by rw [if_pos rfl] at H; exact H
        clear H
        have H := H1
        clear H1
        obtain rfl := Option.some.inj H
        go_wp2
        go_ret
        exact ⟨_, by first | rfl | (simp [errW_none, errW_some] <;> rfl) | (simp [*, errW_none, errW_some] <;> rfl), by first | exact Kd.R_nil _ _ _ _ _ | exact Kd.N_nil _ _ _ _ _ | exact Kd.V_nil _ _ _ _ _ | exact Kd.Q_nil _ _ _ _ _ | exact Kd.S_nil _ _ _ _ _, by repeat (first | (with_reducible first | exact HB.out | apply below_alloc | apply pw_below_drewN | apply below_drew1) | exact HB.out)⟩
      replace c7 := Bool.eq_false_iff.mpr c7
      subst c7
      have H1 : ((impl_zcopy.f l1).bind fun t175 => (impl_Residue.l0 kj2 a0 l1 t175 a0)) = some r := by rw [if_neg (show ¬ (false = true) by decide)] at H; exact H
      clear H
      have H := H1
      clear H1
      replace H := Option.bind_eq_some_iff.mp H
      obtain ⟨t175, A80, H⟩ := H
      replace H : (impl_Residue.l0 kj2 a0 l1 t175 a0) = some r := H
      have A8 := Aside0.mk A80
      clear A80
      have H' := Aside0.mk H
      clear H
      go_wp2_with (first | ((with_reducible refine gate_callee (f := 161) rfl ?_); refine goesL_ (some 19) rfl rfl Try.func161 (by kernel_rfl) rfl #[.slice A1 l1.length c1] rfl (by (try simp only [List.map_toArray, List.map_cons, List.map_nil]); first | done | rfl | (simp only [List.length_drop, List.length_take]; rfl)) ?_; (with_reducible refine (impl_zcopy.calls _ _ l1 t175 _ ?side1 ?side2 A8.out).mono ?_); (case side1 => repeat (first | exact (Kd.C_below HR1.out HB.out) | (with_reducible refine Kd.C_alloc ?_ _) | (with_reducible refine Kd.C_drewN ?_ _) | (with_reducible refine Kd.C_drew ?_))); (case side2 => exact HC1.out); rintro e w9 ⟨v176, rfl, ho0, hb⟩; refine ⟨_, rfl, ?_⟩; have n0_ := Aside0.mk (Kd.R_lower ho0 (below_size (by repeat (first | (with_reducible first | exact HB.out | apply below_alloc | apply pw_below_drewN | apply below_drew1) | exact HB.out)))); have n1_ := Aside0.mk (below_step (by repeat (first | (with_reducible first | exact HB.out | apply below_alloc | apply pw_below_drewN | apply below_drew1) | exact HB.out)) hb); clear HB; have HO177 := n0_; have HB := n1_; clear n0_ n1_; (try clear hb); (try clear hb2); (try clear hk); (try clear hi); (try clear ho0)))
      go_loopg [6] kj2 (fun kq v6 w' => ∃ (x5_2 : List Int) (x6_2 : Int), v6 = .int .i64 x6_2 ∧ Aside0 (impl_Residue.l0 kq a0 l1 x5_2 x6_2 = some r) ∧ Aside0 (kq ≤ kj2) ∧ Aside0 (Kd.R (Kd.int .i64) 3 w' w.heap.size (fun _ => True) v176 x5_2) ∧ Aside0 (Below w.heap.size w w'))
      case atStart => exact ⟨(t175), (a0), (by first | rfl | (simp; done) | (simp [*]; done)), H', ⟨Nat.le_refl _⟩, ⟨by (with_reducible repeat (first | apply Kd.R_alloc | apply Kd.R_drewN | apply Kd.R_drew)); exact HO177.out⟩, ⟨by repeat (first | (with_reducible first | exact HB.out | apply below_alloc | apply pw_below_drewN | apply below_drew1) | exact HB.out)⟩⟩
      case round =>
        clear H'
        try clear c1
        try clear p2
        try clear c5
        try clear c6
        try clear c6b0
        try clear c7
        try clear p2
        obtain ⟨x5_2, x6_2, rfl, HA, HK2, HO_5, HB⟩ := hrel
        cases gk with
        | zero => exact absurd HA.out (by simp [impl_Residue.l0])
        | succ k2 =>
          have H := HA.out
          clear HA
          simp only [impl_Residue.l0] at H
          by_cases c10 : x6_2 < (l1.length : Int)
          rotate_left
          · rw [if_neg c10] at H
            have c10b0 : decide (x6_2 < (l1.length : Int)) = false := decide_eq_false c10
            clear c10
            obtain rfl := Option.some.inj H
            go_wp2
            go_ret
            exact ⟨_, by first | rfl | (simp [errW_none, errW_some] <;> rfl) | (simp [*, errW_none, errW_some] <;> rfl), by (with_reducible repeat (first | apply Kd.R_alloc | apply Kd.R_drewN | apply Kd.R_drew)); exact HO_5.out, by repeat (first | (with_reducible first | exact HB.out | apply below_alloc | apply pw_below_drewN | apply below_drew1) | exact HB.out)⟩
          rw [if_pos c10] at H
          have c10b0 : decide (x6_2 < (l1.length : Int)) = true := decide_eq_true c10
          clear c10
          by_cases c11 : 0 ≤ x6_2
          rotate_left
          · rw [if_neg c11] at H
            exact absurd H (by simp)
          rw [if_pos c11] at H
          have c11b0 : decide (0 ≤ x6_2) = true := decide_eq_true c11
          clear c11
          replace H := Option.bind_eq_some_iff.mp H
          obtain ⟨t179, A120, H⟩ := H
          replace H : (if x6_2 < (x5_2.length : Int) then (impl_Residue.l0 k2 a0 l1 (x5_2.set (x6_2 : Int).toNat (wrap64 ((rd l1 x6_2) - t179))) (wrap64 (x6_2 + 1))) else (none)) = some r := H
          have A12 := Aside0.mk A120
          clear A120
          by_cases c13 : x6_2 < (x5_2.length : Int)
          rotate_left
          · rw [if_neg c13] at H
            exact absurd H (by simp)
          rw [if_pos c13] at H
          have c13b0 : decide (x6_2 < (x5_2.length : Int)) = true := decide_eq_true c13
          clear c13
          obtain ⟨y180, hy180⟩ : ∃ y_ : List Int, y_ = (x5_2.set (x6_2 : Int).toNat (wrap64 ((rd l1 x6_2) - t179))) := ⟨_, rfl⟩
          replace H : (impl_Residue.l0 k2 a0 l1 y180 (wrap64 (x6_2 + 1))) = some r := by first | (rw [hy180]; with_reducible exact H) | (have H2_ := (Option.bind_some _ _).symm.trans H; rw [hy180]; with_reducible exact H2_) | (have H2_ := (Option.bind_some _ _).symm.trans H; with_reducible exact H2_) | with_reducible exact H | (rw [hy180]; exact H) | exact H
          have Ny180 := Aside0.mk hy180
          clear hy180
          have H' := Aside0.mk H
          clear H
          try go_wp2
          have n0_ := Aside0.mk (Kd.R_drew HO_5.out)
          have n1_ := Aside0.mk (below_drew1 HB.out)
          clear HO_5
          clear HB
          have HO_5 := n0_
          have HB := n1_
          clear n0_ n1_
          have p178 : 0 ≤ (x6_2 : Int) := of_decide_eq_true (by first | (with_reducible assumption) | assumption)
          have q178 : x6_2 < (l1.length : Int) := of_decide_eq_true (by first | (with_reducible assumption) | assumption)
          obtain ⟨ad178, e178, hx178_0⟩ := Kd.at_int HR1.out x6_2 p178 q178
          have hw178_0 := hx178_0
          cases e178
          replace hx178_0 := (HB.out.cell (World.block_lt_of_cell? w _ hx178_0)).trans hx178_0
          replace p178 := eq_true p178
          replace q178 := eq_true q178
          refine start_ (n := 13) (S := fun w' => w'.cell? (ad178.add (x6_2).toNat) = some (.int .i64 (rd l1 x6_2))) (ds := [12]) #[false, false, false, false, false, false, false, false, false, false, false, false, false] (by kernel_rfl) rfl rfl (((HB.out.cell (World.block_lt_of_cell? w _ hw178_0)).trans hw178_0)) (fun hHeld => ?_); refine with_tabW impl_Residue.tab7 impl_Residue.bits7 (fun HT_ HW_ => ?_)
          generalize wr.drew = w15 at HO_5 HB hx178_0 hHeld ⊢
          refine pure_ (i := 0) (N := some 27) (v := ?_) (a' := ?_) #[true, false, false, false, false, false, false, false, false, false, false, false, false] rfl rfl (any_of HT_.out (by kernel_rfl)) (fun _ _ _ h => h) (Or.inl ⟨by rfl, ?_⟩) ?_ ?_
          rotate_left
          · intro w'
            go_simp
            with_reducible rfl
          rotate_left
          · simp only [Act.put, List.setIfInBounds_toArray, List.set_cons_zero, List.set_cons_succ, i64_w, i32_w]
            rfl
          refine pure_ (i := 1) (N := some 28) (v := ?_) (a' := ?_) #[true, true, false, false, false, false, false, false, false, false, false, false, false] rfl rfl (any_of HT_.out (by kernel_rfl)) (fun _ _ _ h => h) (Or.inl ⟨by rfl, ?_⟩) ?_ ?_
          rotate_left
          · intro w'
            go_simp
            with_reducible rfl
          rotate_left
          · simp only [Act.put, List.setIfInBounds_toArray, List.set_cons_zero, List.set_cons_succ, i64_w, i32_w]
            rfl
          refine pure_ (i := 2) (N := some 29) (v := ?_) (a' := ?_) #[true, true, true, false, false, false, false, false, false, false, false, false, false] rfl rfl (any_of HT_.out (by kernel_rfl)) (fun _ _ _ h => h) (Or.inl ⟨by rfl, ?_⟩) ?_ ?_
          rotate_left
          · intro w'
            go_simp
            with_reducible rfl
          rotate_left
          · simp only [Act.put, List.setIfInBounds_toArray, List.set_cons_zero, List.set_cons_succ, i64_w, i32_w]
            rfl
          refine pure_ (i := 3) (N := some 30) (v := ?_) (a' := ?_) #[true, true, true, true, false, false, false, false, false, false, false, false, false] rfl rfl (any_of HT_.out (by kernel_rfl)) (fun _ _ _ h => h) (Or.inl ⟨by rfl, ?_⟩) ?_ ?_
          rotate_left
          · intro w'
            go_simp
            with_reducible rfl
          rotate_left
          · simp only [Act.put, List.setIfInBounds_toArray, List.set_cons_zero, List.set_cons_succ, i64_w, i32_w]
            rfl
          refine pure_ (i := 4) (N := some 31) (v := ?_) (a' := ?_) #[true, true, true, true, true, false, false, false, false, false, false, false, false] rfl rfl (any_of HT_.out (by kernel_rfl)) (fun _ _ _ h => h) (Or.inl ⟨by rfl, ?_⟩) ?_ ?_
          rotate_left
          · intro w'
            go_simp
            with_reducible rfl
          rotate_left
          · simp only [Act.put, List.setIfInBounds_toArray, List.set_cons_zero, List.set_cons_succ, i64_w, i32_w]
            rfl
          refine pure_ (i := 6) (N := some 33) (v := ?_) (a' := ?_) #[true, true, true, true, true, false, true, false, false, false, false, false, false] rfl rfl (any_of HT_.out (by kernel_rfl)) (fun _ _ _ h => h) (Or.inl ⟨by rfl, ?_⟩) ?_ ?_
          rotate_left
          · intro w'
            go_simp
            with_reducible rfl
          rotate_left
          · simp only [Act.put, List.setIfInBounds_toArray, List.set_cons_zero, List.set_cons_succ, i64_w, i32_w]
            rfl
          refine pure_ (i := 7) (N := some 34) (v := ?_) (a' := ?_) #[true, true, true, true, true, false, true, true, false, false, false, false, false] rfl rfl (any_of HT_.out (by kernel_rfl)) (fun _ _ _ h => h) (Or.inl ⟨by rfl, ?_⟩) ?_ ?_
          rotate_left
          · intro w'
            go_simp
            with_reducible rfl
          rotate_left
          · simp only [Act.put, List.setIfInBounds_toArray, List.set_cons_zero, List.set_cons_succ, i64_w, i32_w]
            rfl
          refine pure_ (i := 8) (N := some 35) (v := ?_) (a' := ?_) #[true, true, true, true, true, false, true, true, true, false, false, false, false] rfl rfl (any_of HT_.out (by kernel_rfl)) (fun _ _ _ h => h) (Or.inl ⟨by rfl, ?_⟩) ?_ ?_
          rotate_left
          · intro w'
            go_simp
            with_reducible rfl
          rotate_left
          · simp only [Act.put, List.setIfInBounds_toArray, List.set_cons_zero, List.set_cons_succ, i64_w, i32_w]
            rfl
          refine take_ (i := 5) (N := some 32) (v := ?_) (a' := ?_) #[true, true, true, true, true, true, true, true, true, false, false, false, false] rfl rfl (take_ofW HT_.out HW_.out (by kernel_rfl)) (fun _ _ _ h => h) (Or.inl ⟨by rfl, ?_⟩) hHeld ?_ ?_
          rotate_left
          · intro w' s0
            go_simp
            with_reducible rfl
          rotate_left
          · simp only [Act.put, List.setIfInBounds_toArray, List.set_cons_zero, List.set_cons_succ, i64_w, i32_w]
            rfl
          refine one_ (i := 9) (N := some 36) #[true, true, true, true, true, true, true, true, true, true, false, false, false] rfl rfl (one_of HT_.out (by kernel_rfl)) (by decide) (fun K hK => ?_)
          refine goes_ Try.func162 (by kernel_rfl) rfl #[.int .i64 a0, .slice (some ad178) l1.length c1, .int .i64 x6_2] (by rfl) rfl rfl (by (try simp only [List.map_toArray, List.map_cons, List.map_nil]); first | done | rfl | (simp only [List.length_drop, List.length_take]; rfl)) ?_
          with_reducible refine (impl_zguess.calls a0 _ _ l1 x6_2 t179 _ ?side1 ?side2 A12.out).mono ?_
          (case side1 => repeat (first | exact (Kd.C_below HR1.out HB.out) | (with_reducible refine Kd.C_alloc ?_ _) | (with_reducible refine Kd.C_drewN ?_ _) | (with_reducible refine Kd.C_drew ?_)))
          (case side2 => exact HC1.out)
          rintro e w' ⟨rfl, ⟨nd, rfl⟩⟩
          refine ⟨_, rfl, ?_⟩
          have p14 : 0 ≤ (x6_2 : Int) := of_decide_eq_true (by first | (with_reducible assumption) | assumption)
          have q14 : (x6_2 : Int) < ((x5_2.length : Int) : Int) := of_decide_eq_true (by first | (with_reducible assumption) | assumption)
          obtain ⟨go14, co14, eo14, gb14, gl14, cl14, HG14⟩ := Kd.R_form HO_5.out (by omega)
          (first | cases eo14 | (injection eo14 with ea_ en_ ec_; (first | subst ea_ | (injection ea_ with ea_; subst ea_)); subst ec_; clear en_))
          have GB14 := Aside0.mk gb14
          have GG14 := Aside0.mk HG14
          clear gb14 gl14 HG14
          obtain ⟨hx14_0, hf14_0⟩ := Kd.R_celln 0 HO_5.out (x6_2 : Int) p14 q14
          replace p14 := eq_true p14
          replace q14 := eq_true q14
          have HP16 := Kd.R_putn HO_5.out (x6_2 : Int) (wrap64 ((rd l1 x6_2) - t179))
          rw [← Ny180.out] at HP16
          have HQ16 := Aside0.mk HP16
          clear HP16
          refine hK.out _ _ (((HB.out.cell (World.block_lt_of_cell? w _ hw178_0)).trans hw178_0)) (fun hHeld => ?_)
          clear hK K
          refine norm_ (a' := ?_) ?_ ?_
          rotate_left
          · show Act.put _ (some 36) _ = _
            simp only [Act.put, List.setIfInBounds_toArray, List.set_cons_zero, List.set_cons_succ, i64_w, i32_w]
            rfl
          refine pure_ (i := 10) (N := some 37) (v := ?_) (a' := ?_) #[true, true, true, true, true, true, true, true, true, true, true, false, false] rfl rfl (any_of HT_.out (by kernel_rfl)) (fun _ _ _ h => h) (Or.inl ⟨by rfl, ?_⟩) ?_ ?_
          rotate_left
          · intro w'
            go_simp
            with_reducible rfl
          rotate_left
          · simp only [Act.put, List.setIfInBounds_toArray, List.set_cons_zero, List.set_cons_succ, i64_w, i32_w]
            rfl
          refine pure_ (i := 11) (N := some 38) (v := ?_) (a' := ?_) #[true, true, true, true, true, true, true, true, true, true, true, true, false] rfl rfl (any_of HT_.out (by kernel_rfl)) (fun _ _ _ h => h) (Or.inl ⟨by rfl, ?_⟩) ?_ ?_
          rotate_left
          · intro w'
            go_simp
            with_reducible rfl
          rotate_left
          · simp only [Act.put, List.setIfInBounds_toArray, List.set_cons_zero, List.set_cons_succ, i64_w, i32_w]
            rfl
          refine last_ (i := 12) (N := none) #[true, true, true, true, true, true, true, true, true, true, true, true, true] rfl rfl (one_of HT_.out (by kernel_rfl)) (by decide) (fun K hK => ?_)
          refine skip_ (w1 := ?_) (by rfl) rfl ?_ ?_
          rotate_left
          · go_simp
            rfl
          refine hK.out _ _ ?_
          clear hK K
          refine done_ (done_of HT_.out (by kernel_rfl)) ?_
          try go_wp2
          go_roundg k2
          case measure => have := HJ2.out; have := HK2.out; omega
          case rel => exact ⟨(y180), (wrap64 (x6_2 + 1)), (by first | rfl | (simp; done) | (simp [*]; done)), H', ⟨by have := HJ2.out; have := HK2.out; omega⟩, ⟨by (with_reducible repeat (first | apply Kd.R_alloc | apply Kd.R_drewN | apply Kd.R_drew)); exact HQ16.out⟩, ⟨by repeat (first | (with_reducible first | exact HB.out | apply below_alloc | apply pw_below_drewN | apply below_drew1 | refine below_set ?_ GB14.out) | exact HB.out)⟩⟩

end Go.Proofs.Ytidblealnaicpaa.PFnPlan

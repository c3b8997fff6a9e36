-- written by myprint.py (a program of this session's over the kit's print)
import Derived.Test.YtidblealnaicpaaDoorPFnExactSoundOfx0
namespace Go.Proofs.YtidblealnaicpaaDoor.PFnExactSoundOf
open Go.RowKit Go.Proofs.YtidblealnaicpaaDoorW.PrintWords Go.Proofs.YtidblealnaicpaaDoorW.PrintLast Go.Proofs.YtidblealnaicpaaDoorW.PrintMore
attribute [local go_sem] max2_int min2_int max_two min_two max_three min_three max_four min_four   -- for this text's walks alone
set_option linter.unusedVariables false
set_option linter.unusedSimpArgs false

/-! ### laws_toIntS: function 6 -/
def laws_toIntS.l0 : Nat → List Int → List Int → Int → Option (List Int)
  | 0, _, _, _ => none
  | k + 1, x0, x3, x4 => if x4 < (x0.length : Int) then (if 0 ≤ x4 then (if x4 < (x3.length : Int) then (laws_toIntS.l0 k x0 (x3.set (x4 : Int).toNat (rd x0 x4)) (wrap64 (x4 + 1))) else (none)) else (none)) else (some x3)
def laws_toIntS.f (k : Nat) (l0 : List Int) : Option (List Int) := if 0 ≤ (l0.length : Int) then (if ((l0.length : Int) : Int).toNat ≤ 35184372088832 then (laws_toIntS.l0 k l0 (List.replicate ((l0.length : Int) : Int).toNat 0) 0) else (none)) else (none)
theorem laws_toIntS.mono_l : ∀ k, (∀ y0 y1 y2, LeO (laws_toIntS.l0 k y0 y1 y2) (laws_toIntS.l0 (k + 1) y0 y1 y2))
  | 0 => fun _ _ _ r h => by simp [laws_toIntS.l0] at h
  | k + 1 => by
    have ih0 := laws_toIntS.mono_l k
    · intro y0 y1 y2
      unfold laws_toIntS.l0
      repeat' first
      | (with_reducible exact ih0 _ _ _)
      | (with_reducible exact LeO.refl _)
      | (with_reducible exact LeO.none _)
      | (with_reducible refine LeO.ite ?_ ?_)
      | (with_reducible refine LeO.bind ?_ (fun _ => ?_))
      | exact ih0 _ _ _
      | exact LeO.none _
      | refine LeO.ite ?_ ?_
      | refine LeO.bind ?_ (fun _ => ?_)
theorem laws_toIntS.mono : ∀ a0 k, LeO (laws_toIntS.f k a0) (laws_toIntS.f (k + 1) a0) := by
  intro a0 k
  have ih0 := laws_toIntS.mono_l k
  unfold laws_toIntS.f
  repeat' first
      | (with_reducible exact ih0 _ _ _)
      | (with_reducible exact LeO.refl _)
      | (with_reducible exact LeO.none _)
      | (with_reducible refine LeO.ite ?_ ?_)
      | (with_reducible refine LeO.bind ?_ (fun _ => ?_))
      | exact ih0 _ _ _
      | exact LeO.none _
      | refine LeO.ite ?_ ?_
      | refine LeO.bind ?_ (fun _ => ?_)
set_option maxHeartbeats 8000000 in
set_option maxRecDepth 100000 in
theorem laws_toIntS.calls (k : Nat) (A0 : Option Addr) (c0 : Nat) (l0 : List Int) (r : List Int) (w : World) (hr0 : Kd.C (Kd.int .i64) w A0 l0.length l0) (hc0 : l0.length ≤ c0) (h : laws_toIntS.f k l0 = some r) :
    Calls Tryd.prog 6 #[.slice A0 l0.length c0] w fun e w' => ∃ v0_ : Value, e = .returned (v0_) ∧ Kd.R (Kd.int .i64) 3 w' w.heap.size (fun _ => True) v0_ r ∧ Below w.heap.size w w' := by
  have HR0 := Aside0.mk hr0
  have HC0 := Aside0.mk hc0
  clear hr0 hc0
  have HB := Aside0.mk (Below.refl w.heap.size w)
  have H : (if 0 ≤ (l0.length : Int) then (if ((l0.length : Int) : Int).toNat ≤ 35184372088832 then (laws_toIntS.l0 k l0 (List.replicate ((l0.length : Int) : Int).toNat 0) 0) else (none)) else (none)) = some r := h
  clear h
  by_cases c2 : 0 ≤ (l0.length : Int)
  rotate_left
  · rw [if_neg c2] at H
    exact absurd H (by simp)
  rw [if_pos c2] at H
  have c2b0 := eq_true c2
  have c2b1 : decide (0 ≤ (l0.length : Int)) = true := decide_eq_true c2
  clear c2
  by_cases c3 : ((l0.length : Int) : Int).toNat ≤ 35184372088832
  rotate_left
  · rw [if_neg c3] at H
    exact absurd H (by simp)
  rw [if_pos c3] at H
  have c3b0 := eq_true c3
  have c3b1 : decide (((l0.length : Int) : Int).toNat ≤ 35184372088832) = true := decide_eq_true c3
  clear c3
  obtain ⟨y172, hy172⟩ : ∃ y_ : List Int, y_ = (List.replicate ((l0.length : Int) : Int).toNat 0) := ⟨_, rfl⟩
  replace H : (laws_toIntS.l0 k l0 y172 0) = some r := by first | (rw [hy172]; with_reducible exact H) | (have H2_ := (Option.bind_some _ _).symm.trans H; rw [hy172]; with_reducible exact H2_) | (have H2_ := (Option.bind_some _ _).symm.trans H; with_reducible exact H2_) | with_reducible exact H | (rw [hy172]; exact H) | exact H
  have Ny172 := Aside0.mk hy172
  clear hy172
  have H' := Aside0.mk H
  clear H
  go_enter Tryd.func6, Tryd.ntmps6
  go_wp2_with (first | ((with_reducible refine gate_dst (N := 7) rfl ?_); refine Kd.R_make (Kd.int .i64) _ 3 rfl (N := 7) rfl 22 _ _ rfl (l0.length : Int) rfl rfl Tryd.underlying22 (.int .i64 0) 8 info3 rfl (by decide) (by omega) 0 (ok := fun _ => True) (okp := fun _ => True) rfl (fun _ hk => hk) trivial (of_decide_eq_true (by first | (with_reducible assumption) | assumption)) (Nat.le_trans (Nat.mul_le_mul_right _ (of_decide_eq_true (by first | (with_reducible assumption) | assumption) : (l0.length : Int).toNat ≤ 35184372088832)) (by omega)) (Below.refl _ _) (Nat.le_refl _) ?_; intro v173 w4 ho5 hb hg_ hnew_; clear hg_ hnew_; (first | rw [← Ny172.out] at ho5 | (simp only [Int.reduceToNat] at ho5; rw [← Ny172.out] at ho5)); have n0_ := Aside0.mk (Kd.R_lower ho5 (below_size (by repeat (first | (with_reducible first | exact HB.out | apply below_alloc | apply pw_below_drewN | apply below_drew1) | exact HB.out)))); have n1_ := Aside0.mk (below_step (by repeat (first | (with_reducible first | exact HB.out | apply below_alloc | apply pw_below_drewN | apply below_drew1) | exact HB.out)) hb); clear HB; have HO174 := n0_; have HB := n1_; clear n0_ n1_; clear hb ho5))
  go_loopg [4] k (fun kq v4 w' => ∃ (x3_1 : List Int) (x4_1 : Int), v4 = .int .i64 x4_1 ∧ Aside0 (laws_toIntS.l0 kq l0 x3_1 x4_1 = some r) ∧ Aside0 (kq ≤ k) ∧ Aside0 (Kd.R (Kd.int .i64) 3 w' w.heap.size (fun _ => True) v173 x3_1) ∧ Aside0 (Below w.heap.size w w'))
  case atStart => exact ⟨(y172), (0), (by first | rfl | (simp; done) | (simp [*]; done)), H', ⟨Nat.le_refl _⟩, ⟨by (with_reducible repeat (first | apply Kd.R_alloc | apply Kd.R_drewN | apply Kd.R_drew)); exact HO174.out⟩, ⟨by repeat (first | (with_reducible first | exact HB.out | apply below_alloc | apply pw_below_drewN | apply below_drew1) | exact HB.out)⟩⟩
  case round =>
    clear H'
    try clear c2
    try clear c2b0
    try clear c2b1
    try clear p2
    try clear c3
    try clear c3b0
    try clear c3b1
    obtain ⟨x3_1, x4_1, rfl, HA, HK1, HO_3, HB⟩ := hrel
    cases gk with
    | zero => exact absurd HA.out (by simp [laws_toIntS.l0])
    | succ k1 =>
      have H := HA.out
      clear HA
      simp only [laws_toIntS.l0] at H
      by_cases c6 : x4_1 < (l0.length : Int)
      rotate_left
      · rw [if_neg c6] at H
        have c6b0 : decide (x4_1 < (l0.length : Int)) = false := decide_eq_false c6
        clear c6
        obtain rfl := Option.some.inj H
        go_wp2
        go_ret
        exact ⟨_, by first | rfl | (simp [errW_none, errW_some] <;> rfl) | (simp [*, errW_none, errW_some] <;> rfl), by (with_reducible repeat (first | apply Kd.R_alloc | apply Kd.R_drewN | apply Kd.R_drew)); exact HO_3.out, by repeat (first | (with_reducible first | exact HB.out | apply below_alloc | apply pw_below_drewN | apply below_drew1) | exact HB.out)⟩
      rw [if_pos c6] at H
      have c6b0 : decide (x4_1 < (l0.length : Int)) = true := decide_eq_true c6
      clear c6
      by_cases c7 : 0 ≤ x4_1
      rotate_left
      · rw [if_neg c7] at H
        exact absurd H (by simp)
      rw [if_pos c7] at H
      have c7b0 : decide (0 ≤ x4_1) = true := decide_eq_true c7
      clear c7
      by_cases c8 : x4_1 < (x3_1.length : Int)
      rotate_left
      · rw [if_neg c8] at H
        exact absurd H (by simp)
      rw [if_pos c8] at H
      have c8b0 : decide (x4_1 < (x3_1.length : Int)) = true := decide_eq_true c8
      clear c8
      obtain ⟨y176, hy176⟩ : ∃ y_ : List Int, y_ = (x3_1.set (x4_1 : Int).toNat (rd l0 x4_1)) := ⟨_, rfl⟩
      replace H : (laws_toIntS.l0 k1 l0 y176 (wrap64 (x4_1 + 1))) = some r := by first | (rw [hy176]; with_reducible exact H) | (have H2_ := (Option.bind_some _ _).symm.trans H; rw [hy176]; with_reducible exact H2_) | (have H2_ := (Option.bind_some _ _).symm.trans H; with_reducible exact H2_) | with_reducible exact H | (rw [hy176]; exact H) | exact H
      have Ny176 := Aside0.mk hy176
      clear hy176
      have H' := Aside0.mk H
      clear H
      have p175 : 0 ≤ (x4_1 : Int) := of_decide_eq_true (by first | (with_reducible assumption) | assumption)
      have q175 : x4_1 < (l0.length : Int) := of_decide_eq_true (by first | (with_reducible assumption) | assumption)
      obtain ⟨ad175, e175, hx175_0⟩ := Kd.at_int HR0.out x4_1 p175 q175
      cases e175
      replace hx175_0 := (HB.out.cell (World.block_lt_of_cell? w _ hx175_0)).trans hx175_0
      replace p175 := eq_true p175
      replace q175 := eq_true q175
      have p9 : 0 ≤ (x4_1 : Int) := of_decide_eq_true (by first | (with_reducible assumption) | assumption)
      have q9 : (x4_1 : Int) < ((x3_1.length : Int) : Int) := of_decide_eq_true (by first | (with_reducible assumption) | assumption)
      obtain ⟨go9, co9, eo9, gb9, gl9, cl9, HG9⟩ := Kd.R_form HO_3.out (by omega)
      (first | cases eo9 | (injection eo9 with ea_ en_ ec_; (first | subst ea_ | (injection ea_ with ea_; subst ea_)); subst ec_; clear en_))
      have GB9 := Aside0.mk gb9
      have GG9 := Aside0.mk HG9
      clear gb9 gl9 HG9
      obtain ⟨hx9_0, hf9_0⟩ := Kd.R_celln 0 HO_3.out (x4_1 : Int) p9 q9
      replace p9 := eq_true p9
      replace q9 := eq_true q9
      have HP10 := Kd.R_putg HO_3.out (x4_1 : Int) (rd l0 x4_1)
      go_wp2_with (first | ((with_reducible refine gate_store (t := 3) (p := 20) rfl ?_); refine store_event (t := 3) (p := 20) (v := ?vo_w11) (w1 := (wr.setCell ⟨go9, (x4_1 : Int).toNat, none⟩ (.int .i64 (rd l0 x4_1)))) ?hg ?ho ?hn ?hr ?_; (case ho => rfl); (case hg => rfl); (case hn => rfl); (case hr => first | (go_simp; done) | (go_simp; rfl)); intro w11 hw; have hg : wr.grownBy w11 (some go9) := (by rw [hw]; exact HP10.2); have hp_ : Kd.R (Kd.int .i64) 3 w11 w.heap.size (fun _ => True) (.slice (some ⟨go9, 0, none⟩) x3_1.length co9) y176 := (by rw [hw, Ny176.out]; exact HP10.1); clear HP10; have n0_ := Aside0.mk (hp_); have n1_ := Aside0.mk ((by rw [hw]; exact below_set (HB.out) GB9.out : Below w.heap.size w w11)); clear HO_3; clear HB; have HO_3 := n0_; have HB := n1_; clear n0_ n1_; clear hg hw hp_))
      go_roundg k1
      case measure => have := HK1.out; omega
      case rel => exact ⟨(y176), (wrap64 (x4_1 + 1)), (by first | rfl | (simp; done) | (simp [*]; done)), H', ⟨by have := HK1.out; omega⟩, ⟨by (with_reducible repeat (first | apply Kd.R_alloc | apply Kd.R_drewN | apply Kd.R_drew)); exact HO_3.out⟩, ⟨by repeat (first | (with_reducible first | exact HB.out | apply below_alloc | apply pw_below_drewN | apply below_drew1) | exact HB.out)⟩⟩

/-! ### laws_toIntSS: function 27 -/
def laws_toIntSS.l0 : Nat → List (List Int) → List (List Int) → Int → Option ((List (List Int)))
  | 0, _, _, _ => none
  | k + 1, x0, x3, x4 => if x4 < (x0.length : Int) then (if 0 ≤ x4 then ((laws_toIntS.f k (rd_L1 x0 x4)).bind fun t181 => (if x4 < (x3.length : Int) then (laws_toIntSS.l0 k x0 (x3.set (x4 : Int).toNat t181) (wrap64 (x4 + 1))) else (none))) else (none)) else (some x3)
def laws_toIntSS.f (k : Nat) (l0 : List (List Int)) : Option ((List (List Int))) := if 0 ≤ (l0.length : Int) then (if ((l0.length : Int) : Int).toNat ≤ 11728124029610 then (laws_toIntSS.l0 k l0 (List.replicate ((l0.length : Int) : Int).toNat []) 0) else (none)) else (none)
theorem laws_toIntSS.mono_l : ∀ k, (∀ y0 y1 y2, LeO (laws_toIntSS.l0 k y0 y1 y2) (laws_toIntSS.l0 (k + 1) y0 y1 y2))
  | 0 => fun _ _ _ r h => by simp [laws_toIntSS.l0] at h
  | k + 1 => by
    have ih0 := laws_toIntSS.mono_l k
    · intro y0 y1 y2
      unfold laws_toIntSS.l0
      repeat' first
      | (with_reducible exact ih0 _ _ _)
      | (with_reducible exact laws_toIntS.mono _ _)
      | (with_reducible exact LeO.refl _)
      | (with_reducible exact LeO.none _)
      | (with_reducible refine LeO.ite ?_ ?_)
      | (with_reducible refine LeO.bind ?_ (fun _ => ?_))
      | exact ih0 _ _ _
      | exact laws_toIntS.mono _ _
      | exact LeO.none _
      | refine LeO.ite ?_ ?_
      | refine LeO.bind ?_ (fun _ => ?_)
theorem laws_toIntSS.mono : ∀ a0 k, LeO (laws_toIntSS.f k a0) (laws_toIntSS.f (k + 1) a0) := by
  intro a0 k
  have ih0 := laws_toIntSS.mono_l k
  unfold laws_toIntSS.f
  repeat' first
      | (with_reducible exact ih0 _ _ _)
      | (with_reducible exact laws_toIntS.mono _ _)
      | (with_reducible exact LeO.refl _)
      | (with_reducible exact LeO.none _)
      | (with_reducible refine LeO.ite ?_ ?_)
      | (with_reducible refine LeO.bind ?_ (fun _ => ?_))
      | exact ih0 _ _ _
      | exact laws_toIntS.mono _ _
      | exact LeO.none _
      | refine LeO.ite ?_ ?_
      | refine LeO.bind ?_ (fun _ => ?_)
set_option maxHeartbeats 8000000 in
set_option maxRecDepth 100000 in
theorem laws_toIntSS.calls (k : Nat) (A0 : Option Addr) (c0 : Nat) (l0 : List (List Int)) (r : List (List Int)) (w : World) (hr0 : Kd.C (Kd.slice 3 (Kd.int .i64)) w A0 l0.length l0) (hc0 : l0.length ≤ c0) (h : laws_toIntSS.f k l0 = some r) :
    Calls Tryd.prog 27 #[.slice A0 l0.length c0] w fun e w' => ∃ v0_ : Value, e = .returned (v0_) ∧ Kd.S (Kd.slice 3 (Kd.int .i64)) 22 w' w.heap.size (fun _ => True) v0_ r ∧ Below w.heap.size w w' := by
  have HR0 := Aside0.mk hr0
  have HC0 := Aside0.mk hc0
  clear hr0 hc0
  have HB := Aside0.mk (Below.refl w.heap.size w)
  have H : (if 0 ≤ (l0.length : Int) then (if ((l0.length : Int) : Int).toNat ≤ 11728124029610 then (laws_toIntSS.l0 k l0 (List.replicate ((l0.length : Int) : Int).toNat []) 0) else (none)) else (none)) = some r := h
  clear h
  by_cases c2 : 0 ≤ (l0.length : Int)
  rotate_left
  · rw [if_neg c2] at H
    exact absurd H (by simp)
  rw [if_pos c2] at H
  have c2b0 := eq_true c2
  have c2b1 : decide (0 ≤ (l0.length : Int)) = true := decide_eq_true c2
  clear c2
  by_cases c3 : ((l0.length : Int) : Int).toNat ≤ 11728124029610
  rotate_left
  · rw [if_neg c3] at H
    exact absurd H (by simp)
  rw [if_pos c3] at H
  have c3b0 := eq_true c3
  have c3b1 : decide (((l0.length : Int) : Int).toNat ≤ 11728124029610) = true := decide_eq_true c3
  clear c3
  obtain ⟨y177, hy177⟩ : ∃ y_ : List (List Int), y_ = (List.replicate ((l0.length : Int) : Int).toNat []) := ⟨_, rfl⟩
  replace H : (laws_toIntSS.l0 k l0 y177 0) = some r := by first | (rw [hy177]; with_reducible exact H) | (have H2_ := (Option.bind_some _ _).symm.trans H; rw [hy177]; with_reducible exact H2_) | (have H2_ := (Option.bind_some _ _).symm.trans H; with_reducible exact H2_) | with_reducible exact H | (rw [hy177]; exact H) | exact H
  have Ny177 := Aside0.mk hy177
  clear hy177
  have H' := Aside0.mk H
  clear H
  go_enter Tryd.func27, Tryd.ntmps27
  go_wp2_with (first | ((with_reducible refine gate_dst (N := 7) rfl ?_); refine Kd.S_make (Kd.slice 3 (Kd.int .i64)) _ 22 rfl (N := 7) rfl 31 _ _ rfl (l0.length : Int) rfl rfl Tryd.underlying31 (.slice none 0 0) 24 info22 rfl (by decide) (by omega) [] (ok := fun _ => True) (okp := fun _ => True) ⟨_, rfl, Kd.R_nil _ _ _ _ _⟩ (fun _ hk => hk) trivial (of_decide_eq_true (by first | (with_reducible assumption) | assumption)) (Nat.le_trans (Nat.mul_le_mul_right _ (of_decide_eq_true (by first | (with_reducible assumption) | assumption) : (l0.length : Int).toNat ≤ 11728124029610)) (by omega)) (Below.refl _ _) (Nat.le_refl _) ?_; intro v178 w4 ho5 hb hg_ hnew_; clear hg_ hnew_; (first | rw [← Ny177.out] at ho5 | (simp only [Int.reduceToNat] at ho5; rw [← Ny177.out] at ho5)); have n0_ := Aside0.mk (Kd.S_lower ho5 (below_size (by repeat (first | (with_reducible first | exact HB.out | apply below_alloc | apply pw_below_drewN | apply below_drew1) | exact HB.out)))); have n1_ := Aside0.mk (below_step (by repeat (first | (with_reducible first | exact HB.out | apply below_alloc | apply pw_below_drewN | apply below_drew1) | exact HB.out)) hb); clear HB; have HO179 := n0_; have HB := n1_; clear n0_ n1_; clear hb ho5))
  go_loopg [4] k (fun kq v4 w' => ∃ (x3_1 : List (List Int)) (x4_1 : Int), v4 = .int .i64 x4_1 ∧ Aside0 (laws_toIntSS.l0 kq l0 x3_1 x4_1 = some r) ∧ Aside0 (kq ≤ k) ∧ Aside0 (Kd.S (Kd.slice 3 (Kd.int .i64)) 22 w' w.heap.size (fun _ => True) v178 x3_1) ∧ Aside0 (Below w.heap.size w w'))
  case atStart => exact ⟨(y177), (0), (by first | rfl | (simp; done) | (simp [*]; done)), H', ⟨Nat.le_refl _⟩, ⟨by (with_reducible repeat (first | apply Kd.S_alloc | apply Kd.S_drewN | apply Kd.S_drew)); exact HO179.out⟩, ⟨by repeat (first | (with_reducible first | exact HB.out | apply below_alloc | apply pw_below_drewN | apply below_drew1) | exact HB.out)⟩⟩
  case round =>
    clear H'
    try clear c2
    try clear c2b0
    try clear c2b1
    try clear p2
    try clear c3
    try clear c3b0
    try clear c3b1
    obtain ⟨x3_1, x4_1, rfl, HA, HK1, HO_3, HB⟩ := hrel
    cases gk with
    | zero => exact absurd HA.out (by simp [laws_toIntSS.l0])
    | succ k1 =>
      have H := HA.out
      clear HA
      simp only [laws_toIntSS.l0] at H
      by_cases c6 : x4_1 < (l0.length : Int)
      rotate_left
      · rw [if_neg c6] at H
        have c6b0 : decide (x4_1 < (l0.length : Int)) = false := decide_eq_false c6
        clear c6
        obtain rfl := Option.some.inj H
        go_wp2
        go_ret
        exact ⟨_, by first | rfl | (simp [errW_none, errW_some] <;> rfl) | (simp [*, errW_none, errW_some] <;> rfl), by (with_reducible repeat (first | apply Kd.S_alloc | apply Kd.S_drewN | apply Kd.S_drew)); exact HO_3.out, by repeat (first | (with_reducible first | exact HB.out | apply below_alloc | apply pw_below_drewN | apply below_drew1) | exact HB.out)⟩
      rw [if_pos c6] at H
      have c6b0 : decide (x4_1 < (l0.length : Int)) = true := decide_eq_true c6
      clear c6
      by_cases c7 : 0 ≤ x4_1
      rotate_left
      · rw [if_neg c7] at H
        exact absurd H (by simp)
      rw [if_pos c7] at H
      have c7b0 : decide (0 ≤ x4_1) = true := decide_eq_true c7
      clear c7
      replace H := Option.bind_eq_some_iff.mp H
      obtain ⟨t181, A80, H⟩ := H
      replace H : (if x4_1 < (x3_1.length : Int) then (laws_toIntSS.l0 k1 l0 (x3_1.set (x4_1 : Int).toNat t181) (wrap64 (x4_1 + 1))) else (none)) = some r := H
      have A8 := Aside0.mk A80
      clear A80
      by_cases c9 : x4_1 < (x3_1.length : Int)
      rotate_left
      · rw [if_neg c9] at H
        exact absurd H (by simp)
      rw [if_pos c9] at H
      have c9b0 : decide (x4_1 < (x3_1.length : Int)) = true := decide_eq_true c9
      clear c9
      obtain ⟨y184, hy184⟩ : ∃ y_ : List (List Int), y_ = (x3_1.set (x4_1 : Int).toNat t181) := ⟨_, rfl⟩
      replace H : (laws_toIntSS.l0 k1 l0 y184 (wrap64 (x4_1 + 1))) = some r := by first | (rw [hy184]; with_reducible exact H) | (have H2_ := (Option.bind_some _ _).symm.trans H; rw [hy184]; with_reducible exact H2_) | (have H2_ := (Option.bind_some _ _).symm.trans H; with_reducible exact H2_) | with_reducible exact H | (rw [hy184]; exact H) | exact H
      have Ny184 := Aside0.mk hy184
      clear hy184
      have H' := Aside0.mk H
      clear H
      have p180 : 0 ≤ (x4_1 : Int) := of_decide_eq_true (by first | (with_reducible assumption) | assumption)
      have q180 : x4_1 < (l0.length : Int) := of_decide_eq_true (by first | (with_reducible assumption) | assumption)
      obtain ⟨ad180, A180_0, c180_0, e180, hx180_0, hl180_0, hi180_0⟩ := at_L1 HR0.out x4_1 p180 q180
      cases e180
      replace hx180_0 := (HB.out.cell (World.block_lt_of_cell? w _ hx180_0)).trans hx180_0
      have HR180_0 := Aside0.mk hi180_0
      have HC180_0 := Aside0.mk hl180_0
      clear hi180_0 hl180_0
      replace p180 := eq_true p180
      replace q180 := eq_true q180
      go_wp2_with (first | ((with_reducible refine gate_callee (f := 6) rfl ?_); refine goesL_ (some 20) rfl rfl Tryd.func6 (by kernel_rfl) rfl #[.slice A180_0 (rd_L1 l0 x4_1).length c180_0] rfl (by (try simp only [List.map_toArray, List.map_cons, List.map_nil]); first | done | rfl | (simp only [List.length_drop, List.length_take]; rfl)) ?_; (with_reducible refine (laws_toIntS.calls k1 _ _ (rd_L1 l0 x4_1) t181 _ ?side1 ?side2 A8.out).mono ?_); (case side1 => repeat (first | exact (Kd.C_below HR180_0.out HB.out) | (with_reducible refine Kd.C_alloc ?_ _) | (with_reducible refine Kd.C_drewN ?_ _) | (with_reducible refine Kd.C_drew ?_))); (case side2 => exact HC180_0.out); rintro e w11 ⟨v182, rfl, ho0, hb⟩; refine ⟨_, rfl, ?_⟩; have n0_ := Aside0.mk (Kd.S_elder' (by (with_reducible repeat (first | apply Kd.S_alloc | apply Kd.S_drewN | apply Kd.S_drew)); exact HO_3.out) (Kd.R_base ho0) hb); have n1_ := Aside0.mk (Kd.R_lower ho0 (below_size (by repeat (first | (with_reducible first | exact HB.out | apply below_alloc | apply pw_below_drewN | apply below_drew1) | exact HB.out)))); have n2_ := Aside0.mk (below_step (by repeat (first | (with_reducible first | exact HB.out | apply below_alloc | apply pw_below_drewN | apply below_drew1) | exact HB.out)) hb); clear HO_3; clear HB; have HO_3 := n0_; have HO183 := n1_; have HB := n2_; clear n0_ n1_ n2_; (try clear hb); (try clear hb2); (try clear hk); (try clear hi); (try clear ho0); have p10 : 0 ≤ (x4_1 : Int) := of_decide_eq_true (by first | (with_reducible assumption) | assumption); have q10 : (x4_1 : Int) < ((x3_1.length : Int) : Int) := of_decide_eq_true (by first | (with_reducible assumption) | assumption); obtain ⟨go10, co10, eo10, gb10, gl10, cl10, HG10⟩ := Kd.S_form HO_3.out (by omega); (first | cases eo10 | (injection eo10 with ea_ en_ ec_; (first | subst ea_ | (injection ea_ with ea_; subst ea_)); subst ec_; clear en_)); have GB10 := Aside0.mk gb10; have GG10 := Aside0.mk HG10; clear gb10 gl10 HG10; obtain ⟨_, ce10, hcl10, hM10, hcc10, hfr10, _, _⟩ := Kd.S_elem HO_3.out [] (x4_1 : Int) p10 q10; obtain ⟨ve10_0, rfl, ge10_0⟩ := hM10; have hx10_0 := hcc10 0 _ rfl; have hf10_0 := hfr10 0; (try simp only [show ((Kd.slice 3 (Kd.int .i64))).sz = 1 from rfl, Nat.mul_one, Nat.add_zero] at hx10_0); (try simp only [show ((Kd.slice 3 (Kd.int .i64))).sz = 1 from rfl, Nat.mul_one, Nat.add_zero] at hf10_0); clear hcl10 hcc10 hfr10; (try clear hM10); replace p10 := eq_true p10; replace q10 := eq_true q10; have n_ := Aside0.mk (Kd.S_mono (ok' := (fun k_ => some k_ ≠ (v182 : Value).ownBlock)) HO_3.out (fun k_ hk => hk.2)); clear HO_3; have HO_3 := n_; clear n_; have HX12 := Aside0.mk (show Kd.S (Kd.slice 3 (Kd.int .i64)) 22 w11 w.heap.size (fun k_ => ((fun _ => True)) k_ ∧ ¬ ((fun k_ => some k_ = (v182 : Value).ownBlock)) k_) (.slice (some ⟨go10, 0, none⟩) x3_1.length co10) x3_1 from (by (with_reducible repeat (first | apply Kd.S_alloc | apply Kd.S_drewN | apply Kd.S_drew)); exact Kd.S_mono HO_3.out (fun k_ hk => ⟨trivial, fun e_ => hk e_⟩))); obtain ⟨oki12, ce12, hcl12, hM12, hcc12, hfr12, hoki12, hH12⟩ := Kd.S_elem HX12.out [] (x4_1 : Int) (of_decide_eq_true (by first | (with_reducible assumption) | assumption)) (by have h_ : (x4_1 : Int) < ((x3_1.length : Int) : Int) := of_decide_eq_true (by first | (with_reducible assumption) | assumption); first | exact h_ | (have e_ := (Kd.S_reads' HO_3.out).1; omega) | simpa using h_); obtain ⟨ve12_0, rfl, ge12_0⟩ := hM12; have HP12 := Kd.S_seg hH12 (of_decide_eq_true (by first | (with_reducible assumption) | assumption)) (by have h_ : (x4_1 : Int) < ((x3_1.length : Int) : Int) := of_decide_eq_true (by first | (with_reducible assumption) | assumption); first | exact h_ | (have e_ := (Kd.S_reads' HO_3.out).1; omega) | simpa using h_) (seg := [v182]) (j := 0) (show 1 ≤ 1 from by decide) (x' := t181) (Kd.M_row (Kd.R_mono (Kd.R_tight rfl (Kd.R_mono (ok' := fun k_ => ((fun _ => True)) k_ ∧ k_ ≠ go10) (Kd.R_apart' (HO183.out) (Kd.S_typed HO_3.out) (by decide)) (fun k_ hk => ⟨trivial, fun e_ => (hk.2) (by rw [e_]; rfl)⟩))) (fun _ h_ => Or.inr (h_)))) (fun _ hk => hk) (fun k_ hk_ => ((Kd.R_mono (ok' := fun k_ => ((fun _ => True)) k_ ∧ k_ ≠ go10) (Kd.R_apart' (HO183.out) (Kd.S_typed HO_3.out) (by decide)) (fun k_ hk => ⟨trivial, fun e_ => (hk.2) (by rw [e_]; rfl)⟩))).1 k_ hk_.symm); have hx12_0 := hcc12 0 _ rfl; (try simp only [show ((Kd.slice 3 (Kd.int .i64))).sz = 1 from rfl, Nat.mul_one, Nat.add_zero] at hx12_0); have hf12_0 := hfr12 0; (try simp only [show ((Kd.slice 3 (Kd.int .i64))).sz = 1 from rfl, Nat.mul_one, Nat.add_zero] at hf12_0); clear hcl12 hcc12 hfr12 hoki12 hH12; (try clear hM12); (try simp only [show ((Kd.slice 3 (Kd.int .i64))).sz = 1 from rfl, Nat.mul_one, Nat.add_zero] at HP12)) | ((with_reducible refine gate_store (t := 22) (p := 21) rfl ?_); refine store_event (t := 22) (p := 21) (v := ?vo_w13) (w1 := (w11.setCell ⟨go10, (x4_1 : Int).toNat, none⟩ (v182))) ?hg ?ho ?hn ?hr ?_; (case ho => rfl); (case hg => rfl); (case hn => rfl); (case hr => first | (go_simp; done) | (go_simp; rfl) | (obtain ⟨A_, c_, ev_⟩ := Kd.R_slice HO183.out; simp only [ev_]; first | (go_simp; done) | (go_simp; rfl)) | (obtain ⟨A_, c_, ev_⟩ := Kd.S_slice HO183.out; simp only [ev_]; first | (go_simp; done) | (go_simp; rfl)) | (obtain ⟨A_, c_, ev_⟩ := Kd.N_slice HO183.out; simp only [ev_]; first | (go_simp; done) | (go_simp; rfl)) | (obtain ⟨A_, c_, ev_⟩ := Kd.V_slice HO183.out; simp only [ev_]; first | (go_simp; done) | (go_simp; rfl))); intro w13 hw; have hg : w11.grownBy w13 (some go10) := (by rw [hw]; exact HP12.2); have hp_ : Kd.S (Kd.slice 3 (Kd.int .i64)) 22 w13 w.heap.size (fun _ => True) (.slice (some ⟨go10, 0, none⟩) x3_1.length co10) y184 := (by rw [hw, Ny184.out]; exact HP12.1); clear HP12; have n0_ := Aside0.mk (hp_); have n1_ := Aside0.mk ((by rw [hw]; exact below_set (HB.out) GB10.out : Below w.heap.size w w13)); clear HO_3; clear HB; clear HO183; have HO_3 := n0_; have HB := n1_; clear n0_ n1_; clear hg hw hp_))
      go_roundg k1
      case measure => have := HK1.out; omega
      case rel => exact ⟨(y184), (wrap64 (x4_1 + 1)), (by first | rfl | (simp; done) | (simp [*]; done)), H', ⟨by have := HK1.out; omega⟩, ⟨by (with_reducible repeat (first | apply Kd.S_alloc | apply Kd.S_drewN | apply Kd.S_drew)); exact HO_3.out⟩, ⟨by repeat (first | (with_reducible first | exact HB.out | apply below_alloc | apply pw_below_drewN | apply below_drew1) | exact HB.out)⟩⟩

/-! ### laws_toTones: function 15 -/
def laws_toTones.f (k : Nat) (a0_0 : Int) (a0_1 : Int) (a0_2 : Int) (l0_3 : List (List Int)) (l0_4 : List (List Int)) : Option (Int × Int × Int × (List (List Int)) × (List (List Int))) := (laws_toIntSS.f k l0_3).bind fun t188 => ((laws_toIntSS.f k l0_4).bind fun t191 => (some (a0_0, a0_1, a0_2, t188, t191)))
theorem laws_toTones.mono : ∀ a0 a1 a2 a3 a4 k, LeO (laws_toTones.f k a0 a1 a2 a3 a4) (laws_toTones.f (k + 1) a0 a1 a2 a3 a4) := by
  intro a0 a1 a2 a3 a4 k
  unfold laws_toTones.f
  repeat' first
      | (with_reducible exact laws_toIntSS.mono _ _)
      | (with_reducible exact LeO.refl _)
      | (with_reducible exact LeO.none _)
      | (with_reducible refine LeO.ite ?_ ?_)
      | (with_reducible refine LeO.bind ?_ (fun _ => ?_))
      | exact laws_toIntSS.mono _ _
      | exact LeO.none _
      | refine LeO.ite ?_ ?_
      | refine LeO.bind ?_ (fun _ => ?_)
set_option maxHeartbeats 8000000 in
set_option maxRecDepth 100000 in
theorem laws_toTones.calls (k : Nat) (a0_0 : Int) (a0_1 : Int) (a0_2 : Int) (A0_3 : Option Addr) (c0_3 : Nat) (l0_3 : List (List Int)) (A0_4 : Option Addr) (c0_4 : Nat) (l0_4 : List (List Int)) (r1 : Int) (r2 : Int) (r3 : Int) (r4 : List (List Int)) (r5 : List (List Int)) (w : World) (hr0_3 : Kd.C (Kd.slice 3 (Kd.int .i64)) w A0_3 l0_3.length l0_3) (hc0_3 : l0_3.length ≤ c0_3) (hr0_4 : Kd.C (Kd.slice 3 (Kd.int .i64)) w A0_4 l0_4.length l0_4) (hc0_4 : l0_4.length ≤ c0_4) (h : laws_toTones.f k a0_0 a0_1 a0_2 l0_3 l0_4 = some (r1, r2, r3, r4, r5)) :
    Calls Tryd.prog 15 #[.agg #[.int .i64 a0_0, .int .i64 a0_1, .int .i64 a0_2, .slice A0_3 l0_3.length c0_3, .slice A0_4 l0_4.length c0_4]] w fun e w' => ∃ (v3_ v4_ : Value) (m_ : Nat), e = .returned (.agg #[.int .i64 r1, .int .i64 r2, .int .i64 r3, v3_, v4_]) ∧ (w.heap.size ≤ m_ ∧ m_ ≤ w'.heap.size) ∧ Kd.S (Kd.slice 3 (Kd.int .i64)) 22 w' w.heap.size (fun k_ => w.heap.size ≤ k_ ∧ k_ < m_) v3_ r4 ∧ Kd.S (Kd.slice 3 (Kd.int .i64)) 22 w' w.heap.size (fun k_ => m_ ≤ k_ ∧ k_ < w'.heap.size) v4_ r5 ∧ Below w.heap.size w w' := by
  have hu33 := Tryd.underlying33
  have hu36 := Tryd.underlying36
  have HR3 := Aside0.mk hr0_3
  have HC3 := Aside0.mk hc0_3
  have HR4 := Aside0.mk hr0_4
  have HC4 := Aside0.mk hc0_4
  clear hr0_3 hc0_3 hr0_4 hc0_4
  have HB := Aside0.mk (Below.refl w.heap.size w)
  have H := h
  clear h
  replace H := Option.bind_eq_some_iff.mp H
  obtain ⟨t188, A20, H⟩ := H
  have A2 := Aside0.mk A20
  clear A20
  replace H := Option.bind_eq_some_iff.mp H
  obtain ⟨t191, A30, H⟩ := H
  have A3 := Aside0.mk A30
  clear A30
  simp only [Option.some.injEq, Prod.mk.injEq] at H
  obtain ⟨rfl, rfl, rfl, rfl, rfl⟩ := H
  go_enter Tryd.func15, Tryd.ntmps15
  go_upto_region 2 with (first | ((with_reducible refine gate_dst (N := 1) rfl ?_); refine box_event ?hg (N := 1) ?hd (cs := #[.int .i64 a0_0, .int .i64 a0_1, .int .i64 a0_2, .slice A0_3 l0_3.length c0_3, .slice A0_4 l0_4.length c0_4]) (t := 33) ?hr ?_; (case hd => rfl); (case hg => rfl); (case hr => first | (go_simp; done) | (go_simp; rfl)); intro g1 hg w_1 hbox hb; have n_HB := Aside0.mk (below_step HB.out hb); have SZw_1 := Aside0.mk hb.size; clear HB; have HB := n_HB; clear n_HB; have BKg1 := Aside0.mk hbox; have GLg1 := Aside0.mk (show w.heap.size ≤ g1 from Nat.le_of_eq hg.symm); have GHg1 := Aside0.mk (blk_lt hbox); clear hg hbox hb; have hcz_g1_0 : (w_1).cell? ⟨g1, 0, none⟩ = some (.int .i64 a0_0) := (blk_cell BKg1.out 0).trans rfl; have hcz_g1_1 : (w_1).cell? ⟨g1, 1, none⟩ = some (.int .i64 a0_1) := (blk_cell BKg1.out 1).trans rfl; have hcz_g1_2 : (w_1).cell? ⟨g1, 2, none⟩ = some (.int .i64 a0_2) := (blk_cell BKg1.out 2).trans rfl; have hcz_g1_3 : (w_1).cell? ⟨g1, 3, none⟩ = some (.slice A0_3 l0_3.length c0_3) := (blk_cell BKg1.out 3).trans rfl; have hcz_g1_4 : (w_1).cell? ⟨g1, 4, none⟩ = some (.slice A0_4 l0_4.length c0_4) := (blk_cell BKg1.out 4).trans rfl; have hfz_g1_0 := blk_frozen BKg1.out 0; have hfz_g1_1 := blk_frozen BKg1.out 1; have hfz_g1_2 := blk_frozen BKg1.out 2; have hfz_g1_3 := blk_frozen BKg1.out 3; have hfz_g1_4 := blk_frozen BKg1.out 4) | ((with_reducible refine gate_dst (N := 2) rfl ?_); refine box_event ?hg (N := 2) ?hd (cs := #[.int .i64 0, .int .i64 0, .int .i64 0, .slice none 0 0, .slice none 0 0]) (t := 36) ?hr ?_; (case hd => rfl); (case hg => rfl); (case hr => first | (go_simp; done) | (go_simp; rfl)); intro g2 hg w_2 hbox hb; clear hcz_g1_0 hcz_g1_1 hcz_g1_2 hcz_g1_3 hcz_g1_4 hfz_g1_0 hfz_g1_1 hfz_g1_2 hfz_g1_3 hfz_g1_4; have n_HB := Aside0.mk (below_step HB.out hb); have SZw_2 := Aside0.mk hb.size; have n_BKg1 := Aside0.mk (blk_below BKg1.out hb); clear HB BKg1; have HB := n_HB; have BKg1 := n_BKg1; clear n_HB n_BKg1; have BKg2 := Aside0.mk hbox; have GLg2 := Aside0.mk (show w_1.heap.size ≤ g2 from Nat.le_of_eq hg.symm); have GHg2 := Aside0.mk (blk_lt hbox); clear hg hbox hb; have hcz_g1_0 : (w_2).cell? ⟨g1, 0, none⟩ = some (.int .i64 a0_0) := (blk_cell BKg1.out 0).trans rfl; have hcz_g1_1 : (w_2).cell? ⟨g1, 1, none⟩ = some (.int .i64 a0_1) := (blk_cell BKg1.out 1).trans rfl; have hcz_g1_2 : (w_2).cell? ⟨g1, 2, none⟩ = some (.int .i64 a0_2) := (blk_cell BKg1.out 2).trans rfl; have hcz_g1_3 : (w_2).cell? ⟨g1, 3, none⟩ = some (.slice A0_3 l0_3.length c0_3) := (blk_cell BKg1.out 3).trans rfl; have hcz_g1_4 : (w_2).cell? ⟨g1, 4, none⟩ = some (.slice A0_4 l0_4.length c0_4) := (blk_cell BKg1.out 4).trans rfl; have hfz_g1_0 := blk_frozen BKg1.out 0; have hfz_g1_1 := blk_frozen BKg1.out 1; have hfz_g1_2 := blk_frozen BKg1.out 2; have hfz_g1_3 := blk_frozen BKg1.out 3; have hfz_g1_4 := blk_frozen BKg1.out 4; have hcz_g2_0 : (w_2).cell? ⟨g2, 0, none⟩ = some (.int .i64 0) := (blk_cell BKg2.out 0).trans rfl; have hcz_g2_1 : (w_2).cell? ⟨g2, 1, none⟩ = some (.int .i64 0) := (blk_cell BKg2.out 1).trans rfl; have hcz_g2_2 : (w_2).cell? ⟨g2, 2, none⟩ = some (.int .i64 0) := (blk_cell BKg2.out 2).trans rfl; have hcz_g2_3 : (w_2).cell? ⟨g2, 3, none⟩ = some (.slice none 0 0) := (blk_cell BKg2.out 3).trans rfl; have hcz_g2_4 : (w_2).cell? ⟨g2, 4, none⟩ = some (.slice none 0 0) := (blk_cell BKg2.out 4).trans rfl; have hfz_g2_0 := blk_frozen BKg2.out 0; have hfz_g2_1 := blk_frozen BKg2.out 1; have hfz_g2_2 := blk_frozen BKg2.out 2; have hfz_g2_3 := blk_frozen BKg2.out 3; have hfz_g2_4 := blk_frozen BKg2.out 4) | ((with_reducible refine gate_dst (N := 3) rfl ?_); refine box_event ?hg (N := 3) ?hd (cs := #[.int .i64 0, .int .i64 0, .int .i64 0, .slice none 0 0, .slice none 0 0]) (t := 36) ?hr ?_; (case hd => rfl); (case hg => rfl); (case hr => first | (go_simp; done) | (go_simp; rfl)); intro g3 hg w_3 hbox hb; clear hcz_g1_0 hcz_g1_1 hcz_g1_2 hcz_g1_3 hcz_g1_4 hfz_g1_0 hfz_g1_1 hfz_g1_2 hfz_g1_3 hfz_g1_4 hcz_g2_0 hcz_g2_1 hcz_g2_2 hcz_g2_3 hcz_g2_4 hfz_g2_0 hfz_g2_1 hfz_g2_2 hfz_g2_3 hfz_g2_4; have n_HB := Aside0.mk (below_step HB.out hb); have SZw_3 := Aside0.mk hb.size; have n_BKg1 := Aside0.mk (blk_below BKg1.out hb); have n_BKg2 := Aside0.mk (blk_below BKg2.out hb); clear HB BKg1 BKg2; have HB := n_HB; have BKg1 := n_BKg1; have BKg2 := n_BKg2; clear n_HB n_BKg1 n_BKg2; have BKg3 := Aside0.mk hbox; have GLg3 := Aside0.mk (show w_2.heap.size ≤ g3 from Nat.le_of_eq hg.symm); have GHg3 := Aside0.mk (blk_lt hbox); clear hg hbox hb; have hcz_g1_0 : (w_3).cell? ⟨g1, 0, none⟩ = some (.int .i64 a0_0) := (blk_cell BKg1.out 0).trans rfl; have hcz_g1_1 : (w_3).cell? ⟨g1, 1, none⟩ = some (.int .i64 a0_1) := (blk_cell BKg1.out 1).trans rfl; have hcz_g1_2 : (w_3).cell? ⟨g1, 2, none⟩ = some (.int .i64 a0_2) := (blk_cell BKg1.out 2).trans rfl; have hcz_g1_3 : (w_3).cell? ⟨g1, 3, none⟩ = some (.slice A0_3 l0_3.length c0_3) := (blk_cell BKg1.out 3).trans rfl; have hcz_g1_4 : (w_3).cell? ⟨g1, 4, none⟩ = some (.slice A0_4 l0_4.length c0_4) := (blk_cell BKg1.out 4).trans rfl; have hfz_g1_0 := blk_frozen BKg1.out 0; have hfz_g1_1 := blk_frozen BKg1.out 1; have hfz_g1_2 := blk_frozen BKg1.out 2; have hfz_g1_3 := blk_frozen BKg1.out 3; have hfz_g1_4 := blk_frozen BKg1.out 4; have hcz_g2_0 : (w_3).cell? ⟨g2, 0, none⟩ = some (.int .i64 0) := (blk_cell BKg2.out 0).trans rfl; have hcz_g2_1 : (w_3).cell? ⟨g2, 1, none⟩ = some (.int .i64 0) := (blk_cell BKg2.out 1).trans rfl; have hcz_g2_2 : (w_3).cell? ⟨g2, 2, none⟩ = some (.int .i64 0) := (blk_cell BKg2.out 2).trans rfl; have hcz_g2_3 : (w_3).cell? ⟨g2, 3, none⟩ = some (.slice none 0 0) := (blk_cell BKg2.out 3).trans rfl; have hcz_g2_4 : (w_3).cell? ⟨g2, 4, none⟩ = some (.slice none 0 0) := (blk_cell BKg2.out 4).trans rfl; have hfz_g2_0 := blk_frozen BKg2.out 0; have hfz_g2_1 := blk_frozen BKg2.out 1; have hfz_g2_2 := blk_frozen BKg2.out 2; have hfz_g2_3 := blk_frozen BKg2.out 3; have hfz_g2_4 := blk_frozen BKg2.out 4; have hcz_g3_0 : (w_3).cell? ⟨g3, 0, none⟩ = some (.int .i64 0) := (blk_cell BKg3.out 0).trans rfl; have hcz_g3_1 : (w_3).cell? ⟨g3, 1, none⟩ = some (.int .i64 0) := (blk_cell BKg3.out 1).trans rfl; have hcz_g3_2 : (w_3).cell? ⟨g3, 2, none⟩ = some (.int .i64 0) := (blk_cell BKg3.out 2).trans rfl; have hcz_g3_3 : (w_3).cell? ⟨g3, 3, none⟩ = some (.slice none 0 0) := (blk_cell BKg3.out 3).trans rfl; have hcz_g3_4 : (w_3).cell? ⟨g3, 4, none⟩ = some (.slice none 0 0) := (blk_cell BKg3.out 4).trans rfl; have hfz_g3_0 := blk_frozen BKg3.out 0; have hfz_g3_1 := blk_frozen BKg3.out 1; have hfz_g3_2 := blk_frozen BKg3.out 2; have hfz_g3_3 := blk_frozen BKg3.out 3; have hfz_g3_4 := blk_frozen BKg3.out 4))
  go_upto_region 3 with (fail)
  clear hcz_g1_0 hcz_g1_1 hcz_g1_2 hcz_g1_3 hcz_g1_4 hfz_g1_0 hfz_g1_1 hfz_g1_2 hfz_g1_3 hfz_g1_4 hcz_g2_0 hcz_g2_1 hcz_g2_2 hcz_g2_3 hcz_g2_4 hfz_g2_0 hfz_g2_1 hfz_g2_2 hfz_g2_3 hfz_g2_4 hcz_g3_0 hcz_g3_1 hcz_g3_2 hcz_g3_3 hcz_g3_4 hfz_g3_0 hfz_g3_1 hfz_g3_2 hfz_g3_3 hfz_g3_4
  have n_HB := Aside0.mk (show Below w.heap.size w (World.setCell w_3 ⟨g3, 0, none⟩ (.int .i64 a0_0)) from by repeat (first | exact HB.out | refine below_set ?_ (by have := GLg3.out; have := SZw_1.out; have := SZw_2.out; have := SZw_3.out; omega)))
  have SZw_4 := Aside0.mk (show w_3.heap.size ≤ (World.setCell w_3 ⟨g3, 0, none⟩ (.int .i64 a0_0)).heap.size by simp [World.setCell])
  have SYw_4 := Aside0.mk (show (World.setCell w_3 ⟨g3, 0, none⟩ (.int .i64 a0_0)).heap.size ≤ w_3.heap.size by simp [World.setCell])
  have n_BKg1 := Aside0.mk (blk_far (p := ⟨g3, 0, none⟩) BKg1.out (by have := GLg3.out; have := GHg3.out; have := GLg1.out; have := GHg1.out; show g1 ≠ g3; have := SZw_1.out; have := SZw_2.out; have := SZw_3.out; omega) (.int .i64 a0_0))
  have n_BKg2 := Aside0.mk (blk_far (p := ⟨g3, 0, none⟩) BKg2.out (by have := GLg3.out; have := GHg3.out; have := GLg2.out; have := GHg2.out; show g2 ≠ g3; have := SZw_1.out; have := SZw_2.out; have := SZw_3.out; omega) (.int .i64 a0_0))
  have n_BKg3 := Aside0.mk (show (World.setCell w_3 ⟨g3, 0, none⟩ (.int .i64 a0_0)).heap[g3]? = some (.cells #[.int .i64 a0_0, .int .i64 0, .int .i64 0, .slice none 0 0, .slice none 0 0] 36 (0, 0)) from (blk_set BKg3.out 0 (.int .i64 a0_0)))
  clear HB BKg1 BKg2 BKg3
  generalize (World.setCell w_3 ⟨g3, 0, none⟩ (.int .i64 a0_0)) = w_4 at n_HB SZw_4 SYw_4 n_BKg1 n_BKg2 n_BKg3 ⊢
  have HB := n_HB
  have BKg1 := n_BKg1
  have BKg2 := n_BKg2
  have BKg3 := n_BKg3
  clear n_HB n_BKg1 n_BKg2 n_BKg3
  have hcz_g1_0 : (w_4).cell? ⟨g1, 0, none⟩ = some (.int .i64 a0_0) := (blk_cell BKg1.out 0).trans rfl
  have hcz_g1_1 : (w_4).cell? ⟨g1, 1, none⟩ = some (.int .i64 a0_1) := (blk_cell BKg1.out 1).trans rfl
  have hcz_g1_2 : (w_4).cell? ⟨g1, 2, none⟩ = some (.int .i64 a0_2) := (blk_cell BKg1.out 2).trans rfl
  have hcz_g1_3 : (w_4).cell? ⟨g1, 3, none⟩ = some (.slice A0_3 l0_3.length c0_3) := (blk_cell BKg1.out 3).trans rfl
  have hcz_g1_4 : (w_4).cell? ⟨g1, 4, none⟩ = some (.slice A0_4 l0_4.length c0_4) := (blk_cell BKg1.out 4).trans rfl
  have hfz_g1_0 := blk_frozen BKg1.out 0
  have hfz_g1_1 := blk_frozen BKg1.out 1
  have hfz_g1_2 := blk_frozen BKg1.out 2
  have hfz_g1_3 := blk_frozen BKg1.out 3
  have hfz_g1_4 := blk_frozen BKg1.out 4
  have hcz_g2_0 : (w_4).cell? ⟨g2, 0, none⟩ = some (.int .i64 0) := (blk_cell BKg2.out 0).trans rfl
  have hcz_g2_1 : (w_4).cell? ⟨g2, 1, none⟩ = some (.int .i64 0) := (blk_cell BKg2.out 1).trans rfl
  have hcz_g2_2 : (w_4).cell? ⟨g2, 2, none⟩ = some (.int .i64 0) := (blk_cell BKg2.out 2).trans rfl
  have hcz_g2_3 : (w_4).cell? ⟨g2, 3, none⟩ = some (.slice none 0 0) := (blk_cell BKg2.out 3).trans rfl
  have hcz_g2_4 : (w_4).cell? ⟨g2, 4, none⟩ = some (.slice none 0 0) := (blk_cell BKg2.out 4).trans rfl
  have hfz_g2_0 := blk_frozen BKg2.out 0
  have hfz_g2_1 := blk_frozen BKg2.out 1
  have hfz_g2_2 := blk_frozen BKg2.out 2
  have hfz_g2_3 := blk_frozen BKg2.out 3
  have hfz_g2_4 := blk_frozen BKg2.out 4
  have hcz_g3_0 : (w_4).cell? ⟨g3, 0, none⟩ = some (.int .i64 a0_0) := (blk_cell BKg3.out 0).trans rfl
  have hcz_g3_1 : (w_4).cell? ⟨g3, 1, none⟩ = some (.int .i64 0) := (blk_cell BKg3.out 1).trans rfl
  have hcz_g3_2 : (w_4).cell? ⟨g3, 2, none⟩ = some (.int .i64 0) := (blk_cell BKg3.out 2).trans rfl
  have hcz_g3_3 : (w_4).cell? ⟨g3, 3, none⟩ = some (.slice none 0 0) := (blk_cell BKg3.out 3).trans rfl
  have hcz_g3_4 : (w_4).cell? ⟨g3, 4, none⟩ = some (.slice none 0 0) := (blk_cell BKg3.out 4).trans rfl
  have hfz_g3_0 := blk_frozen BKg3.out 0
  have hfz_g3_1 := blk_frozen BKg3.out 1
  have hfz_g3_2 := blk_frozen BKg3.out 2
  have hfz_g3_3 := blk_frozen BKg3.out 3
  have hfz_g3_4 := blk_frozen BKg3.out 4
  go_upto_region 4 with (fail)
  clear hcz_g1_0 hcz_g1_1 hcz_g1_2 hcz_g1_3 hcz_g1_4 hfz_g1_0 hfz_g1_1 hfz_g1_2 hfz_g1_3 hfz_g1_4 hcz_g2_0 hcz_g2_1 hcz_g2_2 hcz_g2_3 hcz_g2_4 hfz_g2_0 hfz_g2_1 hfz_g2_2 hfz_g2_3 hfz_g2_4 hcz_g3_0 hcz_g3_1 hcz_g3_2 hcz_g3_3 hcz_g3_4 hfz_g3_0 hfz_g3_1 hfz_g3_2 hfz_g3_3 hfz_g3_4
  have n_HB := Aside0.mk (show Below w.heap.size w (World.setCell w_4 ⟨g3, 1, none⟩ (.int .i64 a0_1)) from by repeat (first | exact HB.out | refine below_set ?_ (by have := GLg3.out; have := SZw_1.out; have := SZw_2.out; have := SZw_3.out; have := SZw_4.out; have := SYw_4.out; omega)))
  have SZw_5 := Aside0.mk (show w_4.heap.size ≤ (World.setCell w_4 ⟨g3, 1, none⟩ (.int .i64 a0_1)).heap.size by simp [World.setCell])
  have SYw_5 := Aside0.mk (show (World.setCell w_4 ⟨g3, 1, none⟩ (.int .i64 a0_1)).heap.size ≤ w_4.heap.size by simp [World.setCell])
  have n_BKg1 := Aside0.mk (blk_far (p := ⟨g3, 1, none⟩) BKg1.out (by have := GLg3.out; have := GHg3.out; have := GLg1.out; have := GHg1.out; show g1 ≠ g3; have := SZw_1.out; have := SZw_2.out; have := SZw_3.out; have := SZw_4.out; have := SYw_4.out; omega) (.int .i64 a0_1))
  have n_BKg2 := Aside0.mk (blk_far (p := ⟨g3, 1, none⟩) BKg2.out (by have := GLg3.out; have := GHg3.out; have := GLg2.out; have := GHg2.out; show g2 ≠ g3; have := SZw_1.out; have := SZw_2.out; have := SZw_3.out; have := SZw_4.out; have := SYw_4.out; omega) (.int .i64 a0_1))
  have n_BKg3 := Aside0.mk (show (World.setCell w_4 ⟨g3, 1, none⟩ (.int .i64 a0_1)).heap[g3]? = some (.cells #[.int .i64 a0_0, .int .i64 a0_1, .int .i64 0, .slice none 0 0, .slice none 0 0] 36 (0, 0)) from (blk_set BKg3.out 1 (.int .i64 a0_1)))
  clear HB BKg1 BKg2 BKg3
  generalize (World.setCell w_4 ⟨g3, 1, none⟩ (.int .i64 a0_1)) = w_5 at n_HB SZw_5 SYw_5 n_BKg1 n_BKg2 n_BKg3 ⊢
  have HB := n_HB
  have BKg1 := n_BKg1
  have BKg2 := n_BKg2
  have BKg3 := n_BKg3
  clear n_HB n_BKg1 n_BKg2 n_BKg3
  have hcz_g1_0 : (w_5).cell? ⟨g1, 0, none⟩ = some (.int .i64 a0_0) := (blk_cell BKg1.out 0).trans rfl
  have hcz_g1_1 : (w_5).cell? ⟨g1, 1, none⟩ = some (.int .i64 a0_1) := (blk_cell BKg1.out 1).trans rfl
  have hcz_g1_2 : (w_5).cell? ⟨g1, 2, none⟩ = some (.int .i64 a0_2) := (blk_cell BKg1.out 2).trans rfl
  have hcz_g1_3 : (w_5).cell? ⟨g1, 3, none⟩ = some (.slice A0_3 l0_3.length c0_3) := (blk_cell BKg1.out 3).trans rfl
  have hcz_g1_4 : (w_5).cell? ⟨g1, 4, none⟩ = some (.slice A0_4 l0_4.length c0_4) := (blk_cell BKg1.out 4).trans rfl
  have hfz_g1_0 := blk_frozen BKg1.out 0
  have hfz_g1_1 := blk_frozen BKg1.out 1
  have hfz_g1_2 := blk_frozen BKg1.out 2
  have hfz_g1_3 := blk_frozen BKg1.out 3
  have hfz_g1_4 := blk_frozen BKg1.out 4
  have hcz_g2_0 : (w_5).cell? ⟨g2, 0, none⟩ = some (.int .i64 0) := (blk_cell BKg2.out 0).trans rfl
  have hcz_g2_1 : (w_5).cell? ⟨g2, 1, none⟩ = some (.int .i64 0) := (blk_cell BKg2.out 1).trans rfl
  have hcz_g2_2 : (w_5).cell? ⟨g2, 2, none⟩ = some (.int .i64 0) := (blk_cell BKg2.out 2).trans rfl
  have hcz_g2_3 : (w_5).cell? ⟨g2, 3, none⟩ = some (.slice none 0 0) := (blk_cell BKg2.out 3).trans rfl
  have hcz_g2_4 : (w_5).cell? ⟨g2, 4, none⟩ = some (.slice none 0 0) := (blk_cell BKg2.out 4).trans rfl
  have hfz_g2_0 := blk_frozen BKg2.out 0
  have hfz_g2_1 := blk_frozen BKg2.out 1
  have hfz_g2_2 := blk_frozen BKg2.out 2
  have hfz_g2_3 := blk_frozen BKg2.out 3
  have hfz_g2_4 := blk_frozen BKg2.out 4
  have hcz_g3_0 : (w_5).cell? ⟨g3, 0, none⟩ = some (.int .i64 a0_0) := (blk_cell BKg3.out 0).trans rfl
  have hcz_g3_1 : (w_5).cell? ⟨g3, 1, none⟩ = some (.int .i64 a0_1) := (blk_cell BKg3.out 1).trans rfl
  have hcz_g3_2 : (w_5).cell? ⟨g3, 2, none⟩ = some (.int .i64 0) := (blk_cell BKg3.out 2).trans rfl
  have hcz_g3_3 : (w_5).cell? ⟨g3, 3, none⟩ = some (.slice none 0 0) := (blk_cell BKg3.out 3).trans rfl
  have hcz_g3_4 : (w_5).cell? ⟨g3, 4, none⟩ = some (.slice none 0 0) := (blk_cell BKg3.out 4).trans rfl
  have hfz_g3_0 := blk_frozen BKg3.out 0
  have hfz_g3_1 := blk_frozen BKg3.out 1
  have hfz_g3_2 := blk_frozen BKg3.out 2
  have hfz_g3_3 := blk_frozen BKg3.out 3
  have hfz_g3_4 := blk_frozen BKg3.out 4
  go_upto_region 5 with (fail)
  clear hcz_g1_0 hcz_g1_1 hcz_g1_2 hcz_g1_3 hcz_g1_4 hfz_g1_0 hfz_g1_1 hfz_g1_2 hfz_g1_3 hfz_g1_4 hcz_g2_0 hcz_g2_1 hcz_g2_2 hcz_g2_3 hcz_g2_4 hfz_g2_0 hfz_g2_1 hfz_g2_2 hfz_g2_3 hfz_g2_4 hcz_g3_0 hcz_g3_1 hcz_g3_2 hcz_g3_3 hcz_g3_4 hfz_g3_0 hfz_g3_1 hfz_g3_2 hfz_g3_3 hfz_g3_4
  have n_HB := Aside0.mk (show Below w.heap.size w (World.setCell w_5 ⟨g3, 2, none⟩ (.int .i64 a0_2)) from by repeat (first | exact HB.out | refine below_set ?_ (by have := GLg3.out; have := SZw_1.out; have := SZw_2.out; have := SZw_3.out; have := SZw_4.out; have := SYw_4.out; have := SZw_5.out; have := SYw_5.out; omega)))
  have SZw_6 := Aside0.mk (show w_5.heap.size ≤ (World.setCell w_5 ⟨g3, 2, none⟩ (.int .i64 a0_2)).heap.size by simp [World.setCell])
  have SYw_6 := Aside0.mk (show (World.setCell w_5 ⟨g3, 2, none⟩ (.int .i64 a0_2)).heap.size ≤ w_5.heap.size by simp [World.setCell])
  have n_BKg1 := Aside0.mk (blk_far (p := ⟨g3, 2, none⟩) BKg1.out (by have := GLg3.out; have := GHg3.out; have := GLg1.out; have := GHg1.out; show g1 ≠ g3; have := SZw_1.out; have := SZw_2.out; have := SZw_3.out; have := SZw_4.out; have := SYw_4.out; have := SZw_5.out; have := SYw_5.out; omega) (.int .i64 a0_2))
  have n_BKg2 := Aside0.mk (blk_far (p := ⟨g3, 2, none⟩) BKg2.out (by have := GLg3.out; have := GHg3.out; have := GLg2.out; have := GHg2.out; show g2 ≠ g3; have := SZw_1.out; have := SZw_2.out; have := SZw_3.out; have := SZw_4.out; have := SYw_4.out; have := SZw_5.out; have := SYw_5.out; omega) (.int .i64 a0_2))
  have n_BKg3 := Aside0.mk (show (World.setCell w_5 ⟨g3, 2, none⟩ (.int .i64 a0_2)).heap[g3]? = some (.cells #[.int .i64 a0_0, .int .i64 a0_1, .int .i64 a0_2, .slice none 0 0, .slice none 0 0] 36 (0, 0)) from (blk_set BKg3.out 2 (.int .i64 a0_2)))
  clear HB BKg1 BKg2 BKg3
  generalize (World.setCell w_5 ⟨g3, 2, none⟩ (.int .i64 a0_2)) = w_6 at n_HB SZw_6 SYw_6 n_BKg1 n_BKg2 n_BKg3 ⊢
  have HB := n_HB
  have BKg1 := n_BKg1
  have BKg2 := n_BKg2
  have BKg3 := n_BKg3
  clear n_HB n_BKg1 n_BKg2 n_BKg3
  have hcz_g1_0 : (w_6).cell? ⟨g1, 0, none⟩ = some (.int .i64 a0_0) := (blk_cell BKg1.out 0).trans rfl
  have hcz_g1_1 : (w_6).cell? ⟨g1, 1, none⟩ = some (.int .i64 a0_1) := (blk_cell BKg1.out 1).trans rfl
  have hcz_g1_2 : (w_6).cell? ⟨g1, 2, none⟩ = some (.int .i64 a0_2) := (blk_cell BKg1.out 2).trans rfl
  have hcz_g1_3 : (w_6).cell? ⟨g1, 3, none⟩ = some (.slice A0_3 l0_3.length c0_3) := (blk_cell BKg1.out 3).trans rfl
  have hcz_g1_4 : (w_6).cell? ⟨g1, 4, none⟩ = some (.slice A0_4 l0_4.length c0_4) := (blk_cell BKg1.out 4).trans rfl
  have hfz_g1_0 := blk_frozen BKg1.out 0
  have hfz_g1_1 := blk_frozen BKg1.out 1
  have hfz_g1_2 := blk_frozen BKg1.out 2
  have hfz_g1_3 := blk_frozen BKg1.out 3
  have hfz_g1_4 := blk_frozen BKg1.out 4
  have hcz_g2_0 : (w_6).cell? ⟨g2, 0, none⟩ = some (.int .i64 0) := (blk_cell BKg2.out 0).trans rfl
  have hcz_g2_1 : (w_6).cell? ⟨g2, 1, none⟩ = some (.int .i64 0) := (blk_cell BKg2.out 1).trans rfl
  have hcz_g2_2 : (w_6).cell? ⟨g2, 2, none⟩ = some (.int .i64 0) := (blk_cell BKg2.out 2).trans rfl
  have hcz_g2_3 : (w_6).cell? ⟨g2, 3, none⟩ = some (.slice none 0 0) := (blk_cell BKg2.out 3).trans rfl
  have hcz_g2_4 : (w_6).cell? ⟨g2, 4, none⟩ = some (.slice none 0 0) := (blk_cell BKg2.out 4).trans rfl
  have hfz_g2_0 := blk_frozen BKg2.out 0
  have hfz_g2_1 := blk_frozen BKg2.out 1
  have hfz_g2_2 := blk_frozen BKg2.out 2
  have hfz_g2_3 := blk_frozen BKg2.out 3
  have hfz_g2_4 := blk_frozen BKg2.out 4
  have hcz_g3_0 : (w_6).cell? ⟨g3, 0, none⟩ = some (.int .i64 a0_0) := (blk_cell BKg3.out 0).trans rfl
  have hcz_g3_1 : (w_6).cell? ⟨g3, 1, none⟩ = some (.int .i64 a0_1) := (blk_cell BKg3.out 1).trans rfl
  have hcz_g3_2 : (w_6).cell? ⟨g3, 2, none⟩ = some (.int .i64 a0_2) := (blk_cell BKg3.out 2).trans rfl
  have hcz_g3_3 : (w_6).cell? ⟨g3, 3, none⟩ = some (.slice none 0 0) := (blk_cell BKg3.out 3).trans rfl
  have hcz_g3_4 : (w_6).cell? ⟨g3, 4, none⟩ = some (.slice none 0 0) := (blk_cell BKg3.out 4).trans rfl
  have hfz_g3_0 := blk_frozen BKg3.out 0
  have hfz_g3_1 := blk_frozen BKg3.out 1
  have hfz_g3_2 := blk_frozen BKg3.out 2
  have hfz_g3_3 := blk_frozen BKg3.out 3
  have hfz_g3_4 := blk_frozen BKg3.out 4
  go_upto_region 6 with (first | ((with_reducible refine gate_callee (f := 27) rfl ?_); refine goesL_ (some 15) rfl rfl Tryd.func27 (by kernel_rfl) rfl #[.slice A0_3 l0_3.length c0_3] rfl (by (try simp only [List.map_toArray, List.map_cons, List.map_nil]); first | done | rfl) ?_; (with_reducible refine (laws_toIntSS.calls k _ _ l0_3 t188 _ ?side1 ?side2 A2.out).mono ?_); (case side1 => exact Kd.C_below HR3.out HB.out); (case side2 => exact HC3.out); rintro e w_7 ⟨vs3, rfl, hos3, hb⟩; refine ⟨_, rfl, ?_⟩; clear hcz_g1_0 hcz_g1_1 hcz_g1_2 hcz_g1_3 hcz_g1_4 hfz_g1_0 hfz_g1_1 hfz_g1_2 hfz_g1_3 hfz_g1_4 hcz_g2_0 hcz_g2_1 hcz_g2_2 hcz_g2_3 hcz_g2_4 hfz_g2_0 hfz_g2_1 hfz_g2_2 hfz_g2_3 hfz_g2_4 hcz_g3_0 hcz_g3_1 hcz_g3_2 hcz_g3_3 hcz_g3_4 hfz_g3_0 hfz_g3_1 hfz_g3_2 hfz_g3_3 hfz_g3_4; have n_HB := Aside0.mk (below_step HB.out hb); have SZw_7 := Aside0.mk hb.size; have n_BKg1 := Aside0.mk (blk_below BKg1.out hb); have n_BKg2 := Aside0.mk (blk_below BKg2.out hb); have n_BKg3 := Aside0.mk (blk_below BKg3.out hb); clear HB BKg1 BKg2 BKg3; have HB := n_HB; have BKg1 := n_BKg1; have BKg2 := n_BKg2; have BKg3 := n_BKg3; clear n_HB n_BKg1 n_BKg2 n_BKg3; have HOs3 := Aside0.mk (show Kd.S (Kd.slice 3 (Kd.int .i64)) 22 w_7 w.heap.size (fun k_ => w_6.heap.size ≤ k_ ∧ k_ < w_7.heap.size) vs3 t188 from Kd.S_lower (Kd.S_mono (Kd.S_bound hos3) (fun k_ hk => ⟨hk.2.1, hk.2.2.1⟩)) (by have := SZw_1.out; have := SZw_2.out; have := SZw_3.out; have := SZw_4.out; have := SYw_4.out; have := SZw_5.out; have := SYw_5.out; have := SZw_6.out; have := SYw_6.out; have := SZw_7.out; omega)); obtain ⟨As3, cs3, es3⟩ := Kd.S_slice HOs3.out; subst es3; clear hb hos3; have hcz_g1_0 : (w_7).cell? ⟨g1, 0, none⟩ = some (.int .i64 a0_0) := (blk_cell BKg1.out 0).trans rfl; have hcz_g1_1 : (w_7).cell? ⟨g1, 1, none⟩ = some (.int .i64 a0_1) := (blk_cell BKg1.out 1).trans rfl; have hcz_g1_2 : (w_7).cell? ⟨g1, 2, none⟩ = some (.int .i64 a0_2) := (blk_cell BKg1.out 2).trans rfl; have hcz_g1_3 : (w_7).cell? ⟨g1, 3, none⟩ = some (.slice A0_3 l0_3.length c0_3) := (blk_cell BKg1.out 3).trans rfl; have hcz_g1_4 : (w_7).cell? ⟨g1, 4, none⟩ = some (.slice A0_4 l0_4.length c0_4) := (blk_cell BKg1.out 4).trans rfl; have hfz_g1_0 := blk_frozen BKg1.out 0; have hfz_g1_1 := blk_frozen BKg1.out 1; have hfz_g1_2 := blk_frozen BKg1.out 2; have hfz_g1_3 := blk_frozen BKg1.out 3; have hfz_g1_4 := blk_frozen BKg1.out 4; have hcz_g2_0 : (w_7).cell? ⟨g2, 0, none⟩ = some (.int .i64 0) := (blk_cell BKg2.out 0).trans rfl; have hcz_g2_1 : (w_7).cell? ⟨g2, 1, none⟩ = some (.int .i64 0) := (blk_cell BKg2.out 1).trans rfl; have hcz_g2_2 : (w_7).cell? ⟨g2, 2, none⟩ = some (.int .i64 0) := (blk_cell BKg2.out 2).trans rfl; have hcz_g2_3 : (w_7).cell? ⟨g2, 3, none⟩ = some (.slice none 0 0) := (blk_cell BKg2.out 3).trans rfl; have hcz_g2_4 : (w_7).cell? ⟨g2, 4, none⟩ = some (.slice none 0 0) := (blk_cell BKg2.out 4).trans rfl; have hfz_g2_0 := blk_frozen BKg2.out 0; have hfz_g2_1 := blk_frozen BKg2.out 1; have hfz_g2_2 := blk_frozen BKg2.out 2; have hfz_g2_3 := blk_frozen BKg2.out 3; have hfz_g2_4 := blk_frozen BKg2.out 4; have hcz_g3_0 : (w_7).cell? ⟨g3, 0, none⟩ = some (.int .i64 a0_0) := (blk_cell BKg3.out 0).trans rfl; have hcz_g3_1 : (w_7).cell? ⟨g3, 1, none⟩ = some (.int .i64 a0_1) := (blk_cell BKg3.out 1).trans rfl; have hcz_g3_2 : (w_7).cell? ⟨g3, 2, none⟩ = some (.int .i64 a0_2) := (blk_cell BKg3.out 2).trans rfl; have hcz_g3_3 : (w_7).cell? ⟨g3, 3, none⟩ = some (.slice none 0 0) := (blk_cell BKg3.out 3).trans rfl; have hcz_g3_4 : (w_7).cell? ⟨g3, 4, none⟩ = some (.slice none 0 0) := (blk_cell BKg3.out 4).trans rfl; have hfz_g3_0 := blk_frozen BKg3.out 0; have hfz_g3_1 := blk_frozen BKg3.out 1; have hfz_g3_2 := blk_frozen BKg3.out 2; have hfz_g3_3 := blk_frozen BKg3.out 3; have hfz_g3_4 := blk_frozen BKg3.out 4))
  clear hcz_g1_0 hcz_g1_1 hcz_g1_2 hcz_g1_3 hcz_g1_4 hfz_g1_0 hfz_g1_1 hfz_g1_2 hfz_g1_3 hfz_g1_4 hcz_g2_0 hcz_g2_1 hcz_g2_2 hcz_g2_3 hcz_g2_4 hfz_g2_0 hfz_g2_1 hfz_g2_2 hfz_g2_3 hfz_g2_4 hcz_g3_0 hcz_g3_1 hcz_g3_2 hcz_g3_3 hcz_g3_4 hfz_g3_0 hfz_g3_1 hfz_g3_2 hfz_g3_3 hfz_g3_4
  have n_HB := Aside0.mk (show Below w.heap.size w (World.setCell w_7 ⟨g3, 3, none⟩ (.slice As3 t188.length cs3)) from by repeat (first | exact HB.out | refine below_set ?_ (by have := GLg3.out; have := SZw_1.out; have := SZw_2.out; have := SZw_3.out; have := SZw_4.out; have := SYw_4.out; have := SZw_5.out; have := SYw_5.out; have := SZw_6.out; have := SYw_6.out; have := SZw_7.out; omega)))
  have SZw_8 := Aside0.mk (show w_7.heap.size ≤ (World.setCell w_7 ⟨g3, 3, none⟩ (.slice As3 t188.length cs3)).heap.size by simp [World.setCell])
  have SYw_8 := Aside0.mk (show (World.setCell w_7 ⟨g3, 3, none⟩ (.slice As3 t188.length cs3)).heap.size ≤ w_7.heap.size by simp [World.setCell])
  have n_BKg1 := Aside0.mk (blk_far (p := ⟨g3, 3, none⟩) BKg1.out (by have := GLg3.out; have := GHg3.out; have := GLg1.out; have := GHg1.out; show g1 ≠ g3; have := SZw_1.out; have := SZw_2.out; have := SZw_3.out; have := SZw_4.out; have := SYw_4.out; have := SZw_5.out; have := SYw_5.out; have := SZw_6.out; have := SYw_6.out; have := SZw_7.out; omega) (.slice As3 t188.length cs3))
  have n_BKg2 := Aside0.mk (blk_far (p := ⟨g3, 3, none⟩) BKg2.out (by have := GLg3.out; have := GHg3.out; have := GLg2.out; have := GHg2.out; show g2 ≠ g3; have := SZw_1.out; have := SZw_2.out; have := SZw_3.out; have := SZw_4.out; have := SYw_4.out; have := SZw_5.out; have := SYw_5.out; have := SZw_6.out; have := SYw_6.out; have := SZw_7.out; omega) (.slice As3 t188.length cs3))
  have n_BKg3 := Aside0.mk (show (World.setCell w_7 ⟨g3, 3, none⟩ (.slice As3 t188.length cs3)).heap[g3]? = some (.cells #[.int .i64 a0_0, .int .i64 a0_1, .int .i64 a0_2, .slice As3 t188.length cs3, .slice none 0 0] 36 (0, 0)) from (blk_set BKg3.out 3 (.slice As3 t188.length cs3)))
  have n_HOs3 := Aside0.mk (Kd.S_far (p := ⟨g3, 3, none⟩) HOs3.out (fun k_ ⟨a_, b_⟩ => by have := GLg3.out; have := GHg3.out; show k_ ≠ g3; have := SZw_1.out; have := SZw_2.out; have := SZw_3.out; have := SZw_4.out; have := SYw_4.out; have := SZw_5.out; have := SYw_5.out; have := SZw_6.out; have := SYw_6.out; have := SZw_7.out; omega) (.slice As3 t188.length cs3))
  clear HB BKg1 BKg2 BKg3 HOs3
  generalize (World.setCell w_7 ⟨g3, 3, none⟩ (.slice As3 t188.length cs3)) = w_8 at n_HB SZw_8 SYw_8 n_BKg1 n_BKg2 n_BKg3 n_HOs3 ⊢
  have HB := n_HB
  have BKg1 := n_BKg1
  have BKg2 := n_BKg2
  have BKg3 := n_BKg3
  have HOs3 := n_HOs3
  clear n_HB n_BKg1 n_BKg2 n_BKg3 n_HOs3
  have hcz_g1_0 : (w_8).cell? ⟨g1, 0, none⟩ = some (.int .i64 a0_0) := (blk_cell BKg1.out 0).trans rfl
  have hcz_g1_1 : (w_8).cell? ⟨g1, 1, none⟩ = some (.int .i64 a0_1) := (blk_cell BKg1.out 1).trans rfl
  have hcz_g1_2 : (w_8).cell? ⟨g1, 2, none⟩ = some (.int .i64 a0_2) := (blk_cell BKg1.out 2).trans rfl
  have hcz_g1_3 : (w_8).cell? ⟨g1, 3, none⟩ = some (.slice A0_3 l0_3.length c0_3) := (blk_cell BKg1.out 3).trans rfl
  have hcz_g1_4 : (w_8).cell? ⟨g1, 4, none⟩ = some (.slice A0_4 l0_4.length c0_4) := (blk_cell BKg1.out 4).trans rfl
  have hfz_g1_0 := blk_frozen BKg1.out 0
  have hfz_g1_1 := blk_frozen BKg1.out 1
  have hfz_g1_2 := blk_frozen BKg1.out 2
  have hfz_g1_3 := blk_frozen BKg1.out 3
  have hfz_g1_4 := blk_frozen BKg1.out 4
  have hcz_g2_0 : (w_8).cell? ⟨g2, 0, none⟩ = some (.int .i64 0) := (blk_cell BKg2.out 0).trans rfl
  have hcz_g2_1 : (w_8).cell? ⟨g2, 1, none⟩ = some (.int .i64 0) := (blk_cell BKg2.out 1).trans rfl
  have hcz_g2_2 : (w_8).cell? ⟨g2, 2, none⟩ = some (.int .i64 0) := (blk_cell BKg2.out 2).trans rfl
  have hcz_g2_3 : (w_8).cell? ⟨g2, 3, none⟩ = some (.slice none 0 0) := (blk_cell BKg2.out 3).trans rfl
  have hcz_g2_4 : (w_8).cell? ⟨g2, 4, none⟩ = some (.slice none 0 0) := (blk_cell BKg2.out 4).trans rfl
  have hfz_g2_0 := blk_frozen BKg2.out 0
  have hfz_g2_1 := blk_frozen BKg2.out 1
  have hfz_g2_2 := blk_frozen BKg2.out 2
  have hfz_g2_3 := blk_frozen BKg2.out 3
  have hfz_g2_4 := blk_frozen BKg2.out 4
  have hcz_g3_0 : (w_8).cell? ⟨g3, 0, none⟩ = some (.int .i64 a0_0) := (blk_cell BKg3.out 0).trans rfl
  have hcz_g3_1 : (w_8).cell? ⟨g3, 1, none⟩ = some (.int .i64 a0_1) := (blk_cell BKg3.out 1).trans rfl
  have hcz_g3_2 : (w_8).cell? ⟨g3, 2, none⟩ = some (.int .i64 a0_2) := (blk_cell BKg3.out 2).trans rfl
  have hcz_g3_3 : (w_8).cell? ⟨g3, 3, none⟩ = some (.slice As3 t188.length cs3) := (blk_cell BKg3.out 3).trans rfl
  have hcz_g3_4 : (w_8).cell? ⟨g3, 4, none⟩ = some (.slice none 0 0) := (blk_cell BKg3.out 4).trans rfl
  have hfz_g3_0 := blk_frozen BKg3.out 0
  have hfz_g3_1 := blk_frozen BKg3.out 1
  have hfz_g3_2 := blk_frozen BKg3.out 2
  have hfz_g3_3 := blk_frozen BKg3.out 3
  have hfz_g3_4 := blk_frozen BKg3.out 4
  go_upto_region 7 with (first | ((with_reducible refine gate_callee (f := 27) rfl ?_); refine goesL_ (some 19) rfl rfl Tryd.func27 (by kernel_rfl) rfl #[.slice A0_4 l0_4.length c0_4] rfl (by (try simp only [List.map_toArray, List.map_cons, List.map_nil]); first | done | rfl) ?_; (with_reducible refine (laws_toIntSS.calls k _ _ l0_4 t191 _ ?side1 ?side2 A3.out).mono ?_); (case side1 => exact Kd.C_below HR4.out HB.out); (case side2 => exact HC4.out); rintro e w_9 ⟨vs4, rfl, hos4, hb⟩; refine ⟨_, rfl, ?_⟩; clear hcz_g1_0 hcz_g1_1 hcz_g1_2 hcz_g1_3 hcz_g1_4 hfz_g1_0 hfz_g1_1 hfz_g1_2 hfz_g1_3 hfz_g1_4 hcz_g2_0 hcz_g2_1 hcz_g2_2 hcz_g2_3 hcz_g2_4 hfz_g2_0 hfz_g2_1 hfz_g2_2 hfz_g2_3 hfz_g2_4 hcz_g3_0 hcz_g3_1 hcz_g3_2 hcz_g3_3 hcz_g3_4 hfz_g3_0 hfz_g3_1 hfz_g3_2 hfz_g3_3 hfz_g3_4; have n_HB := Aside0.mk (below_step HB.out hb); have SZw_9 := Aside0.mk hb.size; have n_BKg1 := Aside0.mk (blk_below BKg1.out hb); have n_BKg2 := Aside0.mk (blk_below BKg2.out hb); have n_BKg3 := Aside0.mk (blk_below BKg3.out hb); have n_HOs3 := Aside0.mk (Kd.S_below HOs3.out hb); clear HB BKg1 BKg2 BKg3 HOs3; have HB := n_HB; have BKg1 := n_BKg1; have BKg2 := n_BKg2; have BKg3 := n_BKg3; have HOs3 := n_HOs3; clear n_HB n_BKg1 n_BKg2 n_BKg3 n_HOs3; have HOs4 := Aside0.mk (show Kd.S (Kd.slice 3 (Kd.int .i64)) 22 w_9 w.heap.size (fun k_ => w_8.heap.size ≤ k_ ∧ k_ < w_9.heap.size) vs4 t191 from Kd.S_lower (Kd.S_mono (Kd.S_bound hos4) (fun k_ hk => ⟨hk.2.1, hk.2.2.1⟩)) (by have := SZw_1.out; have := SZw_2.out; have := SZw_3.out; have := SZw_4.out; have := SYw_4.out; have := SZw_5.out; have := SYw_5.out; have := SZw_6.out; have := SYw_6.out; have := SZw_7.out; have := SZw_8.out; have := SYw_8.out; have := SZw_9.out; omega)); obtain ⟨As4, cs4, es4⟩ := Kd.S_slice HOs4.out; subst es4; clear hb hos4; have hcz_g1_0 : (w_9).cell? ⟨g1, 0, none⟩ = some (.int .i64 a0_0) := (blk_cell BKg1.out 0).trans rfl; have hcz_g1_1 : (w_9).cell? ⟨g1, 1, none⟩ = some (.int .i64 a0_1) := (blk_cell BKg1.out 1).trans rfl; have hcz_g1_2 : (w_9).cell? ⟨g1, 2, none⟩ = some (.int .i64 a0_2) := (blk_cell BKg1.out 2).trans rfl; have hcz_g1_3 : (w_9).cell? ⟨g1, 3, none⟩ = some (.slice A0_3 l0_3.length c0_3) := (blk_cell BKg1.out 3).trans rfl; have hcz_g1_4 : (w_9).cell? ⟨g1, 4, none⟩ = some (.slice A0_4 l0_4.length c0_4) := (blk_cell BKg1.out 4).trans rfl; have hfz_g1_0 := blk_frozen BKg1.out 0; have hfz_g1_1 := blk_frozen BKg1.out 1; have hfz_g1_2 := blk_frozen BKg1.out 2; have hfz_g1_3 := blk_frozen BKg1.out 3; have hfz_g1_4 := blk_frozen BKg1.out 4; have hcz_g2_0 : (w_9).cell? ⟨g2, 0, none⟩ = some (.int .i64 0) := (blk_cell BKg2.out 0).trans rfl; have hcz_g2_1 : (w_9).cell? ⟨g2, 1, none⟩ = some (.int .i64 0) := (blk_cell BKg2.out 1).trans rfl; have hcz_g2_2 : (w_9).cell? ⟨g2, 2, none⟩ = some (.int .i64 0) := (blk_cell BKg2.out 2).trans rfl; have hcz_g2_3 : (w_9).cell? ⟨g2, 3, none⟩ = some (.slice none 0 0) := (blk_cell BKg2.out 3).trans rfl; have hcz_g2_4 : (w_9).cell? ⟨g2, 4, none⟩ = some (.slice none 0 0) := (blk_cell BKg2.out 4).trans rfl; have hfz_g2_0 := blk_frozen BKg2.out 0; have hfz_g2_1 := blk_frozen BKg2.out 1; have hfz_g2_2 := blk_frozen BKg2.out 2; have hfz_g2_3 := blk_frozen BKg2.out 3; have hfz_g2_4 := blk_frozen BKg2.out 4; have hcz_g3_0 : (w_9).cell? ⟨g3, 0, none⟩ = some (.int .i64 a0_0) := (blk_cell BKg3.out 0).trans rfl; have hcz_g3_1 : (w_9).cell? ⟨g3, 1, none⟩ = some (.int .i64 a0_1) := (blk_cell BKg3.out 1).trans rfl; have hcz_g3_2 : (w_9).cell? ⟨g3, 2, none⟩ = some (.int .i64 a0_2) := (blk_cell BKg3.out 2).trans rfl; have hcz_g3_3 : (w_9).cell? ⟨g3, 3, none⟩ = some (.slice As3 t188.length cs3) := (blk_cell BKg3.out 3).trans rfl; have hcz_g3_4 : (w_9).cell? ⟨g3, 4, none⟩ = some (.slice none 0 0) := (blk_cell BKg3.out 4).trans rfl; have hfz_g3_0 := blk_frozen BKg3.out 0; have hfz_g3_1 := blk_frozen BKg3.out 1; have hfz_g3_2 := blk_frozen BKg3.out 2; have hfz_g3_3 := blk_frozen BKg3.out 3; have hfz_g3_4 := blk_frozen BKg3.out 4))
  clear hcz_g1_0 hcz_g1_1 hcz_g1_2 hcz_g1_3 hcz_g1_4 hfz_g1_0 hfz_g1_1 hfz_g1_2 hfz_g1_3 hfz_g1_4 hcz_g2_0 hcz_g2_1 hcz_g2_2 hcz_g2_3 hcz_g2_4 hfz_g2_0 hfz_g2_1 hfz_g2_2 hfz_g2_3 hfz_g2_4 hcz_g3_0 hcz_g3_1 hcz_g3_2 hcz_g3_3 hcz_g3_4 hfz_g3_0 hfz_g3_1 hfz_g3_2 hfz_g3_3 hfz_g3_4
  have n_HB := Aside0.mk (show Below w.heap.size w (World.setCell w_9 ⟨g3, 4, none⟩ (.slice As4 t191.length cs4)) from by repeat (first | exact HB.out | refine below_set ?_ (by have := GLg3.out; have := SZw_1.out; have := SZw_2.out; have := SZw_3.out; have := SZw_4.out; have := SYw_4.out; have := SZw_5.out; have := SYw_5.out; have := SZw_6.out; have := SYw_6.out; have := SZw_7.out; have := SZw_8.out; have := SYw_8.out; have := SZw_9.out; omega)))
  have SZw_10 := Aside0.mk (show w_9.heap.size ≤ (World.setCell w_9 ⟨g3, 4, none⟩ (.slice As4 t191.length cs4)).heap.size by simp [World.setCell])
  have SYw_10 := Aside0.mk (show (World.setCell w_9 ⟨g3, 4, none⟩ (.slice As4 t191.length cs4)).heap.size ≤ w_9.heap.size by simp [World.setCell])
  have n_BKg1 := Aside0.mk (blk_far (p := ⟨g3, 4, none⟩) BKg1.out (by have := GLg3.out; have := GHg3.out; have := GLg1.out; have := GHg1.out; show g1 ≠ g3; have := SZw_1.out; have := SZw_2.out; have := SZw_3.out; have := SZw_4.out; have := SYw_4.out; have := SZw_5.out; have := SYw_5.out; have := SZw_6.out; have := SYw_6.out; have := SZw_7.out; have := SZw_8.out; have := SYw_8.out; have := SZw_9.out; omega) (.slice As4 t191.length cs4))
  have n_BKg2 := Aside0.mk (blk_far (p := ⟨g3, 4, none⟩) BKg2.out (by have := GLg3.out; have := GHg3.out; have := GLg2.out; have := GHg2.out; show g2 ≠ g3; have := SZw_1.out; have := SZw_2.out; have := SZw_3.out; have := SZw_4.out; have := SYw_4.out; have := SZw_5.out; have := SYw_5.out; have := SZw_6.out; have := SYw_6.out; have := SZw_7.out; have := SZw_8.out; have := SYw_8.out; have := SZw_9.out; omega) (.slice As4 t191.length cs4))
  have n_BKg3 := Aside0.mk (show (World.setCell w_9 ⟨g3, 4, none⟩ (.slice As4 t191.length cs4)).heap[g3]? = some (.cells #[.int .i64 a0_0, .int .i64 a0_1, .int .i64 a0_2, .slice As3 t188.length cs3, .slice As4 t191.length cs4] 36 (0, 0)) from (blk_set BKg3.out 4 (.slice As4 t191.length cs4)))
  have n_HOs3 := Aside0.mk (Kd.S_far (p := ⟨g3, 4, none⟩) HOs3.out (fun k_ ⟨a_, b_⟩ => by have := GLg3.out; have := GHg3.out; show k_ ≠ g3; have := SZw_1.out; have := SZw_2.out; have := SZw_3.out; have := SZw_4.out; have := SYw_4.out; have := SZw_5.out; have := SYw_5.out; have := SZw_6.out; have := SYw_6.out; have := SZw_7.out; have := SZw_8.out; have := SYw_8.out; have := SZw_9.out; omega) (.slice As4 t191.length cs4))
  have n_HOs4 := Aside0.mk (Kd.S_far (p := ⟨g3, 4, none⟩) HOs4.out (fun k_ ⟨a_, b_⟩ => by have := GLg3.out; have := GHg3.out; show k_ ≠ g3; have := SZw_1.out; have := SZw_2.out; have := SZw_3.out; have := SZw_4.out; have := SYw_4.out; have := SZw_5.out; have := SYw_5.out; have := SZw_6.out; have := SYw_6.out; have := SZw_7.out; have := SZw_8.out; have := SYw_8.out; have := SZw_9.out; omega) (.slice As4 t191.length cs4))
  clear HB BKg1 BKg2 BKg3 HOs3 HOs4
  generalize (World.setCell w_9 ⟨g3, 4, none⟩ (.slice As4 t191.length cs4)) = w_10 at n_HB SZw_10 SYw_10 n_BKg1 n_BKg2 n_BKg3 n_HOs3 n_HOs4 ⊢
  have HB := n_HB
  have BKg1 := n_BKg1
  have BKg2 := n_BKg2
  have BKg3 := n_BKg3
  have HOs3 := n_HOs3
  have HOs4 := n_HOs4
  clear n_HB n_BKg1 n_BKg2 n_BKg3 n_HOs3 n_HOs4
  have hcz_g1_0 : (w_10).cell? ⟨g1, 0, none⟩ = some (.int .i64 a0_0) := (blk_cell BKg1.out 0).trans rfl
  have hcz_g1_1 : (w_10).cell? ⟨g1, 1, none⟩ = some (.int .i64 a0_1) := (blk_cell BKg1.out 1).trans rfl
  have hcz_g1_2 : (w_10).cell? ⟨g1, 2, none⟩ = some (.int .i64 a0_2) := (blk_cell BKg1.out 2).trans rfl
  have hcz_g1_3 : (w_10).cell? ⟨g1, 3, none⟩ = some (.slice A0_3 l0_3.length c0_3) := (blk_cell BKg1.out 3).trans rfl
  have hcz_g1_4 : (w_10).cell? ⟨g1, 4, none⟩ = some (.slice A0_4 l0_4.length c0_4) := (blk_cell BKg1.out 4).trans rfl
  have hfz_g1_0 := blk_frozen BKg1.out 0
  have hfz_g1_1 := blk_frozen BKg1.out 1
  have hfz_g1_2 := blk_frozen BKg1.out 2
  have hfz_g1_3 := blk_frozen BKg1.out 3
  have hfz_g1_4 := blk_frozen BKg1.out 4
  have hcz_g2_0 : (w_10).cell? ⟨g2, 0, none⟩ = some (.int .i64 0) := (blk_cell BKg2.out 0).trans rfl
  have hcz_g2_1 : (w_10).cell? ⟨g2, 1, none⟩ = some (.int .i64 0) := (blk_cell BKg2.out 1).trans rfl
  have hcz_g2_2 : (w_10).cell? ⟨g2, 2, none⟩ = some (.int .i64 0) := (blk_cell BKg2.out 2).trans rfl
  have hcz_g2_3 : (w_10).cell? ⟨g2, 3, none⟩ = some (.slice none 0 0) := (blk_cell BKg2.out 3).trans rfl
  have hcz_g2_4 : (w_10).cell? ⟨g2, 4, none⟩ = some (.slice none 0 0) := (blk_cell BKg2.out 4).trans rfl
  have hfz_g2_0 := blk_frozen BKg2.out 0
  have hfz_g2_1 := blk_frozen BKg2.out 1
  have hfz_g2_2 := blk_frozen BKg2.out 2
  have hfz_g2_3 := blk_frozen BKg2.out 3
  have hfz_g2_4 := blk_frozen BKg2.out 4
  have hcz_g3_0 : (w_10).cell? ⟨g3, 0, none⟩ = some (.int .i64 a0_0) := (blk_cell BKg3.out 0).trans rfl
  have hcz_g3_1 : (w_10).cell? ⟨g3, 1, none⟩ = some (.int .i64 a0_1) := (blk_cell BKg3.out 1).trans rfl
  have hcz_g3_2 : (w_10).cell? ⟨g3, 2, none⟩ = some (.int .i64 a0_2) := (blk_cell BKg3.out 2).trans rfl
  have hcz_g3_3 : (w_10).cell? ⟨g3, 3, none⟩ = some (.slice As3 t188.length cs3) := (blk_cell BKg3.out 3).trans rfl
  have hcz_g3_4 : (w_10).cell? ⟨g3, 4, none⟩ = some (.slice As4 t191.length cs4) := (blk_cell BKg3.out 4).trans rfl
  have hfz_g3_0 := blk_frozen BKg3.out 0
  have hfz_g3_1 := blk_frozen BKg3.out 1
  have hfz_g3_2 := blk_frozen BKg3.out 2
  have hfz_g3_3 := blk_frozen BKg3.out 3
  have hfz_g3_4 := blk_frozen BKg3.out 4
  go_wp2
  refine bodyPost_ret (results_cell_row rfl _ _ g2 36 #[.int .i64 a0_0, .int .i64 a0_1, .int .i64 a0_2, .slice As3 t188.length cs3, .slice As4 t191.length cs4] (0, 0) _ rfl (show (World.setCell (World.setCell (World.setCell (World.setCell (World.setCell w_10 ⟨g2, 0, none⟩ (.int .i64 a0_0)) ⟨g2, 1, none⟩ (.int .i64 a0_1)) ⟨g2, 2, none⟩ (.int .i64 a0_2)) ⟨g2, 3, none⟩ (.slice As3 t188.length cs3)) ⟨g2, 4, none⟩ (.slice As4 t191.length cs4)).heap[g2]? = some (.cells #[.int .i64 a0_0, .int .i64 a0_1, .int .i64 a0_2, .slice As3 t188.length cs3, .slice As4 t191.length cs4] 36 (0, 0)) from (blk_set (blk_set (blk_set (blk_set (blk_set BKg2.out 0 _) 1 _) 2 _) 3 _) 4 _)) Tryd.underlying36 rfl (by kernel_rfl)) rfl ?_
  have HZ := Aside0.mk (show w_10.heap.size ≤ (World.setCell (World.setCell (World.setCell (World.setCell (World.setCell w_10 ⟨g2, 0, none⟩ (.int .i64 a0_0)) ⟨g2, 1, none⟩ (.int .i64 a0_1)) ⟨g2, 2, none⟩ (.int .i64 a0_2)) ⟨g2, 3, none⟩ (.slice As3 t188.length cs3)) ⟨g2, 4, none⟩ (.slice As4 t191.length cs4)).heap.size by simp [World.setCell])
  exact ⟨_, _, w_8.heap.size, rfl, ⟨by have := SZw_1.out; have := SZw_2.out; have := SZw_3.out; have := SZw_4.out; have := SYw_4.out; have := SZw_5.out; have := SYw_5.out; have := SZw_6.out; have := SYw_6.out; have := SZw_7.out; have := SZw_8.out; have := SYw_8.out; have := SZw_9.out; have := SZw_10.out; have := SYw_10.out; omega, by have := HZ.out; have := SZw_1.out; have := SZw_2.out; have := SZw_3.out; have := SZw_4.out; have := SYw_4.out; have := SZw_5.out; have := SYw_5.out; have := SZw_6.out; have := SYw_6.out; have := SZw_7.out; have := SZw_8.out; have := SYw_8.out; have := SZw_9.out; have := SZw_10.out; have := SYw_10.out; omega⟩, Kd.S_mono (Kd.S_far (p := ⟨g2, 4, none⟩) (Kd.S_far (p := ⟨g2, 3, none⟩) (Kd.S_far (p := ⟨g2, 2, none⟩) (Kd.S_far (p := ⟨g2, 1, none⟩) (Kd.S_far (p := ⟨g2, 0, none⟩) HOs3.out (fun k_ ⟨a_, b_⟩ => by have := GHg2.out; have := GLg2.out; show k_ ≠ g2; have := SZw_1.out; have := SZw_2.out; have := SZw_3.out; have := SZw_4.out; have := SYw_4.out; have := SZw_5.out; have := SYw_5.out; have := SZw_6.out; have := SYw_6.out; have := SZw_7.out; have := SZw_8.out; have := SYw_8.out; have := SZw_9.out; have := SZw_10.out; have := SYw_10.out; omega) (.int .i64 a0_0)) (fun k_ ⟨a_, b_⟩ => by have := GHg2.out; have := GLg2.out; show k_ ≠ g2; have := SZw_1.out; have := SZw_2.out; have := SZw_3.out; have := SZw_4.out; have := SYw_4.out; have := SZw_5.out; have := SYw_5.out; have := SZw_6.out; have := SYw_6.out; have := SZw_7.out; have := SZw_8.out; have := SYw_8.out; have := SZw_9.out; have := SZw_10.out; have := SYw_10.out; omega) (.int .i64 a0_1)) (fun k_ ⟨a_, b_⟩ => by have := GHg2.out; have := GLg2.out; show k_ ≠ g2; have := SZw_1.out; have := SZw_2.out; have := SZw_3.out; have := SZw_4.out; have := SYw_4.out; have := SZw_5.out; have := SYw_5.out; have := SZw_6.out; have := SYw_6.out; have := SZw_7.out; have := SZw_8.out; have := SYw_8.out; have := SZw_9.out; have := SZw_10.out; have := SYw_10.out; omega) (.int .i64 a0_2)) (fun k_ ⟨a_, b_⟩ => by have := GHg2.out; have := GLg2.out; show k_ ≠ g2; have := SZw_1.out; have := SZw_2.out; have := SZw_3.out; have := SZw_4.out; have := SYw_4.out; have := SZw_5.out; have := SYw_5.out; have := SZw_6.out; have := SYw_6.out; have := SZw_7.out; have := SZw_8.out; have := SYw_8.out; have := SZw_9.out; have := SZw_10.out; have := SYw_10.out; omega) (.slice As3 t188.length cs3)) (fun k_ ⟨a_, b_⟩ => by have := GHg2.out; have := GLg2.out; show k_ ≠ g2; have := SZw_1.out; have := SZw_2.out; have := SZw_3.out; have := SZw_4.out; have := SYw_4.out; have := SZw_5.out; have := SYw_5.out; have := SZw_6.out; have := SYw_6.out; have := SZw_7.out; have := SZw_8.out; have := SYw_8.out; have := SZw_9.out; have := SZw_10.out; have := SYw_10.out; omega) (.slice As4 t191.length cs4)) (fun k_ ⟨a_, b_⟩ => ⟨by have := SZw_1.out; have := SZw_2.out; have := SZw_3.out; have := SZw_4.out; have := SYw_4.out; have := SZw_5.out; have := SYw_5.out; have := SZw_6.out; have := SYw_6.out; have := SZw_7.out; have := SZw_8.out; have := SYw_8.out; have := SZw_9.out; have := SZw_10.out; have := SYw_10.out; omega, by have := SZw_1.out; have := SZw_2.out; have := SZw_3.out; have := SZw_4.out; have := SYw_4.out; have := SZw_5.out; have := SYw_5.out; have := SZw_6.out; have := SYw_6.out; have := SZw_7.out; have := SZw_8.out; have := SYw_8.out; have := SZw_9.out; have := SZw_10.out; have := SYw_10.out; omega⟩), Kd.S_mono (Kd.S_far (p := ⟨g2, 4, none⟩) (Kd.S_far (p := ⟨g2, 3, none⟩) (Kd.S_far (p := ⟨g2, 2, none⟩) (Kd.S_far (p := ⟨g2, 1, none⟩) (Kd.S_far (p := ⟨g2, 0, none⟩) HOs4.out (fun k_ ⟨a_, b_⟩ => by have := GHg2.out; have := GLg2.out; show k_ ≠ g2; have := SZw_1.out; have := SZw_2.out; have := SZw_3.out; have := SZw_4.out; have := SYw_4.out; have := SZw_5.out; have := SYw_5.out; have := SZw_6.out; have := SYw_6.out; have := SZw_7.out; have := SZw_8.out; have := SYw_8.out; have := SZw_9.out; have := SZw_10.out; have := SYw_10.out; omega) (.int .i64 a0_0)) (fun k_ ⟨a_, b_⟩ => by have := GHg2.out; have := GLg2.out; show k_ ≠ g2; have := SZw_1.out; have := SZw_2.out; have := SZw_3.out; have := SZw_4.out; have := SYw_4.out; have := SZw_5.out; have := SYw_5.out; have := SZw_6.out; have := SYw_6.out; have := SZw_7.out; have := SZw_8.out; have := SYw_8.out; have := SZw_9.out; have := SZw_10.out; have := SYw_10.out; omega) (.int .i64 a0_1)) (fun k_ ⟨a_, b_⟩ => by have := GHg2.out; have := GLg2.out; show k_ ≠ g2; have := SZw_1.out; have := SZw_2.out; have := SZw_3.out; have := SZw_4.out; have := SYw_4.out; have := SZw_5.out; have := SYw_5.out; have := SZw_6.out; have := SYw_6.out; have := SZw_7.out; have := SZw_8.out; have := SYw_8.out; have := SZw_9.out; have := SZw_10.out; have := SYw_10.out; omega) (.int .i64 a0_2)) (fun k_ ⟨a_, b_⟩ => by have := GHg2.out; have := GLg2.out; show k_ ≠ g2; have := SZw_1.out; have := SZw_2.out; have := SZw_3.out; have := SZw_4.out; have := SYw_4.out; have := SZw_5.out; have := SYw_5.out; have := SZw_6.out; have := SYw_6.out; have := SZw_7.out; have := SZw_8.out; have := SYw_8.out; have := SZw_9.out; have := SZw_10.out; have := SYw_10.out; omega) (.slice As3 t188.length cs3)) (fun k_ ⟨a_, b_⟩ => by have := GHg2.out; have := GLg2.out; show k_ ≠ g2; have := SZw_1.out; have := SZw_2.out; have := SZw_3.out; have := SZw_4.out; have := SYw_4.out; have := SZw_5.out; have := SYw_5.out; have := SZw_6.out; have := SYw_6.out; have := SZw_7.out; have := SZw_8.out; have := SYw_8.out; have := SZw_9.out; have := SZw_10.out; have := SYw_10.out; omega) (.slice As4 t191.length cs4)) (fun k_ ⟨a_, b_⟩ => ⟨a_, by have := HZ.out; have := SZw_1.out; have := SZw_2.out; have := SZw_3.out; have := SZw_4.out; have := SYw_4.out; have := SZw_5.out; have := SYw_5.out; have := SZw_6.out; have := SYw_6.out; have := SZw_7.out; have := SZw_8.out; have := SYw_8.out; have := SZw_9.out; have := SZw_10.out; have := SYw_10.out; omega⟩), by repeat (first | exact HB.out | refine below_set ?_ (by have := GLg2.out; have := SZw_1.out; have := SZw_2.out; have := SZw_3.out; have := SZw_4.out; have := SYw_4.out; have := SZw_5.out; have := SYw_5.out; have := SZw_6.out; have := SYw_6.out; have := SZw_7.out; have := SZw_8.out; have := SYw_8.out; have := SZw_9.out; have := SZw_10.out; have := SYw_10.out; omega))⟩

/-! ### impl_zrange: function 34 -/
def impl_zrange.l0 : Nat → Int → Int → List Int → Int → Int → Option (Bool)
  | 0, _, _, _, _, _ => none
  | k + 1, x1, x2, x15, x16, x17 => if x17 < x16 then (if 0 ≤ x17 then (if x17 < (x15.length : Int) then (if (rd x15 x17) < x1 then (some false) else (if (rd x15 x17) > x2 then (some false) else (impl_zrange.l0 k x1 x2 x15 x16 (wrap64 (x17 + 1))))) else (none)) else (none)) else (some true)
def impl_zrange.f (k : Nat) (l0 : List Int) (a1 : Int) (a2 : Int) (a3 : Int) : Option (Bool) := if (l0.length : Int) > a3 then (some false) else (impl_zrange.l0 k a1 a2 l0 (l0.length : Int) 0)
theorem impl_zrange.mono_l : ∀ k, (∀ y0 y1 y2 y3 y4, LeO (impl_zrange.l0 k y0 y1 y2 y3 y4) (impl_zrange.l0 (k + 1) y0 y1 y2 y3 y4))
  | 0 => fun _ _ _ _ _ r h => by simp [impl_zrange.l0] at h
  | k + 1 => by
    have ih0 := impl_zrange.mono_l k
    · intro y0 y1 y2 y3 y4
      unfold impl_zrange.l0
      repeat' first
      | (with_reducible exact ih0 _ _ _ _ _)
      | (with_reducible exact LeO.refl _)
      | (with_reducible exact LeO.none _)
      | (with_reducible refine LeO.ite ?_ ?_)
      | (with_reducible refine LeO.bind ?_ (fun _ => ?_))
      | exact ih0 _ _ _ _ _
      | exact LeO.none _
      | refine LeO.ite ?_ ?_
      | refine LeO.bind ?_ (fun _ => ?_)
theorem impl_zrange.mono : ∀ a0 a1 a2 a3 k, LeO (impl_zrange.f k a0 a1 a2 a3) (impl_zrange.f (k + 1) a0 a1 a2 a3) := by
  intro a0 a1 a2 a3 k
  have ih0 := impl_zrange.mono_l k
  unfold impl_zrange.f
  repeat' first
      | (with_reducible exact ih0 _ _ _ _ _)
      | (with_reducible exact LeO.refl _)
      | (with_reducible exact LeO.none _)
      | (with_reducible refine LeO.ite ?_ ?_)
      | (with_reducible refine LeO.bind ?_ (fun _ => ?_))
      | exact ih0 _ _ _ _ _
      | exact LeO.none _
      | refine LeO.ite ?_ ?_
      | refine LeO.bind ?_ (fun _ => ?_)
set_option maxHeartbeats 8000000 in
set_option maxRecDepth 100000 in
theorem impl_zrange.calls (k : Nat) (A0 : Option Addr) (c0 : Nat) (l0 : List Int) (a1 : Int) (a2 : Int) (a3 : Int) (r : Bool) (w : World) (hr0 : Kd.C (Kd.int .i64) w A0 l0.length l0) (hc0 : l0.length ≤ c0) (h : impl_zrange.f k l0 a1 a2 a3 = some r) :
    Calls Tryd.prog 34 #[.slice A0 l0.length c0, .int .i64 a1, .int .i64 a2, .int .i64 a3] w fun e w' => e = .returned (.bool r) ∧ Drawn0 w w' := by
  have HR0 := Aside0.mk hr0
  have HC0 := Aside0.mk hc0
  clear hr0 hc0
  have H : (if (l0.length : Int) > a3 then (some false) else (impl_zrange.l0 k a1 a2 l0 (l0.length : Int) 0)) = some r := h
  clear h
  by_cases c5 : (l0.length : Int) > a3
  · rw [if_pos c5] at H
    have c5b0 : decide (a3 < (l0.length : Int)) = true := decide_eq_true c5
    clear c5
    obtain rfl := Option.some.inj H
    go_enter Tryd.func34, Tryd.ntmps34
    go_wp2
    go_ret
    exact ⟨by first | rfl | (simp; done) | (simp [*]; done), by repeat (first | exact Drawn0.refl _ | apply Drawn0.step)⟩
  rw [if_neg c5] at H
  have c5b0 : decide (a3 < (l0.length : Int)) = false := decide_eq_false c5
  clear c5
  have H' := Aside0.mk H
  clear H
  go_enter Tryd.func34, Tryd.ntmps34
  go_wp2
  go_loopg [17] k (fun kq v17 w' => ∃ (x17_1 : Int), v17 = .int .i64 x17_1 ∧ Aside0 (impl_zrange.l0 kq a1 a2 l0 (l0.length : Int) x17_1 = some r) ∧ Aside0 (kq ≤ k) ∧ Drawn0 w w')
  case atStart => exact ⟨(0), (by first | rfl | (simp; done) | (simp [*]; done)), H', ⟨Nat.le_refl _⟩, by repeat (first | exact Drawn0.refl _ | apply Drawn0.step)⟩
  case round =>
    clear H'
    try clear p2
    try clear c3
    try clear c5
    try clear c5b0
    obtain ⟨x17_1, rfl, HA, HK1, ⟨m1, rfl⟩⟩ := hrel
    cases gk with
    | zero => exact absurd HA.out (by simp [impl_zrange.l0])
    | succ k1 =>
      have H := HA.out
      clear HA
      simp only [impl_zrange.l0] at H
      by_cases c6 : x17_1 < (l0.length : Int)
      rotate_left
      · rw [if_neg c6] at H
        have c6b0 : decide (x17_1 < (l0.length : Int)) = false := decide_eq_false c6
        clear c6
        obtain rfl := Option.some.inj H
        go_wp2
        go_ret
        exact ⟨by first | rfl | (simp; done) | (simp [*]; done), by repeat (first | exact Drawn0.refl _ | apply Drawn0.step)⟩
      rw [if_pos c6] at H
      have c6b0 : decide (x17_1 < (l0.length : Int)) = true := decide_eq_true c6
      clear c6
      by_cases c7 : 0 ≤ x17_1
      rotate_left
      · rw [if_neg c7] at H
        exact absurd H (by simp)
      rw [if_pos c7] at H
      have c7b0 : decide (0 ≤ x17_1) = true := decide_eq_true c7
      clear c7
      by_cases c8 : x17_1 < (l0.length : Int)
      rotate_left
      · rw [if_neg c8] at H
        exact absurd H (by simp)
      rw [if_pos c8] at H
      have c8b0 : decide (x17_1 < (l0.length : Int)) = true := decide_eq_true c8
      clear c8
      by_cases c9 : (rd l0 x17_1) < a1
      · rw [if_pos c9] at H
        have c9b0 : decide ((rd l0 x17_1) < a1) = true := decide_eq_true c9
        clear c9
        obtain rfl := Option.some.inj H
        have p185 : 0 ≤ (x17_1 : Int) := of_decide_eq_true (by first | (with_reducible assumption) | assumption)
        have q185 : x17_1 < (l0.length : Int) := of_decide_eq_true (by first | (with_reducible assumption) | assumption)
        obtain ⟨ad185, e185, hx185_0⟩ := Kd.at_int HR0.out x17_1 p185 q185
        cases e185
        replace p185 := eq_true p185
        replace q185 := eq_true q185
        go_wp2
        go_ret
        exact ⟨by first | rfl | (simp; done) | (simp [*]; done), by repeat (first | exact Drawn0.refl _ | apply Drawn0.step)⟩
      rw [if_neg c9] at H
      have c9b0 : decide ((rd l0 x17_1) < a1) = false := decide_eq_false c9
      clear c9
      by_cases c10 : (rd l0 x17_1) > a2
      · rw [if_pos c10] at H
        have c10b0 : decide (a2 < (rd l0 x17_1)) = true := decide_eq_true c10
        clear c10
        obtain rfl := Option.some.inj H
        have p185 : 0 ≤ (x17_1 : Int) := of_decide_eq_true (by first | (with_reducible assumption) | assumption)
        have q185 : x17_1 < (l0.length : Int) := of_decide_eq_true (by first | (with_reducible assumption) | assumption)
        obtain ⟨ad185, e185, hx185_0⟩ := Kd.at_int HR0.out x17_1 p185 q185
        cases e185
        replace p185 := eq_true p185
        replace q185 := eq_true q185
        go_wp2
        go_ret
        exact ⟨by first | rfl | (simp; done) | (simp [*]; done), by repeat (first | exact Drawn0.refl _ | apply Drawn0.step)⟩
      rw [if_neg c10] at H
      have c10b0 : decide (a2 < (rd l0 x17_1)) = false := decide_eq_false c10
      clear c10
      have H' := Aside0.mk H
      clear H
      have p185 : 0 ≤ (x17_1 : Int) := of_decide_eq_true (by first | (with_reducible assumption) | assumption)
      have q185 : x17_1 < (l0.length : Int) := of_decide_eq_true (by first | (with_reducible assumption) | assumption)
      obtain ⟨ad185, e185, hx185_0⟩ := Kd.at_int HR0.out x17_1 p185 q185
      cases e185
      replace p185 := eq_true p185
      replace q185 := eq_true q185
      go_wp2
      go_roundg k1
      case measure => have := HK1.out; omega
      case rel => exact ⟨(wrap64 (x17_1 + 1)), (by first | rfl | (simp; done) | (simp [*]; done)), H', ⟨by have := HK1.out; omega⟩, by repeat (first | exact Drawn0.refl _ | apply Drawn0.step)⟩

end Go.Proofs.YtidblealnaicpaaDoor.PFnExactSoundOf

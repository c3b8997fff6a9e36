-- written by myprint.py (a program of this session's over the kit's print)
import Derived.Test.YtggokppfhkebkaaPFnExactSplitx0
namespace Go.Proofs.Ytggokppfhkebkaa.PFnExactSplit
open Go.RowKit Go.Proofs.YtggokppfhkebkaaW.PrintWords Go.Proofs.YtggokppfhkebkaaW.PrintLast Go.Proofs.YtggokppfhkebkaaW.PrintMore
attribute [local go_sem] max2_int min2_int max_two min_two max_three min_three max_four min_four   -- for this text's walks alone
set_option linter.unusedVariables false
set_option linter.unusedSimpArgs false

/-! ### impl_goodSide: function 79 -/
def impl_goodSide.f (a0 : Int) : Option (Bool) := if a0 ≥ 1 then (some (decide (a0 ≤ 512))) else (some false)
set_option maxHeartbeats 8000000 in
set_option maxRecDepth 100000 in
theorem impl_goodSide.calls (a0 : Int) (r : Bool) (w : World) (h : impl_goodSide.f a0 = some r) :
    Calls Try.prog 79 #[.int .i64 a0] w fun e w' => e = .returned (.bool r) ∧ Drawn0 w w' := by
  have H : (if a0 ≥ 1 then (some (decide (a0 ≤ 512))) else (some false)) = some r := h
  clear h
  by_cases c2 : a0 ≥ 1
  · rw [if_pos c2] at H
    have c2b0 : decide (1 ≤ a0) = true := decide_eq_true c2
    clear c2
    obtain rfl := Option.some.inj H
    go_enter Try.func79, Try.ntmps79
    go_wp2
    go_ret
    exact ⟨by first | rfl | (simp; done) | (simp [*]; done), by repeat (first | exact Drawn0.refl _ | apply Drawn0.step)⟩
  · rw [if_neg c2] at H
    have c2b0 : decide (1 ≤ a0) = false := decide_eq_false c2
    clear c2
    obtain rfl := Option.some.inj H
    go_enter Try.func79, Try.ntmps79
    go_wp2
    go_ret
    exact ⟨by first | rfl | (simp; done) | (simp [*]; done), by repeat (first | exact Drawn0.refl _ | apply Drawn0.step)⟩

/-! ### impl_Passes: function 24 -/
mutual
def impl_Passes.j0 : Nat → Int → Int → Bool → Option ((List (S39)))
  | 0, _, _, _ => none
  | k + 1, x0, x1, x15 => if x15 = true then (some ([] : List (S39))) else ((some (([(⟨0, 0, 8, 8, 0, 0⟩ : S39), (⟨4, 0, 8, 8, 0, 0⟩ : S39), (⟨0, 4, 4, 8, 0, 0⟩ : S39), (⟨2, 0, 4, 4, 0, 0⟩ : S39), (⟨0, 2, 2, 4, 0, 0⟩ : S39), (⟨1, 0, 2, 2, 0, 0⟩ : S39), (⟨0, 1, 1, 2, 0, 0⟩ : S39)] : List (S39)) : List (S39))).bind fun y103 => (impl_Passes.l0 k x0 x1 ([] : List (S39)) y103 (y103.length : Int) 0))
def impl_Passes.l0 : Nat → Int → Int → List (S39) → List (S39) → Int → Int → Option ((List (S39)))
  | 0, _, _, _, _, _, _ => none
  | k + 1, x0, x1, x5, x23, x24, x25 => if x25 < x24 then (if 0 ≤ x25 then (if x25 < (x23.length : Int) then (if ((rd_T39 x23 x25).f2) = 0 then (none) else (if ((rd_T39 x23 x25).f3) = 0 then (none) else (if (wrap64 (Int.tdiv (wrap64 ((wrap64 ((wrap64 (x0 - ((rd_T39 x23 x25).f0))) + ((rd_T39 x23 x25).f2))) - 1)) ((rd_T39 x23 x25).f2))) > 0 then (if (wrap64 (Int.tdiv (wrap64 ((wrap64 ((wrap64 (x1 - ((rd_T39 x23 x25).f1))) + ((rd_T39 x23 x25).f3))) - 1)) ((rd_T39 x23 x25).f3))) > 0 then (if x5.length < 2932031007402 then (impl_Passes.l0 k x0 x1 (x5 ++ [(⟨(rd_T39 x23 x25).f0, (rd_T39 x23 x25).f1, (rd_T39 x23 x25).f2, (rd_T39 x23 x25).f3, wrap64 (Int.tdiv (wrap64 ((wrap64 ((wrap64 (x0 - ((rd_T39 x23 x25).f0))) + ((rd_T39 x23 x25).f2))) - 1)) ((rd_T39 x23 x25).f2)), wrap64 (Int.tdiv (wrap64 ((wrap64 ((wrap64 (x1 - ((rd_T39 x23 x25).f1))) + ((rd_T39 x23 x25).f3))) - 1)) ((rd_T39 x23 x25).f3))⟩ : S39)]) x23 x24 (wrap64 (x25 + 1))) else (none)) else (impl_Passes.l0 k x0 x1 x5 x23 x24 (wrap64 (x25 + 1)))) else (impl_Passes.l0 k x0 x1 x5 x23 x24 (wrap64 (x25 + 1)))))) else (none)) else (none)) else (some x5)
end
def impl_Passes.f (k : Nat) (a0 : Int) (a1 : Int) : Option ((List (S39))) := (impl_goodSide.f a0).bind fun t101 => (if t101 = true then ((impl_goodSide.f a1).bind fun t102 => (impl_Passes.j0 k a0 a1 (!t102))) else (impl_Passes.j0 k a0 a1 true))
theorem impl_Passes.mono_l : ∀ k, (∀ y0 y1 y2, LeO (impl_Passes.j0 k y0 y1 y2) (impl_Passes.j0 (k + 1) y0 y1 y2)) ∧ (∀ y0 y1 y2 y3 y4 y5, LeO (impl_Passes.l0 k y0 y1 y2 y3 y4 y5) (impl_Passes.l0 (k + 1) y0 y1 y2 y3 y4 y5))
  | 0 => ⟨fun _ _ _ r h => by simp [impl_Passes.j0] at h, fun _ _ _ _ _ _ r h => by simp [impl_Passes.l0] at h⟩
  | k + 1 => by
    obtain ⟨ih0, ih1⟩ := impl_Passes.mono_l k
    refine ⟨?_, ?_⟩
    · intro y0 y1 y2
      unfold impl_Passes.j0
      repeat' first
      | (with_reducible exact ih0 _ _ _)
      | (with_reducible exact ih1 _ _ _ _ _ _)
      | (with_reducible exact LeO.refl _)
      | (with_reducible exact LeO.none _)
      | (with_reducible refine LeO.ite ?_ ?_)
      | (with_reducible refine LeO.bind ?_ (fun _ => ?_))
      | exact ih0 _ _ _
      | exact ih1 _ _ _ _ _ _
      | exact LeO.none _
      | refine LeO.ite ?_ ?_
      | refine LeO.bind ?_ (fun _ => ?_)
    · intro y0 y1 y2 y3 y4 y5
      unfold impl_Passes.l0
      repeat' first
      | (with_reducible exact ih0 _ _ _)
      | (with_reducible exact ih1 _ _ _ _ _ _)
      | (with_reducible exact LeO.refl _)
      | (with_reducible exact LeO.none _)
      | (with_reducible refine LeO.ite ?_ ?_)
      | (with_reducible refine LeO.bind ?_ (fun _ => ?_))
      | exact ih0 _ _ _
      | exact ih1 _ _ _ _ _ _
      | exact LeO.none _
      | refine LeO.ite ?_ ?_
      | refine LeO.bind ?_ (fun _ => ?_)
theorem impl_Passes.mono : ∀ a0 a1 k, LeO (impl_Passes.f k a0 a1) (impl_Passes.f (k + 1) a0 a1) := by
  intro a0 a1 k
  obtain ⟨ih0, ih1⟩ := impl_Passes.mono_l k
  unfold impl_Passes.f
  repeat' first
      | (with_reducible exact ih0 _ _ _)
      | (with_reducible exact ih1 _ _ _ _ _ _)
      | (with_reducible exact LeO.refl _)
      | (with_reducible exact LeO.none _)
      | (with_reducible refine LeO.ite ?_ ?_)
      | (with_reducible refine LeO.bind ?_ (fun _ => ?_))
      | exact ih0 _ _ _
      | exact ih1 _ _ _ _ _ _
      | exact LeO.none _
      | refine LeO.ite ?_ ?_
      | refine LeO.bind ?_ (fun _ => ?_)
set_option maxHeartbeats 8000000 in
set_option maxRecDepth 100000 in
theorem impl_Passes.calls (k : Nat) (a0 : Int) (a1 : Int) (r : List (S39)) (w : World) (h : impl_Passes.f k a0 a1 = some r) :
    Calls Try.prog 24 #[.int .i64 a0, .int .i64 a1] w fun e w' => ∃ v0_ : Value, e = .returned (v0_) ∧ Kd.R k39 39 w' w.heap.size (fun _ => True) v0_ r ∧ Below w.heap.size w w' := by
  have hu39 := Try.underlying39
  have HB := Aside0.mk (Below.refl w.heap.size w)
  have H : ((impl_goodSide.f a0).bind fun t101 => (if t101 = true then ((impl_goodSide.f a1).bind fun t102 => (impl_Passes.j0 k a0 a1 (!t102))) else (impl_Passes.j0 k a0 a1 true))) = some r := h
  clear h
  have HC3 := Aside0.mk H
  clear H
  go_enter Try.func24, Try.ntmps24
  go_upto_region 1 with (fail)
  go_cut [15] (fun v15 wc => ∃ (kq : Nat) (x15_2 : Bool), v15 = .bool x15_2 ∧ Aside0 (impl_Passes.j0 kq a0 a1 x15_2 = some r) ∧ Aside0 (kq ≤ k) ∧ Aside0 (Below w.heap.size w wc))
  case first =>
    have H := HC3.out
    clear HC3
    replace H := Option.bind_eq_some_iff.mp H
    obtain ⟨t101, A40, H⟩ := H
    replace H : (if t101 = true then ((impl_goodSide.f a1).bind fun t102 => (impl_Passes.j0 k a0 a1 (!t102))) else (impl_Passes.j0 k a0 a1 true)) = some r := H
    have A4 := Aside0.mk A40
    clear A40
    by_cases c5 : t101 = true
    rotate_left
    · replace c5 := Bool.eq_false_iff.mpr c5
      subst c5
      have H1 : (impl_Passes.j0 k a0 a1 true) = some r := by rw [if_neg (show ¬ (false = true) by decide)] at H; exact H
      clear H
      have H := H1
      clear H1
      have H' := Aside0.mk H
      clear H
      go_wp2_with (first | ((with_reducible refine gate_callee (f := 79) rfl ?_); refine goesL_ (some 9) rfl rfl Try.func79 (by kernel_rfl) rfl #[.int .i64 a0] rfl (by (try simp only [List.map_toArray, List.map_cons, List.map_nil]); first | done | rfl | (simp only [List.length_drop, List.length_take]; rfl)) ?_; (with_reducible refine (impl_goodSide.calls a0 false _ A4.out).mono ?_); rintro e w' ⟨rfl, ⟨nd, rfl⟩⟩; refine ⟨_, rfl, ?_⟩))
      go_meet
      case rel => exact ⟨_, (true), (by first | rfl | (simp; done) | (simp [*]; done)), H', ⟨by first | omega | exact Nat.le_refl _⟩, ⟨by repeat (first | (with_reducible first | exact HB.out | apply below_alloc | apply pw_below_drewN | apply below_drew1) | exact HB.out)⟩⟩
    subst c5
    have H1 : ((impl_goodSide.f a1).bind fun t102 => (impl_Passes.j0 k a0 a1 (!t102))) = some r := by rw [if_pos rfl] at H; exact H
    clear H
    have H := H1
    clear H1
    replace H := Option.bind_eq_some_iff.mp H
    obtain ⟨t102, A60, H⟩ := H
    replace H : (impl_Passes.j0 k a0 a1 (!t102)) = some r := H
    have A6 := Aside0.mk A60
    clear A60
    have H' := Aside0.mk H
    clear H
    go_wp2_with (first | ((with_reducible refine gate_callee (f := 79) rfl ?_); refine goesL_ (some 9) rfl rfl Try.func79 (by kernel_rfl) rfl #[.int .i64 a0] rfl (by (try simp only [List.map_toArray, List.map_cons, List.map_nil]); first | done | rfl | (simp only [List.length_drop, List.length_take]; rfl)) ?_; (with_reducible refine (impl_goodSide.calls a0 true _ A4.out).mono ?_); rintro e w' ⟨rfl, ⟨nd, rfl⟩⟩; refine ⟨_, rfl, ?_⟩) | (go_at_call 79; (with_reducible refine (impl_goodSide.calls a1 t102 _ A6.out).mono ?_); rintro e w' ⟨rfl, ⟨nd, rfl⟩⟩))
    go_meet
    case rel => exact ⟨_, (!t102), (by first | rfl | (simp; done) | (simp [*]; done)), H', ⟨by first | omega | exact Nat.le_refl _⟩, ⟨by repeat (first | (with_reducible first | exact HB.out | apply below_alloc | apply pw_below_drewN | apply below_drew1) | exact HB.out)⟩⟩
  case rest =>
    clear HC3
    try clear c2
    try clear p2
    try clear c5
    obtain ⟨kq, x15_2, rfl, HA, HJ2, HB⟩ := hcut
    cases kq with
    | zero => exact absurd HA.out (by simp [impl_Passes.j0])
    | succ kj2 =>
      have H := HA.out
      clear HA
      simp only [impl_Passes.j0] at H
      by_cases c7 : x15_2 = true
      · subst c7
        have H1 : (some ([] : List (S39))) = some r := by rw [if_pos rfl] at H; exact H
        clear H
        have H := H1
        clear H1
        obtain rfl := Option.some.inj H
        go_wp2
        go_ret
        exact ⟨_, by first | rfl | (simp [errW_none, errW_some] <;> rfl) | (simp [*, errW_none, errW_some] <;> rfl), by first | exact Kd.R_nil _ _ _ _ _ | exact Kd.N_nil _ _ _ _ _ | exact Kd.V_nil _ _ _ _ _ | exact Kd.Q_nil _ _ _ _ _ | exact Kd.S_nil _ _ _ _ _, by repeat (first | (with_reducible first | exact HB.out | apply below_alloc | apply pw_below_drewN | apply below_drew1) | exact HB.out)⟩
      replace c7 := Bool.eq_false_iff.mpr c7
      subst c7
      have H1 : ((some (([(⟨0, 0, 8, 8, 0, 0⟩ : S39), (⟨4, 0, 8, 8, 0, 0⟩ : S39), (⟨0, 4, 4, 8, 0, 0⟩ : S39), (⟨2, 0, 4, 4, 0, 0⟩ : S39), (⟨0, 2, 2, 4, 0, 0⟩ : S39), (⟨1, 0, 2, 2, 0, 0⟩ : S39), (⟨0, 1, 1, 2, 0, 0⟩ : S39)] : List (S39)) : List (S39))).bind fun y103 => (impl_Passes.l0 kj2 a0 a1 ([] : List (S39)) y103 (y103.length : Int) 0)) = some r := by rw [if_neg (show ¬ (false = true) by decide)] at H; exact H
      clear H
      have H := H1
      clear H1
      obtain ⟨y103, hy103⟩ : ∃ y_ : List (S39), y_ = (([(⟨0, 0, 8, 8, 0, 0⟩ : S39), (⟨4, 0, 8, 8, 0, 0⟩ : S39), (⟨0, 4, 4, 8, 0, 0⟩ : S39), (⟨2, 0, 4, 4, 0, 0⟩ : S39), (⟨0, 2, 2, 4, 0, 0⟩ : S39), (⟨1, 0, 2, 2, 0, 0⟩ : S39), (⟨0, 1, 1, 2, 0, 0⟩ : S39)] : List (S39))) := ⟨_, rfl⟩
      replace H : (impl_Passes.l0 kj2 a0 a1 ([] : List (S39)) y103 (y103.length : Int) 0) = some r := by first | (rw [hy103]; with_reducible exact H) | (have H2_ := (Option.bind_some _ _).symm.trans H; rw [hy103]; with_reducible exact H2_) | (have H2_ := (Option.bind_some _ _).symm.trans H; with_reducible exact H2_) | with_reducible exact H | (rw [hy103]; exact H) | exact H
      have Ny103 := Aside0.mk hy103
      clear hy103
      have H' := Aside0.mk H
      clear H
      go_wp2_with (first | ((with_reducible refine gate_dst (N := 23) rfl ?_); refine Kd.R_lit k39 _ 39 ?hg (N := 23) ?hd (xs := ([(⟨0, 0, 8, 8, 0, 0⟩ : S39), (⟨4, 0, 8, 8, 0, 0⟩ : S39), (⟨0, 4, 4, 8, 0, 0⟩ : S39), (⟨2, 0, 4, 4, 0, 0⟩ : S39), (⟨0, 2, 2, 4, 0, 0⟩ : S39), (⟨1, 0, 2, 2, 0, 0⟩ : S39), (⟨0, 1, 1, 2, 0, 0⟩ : S39)] : List (S39))) (inner := [.int .i64 0, .int .i64 0, .int .i64 8, .int .i64 8, .int .i64 0, .int .i64 0, .int .i64 4, .int .i64 0, .int .i64 8, .int .i64 8, .int .i64 0, .int .i64 0, .int .i64 0, .int .i64 4, .int .i64 4, .int .i64 8, .int .i64 0, .int .i64 0, .int .i64 2, .int .i64 0, .int .i64 4, .int .i64 4, .int .i64 0, .int .i64 0, .int .i64 0, .int .i64 2, .int .i64 2, .int .i64 4, .int .i64 0, .int .i64 0, .int .i64 1, .int .i64 0, .int .i64 2, .int .i64 2, .int .i64 0, .int .i64 0, .int .i64 0, .int .i64 1, .int .i64 1, .int .i64 2, .int .i64 0, .int .i64 0]) (ok := fun _ => True) (okp := fun _ => True) ?hr ?hp (fun _ hk => hk) trivial (Below.refl _ _) (Nat.le_refl _) (by simp) ?_; (case hd => rfl); (case hg => rfl); (case hr => first | (go_simp; done) | (go_simp; rfl)); (case hp => exact (Reps.c6 (show Kd.M k39 _ _ _ (⟨0, 0, 8, 8, 0, 0⟩ : S39) [.int .i64 0, .int .i64 0, .int .i64 8, .int .i64 8, .int .i64 0, .int .i64 0] from (k39_mkM _ _ _ (⟨0, 0, 8, 8, 0, 0⟩ : S39) )) (Reps.c6 (show Kd.M k39 _ _ _ (⟨4, 0, 8, 8, 0, 0⟩ : S39) [.int .i64 4, .int .i64 0, .int .i64 8, .int .i64 8, .int .i64 0, .int .i64 0] from (k39_mkM _ _ _ (⟨4, 0, 8, 8, 0, 0⟩ : S39) )) (Reps.c6 (show Kd.M k39 _ _ _ (⟨0, 4, 4, 8, 0, 0⟩ : S39) [.int .i64 0, .int .i64 4, .int .i64 4, .int .i64 8, .int .i64 0, .int .i64 0] from (k39_mkM _ _ _ (⟨0, 4, 4, 8, 0, 0⟩ : S39) )) (Reps.c6 (show Kd.M k39 _ _ _ (⟨2, 0, 4, 4, 0, 0⟩ : S39) [.int .i64 2, .int .i64 0, .int .i64 4, .int .i64 4, .int .i64 0, .int .i64 0] from (k39_mkM _ _ _ (⟨2, 0, 4, 4, 0, 0⟩ : S39) )) (Reps.c6 (show Kd.M k39 _ _ _ (⟨0, 2, 2, 4, 0, 0⟩ : S39) [.int .i64 0, .int .i64 2, .int .i64 2, .int .i64 4, .int .i64 0, .int .i64 0] from (k39_mkM _ _ _ (⟨0, 2, 2, 4, 0, 0⟩ : S39) )) (Reps.c6 (show Kd.M k39 _ _ _ (⟨1, 0, 2, 2, 0, 0⟩ : S39) [.int .i64 1, .int .i64 0, .int .i64 2, .int .i64 2, .int .i64 0, .int .i64 0] from (k39_mkM _ _ _ (⟨1, 0, 2, 2, 0, 0⟩ : S39) )) (Reps.c6 (show Kd.M k39 _ _ _ (⟨0, 1, 1, 2, 0, 0⟩ : S39) [.int .i64 0, .int .i64 1, .int .i64 1, .int .i64 2, .int .i64 0, .int .i64 0] from (k39_mkM _ _ _ (⟨0, 1, 1, 2, 0, 0⟩ : S39) )) (Reps.none _ _))))))))); intro v104 w8 ho9 hb hg_ hnew_; clear hg_ hnew_; (first | rw [← Ny103.out] at ho9 | (simp only [Int.reduceToNat] at ho9; rw [← Ny103.out] at ho9)); have n0_ := Aside0.mk (Kd.R_lower ho9 (below_size (by repeat (first | (with_reducible first | exact HB.out | apply below_alloc | apply pw_below_drewN | apply below_drew1) | exact HB.out)))); have n1_ := Aside0.mk (below_step (by repeat (first | (with_reducible first | exact HB.out | apply below_alloc | apply pw_below_drewN | apply below_drew1) | exact HB.out)) hb); clear HB; have HO105 := n0_; have HB := n1_; clear n0_ n1_; clear hb ho9; obtain ⟨Ao10, co10, eo10⟩ := Kd.R_slice HO105.out; subst eo10))
      go_loopg [5, 25] kj2 (fun kq v5 v25 w' => ∃ (x5_2 : List (S39)) (x25_2 : Int), v25 = .int .i64 x25_2 ∧ Aside0 (impl_Passes.l0 kq a0 a1 x5_2 y103 (y103.length : Int) x25_2 = some r) ∧ Aside0 (kq ≤ kj2) ∧ Aside0 (Kd.R k39 39 w' w.heap.size (fun k_ => some k_ ≠ ((.slice Ao10 y103.length co10) : Value).ownBlock) v5 x5_2) ∧ Aside0 (Kd.R k39 39 w' w.heap.size (fun k_ => some k_ ≠ (v5 : Value).ownBlock) (.slice Ao10 y103.length co10) y103) ∧ Aside0 (Below w.heap.size w w'))
      case atStart => exact ⟨(([] : List (S39))), (0), (by first | rfl | (simp; done) | (simp [*]; done)), H', ⟨Nat.le_refl _⟩, ⟨by first | exact Kd.R_nil _ _ _ _ _ | exact Kd.N_nil _ _ _ _ _ | exact Kd.V_nil _ _ _ _ _ | exact Kd.Q_nil _ _ _ _ _ | exact Kd.S_nil _ _ _ _ _⟩, ⟨by (with_reducible repeat (first | apply Kd.R_alloc | apply Kd.R_drewN | apply Kd.R_drew)); exact Kd.R_mono HO105.out (fun _ hk => (by simp [Value.ownBlock]))⟩, ⟨by repeat (first | (with_reducible first | exact HB.out | apply below_alloc | apply pw_below_drewN | apply below_drew1) | exact HB.out)⟩⟩
      case round =>
        clear H'
        try clear c2
        try clear p2
        try clear c5
        try clear c6
        try clear c7
        try clear p2
        obtain ⟨x5_2, x25_2, rfl, HA, HK2, HO_5, HO_23, HB⟩ := hrel
        cases gk with
        | zero => exact absurd HA.out (by simp [impl_Passes.l0])
        | succ k2 =>
          have H := HA.out
          clear HA
          simp only [impl_Passes.l0] at H
          obtain ⟨e, he⟩ : ∃ e_ : S39, rd_T39 y103 x25_2 = e_ := ⟨_, rfl⟩
          rw [he] at H
          by_cases c11 : x25_2 < (y103.length : Int)
          rotate_left
          · rw [if_neg c11] at H
            have c11b0 : decide (x25_2 < (y103.length : Int)) = false := decide_eq_false c11
            clear c11
            obtain rfl := Option.some.inj H
            go_wp2
            go_ret
            exact ⟨_, rfl, Kd.R_mono HO_5.out (fun _ _ => trivial), HB.out⟩
          rw [if_pos c11] at H
          have c11b0 : decide (x25_2 < (y103.length : Int)) = true := decide_eq_true c11
          by_cases c12 : 0 ≤ x25_2
          rotate_left
          · rw [if_neg c12] at H
            exact absurd H (by simp)
          rw [if_pos c12, if_pos c11] at H
          have c12b0 : decide (0 ≤ x25_2) = true := decide_eq_true c12
          by_cases c14 : e.f2 = 0
          · rw [if_pos c14] at H
            exact absurd H (by simp)
          rw [if_neg c14] at H
          have c14b0 : (e.f2 == 0) = false := beq_eq_false_iff_ne.mpr c14
          have c14b1 : (e.f2 != 0) = true := bne_iff_ne.mpr c14
          by_cases c15 : e.f3 = 0
          · rw [if_pos c15] at H
            exact absurd H (by simp)
          rw [if_neg c15] at H
          have c15b0 : (e.f3 == 0) = false := beq_eq_false_iff_ne.mpr c15
          have c15b1 : (e.f3 != 0) = true := bne_iff_ne.mpr c15
          obtain ⟨v1, hv1⟩ : ∃ v_ : Int, wrap64 (Int.tdiv (wrap64 ((wrap64 ((wrap64 (a0 - (e.f0))) + (e.f2))) - 1)) (e.f2)) = v_ := ⟨_, rfl⟩
          obtain ⟨v2, hv2⟩ : ∃ v_ : Int, wrap64 (Int.tdiv (wrap64 ((wrap64 ((wrap64 (a1 - (e.f1))) + (e.f3))) - 1)) (e.f3)) = v_ := ⟨_, rfl⟩
          rw [hv1, hv2] at H
          have HV1 := Aside0.mk hv1
          have HV2 := Aside0.mk hv2
          clear hv1 hv2
          have HH := Aside0.mk H
          clear H
          obtain ⟨ad, ead, hx0, hx1, hx2, hx3, hx4, hx5⟩ := at_T39 (Kd.R_reads' HO_23.out).2.2 x25_2 c12 c11
          cases ead
          rw [he] at hx0 hx1 hx2 hx3 hx4 hx5
          clear he
          replace c11 := eq_true c11
          replace c12 := eq_true c12
          go_upto_region 7 with (first | ((with_reducible refine gate_dst (N := 7) rfl ?_); refine box_event ?hg (N := 7) ?hd (cs := #[.int .i64 0, .int .i64 0, .int .i64 0, .int .i64 0, .int .i64 0, .int .i64 0]) (t := 39) ?hr ?_; (case hd => rfl); (case hg => rfl); (case hr => first | (go_simp; done) | (go_simp; rfl)); intro gb hg w1 hbox hb; have BK := Aside0.mk hbox; have GL := Aside0.mk (show wr.heap.size ≤ gb from Nat.le_of_eq hg.symm); have HV := Aside0.mk hb; clear hg hb; have hcz_0 : w1.cell? ⟨gb, 0, none⟩ = some (.int .i64 0) := (blk_cell hbox 0).trans rfl; have hcz_1 : w1.cell? ⟨gb, 1, none⟩ = some (.int .i64 0) := (blk_cell hbox 1).trans rfl; have hcz_2 : w1.cell? ⟨gb, 2, none⟩ = some (.int .i64 0) := (blk_cell hbox 2).trans rfl; have hcz_3 : w1.cell? ⟨gb, 3, none⟩ = some (.int .i64 0) := (blk_cell hbox 3).trans rfl; have hcz_4 : w1.cell? ⟨gb, 4, none⟩ = some (.int .i64 0) := (blk_cell hbox 4).trans rfl; have hcz_5 : w1.cell? ⟨gb, 5, none⟩ = some (.int .i64 0) := (blk_cell hbox 5).trans rfl; have hfz_0 := blk_frozen hbox 0; have hfz_1 := blk_frozen hbox 1; have hfz_2 := blk_frozen hbox 2; have hfz_3 := blk_frozen hbox 3; have hfz_4 := blk_frozen hbox 4; have hfz_5 := blk_frozen hbox 5; clear hbox))
          have hb : Below wr.heap.size wr (World.setCell (World.setCell (World.setCell (World.setCell (World.setCell (World.setCell w1 ⟨gb, 0, none⟩ (.int .i64 e.f0)) ⟨gb, 1, none⟩ (.int .i64 e.f1)) ⟨gb, 2, none⟩ (.int .i64 e.f2)) ⟨gb, 3, none⟩ (.int .i64 e.f3)) ⟨gb, 4, none⟩ (.int .i64 e.f4)) ⟨gb, 5, none⟩ (.int .i64 e.f5)) := by repeat (first | exact HV.out | refine below_set ?_ GL.out)
          have hbox : (World.setCell (World.setCell (World.setCell (World.setCell (World.setCell (World.setCell w1 ⟨gb, 0, none⟩ (.int .i64 e.f0)) ⟨gb, 1, none⟩ (.int .i64 e.f1)) ⟨gb, 2, none⟩ (.int .i64 e.f2)) ⟨gb, 3, none⟩ (.int .i64 e.f3)) ⟨gb, 4, none⟩ (.int .i64 e.f4)) ⟨gb, 5, none⟩ (.int .i64 e.f5)).heap[gb]? = some (.cells #[.int .i64 e.f0, .int .i64 e.f1, .int .i64 e.f2, .int .i64 e.f3, .int .i64 e.f4, .int .i64 e.f5] 39 (0, 0)) := (blk_set (blk_set (blk_set (blk_set (blk_set (blk_set BK.out 0 (.int .i64 e.f0)) 1 (.int .i64 e.f1)) 2 (.int .i64 e.f2)) 3 (.int .i64 e.f3)) 4 (.int .i64 e.f4)) 5 (.int .i64 e.f5))
          generalize (World.setCell (World.setCell (World.setCell (World.setCell (World.setCell (World.setCell w1 ⟨gb, 0, none⟩ (.int .i64 e.f0)) ⟨gb, 1, none⟩ (.int .i64 e.f1)) ⟨gb, 2, none⟩ (.int .i64 e.f2)) ⟨gb, 3, none⟩ (.int .i64 e.f3)) ⟨gb, 4, none⟩ (.int .i64 e.f4)) ⟨gb, 5, none⟩ (.int .i64 e.f5)) = w2 at hb hbox ⊢
          have n5_ := Aside0.mk (Kd.R_below (Kd.R_elderB HO_5.out gb GL.out) hb)
          have n23_ := Aside0.mk (Kd.R_below (Kd.R_elderB HO_23.out gb GL.out) hb)
          have nB_ := Aside0.mk (below_step HB.out hb)
          have GE := Aside0.mk (show w.heap.size ≤ gb from Nat.le_trans (below_size HB.out) GL.out)
          clear HO_5 HO_23 HB HV BK hb hx0 hx1 hx2 hx3 hx4 hx5 hcz_0 hfz_0 hcz_1 hfz_1 hcz_2 hfz_2 hcz_3 hfz_3 hcz_4 hfz_4 hcz_5 hfz_5
          have HO_5 := n5_
          have HO_23 := n23_
          have HB := nB_
          have BK := Aside0.mk hbox
          clear n5_ n23_ nB_ hbox
          have hcz_0 : w2.cell? ⟨gb, 0, none⟩ = some (.int .i64 e.f0) := (blk_cell BK.out 0).trans rfl
          have hcz_1 : w2.cell? ⟨gb, 1, none⟩ = some (.int .i64 e.f1) := (blk_cell BK.out 1).trans rfl
          have hcz_2 : w2.cell? ⟨gb, 2, none⟩ = some (.int .i64 e.f2) := (blk_cell BK.out 2).trans rfl
          have hcz_3 : w2.cell? ⟨gb, 3, none⟩ = some (.int .i64 e.f3) := (blk_cell BK.out 3).trans rfl
          have hcz_4 : w2.cell? ⟨gb, 4, none⟩ = some (.int .i64 e.f4) := (blk_cell BK.out 4).trans rfl
          have hcz_5 : w2.cell? ⟨gb, 5, none⟩ = some (.int .i64 e.f5) := (blk_cell BK.out 5).trans rfl
          have hfz_0 := blk_frozen BK.out 0
          have hfz_1 := blk_frozen BK.out 1
          have hfz_2 := blk_frozen BK.out 2
          have hfz_3 := blk_frozen BK.out 3
          have hfz_4 := blk_frozen BK.out 4
          have hfz_5 := blk_frozen BK.out 5
          go_upto_region 8 with (fail)
          have hv := HV1.out
          (try simp only [hv])
          clear hv
          have n5_ := Aside0.mk (Kd.R_far (p := ⟨gb, 4, none⟩) HO_5.out (fun _ hk => hk.2) (.int .i64 v1))
          have n23_ := Aside0.mk (Kd.R_far (p := ⟨gb, 4, none⟩) HO_23.out (fun _ hk => hk.2) (.int .i64 v1))
          have nB_ := Aside0.mk (show Below w.heap.size w (World.setCell w2 ⟨gb, 4, none⟩ (.int .i64 v1)) from below_set HB.out GE.out)
          have nK_ := Aside0.mk (show (World.setCell w2 ⟨gb, 4, none⟩ (.int .i64 v1)).heap[gb]? = some (.cells #[.int .i64 e.f0, .int .i64 e.f1, .int .i64 e.f2, .int .i64 e.f3, .int .i64 v1, .int .i64 e.f5] 39 (0, 0)) from (blk_set BK.out 4 (.int .i64 v1)))
          clear HO_5 HO_23 HB BK hcz_0 hfz_0 hcz_1 hfz_1 hcz_2 hfz_2 hcz_3 hfz_3 hcz_4 hfz_4 hcz_5 hfz_5
          generalize (World.setCell w2 ⟨gb, 4, none⟩ (.int .i64 v1)) = w3 at n5_ n23_ nB_ nK_ ⊢
          have HO_5 := n5_
          have HO_23 := n23_
          have HB := nB_
          have BK := nK_
          clear n5_ n23_ nB_ nK_
          have hcz_0 : w3.cell? ⟨gb, 0, none⟩ = some (.int .i64 e.f0) := (blk_cell BK.out 0).trans rfl
          have hcz_1 : w3.cell? ⟨gb, 1, none⟩ = some (.int .i64 e.f1) := (blk_cell BK.out 1).trans rfl
          have hcz_2 : w3.cell? ⟨gb, 2, none⟩ = some (.int .i64 e.f2) := (blk_cell BK.out 2).trans rfl
          have hcz_3 : w3.cell? ⟨gb, 3, none⟩ = some (.int .i64 e.f3) := (blk_cell BK.out 3).trans rfl
          have hcz_4 : w3.cell? ⟨gb, 4, none⟩ = some (.int .i64 v1) := (blk_cell BK.out 4).trans rfl
          have hcz_5 : w3.cell? ⟨gb, 5, none⟩ = some (.int .i64 e.f5) := (blk_cell BK.out 5).trans rfl
          have hfz_0 := blk_frozen BK.out 0
          have hfz_1 := blk_frozen BK.out 1
          have hfz_2 := blk_frozen BK.out 2
          have hfz_3 := blk_frozen BK.out 3
          have hfz_4 := blk_frozen BK.out 4
          have hfz_5 := blk_frozen BK.out 5
          go_upto_region 9 with (fail)
          have hv := HV2.out
          (try simp only [hv])
          clear hv
          have n5_ := Aside0.mk (Kd.R_far (p := ⟨gb, 5, none⟩) HO_5.out (fun _ hk => hk.2) (.int .i64 v2))
          have n23_ := Aside0.mk (Kd.R_far (p := ⟨gb, 5, none⟩) HO_23.out (fun _ hk => hk.2) (.int .i64 v2))
          have nB_ := Aside0.mk (show Below w.heap.size w (World.setCell w3 ⟨gb, 5, none⟩ (.int .i64 v2)) from below_set HB.out GE.out)
          have nK_ := Aside0.mk (show (World.setCell w3 ⟨gb, 5, none⟩ (.int .i64 v2)).heap[gb]? = some (.cells #[.int .i64 e.f0, .int .i64 e.f1, .int .i64 e.f2, .int .i64 e.f3, .int .i64 v1, .int .i64 v2] 39 (0, 0)) from (blk_set BK.out 5 (.int .i64 v2)))
          clear HO_5 HO_23 HB BK hcz_0 hfz_0 hcz_1 hfz_1 hcz_2 hfz_2 hcz_3 hfz_3 hcz_4 hfz_4 hcz_5 hfz_5
          generalize (World.setCell w3 ⟨gb, 5, none⟩ (.int .i64 v2)) = w4 at n5_ n23_ nB_ nK_ ⊢
          have HO_5 := n5_
          have HO_23 := n23_
          have HB := nB_
          have BK := nK_
          clear n5_ n23_ nB_ nK_
          have hcz_0 : w4.cell? ⟨gb, 0, none⟩ = some (.int .i64 e.f0) := (blk_cell BK.out 0).trans rfl
          have hcz_1 : w4.cell? ⟨gb, 1, none⟩ = some (.int .i64 e.f1) := (blk_cell BK.out 1).trans rfl
          have hcz_2 : w4.cell? ⟨gb, 2, none⟩ = some (.int .i64 e.f2) := (blk_cell BK.out 2).trans rfl
          have hcz_3 : w4.cell? ⟨gb, 3, none⟩ = some (.int .i64 e.f3) := (blk_cell BK.out 3).trans rfl
          have hcz_4 : w4.cell? ⟨gb, 4, none⟩ = some (.int .i64 v1) := (blk_cell BK.out 4).trans rfl
          have hcz_5 : w4.cell? ⟨gb, 5, none⟩ = some (.int .i64 v2) := (blk_cell BK.out 5).trans rfl
          have H := HH.out
          clear HH c14 c14b0 c14b1 c15 c15b0 c15b1 HV1 HV2
          by_cases c16 : v1 > 0
          rotate_left
          · rw [if_neg c16] at H
            have c16b0 : decide (0 < v1) = false := decide_eq_false c16
            clear c16
            have H' := Aside0.mk H
            clear H
            go_wp2
            go_roundg k2
            case measure => have := HJ2.out; have := HK2.out; omega
            case rel => exact ⟨x5_2, wrap64 (x25_2 + 1), (by first | rfl | (simp; done)), H', ⟨by have := HJ2.out; have := HK2.out; omega⟩, ⟨Kd.R_mono HO_5.out (fun _ hk => hk.1)⟩, ⟨Kd.R_mono HO_23.out (fun _ hk => hk.1)⟩, HB⟩
          rw [if_pos c16] at H
          have c16b0 : decide (0 < v1) = true := decide_eq_true c16
          clear c16
          by_cases c17 : v2 > 0
          rotate_left
          · rw [if_neg c17] at H
            have c17b0 : decide (0 < v2) = false := decide_eq_false c17
            clear c17
            have H' := Aside0.mk H
            clear H
            go_wp2
            go_roundg k2
            case measure => have := HJ2.out; have := HK2.out; omega
            case rel => exact ⟨x5_2, wrap64 (x25_2 + 1), (by first | rfl | (simp; done)), H', ⟨by have := HJ2.out; have := HK2.out; omega⟩, ⟨Kd.R_mono HO_5.out (fun _ hk => hk.1)⟩, ⟨Kd.R_mono HO_23.out (fun _ hk => hk.1)⟩, HB⟩
          rw [if_pos c17] at H
          have c17b0 : decide (0 < v2) = true := decide_eq_true c17
          clear c17
          by_cases c18 : x5_2.length < 2932031007402
          rotate_left
          · rw [if_neg c18] at H
            exact absurd H (by simp)
          rw [if_pos c18] at H
          have LM := Aside0.mk c18
          clear c18
          have H' := Aside0.mk H
          clear H
          go_wp2_with (first | ((with_reducible refine gate_builtin (b := .append) (xs := #[.tmp 61, .tmp 63]) rfl ?_); at_builtin; refine Kd.R_append k39 (w0 := w) (W := w4) w.heap.size rfl (.tmp 61) (.tmp 63) 36 39 (.agg #[(.int .i64 0), (.int .i64 0), (.int .i64 0), (.int .i64 0), (.int .i64 0), (.int .i64 0)]) 48 rfl Try.underlying36 info39 rfl (by decide) (by omega) u5 x5_2 (⟨e.f0, e.f1, e.f2, e.f3, v1, v2⟩ : S39) [.int .i64 e.f0, .int .i64 e.f1, .int .i64 e.f2, .int .i64 e.f3, .int .i64 v1, .int .i64 v2] (fun k_ => some k_ ≠ ((.slice (some ad) y103.length co10) : Value).ownBlock ∧ k_ ≠ gb) (fun _ => False) rfl (by first | (go_simp; done) | (go_simp; rfl)) ?aP (fun _ hk => hk.elim) ?aF ?aO ?aB ?aS ?aL ?_; (case aP => exact k39_mkM _ _ _ (⟨e.f0, e.f1, e.f2, e.f3, v1, v2⟩ : S39)); (case aB => exact HB.out); (case aF => exact fun k_ hk => ⟨fun e_ => by have := Kd.R_lt HO_23.out k_ e_.symm; omega, by have := blk_lt BK.out; omega⟩); (case aO => exact HO_5.out); (case aS => exact below_size HB.out); (case aL => have := LM.out; omega); intro v9 w9 ho hb hg hat; have n5_ := Aside0.mk ho; have n23_ := Aside0.mk (Kd.R_after (ok := (fun k_ => k_ ≠ gb)) (Kd.R_mono HO_23.out (fun _ hk => ⟨hk.2, hk.1⟩)) hg hat); have nB_ := Aside0.mk hb; clear ho hb hg hat HO_5 HO_23 HB; have HO_5 := n5_; have HO_23 := n23_; have HB := nB_; clear n5_ n23_ nB_))
          go_roundg k2
          case measure => have := HJ2.out; have := HK2.out; omega
          case rel => exact ⟨x5_2 ++ [(⟨e.f0, e.f1, e.f2, e.f3, v1, v2⟩ : S39)], wrap64 (x25_2 + 1), (by first | rfl | (simp; done)), H', ⟨by have := HJ2.out; have := HK2.out; omega⟩, ⟨Kd.R_mono HO_5.out (fun _ hk => hk.1)⟩, ⟨Kd.R_mono HO_23.out (fun _ hk => hk.2)⟩, HB⟩

/-! ### impl_goodSides: function 99 -/
def impl_goodSides.f (a0 : Int) (a1 : Int) : Option (Bool) := (impl_goodSide.f a0).bind fun t101 => (if t101 = true then ((impl_goodSide.f a1).bind fun t102 => (if t102 = true then (some (decide ((wrap64 (a0 * a1)) ≤ 4096))) else (some false))) else (some false))
set_option maxHeartbeats 8000000 in
set_option maxRecDepth 100000 in
theorem impl_goodSides.calls (a0 : Int) (a1 : Int) (r : Bool) (w : World) (h : impl_goodSides.f a0 a1 = some r) :
    Calls Try.prog 99 #[.int .i64 a0, .int .i64 a1] w fun e w' => e = .returned (.bool r) ∧ Drawn0 w w' := by
  have H : ((impl_goodSide.f a0).bind fun t101 => (if t101 = true then ((impl_goodSide.f a1).bind fun t102 => (if t102 = true then (some (decide ((wrap64 (a0 * a1)) ≤ 4096))) else (some false))) else (some false))) = some r := h
  clear h
  replace H := Option.bind_eq_some_iff.mp H
  obtain ⟨t101, A30, H⟩ := H
  replace H : (if t101 = true then ((impl_goodSide.f a1).bind fun t102 => (if t102 = true then (some (decide ((wrap64 (a0 * a1)) ≤ 4096))) else (some false))) else (some false)) = some r := H
  have A3 := Aside0.mk A30
  clear A30
  by_cases c4 : t101 = true
  · subst c4
    have H1 : ((impl_goodSide.f a1).bind fun t102 => (if t102 = true then (some (decide ((wrap64 (a0 * a1)) ≤ 4096))) else (some false))) = some r := by rw [if_pos rfl] at H; exact H
    clear H
    have H := H1
    clear H1
    replace H := Option.bind_eq_some_iff.mp H
    obtain ⟨t102, A50, H⟩ := H
    replace H : (if t102 = true then (some (decide ((wrap64 (a0 * a1)) ≤ 4096))) else (some false)) = some r := H
    have A5 := Aside0.mk A50
    clear A50
    by_cases c6 : t102 = true
    · subst c6
      have H1 : (some (decide ((wrap64 (a0 * a1)) ≤ 4096))) = some r := by rw [if_pos rfl] at H; exact H
      clear H
      have H := H1
      clear H1
      obtain rfl := Option.some.inj H
      go_enter Try.func99, Try.ntmps99
      go_wp2_with (first | ((with_reducible refine gate_callee (f := 79) rfl ?_); refine goesL_ (some 6) rfl rfl Try.func79 (by kernel_rfl) rfl #[.int .i64 a0] rfl (by (try simp only [List.map_toArray, List.map_cons, List.map_nil]); first | done | rfl | (simp only [List.length_drop, List.length_take]; rfl)) ?_; (with_reducible refine (impl_goodSide.calls a0 true _ A3.out).mono ?_); rintro e w' ⟨rfl, ⟨nd, rfl⟩⟩; refine ⟨_, rfl, ?_⟩) | (go_at_call 79; (with_reducible refine (impl_goodSide.calls a1 true _ A5.out).mono ?_); rintro e w' ⟨rfl, ⟨nd, rfl⟩⟩))
      go_ret
      exact ⟨by first | rfl | (simp; done) | (simp [*]; done), by repeat (first | exact Drawn0.refl _ | apply Drawn0.step)⟩
    · replace c6 := Bool.eq_false_iff.mpr c6
      subst c6
      have H1 : (some false) = some r := by rw [if_neg (show ¬ (false = true) by decide)] at H; exact H
      clear H
      have H := H1
      clear H1
      obtain rfl := Option.some.inj H
      go_enter Try.func99, Try.ntmps99
      go_wp2_with (first | ((with_reducible refine gate_callee (f := 79) rfl ?_); refine goesL_ (some 6) rfl rfl Try.func79 (by kernel_rfl) rfl #[.int .i64 a0] rfl (by (try simp only [List.map_toArray, List.map_cons, List.map_nil]); first | done | rfl | (simp only [List.length_drop, List.length_take]; rfl)) ?_; (with_reducible refine (impl_goodSide.calls a0 true _ A3.out).mono ?_); rintro e w' ⟨rfl, ⟨nd, rfl⟩⟩; refine ⟨_, rfl, ?_⟩) | (go_at_call 79; (with_reducible refine (impl_goodSide.calls a1 false _ A5.out).mono ?_); rintro e w' ⟨rfl, ⟨nd, rfl⟩⟩))
      go_ret
      exact ⟨by first | rfl | (simp; done) | (simp [*]; done), by repeat (first | exact Drawn0.refl _ | apply Drawn0.step)⟩
  · replace c4 := Bool.eq_false_iff.mpr c4
    subst c4
    have H1 : (some false) = some r := by rw [if_neg (show ¬ (false = true) by decide)] at H; exact H
    clear H
    have H := H1
    clear H1
    obtain rfl := Option.some.inj H
    go_enter Try.func99, Try.ntmps99
    go_wp2_with (first | ((with_reducible refine gate_callee (f := 79) rfl ?_); refine goesL_ (some 6) rfl rfl Try.func79 (by kernel_rfl) rfl #[.int .i64 a0] rfl (by (try simp only [List.map_toArray, List.map_cons, List.map_nil]); first | done | rfl | (simp only [List.length_drop, List.length_take]; rfl)) ?_; (with_reducible refine (impl_goodSide.calls a0 false _ A3.out).mono ?_); rintro e w' ⟨rfl, ⟨nd, rfl⟩⟩; refine ⟨_, rfl, ?_⟩))
    go_ret
    exact ⟨by first | rfl | (simp; done) | (simp [*]; done), by repeat (first | exact Drawn0.refl _ | apply Drawn0.step)⟩

/-! ### impl_goodDepth: function 135 -/
def impl_goodDepth.f (a0 : Int) : Option (Bool) := if a0 = 1 then (some true) else (if a0 = 2 then (some true) else (if a0 = 4 then (some true) else (if a0 = 8 then (some true) else (some (a0 == 16)))))
set_option maxHeartbeats 8000000 in
set_option maxRecDepth 100000 in
theorem impl_goodDepth.calls (a0 : Int) (r : Bool) (w : World) (h : impl_goodDepth.f a0 = some r) :
    Calls Try.prog 135 #[.int .i64 a0] w fun e w' => e = .returned (.bool r) ∧ Drawn0 w w' := by
  have H : (if a0 = 1 then (some true) else (if a0 = 2 then (some true) else (if a0 = 4 then (some true) else (if a0 = 8 then (some true) else (some (a0 == 16)))))) = some r := h
  clear h
  by_cases c2 : a0 = 1
  · rw [if_pos c2] at H
    have c2b0 : (a0 == 1) = true := beq_iff_eq.mpr c2
    have c2b1 : (a0 != 1) = false := bne_eq_false_iff_eq.mpr c2
    clear c2
    obtain rfl := Option.some.inj H
    go_enter Try.func135, Try.ntmps135
    go_wp2
    go_ret
    exact ⟨by first | rfl | (simp; done) | (simp [*]; done), by repeat (first | exact Drawn0.refl _ | apply Drawn0.step)⟩
  · rw [if_neg c2] at H
    have c2b0 : (a0 == 1) = false := beq_eq_false_iff_ne.mpr c2
    have c2b1 : (a0 != 1) = true := bne_iff_ne.mpr c2
    by_cases c3 : a0 = 2
    · rw [if_pos c3] at H
      have c3b0 : (a0 == 2) = true := beq_iff_eq.mpr c3
      have c3b1 : (a0 != 2) = false := bne_eq_false_iff_eq.mpr c3
      clear c3
      obtain rfl := Option.some.inj H
      go_enter Try.func135, Try.ntmps135
      go_wp2
      go_ret
      exact ⟨by first | rfl | (simp; done) | (simp [*]; done), by repeat (first | exact Drawn0.refl _ | apply Drawn0.step)⟩
    · rw [if_neg c3] at H
      have c3b0 : (a0 == 2) = false := beq_eq_false_iff_ne.mpr c3
      have c3b1 : (a0 != 2) = true := bne_iff_ne.mpr c3
      by_cases c4 : a0 = 4
      · rw [if_pos c4] at H
        have c4b0 : (a0 == 4) = true := beq_iff_eq.mpr c4
        have c4b1 : (a0 != 4) = false := bne_eq_false_iff_eq.mpr c4
        clear c4
        obtain rfl := Option.some.inj H
        go_enter Try.func135, Try.ntmps135
        go_wp2
        go_ret
        exact ⟨by first | rfl | (simp; done) | (simp [*]; done), by repeat (first | exact Drawn0.refl _ | apply Drawn0.step)⟩
      · rw [if_neg c4] at H
        have c4b0 : (a0 == 4) = false := beq_eq_false_iff_ne.mpr c4
        have c4b1 : (a0 != 4) = true := bne_iff_ne.mpr c4
        by_cases c5 : a0 = 8
        · rw [if_pos c5] at H
          have c5b0 : (a0 == 8) = true := beq_iff_eq.mpr c5
          have c5b1 : (a0 != 8) = false := bne_eq_false_iff_eq.mpr c5
          clear c5
          obtain rfl := Option.some.inj H
          go_enter Try.func135, Try.ntmps135
          go_wp2
          go_ret
          exact ⟨by first | rfl | (simp; done) | (simp [*]; done), by repeat (first | exact Drawn0.refl _ | apply Drawn0.step)⟩
        · rw [if_neg c5] at H
          have c5b0 : (a0 == 8) = false := beq_eq_false_iff_ne.mpr c5
          have c5b1 : (a0 != 8) = true := bne_iff_ne.mpr c5
          obtain rfl := Option.some.inj H
          go_enter Try.func135, Try.ntmps135
          go_wp2
          go_ret
          exact ⟨by first | rfl | (simp; done) | (simp [*]; done), by repeat (first | exact Drawn0.refl _ | apply Drawn0.step)⟩

/-! ### impl_goodShape: function 80 -/
def impl_goodShape.f (a0 : Int) (a1 : Int) (a2 : Int) (a3 : Int) : Option (Bool) := (impl_goodSides.f a0 a1).bind fun t103 => (if t103 = true then (if a2 ≥ 1 then (if a2 ≤ 4 then ((impl_goodDepth.f a3).bind fun t104 => (if t104 = true then (if a2 = 1 then (some true) else (some (decide (a3 ≥ 8)))) else (some false))) else (some false)) else (some false)) else (some false))
set_option maxHeartbeats 8000000 in
set_option maxRecDepth 100000 in
theorem impl_goodShape.calls (a0 : Int) (a1 : Int) (a2 : Int) (a3 : Int) (r : Bool) (w : World) (h : impl_goodShape.f a0 a1 a2 a3 = some r) :
    Calls Try.prog 80 #[.int .i64 a0, .int .i64 a1, .int .i64 a2, .int .i64 a3] w fun e w' => e = .returned (.bool r) ∧ Drawn0 w w' := by
  have H : ((impl_goodSides.f a0 a1).bind fun t103 => (if t103 = true then (if a2 ≥ 1 then (if a2 ≤ 4 then ((impl_goodDepth.f a3).bind fun t104 => (if t104 = true then (if a2 = 1 then (some true) else (some (decide (a3 ≥ 8)))) else (some false))) else (some false)) else (some false)) else (some false))) = some r := h
  clear h
  replace H := Option.bind_eq_some_iff.mp H
  obtain ⟨t103, A50, H⟩ := H
  replace H : (if t103 = true then (if a2 ≥ 1 then (if a2 ≤ 4 then ((impl_goodDepth.f a3).bind fun t104 => (if t104 = true then (if a2 = 1 then (some true) else (some (decide (a3 ≥ 8)))) else (some false))) else (some false)) else (some false)) else (some false)) = some r := H
  have A5 := Aside0.mk A50
  clear A50
  by_cases c6 : t103 = true
  rotate_left
  · replace c6 := Bool.eq_false_iff.mpr c6
    subst c6
    have H1 : (some false) = some r := by rw [if_neg (show ¬ (false = true) by decide)] at H; exact H
    clear H
    have H := H1
    clear H1
    obtain rfl := Option.some.inj H
    go_enter Try.func80, Try.ntmps80
    go_wp2_with (first | ((with_reducible refine gate_callee (f := 99) rfl ?_); refine goesL_ (some 11) rfl rfl Try.func99 (by kernel_rfl) rfl #[.int .i64 a0, .int .i64 a1] rfl (by (try simp only [List.map_toArray, List.map_cons, List.map_nil]); first | done | rfl | (simp only [List.length_drop, List.length_take]; rfl)) ?_; (with_reducible refine (impl_goodSides.calls a0 a1 false _ A5.out).mono ?_); rintro e w' ⟨rfl, ⟨nd, rfl⟩⟩; refine ⟨_, rfl, ?_⟩))
    go_ret
    exact ⟨by first | rfl | (simp; done) | (simp [*]; done), by repeat (first | exact Drawn0.refl _ | apply Drawn0.step)⟩
  subst c6
  have H1 : (if a2 ≥ 1 then (if a2 ≤ 4 then ((impl_goodDepth.f a3).bind fun t104 => (if t104 = true then (if a2 = 1 then (some true) else (some (decide (a3 ≥ 8)))) else (some false))) else (some false)) else (some false)) = some r := by rw [if_pos rfl] at H; exact H
  clear H
  have H := H1
  clear H1
  by_cases c7 : a2 ≥ 1
  rotate_left
  · rw [if_neg c7] at H
    have c7b0 : decide (1 ≤ a2) = false := decide_eq_false c7
    clear c7
    obtain rfl := Option.some.inj H
    go_enter Try.func80, Try.ntmps80
    go_wp2_with (first | ((with_reducible refine gate_callee (f := 99) rfl ?_); refine goesL_ (some 11) rfl rfl Try.func99 (by kernel_rfl) rfl #[.int .i64 a0, .int .i64 a1] rfl (by (try simp only [List.map_toArray, List.map_cons, List.map_nil]); first | done | rfl | (simp only [List.length_drop, List.length_take]; rfl)) ?_; (with_reducible refine (impl_goodSides.calls a0 a1 true _ A5.out).mono ?_); rintro e w' ⟨rfl, ⟨nd, rfl⟩⟩; refine ⟨_, rfl, ?_⟩))
    go_ret
    exact ⟨by first | rfl | (simp; done) | (simp [*]; done), by repeat (first | exact Drawn0.refl _ | apply Drawn0.step)⟩
  rw [if_pos c7] at H
  have c7b0 : decide (1 ≤ a2) = true := decide_eq_true c7
  clear c7
  by_cases c8 : a2 ≤ 4
  rotate_left
  · rw [if_neg c8] at H
    have c8b0 : decide (a2 ≤ 4) = false := decide_eq_false c8
    clear c8
    obtain rfl := Option.some.inj H
    go_enter Try.func80, Try.ntmps80
    go_wp2_with (first | ((with_reducible refine gate_callee (f := 99) rfl ?_); refine goesL_ (some 11) rfl rfl Try.func99 (by kernel_rfl) rfl #[.int .i64 a0, .int .i64 a1] rfl (by (try simp only [List.map_toArray, List.map_cons, List.map_nil]); first | done | rfl | (simp only [List.length_drop, List.length_take]; rfl)) ?_; (with_reducible refine (impl_goodSides.calls a0 a1 true _ A5.out).mono ?_); rintro e w' ⟨rfl, ⟨nd, rfl⟩⟩; refine ⟨_, rfl, ?_⟩))
    go_ret
    exact ⟨by first | rfl | (simp; done) | (simp [*]; done), by repeat (first | exact Drawn0.refl _ | apply Drawn0.step)⟩
  rw [if_pos c8] at H
  have c8b0 : decide (a2 ≤ 4) = true := decide_eq_true c8
  clear c8
  replace H := Option.bind_eq_some_iff.mp H
  obtain ⟨t104, A90, H⟩ := H
  replace H : (if t104 = true then (if a2 = 1 then (some true) else (some (decide (a3 ≥ 8)))) else (some false)) = some r := H
  have A9 := Aside0.mk A90
  clear A90
  by_cases c10 : t104 = true
  rotate_left
  · replace c10 := Bool.eq_false_iff.mpr c10
    subst c10
    have H1 : (some false) = some r := by rw [if_neg (show ¬ (false = true) by decide)] at H; exact H
    clear H
    have H := H1
    clear H1
    obtain rfl := Option.some.inj H
    go_enter Try.func80, Try.ntmps80
    go_wp2_with (first | ((with_reducible refine gate_callee (f := 99) rfl ?_); refine goesL_ (some 11) rfl rfl Try.func99 (by kernel_rfl) rfl #[.int .i64 a0, .int .i64 a1] rfl (by (try simp only [List.map_toArray, List.map_cons, List.map_nil]); first | done | rfl | (simp only [List.length_drop, List.length_take]; rfl)) ?_; (with_reducible refine (impl_goodSides.calls a0 a1 true _ A5.out).mono ?_); rintro e w' ⟨rfl, ⟨nd, rfl⟩⟩; refine ⟨_, rfl, ?_⟩) | (go_at_call 135; (with_reducible refine (impl_goodDepth.calls a3 false _ A9.out).mono ?_); rintro e w' ⟨rfl, ⟨nd, rfl⟩⟩))
    go_ret
    exact ⟨by first | rfl | (simp; done) | (simp [*]; done), by repeat (first | exact Drawn0.refl _ | apply Drawn0.step)⟩
  subst c10
  have H1 : (if a2 = 1 then (some true) else (some (decide (a3 ≥ 8)))) = some r := by rw [if_pos rfl] at H; exact H
  clear H
  have H := H1
  clear H1
  by_cases c11 : a2 = 1
  rotate_left
  · rw [if_neg c11] at H
    have c11b0 : (a2 == 1) = false := beq_eq_false_iff_ne.mpr c11
    have c11b1 : (a2 != 1) = true := bne_iff_ne.mpr c11
    obtain rfl := Option.some.inj H
    go_enter Try.func80, Try.ntmps80
    go_wp2_with (first | ((with_reducible refine gate_callee (f := 99) rfl ?_); refine goesL_ (some 11) rfl rfl Try.func99 (by kernel_rfl) rfl #[.int .i64 a0, .int .i64 a1] rfl (by (try simp only [List.map_toArray, List.map_cons, List.map_nil]); first | done | rfl | (simp only [List.length_drop, List.length_take]; rfl)) ?_; (with_reducible refine (impl_goodSides.calls a0 a1 true _ A5.out).mono ?_); rintro e w' ⟨rfl, ⟨nd, rfl⟩⟩; refine ⟨_, rfl, ?_⟩) | (go_at_call 135; (with_reducible refine (impl_goodDepth.calls a3 true _ A9.out).mono ?_); rintro e w' ⟨rfl, ⟨nd, rfl⟩⟩))
    go_ret
    exact ⟨by first | rfl | (simp; done) | (simp [*]; done), by repeat (first | exact Drawn0.refl _ | apply Drawn0.step)⟩
  rw [if_pos c11] at H
  have c11b0 : (a2 == 1) = true := beq_iff_eq.mpr c11
  have c11b1 : (a2 != 1) = false := bne_eq_false_iff_eq.mpr c11
  clear c11
  obtain rfl := Option.some.inj H
  go_enter Try.func80, Try.ntmps80
  go_wp2_with (first | ((with_reducible refine gate_callee (f := 99) rfl ?_); refine goesL_ (some 11) rfl rfl Try.func99 (by kernel_rfl) rfl #[.int .i64 a0, .int .i64 a1] rfl (by (try simp only [List.map_toArray, List.map_cons, List.map_nil]); first | done | rfl | (simp only [List.length_drop, List.length_take]; rfl)) ?_; (with_reducible refine (impl_goodSides.calls a0 a1 true _ A5.out).mono ?_); rintro e w' ⟨rfl, ⟨nd, rfl⟩⟩; refine ⟨_, rfl, ?_⟩) | (go_at_call 135; (with_reducible refine (impl_goodDepth.calls a3 true _ A9.out).mono ?_); rintro e w' ⟨rfl, ⟨nd, rfl⟩⟩))
  go_ret
  exact ⟨by first | rfl | (simp; done) | (simp [*]; done), by repeat (first | exact Drawn0.refl _ | apply Drawn0.step)⟩

/-! ### impl_inRange: function 100 -/
def impl_inRange.l0 : Nat → Int → List Int → Int → Int → Option (Bool)
  | 0, _, _, _, _ => none
  | k + 1, x1, x7, x8, x9 => if x9 < x8 then (if 0 ≤ x9 then (if x9 < (x7.length : Int) then (if (rd x7 x9) < 0 then (some false) else (if (rd x7 x9) > x1 then (some false) else (impl_inRange.l0 k x1 x7 x8 (wrap64 (x9 + 1))))) else (none)) else (none)) else (some true)
def impl_inRange.f (k : Nat) (l0 : List Int) (a1 : Int) : Option (Bool) := impl_inRange.l0 k a1 l0 (l0.length : Int) 0
theorem impl_inRange.mono_l : ∀ k, (∀ y0 y1 y2 y3, LeO (impl_inRange.l0 k y0 y1 y2 y3) (impl_inRange.l0 (k + 1) y0 y1 y2 y3))
  | 0 => fun _ _ _ _ r h => by simp [impl_inRange.l0] at h
  | k + 1 => by
    have ih0 := impl_inRange.mono_l k
    · intro y0 y1 y2 y3
      unfold impl_inRange.l0
      repeat' first
      | (with_reducible exact ih0 _ _ _ _)
      | (with_reducible exact LeO.refl _)
      | (with_reducible exact LeO.none _)
      | (with_reducible refine LeO.ite ?_ ?_)
      | (with_reducible refine LeO.bind ?_ (fun _ => ?_))
      | exact ih0 _ _ _ _
      | exact LeO.none _
      | refine LeO.ite ?_ ?_
      | refine LeO.bind ?_ (fun _ => ?_)
theorem impl_inRange.mono : ∀ a0 a1 k, LeO (impl_inRange.f k a0 a1) (impl_inRange.f (k + 1) a0 a1) := by
  intro a0 a1 k
  have ih0 := impl_inRange.mono_l k
  unfold impl_inRange.f
  repeat' first
      | (with_reducible exact ih0 _ _ _ _)
      | (with_reducible exact LeO.refl _)
      | (with_reducible exact LeO.none _)
      | (with_reducible refine LeO.ite ?_ ?_)
      | (with_reducible refine LeO.bind ?_ (fun _ => ?_))
      | exact ih0 _ _ _ _
      | exact LeO.none _
      | refine LeO.ite ?_ ?_
      | refine LeO.bind ?_ (fun _ => ?_)
set_option maxHeartbeats 8000000 in
set_option maxRecDepth 100000 in
theorem impl_inRange.calls (k : Nat) (A0 : Option Addr) (c0 : Nat) (l0 : List Int) (a1 : Int) (r : Bool) (w : World) (hr0 : Kd.C (Kd.int .i64) w A0 l0.length l0) (hc0 : l0.length ≤ c0) (h : impl_inRange.f k l0 a1 = some r) :
    Calls Try.prog 100 #[.slice A0 l0.length c0, .int .i64 a1] w fun e w' => e = .returned (.bool r) ∧ Drawn0 w w' := by
  have HR0 := Aside0.mk hr0
  have HC0 := Aside0.mk hc0
  clear hr0 hc0
  have H : (impl_inRange.l0 k a1 l0 (l0.length : Int) 0) = some r := h
  clear h
  have H' := Aside0.mk H
  clear H
  go_enter Try.func100, Try.ntmps100
  go_wp2
  go_loopg [9] k (fun kq v9 w' => ∃ (x9_1 : Int), v9 = .int .i64 x9_1 ∧ Aside0 (impl_inRange.l0 kq a1 l0 (l0.length : Int) x9_1 = some r) ∧ Aside0 (kq ≤ k) ∧ Drawn0 w w')
  case atStart => exact ⟨(0), (by first | rfl | (simp; done) | (simp [*]; done)), H', ⟨Nat.le_refl _⟩, by repeat (first | exact Drawn0.refl _ | apply Drawn0.step)⟩
  case round =>
    clear H'
    try clear c1
    try clear p2
    obtain ⟨x9_1, rfl, HA, HK1, ⟨m1, rfl⟩⟩ := hrel
    cases gk with
    | zero => exact absurd HA.out (by simp [impl_inRange.l0])
    | succ k1 =>
      have H := HA.out
      clear HA
      simp only [impl_inRange.l0] at H
      by_cases c3 : x9_1 < (l0.length : Int)
      rotate_left
      · rw [if_neg c3] at H
        have c3b0 : decide (x9_1 < (l0.length : Int)) = false := decide_eq_false c3
        clear c3
        obtain rfl := Option.some.inj H
        go_wp2
        go_ret
        exact ⟨by first | rfl | (simp; done) | (simp [*]; done), by repeat (first | exact Drawn0.refl _ | apply Drawn0.step)⟩
      rw [if_pos c3] at H
      have c3b0 : decide (x9_1 < (l0.length : Int)) = true := decide_eq_true c3
      clear c3
      by_cases c4 : 0 ≤ x9_1
      rotate_left
      · rw [if_neg c4] at H
        exact absurd H (by simp)
      rw [if_pos c4] at H
      have c4b0 : decide (0 ≤ x9_1) = true := decide_eq_true c4
      clear c4
      by_cases c5 : x9_1 < (l0.length : Int)
      rotate_left
      · rw [if_neg c5] at H
        exact absurd H (by simp)
      rw [if_pos c5] at H
      have c5b0 : decide (x9_1 < (l0.length : Int)) = true := decide_eq_true c5
      clear c5
      by_cases c6 : (rd l0 x9_1) < 0
      · rw [if_pos c6] at H
        have c6b0 : decide ((rd l0 x9_1) < 0) = true := decide_eq_true c6
        clear c6
        obtain rfl := Option.some.inj H
        have p105 : 0 ≤ (x9_1 : Int) := of_decide_eq_true (by first | (with_reducible assumption) | assumption)
        have q105 : x9_1 < (l0.length : Int) := of_decide_eq_true (by first | (with_reducible assumption) | assumption)
        obtain ⟨ad105, e105, hx105_0⟩ := Kd.at_int HR0.out x9_1 p105 q105
        cases e105
        replace p105 := eq_true p105
        replace q105 := eq_true q105
        go_wp2
        go_ret
        exact ⟨by first | rfl | (simp; done) | (simp [*]; done), by repeat (first | exact Drawn0.refl _ | apply Drawn0.step)⟩
      rw [if_neg c6] at H
      have c6b0 : decide ((rd l0 x9_1) < 0) = false := decide_eq_false c6
      clear c6
      by_cases c7 : (rd l0 x9_1) > a1
      · rw [if_pos c7] at H
        have c7b0 : decide (a1 < (rd l0 x9_1)) = true := decide_eq_true c7
        clear c7
        obtain rfl := Option.some.inj H
        have p105 : 0 ≤ (x9_1 : Int) := of_decide_eq_true (by first | (with_reducible assumption) | assumption)
        have q105 : x9_1 < (l0.length : Int) := of_decide_eq_true (by first | (with_reducible assumption) | assumption)
        obtain ⟨ad105, e105, hx105_0⟩ := Kd.at_int HR0.out x9_1 p105 q105
        cases e105
        replace p105 := eq_true p105
        replace q105 := eq_true q105
        go_wp2
        go_ret
        exact ⟨by first | rfl | (simp; done) | (simp [*]; done), by repeat (first | exact Drawn0.refl _ | apply Drawn0.step)⟩
      rw [if_neg c7] at H
      have c7b0 : decide (a1 < (rd l0 x9_1)) = false := decide_eq_false c7
      clear c7
      have H' := Aside0.mk H
      clear H
      have p105 : 0 ≤ (x9_1 : Int) := of_decide_eq_true (by first | (with_reducible assumption) | assumption)
      have q105 : x9_1 < (l0.length : Int) := of_decide_eq_true (by first | (with_reducible assumption) | assumption)
      obtain ⟨ad105, e105, hx105_0⟩ := Kd.at_int HR0.out x9_1 p105 q105
      cases e105
      replace p105 := eq_true p105
      replace q105 := eq_true q105
      go_wp2
      go_roundg k1
      case measure => have := HK1.out; omega
      case rel => exact ⟨(wrap64 (x9_1 + 1)), (by first | rfl | (simp; done) | (simp [*]; done)), H', ⟨by have := HK1.out; omega⟩, by repeat (first | exact Drawn0.refl _ | apply Drawn0.step)⟩

/-! ### impl_GoodImage: function 76 -/
def impl_GoodImage.f (k : Nat) (a0_0 : Int) (a0_1 : Int) (a0_2 : Int) (a0_3 : Int) (l0_4 : List Int) : Option (Bool) := (impl_goodShape.f a0_0 a0_1 a0_2 a0_3).bind fun t107 => (if t107 = true then (if (l0_4.length : Int) = (wrap64 ((wrap64 (a0_0 * a0_1)) * a0_2)) then (if 0 ≤ a0_3 then ((impl_inRange.f k l0_4 (wrap64 ((shl .i64 1 a0_3) - 1))).bind fun t108 => (some t108)) else (none)) else (some false)) else (some false))
theorem impl_GoodImage.mono : ∀ a0 a1 a2 a3 a4 k, LeO (impl_GoodImage.f k a0 a1 a2 a3 a4) (impl_GoodImage.f (k + 1) a0 a1 a2 a3 a4) := by
  intro a0 a1 a2 a3 a4 k
  unfold impl_GoodImage.f
  repeat' first
      | (with_reducible exact impl_inRange.mono _ _ _)
      | (with_reducible exact LeO.refl _)
      | (with_reducible exact LeO.none _)
      | (with_reducible refine LeO.ite ?_ ?_)
      | (with_reducible refine LeO.bind ?_ (fun _ => ?_))
      | exact impl_inRange.mono _ _ _
      | exact LeO.none _
      | refine LeO.ite ?_ ?_
      | refine LeO.bind ?_ (fun _ => ?_)
set_option maxHeartbeats 8000000 in
set_option maxRecDepth 100000 in
theorem impl_GoodImage.calls (k : Nat) (a0_0 : Int) (a0_1 : Int) (a0_2 : Int) (a0_3 : Int) (A0_4 : Option Addr) (c0_4 : Nat) (l0_4 : List Int) (r : Bool) (w : World) (hr0_4 : Kd.C (Kd.int .i64) w A0_4 l0_4.length l0_4) (hc0_4 : l0_4.length ≤ c0_4) (h : impl_GoodImage.f k a0_0 a0_1 a0_2 a0_3 l0_4 = some r) :
    Calls Try.prog 76 #[.agg #[.int .i64 a0_0, .int .i64 a0_1, .int .i64 a0_2, .int .i64 a0_3, .slice A0_4 l0_4.length c0_4]] w fun e w' => e = .returned (.bool r) ∧ Below w.heap.size w w' := by
  have hu31 := Try.underlying31
  have HR0_4 := Aside0.mk hr0_4
  have HC0_4 := Aside0.mk hc0_4
  clear hr0_4 hc0_4
  have HB := Aside0.mk (Below.refl w.heap.size w)
  have H : ((impl_goodShape.f a0_0 a0_1 a0_2 a0_3).bind fun t107 => (if t107 = true then (if (l0_4.length : Int) = (wrap64 ((wrap64 (a0_0 * a0_1)) * a0_2)) then (if 0 ≤ a0_3 then ((impl_inRange.f k l0_4 (wrap64 ((shl .i64 1 a0_3) - 1))).bind fun t108 => (some t108)) else (none)) else (some false)) else (some false))) = some r := h
  clear h
  replace H := Option.bind_eq_some_iff.mp H
  obtain ⟨t107, A20, H⟩ := H
  replace H : (if t107 = true then (if (l0_4.length : Int) = (wrap64 ((wrap64 (a0_0 * a0_1)) * a0_2)) then (if 0 ≤ a0_3 then ((impl_inRange.f k l0_4 (wrap64 ((shl .i64 1 a0_3) - 1))).bind fun t108 => (some t108)) else (none)) else (some false)) else (some false)) = some r := H
  have A2 := Aside0.mk A20
  clear A20
  by_cases c3 : t107 = true
  rotate_left
  · replace c3 := Bool.eq_false_iff.mpr c3
    subst c3
    have H1 : (some false) = some r := by rw [if_neg (show ¬ (false = true) by decide)] at H; exact H
    clear H
    have H := H1
    clear H1
    obtain rfl := Option.some.inj H
    go_enter Try.func76, Try.ntmps76
    iterate 3 (try go_wp2_with (first | ((with_reducible refine gate_dst (N := 1) rfl ?_); (try (refine gate_guard (by rfl) ?_; dsimp only)); refine box_event ?hg (N := 1) ?hd (cs := #[.int .i64 a0_0, .int .i64 a0_1, .int .i64 a0_2, .int .i64 a0_3, .slice A0_4 l0_4.length c0_4]) (t := 31) ?hr ?_; (case hd => rfl); (case hg => rfl); (case hr => first | (go_simp; done) | (go_simp; rfl)); intro gb106 hg w12 hbox hb; have n0_ := Aside0.mk (below_step (by repeat (first | (with_reducible first | exact HB.out | apply below_alloc | apply pw_below_drewN | apply below_drew1) | exact HB.out)) hb); have n1_ := Aside0.mk (hbox); have n2_ := Aside0.mk ((by rw [hg]; exact (below_size (by repeat (first | (with_reducible first | exact HB.out | apply below_alloc | apply pw_below_drewN | apply below_drew1) | exact HB.out))) : w.heap.size ≤ gb106)); have n3_ := n2_; clear HB; have HB := n0_; have BK106 := n1_; have GW106 := n2_; have GE106 := n3_; clear n0_ n1_ n2_ n3_; clear hb hbox hg; have hcz13_0 : w12.cell? ⟨gb106, 0, none⟩ = some (.int .i64 a0_0) := (blk_cell BK106.out 0).trans rfl; have hcz13_1 : w12.cell? ⟨gb106, 1, none⟩ = some (.int .i64 a0_1) := (blk_cell BK106.out 1).trans rfl; have hcz13_2 : w12.cell? ⟨gb106, 2, none⟩ = some (.int .i64 a0_2) := (blk_cell BK106.out 2).trans rfl; have hcz13_3 : w12.cell? ⟨gb106, 3, none⟩ = some (.int .i64 a0_3) := (blk_cell BK106.out 3).trans rfl; have hcz13_4 : w12.cell? ⟨gb106, 4, none⟩ = some (.slice A0_4 l0_4.length c0_4) := (blk_cell BK106.out 4).trans rfl; have hfz13_0 := blk_frozen BK106.out 0; have hfz13_1 := blk_frozen BK106.out 1; have hfz13_2 := blk_frozen BK106.out 2; have hfz13_3 := blk_frozen BK106.out 3; have hfz13_4 := blk_frozen BK106.out 4) | (go_at_call 80; (with_reducible refine (impl_goodShape.calls a0_0 a0_1 a0_2 a0_3 false _ A2.out).mono ?_); rintro e w' ⟨rfl, ⟨nd, rfl⟩⟩; (try first | exact ⟨rfl, _, World.drewN_drewN _ _ _⟩ | exact ⟨rfl, _, Eq.trans (World.drewN_drewN _ _ _) (congrArg (World.drewN _) (Nat.add_assoc _ _ _))⟩))); try go_quiet (first | ((with_reducible refine gate_dst (N := 1) rfl ?_); (try (refine gate_guard (by rfl) ?_; dsimp only)); refine box_event ?hg (N := 1) ?hd (cs := #[.int .i64 a0_0, .int .i64 a0_1, .int .i64 a0_2, .int .i64 a0_3, .slice A0_4 l0_4.length c0_4]) (t := 31) ?hr ?_; (case hd => rfl); (case hg => rfl); (case hr => first | (go_simp; done) | (go_simp; rfl)); intro gb106 hg w12 hbox hb; have n0_ := Aside0.mk (below_step (by repeat (first | (with_reducible first | exact HB.out | apply below_alloc | apply pw_below_drewN | apply below_drew1) | exact HB.out)) hb); have n1_ := Aside0.mk (hbox); have n2_ := Aside0.mk ((by rw [hg]; exact (below_size (by repeat (first | (with_reducible first | exact HB.out | apply below_alloc | apply pw_below_drewN | apply below_drew1) | exact HB.out))) : w.heap.size ≤ gb106)); have n3_ := n2_; clear HB; have HB := n0_; have BK106 := n1_; have GW106 := n2_; have GE106 := n3_; clear n0_ n1_ n2_ n3_; clear hb hbox hg; have hcz13_0 : w12.cell? ⟨gb106, 0, none⟩ = some (.int .i64 a0_0) := (blk_cell BK106.out 0).trans rfl; have hcz13_1 : w12.cell? ⟨gb106, 1, none⟩ = some (.int .i64 a0_1) := (blk_cell BK106.out 1).trans rfl; have hcz13_2 : w12.cell? ⟨gb106, 2, none⟩ = some (.int .i64 a0_2) := (blk_cell BK106.out 2).trans rfl; have hcz13_3 : w12.cell? ⟨gb106, 3, none⟩ = some (.int .i64 a0_3) := (blk_cell BK106.out 3).trans rfl; have hcz13_4 : w12.cell? ⟨gb106, 4, none⟩ = some (.slice A0_4 l0_4.length c0_4) := (blk_cell BK106.out 4).trans rfl; have hfz13_0 := blk_frozen BK106.out 0; have hfz13_1 := blk_frozen BK106.out 1; have hfz13_2 := blk_frozen BK106.out 2; have hfz13_3 := blk_frozen BK106.out 3; have hfz13_4 := blk_frozen BK106.out 4) | (go_at_call 80; (with_reducible refine (impl_goodShape.calls a0_0 a0_1 a0_2 a0_3 false _ A2.out).mono ?_); rintro e w' ⟨rfl, ⟨nd, rfl⟩⟩; (try first | exact ⟨rfl, _, World.drewN_drewN _ _ _⟩ | exact ⟨rfl, _, Eq.trans (World.drewN_drewN _ _ _) (congrArg (World.drewN _) (Nat.add_assoc _ _ _))⟩))))
    go_ret
    exact ⟨by first | rfl | (simp [errW_none, errW_some] <;> rfl) | (simp [*, errW_none, errW_some] <;> rfl), by repeat (first | (with_reducible first | exact HB.out | apply below_alloc | apply pw_below_drewN | apply below_drew1 | refine below_set ?_ GE106.out) | exact HB.out)⟩
  subst c3
  have H1 : (if (l0_4.length : Int) = (wrap64 ((wrap64 (a0_0 * a0_1)) * a0_2)) then (if 0 ≤ a0_3 then ((impl_inRange.f k l0_4 (wrap64 ((shl .i64 1 a0_3) - 1))).bind fun t108 => (some t108)) else (none)) else (some false)) = some r := by rw [if_pos rfl] at H; exact H
  clear H
  have H := H1
  clear H1
  by_cases c4 : (l0_4.length : Int) = (wrap64 ((wrap64 (a0_0 * a0_1)) * a0_2))
  rotate_left
  · rw [if_neg c4] at H
    have c4b0 : ((l0_4.length : Int) == (wrap64 ((wrap64 (a0_0 * a0_1)) * a0_2))) = false := beq_eq_false_iff_ne.mpr c4
    have c4b1 : ((l0_4.length : Int) != (wrap64 ((wrap64 (a0_0 * a0_1)) * a0_2))) = true := bne_iff_ne.mpr c4
    obtain rfl := Option.some.inj H
    go_enter Try.func76, Try.ntmps76
    iterate 3 (try go_wp2_with (first | ((with_reducible refine gate_dst (N := 1) rfl ?_); (try (refine gate_guard (by rfl) ?_; dsimp only)); refine box_event ?hg (N := 1) ?hd (cs := #[.int .i64 a0_0, .int .i64 a0_1, .int .i64 a0_2, .int .i64 a0_3, .slice A0_4 l0_4.length c0_4]) (t := 31) ?hr ?_; (case hd => rfl); (case hg => rfl); (case hr => first | (go_simp; done) | (go_simp; rfl)); intro gb106 hg w10 hbox hb; have n0_ := Aside0.mk (below_step (by repeat (first | (with_reducible first | exact HB.out | apply below_alloc | apply pw_below_drewN | apply below_drew1) | exact HB.out)) hb); have n1_ := Aside0.mk (hbox); have n2_ := Aside0.mk ((by rw [hg]; exact (below_size (by repeat (first | (with_reducible first | exact HB.out | apply below_alloc | apply pw_below_drewN | apply below_drew1) | exact HB.out))) : w.heap.size ≤ gb106)); have n3_ := n2_; clear HB; have HB := n0_; have BK106 := n1_; have GW106 := n2_; have GE106 := n3_; clear n0_ n1_ n2_ n3_; clear hb hbox hg; have hcz11_0 : w10.cell? ⟨gb106, 0, none⟩ = some (.int .i64 a0_0) := (blk_cell BK106.out 0).trans rfl; have hcz11_1 : w10.cell? ⟨gb106, 1, none⟩ = some (.int .i64 a0_1) := (blk_cell BK106.out 1).trans rfl; have hcz11_2 : w10.cell? ⟨gb106, 2, none⟩ = some (.int .i64 a0_2) := (blk_cell BK106.out 2).trans rfl; have hcz11_3 : w10.cell? ⟨gb106, 3, none⟩ = some (.int .i64 a0_3) := (blk_cell BK106.out 3).trans rfl; have hcz11_4 : w10.cell? ⟨gb106, 4, none⟩ = some (.slice A0_4 l0_4.length c0_4) := (blk_cell BK106.out 4).trans rfl; have hfz11_0 := blk_frozen BK106.out 0; have hfz11_1 := blk_frozen BK106.out 1; have hfz11_2 := blk_frozen BK106.out 2; have hfz11_3 := blk_frozen BK106.out 3; have hfz11_4 := blk_frozen BK106.out 4) | (go_at_call 80; (with_reducible refine (impl_goodShape.calls a0_0 a0_1 a0_2 a0_3 true _ A2.out).mono ?_); rintro e w' ⟨rfl, ⟨nd, rfl⟩⟩; (try first | exact ⟨rfl, _, World.drewN_drewN _ _ _⟩ | exact ⟨rfl, _, Eq.trans (World.drewN_drewN _ _ _) (congrArg (World.drewN _) (Nat.add_assoc _ _ _))⟩))); try go_quiet (first | ((with_reducible refine gate_dst (N := 1) rfl ?_); (try (refine gate_guard (by rfl) ?_; dsimp only)); refine box_event ?hg (N := 1) ?hd (cs := #[.int .i64 a0_0, .int .i64 a0_1, .int .i64 a0_2, .int .i64 a0_3, .slice A0_4 l0_4.length c0_4]) (t := 31) ?hr ?_; (case hd => rfl); (case hg => rfl); (case hr => first | (go_simp; done) | (go_simp; rfl)); intro gb106 hg w10 hbox hb; have n0_ := Aside0.mk (below_step (by repeat (first | (with_reducible first | exact HB.out | apply below_alloc | apply pw_below_drewN | apply below_drew1) | exact HB.out)) hb); have n1_ := Aside0.mk (hbox); have n2_ := Aside0.mk ((by rw [hg]; exact (below_size (by repeat (first | (with_reducible first | exact HB.out | apply below_alloc | apply pw_below_drewN | apply below_drew1) | exact HB.out))) : w.heap.size ≤ gb106)); have n3_ := n2_; clear HB; have HB := n0_; have BK106 := n1_; have GW106 := n2_; have GE106 := n3_; clear n0_ n1_ n2_ n3_; clear hb hbox hg; have hcz11_0 : w10.cell? ⟨gb106, 0, none⟩ = some (.int .i64 a0_0) := (blk_cell BK106.out 0).trans rfl; have hcz11_1 : w10.cell? ⟨gb106, 1, none⟩ = some (.int .i64 a0_1) := (blk_cell BK106.out 1).trans rfl; have hcz11_2 : w10.cell? ⟨gb106, 2, none⟩ = some (.int .i64 a0_2) := (blk_cell BK106.out 2).trans rfl; have hcz11_3 : w10.cell? ⟨gb106, 3, none⟩ = some (.int .i64 a0_3) := (blk_cell BK106.out 3).trans rfl; have hcz11_4 : w10.cell? ⟨gb106, 4, none⟩ = some (.slice A0_4 l0_4.length c0_4) := (blk_cell BK106.out 4).trans rfl; have hfz11_0 := blk_frozen BK106.out 0; have hfz11_1 := blk_frozen BK106.out 1; have hfz11_2 := blk_frozen BK106.out 2; have hfz11_3 := blk_frozen BK106.out 3; have hfz11_4 := blk_frozen BK106.out 4) | (go_at_call 80; (with_reducible refine (impl_goodShape.calls a0_0 a0_1 a0_2 a0_3 true _ A2.out).mono ?_); rintro e w' ⟨rfl, ⟨nd, rfl⟩⟩; (try first | exact ⟨rfl, _, World.drewN_drewN _ _ _⟩ | exact ⟨rfl, _, Eq.trans (World.drewN_drewN _ _ _) (congrArg (World.drewN _) (Nat.add_assoc _ _ _))⟩))))
    go_ret
    exact ⟨by first | rfl | (simp [errW_none, errW_some] <;> rfl) | (simp [*, errW_none, errW_some] <;> rfl), by repeat (first | (with_reducible first | exact HB.out | apply below_alloc | apply pw_below_drewN | apply below_drew1 | refine below_set ?_ GE106.out) | exact HB.out)⟩
  rw [if_pos c4] at H
  have c4b0 : ((l0_4.length : Int) == (wrap64 ((wrap64 (a0_0 * a0_1)) * a0_2))) = true := beq_iff_eq.mpr c4
  have c4b1 : ((l0_4.length : Int) != (wrap64 ((wrap64 (a0_0 * a0_1)) * a0_2))) = false := bne_eq_false_iff_eq.mpr c4
  clear c4
  by_cases c5 : 0 ≤ a0_3
  rotate_left
  · rw [if_neg c5] at H
    exact absurd H (by simp)
  rw [if_pos c5] at H
  have c5b0 := eq_true c5
  have c5b1 : decide (0 ≤ a0_3) = true := decide_eq_true c5
  clear c5
  obtain ⟨ji6, hji6⟩ : ∃ j_ : Int, (shl .i64 1 a0_3) = j_ := ⟨_, rfl⟩
  replace H : ((impl_inRange.f k l0_4 (wrap64 ((ji6) - 1))).bind fun t108 => (some t108)) = some r := by first | (rw [hji6] at H; exact H) | (simp only [hji6] at H ⊢; exact H)
  (try rw [hji6] at A2)
  have hji6_ : (IntKind.i64.wrap (1 * 2 ^ min a0_3.toNat 64)) = ji6 := hji6
  have hji6z : a0_3 ≤ 64 → (IntKind.i64.wrap (1 * 2 ^ a0_3.toNat)) = ji6 := shl_small hji6
  have hji6u : (IntKind.i64.wrap (2 ^ min a0_3.toNat 64)) = ji6 := by have h_ := hji6_; rw [Int.one_mul] at h_; exact h_
  have hji6v : a0_3 ≤ 64 → (IntKind.i64.wrap (2 ^ a0_3.toNat)) = ji6 := fun hle_ => by have h_ := hji6z hle_; rw [Int.one_mul] at h_; exact h_
  have hji6y : (wrap64 (1 * 2 ^ min a0_3.toNat 64)) = ji6 := (i64_w _).symm.trans hji6_
  have hji6x : a0_3 ≤ 64 → (wrap64 (1 * 2 ^ a0_3.toNat)) = ji6 := fun h_ => (i64_w _).symm.trans (hji6z h_)
  replace H := Option.bind_eq_some_iff.mp H
  obtain ⟨t108, A70, H⟩ := H
  replace H : (some t108) = some r := H
  have A7 := Aside0.mk A70
  clear A70
  obtain rfl := Option.some.inj H
  go_enter Try.func76, Try.ntmps76
  iterate 3 (try go_wp2_with (first | ((with_reducible refine gate_dst (N := 1) rfl ?_); (try (refine gate_guard (by rfl) ?_; dsimp only)); refine box_event ?hg (N := 1) ?hd (cs := #[.int .i64 a0_0, .int .i64 a0_1, .int .i64 a0_2, .int .i64 a0_3, .slice A0_4 l0_4.length c0_4]) (t := 31) ?hr ?_; (case hd => rfl); (case hg => rfl); (case hr => first | (go_simp; done) | (go_simp; rfl)); intro gb106 hg w8 hbox hb; have n0_ := Aside0.mk (below_step (by repeat (first | (with_reducible first | exact HB.out | apply below_alloc | apply pw_below_drewN | apply below_drew1) | exact HB.out)) hb); have n1_ := Aside0.mk (hbox); have n2_ := Aside0.mk ((by rw [hg]; exact (below_size (by repeat (first | (with_reducible first | exact HB.out | apply below_alloc | apply pw_below_drewN | apply below_drew1) | exact HB.out))) : w.heap.size ≤ gb106)); have n3_ := n2_; clear HB; have HB := n0_; have BK106 := n1_; have GW106 := n2_; have GE106 := n3_; clear n0_ n1_ n2_ n3_; clear hb hbox hg; have hcz9_0 : w8.cell? ⟨gb106, 0, none⟩ = some (.int .i64 a0_0) := (blk_cell BK106.out 0).trans rfl; have hcz9_1 : w8.cell? ⟨gb106, 1, none⟩ = some (.int .i64 a0_1) := (blk_cell BK106.out 1).trans rfl; have hcz9_2 : w8.cell? ⟨gb106, 2, none⟩ = some (.int .i64 a0_2) := (blk_cell BK106.out 2).trans rfl; have hcz9_3 : w8.cell? ⟨gb106, 3, none⟩ = some (.int .i64 a0_3) := (blk_cell BK106.out 3).trans rfl; have hcz9_4 : w8.cell? ⟨gb106, 4, none⟩ = some (.slice A0_4 l0_4.length c0_4) := (blk_cell BK106.out 4).trans rfl; have hfz9_0 := blk_frozen BK106.out 0; have hfz9_1 := blk_frozen BK106.out 1; have hfz9_2 := blk_frozen BK106.out 2; have hfz9_3 := blk_frozen BK106.out 3; have hfz9_4 := blk_frozen BK106.out 4) | (go_at_call 80; (with_reducible refine (impl_goodShape.calls a0_0 a0_1 a0_2 a0_3 true _ A2.out).mono ?_); rintro e w' ⟨rfl, ⟨nd, rfl⟩⟩; (try first | exact ⟨rfl, _, World.drewN_drewN _ _ _⟩ | exact ⟨rfl, _, Eq.trans (World.drewN_drewN _ _ _) (congrArg (World.drewN _) (Nat.add_assoc _ _ _))⟩)) | (go_at_call 100; (with_reducible refine (impl_inRange.calls k _ _ l0_4 (wrap64 ((ji6) - 1)) t108 _ ?side1 ?side2 A7.out).mono ?_); (case side1 => repeat (first | exact (Kd.C_below HR0_4.out (by repeat (first | (with_reducible first | exact HB.out | apply below_alloc | apply pw_below_drewN | apply below_drew1 | refine below_set ?_ GE106.out) | exact HB.out))) | (with_reducible refine Kd.C_alloc ?_ _) | (with_reducible refine Kd.C_drewN ?_ _) | (with_reducible refine Kd.C_drew ?_))); (case side2 => exact HC0_4.out); rintro e w' ⟨rfl, ⟨nd, rfl⟩⟩; (try first | exact ⟨rfl, _, World.drewN_drewN _ _ _⟩ | exact ⟨rfl, _, Eq.trans (World.drewN_drewN _ _ _) (congrArg (World.drewN _) (Nat.add_assoc _ _ _))⟩))); try go_quiet (first | ((with_reducible refine gate_dst (N := 1) rfl ?_); (try (refine gate_guard (by rfl) ?_; dsimp only)); refine box_event ?hg (N := 1) ?hd (cs := #[.int .i64 a0_0, .int .i64 a0_1, .int .i64 a0_2, .int .i64 a0_3, .slice A0_4 l0_4.length c0_4]) (t := 31) ?hr ?_; (case hd => rfl); (case hg => rfl); (case hr => first | (go_simp; done) | (go_simp; rfl)); intro gb106 hg w8 hbox hb; have n0_ := Aside0.mk (below_step (by repeat (first | (with_reducible first | exact HB.out | apply below_alloc | apply pw_below_drewN | apply below_drew1) | exact HB.out)) hb); have n1_ := Aside0.mk (hbox); have n2_ := Aside0.mk ((by rw [hg]; exact (below_size (by repeat (first | (with_reducible first | exact HB.out | apply below_alloc | apply pw_below_drewN | apply below_drew1) | exact HB.out))) : w.heap.size ≤ gb106)); have n3_ := n2_; clear HB; have HB := n0_; have BK106 := n1_; have GW106 := n2_; have GE106 := n3_; clear n0_ n1_ n2_ n3_; clear hb hbox hg; have hcz9_0 : w8.cell? ⟨gb106, 0, none⟩ = some (.int .i64 a0_0) := (blk_cell BK106.out 0).trans rfl; have hcz9_1 : w8.cell? ⟨gb106, 1, none⟩ = some (.int .i64 a0_1) := (blk_cell BK106.out 1).trans rfl; have hcz9_2 : w8.cell? ⟨gb106, 2, none⟩ = some (.int .i64 a0_2) := (blk_cell BK106.out 2).trans rfl; have hcz9_3 : w8.cell? ⟨gb106, 3, none⟩ = some (.int .i64 a0_3) := (blk_cell BK106.out 3).trans rfl; have hcz9_4 : w8.cell? ⟨gb106, 4, none⟩ = some (.slice A0_4 l0_4.length c0_4) := (blk_cell BK106.out 4).trans rfl; have hfz9_0 := blk_frozen BK106.out 0; have hfz9_1 := blk_frozen BK106.out 1; have hfz9_2 := blk_frozen BK106.out 2; have hfz9_3 := blk_frozen BK106.out 3; have hfz9_4 := blk_frozen BK106.out 4) | (go_at_call 80; (with_reducible refine (impl_goodShape.calls a0_0 a0_1 a0_2 a0_3 true _ A2.out).mono ?_); rintro e w' ⟨rfl, ⟨nd, rfl⟩⟩; (try first | exact ⟨rfl, _, World.drewN_drewN _ _ _⟩ | exact ⟨rfl, _, Eq.trans (World.drewN_drewN _ _ _) (congrArg (World.drewN _) (Nat.add_assoc _ _ _))⟩)) | (go_at_call 100; (with_reducible refine (impl_inRange.calls k _ _ l0_4 (wrap64 ((ji6) - 1)) t108 _ ?side1 ?side2 A7.out).mono ?_); (case side1 => repeat (first | exact (Kd.C_below HR0_4.out (by repeat (first | (with_reducible first | exact HB.out | apply below_alloc | apply pw_below_drewN | apply below_drew1 | refine below_set ?_ GE106.out) | exact HB.out))) | (with_reducible refine Kd.C_alloc ?_ _) | (with_reducible refine Kd.C_drewN ?_ _) | (with_reducible refine Kd.C_drew ?_))); (case side2 => exact HC0_4.out); rintro e w' ⟨rfl, ⟨nd, rfl⟩⟩; (try first | exact ⟨rfl, _, World.drewN_drewN _ _ _⟩ | exact ⟨rfl, _, Eq.trans (World.drewN_drewN _ _ _) (congrArg (World.drewN _) (Nat.add_assoc _ _ _))⟩))))
  go_ret
  exact ⟨by first | rfl | (simp [errW_none, errW_some] <;> rfl) | (simp only [← hji6]; first | rfl | (simp [errW_none, errW_some] <;> rfl)) | (simp [*, errW_none, errW_some] <;> rfl), by repeat (first | (with_reducible first | exact HB.out | apply below_alloc | apply pw_below_drewN | apply below_drew1 | refine below_set ?_ GE106.out) | exact HB.out)⟩

end Go.Proofs.Ytggokppfhkebkaa.PFnExactSplit

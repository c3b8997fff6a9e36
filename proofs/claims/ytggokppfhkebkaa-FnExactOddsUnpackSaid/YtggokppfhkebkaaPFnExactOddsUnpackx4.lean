-- written by myprint.py (a program of this session's over the kit's print)
import Derived.Test.YtggokppfhkebkaaPFnExactOddsUnpackx0
namespace Go.Proofs.Ytggokppfhkebkaa.PFnExactOddsUnpack
open Go.RowKit Go.Proofs.YtggokppfhkebkaaW.PrintWords Go.Proofs.YtggokppfhkebkaaW.PrintLast Go.Proofs.YtggokppfhkebkaaW.PrintMore
attribute [local go_sem] max2_int min2_int max_two min_two max_three min_three max_four min_four   -- for this text's walks alone
set_option linter.unusedVariables false
set_option linter.unusedSimpArgs false

/-! ### impl_znewOdds: function 140 -/
def impl_znewOdds.l0 : Nat → List Int → Int → Int → Option (List Int)
  | 0, _, _, _ => none
  | k + 1, x3, x8, x9 => if x9 < x8 then (if 0 ≤ x9 then (if x9 < (x3.length : Int) then (impl_znewOdds.l0 k (x3.set (x9 : Int).toNat 2048) x8 (wrap64 (x9 + 1))) else (none)) else (none)) else (some x3)
def impl_znewOdds.f (k : Nat) (a0 : Int) : Option (List Int) := if 0 ≤ a0 then (if (a0 : Int).toNat ≤ 35184372088832 then ((some (List.replicate (a0 : Int).toNat 0 : List Int)).bind fun y122 => (impl_znewOdds.l0 k y122 (y122.length : Int) 0)) else (none)) else (none)
theorem impl_znewOdds.mono_l : ∀ k, (∀ y0 y1 y2, LeO (impl_znewOdds.l0 k y0 y1 y2) (impl_znewOdds.l0 (k + 1) y0 y1 y2))
  | 0 => fun _ _ _ r h => by simp [impl_znewOdds.l0] at h
  | k + 1 => by
    have ih0 := impl_znewOdds.mono_l k
    · intro y0 y1 y2
      unfold impl_znewOdds.l0
      repeat' first
      | (with_reducible exact ih0 _ _ _)
      | (with_reducible exact LeO.refl _)
      | (with_reducible exact LeO.none _)
      | (with_reducible refine LeO.ite ?_ ?_)
      | (with_reducible refine LeO.bind ?_ (fun _ => ?_))
      | exact ih0 _ _ _
      | exact LeO.none _
      | refine LeO.ite ?_ ?_
      | refine LeO.bind ?_ (fun _ => ?_)
theorem impl_znewOdds.mono : ∀ a0 k, LeO (impl_znewOdds.f k a0) (impl_znewOdds.f (k + 1) a0) := by
  intro a0 k
  have ih0 := impl_znewOdds.mono_l k
  unfold impl_znewOdds.f
  repeat' first
      | (with_reducible exact ih0 _ _ _)
      | (with_reducible exact LeO.refl _)
      | (with_reducible exact LeO.none _)
      | (with_reducible refine LeO.ite ?_ ?_)
      | (with_reducible refine LeO.bind ?_ (fun _ => ?_))
      | exact ih0 _ _ _
      | exact LeO.none _
      | refine LeO.ite ?_ ?_
      | refine LeO.bind ?_ (fun _ => ?_)
set_option maxHeartbeats 8000000 in
set_option maxRecDepth 100000 in
theorem impl_znewOdds.calls (k : Nat) (a0 : Int) (r : List Int) (w : World) (h : impl_znewOdds.f k a0 = some r) :
    Calls Try.prog 140 #[.int .i64 a0] w fun e w' => ∃ v0_ : Value, e = .returned (v0_) ∧ Kd.R (Kd.int .i64) 3 w' w.heap.size (fun _ => True) v0_ r ∧ Below w.heap.size w w' := by
  have HB := Aside0.mk (Below.refl w.heap.size w)
  have H : (if 0 ≤ a0 then (if (a0 : Int).toNat ≤ 35184372088832 then ((some (List.replicate (a0 : Int).toNat 0 : List Int)).bind fun y122 => (impl_znewOdds.l0 k y122 (y122.length : Int) 0)) else (none)) else (none)) = some r := h
  clear h
  by_cases c2 : 0 ≤ a0
  rotate_left
  · rw [if_neg c2] at H
    exact absurd H (by simp)
  rw [if_pos c2] at H
  have c2b0 := eq_true c2
  have c2b1 : decide (0 ≤ a0) = true := decide_eq_true c2
  clear c2
  by_cases c3 : (a0 : Int).toNat ≤ 35184372088832
  rotate_left
  · rw [if_neg c3] at H
    exact absurd H (by simp)
  rw [if_pos c3] at H
  have c3b0 := eq_true c3
  have c3b1 : decide ((a0 : Int).toNat ≤ 35184372088832) = true := decide_eq_true c3
  clear c3
  obtain ⟨y122, hy122⟩ : ∃ y_ : List Int, y_ = (List.replicate (a0 : Int).toNat 0) := ⟨_, rfl⟩
  replace H : (impl_znewOdds.l0 k y122 (y122.length : Int) 0) = some r := by first | (rw [hy122]; with_reducible exact H) | (have H2_ := (Option.bind_some _ _).symm.trans H; rw [hy122]; with_reducible exact H2_) | (have H2_ := (Option.bind_some _ _).symm.trans H; with_reducible exact H2_) | with_reducible exact H | (rw [hy122]; exact H) | exact H
  have Ny122 := Aside0.mk hy122
  clear hy122
  have H' := Aside0.mk H
  clear H
  go_enter Try.func140, Try.ntmps140
  go_wp2_with (first | ((with_reducible refine gate_dst (N := 6) rfl ?_); refine Kd.R_make (Kd.int .i64) _ 3 rfl (N := 6) rfl 139 _ _ rfl a0 rfl rfl Try.underlying139 (.int .i64 0) 8 info3 rfl (by decide) (by omega) 0 (ok := fun _ => True) (okp := fun _ => True) rfl (fun _ hk => hk) trivial (of_decide_eq_true (by first | (with_reducible assumption) | assumption)) (Nat.le_trans (Nat.mul_le_mul_right _ (of_decide_eq_true (by first | (with_reducible assumption) | assumption) : a0.toNat ≤ 35184372088832)) (by omega)) (Below.refl _ _) (Nat.le_refl _) ?_; intro v123 w4 ho5 hb hg_ hnew_; clear hg_ hnew_; (first | rw [← Ny122.out] at ho5 | (simp only [Int.reduceToNat] at ho5; rw [← Ny122.out] at ho5)); have n0_ := Aside0.mk (Kd.R_lower ho5 (below_size (by repeat (first | (with_reducible first | exact HB.out | apply below_alloc | apply pw_below_drewN | apply below_drew1) | exact HB.out)))); have n1_ := Aside0.mk (below_step (by repeat (first | (with_reducible first | exact HB.out | apply below_alloc | apply pw_below_drewN | apply below_drew1) | exact HB.out)) hb); clear HB; have HO124 := n0_; have HB := n1_; clear n0_ n1_; clear hb ho5; obtain ⟨Ao6, co6, eo6⟩ := Kd.R_slice HO124.out; subst eo6))
  go_loopg [9] k (fun kq v9 w' => ∃ (x3_1 : List Int) (x9_1 : Int), v9 = .int .i64 x9_1 ∧ Aside0 (impl_znewOdds.l0 kq x3_1 (y122.length : Int) x9_1 = some r) ∧ Aside0 (kq ≤ k) ∧ Aside0 (Kd.R (Kd.int .i64) 3 w' w.heap.size (fun _ => True) (.slice Ao6 y122.length co6) x3_1) ∧ Aside0 (Below w.heap.size w w'))
  case atStart => exact ⟨(y122), (0), (by first | rfl | (simp; done) | (simp [*]; done)), H', ⟨Nat.le_refl _⟩, ⟨by (with_reducible repeat (first | apply Kd.R_alloc | apply Kd.R_drewN | apply Kd.R_drew)); exact HO124.out⟩, ⟨by repeat (first | (with_reducible first | exact HB.out | apply below_alloc | apply pw_below_drewN | apply below_drew1) | exact HB.out)⟩⟩
  case round =>
    clear H'
    try clear c1
    try clear c2
    try clear c2b0
    try clear c2b1
    try clear p2
    try clear c3
    try clear c3b0
    try clear c3b1
    obtain ⟨x3_1, x9_1, rfl, HA, HK1, HO_3, HB⟩ := hrel
    have hl3_1 := (Kd.R_reads' HO_3.out).1
    rw [hl3_1] at HO_3
    (try simp only [hl3_1])
    cases gk with
    | zero => exact absurd HA.out (by simp [impl_znewOdds.l0])
    | succ k1 =>
      have H := HA.out
      clear HA
      simp only [impl_znewOdds.l0] at H
      by_cases c7 : x9_1 < (y122.length : Int)
      rotate_left
      · rw [if_neg c7] at H
        have c7b0 : decide (x9_1 < (y122.length : Int)) = false := decide_eq_false c7
        (try simp only [hl3_1] at c7b0)
        clear c7
        obtain rfl := Option.some.inj H
        go_wp2
        go_ret
        exact ⟨_, by first | rfl | (simp [errW_none, errW_some] <;> rfl) | (simp [*, errW_none, errW_some] <;> rfl), by (with_reducible repeat (first | apply Kd.R_alloc | apply Kd.R_drewN | apply Kd.R_drew)); exact HO_3.out, by repeat (first | (with_reducible first | exact HB.out | apply below_alloc | apply pw_below_drewN | apply below_drew1) | exact HB.out)⟩
      rw [if_pos c7] at H
      have c7b0 : decide (x9_1 < (y122.length : Int)) = true := decide_eq_true c7
      (try simp only [hl3_1] at c7b0)
      clear c7
      by_cases c8 : 0 ≤ x9_1
      rotate_left
      · rw [if_neg c8] at H
        exact absurd H (by simp)
      rw [if_pos c8] at H
      have c8b0 : decide (0 ≤ x9_1) = true := decide_eq_true c8
      clear c8
      by_cases c9 : x9_1 < (x3_1.length : Int)
      rotate_left
      · rw [if_neg c9] at H
        exact absurd H (by simp)
      rw [if_pos c9] at H
      have c9b0 : decide (x9_1 < (x3_1.length : Int)) = true := decide_eq_true c9
      (try simp only [hl3_1] at c9b0)
      clear c9
      obtain ⟨y125, hy125⟩ : ∃ y_ : List Int, y_ = (x3_1.set (x9_1 : Int).toNat 2048) := ⟨_, rfl⟩
      replace H : (impl_znewOdds.l0 k1 y125 (y122.length : Int) (wrap64 (x9_1 + 1))) = some r := by first | (rw [hy125]; with_reducible exact H) | (have H2_ := (Option.bind_some _ _).symm.trans H; rw [hy125]; with_reducible exact H2_) | (have H2_ := (Option.bind_some _ _).symm.trans H; with_reducible exact H2_) | with_reducible exact H | (rw [hy125]; exact H) | exact H
      have Ny125 := Aside0.mk hy125
      clear hy125
      have H' := Aside0.mk H
      clear H
      have p10 : 0 ≤ (x9_1 : Int) := of_decide_eq_true (by first | (with_reducible assumption) | assumption)
      have q10 : (x9_1 : Int) < ((x3_1.length : Int) : Int) := of_decide_eq_true (by first | (with_reducible assumption) | assumption)
      obtain ⟨go10, co10, eo10, gb10, gl10, cl10, HG10⟩ := Kd.R_form HO_3.out (by omega)
      (first | cases eo10 | (injection eo10 with ea_ en_ ec_; (first | subst ea_ | (injection ea_ with ea_; subst ea_)); subst ec_; clear en_))
      have GB10 := Aside0.mk gb10
      have GG10 := Aside0.mk HG10
      clear gb10 gl10 HG10
      obtain ⟨hx10_0, hf10_0⟩ := Kd.R_celln 0 HO_3.out (x9_1 : Int) p10 q10
      replace p10 := eq_true p10
      replace q10 := eq_true q10
      have HP11 := Kd.R_putg HO_3.out (x9_1 : Int) 2048
      go_wp2_with (first | ((with_reducible refine gate_store (t := 3) (p := 14) rfl ?_); refine store_event (t := 3) (p := 14) (v := ?vo_w12) (w1 := (wr.setCell ⟨go10, (x9_1 : Int).toNat, none⟩ (.int .i64 2048))) ?hg ?ho ?hn ?hr ?_; (case ho => rfl); (case hg => rfl); (case hn => rfl); (case hr => first | (go_simp; done) | (go_simp; rfl)); intro w12 hw; have hg : wr.grownBy w12 (some go10) := (by rw [hw]; exact HP11.2); have hp_ : Kd.R (Kd.int .i64) 3 w12 w.heap.size (fun _ => True) (.slice (some ⟨go10, 0, none⟩) x3_1.length co6) y125 := (by rw [hw, Ny125.out]; exact HP11.1); clear HP11; have n0_ := Aside0.mk (hp_); have n1_ := Aside0.mk ((by rw [hw]; exact below_set (HB.out) GB10.out : Below w.heap.size w w12)); clear HO_3; clear HB; have HO_3 := n0_; have HB := n1_; clear n0_ n1_; clear hg hw hp_))
      (try simp only [← hl3_1])
      go_roundg k1
      case measure => have := HK1.out; omega
      case rel => exact ⟨(y125), (wrap64 (x9_1 + 1)), (by first | rfl | (simp; done) | (simp [*]; done)), H', ⟨by have := HK1.out; omega⟩, ⟨by (try simp only [hl3_1]); (with_reducible repeat (first | apply Kd.R_alloc | apply Kd.R_drewN | apply Kd.R_drew)); exact HO_3.out⟩, ⟨by repeat (first | (with_reducible first | exact HB.out | apply below_alloc | apply pw_below_drewN | apply below_drew1) | exact HB.out)⟩⟩

/-! ### impl_zdecoder_more: function 158 -/
theorem impl_zdecoder_more.still_ {P : Program} {id : Nat} {Q : Exit → Act → World → Prop} {a : Act} {w : World} {l : List Oper} (hm : P.follows .mixedOrders = true) (hB : Region.lexB .any l.toArray = true)
    (h : ∀ w1, w1 = w.drew → wpStill P l.toArray w1 (fun a' => Q .normal a' w1) l a) : (Code.region id l.toArray true).wp P Q a w := wp_region_still_lit hm hB (h _ rfl)
def impl_zdecoder_more.f (k : Nat) (l : List Int) (at_ code err : Int) : Option (Int × Int × Int) := if at_ ≥ (l.length : Int) then (if err = 0 then some (at_, code, 2) else some (at_, code, err)) else (if 0 ≤ at_ then some (wrap64 (at_ + 1), Go.bits .or .u64 (IntKind.u64.wrap (code * 256)) (IntKind.u64.wrap (rd l at_)), err) else none)
theorem impl_zdecoder_more.mono : ∀ a0 a1 a2 a3 k, LeO (impl_zdecoder_more.f k a0 a1 a2 a3) (impl_zdecoder_more.f (k + 1) a0 a1 a2 a3) := fun _ _ _ _ _ => LeO.refl _
set_option maxHeartbeats 8000000 in
set_option maxRecDepth 100000 in
theorem impl_zdecoder_more.calls (k g : Nat) (A : Option Addr) (c : Nat) (l : List Int) (at_ code rng err : Int) (uo : Value) (r1 r2 r3 : Int) (w wa : World) (hB : Below w.heap.size w wa) (hG : w.heap.size ≤ g) (hd : Kd.C (Kd.int .u8) w A l.length l) (hbb : wa.heap[g]? = some (.cells #[uo, .slice A l.length c, .int .i64 at_, .int .u64 code, .int .u64 rng, .int .i64 err] 141 (0, 0))) (h : impl_zdecoder_more.f k l at_ code err = some (r1, r2, r3)) :
    Calls Try.prog 158 #[.pointer (some ⟨g, 0, none⟩)] wa fun e w' => e = .returned (.tuple #[]) ∧ w'.heap[g]? = some (.cells #[uo, .slice A l.length c, .int .i64 r1, .int .u64 r2, .int .u64 rng, .int .i64 r3] 141 (0, 0)) ∧ Below w.heap.size w w' ∧ Kept wa w' (fun k_ => k_ = g) := by
  have hu_ := Try.underlying141
  have HB := Aside0.mk hB
  have GE := Aside0.mk hG
  have HD := Aside0.mk hd
  have BK := Aside0.mk hbb
  have HK := Aside0.mk (Kept.refl wa (fun k_ => k_ = g))
  clear hB hG hd hbb
  unfold impl_zdecoder_more.f at h
  by_cases c1 : at_ ≥ (l.length : Int)
  · rw [if_pos c1] at h
    have c1b : decide ((l.length : Int) ≤ at_) = true := decide_eq_true c1
    clear c1
    go_enter Try.func158, Try.ntmps158
    go_upto_region 0 with (fail)
    refine impl_zdecoder_more.still_ (by kernel_rfl) (by kernel_rfl) (fun w1 hw_ => ?_)
    have hd_ := below_drew (Below.refl wa.heap.size wa)
    rw [← hw_] at hd_
    clear hw_
    have n_BK := Aside0.mk (blk_below BK.out hd_)
    have n_HB := Aside0.mk (below_step HB.out hd_)
    have n_HK := Aside0.mk (Kept.below HK.out hd_)
    clear BK HB HK
    have BK := n_BK
    have HB := n_HB
    have HK := n_HK
    clear n_BK n_HB n_HK
    clear hd_
    have hz0 : w1.cell? ⟨g, 0, none⟩ = some (uo) := (blk_cell BK.out 0).trans rfl
    have hz1 : w1.cell? ⟨g, 1, none⟩ = some (.slice A l.length c) := (blk_cell BK.out 1).trans rfl
    have hz2 : w1.cell? ⟨g, 2, none⟩ = some (.int .i64 at_) := (blk_cell BK.out 2).trans rfl
    have hz3 : w1.cell? ⟨g, 3, none⟩ = some (.int .u64 code) := (blk_cell BK.out 3).trans rfl
    have hz4 : w1.cell? ⟨g, 4, none⟩ = some (.int .u64 rng) := (blk_cell BK.out 4).trans rfl
    have hz5 : w1.cell? ⟨g, 5, none⟩ = some (.int .i64 err) := (blk_cell BK.out 5).trans rfl
    repeat still_step
    refine wpStill_nil ?_
    by_cases c2 : err = 0
    · rw [if_pos c2] at h
      have c2b := beq_iff_eq.mpr c2
      clear c2
      simp only [Option.some.injEq, Prod.mk.injEq] at h
      obtain ⟨rfl, rfl, rfl⟩ := h
      go_wp2_with (first | ((with_reducible refine gate_store (t := 3) (p := 19) (v := .const (.int .i64 2)) rfl ?_); refine put_event rfl 3 (.tmp 19) (.const (.int .i64 2)) rfl rfl g 5 #[uo, .slice A l.length c, .int .i64 at_, .int .u64 code, .int .u64 rng, .int .i64 err] 141 (.int .i64 2) rfl rfl rfl rfl (by kernel_rfl) BK.out (by simp) ?_; intro w2 h1 hk hbb; have n0_ := Aside0.mk (show w2.heap[g]? = some (.cells #[uo, .slice A l.length c, .int .i64 at_, .int .u64 code, .int .u64 rng, .int .i64 2] 141 (0, 0)) from h1); have n1_ := Aside0.mk (hbb _ _ HB.out GE.out); have n2_ := Aside0.mk (Kept.then_ HK.out hk (fun k_ h_ => .inl h_)); clear BK HB HK h1 hk hbb; have BK := n0_; have HB := n1_; have HK := n2_; clear n0_ n1_ n2_))
      first | go_end0 | ((try simp only [Exit.inBlock, Exit.then]); refine bodyPost_ret (results_none rfl _ _ _) rfl ?_)
      exact ⟨rfl, BK.out, HB.out, HK.out⟩
    rw [if_neg c2] at h
    have c2b := beq_eq_false_iff_ne.mpr c2
    clear c2
    simp only [Option.some.injEq, Prod.mk.injEq] at h
    obtain ⟨rfl, rfl, rfl⟩ := h
    go_wp2
    first | go_end0 | ((try simp only [Exit.inBlock, Exit.then]); refine bodyPost_ret (results_none rfl _ _ _) rfl ?_)
    exact ⟨rfl, BK.out, HB.out, HK.out⟩
  rw [if_neg c1] at h
  have c1b : decide ((l.length : Int) ≤ at_) = false := decide_eq_false c1
  have c1' : at_ < (l.length : Int) := by omega
  clear c1
  go_enter Try.func158, Try.ntmps158
  go_upto_region 0 with (fail)
  refine impl_zdecoder_more.still_ (by kernel_rfl) (by kernel_rfl) (fun w1 hw_ => ?_)
  have hd_ := below_drew (Below.refl wa.heap.size wa)
  rw [← hw_] at hd_
  clear hw_
  have n_BK := Aside0.mk (blk_below BK.out hd_)
  have n_HB := Aside0.mk (below_step HB.out hd_)
  have n_HK := Aside0.mk (Kept.below HK.out hd_)
  clear BK HB HK
  have BK := n_BK
  have HB := n_HB
  have HK := n_HK
  clear n_BK n_HB n_HK
  clear hd_
  have hz0 : w1.cell? ⟨g, 0, none⟩ = some (uo) := (blk_cell BK.out 0).trans rfl
  have hz1 : w1.cell? ⟨g, 1, none⟩ = some (.slice A l.length c) := (blk_cell BK.out 1).trans rfl
  have hz2 : w1.cell? ⟨g, 2, none⟩ = some (.int .i64 at_) := (blk_cell BK.out 2).trans rfl
  have hz3 : w1.cell? ⟨g, 3, none⟩ = some (.int .u64 code) := (blk_cell BK.out 3).trans rfl
  have hz4 : w1.cell? ⟨g, 4, none⟩ = some (.int .u64 rng) := (blk_cell BK.out 4).trans rfl
  have hz5 : w1.cell? ⟨g, 5, none⟩ = some (.int .i64 err) := (blk_cell BK.out 5).trans rfl
  repeat still_step
  refine wpStill_nil ?_
  by_cases c2 : 0 ≤ at_
  rotate_left
  · rw [if_neg c2] at h
    exact absurd h (by simp)
  rw [if_pos c2] at h
  simp only [Option.some.injEq, Prod.mk.injEq] at h
  obtain ⟨rfl, rfl, rfl⟩ := h
  go_upto_region 3 with (fail)
  clear hz0 hz1 hz2 hz3 hz4 hz5
  refine still_tail_ 20 (by kernel_rfl) (by kernel_rfl) (fun w3 hw_ => ?_)
  have hd_ := below_drew (Below.refl w1.heap.size w1)
  rw [← hw_] at hd_
  clear hw_
  have n_BK := Aside0.mk (blk_below BK.out hd_)
  have n_HB := Aside0.mk (below_step HB.out hd_)
  have n_HK := Aside0.mk (Kept.below HK.out hd_)
  clear BK HB HK
  have BK := n_BK
  have HB := n_HB
  have HK := n_HK
  clear n_BK n_HB n_HK
  clear hd_
  have hz0 : w3.cell? ⟨g, 0, none⟩ = some (uo) := (blk_cell BK.out 0).trans rfl
  have hz1 : w3.cell? ⟨g, 1, none⟩ = some (.slice A l.length c) := (blk_cell BK.out 1).trans rfl
  have hz2 : w3.cell? ⟨g, 2, none⟩ = some (.int .i64 at_) := (blk_cell BK.out 2).trans rfl
  have hz3 : w3.cell? ⟨g, 3, none⟩ = some (.int .u64 code) := (blk_cell BK.out 3).trans rfl
  have hz4 : w3.cell? ⟨g, 4, none⟩ = some (.int .u64 rng) := (blk_cell BK.out 4).trans rfl
  have hz5 : w3.cell? ⟨g, 5, none⟩ = some (.int .i64 err) := (blk_cell BK.out 5).trans rfl
  obtain ⟨ad, e1, hx⟩ := Kd.at_int (Kd.C_below HD.out HB.out) at_ c2 c1'
  cases e1
  have P0b := decide_eq_true c2
  have P1b := decide_eq_true c1'
  have P0 := eq_true c2
  have P1 := eq_true c1'
  simp only [List.take_succ_cons, List.take_zero, List.drop_succ_cons, List.drop_zero]
  repeat still_step
  refine wpStill_nil ?_
  clear hz0 hz1 hz2 hz3 hz4 hz5
  go_upto_region 4 with (first | ((with_reducible refine gate_store (t := 97) (p := 39) (v := .tmp 37) rfl ?_); refine put_event rfl 97 (.tmp 39) (.tmp 37) rfl rfl g 3 #[uo, .slice (some ad) l.length c, .int .i64 at_, .int .u64 code, .int .u64 rng, .int .i64 err] 141 (.int .u64 (Go.bits .or .u64 (IntKind.u64.wrap (code * 256)) (IntKind.u64.wrap (rd l at_)))) rfl rfl rfl rfl (by kernel_rfl) BK.out (by simp) ?_; intro w4 h1 hk hbb; have n0_ := Aside0.mk (show w4.heap[g]? = some (.cells #[uo, .slice (some ad) l.length c, .int .i64 at_, .int .u64 (Go.bits .or .u64 (IntKind.u64.wrap (code * 256)) (IntKind.u64.wrap (rd l at_))), .int .u64 rng, .int .i64 err] 141 (0, 0)) from h1); have n1_ := Aside0.mk (hbb _ _ HB.out GE.out); have n2_ := Aside0.mk (Kept.then_ HK.out hk (fun k_ h_ => .inl h_)); clear BK HB HK h1 hk hbb; have BK := n0_; have HB := n1_; have HK := n2_; clear n0_ n1_ n2_))
  have hz0 : w4.cell? ⟨g, 0, none⟩ = some (uo) := (blk_cell BK.out 0).trans rfl
  have hz1 : w4.cell? ⟨g, 1, none⟩ = some (.slice (some ad) l.length c) := (blk_cell BK.out 1).trans rfl
  have hz2 : w4.cell? ⟨g, 2, none⟩ = some (.int .i64 at_) := (blk_cell BK.out 2).trans rfl
  have hz3 : w4.cell? ⟨g, 3, none⟩ = some (.int .u64 (Go.bits .or .u64 (IntKind.u64.wrap (code * 256)) (IntKind.u64.wrap (rd l at_)))) := (blk_cell BK.out 3).trans rfl
  have hz4 : w4.cell? ⟨g, 4, none⟩ = some (.int .u64 rng) := (blk_cell BK.out 4).trans rfl
  have hz5 : w4.cell? ⟨g, 5, none⟩ = some (.int .i64 err) := (blk_cell BK.out 5).trans rfl
  go_wp2_with (first | ((with_reducible refine gate_store (t := 3) (p := 46) (v := .tmp 44) rfl ?_); refine put_event rfl 3 (.tmp 46) (.tmp 44) rfl rfl g 2 #[uo, .slice (some ad) l.length c, .int .i64 at_, .int .u64 (Go.bits .or .u64 (IntKind.u64.wrap (code * 256)) (IntKind.u64.wrap (rd l at_))), .int .u64 rng, .int .i64 err] 141 (.int .i64 (wrap64 (at_ + 1))) rfl rfl rfl rfl (by kernel_rfl) BK.out (by simp) ?_; intro w5 h1 hk hbb; have n0_ := Aside0.mk (show w5.heap[g]? = some (.cells #[uo, .slice (some ad) l.length c, .int .i64 (wrap64 (at_ + 1)), .int .u64 (Go.bits .or .u64 (IntKind.u64.wrap (code * 256)) (IntKind.u64.wrap (rd l at_))), .int .u64 rng, .int .i64 err] 141 (0, 0)) from h1); have n1_ := Aside0.mk (hbb _ _ HB.out GE.out); have n2_ := Aside0.mk (Kept.then_ HK.out hk (fun k_ h_ => .inl h_)); clear BK HB HK h1 hk hbb; have BK := n0_; have HB := n1_; have HK := n2_; clear n0_ n1_ n2_))
  first | go_end0 | ((try simp only [Exit.inBlock, Exit.then]); refine bodyPost_ret (results_none rfl _ _ _) rfl ?_)
  exact ⟨rfl, BK.out, HB.out, HK.out⟩

/-! ### impl_znewDecoder: function 124 -/
theorem impl_znewDecoder.still_ {P : Program} {id : Nat} {Q : Exit → Act → World → Prop} {a : Act} {w : World} {l : List Oper} (hm : P.follows .mixedOrders = true) (hB : Region.lexB .any l.toArray = true)
    (h : ∀ w1, w1 = w.drew → wpStill P l.toArray w1 (fun a' => Q .normal a' w1) l a) : (Code.region id l.toArray true).wp P Q a w := wp_region_still_lit hm hB (h _ rfl)
def impl_znewDecoder.l0 : Nat → Int → List Int → Int → Int → Int → Option (Int × Int × Int)
  | 0, _, _, _, _, _ => none
  | k + 1, i, l, at_, code, err => if i < 4 then ((impl_zdecoder_more.f k l at_ code err).bind fun t => (impl_znewDecoder.l0 k (wrap64 (i + 1)) l t.1 t.2.1 t.2.2)) else (if err = 0 then (if code ≥ 4294967295 then (some (at_, code, 4)) else (some (at_, code, err))) else (some (at_, code, err)))
def impl_znewDecoder.f (k : Nat) (places : Int) (l : List Int) : Option (Int × Int × Int × List Int) := (impl_znewOdds.f k places).bind fun od => (if 0 < od.length then ((impl_znewDecoder.l0 k 0 l 0 0 0).bind fun t => (some (t.1, t.2.1, t.2.2, od))) else (none))
theorem impl_znewDecoder.mono_l : ∀ k, (∀ y0 y1 y2 y3 y4, LeO (impl_znewDecoder.l0 k y0 y1 y2 y3 y4) (impl_znewDecoder.l0 (k + 1) y0 y1 y2 y3 y4))
  | 0 => fun _ _ _ _ _ r h => by simp [impl_znewDecoder.l0] at h
  | k + 1 => by
    have ih := impl_znewDecoder.mono_l k
    have ih0 := ih
    · intro y0 y1 y2 y3 y4
      unfold impl_znewDecoder.l0
      repeat' first
      | (with_reducible exact ih0 _ _ _ _ _)
      | (with_reducible exact impl_zdecoder_more.mono _ _ _ _ _)
      | (with_reducible exact impl_znewOdds.mono _ _)
      | (with_reducible exact LeO.refl _)
      | (with_reducible exact LeO.none _)
      | (with_reducible refine LeO.ite ?_ ?_)
      | (with_reducible refine LeO.bind ?_ (fun _ => ?_))
      | exact ih0 _ _ _ _ _
      | exact impl_zdecoder_more.mono _ _ _ _ _
      | exact impl_znewOdds.mono _ _
      | exact LeO.none _
      | refine LeO.ite ?_ ?_
      | refine LeO.bind ?_ (fun _ => ?_)
theorem impl_znewDecoder.mono : ∀ a0 a1 k, LeO (impl_znewDecoder.f k a0 a1) (impl_znewDecoder.f (k + 1) a0 a1) := by
  intro a0 a1 k
  have ih := impl_znewDecoder.mono_l k
  have ih0 := ih
  unfold impl_znewDecoder.f
  repeat' first
      | (with_reducible exact ih0 _ _ _ _ _)
      | (with_reducible exact impl_zdecoder_more.mono _ _ _ _ _)
      | (with_reducible exact impl_znewOdds.mono _ _)
      | (with_reducible exact LeO.refl _)
      | (with_reducible exact LeO.none _)
      | (with_reducible refine LeO.ite ?_ ?_)
      | (with_reducible refine LeO.bind ?_ (fun _ => ?_))
      | exact ih0 _ _ _ _ _
      | exact impl_zdecoder_more.mono _ _ _ _ _
      | exact impl_znewOdds.mono _ _
      | exact LeO.none _
      | refine LeO.ite ?_ ?_
      | refine LeO.bind ?_ (fun _ => ?_)
set_option maxHeartbeats 8000000 in
set_option maxRecDepth 100000 in
theorem impl_znewDecoder.calls (k : Nat) (places : Int) (A : Option Addr) (c : Nat) (l : List Int) (r1 r2 r3 : Int) (od : List Int) (w : World) (hd : Kd.C (Kd.int .u8) w A l.length l) (h : impl_znewDecoder.f k places l = some (r1, r2, r3, od)) :
    Calls Try.prog 124 #[.int .i64 places, .slice A l.length c] w fun e w' => ∃ (g go n co : Nat), e = .returned (.pointer (some ⟨g, 0, none⟩)) ∧ w.heap.size ≤ g ∧ w'.heap[g]? = some (.cells #[(.slice (some ⟨go, 0, none⟩) n co), .slice A l.length c, .int .i64 r1, .int .u64 r2, .int .u64 4294967295, .int .i64 r3] 141 (0, 0)) ∧ Kd.R (Kd.int .i64) 3 w' w.heap.size (fun k_ => k_ = go) (.slice (some ⟨go, 0, none⟩) n co) od ∧ Below w.heap.size w w' := by
  have hu_ := Try.underlying141
  have HD := Aside0.mk hd
  clear hd
  unfold impl_znewDecoder.f at h
  obtain ⟨od0, A20, H⟩ := Option.bind_eq_some_iff.mp h
  clear h
  have A2 := Aside0.mk A20
  clear A20
  by_cases c0 : 0 < od0.length
  rotate_left
  · rw [if_neg c0] at H
    exact absurd H (by simp)
  rw [if_pos c0] at H
  have C0 := Aside0.mk c0
  clear c0
  replace H := Option.bind_eq_some_iff.mp H
  obtain ⟨⟨t1, t2, t3⟩, HL0, H⟩ := H
  have HL := Aside0.mk HL0
  clear HL0
  simp only [Option.some.injEq, Prod.mk.injEq] at H
  obtain ⟨rfl, rfl, rfl, rfl⟩ := H
  go_enter Try.func124, Try.ntmps124
  go_wp2_with (first | ((with_reducible refine gate_callee (f := 140) rfl ?_); refine goesL_ (some 7) rfl rfl Try.func140 (by kernel_rfl) rfl #[.int .i64 places] rfl (by (try simp only [List.map_toArray, List.map_cons, List.map_nil]); first | done | rfl) ?_; (with_reducible refine (impl_znewOdds.calls k places od0 _ A2.out).mono ?_); rintro e wc ⟨v, rfl, ho, hb⟩; refine ⟨_, rfl, ?_⟩; have HO := Aside0.mk ho; have HB := Aside0.mk hb; clear ho hb; obtain ⟨Ao, co, eo⟩ := Kd.R_slice HO.out; subst eo; obtain ⟨go, co, eo, _, _, _⟩ := Kd.R_form HO.out C0.out; injection eo with ea el ec; subst ea; subst ec; clear el; have n0_ := Aside0.mk (Kd.R_mono (Kd.R_tight rfl HO.out) (fun k_ h_ => (Option.some.inj h_))); clear HO; have HO := n0_; clear n0_) | ((with_reducible refine gate_dst (N := 10) rfl ?_); refine box_event ?hg (N := 10) ?hd (cs := #[(.slice (some ⟨go, 0, none⟩) od0.length co), .slice A l.length c, .int .i64 0, .int .u64 0, .int .u64 4294967295, .int .i64 0]) (t := 141) ?hr ?_; (case hd => rfl); (case hg => rfl); (case hr => first | (go_simp; done) | (go_simp; rfl)); intro g hg wb hbox hb; have n0_ := Aside0.mk (Kd.R_below HO.out hb); have GE := Aside0.mk (show w.heap.size ≤ g from by rw [hg]; exact below_size HB.out); have n1_ := Aside0.mk (below_step HB.out hb); clear HO HB; have HO := n0_; have HB := n1_; have BK := Aside0.mk hbox; clear n0_ n1_ hg hb hbox))
  go_loopg [11] k (fun kq v11 w' => ∃ (i at_ code err : Int), v11 = .int .i64 i ∧ Aside0 (impl_znewDecoder.l0 kq i l at_ code err = some (t1, t2, t3)) ∧ Aside0 (kq ≤ k) ∧ Aside0 (Kd.R (Kd.int .i64) 3 w' w.heap.size (fun k_ => k_ = go) (.slice (some ⟨go, 0, none⟩) od0.length co) od0) ∧ Aside0 (w'.heap[g]? = some (.cells #[(.slice (some ⟨go, 0, none⟩) od0.length co), .slice A l.length c, .int .i64 at_, .int .u64 code, .int .u64 4294967295, .int .i64 err] 141 (0, 0))) ∧ Aside0 (Below w.heap.size w w'))
  case atStart => exact ⟨0, 0, 0, 0, rfl, HL, ⟨Nat.le_refl _⟩, HO, BK, HB⟩
  case round =>
    clear HL HO BK HB
    obtain ⟨i, at_, code, err, rfl, HA, HK1, HO, BK, HB⟩ := hrel
    cases gk with
    | zero => exact absurd HA.out (by simp [impl_znewDecoder.l0])
    | succ k1 =>
      have H := HA.out
      clear HA
      simp only [impl_znewDecoder.l0] at H
      by_cases d1 : i < 4
      rotate_left
      · rw [if_neg d1] at H
        have d1b := decide_eq_false d1
        clear d1
        have HK := Aside0.mk (Kept.refl wr (fun k_ => k_ = g))
        by_cases d2 : err = 0
        · rw [if_pos d2] at H
          have d2b := beq_iff_eq.mpr d2
          clear d2
          by_cases d3 : code ≥ 4294967295
          · rw [if_pos d3] at H
            have d3b : decide (4294967295 ≤ code) = true := decide_eq_true d3
            clear d3
            simp only [Option.some.injEq, Prod.mk.injEq] at H
            obtain ⟨rfl, rfl, rfl⟩ := H
            go_upto_region 6 with (fail)
            refine impl_znewDecoder.still_ (by kernel_rfl) (by kernel_rfl) (fun w13 hw_ => ?_)
            have hd_ := below_drew (Below.refl wr.heap.size wr)
            rw [← hw_] at hd_
            clear hw_
            have n_BK := Aside0.mk (blk_below BK.out hd_)
            have n_HB := Aside0.mk (below_step HB.out hd_)
            have n_HK := Aside0.mk (Kept.below HK.out hd_)
            have n_HO := Aside0.mk (Kd.R_below HO.out hd_)
            clear BK HB HK HO
            have BK := n_BK
            have HB := n_HB
            have HK := n_HK
            have HO := n_HO
            clear n_BK n_HB n_HK n_HO
            clear hd_
            have hz0 : w13.cell? ⟨g, 0, none⟩ = some ((.slice (some ⟨go, 0, none⟩) od0.length co)) := (blk_cell BK.out 0).trans rfl
            have hz1 : w13.cell? ⟨g, 1, none⟩ = some (.slice A l.length c) := (blk_cell BK.out 1).trans rfl
            have hz2 : w13.cell? ⟨g, 2, none⟩ = some (.int .i64 at_) := (blk_cell BK.out 2).trans rfl
            have hz3 : w13.cell? ⟨g, 3, none⟩ = some (.int .u64 code) := (blk_cell BK.out 3).trans rfl
            have hz4 : w13.cell? ⟨g, 4, none⟩ = some (.int .u64 4294967295) := (blk_cell BK.out 4).trans rfl
            have hz5 : w13.cell? ⟨g, 5, none⟩ = some (.int .i64 err) := (blk_cell BK.out 5).trans rfl
            repeat still_step
            refine wpStill_nil ?_
            go_wp2_with (first | ((with_reducible refine gate_store (t := 3) (p := 34) (v := .const (.int .i64 4)) rfl ?_); refine put_event rfl 3 (.tmp 34) (.const (.int .i64 4)) rfl rfl g 5 #[(.slice (some ⟨go, 0, none⟩) od0.length co), .slice A l.length c, .int .i64 at_, .int .u64 code, .int .u64 4294967295, .int .i64 err] 141 (.int .i64 4) rfl rfl rfl rfl (by kernel_rfl) BK.out (by simp) ?_; intro w14 h1 hk hbb; have n0_ := Aside0.mk (show w14.heap[g]? = some (.cells #[(.slice (some ⟨go, 0, none⟩) od0.length co), .slice A l.length c, .int .i64 at_, .int .u64 code, .int .u64 4294967295, .int .i64 4] 141 (0, 0)) from h1); have n1_ := Aside0.mk (hbb _ _ HB.out GE.out); have n2_ := Aside0.mk (Kept.then_ HK.out hk (fun k_ h_ => .inl h_)); have n3_ := Aside0.mk (Kd.R_mono (Kd.R_kept (Kd.R_types HO.out BK.out (by decide)) hk (fun k_ ho_ hs_ => ho_.2 hs_)) (fun _ h_ => h_.1)); clear HO; have HO := n3_; clear n3_; clear BK HB HK h1 hk hbb; have BK := n0_; have HB := n1_; have HK := n2_; clear n0_ n1_ n2_))
            go_ret
            exact ⟨g, go, _, _, rfl, GE.out, BK.out, HO.out, HB.out⟩
          rw [if_neg d3] at H
          have d3b : decide (4294967295 ≤ code) = false := decide_eq_false d3
          clear d3
          simp only [Option.some.injEq, Prod.mk.injEq] at H
          obtain ⟨rfl, rfl, rfl⟩ := H
          go_upto_region 6 with (fail)
          refine impl_znewDecoder.still_ (by kernel_rfl) (by kernel_rfl) (fun w13 hw_ => ?_)
          have hd_ := below_drew (Below.refl wr.heap.size wr)
          rw [← hw_] at hd_
          clear hw_
          have n_BK := Aside0.mk (blk_below BK.out hd_)
          have n_HB := Aside0.mk (below_step HB.out hd_)
          have n_HK := Aside0.mk (Kept.below HK.out hd_)
          have n_HO := Aside0.mk (Kd.R_below HO.out hd_)
          clear BK HB HK HO
          have BK := n_BK
          have HB := n_HB
          have HK := n_HK
          have HO := n_HO
          clear n_BK n_HB n_HK n_HO
          clear hd_
          have hz0 : w13.cell? ⟨g, 0, none⟩ = some ((.slice (some ⟨go, 0, none⟩) od0.length co)) := (blk_cell BK.out 0).trans rfl
          have hz1 : w13.cell? ⟨g, 1, none⟩ = some (.slice A l.length c) := (blk_cell BK.out 1).trans rfl
          have hz2 : w13.cell? ⟨g, 2, none⟩ = some (.int .i64 at_) := (blk_cell BK.out 2).trans rfl
          have hz3 : w13.cell? ⟨g, 3, none⟩ = some (.int .u64 code) := (blk_cell BK.out 3).trans rfl
          have hz4 : w13.cell? ⟨g, 4, none⟩ = some (.int .u64 4294967295) := (blk_cell BK.out 4).trans rfl
          have hz5 : w13.cell? ⟨g, 5, none⟩ = some (.int .i64 err) := (blk_cell BK.out 5).trans rfl
          repeat still_step
          refine wpStill_nil ?_
          go_wp2
          go_ret
          exact ⟨g, go, _, _, rfl, GE.out, BK.out, HO.out, HB.out⟩
        rw [if_neg d2] at H
        have d2b := beq_eq_false_iff_ne.mpr d2
        clear d2
        simp only [Option.some.injEq, Prod.mk.injEq] at H
        obtain ⟨rfl, rfl, rfl⟩ := H
        obtain ⟨eb, heb⟩ : ∃ eb : Bool, (err == 0) = eb := ⟨_, rfl⟩
        have HEB := Aside0.mk (heb.symm.trans d2b)
        have HEN := Aside0.mk (show ¬ eb = true from by rw [HEB.out]; simp)
        clear d2b
        go_upto_region 6 with (fail)
        refine impl_znewDecoder.still_ (by kernel_rfl) (by kernel_rfl) (fun w13 hw_ => ?_)
        have hd_ := below_drew (Below.refl wr.heap.size wr)
        rw [← hw_] at hd_
        clear hw_
        have n_BK := Aside0.mk (blk_below BK.out hd_)
        have n_HB := Aside0.mk (below_step HB.out hd_)
        have n_HK := Aside0.mk (Kept.below HK.out hd_)
        have n_HO := Aside0.mk (Kd.R_below HO.out hd_)
        clear BK HB HK HO
        have BK := n_BK
        have HB := n_HB
        have HK := n_HK
        have HO := n_HO
        clear n_BK n_HB n_HK n_HO
        clear hd_
        have hz0 : w13.cell? ⟨g, 0, none⟩ = some ((.slice (some ⟨go, 0, none⟩) od0.length co)) := (blk_cell BK.out 0).trans rfl
        have hz1 : w13.cell? ⟨g, 1, none⟩ = some (.slice A l.length c) := (blk_cell BK.out 1).trans rfl
        have hz2 : w13.cell? ⟨g, 2, none⟩ = some (.int .i64 at_) := (blk_cell BK.out 2).trans rfl
        have hz3 : w13.cell? ⟨g, 3, none⟩ = some (.int .u64 code) := (blk_cell BK.out 3).trans rfl
        have hz4 : w13.cell? ⟨g, 4, none⟩ = some (.int .u64 4294967295) := (blk_cell BK.out 4).trans rfl
        have hz5 : w13.cell? ⟨g, 5, none⟩ = some (.int .i64 err) := (blk_cell BK.out 5).trans rfl
        repeat (first | (refine wpStill_step (fun K hK => ?_); go_simp; rw [if_neg HEN.out]; refine hK _ ?_; clear hK K) | still_step)
        refine wpStill_nil ?_
        obtain rfl := HEB.out
        clear heb HEB HEN
        go_wp2
        go_ret
        first | exact ⟨g, go, _, _, rfl, GE.out, BK.out, HO.out, HB.out⟩ | exact ⟨g, rfl, GE.out, BK.out, go, _, _, HO.out, HB.out⟩ | exact ⟨g, rfl, GE.out, BK.out, ⟨go, _, _, HO.out⟩, HB.out⟩ | exact ⟨g, rfl, GE.out, BK.out, ⟨go, ⟨_, _, HO.out⟩⟩, HB.out⟩
      rw [if_pos d1] at H
      have d1b := decide_eq_true d1
      clear d1
      replace H := Option.bind_eq_some_iff.mp H
      obtain ⟨⟨at2, code2, err2⟩, A90, H⟩ := H
      replace H : impl_znewDecoder.l0 k1 (wrap64 (i + 1)) l at2 code2 err2 = some (t1, t2, t3) := H
      have A9 := Aside0.mk A90
      have H' := Aside0.mk H
      clear A90 H
      go_wp2_with (first | ((with_reducible refine gate_callee (f := 158) rfl ?_); refine goesL_ (some 14) rfl rfl Try.func158 (by kernel_rfl) rfl #[.pointer (some ⟨g, 0, none⟩)] rfl (by (try simp only [List.map_toArray, List.map_cons, List.map_nil]); first | done | rfl) ?_; (with_reducible refine (impl_zdecoder_more.calls k1 g A c l at_ code 4294967295 err (.slice (some ⟨go, 0, none⟩) od0.length co) at2 code2 err2 w _ HB.out GE.out HD.out BK.out A9.out).mono ?_); rintro e w12 ⟨rfl, hbx, hb, hk⟩; refine ⟨_, rfl, ?_⟩; have n0_ := Aside0.mk (Kd.R_mono (Kd.R_kept (Kd.R_types HO.out BK.out (by decide)) hk (fun k_ ho_ hs_ => ho_.2 hs_)) (fun _ h_ => h_.1)); clear HO BK HB hk; have HO := n0_; have BK := Aside0.mk hbx; have HB := Aside0.mk hb; clear n0_ hbx hb))
      go_roundg k1
      case measure => have := HK1.out; omega
      case rel => exact ⟨_, at2, code2, err2, (by first | rfl | (simp; done) | (simp [*]; done)), H', ⟨by have := HK1.out; omega⟩, HO, BK, HB⟩

/-! ### impl_zodds_learn: function 142 -/
def impl_zodds_learn.f (l0 : List Int) (a1 : Int) (a2 : Int) : Option (List Int) := if a2 = 0 then (if 0 ≤ a1 then (if a1 < (l0.length : Int) then (some (l0.set (a1 : Int).toNat (wrap64 ((rd l0 a1) + ((wrap64 (4096 - (rd l0 a1))) / 32))))) else (none)) else (none)) else (if 0 ≤ a1 then (if a1 < (l0.length : Int) then (some (l0.set (a1 : Int).toNat (wrap64 ((rd l0 a1) - ((rd l0 a1) / 32))))) else (none)) else (none))
def impl_zodds_learn.T1 : Bool × List (List Nat × List Nat) := (true, [([], []), ([], []), ([0, 1], [0, 1]), ([2], [2]), ([], []), ([], []), ([4, 5], [4, 5]), ([6], [6]), ([7], [7]), ([8], [8]), ([3, 9], [3, 9]), ([0, 1, 0, 1, 2, 3, 4, 5, 6, 7, 8, 9, 10], [0, 1]), ([11, 10, 0, 1, 2, 3, 4, 5, 6, 7, 8, 9, 10], [10, 11])])
def impl_zodds_learn.B1 : List Nat := [0, 0, 3, 7, 0, 0, 48, 112, 240, 496, 1023, 2047, 4095]
theorem impl_zodds_learn.tab1 : rtab .any (opsOf Try.f142 1) = impl_zodds_learn.T1 := by kernel_rfl
theorem impl_zodds_learn.bits1 : waitsOk impl_zodds_learn.T1.2 impl_zodds_learn.B1 = true := by kernel_rfl
def impl_zodds_learn.T2 : Bool × List (List Nat × List Nat) := (true, [([], []), ([], []), ([0, 1], [0, 1]), ([2], [2]), ([], []), ([], []), ([4, 5], [4, 5]), ([6], [6]), ([7], [7]), ([3, 8], [3, 8]), ([0, 1, 0, 1, 2, 3, 4, 5, 6, 7, 8, 9], [0, 1]), ([10, 9, 0, 1, 2, 3, 4, 5, 6, 7, 8, 9], [9, 10])])
def impl_zodds_learn.B2 : List Nat := [0, 0, 3, 7, 0, 0, 48, 112, 240, 511, 1023, 2047]
theorem impl_zodds_learn.tab2 : rtab .any (opsOf Try.f142 2) = impl_zodds_learn.T2 := by kernel_rfl
theorem impl_zodds_learn.bits2 : waitsOk impl_zodds_learn.T2.2 impl_zodds_learn.B2 = true := by kernel_rfl
set_option maxHeartbeats 8000000 in
set_option maxRecDepth 100000 in
theorem impl_zodds_learn.calls (P0_ : Nat → Prop) (u9000_ : Value) (l0 : List Int) (a1 : Int) (a2 : Int) (r : List Int) (w0 w : World) (hB : Below w0.heap.size w0 w) (ho0 : Kd.R (Kd.int .i64) 3 w w0.heap.size P0_ u9000_ l0) (h : impl_zodds_learn.f l0 a1 a2 = some r) :
    Calls Try.prog 142 #[u9000_, .int .i64 a1, .int .i64 a2] w fun e w' => e = .returned (.tuple #[]) ∧ Kd.R (Kd.int .i64) 3 w' w0.heap.size (fun k_ => (P0_ k_ ∨ w.heap.size ≤ k_)) u9000_ r ∧ Below w0.heap.size w0 w' ∧ Kept w w' (fun k_ => P0_ k_) := by
  have HO0 := Aside0.mk (show Kd.R (Kd.int .i64) 3 w w0.heap.size (fun k_ => (P0_ k_ ∨ w.heap.size ≤ k_)) u9000_ l0 from Kd.R_mono ho0 (fun k_ hk => (.inl hk)))
  have HK := Aside0.mk (Kept.refl w (fun k_ => P0_ k_))
  have HW0 := Aside0.mk hB.size
  have HB := Aside0.mk hB
  clear hB
  have H : (if a2 = 0 then (if 0 ≤ a1 then (if a1 < (l0.length : Int) then (some (l0.set (a1 : Int).toNat (wrap64 ((rd l0 a1) + ((wrap64 (4096 - (rd l0 a1))) / 32))))) else (none)) else (none)) else (if 0 ≤ a1 then (if a1 < (l0.length : Int) then (some (l0.set (a1 : Int).toNat (wrap64 ((rd l0 a1) - ((rd l0 a1) / 32))))) else (none)) else (none))) = some r := h
  clear h
  by_cases c4 : a2 = 0
  rotate_left
  · rw [if_neg c4] at H
    have c4b0 : (a2 == 0) = false := beq_eq_false_iff_ne.mpr c4
    have c4b1 : (a2 != 0) = true := bne_iff_ne.mpr c4
    by_cases c11 : 0 ≤ a1
    rotate_left
    · rw [if_neg c11] at H
      exact absurd H (by simp)
    rw [if_pos c11] at H
    have c11b0 : decide (0 ≤ a1) = true := decide_eq_true c11
    clear c11
    by_cases c12 : a1 < (l0.length : Int)
    rotate_left
    · rw [if_neg c12] at H
      exact absurd H (by simp)
    rw [if_pos c12] at H
    have c12b0 : decide (a1 < (l0.length : Int)) = true := decide_eq_true c12
    clear c12
    obtain ⟨y131, hy131⟩ : ∃ y_ : List Int, y_ = (l0.set (a1 : Int).toNat (wrap64 ((rd l0 a1) - ((rd l0 a1) / 32)))) := ⟨_, rfl⟩
    replace H : (some y131) = some r := by first | (rw [hy131]; with_reducible exact H) | (have H2_ := (Option.bind_some _ _).symm.trans H; rw [hy131]; with_reducible exact H2_) | (have H2_ := (Option.bind_some _ _).symm.trans H; with_reducible exact H2_) | with_reducible exact H | (rw [hy131]; exact H) | exact H
    have Ny131 := Aside0.mk hy131
    clear hy131
    obtain rfl := Option.some.inj H
    go_enter Try.func142, Try.ntmps142
    try go_wp2
    have n0_ := Aside0.mk (Kd.R_drew HO0.out)
    have n1_ := Aside0.mk (Kept.drew HK.out)
    have n2_ := Aside0.mk (below_drew1 HB.out)
    clear HO0
    clear HK
    clear HB
    have HO0 := n0_
    have HK := n1_
    have HB := n2_
    clear n0_ n1_ n2_
    obtain ⟨Ao15, co15, eo15⟩ := Kd.R_slice HO0.out
    (first | subst eo15 | (injection eo15 with f1_ f2_ f3_; have f4_ := f1_.symm; have f5_ := f3_.symm; clear f1_ f2_ f3_; subst f4_; subst f5_))
    have p129 : 0 ≤ (a1 : Int) := of_decide_eq_true (by first | (with_reducible assumption) | assumption)
    have q129 : a1 < (l0.length : Int) := of_decide_eq_true (by first | (with_reducible assumption) | assumption)
    obtain ⟨ad129, e129, hx129_0⟩ := Kd.at_int (Kd.R_reads' HO0.out).2.2 a1 p129 q129
    cases e129
    replace p129 := eq_true p129
    replace q129 := eq_true q129
    have p130 : 0 ≤ (a1 : Int) := of_decide_eq_true (by first | (with_reducible assumption) | assumption)
    have q130 : a1 < (l0.length : Int) := of_decide_eq_true (by first | (with_reducible assumption) | assumption)
    obtain ⟨ad130, e130, hx130_0⟩ := Kd.at_int (Kd.R_reads' HO0.out).2.2 a1 p130 q130
    obtain rfl : ad129 = ad130 := (by injection e130)
    replace p130 := eq_true p130
    replace q130 := eq_true q130
    have p13 : 0 ≤ (a1 : Int) := of_decide_eq_true (by first | (with_reducible assumption) | assumption)
    have q13 : (a1 : Int) < ((l0.length : Int) : Int) := of_decide_eq_true (by first | (with_reducible assumption) | assumption)
    obtain ⟨go13, co13, eo13, gb13, gl13, cl13, HG13⟩ := Kd.R_form HO0.out (by omega)
    (first | cases eo13 | (injection eo13 with ea_ en_ ec_; (first | subst ea_ | (injection ea_ with ea_; subst ea_)); subst ec_; clear en_))
    have GB13 := Aside0.mk gb13
    have GG13 := Aside0.mk HG13
    clear gb13 gl13 HG13
    have HMgo13 := Aside0.mk (show (P0_ go13 ∨ w.heap.size ≤ go13) from (HO0.out.1 _ rfl))
    (first | simp only [add_plain] at hx129_0 | skip)
    (first | simp only [add_plain] at hx130_0 | skip)
    obtain ⟨hx13_0, hf13_0⟩ := Kd.R_celln 0 HO0.out (a1 : Int) p13 q13
    replace p13 := eq_true p13
    replace q13 := eq_true q13
    have HP16 := Kd.R_putn HO0.out (a1 : Int) (wrap64 ((rd l0 a1) - ((rd l0 a1) / 32)))
    rw [← Ny131.out] at HP16
    have HQ16 := Aside0.mk HP16
    clear HP16
    refine start_ (n := 12) (S := fun w' => w'.cell? ⟨go13, (a1).toNat, none⟩ = some (.int .i64 (rd l0 a1)) ∧ w'.cell? ⟨go13, (a1).toNat, none⟩ = some (.int .i64 (rd l0 a1))) (ds := [11]) #[false, false, false, false, false, false, false, false, false, false, false, false] (by kernel_rfl) rfl rfl ⟨hx129_0, hx130_0⟩ (fun hHeld => ?_); refine with_tabW impl_zodds_learn.tab2 impl_zodds_learn.bits2 (fun HT_ HW_ => ?_)
    generalize w.drew = w14 at HO0 HK HB GG13 HQ16 hf13_0 hx129_0 hx130_0 hx13_0 hHeld ⊢
    refine pure_ (i := 0) (N := some 20) (v := ?_) (a' := ?_) #[true, false, false, false, false, false, false, false, false, false, false, false] rfl rfl (any_of HT_.out (by kernel_rfl)) (fun _ _ _ h => h) (Or.inl ⟨by rfl, ?_⟩) ?_ ?_
    rotate_left
    · intro w'
      go_simp
      with_reducible rfl
    rotate_left
    · simp only [Act.put, List.setIfInBounds_toArray, List.set_cons_zero, List.set_cons_succ, i64_w, i32_w]
      rfl
    refine pure_ (i := 1) (N := some 21) (v := ?_) (a' := ?_) #[true, true, false, false, false, false, false, false, false, false, false, false] rfl rfl (any_of HT_.out (by kernel_rfl)) (fun _ _ _ h => h) (Or.inl ⟨by rfl, ?_⟩) ?_ ?_
    rotate_left
    · intro w'
      go_simp
      with_reducible rfl
    rotate_left
    · simp only [Act.put, List.setIfInBounds_toArray, List.set_cons_zero, List.set_cons_succ, i64_w, i32_w]
      rfl
    refine pure_ (i := 2) (N := some 22) (v := ?_) (a' := ?_) #[true, true, true, false, false, false, false, false, false, false, false, false] rfl rfl (any_of HT_.out (by kernel_rfl)) (fun _ _ _ h => h) (Or.inl ⟨by rfl, ?_⟩) ?_ ?_
    rotate_left
    · intro w'
      go_simp
      with_reducible rfl
    rotate_left
    · simp only [Act.put, List.setIfInBounds_toArray, List.set_cons_zero, List.set_cons_succ, i64_w, i32_w]
      rfl
    refine pure_ (i := 4) (N := some 24) (v := ?_) (a' := ?_) #[true, true, true, false, true, false, false, false, false, false, false, false] rfl rfl (any_of HT_.out (by kernel_rfl)) (fun _ _ _ h => h) (Or.inl ⟨by rfl, ?_⟩) ?_ ?_
    rotate_left
    · intro w'
      go_simp
      with_reducible rfl
    rotate_left
    · simp only [Act.put, List.setIfInBounds_toArray, List.set_cons_zero, List.set_cons_succ, i64_w, i32_w]
      rfl
    refine pure_ (i := 5) (N := some 25) (v := ?_) (a' := ?_) #[true, true, true, false, true, true, false, false, false, false, false, false] rfl rfl (any_of HT_.out (by kernel_rfl)) (fun _ _ _ h => h) (Or.inl ⟨by rfl, ?_⟩) ?_ ?_
    rotate_left
    · intro w'
      go_simp
      with_reducible rfl
    rotate_left
    · simp only [Act.put, List.setIfInBounds_toArray, List.set_cons_zero, List.set_cons_succ, i64_w, i32_w]
      rfl
    refine pure_ (i := 6) (N := some 26) (v := ?_) (a' := ?_) #[true, true, true, false, true, true, true, false, false, false, false, false] rfl rfl (any_of HT_.out (by kernel_rfl)) (fun _ _ _ h => h) (Or.inl ⟨by rfl, ?_⟩) ?_ ?_
    rotate_left
    · intro w'
      go_simp
      with_reducible rfl
    rotate_left
    · simp only [Act.put, List.setIfInBounds_toArray, List.set_cons_zero, List.set_cons_succ, i64_w, i32_w]
      rfl
    refine take_ (i := 3) (N := some 23) (v := ?_) (a' := ?_) #[true, true, true, true, true, true, true, false, false, false, false, false] rfl rfl (take_ofW HT_.out HW_.out (by kernel_rfl)) (fun _ _ _ h => h) (Or.inl ⟨by rfl, ?_⟩) hHeld ?_ ?_
    rotate_left
    · rintro w' ⟨s0, s1⟩
      go_simp
      with_reducible rfl
    rotate_left
    · simp only [Act.put, List.setIfInBounds_toArray, List.set_cons_zero, List.set_cons_succ, i64_w, i32_w]
      rfl
    refine take_ (i := 7) (N := some 27) (v := ?_) (a' := ?_) #[true, true, true, true, true, true, true, true, false, false, false, false] rfl rfl (take_ofW HT_.out HW_.out (by kernel_rfl)) (fun _ _ _ h => h) (Or.inl ⟨by rfl, ?_⟩) hHeld ?_ ?_
    rotate_left
    · rintro w' ⟨s0, s1⟩
      go_simp
      with_reducible rfl
    rotate_left
    · simp only [Act.put, List.setIfInBounds_toArray, List.set_cons_zero, List.set_cons_succ, i64_w, i32_w]
      rfl
    refine pure_ (i := 8) (N := some 28) (v := ?_) (a' := ?_) #[true, true, true, true, true, true, true, true, true, false, false, false] rfl rfl (any_of HT_.out (by kernel_rfl)) (fun _ _ _ h => h) (Or.inl ⟨by rfl, ?_⟩) ?_ ?_
    rotate_left
    · intro w'
      go_simp
      with_reducible rfl
    rotate_left
    · simp only [Act.put, List.setIfInBounds_toArray, List.set_cons_zero, List.set_cons_succ, i64_w, i32_w]
      rfl
    refine pure_ (i := 9) (N := some 29) (v := ?_) (a' := ?_) #[true, true, true, true, true, true, true, true, true, true, false, false] rfl rfl (any_of HT_.out (by kernel_rfl)) (fun _ _ _ h => h) (Or.inl ⟨by rfl, ?_⟩) ?_ ?_
    rotate_left
    · intro w'
      go_simp
      with_reducible rfl
    rotate_left
    · simp only [Act.put, List.setIfInBounds_toArray, List.set_cons_zero, List.set_cons_succ, i64_w, i32_w]
      rfl
    refine pure_ (i := 10) (N := some 30) (v := ?_) (a' := ?_) #[true, true, true, true, true, true, true, true, true, true, true, false] rfl rfl (any_of HT_.out (by kernel_rfl)) (fun _ _ _ h => h) (Or.inl ⟨by rfl, ?_⟩) ?_ ?_
    rotate_left
    · intro w'
      go_simp
      with_reducible rfl
    rotate_left
    · simp only [Act.put, List.setIfInBounds_toArray, List.set_cons_zero, List.set_cons_succ, i64_w, i32_w]
      rfl
    refine last_ (i := 11) (N := none) #[true, true, true, true, true, true, true, true, true, true, true, true] rfl rfl (one_of HT_.out (by kernel_rfl)) (by decide) (fun K hK => ?_)
    refine skip_ (w1 := ?_) (by rfl) rfl ?_ ?_
    rotate_left
    · go_simp
      rfl
    refine hK.out _ _ ?_
    clear hK K
    refine done_ (done_of HT_.out (by kernel_rfl)) ?_
    try go_wp2
    first | go_end0 | ((try simp only [Exit.inBlock, Exit.then]); refine bodyPost_ret (results_none rfl _ _ _) rfl ?_)
    exact ⟨by first | rfl | (simp [errW_none, errW_some] <;> rfl) | (simp [*, errW_none, errW_some] <;> rfl), by (with_reducible repeat (first | apply Kd.R_alloc | apply Kd.R_drewN | apply Kd.R_drew)); exact HQ16.out, by repeat (first | (with_reducible first | exact HB.out | apply below_alloc | apply pw_below_drewN | apply below_drew1 | refine below_set ?_ GB13.out) | exact HB.out), by repeat (first | (with_reducible first | exact HK.out | apply Kept.alloc | apply Kept.drewN | apply Kept.drew | refine Kept.setCell ?_ HMgo13.out _) | exact HK.out)⟩
  rw [if_pos c4] at H
  have c4b0 : (a2 == 0) = true := beq_iff_eq.mpr c4
  have c4b1 : (a2 != 0) = false := bne_eq_false_iff_eq.mpr c4
  clear c4
  by_cases c5 : 0 ≤ a1
  rotate_left
  · rw [if_neg c5] at H
    exact absurd H (by simp)
  rw [if_pos c5] at H
  have c5b0 : decide (0 ≤ a1) = true := decide_eq_true c5
  clear c5
  by_cases c6 : a1 < (l0.length : Int)
  rotate_left
  · rw [if_neg c6] at H
    exact absurd H (by simp)
  rw [if_pos c6] at H
  have c6b0 : decide (a1 < (l0.length : Int)) = true := decide_eq_true c6
  clear c6
  obtain ⟨y128, hy128⟩ : ∃ y_ : List Int, y_ = (l0.set (a1 : Int).toNat (wrap64 ((rd l0 a1) + ((wrap64 (4096 - (rd l0 a1))) / 32)))) := ⟨_, rfl⟩
  replace H : (some y128) = some r := by first | (rw [hy128]; with_reducible exact H) | (have H2_ := (Option.bind_some _ _).symm.trans H; rw [hy128]; with_reducible exact H2_) | (have H2_ := (Option.bind_some _ _).symm.trans H; with_reducible exact H2_) | with_reducible exact H | (rw [hy128]; exact H) | exact H
  have Ny128 := Aside0.mk hy128
  clear hy128
  obtain rfl := Option.some.inj H
  go_enter Try.func142, Try.ntmps142
  try go_wp2
  have n0_ := Aside0.mk (Kd.R_drew HO0.out)
  have n1_ := Aside0.mk (Kept.drew HK.out)
  have n2_ := Aside0.mk (below_drew1 HB.out)
  clear HO0
  clear HK
  clear HB
  have HO0 := n0_
  have HK := n1_
  have HB := n2_
  clear n0_ n1_ n2_
  obtain ⟨Ao9, co9, eo9⟩ := Kd.R_slice HO0.out
  (first | subst eo9 | (injection eo9 with f1_ f2_ f3_; have f4_ := f1_.symm; have f5_ := f3_.symm; clear f1_ f2_ f3_; subst f4_; subst f5_))
  have p126 : 0 ≤ (a1 : Int) := of_decide_eq_true (by first | (with_reducible assumption) | assumption)
  have q126 : a1 < (l0.length : Int) := of_decide_eq_true (by first | (with_reducible assumption) | assumption)
  obtain ⟨ad126, e126, hx126_0⟩ := Kd.at_int (Kd.R_reads' HO0.out).2.2 a1 p126 q126
  cases e126
  replace p126 := eq_true p126
  replace q126 := eq_true q126
  have p127 : 0 ≤ (a1 : Int) := of_decide_eq_true (by first | (with_reducible assumption) | assumption)
  have q127 : a1 < (l0.length : Int) := of_decide_eq_true (by first | (with_reducible assumption) | assumption)
  obtain ⟨ad127, e127, hx127_0⟩ := Kd.at_int (Kd.R_reads' HO0.out).2.2 a1 p127 q127
  obtain rfl : ad126 = ad127 := (by injection e127)
  replace p127 := eq_true p127
  replace q127 := eq_true q127
  have p7 : 0 ≤ (a1 : Int) := of_decide_eq_true (by first | (with_reducible assumption) | assumption)
  have q7 : (a1 : Int) < ((l0.length : Int) : Int) := of_decide_eq_true (by first | (with_reducible assumption) | assumption)
  obtain ⟨go7, co7, eo7, gb7, gl7, cl7, HG7⟩ := Kd.R_form HO0.out (by omega)
  (first | cases eo7 | (injection eo7 with ea_ en_ ec_; (first | subst ea_ | (injection ea_ with ea_; subst ea_)); subst ec_; clear en_))
  have GB7 := Aside0.mk gb7
  have GG7 := Aside0.mk HG7
  clear gb7 gl7 HG7
  have HMgo7 := Aside0.mk (show (P0_ go7 ∨ w.heap.size ≤ go7) from (HO0.out.1 _ rfl))
  (first | simp only [add_plain] at hx126_0 | skip)
  (first | simp only [add_plain] at hx127_0 | skip)
  obtain ⟨hx7_0, hf7_0⟩ := Kd.R_celln 0 HO0.out (a1 : Int) p7 q7
  replace p7 := eq_true p7
  replace q7 := eq_true q7
  have HP10 := Kd.R_putn HO0.out (a1 : Int) (wrap64 ((rd l0 a1) + ((wrap64 (4096 - (rd l0 a1))) / 32)))
  rw [← Ny128.out] at HP10
  have HQ10 := Aside0.mk HP10
  clear HP10
  refine start_ (n := 13) (S := fun w' => w'.cell? ⟨go7, (a1).toNat, none⟩ = some (.int .i64 (rd l0 a1)) ∧ w'.cell? ⟨go7, (a1).toNat, none⟩ = some (.int .i64 (rd l0 a1))) (ds := [12]) #[false, false, false, false, false, false, false, false, false, false, false, false, false] (by kernel_rfl) rfl rfl ⟨hx126_0, hx127_0⟩ (fun hHeld => ?_); refine with_tabW impl_zodds_learn.tab1 impl_zodds_learn.bits1 (fun HT_ HW_ => ?_)
  generalize w.drew = w8 at HO0 HK HB GG7 HQ10 hf7_0 hx126_0 hx127_0 hx7_0 hHeld ⊢
  refine pure_ (i := 0) (N := some 8) (v := ?_) (a' := ?_) #[true, false, false, false, false, false, false, false, false, false, false, false, false] rfl rfl (any_of HT_.out (by kernel_rfl)) (fun _ _ _ h => h) (Or.inl ⟨by rfl, ?_⟩) ?_ ?_
  rotate_left
  · intro w'
    go_simp
    with_reducible rfl
  rotate_left
  · simp only [Act.put, List.setIfInBounds_toArray, List.set_cons_zero, List.set_cons_succ, i64_w, i32_w]
    rfl
  refine pure_ (i := 1) (N := some 9) (v := ?_) (a' := ?_) #[true, true, false, false, false, false, false, false, false, false, false, false, false] rfl rfl (any_of HT_.out (by kernel_rfl)) (fun _ _ _ h => h) (Or.inl ⟨by rfl, ?_⟩) ?_ ?_
  rotate_left
  · intro w'
    go_simp
    with_reducible rfl
  rotate_left
  · simp only [Act.put, List.setIfInBounds_toArray, List.set_cons_zero, List.set_cons_succ, i64_w, i32_w]
    rfl
  refine pure_ (i := 2) (N := some 10) (v := ?_) (a' := ?_) #[true, true, true, false, false, false, false, false, false, false, false, false, false] rfl rfl (any_of HT_.out (by kernel_rfl)) (fun _ _ _ h => h) (Or.inl ⟨by rfl, ?_⟩) ?_ ?_
  rotate_left
  · intro w'
    go_simp
    with_reducible rfl
  rotate_left
  · simp only [Act.put, List.setIfInBounds_toArray, List.set_cons_zero, List.set_cons_succ, i64_w, i32_w]
    rfl
  refine pure_ (i := 4) (N := some 12) (v := ?_) (a' := ?_) #[true, true, true, false, true, false, false, false, false, false, false, false, false] rfl rfl (any_of HT_.out (by kernel_rfl)) (fun _ _ _ h => h) (Or.inl ⟨by rfl, ?_⟩) ?_ ?_
  rotate_left
  · intro w'
    go_simp
    with_reducible rfl
  rotate_left
  · simp only [Act.put, List.setIfInBounds_toArray, List.set_cons_zero, List.set_cons_succ, i64_w, i32_w]
    rfl
  refine pure_ (i := 5) (N := some 13) (v := ?_) (a' := ?_) #[true, true, true, false, true, true, false, false, false, false, false, false, false] rfl rfl (any_of HT_.out (by kernel_rfl)) (fun _ _ _ h => h) (Or.inl ⟨by rfl, ?_⟩) ?_ ?_
  rotate_left
  · intro w'
    go_simp
    with_reducible rfl
  rotate_left
  · simp only [Act.put, List.setIfInBounds_toArray, List.set_cons_zero, List.set_cons_succ, i64_w, i32_w]
    rfl
  refine pure_ (i := 6) (N := some 14) (v := ?_) (a' := ?_) #[true, true, true, false, true, true, true, false, false, false, false, false, false] rfl rfl (any_of HT_.out (by kernel_rfl)) (fun _ _ _ h => h) (Or.inl ⟨by rfl, ?_⟩) ?_ ?_
  rotate_left
  · intro w'
    go_simp
    with_reducible rfl
  rotate_left
  · simp only [Act.put, List.setIfInBounds_toArray, List.set_cons_zero, List.set_cons_succ, i64_w, i32_w]
    rfl
  refine take_ (i := 3) (N := some 11) (v := ?_) (a' := ?_) #[true, true, true, true, true, true, true, false, false, false, false, false, false] rfl rfl (take_ofW HT_.out HW_.out (by kernel_rfl)) (fun _ _ _ h => h) (Or.inl ⟨by rfl, ?_⟩) hHeld ?_ ?_
  rotate_left
  · rintro w' ⟨s0, s1⟩
    go_simp
    with_reducible rfl
  rotate_left
  · simp only [Act.put, List.setIfInBounds_toArray, List.set_cons_zero, List.set_cons_succ, i64_w, i32_w]
    rfl
  refine take_ (i := 7) (N := some 15) (v := ?_) (a' := ?_) #[true, true, true, true, true, true, true, true, false, false, false, false, false] rfl rfl (take_ofW HT_.out HW_.out (by kernel_rfl)) (fun _ _ _ h => h) (Or.inl ⟨by rfl, ?_⟩) hHeld ?_ ?_
  rotate_left
  · rintro w' ⟨s0, s1⟩
    go_simp
    with_reducible rfl
  rotate_left
  · simp only [Act.put, List.setIfInBounds_toArray, List.set_cons_zero, List.set_cons_succ, i64_w, i32_w]
    rfl
  refine pure_ (i := 8) (N := some 16) (v := ?_) (a' := ?_) #[true, true, true, true, true, true, true, true, true, false, false, false, false] rfl rfl (any_of HT_.out (by kernel_rfl)) (fun _ _ _ h => h) (Or.inl ⟨by rfl, ?_⟩) ?_ ?_
  rotate_left
  · intro w'
    go_simp
    with_reducible rfl
  rotate_left
  · simp only [Act.put, List.setIfInBounds_toArray, List.set_cons_zero, List.set_cons_succ, i64_w, i32_w]
    rfl
  refine pure_ (i := 9) (N := some 17) (v := ?_) (a' := ?_) #[true, true, true, true, true, true, true, true, true, true, false, false, false] rfl rfl (any_of HT_.out (by kernel_rfl)) (fun _ _ _ h => h) (Or.inl ⟨by rfl, ?_⟩) ?_ ?_
  rotate_left
  · intro w'
    go_simp
    with_reducible rfl
  rotate_left
  · simp only [Act.put, List.setIfInBounds_toArray, List.set_cons_zero, List.set_cons_succ, i64_w, i32_w]
    rfl
  refine pure_ (i := 10) (N := some 18) (v := ?_) (a' := ?_) #[true, true, true, true, true, true, true, true, true, true, true, false, false] rfl rfl (any_of HT_.out (by kernel_rfl)) (fun _ _ _ h => h) (Or.inl ⟨by rfl, ?_⟩) ?_ ?_
  rotate_left
  · intro w'
    go_simp
    with_reducible rfl
  rotate_left
  · simp only [Act.put, List.setIfInBounds_toArray, List.set_cons_zero, List.set_cons_succ, i64_w, i32_w]
    rfl
  refine pure_ (i := 11) (N := some 19) (v := ?_) (a' := ?_) #[true, true, true, true, true, true, true, true, true, true, true, true, false] rfl rfl (any_of HT_.out (by kernel_rfl)) (fun _ _ _ h => h) (Or.inl ⟨by rfl, ?_⟩) ?_ ?_
  rotate_left
  · intro w'
    go_simp
    with_reducible rfl
  rotate_left
  · simp only [Act.put, List.setIfInBounds_toArray, List.set_cons_zero, List.set_cons_succ, i64_w, i32_w]
    rfl
  refine last_ (i := 12) (N := none) #[true, true, true, true, true, true, true, true, true, true, true, true, true] rfl rfl (one_of HT_.out (by kernel_rfl)) (by decide) (fun K hK => ?_)
  refine skip_ (w1 := ?_) (by rfl) rfl ?_ ?_
  rotate_left
  · go_simp
    rfl
  refine hK.out _ _ ?_
  clear hK K
  refine done_ (done_of HT_.out (by kernel_rfl)) ?_
  try go_wp2
  first | go_end0 | ((try simp only [Exit.inBlock, Exit.then]); refine bodyPost_ret (results_none rfl _ _ _) rfl ?_)
  exact ⟨by first | rfl | (simp [errW_none, errW_some] <;> rfl) | (simp [*, errW_none, errW_some] <;> rfl), by (with_reducible repeat (first | apply Kd.R_alloc | apply Kd.R_drewN | apply Kd.R_drew)); exact HQ10.out, by repeat (first | (with_reducible first | exact HB.out | apply below_alloc | apply pw_below_drewN | apply below_drew1 | refine below_set ?_ GB7.out) | exact HB.out), by repeat (first | (with_reducible first | exact HK.out | apply Kept.alloc | apply Kept.drewN | apply Kept.drew | refine Kept.setCell ?_ HMgo7.out _) | exact HK.out)⟩

end Go.Proofs.Ytggokppfhkebkaa.PFnExactOddsUnpack

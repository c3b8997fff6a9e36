-- written by myprint.py (a program of this session's over the kit's print)
import Derived.Test.YtggokppfhkebkaaPFnExactOddsUnpackx0
import Derived.Test.YtggokppfhkebkaaPFnExactOddsUnpackx1
namespace Go.Proofs.Ytggokppfhkebkaa.PFnExactOddsUnpack
open Go.RowKit Go.Proofs.YtggokppfhkebkaaW.PrintWords Go.Proofs.YtggokppfhkebkaaW.PrintLast Go.Proofs.YtggokppfhkebkaaW.PrintMore
attribute [local go_sem] max2_int min2_int max_two min_two max_three min_three max_four min_four   -- for this text's walks alone
set_option linter.unusedVariables false
set_option linter.unusedSimpArgs false

/-! ### spec_l12In_byte: function 157 -/
theorem spec_l12In_byte.still_ {P : Program} {id : Nat} {Q : Exit → Act → World → Prop} {a : Act} {w : World} {l : List Oper} (hm : P.follows .mixedOrders = true) (hB : Region.lexB .any l.toArray = true)
    (h : ∀ w1, w1 = w.drew → wpStill P l.toArray w1 (fun a' => Q .normal a' w1) l a) : (Code.region id l.toArray true).wp P Q a w := wp_region_still_lit hm hB (h _ rfl)
def spec_l12In_byte.f (k : Nat) (l : List Int) (at_ code err : Int) : Option (Int × Int × Int) := if at_ ≥ (l.length : Int) then (if err = 0 then some (at_, code, 2) else some (at_, code, err)) else (if 0 ≤ at_ then some (wrap64 (at_ + 1), IntKind.u64.wrap ((IntKind.u64.wrap (code * 256)) + (IntKind.u64.wrap (rd l at_))), err) else none)
theorem spec_l12In_byte.mono : ∀ a0 a1 a2 a3 k, LeO (spec_l12In_byte.f k a0 a1 a2 a3) (spec_l12In_byte.f (k + 1) a0 a1 a2 a3) := fun _ _ _ _ _ => LeO.refl _
set_option maxHeartbeats 8000000 in
set_option maxRecDepth 100000 in
theorem spec_l12In_byte.calls (k g : Nat) (A : Option Addr) (c : Nat) (l : List Int) (at_ code rng err : Int) (uo : Value) (r1 r2 r3 : Int) (w wa : World) (hB : Below w.heap.size w wa) (hG : w.heap.size ≤ g) (hd : Kd.C (Kd.int .u8) w A l.length l) (hbb : wa.heap[g]? = some (.cells #[.slice A l.length c, .int .i64 at_, .int .u64 code, .int .u64 rng, uo, .int .i64 err] 136 (0, 0))) (h : spec_l12In_byte.f k l at_ code err = some (r1, r2, r3)) :
    Calls Try.prog 157 #[.pointer (some ⟨g, 0, none⟩)] wa fun e w' => e = .returned (.tuple #[]) ∧ w'.heap[g]? = some (.cells #[.slice A l.length c, .int .i64 r1, .int .u64 r2, .int .u64 rng, uo, .int .i64 r3] 136 (0, 0)) ∧ Below w.heap.size w w' ∧ Kept wa w' (fun k_ => k_ = g) := by
  have hu_ := Try.underlying136
  have HB := Aside0.mk hB
  have GE := Aside0.mk hG
  have HD := Aside0.mk hd
  have BK := Aside0.mk hbb
  have HK := Aside0.mk (Kept.refl wa (fun k_ => k_ = g))
  clear hB hG hd hbb
  unfold spec_l12In_byte.f at h
  by_cases c1 : at_ ≥ (l.length : Int)
  · rw [if_pos c1] at h
    have c1b : decide ((l.length : Int) ≤ at_) = true := decide_eq_true c1
    clear c1
    go_enter Try.func157, Try.ntmps157
    go_upto_region 0 with (fail)
    refine spec_l12In_byte.still_ (by kernel_rfl) (by kernel_rfl) (fun w1 hw_ => ?_)
    have hd_ := below_drew (Below.refl wa.heap.size wa)
    rw [← hw_] at hd_
    clear hw_
    have n_BK := Aside0.mk (blk_below BK.out hd_)
    have n_HB := Aside0.mk (below_step HB.out hd_)
    have n_HK := Aside0.mk (Kept.below HK.out hd_)
    clear BK HB HK
    have BK := n_BK
    have HB := n_HB
    have HK := n_HK
    clear n_BK n_HB n_HK
    clear hd_
    have hz0 : w1.cell? ⟨g, 0, none⟩ = some (.slice A l.length c) := (blk_cell BK.out 0).trans rfl
    have hz1 : w1.cell? ⟨g, 1, none⟩ = some (.int .i64 at_) := (blk_cell BK.out 1).trans rfl
    have hz2 : w1.cell? ⟨g, 2, none⟩ = some (.int .u64 code) := (blk_cell BK.out 2).trans rfl
    have hz3 : w1.cell? ⟨g, 3, none⟩ = some (.int .u64 rng) := (blk_cell BK.out 3).trans rfl
    have hz4 : w1.cell? ⟨g, 4, none⟩ = some (uo) := (blk_cell BK.out 4).trans rfl
    have hz5 : w1.cell? ⟨g, 5, none⟩ = some (.int .i64 err) := (blk_cell BK.out 5).trans rfl
    repeat still_step
    refine wpStill_nil ?_
    by_cases c2 : err = 0
    · rw [if_pos c2] at h
      have c2b := beq_iff_eq.mpr c2
      clear c2
      simp only [Option.some.injEq, Prod.mk.injEq] at h
      obtain ⟨rfl, rfl, rfl⟩ := h
      go_wp2_with (first | ((with_reducible refine gate_store (t := 3) (p := 19) (v := .const (.int .i64 2)) rfl ?_); refine put_event rfl 3 (.tmp 19) (.const (.int .i64 2)) rfl rfl g 5 #[.slice A l.length c, .int .i64 at_, .int .u64 code, .int .u64 rng, uo, .int .i64 err] 136 (.int .i64 2) rfl rfl rfl rfl (by kernel_rfl) BK.out (by simp) ?_; intro w2 h1 hk hbb; have n0_ := Aside0.mk (show w2.heap[g]? = some (.cells #[.slice A l.length c, .int .i64 at_, .int .u64 code, .int .u64 rng, uo, .int .i64 2] 136 (0, 0)) from h1); have n1_ := Aside0.mk (hbb _ _ HB.out GE.out); have n2_ := Aside0.mk (Kept.then_ HK.out hk (fun k_ h_ => .inl h_)); clear BK HB HK h1 hk hbb; have BK := n0_; have HB := n1_; have HK := n2_; clear n0_ n1_ n2_))
      first | go_end0 | ((try simp only [Exit.inBlock, Exit.then]); refine bodyPost_ret (results_none rfl _ _ _) rfl ?_)
      exact ⟨rfl, BK.out, HB.out, HK.out⟩
    rw [if_neg c2] at h
    have c2b := beq_eq_false_iff_ne.mpr c2
    clear c2
    simp only [Option.some.injEq, Prod.mk.injEq] at h
    obtain ⟨rfl, rfl, rfl⟩ := h
    go_wp2
    first | go_end0 | ((try simp only [Exit.inBlock, Exit.then]); refine bodyPost_ret (results_none rfl _ _ _) rfl ?_)
    exact ⟨rfl, BK.out, HB.out, HK.out⟩
  rw [if_neg c1] at h
  have c1b : decide ((l.length : Int) ≤ at_) = false := decide_eq_false c1
  have c1' : at_ < (l.length : Int) := by omega
  clear c1
  go_enter Try.func157, Try.ntmps157
  go_upto_region 0 with (fail)
  refine spec_l12In_byte.still_ (by kernel_rfl) (by kernel_rfl) (fun w1 hw_ => ?_)
  have hd_ := below_drew (Below.refl wa.heap.size wa)
  rw [← hw_] at hd_
  clear hw_
  have n_BK := Aside0.mk (blk_below BK.out hd_)
  have n_HB := Aside0.mk (below_step HB.out hd_)
  have n_HK := Aside0.mk (Kept.below HK.out hd_)
  clear BK HB HK
  have BK := n_BK
  have HB := n_HB
  have HK := n_HK
  clear n_BK n_HB n_HK
  clear hd_
  have hz0 : w1.cell? ⟨g, 0, none⟩ = some (.slice A l.length c) := (blk_cell BK.out 0).trans rfl
  have hz1 : w1.cell? ⟨g, 1, none⟩ = some (.int .i64 at_) := (blk_cell BK.out 1).trans rfl
  have hz2 : w1.cell? ⟨g, 2, none⟩ = some (.int .u64 code) := (blk_cell BK.out 2).trans rfl
  have hz3 : w1.cell? ⟨g, 3, none⟩ = some (.int .u64 rng) := (blk_cell BK.out 3).trans rfl
  have hz4 : w1.cell? ⟨g, 4, none⟩ = some (uo) := (blk_cell BK.out 4).trans rfl
  have hz5 : w1.cell? ⟨g, 5, none⟩ = some (.int .i64 err) := (blk_cell BK.out 5).trans rfl
  repeat still_step
  refine wpStill_nil ?_
  by_cases c2 : 0 ≤ at_
  rotate_left
  · rw [if_neg c2] at h
    exact absurd h (by simp)
  rw [if_pos c2] at h
  simp only [Option.some.injEq, Prod.mk.injEq] at h
  obtain ⟨rfl, rfl, rfl⟩ := h
  go_upto_region 3 with (fail)
  clear hz0 hz1 hz2 hz3 hz4 hz5
  refine still_tail_ 20 (by kernel_rfl) (by kernel_rfl) (fun w3 hw_ => ?_)
  have hd_ := below_drew (Below.refl w1.heap.size w1)
  rw [← hw_] at hd_
  clear hw_
  have n_BK := Aside0.mk (blk_below BK.out hd_)
  have n_HB := Aside0.mk (below_step HB.out hd_)
  have n_HK := Aside0.mk (Kept.below HK.out hd_)
  clear BK HB HK
  have BK := n_BK
  have HB := n_HB
  have HK := n_HK
  clear n_BK n_HB n_HK
  clear hd_
  have hz0 : w3.cell? ⟨g, 0, none⟩ = some (.slice A l.length c) := (blk_cell BK.out 0).trans rfl
  have hz1 : w3.cell? ⟨g, 1, none⟩ = some (.int .i64 at_) := (blk_cell BK.out 1).trans rfl
  have hz2 : w3.cell? ⟨g, 2, none⟩ = some (.int .u64 code) := (blk_cell BK.out 2).trans rfl
  have hz3 : w3.cell? ⟨g, 3, none⟩ = some (.int .u64 rng) := (blk_cell BK.out 3).trans rfl
  have hz4 : w3.cell? ⟨g, 4, none⟩ = some (uo) := (blk_cell BK.out 4).trans rfl
  have hz5 : w3.cell? ⟨g, 5, none⟩ = some (.int .i64 err) := (blk_cell BK.out 5).trans rfl
  obtain ⟨ad, e1, hx⟩ := Kd.at_int (Kd.C_below HD.out HB.out) at_ c2 c1'
  cases e1
  have P0b := decide_eq_true c2
  have P1b := decide_eq_true c1'
  have P0 := eq_true c2
  have P1 := eq_true c1'
  simp only [List.take_succ_cons, List.take_zero, List.drop_succ_cons, List.drop_zero]
  repeat still_step
  refine wpStill_nil ?_
  clear hz0 hz1 hz2 hz3 hz4 hz5
  go_upto_region 4 with (first | ((with_reducible refine gate_store (t := 97) (p := 39) (v := .tmp 37) rfl ?_); refine put_event rfl 97 (.tmp 39) (.tmp 37) rfl rfl g 2 #[.slice (some ad) l.length c, .int .i64 at_, .int .u64 code, .int .u64 rng, uo, .int .i64 err] 136 (.int .u64 (IntKind.u64.wrap ((IntKind.u64.wrap (code * 256)) + (IntKind.u64.wrap (rd l at_))))) rfl rfl rfl rfl (by kernel_rfl) BK.out (by simp) ?_; intro w4 h1 hk hbb; have n0_ := Aside0.mk (show w4.heap[g]? = some (.cells #[.slice (some ad) l.length c, .int .i64 at_, .int .u64 (IntKind.u64.wrap ((IntKind.u64.wrap (code * 256)) + (IntKind.u64.wrap (rd l at_)))), .int .u64 rng, uo, .int .i64 err] 136 (0, 0)) from h1); have n1_ := Aside0.mk (hbb _ _ HB.out GE.out); have n2_ := Aside0.mk (Kept.then_ HK.out hk (fun k_ h_ => .inl h_)); clear BK HB HK h1 hk hbb; have BK := n0_; have HB := n1_; have HK := n2_; clear n0_ n1_ n2_))
  have hz0 : w4.cell? ⟨g, 0, none⟩ = some (.slice (some ad) l.length c) := (blk_cell BK.out 0).trans rfl
  have hz1 : w4.cell? ⟨g, 1, none⟩ = some (.int .i64 at_) := (blk_cell BK.out 1).trans rfl
  have hz2 : w4.cell? ⟨g, 2, none⟩ = some (.int .u64 (IntKind.u64.wrap ((IntKind.u64.wrap (code * 256)) + (IntKind.u64.wrap (rd l at_))))) := (blk_cell BK.out 2).trans rfl
  have hz3 : w4.cell? ⟨g, 3, none⟩ = some (.int .u64 rng) := (blk_cell BK.out 3).trans rfl
  have hz4 : w4.cell? ⟨g, 4, none⟩ = some (uo) := (blk_cell BK.out 4).trans rfl
  have hz5 : w4.cell? ⟨g, 5, none⟩ = some (.int .i64 err) := (blk_cell BK.out 5).trans rfl
  go_wp2_with (first | ((with_reducible refine gate_store (t := 3) (p := 46) (v := .tmp 44) rfl ?_); refine put_event rfl 3 (.tmp 46) (.tmp 44) rfl rfl g 1 #[.slice (some ad) l.length c, .int .i64 at_, .int .u64 (IntKind.u64.wrap ((IntKind.u64.wrap (code * 256)) + (IntKind.u64.wrap (rd l at_)))), .int .u64 rng, uo, .int .i64 err] 136 (.int .i64 (wrap64 (at_ + 1))) rfl rfl rfl rfl (by kernel_rfl) BK.out (by simp) ?_; intro w5 h1 hk hbb; have n0_ := Aside0.mk (show w5.heap[g]? = some (.cells #[.slice (some ad) l.length c, .int .i64 (wrap64 (at_ + 1)), .int .u64 (IntKind.u64.wrap ((IntKind.u64.wrap (code * 256)) + (IntKind.u64.wrap (rd l at_)))), .int .u64 rng, uo, .int .i64 err] 136 (0, 0)) from h1); have n1_ := Aside0.mk (hbb _ _ HB.out GE.out); have n2_ := Aside0.mk (Kept.then_ HK.out hk (fun k_ h_ => .inl h_)); clear BK HB HK h1 hk hbb; have BK := n0_; have HB := n1_; have HK := n2_; clear n0_ n1_ n2_))
  first | go_end0 | ((try simp only [Exit.inBlock, Exit.then]); refine bodyPost_ret (results_none rfl _ _ _) rfl ?_)
  exact ⟨rfl, BK.out, HB.out, HK.out⟩

/-! ### spec_l12Open: function 122 -/
theorem spec_l12Open.still_ {P : Program} {id : Nat} {Q : Exit → Act → World → Prop} {a : Act} {w : World} {l : List Oper} (hm : P.follows .mixedOrders = true) (hB : Region.lexB .any l.toArray = true)
    (h : ∀ w1, w1 = w.drew → wpStill P l.toArray w1 (fun a' => Q .normal a' w1) l a) : (Code.region id l.toArray true).wp P Q a w := wp_region_still_lit hm hB (h _ rfl)
def spec_l12Open.l0 : Nat → Int → List Int → Int → Int → Int → Option (Int × Int × Int)
  | 0, _, _, _, _, _ => none
  | k + 1, i, l, at_, code, err => if i < 4 then ((spec_l12In_byte.f k l at_ code err).bind fun t => (spec_l12Open.l0 k (wrap64 (i + 1)) l t.1 t.2.1 t.2.2)) else (if err = 0 then (if code ≥ 4294967295 then (some (at_, code, 4)) else (some (at_, code, err))) else (some (at_, code, err)))
def spec_l12Open.f (k : Nat) (places : Int) (l : List Int) : Option (Int × Int × Int × List Int) := (spec_l12Odds.f k places).bind fun od => (if 0 < od.length then ((spec_l12Open.l0 k 0 l 0 0 0).bind fun t => (some (t.1, t.2.1, t.2.2, od))) else (none))
theorem spec_l12Open.mono_l : ∀ k, (∀ y0 y1 y2 y3 y4, LeO (spec_l12Open.l0 k y0 y1 y2 y3 y4) (spec_l12Open.l0 (k + 1) y0 y1 y2 y3 y4))
  | 0 => fun _ _ _ _ _ r h => by simp [spec_l12Open.l0] at h
  | k + 1 => by
    have ih := spec_l12Open.mono_l k
    have ih0 := ih
    · intro y0 y1 y2 y3 y4
      unfold spec_l12Open.l0
      repeat' first
      | (with_reducible exact ih0 _ _ _ _ _)
      | (with_reducible exact spec_l12In_byte.mono _ _ _ _ _)
      | (with_reducible exact spec_l12Odds.mono _ _)
      | (with_reducible exact LeO.refl _)
      | (with_reducible exact LeO.none _)
      | (with_reducible refine LeO.ite ?_ ?_)
      | (with_reducible refine LeO.bind ?_ (fun _ => ?_))
      | exact ih0 _ _ _ _ _
      | exact spec_l12In_byte.mono _ _ _ _ _
      | exact spec_l12Odds.mono _ _
      | exact LeO.none _
      | refine LeO.ite ?_ ?_
      | refine LeO.bind ?_ (fun _ => ?_)
theorem spec_l12Open.mono : ∀ a0 a1 k, LeO (spec_l12Open.f k a0 a1) (spec_l12Open.f (k + 1) a0 a1) := by
  intro a0 a1 k
  have ih := spec_l12Open.mono_l k
  have ih0 := ih
  unfold spec_l12Open.f
  repeat' first
      | (with_reducible exact ih0 _ _ _ _ _)
      | (with_reducible exact spec_l12In_byte.mono _ _ _ _ _)
      | (with_reducible exact spec_l12Odds.mono _ _)
      | (with_reducible exact LeO.refl _)
      | (with_reducible exact LeO.none _)
      | (with_reducible refine LeO.ite ?_ ?_)
      | (with_reducible refine LeO.bind ?_ (fun _ => ?_))
      | exact ih0 _ _ _ _ _
      | exact spec_l12In_byte.mono _ _ _ _ _
      | exact spec_l12Odds.mono _ _
      | exact LeO.none _
      | refine LeO.ite ?_ ?_
      | refine LeO.bind ?_ (fun _ => ?_)
set_option maxHeartbeats 8000000 in
set_option maxRecDepth 100000 in
theorem spec_l12Open.calls (k : Nat) (places : Int) (A : Option Addr) (c : Nat) (l : List Int) (r1 r2 r3 : Int) (od : List Int) (w : World) (hd : Kd.C (Kd.int .u8) w A l.length l) (h : spec_l12Open.f k places l = some (r1, r2, r3, od)) :
    Calls Try.prog 122 #[.int .i64 places, .slice A l.length c] w fun e w' => ∃ (g go n co : Nat), e = .returned (.pointer (some ⟨g, 0, none⟩)) ∧ w.heap.size ≤ g ∧ w'.heap[g]? = some (.cells #[.slice A l.length c, .int .i64 r1, .int .u64 r2, .int .u64 4294967295, (.slice (some ⟨go, 0, none⟩) n co), .int .i64 r3] 136 (0, 0)) ∧ Kd.R (Kd.int .i64) 3 w' w.heap.size (fun k_ => k_ = go) (.slice (some ⟨go, 0, none⟩) n co) od ∧ Below w.heap.size w w' := by
  have hu_ := Try.underlying136
  have HD := Aside0.mk hd
  clear hd
  unfold spec_l12Open.f at h
  obtain ⟨od0, A20, H⟩ := Option.bind_eq_some_iff.mp h
  clear h
  have A2 := Aside0.mk A20
  clear A20
  by_cases c0 : 0 < od0.length
  rotate_left
  · rw [if_neg c0] at H
    exact absurd H (by simp)
  rw [if_pos c0] at H
  have C0 := Aside0.mk c0
  clear c0
  replace H := Option.bind_eq_some_iff.mp H
  obtain ⟨⟨t1, t2, t3⟩, HL0, H⟩ := H
  have HL := Aside0.mk HL0
  clear HL0
  simp only [Option.some.injEq, Prod.mk.injEq] at H
  obtain ⟨rfl, rfl, rfl, rfl⟩ := H
  go_enter Try.func122, Try.ntmps122
  go_wp2_with (first | ((with_reducible refine gate_callee (f := 136) rfl ?_); refine goesL_ (some 9) rfl rfl Try.func136 (by kernel_rfl) rfl #[.int .i64 places] rfl (by (try simp only [List.map_toArray, List.map_cons, List.map_nil]); first | done | rfl) ?_; (with_reducible refine (spec_l12Odds.calls k places od0 _ A2.out).mono ?_); rintro e wc ⟨v, rfl, ho, hb⟩; refine ⟨_, rfl, ?_⟩; have HO := Aside0.mk ho; have HB := Aside0.mk hb; clear ho hb; obtain ⟨Ao, co, eo⟩ := Kd.R_slice HO.out; subst eo; obtain ⟨go, co, eo, _, _, _⟩ := Kd.R_form HO.out C0.out; injection eo with ea el ec; subst ea; subst ec; clear el; have n0_ := Aside0.mk (Kd.R_mono (Kd.R_tight rfl HO.out) (fun k_ h_ => (Option.some.inj h_))); clear HO; have HO := n0_; clear n0_) | ((with_reducible refine gate_dst (N := 11) rfl ?_); refine box_event ?hg (N := 11) ?hd (cs := #[.slice A l.length c, .int .i64 0, .int .u64 0, .int .u64 4294967295, (.slice (some ⟨go, 0, none⟩) od0.length co), .int .i64 0]) (t := 136) ?hr ?_; (case hd => rfl); (case hg => rfl); (case hr => first | (go_simp; done) | (go_simp; rfl)); intro g hg wb hbox hb; have n0_ := Aside0.mk (Kd.R_below HO.out hb); have GE := Aside0.mk (show w.heap.size ≤ g from by rw [hg]; exact below_size HB.out); have n1_ := Aside0.mk (below_step HB.out hb); clear HO HB; have HO := n0_; have HB := n1_; have BK := Aside0.mk hbox; clear n0_ n1_ hg hb hbox))
  go_loopg [6] k (fun kq v6 w' => ∃ (i at_ code err : Int), v6 = .int .i64 i ∧ Aside0 (spec_l12Open.l0 kq i l at_ code err = some (t1, t2, t3)) ∧ Aside0 (kq ≤ k) ∧ Aside0 (Kd.R (Kd.int .i64) 3 w' w.heap.size (fun k_ => k_ = go) (.slice (some ⟨go, 0, none⟩) od0.length co) od0) ∧ Aside0 (w'.heap[g]? = some (.cells #[.slice A l.length c, .int .i64 at_, .int .u64 code, .int .u64 4294967295, (.slice (some ⟨go, 0, none⟩) od0.length co), .int .i64 err] 136 (0, 0))) ∧ Aside0 (Below w.heap.size w w'))
  case atStart => exact ⟨0, 0, 0, 0, rfl, HL, ⟨Nat.le_refl _⟩, HO, BK, HB⟩
  case round =>
    clear HL HO BK HB
    obtain ⟨i, at_, code, err, rfl, HA, HK1, HO, BK, HB⟩ := hrel
    cases gk with
    | zero => exact absurd HA.out (by simp [spec_l12Open.l0])
    | succ k1 =>
      have H := HA.out
      clear HA
      simp only [spec_l12Open.l0] at H
      by_cases d1 : i < 4
      rotate_left
      · rw [if_neg d1] at H
        have d1b := decide_eq_false d1
        clear d1
        have HK := Aside0.mk (Kept.refl wr (fun k_ => k_ = g))
        by_cases d2 : err = 0
        · rw [if_pos d2] at H
          have d2b := beq_iff_eq.mpr d2
          clear d2
          by_cases d3 : code ≥ 4294967295
          · rw [if_pos d3] at H
            have d3b : decide (4294967295 ≤ code) = true := decide_eq_true d3
            clear d3
            simp only [Option.some.injEq, Prod.mk.injEq] at H
            obtain ⟨rfl, rfl, rfl⟩ := H
            go_upto_region 6 with (fail)
            refine spec_l12Open.still_ (by kernel_rfl) (by kernel_rfl) (fun w13 hw_ => ?_)
            have hd_ := below_drew (Below.refl wr.heap.size wr)
            rw [← hw_] at hd_
            clear hw_
            have n_BK := Aside0.mk (blk_below BK.out hd_)
            have n_HB := Aside0.mk (below_step HB.out hd_)
            have n_HK := Aside0.mk (Kept.below HK.out hd_)
            have n_HO := Aside0.mk (Kd.R_below HO.out hd_)
            clear BK HB HK HO
            have BK := n_BK
            have HB := n_HB
            have HK := n_HK
            have HO := n_HO
            clear n_BK n_HB n_HK n_HO
            clear hd_
            have hz0 : w13.cell? ⟨g, 0, none⟩ = some (.slice A l.length c) := (blk_cell BK.out 0).trans rfl
            have hz1 : w13.cell? ⟨g, 1, none⟩ = some (.int .i64 at_) := (blk_cell BK.out 1).trans rfl
            have hz2 : w13.cell? ⟨g, 2, none⟩ = some (.int .u64 code) := (blk_cell BK.out 2).trans rfl
            have hz3 : w13.cell? ⟨g, 3, none⟩ = some (.int .u64 4294967295) := (blk_cell BK.out 3).trans rfl
            have hz4 : w13.cell? ⟨g, 4, none⟩ = some ((.slice (some ⟨go, 0, none⟩) od0.length co)) := (blk_cell BK.out 4).trans rfl
            have hz5 : w13.cell? ⟨g, 5, none⟩ = some (.int .i64 err) := (blk_cell BK.out 5).trans rfl
            repeat still_step
            refine wpStill_nil ?_
            go_wp2_with (first | ((with_reducible refine gate_store (t := 3) (p := 36) (v := .const (.int .i64 4)) rfl ?_); refine put_event rfl 3 (.tmp 36) (.const (.int .i64 4)) rfl rfl g 5 #[.slice A l.length c, .int .i64 at_, .int .u64 code, .int .u64 4294967295, (.slice (some ⟨go, 0, none⟩) od0.length co), .int .i64 err] 136 (.int .i64 4) rfl rfl rfl rfl (by kernel_rfl) BK.out (by simp) ?_; intro w14 h1 hk hbb; have n0_ := Aside0.mk (show w14.heap[g]? = some (.cells #[.slice A l.length c, .int .i64 at_, .int .u64 code, .int .u64 4294967295, (.slice (some ⟨go, 0, none⟩) od0.length co), .int .i64 4] 136 (0, 0)) from h1); have n1_ := Aside0.mk (hbb _ _ HB.out GE.out); have n2_ := Aside0.mk (Kept.then_ HK.out hk (fun k_ h_ => .inl h_)); have n3_ := Aside0.mk (Kd.R_mono (Kd.R_kept (Kd.R_types HO.out BK.out (by decide)) hk (fun k_ ho_ hs_ => ho_.2 hs_)) (fun _ h_ => h_.1)); clear HO; have HO := n3_; clear n3_; clear BK HB HK h1 hk hbb; have BK := n0_; have HB := n1_; have HK := n2_; clear n0_ n1_ n2_))
            go_ret
            exact ⟨g, go, _, _, rfl, GE.out, BK.out, HO.out, HB.out⟩
          rw [if_neg d3] at H
          have d3b : decide (4294967295 ≤ code) = false := decide_eq_false d3
          clear d3
          simp only [Option.some.injEq, Prod.mk.injEq] at H
          obtain ⟨rfl, rfl, rfl⟩ := H
          go_upto_region 6 with (fail)
          refine spec_l12Open.still_ (by kernel_rfl) (by kernel_rfl) (fun w13 hw_ => ?_)
          have hd_ := below_drew (Below.refl wr.heap.size wr)
          rw [← hw_] at hd_
          clear hw_
          have n_BK := Aside0.mk (blk_below BK.out hd_)
          have n_HB := Aside0.mk (below_step HB.out hd_)
          have n_HK := Aside0.mk (Kept.below HK.out hd_)
          have n_HO := Aside0.mk (Kd.R_below HO.out hd_)
          clear BK HB HK HO
          have BK := n_BK
          have HB := n_HB
          have HK := n_HK
          have HO := n_HO
          clear n_BK n_HB n_HK n_HO
          clear hd_
          have hz0 : w13.cell? ⟨g, 0, none⟩ = some (.slice A l.length c) := (blk_cell BK.out 0).trans rfl
          have hz1 : w13.cell? ⟨g, 1, none⟩ = some (.int .i64 at_) := (blk_cell BK.out 1).trans rfl
          have hz2 : w13.cell? ⟨g, 2, none⟩ = some (.int .u64 code) := (blk_cell BK.out 2).trans rfl
          have hz3 : w13.cell? ⟨g, 3, none⟩ = some (.int .u64 4294967295) := (blk_cell BK.out 3).trans rfl
          have hz4 : w13.cell? ⟨g, 4, none⟩ = some ((.slice (some ⟨go, 0, none⟩) od0.length co)) := (blk_cell BK.out 4).trans rfl
          have hz5 : w13.cell? ⟨g, 5, none⟩ = some (.int .i64 err) := (blk_cell BK.out 5).trans rfl
          repeat still_step
          refine wpStill_nil ?_
          go_wp2
          go_ret
          exact ⟨g, go, _, _, rfl, GE.out, BK.out, HO.out, HB.out⟩
        rw [if_neg d2] at H
        have d2b := beq_eq_false_iff_ne.mpr d2
        clear d2
        simp only [Option.some.injEq, Prod.mk.injEq] at H
        obtain ⟨rfl, rfl, rfl⟩ := H
        obtain ⟨eb, heb⟩ : ∃ eb : Bool, (err == 0) = eb := ⟨_, rfl⟩
        have HEB := Aside0.mk (heb.symm.trans d2b)
        have HEN := Aside0.mk (show ¬ eb = true from by rw [HEB.out]; simp)
        clear d2b
        go_upto_region 6 with (fail)
        refine spec_l12Open.still_ (by kernel_rfl) (by kernel_rfl) (fun w13 hw_ => ?_)
        have hd_ := below_drew (Below.refl wr.heap.size wr)
        rw [← hw_] at hd_
        clear hw_
        have n_BK := Aside0.mk (blk_below BK.out hd_)
        have n_HB := Aside0.mk (below_step HB.out hd_)
        have n_HK := Aside0.mk (Kept.below HK.out hd_)
        have n_HO := Aside0.mk (Kd.R_below HO.out hd_)
        clear BK HB HK HO
        have BK := n_BK
        have HB := n_HB
        have HK := n_HK
        have HO := n_HO
        clear n_BK n_HB n_HK n_HO
        clear hd_
        have hz0 : w13.cell? ⟨g, 0, none⟩ = some (.slice A l.length c) := (blk_cell BK.out 0).trans rfl
        have hz1 : w13.cell? ⟨g, 1, none⟩ = some (.int .i64 at_) := (blk_cell BK.out 1).trans rfl
        have hz2 : w13.cell? ⟨g, 2, none⟩ = some (.int .u64 code) := (blk_cell BK.out 2).trans rfl
        have hz3 : w13.cell? ⟨g, 3, none⟩ = some (.int .u64 4294967295) := (blk_cell BK.out 3).trans rfl
        have hz4 : w13.cell? ⟨g, 4, none⟩ = some ((.slice (some ⟨go, 0, none⟩) od0.length co)) := (blk_cell BK.out 4).trans rfl
        have hz5 : w13.cell? ⟨g, 5, none⟩ = some (.int .i64 err) := (blk_cell BK.out 5).trans rfl
        repeat (first | (refine wpStill_step (fun K hK => ?_); go_simp; rw [if_neg HEN.out]; refine hK _ ?_; clear hK K) | still_step)
        refine wpStill_nil ?_
        obtain rfl := HEB.out
        clear heb HEB HEN
        go_wp2
        go_ret
        first | exact ⟨g, go, _, _, rfl, GE.out, BK.out, HO.out, HB.out⟩ | exact ⟨g, rfl, GE.out, BK.out, go, _, _, HO.out, HB.out⟩ | exact ⟨g, rfl, GE.out, BK.out, ⟨go, _, _, HO.out⟩, HB.out⟩ | exact ⟨g, rfl, GE.out, BK.out, ⟨go, ⟨_, _, HO.out⟩⟩, HB.out⟩
      rw [if_pos d1] at H
      have d1b := decide_eq_true d1
      clear d1
      replace H := Option.bind_eq_some_iff.mp H
      obtain ⟨⟨at2, code2, err2⟩, A90, H⟩ := H
      replace H : spec_l12Open.l0 k1 (wrap64 (i + 1)) l at2 code2 err2 = some (t1, t2, t3) := H
      have A9 := Aside0.mk A90
      have H' := Aside0.mk H
      clear A90 H
      go_wp2_with (first | ((with_reducible refine gate_callee (f := 157) rfl ?_); refine goesL_ (some 17) rfl rfl Try.func157 (by kernel_rfl) rfl #[.pointer (some ⟨g, 0, none⟩)] rfl (by (try simp only [List.map_toArray, List.map_cons, List.map_nil]); first | done | rfl) ?_; (with_reducible refine (spec_l12In_byte.calls k1 g A c l at_ code 4294967295 err (.slice (some ⟨go, 0, none⟩) od0.length co) at2 code2 err2 w _ HB.out GE.out HD.out BK.out A9.out).mono ?_); rintro e w12 ⟨rfl, hbx, hb, hk⟩; refine ⟨_, rfl, ?_⟩; have n0_ := Aside0.mk (Kd.R_mono (Kd.R_kept (Kd.R_types HO.out BK.out (by decide)) hk (fun k_ ho_ hs_ => ho_.2 hs_)) (fun _ h_ => h_.1)); clear HO BK HB hk; have HO := n0_; have BK := Aside0.mk hbx; have HB := Aside0.mk hb; clear n0_ hbx hb))
      go_roundg k1
      case measure => have := HK1.out; omega
      case rel => exact ⟨_, at2, code2, err2, (by first | rfl | (simp; done) | (simp [*]; done)), H', ⟨by have := HK1.out; omega⟩, HO, BK, HB⟩

/-! ### spec_l12Learn: function 138 -/
def spec_l12Learn.f (a0 : Int) (a1 : Int) : Option (Int) := if a1 = 0 then (some (wrap64 (a0 + ((wrap64 (4096 - a0)) / 32)))) else (some (wrap64 (a0 - (a0 / 32))))
set_option maxHeartbeats 8000000 in
set_option maxRecDepth 100000 in
theorem spec_l12Learn.calls (a0 : Int) (a1 : Int) (r : Int) (w : World) (h : spec_l12Learn.f a0 a1 = some r) :
    Calls Try.prog 138 #[.int .i64 a0, .int .i64 a1] w fun e w' => e = .returned (.int .i64 r) ∧ Drawn0 w w' := by
  have H : (if a1 = 0 then (some (wrap64 (a0 + ((wrap64 (4096 - a0)) / 32)))) else (some (wrap64 (a0 - (a0 / 32))))) = some r := h
  clear h
  by_cases c3 : a1 = 0
  · rw [if_pos c3] at H
    have c3b0 : (a1 == 0) = true := beq_iff_eq.mpr c3
    have c3b1 : (a1 != 0) = false := bne_eq_false_iff_eq.mpr c3
    clear c3
    obtain rfl := Option.some.inj H
    go_enter Try.func138, Try.ntmps138
    go_wp2
    go_ret
    exact ⟨by first | rfl | (simp; done) | (simp [*]; done), by repeat (first | exact Drawn0.refl _ | apply Drawn0.step)⟩
  · rw [if_neg c3] at H
    have c3b0 : (a1 == 0) = false := beq_eq_false_iff_ne.mpr c3
    have c3b1 : (a1 != 0) = true := bne_iff_ne.mpr c3
    obtain rfl := Option.some.inj H
    go_enter Try.func138, Try.ntmps138
    go_wp2
    go_ret
    exact ⟨by first | rfl | (simp; done) | (simp [*]; done), by repeat (first | exact Drawn0.refl _ | apply Drawn0.step)⟩

/-! ### spec_l12In_bit: function 123 -/
theorem spec_l12In_bit.still_ {P : Program} {id : Nat} {Q : Exit → Act → World → Prop} {a : Act} {w : World} {l : List Oper} (hm : P.follows .mixedOrders = true) (hB : Region.lexB .any l.toArray = true)
    (h : ∀ w1, w1 = w.drew → wpStill P l.toArray w1 (fun a' => Q .normal a' w1) l a) : (Code.region id l.toArray true).wp P Q a w := wp_region_still_lit hm hB (h _ rfl)
def spec_l12In_bit.l0 : Nat → List Int → Int → Int → Int → Int → Option (Int × Int × Int × Int)
  | 0, _, _, _, _, _ => none
  | k + 1, l, at_, code, rng, err => if rng < 16777216 then (if err = 0 then ((spec_l12In_byte.f k l at_ code err).bind fun t => (spec_l12In_bit.l0 k l t.1 t.2.1 (IntKind.u64.wrap (rng * 256)) t.2.2)) else (some (at_, code, rng, err))) else (some (at_, code, rng, err))
def spec_l12In_bit.learn (od : List Int) (p b : Int) : Option (List Int) := (spec_l12Learn.f (rd od p) b).bind fun q => (some (od.set (p : Int).toNat q))
def spec_l12In_bit.f (k : Nat) (l : List Int) (at_ code rng : Int) (od : List Int) (err p : Int) : Option (Int × Int × Int × Int × List Int × Int) := if err = 0 then (if 0 ≤ p then (if p < (od.length : Int) then (if code < (IntKind.u64.wrap ((rng / 4096) * (IntKind.u64.wrap (rd od p)))) then ((spec_l12In_bit.learn od p 0).bind fun od2 => ((spec_l12In_bit.l0 k l at_ code (IntKind.u64.wrap ((rng / 4096) * (IntKind.u64.wrap (rd od p)))) err).bind fun t => (some (0, t.1, t.2.1, t.2.2.1, od2, t.2.2.2)))) else ((spec_l12In_bit.learn od p 1).bind fun od2 => ((spec_l12In_bit.l0 k l at_ (IntKind.u64.wrap (code - (IntKind.u64.wrap ((rng / 4096) * (IntKind.u64.wrap (rd od p)))))) (IntKind.u64.wrap (rng - (IntKind.u64.wrap ((rng / 4096) * (IntKind.u64.wrap (rd od p)))))) err).bind fun t => (some (1, t.1, t.2.1, t.2.2.1, od2, t.2.2.2))))) else (none)) else (none)) else (some (0, at_, code, rng, od, err))
theorem spec_l12In_bit.mono_l : ∀ k, (∀ y0 y1 y2 y3 y4, LeO (spec_l12In_bit.l0 k y0 y1 y2 y3 y4) (spec_l12In_bit.l0 (k + 1) y0 y1 y2 y3 y4))
  | 0 => fun _ _ _ _ _ r h => by simp [spec_l12In_bit.l0] at h
  | k + 1 => by
    have ih := spec_l12In_bit.mono_l k
    have ih0 := ih
    · intro y0 y1 y2 y3 y4
      unfold spec_l12In_bit.l0
      repeat' first
      | (with_reducible exact ih0 _ _ _ _ _)
      | (with_reducible exact spec_l12In_byte.mono _ _ _ _ _)
      | (with_reducible exact LeO.refl _)
      | (with_reducible exact LeO.none _)
      | (with_reducible refine LeO.ite ?_ ?_)
      | (with_reducible refine LeO.bind ?_ (fun _ => ?_))
      | exact ih0 _ _ _ _ _
      | exact spec_l12In_byte.mono _ _ _ _ _
      | exact LeO.none _
      | refine LeO.ite ?_ ?_
      | refine LeO.bind ?_ (fun _ => ?_)
theorem spec_l12In_bit.mono : ∀ a0 a1 a2 a3 a4 a5 a6 k, LeO (spec_l12In_bit.f k a0 a1 a2 a3 a4 a5 a6) (spec_l12In_bit.f (k + 1) a0 a1 a2 a3 a4 a5 a6) := by
  intro a0 a1 a2 a3 a4 a5 a6 k
  have ih := spec_l12In_bit.mono_l k
  have ih0 := ih
  unfold spec_l12In_bit.f
  repeat' first
      | (with_reducible exact ih0 _ _ _ _ _)
      | (with_reducible exact spec_l12In_byte.mono _ _ _ _ _)
      | (with_reducible exact LeO.refl _)
      | (with_reducible exact LeO.none _)
      | (with_reducible refine LeO.ite ?_ ?_)
      | (with_reducible refine LeO.bind ?_ (fun _ => ?_))
      | exact ih0 _ _ _ _ _
      | exact spec_l12In_byte.mono _ _ _ _ _
      | exact LeO.none _
      | refine LeO.ite ?_ ?_
      | refine LeO.bind ?_ (fun _ => ?_)
set_option maxHeartbeats 8000000 in
set_option maxRecDepth 100000 in
theorem spec_l12In_bit.learnt (a0 : Int) (a1 : Int) (r : Int) (w : World) (h : spec_l12Learn.f a0 a1 = some r) : Calls Try.prog 138 #[.int .i64 a0, .int .i64 a1] w fun e w' => e = .returned (.int .i64 r) ∧ w' = w := by
  unfold spec_l12Learn.f at h
  by_cases c : a1 = 0
  · rw [if_pos c] at h
    have cb := beq_iff_eq.mpr c
    clear c
    obtain rfl := Option.some.inj h
    clear h
    go_enter Try.func138, Try.ntmps138
    go_wp2
    go_ret
    exact ⟨rfl, rfl⟩
  · rw [if_neg c] at h
    have cb := beq_eq_false_iff_ne.mpr c
    clear c
    obtain rfl := Option.some.inj h
    clear h
    go_enter Try.func138, Try.ntmps138
    go_wp2
    go_ret
    exact ⟨rfl, rfl⟩
set_option maxHeartbeats 8000000 in
set_option maxRecDepth 100000 in
theorem spec_l12In_bit.calls (k g go n co : Nat) (A : Option Addr) (c : Nat) (l : List Int) (at_ code rng err : Int) (od : List Int) (p b r1 r2 r3 : Int) (od' : List Int) (r5 : Int) (w wa : World) (hB : Below w.heap.size w wa) (hG : w.heap.size ≤ g) (hd : Kd.C (Kd.int .u8) w A l.length l) (ho : Kd.R (Kd.int .i64) 3 wa w.heap.size (fun k_ => k_ = go) (.slice (some ⟨go, 0, none⟩) n co) od) (hbb : wa.heap[g]? = some (.cells #[.slice A l.length c, .int .i64 at_, .int .u64 code, .int .u64 rng, (.slice (some ⟨go, 0, none⟩) n co), .int .i64 err] 136 (0, 0))) (h : spec_l12In_bit.f k l at_ code rng od err p = some (b, r1, r2, r3, od', r5)) :
    Calls Try.prog 123 #[.pointer (some ⟨g, 0, none⟩), .int .i64 p] wa fun e w' => e = .returned (.int .i64 b) ∧ w'.heap[g]? = some (.cells #[.slice A l.length c, .int .i64 r1, .int .u64 r2, .int .u64 r3, (.slice (some ⟨go, 0, none⟩) n co), .int .i64 r5] 136 (0, 0)) ∧ Kd.R (Kd.int .i64) 3 w' w.heap.size (fun k_ => k_ = go) (.slice (some ⟨go, 0, none⟩) n co) od' ∧ Below w.heap.size w w' ∧ Kept wa w' (fun k_ => k_ = g ∨ k_ = go) := by
  have hu_ := Try.underlying136
  have HB := Aside0.mk hB
  have GE := Aside0.mk hG
  have HD := Aside0.mk hd
  have HO := Aside0.mk ho
  have BK := Aside0.mk hbb
  have HK := Aside0.mk (Kept.refl wa (fun k_ => k_ = g ∨ k_ = go))
  clear hB hG hd hbb ho
  have H := h
  clear h
  unfold spec_l12In_bit.f at H
  have hz0 : wa.cell? ⟨g, 0, none⟩ = some (.slice A l.length c) := (blk_cell BK.out 0).trans rfl
  have hz1 : wa.cell? ⟨g, 1, none⟩ = some (.int .i64 at_) := (blk_cell BK.out 1).trans rfl
  have hz2 : wa.cell? ⟨g, 2, none⟩ = some (.int .u64 code) := (blk_cell BK.out 2).trans rfl
  have hz3 : wa.cell? ⟨g, 3, none⟩ = some (.int .u64 rng) := (blk_cell BK.out 3).trans rfl
  have hz4 : wa.cell? ⟨g, 4, none⟩ = some ((.slice (some ⟨go, 0, none⟩) n co)) := (blk_cell BK.out 4).trans rfl
  have hz5 : wa.cell? ⟨g, 5, none⟩ = some (.int .i64 err) := (blk_cell BK.out 5).trans rfl
  by_cases c0 : err = 0
  rotate_left
  · rw [if_neg c0] at H
    have c0b := bne_iff_ne.mpr c0
    have c0c := beq_eq_false_iff_ne.mpr c0
    clear c0
    simp only [Option.some.injEq, Prod.mk.injEq] at H
    obtain ⟨rfl, rfl, rfl, rfl, rfl, rfl⟩ := H
    go_enter Try.func123, Try.ntmps123
    go_wp2
    go_ret
    exact ⟨rfl, BK.out, HO.out, HB.out, HK.out⟩
  rw [if_pos c0] at H
  have c0b := bne_eq_false_iff_eq.mpr c0
  have c0c := beq_iff_eq.mpr c0
  clear c0
  by_cases c3 : 0 ≤ p
  rotate_left
  · rw [if_neg c3] at H
    exact absurd H (by simp)
  rw [if_pos c3] at H
  by_cases c4 : p < (od.length : Int)
  rotate_left
  · rw [if_neg c4] at H
    exact absurd H (by simp)
  rw [if_pos c4] at H
  have hlen : n = od.length := (Kd.R_reads' HO.out).1
  have c4' : p < (n : Int) := by omega
  clear hlen c4
  have HC := Aside0.mk H
  clear H
  go_enter Try.func123, Try.ntmps123
  go_upto_region 3 with (fail)
  clear hz0 hz1 hz2 hz3 hz4 hz5 c0b c0c
  refine spec_l12In_bit.still_ (by kernel_rfl) (by kernel_rfl) (fun w3 hw_ => ?_)
  have hd_ := below_drew (Below.refl wa.heap.size wa)
  rw [← hw_] at hd_
  clear hw_
  have n_BK := Aside0.mk (blk_below BK.out hd_)
  have n_HB := Aside0.mk (below_step HB.out hd_)
  have n_HK := Aside0.mk (Kept.below HK.out hd_)
  have n_HO := Aside0.mk (Kd.R_below HO.out hd_)
  clear BK HB HK HO
  have BK := n_BK
  have HB := n_HB
  have HK := n_HK
  have HO := n_HO
  clear n_BK n_HB n_HK n_HO
  clear hd_
  have hz0 : w3.cell? ⟨g, 0, none⟩ = some (.slice A l.length c) := (blk_cell BK.out 0).trans rfl
  have hz1 : w3.cell? ⟨g, 1, none⟩ = some (.int .i64 at_) := (blk_cell BK.out 1).trans rfl
  have hz2 : w3.cell? ⟨g, 2, none⟩ = some (.int .u64 code) := (blk_cell BK.out 2).trans rfl
  have hz3 : w3.cell? ⟨g, 3, none⟩ = some (.int .u64 rng) := (blk_cell BK.out 3).trans rfl
  have hz4 : w3.cell? ⟨g, 4, none⟩ = some ((.slice (some ⟨go, 0, none⟩) n co)) := (blk_cell BK.out 4).trans rfl
  have hz5 : w3.cell? ⟨g, 5, none⟩ = some (.int .i64 err) := (blk_cell BK.out 5).trans rfl
  obtain ⟨hq, hf⟩ := Kd.R_celln 0 HO.out p c3 c4'
  rw [show rdOf 0 od p = rd od p from rfl] at hq
  have S0 := eq_true c3
  have S1 := eq_true c4'
  have S0b := decide_eq_true c3
  have S1b := decide_eq_true c4'
  repeat still_step
  refine wpStill_nil ?_
  have H := HC.out
  clear HC
  by_cases c6 : code < (IntKind.u64.wrap ((rng / 4096) * (IntKind.u64.wrap (rd od p))))
  · rw [if_pos c6] at H
    have c6b := decide_eq_true c6
    clear c6
    replace H := Option.bind_eq_some_iff.mp H
    obtain ⟨od2, A60, H⟩ := H
    unfold spec_l12In_bit.learn at A60
    obtain ⟨q, A70, e7⟩ := Option.bind_eq_some_iff.mp A60
    obtain rfl := Option.some.inj e7
    clear A60 e7
    have A7 := Aside0.mk A70
    clear A70
    replace H := Option.bind_eq_some_iff.mp H
    obtain ⟨⟨t1, t2, t3, t4⟩, HL0, H⟩ := H
    have HL := Aside0.mk HL0
    clear HL0
    simp only [Option.some.injEq, Prod.mk.injEq] at H
    obtain ⟨rfl, rfl, rfl, rfl, rfl, rfl⟩ := H
    go_upto_region 10 with (first | ((with_reducible refine gate_store (t := 97) (p := 35) (v := .tmp 33) rfl ?_); refine put_event rfl 97 (.tmp 35) (.tmp 33) rfl rfl g 3 #[.slice A l.length c, .int .i64 at_, .int .u64 code, .int .u64 rng, (.slice (some ⟨go, 0, none⟩) n co), .int .i64 err] 136 (.int .u64 (IntKind.u64.wrap ((rng / 4096) * (IntKind.u64.wrap (rd od p))))) rfl rfl rfl rfl (by kernel_rfl) BK.out (by simp) ?_; intro w6 h1 hk hbb; have n0_ := Aside0.mk (show w6.heap[g]? = some (.cells #[.slice A l.length c, .int .i64 at_, .int .u64 code, .int .u64 (IntKind.u64.wrap ((rng / 4096) * (IntKind.u64.wrap (rd od p)))), (.slice (some ⟨go, 0, none⟩) n co), .int .i64 err] 136 (0, 0)) from h1); have n1_ := Aside0.mk (hbb _ _ HB.out GE.out); have n2_ := Aside0.mk (Kept.then_ HK.out hk (fun k_ h_ => .inl (.inl h_))); have n3_ := Aside0.mk (Kd.R_mono (Kd.R_kept (Kd.R_types HO.out BK.out (by decide)) hk (fun k_ ho_ hs_ => ho_.2 hs_)) (fun _ h_ => h_.1)); clear HO; have HO := n3_; clear n3_; clear BK HB HK h1 hk hbb; have BK := n0_; have HB := n1_; have HK := n2_; clear n0_ n1_ n2_))
    clear hz0 hz1 hz2 hz3 hz4 hz5 hq hf
    refine still_tail_ 15 (by kernel_rfl) (by kernel_rfl) (fun w8 hw_ => ?_)
    have hd_ := below_drew (Below.refl w6.heap.size w6)
    rw [← hw_] at hd_
    clear hw_
    have n_BK := Aside0.mk (blk_below BK.out hd_)
    have n_HB := Aside0.mk (below_step HB.out hd_)
    have n_HK := Aside0.mk (Kept.below HK.out hd_)
    have n_HO := Aside0.mk (Kd.R_below HO.out hd_)
    clear BK HB HK HO
    have BK := n_BK
    have HB := n_HB
    have HK := n_HK
    have HO := n_HO
    clear n_BK n_HB n_HK n_HO
    clear hd_
    have hz0 : w8.cell? ⟨g, 0, none⟩ = some (.slice A l.length c) := (blk_cell BK.out 0).trans rfl
    have hz1 : w8.cell? ⟨g, 1, none⟩ = some (.int .i64 at_) := (blk_cell BK.out 1).trans rfl
    have hz2 : w8.cell? ⟨g, 2, none⟩ = some (.int .u64 code) := (blk_cell BK.out 2).trans rfl
    have hz3 : w8.cell? ⟨g, 3, none⟩ = some (.int .u64 (IntKind.u64.wrap ((rng / 4096) * (IntKind.u64.wrap (rd od p))))) := (blk_cell BK.out 3).trans rfl
    have hz4 : w8.cell? ⟨g, 4, none⟩ = some ((.slice (some ⟨go, 0, none⟩) n co)) := (blk_cell BK.out 4).trans rfl
    have hz5 : w8.cell? ⟨g, 5, none⟩ = some (.int .i64 err) := (blk_cell BK.out 5).trans rfl
    obtain ⟨hq, hf⟩ := Kd.R_celln 0 HO.out p c3 c4'
    rw [show rdOf 0 od p = rd od p from rfl] at hq
    simp only [List.take_succ_cons, List.take_zero, List.drop_succ_cons, List.drop_zero]
    repeat (first | still_step | still_call (spec_l12In_bit.learnt (rd od p) 0 q _ A7.out))
    refine wpStill_nil ?_
    clear hz0 hz1 hz2 hz3 hz4 hz5
    have HP := Kd.R_putg HO.out p q
    go_wp2_with (first | ((with_reducible refine gate_store (t := 3) (p := 66) (v := .tmp 65) rfl ?_); refine store_event (t := 3) (p := 66) (v := .tmp 65) (w1 := w8.setCell ⟨go, (p : Int).toNat, none⟩ (.int .i64 q)) rfl rfl rfl ?hr ?_; (case hr => first | (go_simp; done) | (go_simp; rfl)); intro w9 hw; have hg : w8.grownBy w9 (some go) := (by rw [hw]; exact HP.2); have hp_ := HP.1; rw [← hw] at hp_; have n0_ := Aside0.mk hp_; have n2_ := Aside0.mk (blk_grown BK.out hg (Kd.R_ne HO.out BK.out (by decide))); have n3_ := Aside0.mk (show Below w.heap.size w w9 from by rw [hw]; exact below_set HB.out (Kd.R_base HO.out go rfl)); have n4_ := Aside0.mk (show Kept wa w9 (fun k_ => k_ = g ∨ k_ = go) from by rw [hw]; exact Kept.setCell (p := ⟨go, (p : Int).toNat, none⟩) HK.out (Or.inl (Or.inr rfl)) _); clear HO BK HB HK HP hp_ hg hw hq hf; have HO := n0_; have BK := n2_; have HB := n3_; have HK := n4_; clear n0_ n2_ n3_ n4_))

    go_loopg [] k (fun kq w' => ∃ (at_ code rng err : Int), Aside0 (spec_l12In_bit.l0 kq l at_ code rng err = some (t1, t2, t3, t4)) ∧ Aside0 (kq ≤ k) ∧ Aside0 (Kd.R (Kd.int .i64) 3 w' w.heap.size (fun k_ => k_ = go) (.slice (some ⟨go, 0, none⟩) n co) (od.set (p : Int).toNat q)) ∧ Aside0 (w'.heap[g]? = some (.cells #[.slice A l.length c, .int .i64 at_, .int .u64 code, .int .u64 rng, (.slice (some ⟨go, 0, none⟩) n co), .int .i64 err] 136 (0, 0))) ∧ Aside0 (Below w.heap.size w w') ∧ Aside0 (Kept wa w' (fun k_ => k_ = g ∨ k_ = go)))
    case atStart => exact ⟨at_, code, (IntKind.u64.wrap ((rng / 4096) * (IntKind.u64.wrap (rd od p)))), err, HL, ⟨Nat.le_refl _⟩, HO, BK, HB, HK⟩
    case round =>
      clear HL HO BK HB HK
      obtain ⟨at_, code, rng, err, HA, HK1, HO, BK, HB, HK⟩ := hrel
      cases gk with
      | zero => exact absurd HA.out (by simp [spec_l12In_bit.l0])
      | succ k1 =>
        have H := HA.out
        clear HA
        simp only [spec_l12In_bit.l0] at H
        by_cases d1 : rng < 16777216
        rotate_left
        · rw [if_neg d1] at H
          have d1b := decide_eq_false d1
          clear d1
          simp only [Option.some.injEq, Prod.mk.injEq] at H
          obtain ⟨rfl, rfl, rfl, rfl⟩ := H
          have hz0 : wr.cell? ⟨g, 0, none⟩ = some (.slice A l.length c) := (blk_cell BK.out 0).trans rfl
          have hz1 : wr.cell? ⟨g, 1, none⟩ = some (.int .i64 at_) := (blk_cell BK.out 1).trans rfl
          have hz2 : wr.cell? ⟨g, 2, none⟩ = some (.int .u64 code) := (blk_cell BK.out 2).trans rfl
          have hz3 : wr.cell? ⟨g, 3, none⟩ = some (.int .u64 rng) := (blk_cell BK.out 3).trans rfl
          have hz4 : wr.cell? ⟨g, 4, none⟩ = some ((.slice (some ⟨go, 0, none⟩) n co)) := (blk_cell BK.out 4).trans rfl
          have hz5 : wr.cell? ⟨g, 5, none⟩ = some (.int .i64 err) := (blk_cell BK.out 5).trans rfl
          go_wp2
          go_ret
          exact ⟨rfl, BK.out, HO.out, HB.out, HK.out⟩
        rw [if_pos d1] at H
        have d1b := decide_eq_true d1
        clear d1
        by_cases d2 : err = 0
        rotate_left
        · rw [if_neg d2] at H
          have d2b := beq_eq_false_iff_ne.mpr d2
          clear d2
          simp only [Option.some.injEq, Prod.mk.injEq] at H
          obtain ⟨rfl, rfl, rfl, rfl⟩ := H
          have hz0 : wr.cell? ⟨g, 0, none⟩ = some (.slice A l.length c) := (blk_cell BK.out 0).trans rfl
          have hz1 : wr.cell? ⟨g, 1, none⟩ = some (.int .i64 at_) := (blk_cell BK.out 1).trans rfl
          have hz2 : wr.cell? ⟨g, 2, none⟩ = some (.int .u64 code) := (blk_cell BK.out 2).trans rfl
          have hz3 : wr.cell? ⟨g, 3, none⟩ = some (.int .u64 rng) := (blk_cell BK.out 3).trans rfl
          have hz4 : wr.cell? ⟨g, 4, none⟩ = some ((.slice (some ⟨go, 0, none⟩) n co)) := (blk_cell BK.out 4).trans rfl
          have hz5 : wr.cell? ⟨g, 5, none⟩ = some (.int .i64 err) := (blk_cell BK.out 5).trans rfl
          go_wp2
          go_ret
          exact ⟨rfl, BK.out, HO.out, HB.out, HK.out⟩
        rw [if_pos d2] at H
        have d2b := beq_iff_eq.mpr d2
        clear d2
        replace H := Option.bind_eq_some_iff.mp H
        obtain ⟨⟨at2, code2, err2⟩, A90, H⟩ := H
        replace H : spec_l12In_bit.l0 k1 l at2 code2 (IntKind.u64.wrap (rng * 256)) err2 = some (t1, t2, t3, t4) := H
        have A9 := Aside0.mk A90
        have H' := Aside0.mk H
        clear A90 H
        have hz0 : wr.cell? ⟨g, 0, none⟩ = some (.slice A l.length c) := (blk_cell BK.out 0).trans rfl
        have hz1 : wr.cell? ⟨g, 1, none⟩ = some (.int .i64 at_) := (blk_cell BK.out 1).trans rfl
        have hz2 : wr.cell? ⟨g, 2, none⟩ = some (.int .u64 code) := (blk_cell BK.out 2).trans rfl
        have hz3 : wr.cell? ⟨g, 3, none⟩ = some (.int .u64 rng) := (blk_cell BK.out 3).trans rfl
        have hz4 : wr.cell? ⟨g, 4, none⟩ = some ((.slice (some ⟨go, 0, none⟩) n co)) := (blk_cell BK.out 4).trans rfl
        have hz5 : wr.cell? ⟨g, 5, none⟩ = some (.int .i64 err) := (blk_cell BK.out 5).trans rfl
        go_wp2_with (first | ((with_reducible refine gate_store (t := 97) (p := 85) (v := .tmp 83) rfl ?_); refine put_event rfl 97 (.tmp 85) (.tmp 83) rfl rfl g 3 #[.slice A l.length c, .int .i64 at_, .int .u64 code, .int .u64 rng, (.slice (some ⟨go, 0, none⟩) n co), .int .i64 err] 136 (.int .u64 (IntKind.u64.wrap (rng * 256))) rfl rfl rfl rfl (by kernel_rfl) BK.out (by simp) ?_; intro w11 h1 hk hbb; have n0_ := Aside0.mk (show w11.heap[g]? = some (.cells #[.slice A l.length c, .int .i64 at_, .int .u64 code, .int .u64 (IntKind.u64.wrap (rng * 256)), (.slice (some ⟨go, 0, none⟩) n co), .int .i64 err] 136 (0, 0)) from h1); have n1_ := Aside0.mk (hbb _ _ HB.out GE.out); have n2_ := Aside0.mk (Kept.then_ HK.out hk (fun k_ h_ => .inl (.inl h_))); have n3_ := Aside0.mk (Kd.R_mono (Kd.R_kept (Kd.R_types HO.out BK.out (by decide)) hk (fun k_ ho_ hs_ => ho_.2 hs_)) (fun _ h_ => h_.1)); clear HO; have HO := n3_; clear n3_; clear BK HB HK h1 hk hbb; have BK := n0_; have HB := n1_; have HK := n2_; clear n0_ n1_ n2_) | ((with_reducible refine gate_callee (f := 157) rfl ?_); refine goesL_ (some 87) rfl rfl Try.func157 (by kernel_rfl) rfl #[.pointer (some ⟨g, 0, none⟩)] rfl (by (try simp only [List.map_toArray, List.map_cons, List.map_nil]); first | done | rfl) ?_; (with_reducible refine (spec_l12In_byte.calls k1 g A c l at_ code (IntKind.u64.wrap (rng * 256)) err (.slice (some ⟨go, 0, none⟩) n co) at2 code2 err2 w _ HB.out GE.out HD.out BK.out A9.out).mono ?_); rintro e w12 ⟨rfl, hbx, hb, hk⟩; refine ⟨_, rfl, ?_⟩; have n0_ := Aside0.mk (Kd.R_mono (Kd.R_kept (Kd.R_types HO.out BK.out (by decide)) hk (fun k_ ho_ hs_ => ho_.2 hs_)) (fun _ h_ => h_.1)); have n1_ := Aside0.mk (Kept.then_ HK.out hk (fun k_ h_ => .inl (.inl h_))); clear HO BK HB HK hk; have HO := n0_; have HK := n1_; have BK := Aside0.mk hbx; have HB := Aside0.mk hb; clear n0_ n1_ hbx hb))
        go_roundg k1
        case measure => have := HK1.out; omega
        case rel => exact ⟨at2, code2, _, err2, H', ⟨by have := HK1.out; omega⟩, HO, BK, HB, HK⟩
  rw [if_neg c6] at H
  have c6b := decide_eq_false c6
  clear c6
  replace H := Option.bind_eq_some_iff.mp H
  obtain ⟨od2, A60, H⟩ := H
  unfold spec_l12In_bit.learn at A60
  obtain ⟨q, A70, e7⟩ := Option.bind_eq_some_iff.mp A60
  obtain rfl := Option.some.inj e7
  clear A60 e7
  have A7 := Aside0.mk A70
  clear A70
  replace H := Option.bind_eq_some_iff.mp H
  obtain ⟨⟨t1, t2, t3, t4⟩, HL0, H⟩ := H
  have HL := Aside0.mk HL0
  clear HL0
  simp only [Option.some.injEq, Prod.mk.injEq] at H
  obtain ⟨rfl, rfl, rfl, rfl, rfl, rfl⟩ := H
  go_upto_region 10 with (first | ((with_reducible refine gate_store (t := 97) (p := 43) (v := .tmp 41) rfl ?_); refine put_event rfl 97 (.tmp 43) (.tmp 41) rfl rfl g 2 #[.slice A l.length c, .int .i64 at_, .int .u64 code, .int .u64 rng, (.slice (some ⟨go, 0, none⟩) n co), .int .i64 err] 136 (.int .u64 (IntKind.u64.wrap (code - (IntKind.u64.wrap ((rng / 4096) * (IntKind.u64.wrap (rd od p))))))) rfl rfl rfl rfl (by kernel_rfl) BK.out (by simp) ?_; intro w6 h1 hk hbb; have n0_ := Aside0.mk (show w6.heap[g]? = some (.cells #[.slice A l.length c, .int .i64 at_, .int .u64 (IntKind.u64.wrap (code - (IntKind.u64.wrap ((rng / 4096) * (IntKind.u64.wrap (rd od p)))))), .int .u64 rng, (.slice (some ⟨go, 0, none⟩) n co), .int .i64 err] 136 (0, 0)) from h1); have n1_ := Aside0.mk (hbb _ _ HB.out GE.out); have n2_ := Aside0.mk (Kept.then_ HK.out hk (fun k_ h_ => .inl (.inl h_))); have n3_ := Aside0.mk (Kd.R_mono (Kd.R_kept (Kd.R_types HO.out BK.out (by decide)) hk (fun k_ ho_ hs_ => ho_.2 hs_)) (fun _ h_ => h_.1)); clear HO; have HO := n3_; clear n3_; clear BK HB HK h1 hk hbb; have BK := n0_; have HB := n1_; have HK := n2_; clear n0_ n1_ n2_; clear hz0 hz1 hz2 hz3 hz4 hz5; have hz0 : w6.cell? ⟨g, 0, none⟩ = some (.slice A l.length c) := (blk_cell BK.out 0).trans rfl; have hz1 : w6.cell? ⟨g, 1, none⟩ = some (.int .i64 at_) := (blk_cell BK.out 1).trans rfl; have hz2 : w6.cell? ⟨g, 2, none⟩ = some (.int .u64 (IntKind.u64.wrap (code - (IntKind.u64.wrap ((rng / 4096) * (IntKind.u64.wrap (rd od p))))))) := (blk_cell BK.out 2).trans rfl; have hz3 : w6.cell? ⟨g, 3, none⟩ = some (.int .u64 rng) := (blk_cell BK.out 3).trans rfl; have hz4 : w6.cell? ⟨g, 4, none⟩ = some ((.slice (some ⟨go, 0, none⟩) n co)) := (blk_cell BK.out 4).trans rfl; have hz5 : w6.cell? ⟨g, 5, none⟩ = some (.int .i64 err) := (blk_cell BK.out 5).trans rfl) | ((with_reducible refine gate_store (t := 97) (p := 51) (v := .tmp 49) rfl ?_); refine put_event rfl 97 (.tmp 51) (.tmp 49) rfl rfl g 3 #[.slice A l.length c, .int .i64 at_, .int .u64 (IntKind.u64.wrap (code - (IntKind.u64.wrap ((rng / 4096) * (IntKind.u64.wrap (rd od p)))))), .int .u64 rng, (.slice (some ⟨go, 0, none⟩) n co), .int .i64 err] 136 (.int .u64 (IntKind.u64.wrap (rng - (IntKind.u64.wrap ((rng / 4096) * (IntKind.u64.wrap (rd od p))))))) rfl rfl rfl rfl (by kernel_rfl) BK.out (by simp) ?_; intro w7 h1 hk hbb; have n0_ := Aside0.mk (show w7.heap[g]? = some (.cells #[.slice A l.length c, .int .i64 at_, .int .u64 (IntKind.u64.wrap (code - (IntKind.u64.wrap ((rng / 4096) * (IntKind.u64.wrap (rd od p)))))), .int .u64 (IntKind.u64.wrap (rng - (IntKind.u64.wrap ((rng / 4096) * (IntKind.u64.wrap (rd od p)))))), (.slice (some ⟨go, 0, none⟩) n co), .int .i64 err] 136 (0, 0)) from h1); have n1_ := Aside0.mk (hbb _ _ HB.out GE.out); have n2_ := Aside0.mk (Kept.then_ HK.out hk (fun k_ h_ => .inl (.inl h_))); have n3_ := Aside0.mk (Kd.R_mono (Kd.R_kept (Kd.R_types HO.out BK.out (by decide)) hk (fun k_ ho_ hs_ => ho_.2 hs_)) (fun _ h_ => h_.1)); clear HO; have HO := n3_; clear n3_; clear BK HB HK h1 hk hbb; have BK := n0_; have HB := n1_; have HK := n2_; clear n0_ n1_ n2_))
  clear hz0 hz1 hz2 hz3 hz4 hz5 hq hf
  refine still_tail_ 15 (by kernel_rfl) (by kernel_rfl) (fun w8 hw_ => ?_)
  have hd_ := below_drew (Below.refl w7.heap.size w7)
  rw [← hw_] at hd_
  clear hw_
  have n_BK := Aside0.mk (blk_below BK.out hd_)
  have n_HB := Aside0.mk (below_step HB.out hd_)
  have n_HK := Aside0.mk (Kept.below HK.out hd_)
  have n_HO := Aside0.mk (Kd.R_below HO.out hd_)
  clear BK HB HK HO
  have BK := n_BK
  have HB := n_HB
  have HK := n_HK
  have HO := n_HO
  clear n_BK n_HB n_HK n_HO
  clear hd_
  have hz0 : w8.cell? ⟨g, 0, none⟩ = some (.slice A l.length c) := (blk_cell BK.out 0).trans rfl
  have hz1 : w8.cell? ⟨g, 1, none⟩ = some (.int .i64 at_) := (blk_cell BK.out 1).trans rfl
  have hz2 : w8.cell? ⟨g, 2, none⟩ = some (.int .u64 (IntKind.u64.wrap (code - (IntKind.u64.wrap ((rng / 4096) * (IntKind.u64.wrap (rd od p))))))) := (blk_cell BK.out 2).trans rfl
  have hz3 : w8.cell? ⟨g, 3, none⟩ = some (.int .u64 (IntKind.u64.wrap (rng - (IntKind.u64.wrap ((rng / 4096) * (IntKind.u64.wrap (rd od p))))))) := (blk_cell BK.out 3).trans rfl
  have hz4 : w8.cell? ⟨g, 4, none⟩ = some ((.slice (some ⟨go, 0, none⟩) n co)) := (blk_cell BK.out 4).trans rfl
  have hz5 : w8.cell? ⟨g, 5, none⟩ = some (.int .i64 err) := (blk_cell BK.out 5).trans rfl
  obtain ⟨hq, hf⟩ := Kd.R_celln 0 HO.out p c3 c4'
  rw [show rdOf 0 od p = rd od p from rfl] at hq
  simp only [List.take_succ_cons, List.take_zero, List.drop_succ_cons, List.drop_zero]
  repeat (first | still_step | still_call (spec_l12In_bit.learnt (rd od p) 1 q _ A7.out))
  refine wpStill_nil ?_
  clear hz0 hz1 hz2 hz3 hz4 hz5
  have HP := Kd.R_putg HO.out p q
  go_wp2_with (first | ((with_reducible refine gate_store (t := 3) (p := 66) (v := .tmp 65) rfl ?_); refine store_event (t := 3) (p := 66) (v := .tmp 65) (w1 := w8.setCell ⟨go, (p : Int).toNat, none⟩ (.int .i64 q)) rfl rfl rfl ?hr ?_; (case hr => first | (go_simp; done) | (go_simp; rfl)); intro w9 hw; have hg : w8.grownBy w9 (some go) := (by rw [hw]; exact HP.2); have hp_ := HP.1; rw [← hw] at hp_; have n0_ := Aside0.mk hp_; have n2_ := Aside0.mk (blk_grown BK.out hg (Kd.R_ne HO.out BK.out (by decide))); have n3_ := Aside0.mk (show Below w.heap.size w w9 from by rw [hw]; exact below_set HB.out (Kd.R_base HO.out go rfl)); have n4_ := Aside0.mk (show Kept wa w9 (fun k_ => k_ = g ∨ k_ = go) from by rw [hw]; exact Kept.setCell (p := ⟨go, (p : Int).toNat, none⟩) HK.out (Or.inl (Or.inr rfl)) _); clear HO BK HB HK HP hp_ hg hw hq hf; have HO := n0_; have BK := n2_; have HB := n3_; have HK := n4_; clear n0_ n2_ n3_ n4_))

  go_loopg [] k (fun kq w' => ∃ (at_ code rng err : Int), Aside0 (spec_l12In_bit.l0 kq l at_ code rng err = some (t1, t2, t3, t4)) ∧ Aside0 (kq ≤ k) ∧ Aside0 (Kd.R (Kd.int .i64) 3 w' w.heap.size (fun k_ => k_ = go) (.slice (some ⟨go, 0, none⟩) n co) (od.set (p : Int).toNat q)) ∧ Aside0 (w'.heap[g]? = some (.cells #[.slice A l.length c, .int .i64 at_, .int .u64 code, .int .u64 rng, (.slice (some ⟨go, 0, none⟩) n co), .int .i64 err] 136 (0, 0))) ∧ Aside0 (Below w.heap.size w w') ∧ Aside0 (Kept wa w' (fun k_ => k_ = g ∨ k_ = go)))
  case atStart => exact ⟨at_, (IntKind.u64.wrap (code - (IntKind.u64.wrap ((rng / 4096) * (IntKind.u64.wrap (rd od p)))))), (IntKind.u64.wrap (rng - (IntKind.u64.wrap ((rng / 4096) * (IntKind.u64.wrap (rd od p)))))), err, HL, ⟨Nat.le_refl _⟩, HO, BK, HB, HK⟩
  case round =>
    clear HL HO BK HB HK
    obtain ⟨at_, code, rng, err, HA, HK1, HO, BK, HB, HK⟩ := hrel
    cases gk with
    | zero => exact absurd HA.out (by simp [spec_l12In_bit.l0])
    | succ k1 =>
      have H := HA.out
      clear HA
      simp only [spec_l12In_bit.l0] at H
      by_cases d1 : rng < 16777216
      rotate_left
      · rw [if_neg d1] at H
        have d1b := decide_eq_false d1
        clear d1
        simp only [Option.some.injEq, Prod.mk.injEq] at H
        obtain ⟨rfl, rfl, rfl, rfl⟩ := H
        have hz0 : wr.cell? ⟨g, 0, none⟩ = some (.slice A l.length c) := (blk_cell BK.out 0).trans rfl
        have hz1 : wr.cell? ⟨g, 1, none⟩ = some (.int .i64 at_) := (blk_cell BK.out 1).trans rfl
        have hz2 : wr.cell? ⟨g, 2, none⟩ = some (.int .u64 code) := (blk_cell BK.out 2).trans rfl
        have hz3 : wr.cell? ⟨g, 3, none⟩ = some (.int .u64 rng) := (blk_cell BK.out 3).trans rfl
        have hz4 : wr.cell? ⟨g, 4, none⟩ = some ((.slice (some ⟨go, 0, none⟩) n co)) := (blk_cell BK.out 4).trans rfl
        have hz5 : wr.cell? ⟨g, 5, none⟩ = some (.int .i64 err) := (blk_cell BK.out 5).trans rfl
        go_wp2
        go_ret
        exact ⟨rfl, BK.out, HO.out, HB.out, HK.out⟩
      rw [if_pos d1] at H
      have d1b := decide_eq_true d1
      clear d1
      by_cases d2 : err = 0
      rotate_left
      · rw [if_neg d2] at H
        have d2b := beq_eq_false_iff_ne.mpr d2
        clear d2
        simp only [Option.some.injEq, Prod.mk.injEq] at H
        obtain ⟨rfl, rfl, rfl, rfl⟩ := H
        have hz0 : wr.cell? ⟨g, 0, none⟩ = some (.slice A l.length c) := (blk_cell BK.out 0).trans rfl
        have hz1 : wr.cell? ⟨g, 1, none⟩ = some (.int .i64 at_) := (blk_cell BK.out 1).trans rfl
        have hz2 : wr.cell? ⟨g, 2, none⟩ = some (.int .u64 code) := (blk_cell BK.out 2).trans rfl
        have hz3 : wr.cell? ⟨g, 3, none⟩ = some (.int .u64 rng) := (blk_cell BK.out 3).trans rfl
        have hz4 : wr.cell? ⟨g, 4, none⟩ = some ((.slice (some ⟨go, 0, none⟩) n co)) := (blk_cell BK.out 4).trans rfl
        have hz5 : wr.cell? ⟨g, 5, none⟩ = some (.int .i64 err) := (blk_cell BK.out 5).trans rfl
        go_wp2
        go_ret
        exact ⟨rfl, BK.out, HO.out, HB.out, HK.out⟩
      rw [if_pos d2] at H
      have d2b := beq_iff_eq.mpr d2
      clear d2
      replace H := Option.bind_eq_some_iff.mp H
      obtain ⟨⟨at2, code2, err2⟩, A90, H⟩ := H
      replace H : spec_l12In_bit.l0 k1 l at2 code2 (IntKind.u64.wrap (rng * 256)) err2 = some (t1, t2, t3, t4) := H
      have A9 := Aside0.mk A90
      have H' := Aside0.mk H
      clear A90 H
      have hz0 : wr.cell? ⟨g, 0, none⟩ = some (.slice A l.length c) := (blk_cell BK.out 0).trans rfl
      have hz1 : wr.cell? ⟨g, 1, none⟩ = some (.int .i64 at_) := (blk_cell BK.out 1).trans rfl
      have hz2 : wr.cell? ⟨g, 2, none⟩ = some (.int .u64 code) := (blk_cell BK.out 2).trans rfl
      have hz3 : wr.cell? ⟨g, 3, none⟩ = some (.int .u64 rng) := (blk_cell BK.out 3).trans rfl
      have hz4 : wr.cell? ⟨g, 4, none⟩ = some ((.slice (some ⟨go, 0, none⟩) n co)) := (blk_cell BK.out 4).trans rfl
      have hz5 : wr.cell? ⟨g, 5, none⟩ = some (.int .i64 err) := (blk_cell BK.out 5).trans rfl
      go_wp2_with (first | ((with_reducible refine gate_store (t := 97) (p := 85) (v := .tmp 83) rfl ?_); refine put_event rfl 97 (.tmp 85) (.tmp 83) rfl rfl g 3 #[.slice A l.length c, .int .i64 at_, .int .u64 code, .int .u64 rng, (.slice (some ⟨go, 0, none⟩) n co), .int .i64 err] 136 (.int .u64 (IntKind.u64.wrap (rng * 256))) rfl rfl rfl rfl (by kernel_rfl) BK.out (by simp) ?_; intro w11 h1 hk hbb; have n0_ := Aside0.mk (show w11.heap[g]? = some (.cells #[.slice A l.length c, .int .i64 at_, .int .u64 code, .int .u64 (IntKind.u64.wrap (rng * 256)), (.slice (some ⟨go, 0, none⟩) n co), .int .i64 err] 136 (0, 0)) from h1); have n1_ := Aside0.mk (hbb _ _ HB.out GE.out); have n2_ := Aside0.mk (Kept.then_ HK.out hk (fun k_ h_ => .inl (.inl h_))); have n3_ := Aside0.mk (Kd.R_mono (Kd.R_kept (Kd.R_types HO.out BK.out (by decide)) hk (fun k_ ho_ hs_ => ho_.2 hs_)) (fun _ h_ => h_.1)); clear HO; have HO := n3_; clear n3_; clear BK HB HK h1 hk hbb; have BK := n0_; have HB := n1_; have HK := n2_; clear n0_ n1_ n2_) | ((with_reducible refine gate_callee (f := 157) rfl ?_); refine goesL_ (some 87) rfl rfl Try.func157 (by kernel_rfl) rfl #[.pointer (some ⟨g, 0, none⟩)] rfl (by (try simp only [List.map_toArray, List.map_cons, List.map_nil]); first | done | rfl) ?_; (with_reducible refine (spec_l12In_byte.calls k1 g A c l at_ code (IntKind.u64.wrap (rng * 256)) err (.slice (some ⟨go, 0, none⟩) n co) at2 code2 err2 w _ HB.out GE.out HD.out BK.out A9.out).mono ?_); rintro e w12 ⟨rfl, hbx, hb, hk⟩; refine ⟨_, rfl, ?_⟩; have n0_ := Aside0.mk (Kd.R_mono (Kd.R_kept (Kd.R_types HO.out BK.out (by decide)) hk (fun k_ ho_ hs_ => ho_.2 hs_)) (fun _ h_ => h_.1)); have n1_ := Aside0.mk (Kept.then_ HK.out hk (fun k_ h_ => .inl (.inl h_))); clear HO BK HB HK hk; have HO := n0_; have HK := n1_; have BK := Aside0.mk hbx; have HB := Aside0.mk hb; clear n0_ n1_ hbx hb))
      go_roundg k1
      case measure => have := HK1.out; omega
      case rel => exact ⟨at2, code2, _, err2, H', ⟨by have := HK1.out; omega⟩, HO, BK, HB, HK⟩

end Go.Proofs.Ytggokppfhkebkaa.PFnExactOddsUnpack

-- written by myprint.py (a program of this session's over the kit's print)
import Derived.Test.YtggokppfhkebkaaPFnExactOddsUnpackx0
import Derived.Test.YtggokppfhkebkaaPFnExactOddsUnpackx1
import Derived.Test.YtggokppfhkebkaaPFnExactOddsUnpackx3
import Derived.Test.YtggokppfhkebkaaPFnExactOddsUnpackx4
namespace Go.Proofs.Ytggokppfhkebkaa.PFnExactOddsUnpack
open Go.RowKit Go.Proofs.YtggokppfhkebkaaW.PrintWords Go.Proofs.YtggokppfhkebkaaW.PrintLast Go.Proofs.YtggokppfhkebkaaW.PrintMore
attribute [local go_sem] max2_int min2_int max_two min_two max_three min_three max_four min_four   -- for this text's walks alone
set_option linter.unusedVariables false
set_option linter.unusedSimpArgs false

/-! ### impl_zdecoder_bit: function 125 -/
theorem impl_zdecoder_bit.still_ {P : Program} {id : Nat} {Q : Exit → Act → World → Prop} {a : Act} {w : World} {l : List Oper} (hm : P.follows .mixedOrders = true) (hB : Region.lexB .any l.toArray = true)
    (h : ∀ w1, w1 = w.drew → wpStill P l.toArray w1 (fun a' => Q .normal a' w1) l a) : (Code.region id l.toArray true).wp P Q a w := wp_region_still_lit hm hB (h _ rfl)
def impl_zdecoder_bit.l0 : Nat → List Int → Int → Int → Int → Int → Option (Int × Int × Int × Int)
  | 0, _, _, _, _, _ => none
  | k + 1, l, at_, code, rng, err => if rng < 16777216 then (if err = 0 then ((impl_zdecoder_more.f k l at_ code err).bind fun t => (impl_zdecoder_bit.l0 k l t.1 t.2.1 (IntKind.u64.wrap (rng * 256)) t.2.2)) else (some (at_, code, rng, err))) else (some (at_, code, rng, err))
def impl_zdecoder_bit.learn (od : List Int) (p b : Int) : Option (List Int) := impl_zodds_learn.f od p b
def impl_zdecoder_bit.f (k : Nat) (l : List Int) (at_ code rng : Int) (od : List Int) (err p : Int) : Option (Int × Int × Int × Int × List Int × Int) := if err = 0 then (if 0 ≤ p then (if p < (od.length : Int) then (if code < (IntKind.u64.wrap ((rng / 4096) * (IntKind.u64.wrap (rd od p)))) then ((impl_zdecoder_bit.learn od p 0).bind fun od2 => ((impl_zdecoder_bit.l0 k l at_ code (IntKind.u64.wrap ((rng / 4096) * (IntKind.u64.wrap (rd od p)))) err).bind fun t => (some (0, t.1, t.2.1, t.2.2.1, od2, t.2.2.2)))) else ((impl_zdecoder_bit.learn od p 1).bind fun od2 => ((impl_zdecoder_bit.l0 k l at_ (IntKind.u64.wrap (code - (IntKind.u64.wrap ((rng / 4096) * (IntKind.u64.wrap (rd od p)))))) (IntKind.u64.wrap (rng - (IntKind.u64.wrap ((rng / 4096) * (IntKind.u64.wrap (rd od p)))))) err).bind fun t => (some (1, t.1, t.2.1, t.2.2.1, od2, t.2.2.2))))) else (none)) else (none)) else (some (0, at_, code, rng, od, err))
theorem impl_zdecoder_bit.mono_l : ∀ k, (∀ y0 y1 y2 y3 y4, LeO (impl_zdecoder_bit.l0 k y0 y1 y2 y3 y4) (impl_zdecoder_bit.l0 (k + 1) y0 y1 y2 y3 y4))
  | 0 => fun _ _ _ _ _ r h => by simp [impl_zdecoder_bit.l0] at h
  | k + 1 => by
    have ih := impl_zdecoder_bit.mono_l k
    have ih0 := ih
    · intro y0 y1 y2 y3 y4
      unfold impl_zdecoder_bit.l0
      repeat' first
      | (with_reducible exact ih0 _ _ _ _ _)
      | (with_reducible exact impl_zdecoder_more.mono _ _ _ _ _)
      | (with_reducible exact LeO.refl _)
      | (with_reducible exact LeO.none _)
      | (with_reducible refine LeO.ite ?_ ?_)
      | (with_reducible refine LeO.bind ?_ (fun _ => ?_))
      | exact ih0 _ _ _ _ _
      | exact impl_zdecoder_more.mono _ _ _ _ _
      | exact LeO.none _
      | refine LeO.ite ?_ ?_
      | refine LeO.bind ?_ (fun _ => ?_)
theorem impl_zdecoder_bit.mono : ∀ a0 a1 a2 a3 a4 a5 a6 k, LeO (impl_zdecoder_bit.f k a0 a1 a2 a3 a4 a5 a6) (impl_zdecoder_bit.f (k + 1) a0 a1 a2 a3 a4 a5 a6) := by
  intro a0 a1 a2 a3 a4 a5 a6 k
  have ih := impl_zdecoder_bit.mono_l k
  have ih0 := ih
  unfold impl_zdecoder_bit.f
  repeat' first
      | (with_reducible exact ih0 _ _ _ _ _)
      | (with_reducible exact impl_zdecoder_more.mono _ _ _ _ _)
      | (with_reducible exact LeO.refl _)
      | (with_reducible exact LeO.none _)
      | (with_reducible refine LeO.ite ?_ ?_)
      | (with_reducible refine LeO.bind ?_ (fun _ => ?_))
      | exact ih0 _ _ _ _ _
      | exact impl_zdecoder_more.mono _ _ _ _ _
      | exact LeO.none _
      | refine LeO.ite ?_ ?_
      | refine LeO.bind ?_ (fun _ => ?_)
set_option maxHeartbeats 8000000 in
set_option maxRecDepth 100000 in
theorem impl_zdecoder_bit.calls (k g go n co : Nat) (A : Option Addr) (c : Nat) (l : List Int) (at_ code rng err : Int) (od : List Int) (p b r1 r2 r3 : Int) (od' : List Int) (r5 : Int) (w wa : World) (hB : Below w.heap.size w wa) (hG : w.heap.size ≤ g) (hd : Kd.C (Kd.int .u8) w A l.length l) (ho : Kd.R (Kd.int .i64) 3 wa w.heap.size (fun k_ => k_ = go) (.slice (some ⟨go, 0, none⟩) n co) od) (hbb : wa.heap[g]? = some (.cells #[(.slice (some ⟨go, 0, none⟩) n co), .slice A l.length c, .int .i64 at_, .int .u64 code, .int .u64 rng, .int .i64 err] 141 (0, 0))) (h : impl_zdecoder_bit.f k l at_ code rng od err p = some (b, r1, r2, r3, od', r5)) :
    Calls Try.prog 125 #[.pointer (some ⟨g, 0, none⟩), .int .i64 p] wa fun e w' => e = .returned (.int .i64 b) ∧ w'.heap[g]? = some (.cells #[(.slice (some ⟨go, 0, none⟩) n co), .slice A l.length c, .int .i64 r1, .int .u64 r2, .int .u64 r3, .int .i64 r5] 141 (0, 0)) ∧ Kd.R (Kd.int .i64) 3 w' w.heap.size (fun k_ => k_ = go) (.slice (some ⟨go, 0, none⟩) n co) od' ∧ Below w.heap.size w w' ∧ Kept wa w' (fun k_ => k_ = g ∨ k_ = go) := by
  have hu_ := Try.underlying141
  have HB := Aside0.mk hB
  have GE := Aside0.mk hG
  have HD := Aside0.mk hd
  have HO := Aside0.mk ho
  have BK := Aside0.mk hbb
  have HK := Aside0.mk (Kept.refl wa (fun k_ => k_ = g ∨ k_ = go))
  clear hB hG hd hbb ho
  have H := h
  clear h
  unfold impl_zdecoder_bit.f at H
  have hz0 : wa.cell? ⟨g, 0, none⟩ = some ((.slice (some ⟨go, 0, none⟩) n co)) := (blk_cell BK.out 0).trans rfl
  have hz1 : wa.cell? ⟨g, 1, none⟩ = some (.slice A l.length c) := (blk_cell BK.out 1).trans rfl
  have hz2 : wa.cell? ⟨g, 2, none⟩ = some (.int .i64 at_) := (blk_cell BK.out 2).trans rfl
  have hz3 : wa.cell? ⟨g, 3, none⟩ = some (.int .u64 code) := (blk_cell BK.out 3).trans rfl
  have hz4 : wa.cell? ⟨g, 4, none⟩ = some (.int .u64 rng) := (blk_cell BK.out 4).trans rfl
  have hz5 : wa.cell? ⟨g, 5, none⟩ = some (.int .i64 err) := (blk_cell BK.out 5).trans rfl
  by_cases c0 : err = 0
  rotate_left
  · rw [if_neg c0] at H
    have c0b := bne_iff_ne.mpr c0
    have c0c := beq_eq_false_iff_ne.mpr c0
    clear c0
    simp only [Option.some.injEq, Prod.mk.injEq] at H
    obtain ⟨rfl, rfl, rfl, rfl, rfl, rfl⟩ := H
    go_enter Try.func125, Try.ntmps125
    go_wp2
    go_ret
    exact ⟨rfl, BK.out, HO.out, HB.out, HK.out⟩
  rw [if_pos c0] at H
  have c0b := bne_eq_false_iff_eq.mpr c0
  have c0c := beq_iff_eq.mpr c0
  clear c0
  by_cases c3 : 0 ≤ p
  rotate_left
  · rw [if_neg c3] at H
    exact absurd H (by simp)
  rw [if_pos c3] at H
  by_cases c4 : p < (od.length : Int)
  rotate_left
  · rw [if_neg c4] at H
    exact absurd H (by simp)
  rw [if_pos c4] at H
  have hlen : n = od.length := (Kd.R_reads' HO.out).1
  have c4' : p < (n : Int) := by omega
  clear hlen c4
  have HC := Aside0.mk H
  clear H
  go_enter Try.func125, Try.ntmps125
  go_upto_region 3 with (fail)
  clear hz0 hz1 hz2 hz3 hz4 hz5 c0b c0c
  refine impl_zdecoder_bit.still_ (by kernel_rfl) (by kernel_rfl) (fun w3 hw_ => ?_)
  have hd_ := below_drew (Below.refl wa.heap.size wa)
  rw [← hw_] at hd_
  clear hw_
  have n_BK := Aside0.mk (blk_below BK.out hd_)
  have n_HB := Aside0.mk (below_step HB.out hd_)
  have n_HK := Aside0.mk (Kept.below HK.out hd_)
  have n_HO := Aside0.mk (Kd.R_below HO.out hd_)
  clear BK HB HK HO
  have BK := n_BK
  have HB := n_HB
  have HK := n_HK
  have HO := n_HO
  clear n_BK n_HB n_HK n_HO
  clear hd_
  have hz0 : w3.cell? ⟨g, 0, none⟩ = some ((.slice (some ⟨go, 0, none⟩) n co)) := (blk_cell BK.out 0).trans rfl
  have hz1 : w3.cell? ⟨g, 1, none⟩ = some (.slice A l.length c) := (blk_cell BK.out 1).trans rfl
  have hz2 : w3.cell? ⟨g, 2, none⟩ = some (.int .i64 at_) := (blk_cell BK.out 2).trans rfl
  have hz3 : w3.cell? ⟨g, 3, none⟩ = some (.int .u64 code) := (blk_cell BK.out 3).trans rfl
  have hz4 : w3.cell? ⟨g, 4, none⟩ = some (.int .u64 rng) := (blk_cell BK.out 4).trans rfl
  have hz5 : w3.cell? ⟨g, 5, none⟩ = some (.int .i64 err) := (blk_cell BK.out 5).trans rfl
  obtain ⟨hq, hf⟩ := Kd.R_celln 0 HO.out p c3 c4'
  rw [show rdOf 0 od p = rd od p from rfl] at hq
  have S0 := eq_true c3
  have S1 := eq_true c4'
  have S0b := decide_eq_true c3
  have S1b := decide_eq_true c4'
  repeat still_step
  refine wpStill_nil ?_
  have H := HC.out
  clear HC
  by_cases c6 : code < (IntKind.u64.wrap ((rng / 4096) * (IntKind.u64.wrap (rd od p))))
  · rw [if_pos c6] at H
    have c6b := decide_eq_true c6
    clear c6
    replace H := Option.bind_eq_some_iff.mp H
    obtain ⟨od2, A60, H⟩ := H
    unfold impl_zdecoder_bit.learn at A60
    have A6 := Aside0.mk A60
    clear A60
    replace H := Option.bind_eq_some_iff.mp H
    obtain ⟨⟨t1, t2, t3, t4⟩, HL0, H⟩ := H
    have HL := Aside0.mk HL0
    clear HL0
    simp only [Option.some.injEq, Prod.mk.injEq] at H
    obtain ⟨rfl, rfl, rfl, rfl, rfl, rfl⟩ := H
    go_upto_region 10 with (first | ((with_reducible refine gate_store (t := 97) (p := 35) (v := .tmp 33) rfl ?_); refine put_event rfl 97 (.tmp 35) (.tmp 33) rfl rfl g 4 #[(.slice (some ⟨go, 0, none⟩) n co), .slice A l.length c, .int .i64 at_, .int .u64 code, .int .u64 rng, .int .i64 err] 141 (.int .u64 (IntKind.u64.wrap ((rng / 4096) * (IntKind.u64.wrap (rd od p))))) rfl rfl rfl rfl (by kernel_rfl) BK.out (by simp) ?_; intro w6 h1 hk hbb; have n0_ := Aside0.mk (show w6.heap[g]? = some (.cells #[(.slice (some ⟨go, 0, none⟩) n co), .slice A l.length c, .int .i64 at_, .int .u64 code, .int .u64 (IntKind.u64.wrap ((rng / 4096) * (IntKind.u64.wrap (rd od p)))), .int .i64 err] 141 (0, 0)) from h1); have n1_ := Aside0.mk (hbb _ _ HB.out GE.out); have n2_ := Aside0.mk (Kept.then_ HK.out hk (fun k_ h_ => .inl (.inl h_))); have n3_ := Aside0.mk (Kd.R_mono (Kd.R_kept (Kd.R_types HO.out BK.out (by decide)) hk (fun k_ ho_ hs_ => ho_.2 hs_)) (fun _ h_ => h_.1)); clear HO; have HO := n3_; clear n3_; clear BK HB HK h1 hk hbb; have BK := n0_; have HB := n1_; have HK := n2_; clear n0_ n1_ n2_))
    clear hz0 hz1 hz2 hz3 hz4 hz5 hq hf
    have hz0 : w6.cell? ⟨g, 0, none⟩ = some ((.slice (some ⟨go, 0, none⟩) n co)) := (blk_cell BK.out 0).trans rfl
    have hz1 : w6.cell? ⟨g, 1, none⟩ = some (.slice A l.length c) := (blk_cell BK.out 1).trans rfl
    have hz2 : w6.cell? ⟨g, 2, none⟩ = some (.int .i64 at_) := (blk_cell BK.out 2).trans rfl
    have hz3 : w6.cell? ⟨g, 3, none⟩ = some (.int .u64 code) := (blk_cell BK.out 3).trans rfl
    have hz4 : w6.cell? ⟨g, 4, none⟩ = some (.int .u64 (IntKind.u64.wrap ((rng / 4096) * (IntKind.u64.wrap (rd od p))))) := (blk_cell BK.out 4).trans rfl
    have hz5 : w6.cell? ⟨g, 5, none⟩ = some (.int .i64 err) := (blk_cell BK.out 5).trans rfl
    go_wp2_with (first | ((with_reducible refine gate_callee (f := 142) rfl ?_); refine goesL_ (some 58) rfl rfl Try.func142 (by kernel_rfl) rfl #[(.slice (some ⟨go, 0, none⟩) n co), .int .i64 p, .int .i64 0] rfl (by (try simp only [List.map_toArray, List.map_cons, List.map_nil]); first | done | rfl) ?_; (with_reducible refine (impl_zodds_learn.calls (fun k_ => k_ = go) (.slice (some ⟨go, 0, none⟩) n co) od p 0 od2 w _ HB.out HO.out A6.out).mono ?_); rintro e w9 ⟨rfl, ho, hb, hk⟩; refine ⟨_, rfl, ?_⟩; have n0_ := Aside0.mk (Kd.R_mono (Kd.R_tight rfl ho) (fun k_ h_ => (Option.some.inj h_))); have n2_ := Aside0.mk (blk_kept BK.out hk (fun e_ => Kd.R_ne HO.out BK.out (by decide) (e_ ▸ rfl))); have n4_ := Aside0.mk (Kept.then_ HK.out hk (fun k_ h_ => .inl (.inr h_))); clear HO BK HB HK hk; have HO := n0_; have BK := n2_; have HB := Aside0.mk hb; have HK := n4_; clear n0_ n2_ n4_ ho hb))
    clear hz0 hz1 hz2 hz3 hz4 hz5
    go_loopg [] k (fun kq w' => ∃ (at_ code rng err : Int), Aside0 (impl_zdecoder_bit.l0 kq l at_ code rng err = some (t1, t2, t3, t4)) ∧ Aside0 (kq ≤ k) ∧ Aside0 (Kd.R (Kd.int .i64) 3 w' w.heap.size (fun k_ => k_ = go) (.slice (some ⟨go, 0, none⟩) n co) od2) ∧ Aside0 (w'.heap[g]? = some (.cells #[(.slice (some ⟨go, 0, none⟩) n co), .slice A l.length c, .int .i64 at_, .int .u64 code, .int .u64 rng, .int .i64 err] 141 (0, 0))) ∧ Aside0 (Below w.heap.size w w') ∧ Aside0 (Kept wa w' (fun k_ => k_ = g ∨ k_ = go)))
    case atStart => exact ⟨at_, code, (IntKind.u64.wrap ((rng / 4096) * (IntKind.u64.wrap (rd od p)))), err, HL, ⟨Nat.le_refl _⟩, HO, BK, HB, HK⟩
    case round =>
      clear HL HO BK HB HK
      obtain ⟨at_, code, rng, err, HA, HK1, HO, BK, HB, HK⟩ := hrel
      cases gk with
      | zero => exact absurd HA.out (by simp [impl_zdecoder_bit.l0])
      | succ k1 =>
        have H := HA.out
        clear HA
        simp only [impl_zdecoder_bit.l0] at H
        by_cases d1 : rng < 16777216
        rotate_left
        · rw [if_neg d1] at H
          have d1b := decide_eq_false d1
          clear d1
          simp only [Option.some.injEq, Prod.mk.injEq] at H
          obtain ⟨rfl, rfl, rfl, rfl⟩ := H
          have hz0 : wr.cell? ⟨g, 0, none⟩ = some ((.slice (some ⟨go, 0, none⟩) n co)) := (blk_cell BK.out 0).trans rfl
          have hz1 : wr.cell? ⟨g, 1, none⟩ = some (.slice A l.length c) := (blk_cell BK.out 1).trans rfl
          have hz2 : wr.cell? ⟨g, 2, none⟩ = some (.int .i64 at_) := (blk_cell BK.out 2).trans rfl
          have hz3 : wr.cell? ⟨g, 3, none⟩ = some (.int .u64 code) := (blk_cell BK.out 3).trans rfl
          have hz4 : wr.cell? ⟨g, 4, none⟩ = some (.int .u64 rng) := (blk_cell BK.out 4).trans rfl
          have hz5 : wr.cell? ⟨g, 5, none⟩ = some (.int .i64 err) := (blk_cell BK.out 5).trans rfl
          go_wp2
          go_ret
          exact ⟨rfl, BK.out, HO.out, HB.out, HK.out⟩
        rw [if_pos d1] at H
        have d1b := decide_eq_true d1
        clear d1
        by_cases d2 : err = 0
        rotate_left
        · rw [if_neg d2] at H
          have d2b := beq_eq_false_iff_ne.mpr d2
          clear d2
          simp only [Option.some.injEq, Prod.mk.injEq] at H
          obtain ⟨rfl, rfl, rfl, rfl⟩ := H
          have hz0 : wr.cell? ⟨g, 0, none⟩ = some ((.slice (some ⟨go, 0, none⟩) n co)) := (blk_cell BK.out 0).trans rfl
          have hz1 : wr.cell? ⟨g, 1, none⟩ = some (.slice A l.length c) := (blk_cell BK.out 1).trans rfl
          have hz2 : wr.cell? ⟨g, 2, none⟩ = some (.int .i64 at_) := (blk_cell BK.out 2).trans rfl
          have hz3 : wr.cell? ⟨g, 3, none⟩ = some (.int .u64 code) := (blk_cell BK.out 3).trans rfl
          have hz4 : wr.cell? ⟨g, 4, none⟩ = some (.int .u64 rng) := (blk_cell BK.out 4).trans rfl
          have hz5 : wr.cell? ⟨g, 5, none⟩ = some (.int .i64 err) := (blk_cell BK.out 5).trans rfl
          go_wp2
          go_ret
          exact ⟨rfl, BK.out, HO.out, HB.out, HK.out⟩
        rw [if_pos d2] at H
        have d2b := beq_iff_eq.mpr d2
        clear d2
        replace H := Option.bind_eq_some_iff.mp H
        obtain ⟨⟨at2, code2, err2⟩, A90, H⟩ := H
        replace H : impl_zdecoder_bit.l0 k1 l at2 code2 (IntKind.u64.wrap (rng * 256)) err2 = some (t1, t2, t3, t4) := H
        have A9 := Aside0.mk A90
        have H' := Aside0.mk H
        clear A90 H
        have hz0 : wr.cell? ⟨g, 0, none⟩ = some ((.slice (some ⟨go, 0, none⟩) n co)) := (blk_cell BK.out 0).trans rfl
        have hz1 : wr.cell? ⟨g, 1, none⟩ = some (.slice A l.length c) := (blk_cell BK.out 1).trans rfl
        have hz2 : wr.cell? ⟨g, 2, none⟩ = some (.int .i64 at_) := (blk_cell BK.out 2).trans rfl
        have hz3 : wr.cell? ⟨g, 3, none⟩ = some (.int .u64 code) := (blk_cell BK.out 3).trans rfl
        have hz4 : wr.cell? ⟨g, 4, none⟩ = some (.int .u64 rng) := (blk_cell BK.out 4).trans rfl
        have hz5 : wr.cell? ⟨g, 5, none⟩ = some (.int .i64 err) := (blk_cell BK.out 5).trans rfl
        go_wp2_with (first | ((with_reducible refine gate_store (t := 97) (p := 77) (v := .tmp 75) rfl ?_); refine put_event rfl 97 (.tmp 77) (.tmp 75) rfl rfl g 4 #[(.slice (some ⟨go, 0, none⟩) n co), .slice A l.length c, .int .i64 at_, .int .u64 code, .int .u64 rng, .int .i64 err] 141 (.int .u64 (IntKind.u64.wrap (rng * 256))) rfl rfl rfl rfl (by kernel_rfl) BK.out (by simp) ?_; intro w11 h1 hk hbb; have n0_ := Aside0.mk (show w11.heap[g]? = some (.cells #[(.slice (some ⟨go, 0, none⟩) n co), .slice A l.length c, .int .i64 at_, .int .u64 code, .int .u64 (IntKind.u64.wrap (rng * 256)), .int .i64 err] 141 (0, 0)) from h1); have n1_ := Aside0.mk (hbb _ _ HB.out GE.out); have n2_ := Aside0.mk (Kept.then_ HK.out hk (fun k_ h_ => .inl (.inl h_))); have n3_ := Aside0.mk (Kd.R_mono (Kd.R_kept (Kd.R_types HO.out BK.out (by decide)) hk (fun k_ ho_ hs_ => ho_.2 hs_)) (fun _ h_ => h_.1)); clear HO; have HO := n3_; clear n3_; clear BK HB HK h1 hk hbb; have BK := n0_; have HB := n1_; have HK := n2_; clear n0_ n1_ n2_) | ((with_reducible refine gate_callee (f := 158) rfl ?_); refine goesL_ (some 79) rfl rfl Try.func158 (by kernel_rfl) rfl #[.pointer (some ⟨g, 0, none⟩)] rfl (by (try simp only [List.map_toArray, List.map_cons, List.map_nil]); first | done | rfl) ?_; (with_reducible refine (impl_zdecoder_more.calls k1 g A c l at_ code (IntKind.u64.wrap (rng * 256)) err (.slice (some ⟨go, 0, none⟩) n co) at2 code2 err2 w _ HB.out GE.out HD.out BK.out A9.out).mono ?_); rintro e w12 ⟨rfl, hbx, hb, hk⟩; refine ⟨_, rfl, ?_⟩; have n0_ := Aside0.mk (Kd.R_mono (Kd.R_kept (Kd.R_types HO.out BK.out (by decide)) hk (fun k_ ho_ hs_ => ho_.2 hs_)) (fun _ h_ => h_.1)); have n1_ := Aside0.mk (Kept.then_ HK.out hk (fun k_ h_ => .inl (.inl h_))); clear HO BK HB HK hk; have HO := n0_; have HK := n1_; have BK := Aside0.mk hbx; have HB := Aside0.mk hb; clear n0_ n1_ hbx hb))
        go_roundg k1
        case measure => have := HK1.out; omega
        case rel => exact ⟨at2, code2, _, err2, H', ⟨by have := HK1.out; omega⟩, HO, BK, HB, HK⟩
  rw [if_neg c6] at H
  have c6b := decide_eq_false c6
  clear c6
  replace H := Option.bind_eq_some_iff.mp H
  obtain ⟨od2, A60, H⟩ := H
  unfold impl_zdecoder_bit.learn at A60
  have A6 := Aside0.mk A60
  clear A60
  replace H := Option.bind_eq_some_iff.mp H
  obtain ⟨⟨t1, t2, t3, t4⟩, HL0, H⟩ := H
  have HL := Aside0.mk HL0
  clear HL0
  simp only [Option.some.injEq, Prod.mk.injEq] at H
  obtain ⟨rfl, rfl, rfl, rfl, rfl, rfl⟩ := H
  go_upto_region 10 with (first | ((with_reducible refine gate_store (t := 97) (p := 43) (v := .tmp 41) rfl ?_); refine put_event rfl 97 (.tmp 43) (.tmp 41) rfl rfl g 3 #[(.slice (some ⟨go, 0, none⟩) n co), .slice A l.length c, .int .i64 at_, .int .u64 code, .int .u64 rng, .int .i64 err] 141 (.int .u64 (IntKind.u64.wrap (code - (IntKind.u64.wrap ((rng / 4096) * (IntKind.u64.wrap (rd od p))))))) rfl rfl rfl rfl (by kernel_rfl) BK.out (by simp) ?_; intro w6 h1 hk hbb; have n0_ := Aside0.mk (show w6.heap[g]? = some (.cells #[(.slice (some ⟨go, 0, none⟩) n co), .slice A l.length c, .int .i64 at_, .int .u64 (IntKind.u64.wrap (code - (IntKind.u64.wrap ((rng / 4096) * (IntKind.u64.wrap (rd od p)))))), .int .u64 rng, .int .i64 err] 141 (0, 0)) from h1); have n1_ := Aside0.mk (hbb _ _ HB.out GE.out); have n2_ := Aside0.mk (Kept.then_ HK.out hk (fun k_ h_ => .inl (.inl h_))); have n3_ := Aside0.mk (Kd.R_mono (Kd.R_kept (Kd.R_types HO.out BK.out (by decide)) hk (fun k_ ho_ hs_ => ho_.2 hs_)) (fun _ h_ => h_.1)); clear HO; have HO := n3_; clear n3_; clear BK HB HK h1 hk hbb; have BK := n0_; have HB := n1_; have HK := n2_; clear n0_ n1_ n2_; clear hz0 hz1 hz2 hz3 hz4 hz5; have hz0 : w6.cell? ⟨g, 0, none⟩ = some ((.slice (some ⟨go, 0, none⟩) n co)) := (blk_cell BK.out 0).trans rfl; have hz1 : w6.cell? ⟨g, 1, none⟩ = some (.slice A l.length c) := (blk_cell BK.out 1).trans rfl; have hz2 : w6.cell? ⟨g, 2, none⟩ = some (.int .i64 at_) := (blk_cell BK.out 2).trans rfl; have hz3 : w6.cell? ⟨g, 3, none⟩ = some (.int .u64 (IntKind.u64.wrap (code - (IntKind.u64.wrap ((rng / 4096) * (IntKind.u64.wrap (rd od p))))))) := (blk_cell BK.out 3).trans rfl; have hz4 : w6.cell? ⟨g, 4, none⟩ = some (.int .u64 rng) := (blk_cell BK.out 4).trans rfl; have hz5 : w6.cell? ⟨g, 5, none⟩ = some (.int .i64 err) := (blk_cell BK.out 5).trans rfl) | ((with_reducible refine gate_store (t := 97) (p := 51) (v := .tmp 49) rfl ?_); refine put_event rfl 97 (.tmp 51) (.tmp 49) rfl rfl g 4 #[(.slice (some ⟨go, 0, none⟩) n co), .slice A l.length c, .int .i64 at_, .int .u64 (IntKind.u64.wrap (code - (IntKind.u64.wrap ((rng / 4096) * (IntKind.u64.wrap (rd od p)))))), .int .u64 rng, .int .i64 err] 141 (.int .u64 (IntKind.u64.wrap (rng - (IntKind.u64.wrap ((rng / 4096) * (IntKind.u64.wrap (rd od p))))))) rfl rfl rfl rfl (by kernel_rfl) BK.out (by simp) ?_; intro w7 h1 hk hbb; have n0_ := Aside0.mk (show w7.heap[g]? = some (.cells #[(.slice (some ⟨go, 0, none⟩) n co), .slice A l.length c, .int .i64 at_, .int .u64 (IntKind.u64.wrap (code - (IntKind.u64.wrap ((rng / 4096) * (IntKind.u64.wrap (rd od p)))))), .int .u64 (IntKind.u64.wrap (rng - (IntKind.u64.wrap ((rng / 4096) * (IntKind.u64.wrap (rd od p)))))), .int .i64 err] 141 (0, 0)) from h1); have n1_ := Aside0.mk (hbb _ _ HB.out GE.out); have n2_ := Aside0.mk (Kept.then_ HK.out hk (fun k_ h_ => .inl (.inl h_))); have n3_ := Aside0.mk (Kd.R_mono (Kd.R_kept (Kd.R_types HO.out BK.out (by decide)) hk (fun k_ ho_ hs_ => ho_.2 hs_)) (fun _ h_ => h_.1)); clear HO; have HO := n3_; clear n3_; clear BK HB HK h1 hk hbb; have BK := n0_; have HB := n1_; have HK := n2_; clear n0_ n1_ n2_))
  clear hz0 hz1 hz2 hz3 hz4 hz5 hq hf
  have hz0 : w7.cell? ⟨g, 0, none⟩ = some ((.slice (some ⟨go, 0, none⟩) n co)) := (blk_cell BK.out 0).trans rfl
  have hz1 : w7.cell? ⟨g, 1, none⟩ = some (.slice A l.length c) := (blk_cell BK.out 1).trans rfl
  have hz2 : w7.cell? ⟨g, 2, none⟩ = some (.int .i64 at_) := (blk_cell BK.out 2).trans rfl
  have hz3 : w7.cell? ⟨g, 3, none⟩ = some (.int .u64 (IntKind.u64.wrap (code - (IntKind.u64.wrap ((rng / 4096) * (IntKind.u64.wrap (rd od p))))))) := (blk_cell BK.out 3).trans rfl
  have hz4 : w7.cell? ⟨g, 4, none⟩ = some (.int .u64 (IntKind.u64.wrap (rng - (IntKind.u64.wrap ((rng / 4096) * (IntKind.u64.wrap (rd od p))))))) := (blk_cell BK.out 4).trans rfl
  have hz5 : w7.cell? ⟨g, 5, none⟩ = some (.int .i64 err) := (blk_cell BK.out 5).trans rfl
  go_wp2_with (first | ((with_reducible refine gate_callee (f := 142) rfl ?_); refine goesL_ (some 58) rfl rfl Try.func142 (by kernel_rfl) rfl #[(.slice (some ⟨go, 0, none⟩) n co), .int .i64 p, .int .i64 1] rfl (by (try simp only [List.map_toArray, List.map_cons, List.map_nil]); first | done | rfl) ?_; (with_reducible refine (impl_zodds_learn.calls (fun k_ => k_ = go) (.slice (some ⟨go, 0, none⟩) n co) od p 1 od2 w _ HB.out HO.out A6.out).mono ?_); rintro e w9 ⟨rfl, ho, hb, hk⟩; refine ⟨_, rfl, ?_⟩; have n0_ := Aside0.mk (Kd.R_mono (Kd.R_tight rfl ho) (fun k_ h_ => (Option.some.inj h_))); have n2_ := Aside0.mk (blk_kept BK.out hk (fun e_ => Kd.R_ne HO.out BK.out (by decide) (e_ ▸ rfl))); have n4_ := Aside0.mk (Kept.then_ HK.out hk (fun k_ h_ => .inl (.inr h_))); clear HO BK HB HK hk; have HO := n0_; have BK := n2_; have HB := Aside0.mk hb; have HK := n4_; clear n0_ n2_ n4_ ho hb))
  clear hz0 hz1 hz2 hz3 hz4 hz5
  go_loopg [] k (fun kq w' => ∃ (at_ code rng err : Int), Aside0 (impl_zdecoder_bit.l0 kq l at_ code rng err = some (t1, t2, t3, t4)) ∧ Aside0 (kq ≤ k) ∧ Aside0 (Kd.R (Kd.int .i64) 3 w' w.heap.size (fun k_ => k_ = go) (.slice (some ⟨go, 0, none⟩) n co) od2) ∧ Aside0 (w'.heap[g]? = some (.cells #[(.slice (some ⟨go, 0, none⟩) n co), .slice A l.length c, .int .i64 at_, .int .u64 code, .int .u64 rng, .int .i64 err] 141 (0, 0))) ∧ Aside0 (Below w.heap.size w w') ∧ Aside0 (Kept wa w' (fun k_ => k_ = g ∨ k_ = go)))
  case atStart => exact ⟨at_, (IntKind.u64.wrap (code - (IntKind.u64.wrap ((rng / 4096) * (IntKind.u64.wrap (rd od p)))))), (IntKind.u64.wrap (rng - (IntKind.u64.wrap ((rng / 4096) * (IntKind.u64.wrap (rd od p)))))), err, HL, ⟨Nat.le_refl _⟩, HO, BK, HB, HK⟩
  case round =>
    clear HL HO BK HB HK
    obtain ⟨at_, code, rng, err, HA, HK1, HO, BK, HB, HK⟩ := hrel
    cases gk with
    | zero => exact absurd HA.out (by simp [impl_zdecoder_bit.l0])
    | succ k1 =>
      have H := HA.out
      clear HA
      simp only [impl_zdecoder_bit.l0] at H
      by_cases d1 : rng < 16777216
      rotate_left
      · rw [if_neg d1] at H
        have d1b := decide_eq_false d1
        clear d1
        simp only [Option.some.injEq, Prod.mk.injEq] at H
        obtain ⟨rfl, rfl, rfl, rfl⟩ := H
        have hz0 : wr.cell? ⟨g, 0, none⟩ = some ((.slice (some ⟨go, 0, none⟩) n co)) := (blk_cell BK.out 0).trans rfl
        have hz1 : wr.cell? ⟨g, 1, none⟩ = some (.slice A l.length c) := (blk_cell BK.out 1).trans rfl
        have hz2 : wr.cell? ⟨g, 2, none⟩ = some (.int .i64 at_) := (blk_cell BK.out 2).trans rfl
        have hz3 : wr.cell? ⟨g, 3, none⟩ = some (.int .u64 code) := (blk_cell BK.out 3).trans rfl
        have hz4 : wr.cell? ⟨g, 4, none⟩ = some (.int .u64 rng) := (blk_cell BK.out 4).trans rfl
        have hz5 : wr.cell? ⟨g, 5, none⟩ = some (.int .i64 err) := (blk_cell BK.out 5).trans rfl
        go_wp2
        go_ret
        exact ⟨rfl, BK.out, HO.out, HB.out, HK.out⟩
      rw [if_pos d1] at H
      have d1b := decide_eq_true d1
      clear d1
      by_cases d2 : err = 0
      rotate_left
      · rw [if_neg d2] at H
        have d2b := beq_eq_false_iff_ne.mpr d2
        clear d2
        simp only [Option.some.injEq, Prod.mk.injEq] at H
        obtain ⟨rfl, rfl, rfl, rfl⟩ := H
        have hz0 : wr.cell? ⟨g, 0, none⟩ = some ((.slice (some ⟨go, 0, none⟩) n co)) := (blk_cell BK.out 0).trans rfl
        have hz1 : wr.cell? ⟨g, 1, none⟩ = some (.slice A l.length c) := (blk_cell BK.out 1).trans rfl
        have hz2 : wr.cell? ⟨g, 2, none⟩ = some (.int .i64 at_) := (blk_cell BK.out 2).trans rfl
        have hz3 : wr.cell? ⟨g, 3, none⟩ = some (.int .u64 code) := (blk_cell BK.out 3).trans rfl
        have hz4 : wr.cell? ⟨g, 4, none⟩ = some (.int .u64 rng) := (blk_cell BK.out 4).trans rfl
        have hz5 : wr.cell? ⟨g, 5, none⟩ = some (.int .i64 err) := (blk_cell BK.out 5).trans rfl
        go_wp2
        go_ret
        exact ⟨rfl, BK.out, HO.out, HB.out, HK.out⟩
      rw [if_pos d2] at H
      have d2b := beq_iff_eq.mpr d2
      clear d2
      replace H := Option.bind_eq_some_iff.mp H
      obtain ⟨⟨at2, code2, err2⟩, A90, H⟩ := H
      replace H : impl_zdecoder_bit.l0 k1 l at2 code2 (IntKind.u64.wrap (rng * 256)) err2 = some (t1, t2, t3, t4) := H
      have A9 := Aside0.mk A90
      have H' := Aside0.mk H
      clear A90 H
      have hz0 : wr.cell? ⟨g, 0, none⟩ = some ((.slice (some ⟨go, 0, none⟩) n co)) := (blk_cell BK.out 0).trans rfl
      have hz1 : wr.cell? ⟨g, 1, none⟩ = some (.slice A l.length c) := (blk_cell BK.out 1).trans rfl
      have hz2 : wr.cell? ⟨g, 2, none⟩ = some (.int .i64 at_) := (blk_cell BK.out 2).trans rfl
      have hz3 : wr.cell? ⟨g, 3, none⟩ = some (.int .u64 code) := (blk_cell BK.out 3).trans rfl
      have hz4 : wr.cell? ⟨g, 4, none⟩ = some (.int .u64 rng) := (blk_cell BK.out 4).trans rfl
      have hz5 : wr.cell? ⟨g, 5, none⟩ = some (.int .i64 err) := (blk_cell BK.out 5).trans rfl
      go_wp2_with (first | ((with_reducible refine gate_store (t := 97) (p := 77) (v := .tmp 75) rfl ?_); refine put_event rfl 97 (.tmp 77) (.tmp 75) rfl rfl g 4 #[(.slice (some ⟨go, 0, none⟩) n co), .slice A l.length c, .int .i64 at_, .int .u64 code, .int .u64 rng, .int .i64 err] 141 (.int .u64 (IntKind.u64.wrap (rng * 256))) rfl rfl rfl rfl (by kernel_rfl) BK.out (by simp) ?_; intro w11 h1 hk hbb; have n0_ := Aside0.mk (show w11.heap[g]? = some (.cells #[(.slice (some ⟨go, 0, none⟩) n co), .slice A l.length c, .int .i64 at_, .int .u64 code, .int .u64 (IntKind.u64.wrap (rng * 256)), .int .i64 err] 141 (0, 0)) from h1); have n1_ := Aside0.mk (hbb _ _ HB.out GE.out); have n2_ := Aside0.mk (Kept.then_ HK.out hk (fun k_ h_ => .inl (.inl h_))); have n3_ := Aside0.mk (Kd.R_mono (Kd.R_kept (Kd.R_types HO.out BK.out (by decide)) hk (fun k_ ho_ hs_ => ho_.2 hs_)) (fun _ h_ => h_.1)); clear HO; have HO := n3_; clear n3_; clear BK HB HK h1 hk hbb; have BK := n0_; have HB := n1_; have HK := n2_; clear n0_ n1_ n2_) | ((with_reducible refine gate_callee (f := 158) rfl ?_); refine goesL_ (some 79) rfl rfl Try.func158 (by kernel_rfl) rfl #[.pointer (some ⟨g, 0, none⟩)] rfl (by (try simp only [List.map_toArray, List.map_cons, List.map_nil]); first | done | rfl) ?_; (with_reducible refine (impl_zdecoder_more.calls k1 g A c l at_ code (IntKind.u64.wrap (rng * 256)) err (.slice (some ⟨go, 0, none⟩) n co) at2 code2 err2 w _ HB.out GE.out HD.out BK.out A9.out).mono ?_); rintro e w12 ⟨rfl, hbx, hb, hk⟩; refine ⟨_, rfl, ?_⟩; have n0_ := Aside0.mk (Kd.R_mono (Kd.R_kept (Kd.R_types HO.out BK.out (by decide)) hk (fun k_ ho_ hs_ => ho_.2 hs_)) (fun _ h_ => h_.1)); have n1_ := Aside0.mk (Kept.then_ HK.out hk (fun k_ h_ => .inl (.inl h_))); clear HO BK HB HK hk; have HO := n0_; have HK := n1_; have BK := Aside0.mk hbx; have HB := Aside0.mk hb; clear n0_ n1_ hbx hb))
      go_roundg k1
      case measure => have := HK1.out; omega
      case rel => exact ⟨at2, code2, _, err2, H', ⟨by have := HK1.out; omega⟩, HO, BK, HB, HK⟩

/-! ### impl_OddsUnpack: function 64 -/
theorem impl_OddsUnpack.still_ {P : Program} {id : Nat} {Q : Exit → Act → World → Prop} {a : Act} {w : World} {l : List Oper} (hm : P.follows .mixedOrders = true) (hB : Region.lexB .any l.toArray = true)
    (h : ∀ w1, w1 = w.drew → wpStill P l.toArray w1 (fun a' => Q .normal a' w1) l a) : (Code.region id l.toArray true).wp P Q a w := wp_region_still_lit hm hB (h _ rfl)
def impl_OddsUnpack.l1 : Nat → List Int → List Int → Int → List Int → Int → Int → Int → List Int → Int → Option (Int × List Int × Int)
  | 0, _, _, _, _, _, _, _, _, _ => none
  | k + 1, l, ls, i, bits, at_, code, rng, od, err => if i < (ls.length : Int) then (if 0 ≤ i then ((impl_zdecoder_bit.f k l at_ code rng od err (rd ls i)).bind fun t => (if bits.length < 17592186044416 then (impl_OddsUnpack.l1 k l ls (wrap64 (i + 1)) (bits ++ [t.1]) t.2.1 t.2.2.1 t.2.2.2.1 t.2.2.2.2.1 t.2.2.2.2.2) else (none))) else (none)) else (if err = 0 then (some (0, bits, at_)) else (some (err, ([] : List Int), 0)))
def impl_OddsUnpack.f (k : Nat) (places : Int) (l ls : List Int) : Option (Int × List Int × Int) := if places < 1 then (some (1, ([] : List Int), 0)) else (if places > 512 then (some (1, ([] : List Int), 0)) else ((impl_zrange.f k ls 0 (wrap64 (places - 1)) 20000).bind fun t => (if t = true then ((impl_znewDecoder.f k places l).bind fun t => (impl_OddsUnpack.l1 k l ls 0 ([] : List Int) t.1 t.2.1 4294967295 t.2.2.2 t.2.2.1)) else (some (1, ([] : List Int), 0)))))
theorem impl_OddsUnpack.mono_l : ∀ k, (∀ y0 y1 y2 y3 y4 y5 y6 y7 y8, LeO (impl_OddsUnpack.l1 k y0 y1 y2 y3 y4 y5 y6 y7 y8) (impl_OddsUnpack.l1 (k + 1) y0 y1 y2 y3 y4 y5 y6 y7 y8))
  | 0 => fun _ _ _ _ _ _ _ _ _ r h => by simp [impl_OddsUnpack.l1] at h
  | k + 1 => by
    have ih := impl_OddsUnpack.mono_l k
    have ih0 := ih
    · intro y0 y1 y2 y3 y4 y5 y6 y7 y8
      unfold impl_OddsUnpack.l1
      repeat' first
      | (with_reducible exact ih0 _ _ _ _ _ _ _ _ _)
      | (with_reducible exact impl_zdecoder_bit.mono _ _ _ _ _ _ _ _)
      | (with_reducible exact impl_znewDecoder.mono _ _ _)
      | (with_reducible exact impl_zrange.mono _ _ _ _ _)
      | (with_reducible exact LeO.refl _)
      | (with_reducible exact LeO.none _)
      | (with_reducible refine LeO.ite ?_ ?_)
      | (with_reducible refine LeO.bind ?_ (fun _ => ?_))
      | exact ih0 _ _ _ _ _ _ _ _ _
      | exact impl_zdecoder_bit.mono _ _ _ _ _ _ _ _
      | exact impl_znewDecoder.mono _ _ _
      | exact impl_zrange.mono _ _ _ _ _
      | exact LeO.none _
      | refine LeO.ite ?_ ?_
      | refine LeO.bind ?_ (fun _ => ?_)
theorem impl_OddsUnpack.mono : ∀ a0 a1 a2 k, LeO (impl_OddsUnpack.f k a0 a1 a2) (impl_OddsUnpack.f (k + 1) a0 a1 a2) := by
  intro a0 a1 a2 k
  have ih := impl_OddsUnpack.mono_l k
  have ih0 := ih
  unfold impl_OddsUnpack.f
  repeat' first
      | (with_reducible exact ih0 _ _ _ _ _ _ _ _ _)
      | (with_reducible exact impl_zdecoder_bit.mono _ _ _ _ _ _ _ _)
      | (with_reducible exact impl_znewDecoder.mono _ _ _)
      | (with_reducible exact impl_zrange.mono _ _ _ _ _)
      | (with_reducible exact LeO.refl _)
      | (with_reducible exact LeO.none _)
      | (with_reducible refine LeO.ite ?_ ?_)
      | (with_reducible refine LeO.bind ?_ (fun _ => ?_))
      | exact ih0 _ _ _ _ _ _ _ _ _
      | exact impl_zdecoder_bit.mono _ _ _ _ _ _ _ _
      | exact impl_znewDecoder.mono _ _ _
      | exact impl_zrange.mono _ _ _ _ _
      | exact LeO.none _
      | refine LeO.ite ?_ ?_
      | refine LeO.bind ?_ (fun _ => ?_)
def impl_OddsUnpack.T : Bool × List (List Nat × List Nat) := (true, [([], []), ([0], [0]), ([], []), ([], []), ([2, 3], [2, 3]), ([4], [4]), ([1, 5, 4], [1, 5]), ([0, 1, 2, 3, 4, 5, 6], []), ([7, 6, 6, 0, 1, 2, 3, 4, 5, 6], [6, 7])])
def impl_OddsUnpack.B : List Nat := [0, 1, 0, 0, 12, 28, 63, 127, 255]
theorem impl_OddsUnpack.tab : rtab .any (opsOf Try.f64 8) = impl_OddsUnpack.T := by kernel_rfl
theorem impl_OddsUnpack.bits : waitsOk impl_OddsUnpack.T.2 impl_OddsUnpack.B = true := by kernel_rfl
set_option maxHeartbeats 8000000 in
set_option maxRecDepth 100000 in
theorem impl_OddsUnpack.calls (k : Nat) (places : Int) (A : Option Addr) (c : Nat) (l : List Int) (A2_ : Option Addr) (c2_ : Nat) (ls : List Int) (r1 : Int) (r2 : List Int) (r3 : Int) (w : World) (hd : Kd.C (Kd.int .u8) w A l.length l) (hc : l.length ≤ c) (he : Kd.C (Kd.int .i64) w A2_ ls.length ls) (hc2 : ls.length ≤ c2_) (h : impl_OddsUnpack.f k places l ls = some (r1, r2, r3)) :
    Calls Try.prog 64 #[.int .i64 places, .slice A l.length c, .slice A2_ ls.length c2_] w fun e w' => ∃ v1_ : Value, e = .returned (.agg #[.int .i64 r1, v1_, .int .i64 r3]) ∧ Kd.R (Kd.int .i64) 3 w' w.heap.size (fun _ => True) v1_ r2 ∧ Below w.heap.size w w' := by
  have hu_ := Try.underlying84
  have HD := Aside0.mk hd
  have HE := Aside0.mk he
  have HC2 := Aside0.mk hc2
  clear hd he hc hc2
  have H := h
  clear h
  unfold impl_OddsUnpack.f at H
  go_enter Try.func64, Try.ntmps64
  go_upto_region 1 with (first | ((with_reducible refine gate_dst (N := 6) rfl ?_); refine box_event ?hg (N := 6) ?hd (cs := #[.int .i64 0, .slice none 0 0, .int .i64 0]) (t := 84) ?hr ?_; (case hd => rfl); (case hg => rfl); (case hr => first | (go_simp; done) | (go_simp; rfl)); intro gr hg w1 hbox hb; have GR := Aside0.mk (show w.heap.size ≤ gr from Nat.le_of_eq hg.symm); have HB := Aside0.mk hb; have BR := Aside0.mk hbox; clear hg hb hbox))
  by_cases c1 : places < 1
  · rw [if_pos c1] at H
    have c1b := decide_eq_true c1
    clear c1
    simp only [Option.some.injEq, Prod.mk.injEq] at H
    obtain ⟨rfl, rfl, rfl⟩ := H
    have hy0 : w1.cell? ⟨gr, 0, none⟩ = some (.int .i64 0) := (blk_cell BR.out 0).trans rfl
    have hfy0 := blk_frozen BR.out 0
    have hy1 : w1.cell? ⟨gr, 1, none⟩ = some (.slice none 0 0) := (blk_cell BR.out 1).trans rfl
    have hfy1 := blk_frozen BR.out 1
    have hy2 : w1.cell? ⟨gr, 2, none⟩ = some (.int .i64 0) := (blk_cell BR.out 2).trans rfl
    have hfy2 := blk_frozen BR.out 2
    go_wp2
    refine bodyPost_ret (results_cell_row rfl _ _ gr 84 #[.int .i64 1, .slice none 0 0, .int .i64 0] (0, 0) _ rfl (by refine blk_put (cs := #[.int .i64 1, .slice none 0 0, .int .i64 0]) ?_ 2 _ rfl; refine blk_put (cs := #[.int .i64 1, .slice none 0 0, .int .i64 0]) ?_ 1 _ rfl; refine blk_put (cs := #[.int .i64 0, .slice none 0 0, .int .i64 0]) ?_ 0 _ rfl; exact BR.out) Try.underlying84 rfl (by kernel_rfl)) rfl ?_
    exact ⟨_, rfl, Kd.R_nil _ _ _ _ _, below_set (below_set (below_set HB.out GR.out) GR.out) GR.out⟩
  rw [if_neg c1] at H
  have c1b := decide_eq_false c1
  clear c1
  by_cases c2 : places > 512
  · rw [if_pos c2] at H
    have c2b : decide (512 < places) = true := decide_eq_true c2
    clear c2
    simp only [Option.some.injEq, Prod.mk.injEq] at H
    obtain ⟨rfl, rfl, rfl⟩ := H
    have hy0 : w1.cell? ⟨gr, 0, none⟩ = some (.int .i64 0) := (blk_cell BR.out 0).trans rfl
    have hfy0 := blk_frozen BR.out 0
    have hy1 : w1.cell? ⟨gr, 1, none⟩ = some (.slice none 0 0) := (blk_cell BR.out 1).trans rfl
    have hfy1 := blk_frozen BR.out 1
    have hy2 : w1.cell? ⟨gr, 2, none⟩ = some (.int .i64 0) := (blk_cell BR.out 2).trans rfl
    have hfy2 := blk_frozen BR.out 2
    go_wp2
    refine bodyPost_ret (results_cell_row rfl _ _ gr 84 #[.int .i64 1, .slice none 0 0, .int .i64 0] (0, 0) _ rfl (by refine blk_put (cs := #[.int .i64 1, .slice none 0 0, .int .i64 0]) ?_ 2 _ rfl; refine blk_put (cs := #[.int .i64 1, .slice none 0 0, .int .i64 0]) ?_ 1 _ rfl; refine blk_put (cs := #[.int .i64 0, .slice none 0 0, .int .i64 0]) ?_ 0 _ rfl; exact BR.out) Try.underlying84 rfl (by kernel_rfl)) rfl ?_
    exact ⟨_, rfl, Kd.R_nil _ _ _ _ _, below_set (below_set (below_set HB.out GR.out) GR.out) GR.out⟩
  rw [if_neg c2] at H
  have c2b : decide (512 < places) = false := decide_eq_false c2
  clear c2
  replace H := Option.bind_eq_some_iff.mp H
  obtain ⟨tz, A30, H⟩ := H
  try dsimp only at H
  have A3 := Aside0.mk A30
  clear A30
  by_cases c4 : tz = true
  rotate_left
  · rw [if_neg c4] at H
    replace c4 := Bool.eq_false_iff.mpr c4
    subst c4
    simp only [Option.some.injEq, Prod.mk.injEq] at H
    obtain ⟨rfl, rfl, rfl⟩ := H
    go_upto_if 23 with (first | (go_at_call 118; (with_reducible refine (impl_zrange.calls k _ _ ls 0 (wrap64 (places - 1)) 20000 _ _ (Kd.C_below HE.out HB.out) ?side2 A3.out).mono ?_); (case side2 => exact HC2.out); rintro e w' ⟨rfl, ⟨nd, rfl⟩⟩; have n0_ := Aside0.mk (blk_drewN BR.out nd); have n1_ := Aside0.mk (pw_below_drewN HB.out nd); clear BR HB; have BR := n0_; have HB := n1_; clear n0_ n1_; generalize w1.drewN nd = w2 at BR HB ⊢))
    have hy0 : w2.cell? ⟨gr, 0, none⟩ = some (.int .i64 0) := (blk_cell BR.out 0).trans rfl
    have hfy0 := blk_frozen BR.out 0
    have hy1 : w2.cell? ⟨gr, 1, none⟩ = some (.slice none 0 0) := (blk_cell BR.out 1).trans rfl
    have hfy1 := blk_frozen BR.out 1
    have hy2 : w2.cell? ⟨gr, 2, none⟩ = some (.int .i64 0) := (blk_cell BR.out 2).trans rfl
    have hfy2 := blk_frozen BR.out 2
    go_wp2
    refine bodyPost_ret (results_cell_row rfl _ _ gr 84 #[.int .i64 1, .slice none 0 0, .int .i64 0] (0, 0) _ rfl (by refine blk_put (cs := #[.int .i64 1, .slice none 0 0, .int .i64 0]) ?_ 2 _ rfl; refine blk_put (cs := #[.int .i64 1, .slice none 0 0, .int .i64 0]) ?_ 1 _ rfl; refine blk_put (cs := #[.int .i64 0, .slice none 0 0, .int .i64 0]) ?_ 0 _ rfl; exact BR.out) Try.underlying84 rfl (by kernel_rfl)) rfl ?_
    exact ⟨_, rfl, Kd.R_nil _ _ _ _ _, below_set (below_set (below_set HB.out GR.out) GR.out) GR.out⟩
  rw [if_pos c4] at H
  subst c4
  go_upto_if 23 with (first | (go_at_call 118; (with_reducible refine (impl_zrange.calls k _ _ ls 0 (wrap64 (places - 1)) 20000 _ _ (Kd.C_below HE.out HB.out) ?side2 A3.out).mono ?_); (case side2 => exact HC2.out); rintro e w' ⟨rfl, ⟨nd, rfl⟩⟩; have n0_ := Aside0.mk (blk_drewN BR.out nd); have n1_ := Aside0.mk (pw_below_drewN HB.out nd); clear BR HB; have BR := n0_; have HB := n1_; clear n0_ n1_; generalize w1.drewN nd = w2 at BR HB ⊢))
  replace H := Option.bind_eq_some_iff.mp H
  obtain ⟨⟨t1, t2, t3, od⟩, A20, H⟩ := H
  replace H : impl_OddsUnpack.l1 k l ls 0 ([] : List Int) t1 t2 4294967295 od t3 = some (r1, r2, r3) := H
  have A2 := Aside0.mk A20
  have HL := Aside0.mk H
  clear A20 H
  go_wp2_with (first | ((with_reducible refine gate_callee (f := 124) rfl ?_); refine goesL_ (some 27) rfl rfl Try.func124 (by kernel_rfl) rfl #[.int .i64 places, .slice A l.length c] rfl (by (try simp only [List.map_toArray, List.map_cons, List.map_nil]); first | done | rfl) ?_; (with_reducible refine (impl_znewDecoder.calls k places A c l t1 t2 t3 od _ (Kd.C_below HD.out HB.out) A2.out).mono ?_); rintro e w2b ⟨g, go, n, co, rfl, hge, hbk, ho, hb⟩; refine ⟨_, rfl, ?_⟩; have GE := Aside0.mk (Nat.le_trans (below_size HB.out) hge); have HO := Aside0.mk (Kd.R_lower ho (below_size HB.out)); have BK := Aside0.mk hbk; have n0_ := Aside0.mk (blk_below BR.out hb); have n1_ := Aside0.mk (below_step HB.out hb); clear BR HB hge hbk ho hb; have BR := n0_; have HB := n1_; clear n0_ n1_) | ((with_reducible refine gate_dst (N := 8) rfl ?_); refine box_event ?hg (N := 8) ?hd (cs := #[.int .i64 0, .slice none 0 0, .int .i64 0]) (t := 84) ?hr ?_; (case hd => rfl); (case hg => rfl); (case hr => first | (go_simp; done) | (go_simp; rfl)); intro gx hg w3 hbox hb; have GX := Aside0.mk (show w.heap.size ≤ gx from by rw [hg]; exact below_size HB.out); have NE := Aside0.mk (show gr ≠ gx from by have h1_ := blk_lt BR.out; omega); have n0_ := Aside0.mk (blk_below BR.out hb); have n1_ := Aside0.mk (blk_below BK.out hb); have n2_ := Aside0.mk (Kd.R_below HO.out hb); have n3_ := Aside0.mk (below_step HB.out hb); clear BR BK HO HB; have BR := n0_; have BK := n1_; have HO := n2_; have HB := n3_; have BO := Aside0.mk hbox; clear n0_ n1_ n2_ n3_ hg hb hbox))
  go_loopg [30] k (fun kq v30 w' => ∃ (i : Int) (bits : List Int) (at_ code rng : Int) (od : List Int) (err : Int) (u : Value), v30 = .int .i64 i ∧ Aside0 (impl_OddsUnpack.l1 kq l ls i bits at_ code rng od err = some (r1, r2, r3)) ∧ Aside0 (kq ≤ k) ∧ Aside0 (Kd.R (Kd.int .i64) 3 w' w.heap.size (fun k_ => k_ = go) (.slice (some ⟨go, 0, none⟩) n co) od) ∧ Aside0 (Kd.R (Kd.int .i64) 3 w' w.heap.size (fun k_ => k_ ≠ go) u bits) ∧ Aside0 (w'.heap[g]? = some (.cells #[(.slice (some ⟨go, 0, none⟩) n co), .slice A l.length c, .int .i64 at_, .int .u64 code, .int .u64 rng, .int .i64 err] 141 (0, 0))) ∧ Aside0 (w'.heap[gr]? = some (.cells #[.int .i64 0, .slice none 0 0, .int .i64 0] 84 (0, 0))) ∧ Aside0 (w'.heap[gx]? = some (.cells #[.int .i64 0, u, .int .i64 0] 84 (0, 0))) ∧ Aside0 (Below w.heap.size w w'))
  case atStart => exact ⟨0, [], t1, t2, 4294967295, od, t3, .slice none 0 0, rfl, HL, ⟨Nat.le_refl _⟩, HO, ⟨Kd.R_nil _ _ _ _ _⟩, BK, BR, BO, HB⟩
  case round =>
    clear HL HO BK BR BO HB
    obtain ⟨i, bits, at_, code, rng, od, err, u, rfl, HA, HK1, HO, HS, BK, BR, BO, HB⟩ := hrel
    cases gk with
    | zero => exact absurd HA.out (by simp [impl_OddsUnpack.l1])
    | succ k1 =>
      have H := HA.out
      clear HA
      simp only [impl_OddsUnpack.l1] at H
      by_cases d1 : i < (ls.length : Int)
      rotate_left
      · rw [if_neg d1] at H
        have d1b := decide_eq_false d1
        clear d1
        by_cases d2 : err = 0
        · rw [if_pos d2] at H
          have d2b := bne_eq_false_iff_eq.mpr d2
          have d2c := beq_iff_eq.mpr d2
          clear d2
          simp only [Option.some.injEq, Prod.mk.injEq] at H
          obtain ⟨rfl, rfl, rfl⟩ := H
          obtain ⟨Ax, cx, ex⟩ := Kd.R_slice HS.out
          subst ex
          have hz0 : wr.cell? ⟨g, 0, none⟩ = some ((.slice (some ⟨go, 0, none⟩) n co)) := (blk_cell BK.out 0).trans rfl
          have hz1 : wr.cell? ⟨g, 1, none⟩ = some (.slice A l.length c) := (blk_cell BK.out 1).trans rfl
          have hz2 : wr.cell? ⟨g, 2, none⟩ = some (.int .i64 at_) := (blk_cell BK.out 2).trans rfl
          have hz3 : wr.cell? ⟨g, 3, none⟩ = some (.int .u64 code) := (blk_cell BK.out 3).trans rfl
          have hz4 : wr.cell? ⟨g, 4, none⟩ = some (.int .u64 rng) := (blk_cell BK.out 4).trans rfl
          have hz5 : wr.cell? ⟨g, 5, none⟩ = some (.int .i64 err) := (blk_cell BK.out 5).trans rfl
          go_upto_region 13 with (first | ((with_reducible refine gate_store (t := 3) (p := 57) (v := .tmp 56) rfl ?_); refine put_event rfl 3 (.tmp 57) (.tmp 56) rfl rfl gx 2 #[.int .i64 0, .slice Ax bits.length cx, .int .i64 0] 84 (.int .i64 at_) rfl rfl rfl rfl (by kernel_rfl) BO.out (by simp) ?_; intro w30 h1 hk hbb; have n0_ := Aside0.mk (show w30.heap[gx]? = some (.cells #[.int .i64 0, .slice Ax bits.length cx, .int .i64 at_] 84 (0, 0)) from h1); have n1_ := Aside0.mk (blk_kept BR.out hk (fun e_ => NE.out e_)); have n2_ := Aside0.mk (hbb _ _ HB.out GX.out); have n3_ := Aside0.mk (Kd.R_mono (Kd.R_kept (Kd.R_types HS.out BO.out (by decide)) hk (fun k_ ho_ hs_ => ho_.2 hs_)) (fun _ h_ => h_.1)); clear BO BR HB HS h1 hk hbb; have BO := n0_; have BR := n1_; have HB := n2_; have HS := n3_; clear n0_ n1_ n2_ n3_))
          clear hz0 hz1 hz2 hz3 hz4 hz5
          have hy0 : w30.cell? ⟨gr, 0, none⟩ = some (.int .i64 0) := (blk_cell BR.out 0).trans rfl
          have hfy0 := blk_frozen BR.out 0
          have hy1 : w30.cell? ⟨gr, 1, none⟩ = some (.slice none 0 0) := (blk_cell BR.out 1).trans rfl
          have hfy1 := blk_frozen BR.out 1
          have hy2 : w30.cell? ⟨gr, 2, none⟩ = some (.int .i64 0) := (blk_cell BR.out 2).trans rfl
          have hfy2 := blk_frozen BR.out 2
          have hx0 : w30.cell? ⟨gx, 0, none⟩ = some (.int .i64 0) := (blk_cell BO.out 0).trans rfl
          have hfx0 := blk_frozen BO.out 0
          have hx1 : w30.cell? ⟨gx, 1, none⟩ = some (.slice Ax bits.length cx) := (blk_cell BO.out 1).trans rfl
          have hfx1 := blk_frozen BO.out 1
          have hx2 : w30.cell? ⟨gx, 2, none⟩ = some (.int .i64 at_) := (blk_cell BO.out 2).trans rfl
          have hfx2 := blk_frozen BO.out 2
          have hne1_ := NE.out
          have hne2_ := Ne.symm NE.out
          go_wp2
          refine bodyPost_ret (results_cell_row rfl _ _ gr 84 #[.int .i64 0, .slice Ax bits.length cx, .int .i64 at_] (0, 0) _ rfl (by refine blk_put (cs := #[.int .i64 0, .slice Ax bits.length cx, .int .i64 0]) ?_ 2 _ rfl; refine blk_put (cs := #[.int .i64 0, .slice none 0 0, .int .i64 0]) ?_ 1 _ rfl; refine blk_put (cs := #[.int .i64 0, .slice none 0 0, .int .i64 0]) ?_ 0 _ rfl; exact BR.out) Try.underlying84 rfl (by kernel_rfl)) rfl ?_
          exact ⟨_, rfl, Kd.R_mono (Kd.R_far (p := ⟨gr, 2, none⟩) (Kd.R_far (p := ⟨gr, 1, none⟩) (Kd.R_far (p := ⟨gr, 0, none⟩) (Kd.R_types HS.out BR.out (by decide)) (fun _ hk => hk.2) (.int .i64 0)) (fun _ hk => hk.2) (.slice Ax bits.length cx)) (fun _ hk => hk.2) (.int .i64 at_)) (fun _ _ => trivial), below_set (below_set (below_set HB.out GR.out) GR.out) GR.out⟩
        rw [if_neg d2] at H
        have d2b := bne_iff_ne.mpr d2
        have d2c := beq_eq_false_iff_ne.mpr d2
        clear d2
        simp only [Option.some.injEq, Prod.mk.injEq] at H
        obtain ⟨rfl, rfl, rfl⟩ := H
        have hz0 : wr.cell? ⟨g, 0, none⟩ = some ((.slice (some ⟨go, 0, none⟩) n co)) := (blk_cell BK.out 0).trans rfl
        have hz1 : wr.cell? ⟨g, 1, none⟩ = some (.slice A l.length c) := (blk_cell BK.out 1).trans rfl
        have hz2 : wr.cell? ⟨g, 2, none⟩ = some (.int .i64 at_) := (blk_cell BK.out 2).trans rfl
        have hz3 : wr.cell? ⟨g, 3, none⟩ = some (.int .u64 code) := (blk_cell BK.out 3).trans rfl
        have hz4 : wr.cell? ⟨g, 4, none⟩ = some (.int .u64 rng) := (blk_cell BK.out 4).trans rfl
        have hz5 : wr.cell? ⟨g, 5, none⟩ = some (.int .i64 err) := (blk_cell BK.out 5).trans rfl
        have hy0 : wr.cell? ⟨gr, 0, none⟩ = some (.int .i64 0) := (blk_cell BR.out 0).trans rfl
        have hfy0 := blk_frozen BR.out 0
        have hy1 : wr.cell? ⟨gr, 1, none⟩ = some (.slice none 0 0) := (blk_cell BR.out 1).trans rfl
        have hfy1 := blk_frozen BR.out 1
        have hy2 : wr.cell? ⟨gr, 2, none⟩ = some (.int .i64 0) := (blk_cell BR.out 2).trans rfl
        have hfy2 := blk_frozen BR.out 2
        go_wp2
        refine bodyPost_ret (results_cell_row rfl _ _ gr 84 #[.int .i64 err, .slice none 0 0, .int .i64 0] (0, 0) _ rfl (by refine blk_put (cs := #[.int .i64 err, .slice none 0 0, .int .i64 0]) ?_ 2 _ rfl; refine blk_put (cs := #[.int .i64 err, .slice none 0 0, .int .i64 0]) ?_ 1 _ rfl; refine blk_put (cs := #[.int .i64 0, .slice none 0 0, .int .i64 0]) ?_ 0 _ rfl; exact BR.out) Try.underlying84 rfl (by kernel_rfl)) rfl ?_
        exact ⟨_, rfl, Kd.R_nil _ _ _ _ _, below_set (below_set (below_set HB.out GR.out) GR.out) GR.out⟩
      rw [if_pos d1] at H
      by_cases d2 : 0 ≤ i
      rotate_left
      · rw [if_neg d2] at H
        exact absurd H (by simp)
      rw [if_pos d2] at H
      replace H := Option.bind_eq_some_iff.mp H
      obtain ⟨⟨b, e1, e2, e3, e4, e5⟩, A50, H⟩ := H
      dsimp only at H
      have A5 := Aside0.mk A50
      clear A50
      by_cases d3 : bits.length < 17592186044416
      rotate_left
      · rw [if_neg d3] at H
        exact absurd H (by simp)
      rw [if_pos d3] at H
      have LM := Aside0.mk d3
      clear d3
      have HX := Aside0.mk H
      clear H
      obtain ⟨ad, ea, hx⟩ := Kd.at_int (Kd.C_below HE.out HB.out) i d2 d1
      cases ea
      have d1b := decide_eq_true d1
      have d2b := decide_eq_true d2
      replace d1 := eq_true d1
      replace d2 := eq_true d2
      go_upto_region 8 with (fail)
      try go_wp2
      have n_HO := Aside0.mk (Kd.R_drew HO.out)
      have n_HS := Aside0.mk (Kd.R_drew HS.out)
      have n_BK := Aside0.mk (blk_drew BK.out)
      have n_BR := Aside0.mk (blk_drew BR.out)
      have n_BO := Aside0.mk (blk_drew BO.out)
      have n_HB := Aside0.mk (below_drew1 HB.out)
      clear HO HS BK BR BO HB
      have HO := n_HO
      have HS := n_HS
      have BK := n_BK
      have BR := n_BR
      have BO := n_BO
      have HB := n_HB
      clear n_HO n_HS n_BK n_BR n_BO n_HB
      refine start_ (n := 9) (S := fun w' => w'.cell? ⟨gx, 0, none⟩ = some (.int .i64 0) ∧ w'.cell? ⟨gx, 1, none⟩ = some (u) ∧ w'.cell? ⟨gx, 2, none⟩ = some (.int .i64 0)) (ds := [8]) #[false, false, false, false, false, false, false, false, false] (by kernel_rfl) rfl rfl ⟨(blk_cell BO.out 0).trans rfl, (blk_cell BO.out 1).trans rfl, (blk_cell BO.out 2).trans rfl⟩ (fun hHeld => ?_); refine with_tabW impl_OddsUnpack.tab impl_OddsUnpack.bits (fun HT_ HW_ => ?_)
      generalize wr.drew = w19 at HO HS BK BR BO HB hHeld ⊢
      refine pure_ (i := 0) (N := some 34) (v := ?_) (a' := ?_) #[true, false, false, false, false, false, false, false, false] rfl rfl (any_of HT_.out (by kernel_rfl)) (fun _ _ _ h => h) (Or.inl ⟨by rfl, ?_⟩) ?_ ?_
      rotate_left
      · intro w'
        go_simp
        with_reducible rfl
      rotate_left
      · simp only [Act.put, List.setIfInBounds_toArray, List.set_cons_zero, List.set_cons_succ, i64_w, i32_w]
        rfl
      refine pure_ (i := 2) (N := some 36) (v := ?_) (a' := ?_) #[true, false, true, false, false, false, false, false, false] rfl rfl (any_of HT_.out (by kernel_rfl)) (fun _ _ _ h => h) (Or.inl ⟨by rfl, ?_⟩) ?_ ?_
      rotate_left
      · intro w'
        go_simp
        with_reducible rfl
      rotate_left
      · simp only [Act.put, List.setIfInBounds_toArray, List.set_cons_zero, List.set_cons_succ, i64_w, i32_w]
        rfl
      refine pure_ (i := 3) (N := some 37) (v := ?_) (a' := ?_) #[true, false, true, true, false, false, false, false, false] rfl rfl (any_of HT_.out (by kernel_rfl)) (fun _ _ _ h => h) (Or.inl ⟨by rfl, ?_⟩) ?_ ?_
      rotate_left
      · intro w'
        go_simp
        with_reducible rfl
      rotate_left
      · simp only [Act.put, List.setIfInBounds_toArray, List.set_cons_zero, List.set_cons_succ, i64_w, i32_w]
        rfl
      refine take_ (i := 1) (N := some 35) (v := ?_) (a' := ?_) #[true, true, true, true, false, false, false, false, false] rfl rfl (take_ofW HT_.out HW_.out (by kernel_rfl)) (fun _ _ _ h => h) (Or.inl ⟨by rfl, ?_⟩) hHeld ?_ ?_
      rotate_left
      · rintro w' ⟨s0, s1, s2⟩
        go_simp
        with_reducible rfl
      rotate_left
      · simp only [Act.put, List.setIfInBounds_toArray, List.set_cons_zero, List.set_cons_succ, i64_w, i32_w]
        rfl
      refine one_ (i := 4) (N := some 38) #[true, true, true, true, true, false, false, false, false] rfl rfl (one_of HT_.out (by kernel_rfl)) (by decide) (fun K hK => ?_)
      refine goes_ Try.func125 (by kernel_rfl) rfl #[.pointer (some ⟨g, 0, none⟩), .int .i64 (rd ls i)] (by rfl) rfl rfl (by (try simp only [List.map_toArray, List.map_cons, List.map_nil]); first | done | rfl | (simp only [List.length_drop, List.length_take]; rfl)) ?_
      with_reducible refine (impl_zdecoder_bit.calls k1 g go n co A c l at_ code rng err od (rd ls i) b e1 e2 e3 e4 e5 w _ HB.out GE.out HD.out HO.out BK.out A5.out).mono ?_
      rintro e w20 ⟨rfl, hbx, ho, hb, hk⟩
      refine ⟨_, rfl, ?_⟩
      have n0_ := Aside0.mk (Kd.R_mono (Kd.R_kept (Kd.R_types HS.out BK.out (by decide)) hk (fun k_ ho_ hs_ => hs_.elim ho_.2 ho_.1)) (fun _ h_ => h_.1))
      have n1_ := Aside0.mk (blk_kept BR.out hk (fun e_ => e_.elim (blk_ne BR.out BK.out (by decide)) (fun e_ => Kd.R_ne HO.out BR.out (by decide) (e_ ▸ rfl))))
      have n2_ := Aside0.mk (blk_kept BO.out hk (fun e_ => e_.elim (blk_ne BO.out BK.out (by decide)) (fun e_ => Kd.R_ne HO.out BO.out (by decide) (e_ ▸ rfl))))
      clear HO HS BK BR BO HB hk
      have HO := Aside0.mk ho
      have HS := n0_
      have BK := Aside0.mk hbx
      have BR := n1_
      have BO := n2_
      have HB := Aside0.mk hb
      clear n0_ n1_ n2_ ho hbx hb
      refine hK.out _ _ ⟨(blk_cell BO.out 0).trans rfl, (blk_cell BO.out 1).trans rfl, (blk_cell BO.out 2).trans rfl⟩ (fun hHeld => ?_)
      clear hK K
      refine norm_ (a' := ?_) ?_ ?_
      rotate_left
      · show Act.put _ (some 38) _ = _
        simp only [Act.put, List.setIfInBounds_toArray, List.set_cons_zero, List.set_cons_succ, i64_w, i32_w]
        rfl
      refine one_ (i := 5) (N := some 39) #[true, true, true, true, true, true, false, false, false] rfl rfl (one_of HT_.out (by kernel_rfl)) (by decide) (fun K hK => ?_)
      refine value_ (w1 := ?_) (v := ?_) (by rfl) rfl ?_ ?_
      rotate_left 2
      · go_simp
        constructor
        · rfl
        · rfl
      refine hK.out _ _ ⟨(blk_cell (blk_alloc BO.out _) 0).trans rfl, (blk_cell (blk_alloc BO.out _) 1).trans rfl, (blk_cell (blk_alloc BO.out _) 2).trans rfl⟩ (fun hHeld => ?_)
      clear hK K
      refine norm_ (a' := ?_) ?_ ?_
      rotate_left
      · show Act.put _ (some 39) _ = _
        simp only [Act.put, List.setIfInBounds_toArray, List.set_cons_zero, List.set_cons_succ, i64_w, i32_w]
        rfl
      refine one_ (i := 6) (N := some 40) #[true, true, true, true, true, true, true, false, false] rfl rfl (one_of HT_.out (by kernel_rfl)) (by decide) (fun K hK => ?_)
      refine Kd.R_append_step (Kd.int .i64) (w0 := w) w.heap.size (by rfl) (.tmp 35) (.tmp 39) 22 3 (.int .i64 0) 8 rfl Try.underlying22 info3 rfl (by decide) (by omega) u bits b [.int .i64 b] (fun k_ => k_ ≠ go) (fun _ => False) rfl rfl ?aP (fun _ hk => hk.elim) ?aF ?aO ?aB ?aS ?aL ?_
      (case aP => exact rfl)
      (case aB => exact HB.out)
      (case aF => intro k_ hk_ e_; subst e_; obtain ⟨cs_, hc_⟩ := Kd.R_typed HO.out _ rfl; have h1_ := blk_lt hc_; dsimp only at h1_; omega)
      (case aO => exact HS.out)
      (case aS => exact below_size HB.out)
      (case aL => have := LM.out; omega)
      intro v1 w21 ho hb hg hat
      have n0_ := Aside0.mk (Kd.R_grown HO.out hg (fun k_ ho_ e_ => HS.out.1 k_ e_.symm ho_))
      have n1_ := Aside0.mk (blk_grown BK.out hg (Kd.R_ne HS.out BK.out (by decide)))
      have n2_ := Aside0.mk (blk_grown BR.out hg (Kd.R_ne HS.out BR.out (by decide)))
      have n3_ := Aside0.mk (blk_grown BO.out hg (Kd.R_ne HS.out BO.out (by decide)))
      clear HO HS BK BR BO HB hg hat
      have HO := n0_
      have HS := Aside0.mk ho
      have BK := n1_
      have BR := n2_
      have BO := n3_
      have HB := Aside0.mk hb
      clear n0_ n1_ n2_ n3_ ho hb
      obtain ⟨Ax, cx, ex⟩ := Kd.R_slice HS.out
      obtain ⟨nb, hnb⟩ : ∃ nb, (bits ++ [b]).length = nb := ⟨_, rfl⟩
      rw [hnb] at ex
      clear hnb
      subst ex
      refine hK.out _ _ ⟨(blk_cell BO.out 0).trans rfl, (blk_cell BO.out 1).trans rfl, (blk_cell BO.out 2).trans rfl⟩ (fun hHeld => ?_)
      clear hK K
      refine norm_ (a' := ?_) ?_ ?_
      rotate_left
      · show Act.put _ (some 40) _ = _
        simp only [Act.put, List.setIfInBounds_toArray, List.set_cons_zero, List.set_cons_succ, i64_w, i32_w]
        rfl
      refine pure_ (i := 7) (N := some 41) (v := ?_) (a' := ?_) #[true, true, true, true, true, true, true, true, false] rfl rfl (any_of HT_.out (by kernel_rfl)) (fun _ _ _ h => h) (Or.inl ⟨by rfl, ?_⟩) ?_ ?_
      rotate_left
      · intro w'
        go_simp
        with_reducible rfl
      rotate_left
      · simp only [Act.put, List.setIfInBounds_toArray, List.set_cons_zero, List.set_cons_succ, i64_w, i32_w]
        rfl
      refine last_ (i := 8) (N := none) #[true, true, true, true, true, true, true, true, true] rfl rfl (one_of HT_.out (by kernel_rfl)) (by decide) (fun K hK => ?_)
      have hs_ : w21.cell? ⟨gx, 1, none⟩ = some (u) := (blk_cell BO.out 1).trans rfl
      have hfs_ := blk_frozen BO.out 1
      refine skip_ (w1 := ?_) (by rfl) rfl ?_ ?_
      rotate_left
      · go_simp
        rfl
      refine hK.out _ _ ?_
      clear hK K
      refine done_ (done_of HT_.out (by kernel_rfl)) ?_
      clear hs_ hfs_
      have hk2 := kept_set (W := w21) gx 1 (.slice Ax nb cx)
      have n0_ := Aside0.mk (Kd.R_mono (Kd.R_kept (Kd.R_types HO.out BO.out (by decide)) hk2 (fun k_ ho_ hs_ => ho_.2 hs_)) (fun _ h_ => h_.1))
      have n1_ := Aside0.mk (Kd.R_mono (Kd.R_kept (Kd.R_types HS.out BO.out (by decide)) hk2 (fun k_ ho_ hs_ => ho_.2 hs_)) (fun _ h_ => h_.1))
      have n2_ := Aside0.mk (blk_kept BK.out hk2 (fun e_ => blk_ne BK.out BO.out (by decide) e_))
      have n3_ := Aside0.mk (blk_kept BR.out hk2 (fun e_ => NE.out e_))
      have n4_ := Aside0.mk (blk_set BO.out 1 (.slice Ax nb cx))
      have n5_ := Aside0.mk (show Below w.heap.size w (w21.setCell ⟨gx, 1, none⟩ (.slice Ax nb cx)) from below_set HB.out GX.out)
      clear HO HS BK BR BO HB hk2
      generalize w21.setCell ⟨gx, 1, none⟩ (.slice Ax nb cx) = w22 at n0_ n1_ n2_ n3_ n4_ n5_ ⊢
      have HO := n0_
      have HS := n1_
      have BK := n2_
      have BR := n3_
      have BO := Aside0.mk (show w22.heap[gx]? = some (.cells #[.int .i64 0, (.slice Ax nb cx), .int .i64 0] 84 (0, 0)) from n4_.out)
      have HB := n5_
      clear n0_ n1_ n2_ n3_ n4_ n5_
      clear d1 d2 d1b d2b hx
      have H' := HX
      clear HX
      try go_wp2
      go_roundg k1
      case measure => have := HK1.out; (try have := HK0.out); omega
      case rel => exact ⟨_, _, e1, e2, e3, e4, e5, _, (by first | rfl | (simp; done) | (simp [*]; done)), H', ⟨by have := HK1.out; (try have := HK0.out); omega⟩, HO, HS, BK, BR, BO, HB⟩

/-! ### laws_eqChosen: function 65 -/
def laws_eqChosen.f (k : Nat) (a0_0 : Int) (l0_1 : List Int) (a0_2 : Int) (a1_0 : Int) (l1_1 : List Int) (a1_2 : Int) : Option (Bool) := if a0_0 = a1_0 then ((laws_eqIntS.f k l0_1 l1_1).bind fun t134 => (if t134 = true then (if a0_2 = a1_2 then (some true) else (some false)) else (some false))) else (some false)
theorem laws_eqChosen.mono : ∀ a0 a1 a2 a3 a4 a5 k, LeO (laws_eqChosen.f k a0 a1 a2 a3 a4 a5) (laws_eqChosen.f (k + 1) a0 a1 a2 a3 a4 a5) := by
  intro a0 a1 a2 a3 a4 a5 k
  unfold laws_eqChosen.f
  repeat' first
      | (with_reducible exact laws_eqIntS.mono _ _ _)
      | (with_reducible exact LeO.refl _)
      | (with_reducible exact LeO.none _)
      | (with_reducible refine LeO.ite ?_ ?_)
      | (with_reducible refine LeO.bind ?_ (fun _ => ?_))
      | exact laws_eqIntS.mono _ _ _
      | exact LeO.none _
      | refine LeO.ite ?_ ?_
      | refine LeO.bind ?_ (fun _ => ?_)
set_option maxHeartbeats 8000000 in
set_option maxRecDepth 100000 in
theorem laws_eqChosen.calls (k : Nat) (a0_0 : Int) (A0_1 : Option Addr) (c0_1 : Nat) (l0_1 : List Int) (a0_2 : Int) (a1_0 : Int) (A1_1 : Option Addr) (c1_1 : Nat) (l1_1 : List Int) (a1_2 : Int) (r : Bool) (w : World) (hr0_1 : Kd.C (Kd.int .i64) w A0_1 l0_1.length l0_1) (hc0_1 : l0_1.length ≤ c0_1) (hr1_1 : Kd.C (Kd.int .i64) w A1_1 l1_1.length l1_1) (hc1_1 : l1_1.length ≤ c1_1) (h : laws_eqChosen.f k a0_0 l0_1 a0_2 a1_0 l1_1 a1_2 = some r) :
    Calls Try.prog 65 #[.agg #[.int .i64 a0_0, .slice A0_1 l0_1.length c0_1, .int .i64 a0_2], .agg #[.int .i64 a1_0, .slice A1_1 l1_1.length c1_1, .int .i64 a1_2]] w fun e w' => e = .returned (.bool r) ∧ Below w.heap.size w w' := by
  have hu84 := Try.underlying84
  have HR0_1 := Aside0.mk hr0_1
  have HC0_1 := Aside0.mk hc0_1
  clear hr0_1 hc0_1
  have HR1_1 := Aside0.mk hr1_1
  have HC1_1 := Aside0.mk hc1_1
  clear hr1_1 hc1_1
  have HB := Aside0.mk (Below.refl w.heap.size w)
  have H : (if a0_0 = a1_0 then ((laws_eqIntS.f k l0_1 l1_1).bind fun t134 => (if t134 = true then (if a0_2 = a1_2 then (some true) else (some false)) else (some false))) else (some false)) = some r := h
  clear h
  by_cases c3 : a0_0 = a1_0
  rotate_left
  · rw [if_neg c3] at H
    have c3b0 : (a0_0 == a1_0) = false := beq_eq_false_iff_ne.mpr c3
    have c3b1 : (a0_0 != a1_0) = true := bne_iff_ne.mpr c3
    obtain rfl := Option.some.inj H
    go_enter Try.func65, Try.ntmps65
    go_wp2_with (first | ((with_reducible refine gate_dst (N := 2) rfl ?_); refine box_event ?hg (N := 2) ?hd (cs := #[.int .i64 a0_0, .slice A0_1 l0_1.length c0_1, .int .i64 a0_2]) (t := 84) ?hr ?_; (case hd => rfl); (case hg => rfl); (case hr => first | (go_simp; done) | (go_simp; rfl)); intro gb132 hg w22 hbox hb; have n0_ := Aside0.mk (below_step (by repeat (first | (with_reducible first | exact HB.out | apply below_alloc | apply pw_below_drewN | apply below_drew1) | exact HB.out)) hb); have n1_ := Aside0.mk (hbox); have n2_ := Aside0.mk ((by rw [hg]; exact (below_size (by repeat (first | (with_reducible first | exact HB.out | apply below_alloc | apply pw_below_drewN | apply below_drew1) | exact HB.out))) : w.heap.size ≤ gb132)); have n3_ := n2_; clear HB; have HB := n0_; have BK132 := n1_; have GW132 := n2_; have GE132 := n3_; clear n0_ n1_ n2_ n3_; clear hb hbox hg) | ((with_reducible refine gate_dst (N := 3) rfl ?_); refine box_event ?hg (N := 3) ?hd (cs := #[.int .i64 a1_0, .slice A1_1 l1_1.length c1_1, .int .i64 a1_2]) (t := 84) ?hr ?_; (case hd => rfl); (case hg => rfl); (case hr => first | (go_simp; done) | (go_simp; rfl)); intro gb133 hg w23 hbox hb; have n0_ := Aside0.mk (blk_below (g := gb132) (o := .cells #[.int .i64 a0_0, .slice A0_1 l0_1.length c0_1, .int .i64 a0_2] 84 (0, 0)) (by (with_reducible repeat (first | refine blk_drewN ?_ _ | refine blk_drew ?_ | refine blk_alloc ?_ _)); exact BK132.out) hb); have n1_ := Aside0.mk (below_step (by repeat (first | (with_reducible first | exact HB.out | apply below_alloc | apply pw_below_drewN | apply below_drew1 | refine below_set ?_ GE132.out) | exact HB.out)) hb); have n2_ := Aside0.mk (hbox); have n3_ := Aside0.mk ((by rw [hg]; exact (below_size (by repeat (first | (with_reducible first | exact HB.out | apply below_alloc | apply pw_below_drewN | apply below_drew1 | refine below_set ?_ GE132.out) | exact HB.out))) : w.heap.size ≤ gb133)); have n4_ := n3_; have n5_ := Aside0.mk ((by rw [hg]; exact Nat.ne_of_lt (blk_lt (g := gb132) (o := .cells #[.int .i64 a0_0, .slice A0_1 l0_1.length c0_1, .int .i64 a0_2] 84 (0, 0)) (by (with_reducible repeat (first | refine blk_drewN ?_ _ | refine blk_drew ?_ | refine blk_alloc ?_ _)); exact BK132.out)) : gb132 ≠ gb133)); have n6_ := Aside0.mk ((by rw [hg]; exact Nat.ne_of_gt (blk_lt (g := gb132) (o := .cells #[.int .i64 a0_0, .slice A0_1 l0_1.length c0_1, .int .i64 a0_2] 84 (0, 0)) (by (with_reducible repeat (first | refine blk_drewN ?_ _ | refine blk_drew ?_ | refine blk_alloc ?_ _)); exact BK132.out)) : gb133 ≠ gb132)); clear BK132; clear HB; have BK132 := n0_; have HB := n1_; have BK133 := n2_; have GW133 := n3_; have GE133 := n4_; have NB132_133 := n5_; have NB133_132 := n6_; clear n0_ n1_ n2_ n3_ n4_ n5_ n6_; clear hb hbox hg; have hnb24 := NB132_133.out; have hnc24 := NB133_132.out; have hcz25_0 : w23.cell? ⟨gb132, 0, none⟩ = some (.int .i64 a0_0) := (blk_cell BK132.out 0).trans rfl; have hcz25_1 : w23.cell? ⟨gb132, 1, none⟩ = some (.slice A0_1 l0_1.length c0_1) := (blk_cell BK132.out 1).trans rfl; have hcz25_2 : w23.cell? ⟨gb132, 2, none⟩ = some (.int .i64 a0_2) := (blk_cell BK132.out 2).trans rfl; have hfz25_0 := blk_frozen BK132.out 0; have hfz25_1 := blk_frozen BK132.out 1; have hfz25_2 := blk_frozen BK132.out 2; have hcz26_0 : w23.cell? ⟨gb133, 0, none⟩ = some (.int .i64 a1_0) := (blk_cell BK133.out 0).trans rfl; have hcz26_1 : w23.cell? ⟨gb133, 1, none⟩ = some (.slice A1_1 l1_1.length c1_1) := (blk_cell BK133.out 1).trans rfl; have hcz26_2 : w23.cell? ⟨gb133, 2, none⟩ = some (.int .i64 a1_2) := (blk_cell BK133.out 2).trans rfl; have hfz26_0 := blk_frozen BK133.out 0; have hfz26_1 := blk_frozen BK133.out 1; have hfz26_2 := blk_frozen BK133.out 2))
    go_ret
    exact ⟨by first | rfl | (simp [errW_none, errW_some] <;> rfl) | (simp [*, errW_none, errW_some] <;> rfl), by repeat (first | (with_reducible first | exact HB.out | apply below_alloc | apply pw_below_drewN | apply below_drew1 | refine below_set ?_ GE132.out | refine below_set ?_ GE133.out) | exact HB.out)⟩
  rw [if_pos c3] at H
  have c3b0 : (a0_0 == a1_0) = true := beq_iff_eq.mpr c3
  have c3b1 : (a0_0 != a1_0) = false := bne_eq_false_iff_eq.mpr c3
  clear c3
  replace H := Option.bind_eq_some_iff.mp H
  obtain ⟨t134, A40, H⟩ := H
  replace H : (if t134 = true then (if a0_2 = a1_2 then (some true) else (some false)) else (some false)) = some r := H
  have A4 := Aside0.mk A40
  clear A40
  by_cases c5 : t134 = true
  rotate_left
  · replace c5 := Bool.eq_false_iff.mpr c5
    subst c5
    have H1 : (some false) = some r := by rw [if_neg (show ¬ (false = true) by decide)] at H; exact H
    clear H
    have H := H1
    clear H1
    obtain rfl := Option.some.inj H
    go_enter Try.func65, Try.ntmps65
    go_wp2_with (first | ((with_reducible refine gate_dst (N := 2) rfl ?_); refine box_event ?hg (N := 2) ?hd (cs := #[.int .i64 a0_0, .slice A0_1 l0_1.length c0_1, .int .i64 a0_2]) (t := 84) ?hr ?_; (case hd => rfl); (case hg => rfl); (case hr => first | (go_simp; done) | (go_simp; rfl)); intro gb132 hg w17 hbox hb; have n0_ := Aside0.mk (below_step (by repeat (first | (with_reducible first | exact HB.out | apply below_alloc | apply pw_below_drewN | apply below_drew1) | exact HB.out)) hb); have n1_ := Aside0.mk (hbox); have n2_ := Aside0.mk ((by rw [hg]; exact (below_size (by repeat (first | (with_reducible first | exact HB.out | apply below_alloc | apply pw_below_drewN | apply below_drew1) | exact HB.out))) : w.heap.size ≤ gb132)); have n3_ := n2_; clear HB; have HB := n0_; have BK132 := n1_; have GW132 := n2_; have GE132 := n3_; clear n0_ n1_ n2_ n3_; clear hb hbox hg) | ((with_reducible refine gate_dst (N := 3) rfl ?_); refine box_event ?hg (N := 3) ?hd (cs := #[.int .i64 a1_0, .slice A1_1 l1_1.length c1_1, .int .i64 a1_2]) (t := 84) ?hr ?_; (case hd => rfl); (case hg => rfl); (case hr => first | (go_simp; done) | (go_simp; rfl)); intro gb133 hg w18 hbox hb; have n0_ := Aside0.mk (blk_below (g := gb132) (o := .cells #[.int .i64 a0_0, .slice A0_1 l0_1.length c0_1, .int .i64 a0_2] 84 (0, 0)) (by (with_reducible repeat (first | refine blk_drewN ?_ _ | refine blk_drew ?_ | refine blk_alloc ?_ _)); exact BK132.out) hb); have n1_ := Aside0.mk (below_step (by repeat (first | (with_reducible first | exact HB.out | apply below_alloc | apply pw_below_drewN | apply below_drew1 | refine below_set ?_ GE132.out) | exact HB.out)) hb); have n2_ := Aside0.mk (hbox); have n3_ := Aside0.mk ((by rw [hg]; exact (below_size (by repeat (first | (with_reducible first | exact HB.out | apply below_alloc | apply pw_below_drewN | apply below_drew1 | refine below_set ?_ GE132.out) | exact HB.out))) : w.heap.size ≤ gb133)); have n4_ := n3_; have n5_ := Aside0.mk ((by rw [hg]; exact Nat.ne_of_lt (blk_lt (g := gb132) (o := .cells #[.int .i64 a0_0, .slice A0_1 l0_1.length c0_1, .int .i64 a0_2] 84 (0, 0)) (by (with_reducible repeat (first | refine blk_drewN ?_ _ | refine blk_drew ?_ | refine blk_alloc ?_ _)); exact BK132.out)) : gb132 ≠ gb133)); have n6_ := Aside0.mk ((by rw [hg]; exact Nat.ne_of_gt (blk_lt (g := gb132) (o := .cells #[.int .i64 a0_0, .slice A0_1 l0_1.length c0_1, .int .i64 a0_2] 84 (0, 0)) (by (with_reducible repeat (first | refine blk_drewN ?_ _ | refine blk_drew ?_ | refine blk_alloc ?_ _)); exact BK132.out)) : gb133 ≠ gb132)); clear BK132; clear HB; have BK132 := n0_; have HB := n1_; have BK133 := n2_; have GW133 := n3_; have GE133 := n4_; have NB132_133 := n5_; have NB133_132 := n6_; clear n0_ n1_ n2_ n3_ n4_ n5_ n6_; clear hb hbox hg; have hnb19 := NB132_133.out; have hnc19 := NB133_132.out; have hcz20_0 : w18.cell? ⟨gb132, 0, none⟩ = some (.int .i64 a0_0) := (blk_cell BK132.out 0).trans rfl; have hcz20_1 : w18.cell? ⟨gb132, 1, none⟩ = some (.slice A0_1 l0_1.length c0_1) := (blk_cell BK132.out 1).trans rfl; have hcz20_2 : w18.cell? ⟨gb132, 2, none⟩ = some (.int .i64 a0_2) := (blk_cell BK132.out 2).trans rfl; have hfz20_0 := blk_frozen BK132.out 0; have hfz20_1 := blk_frozen BK132.out 1; have hfz20_2 := blk_frozen BK132.out 2; have hcz21_0 : w18.cell? ⟨gb133, 0, none⟩ = some (.int .i64 a1_0) := (blk_cell BK133.out 0).trans rfl; have hcz21_1 : w18.cell? ⟨gb133, 1, none⟩ = some (.slice A1_1 l1_1.length c1_1) := (blk_cell BK133.out 1).trans rfl; have hcz21_2 : w18.cell? ⟨gb133, 2, none⟩ = some (.int .i64 a1_2) := (blk_cell BK133.out 2).trans rfl; have hfz21_0 := blk_frozen BK133.out 0; have hfz21_1 := blk_frozen BK133.out 1; have hfz21_2 := blk_frozen BK133.out 2) | ((with_reducible refine gate_callee (f := 17) rfl ?_); refine goesL_ (some 14) rfl rfl Try.func17 (by kernel_rfl) rfl #[.slice A0_1 l0_1.length c0_1, .slice A1_1 l1_1.length c1_1] rfl (by (try simp only [List.map_toArray, List.map_cons, List.map_nil]); first | done | rfl | (simp only [List.length_drop, List.length_take]; rfl)) ?_; (with_reducible refine (laws_eqIntS.calls k _ _ l0_1 _ _ l1_1 false _ ?side1 ?side2 ?side3 ?side4 A4.out).mono ?_); (case side1 => repeat (first | exact (Kd.C_below HR0_1.out HB.out) | (with_reducible refine Kd.C_alloc ?_ _) | (with_reducible refine Kd.C_drewN ?_ _) | (with_reducible refine Kd.C_drew ?_))); (case side2 => exact HC0_1.out); (case side3 => repeat (first | exact (Kd.C_below HR1_1.out HB.out) | (with_reducible refine Kd.C_alloc ?_ _) | (with_reducible refine Kd.C_drewN ?_ _) | (with_reducible refine Kd.C_drew ?_))); (case side4 => exact HC1_1.out); rintro e w' ⟨rfl, ⟨nd, rfl⟩⟩; refine ⟨_, rfl, ?_⟩))
    go_ret
    exact ⟨by first | rfl | (simp [errW_none, errW_some] <;> rfl) | (simp [*, errW_none, errW_some] <;> rfl), by repeat (first | (with_reducible first | exact HB.out | apply below_alloc | apply pw_below_drewN | apply below_drew1 | refine below_set ?_ GE132.out | refine below_set ?_ GE133.out) | exact HB.out)⟩
  subst c5
  have H1 : (if a0_2 = a1_2 then (some true) else (some false)) = some r := by rw [if_pos rfl] at H; exact H
  clear H
  have H := H1
  clear H1
  by_cases c6 : a0_2 = a1_2
  rw [if_pos c6] at H
  have c6b0 : (a0_2 == a1_2) = true := beq_iff_eq.mpr c6
  have c6b1 : (a0_2 != a1_2) = false := bne_eq_false_iff_eq.mpr c6
  clear c6
  obtain rfl := Option.some.inj H
  rotate_left
  rw [if_neg c6] at H
  have c6b0 : (a0_2 == a1_2) = false := beq_eq_false_iff_ne.mpr c6
  have c6b1 : (a0_2 != a1_2) = true := bne_iff_ne.mpr c6
  obtain rfl := Option.some.inj H
  all_goals
    go_enter Try.func65, Try.ntmps65
    go_wp2_with (first | ((with_reducible refine gate_dst (N := 2) rfl ?_); refine box_event ?hg (N := 2) ?hd (cs := #[.int .i64 a0_0, .slice A0_1 l0_1.length c0_1, .int .i64 a0_2]) (t := 84) ?hr ?_; (case hd => rfl); (case hg => rfl); (case hr => first | (go_simp; done) | (go_simp; rfl)); intro gb132 hg w7 hbox hb; have n0_ := Aside0.mk (below_step (by repeat (first | (with_reducible first | exact HB.out | apply below_alloc | apply pw_below_drewN | apply below_drew1) | exact HB.out)) hb); have n1_ := Aside0.mk (hbox); have n2_ := Aside0.mk ((by rw [hg]; exact (below_size (by repeat (first | (with_reducible first | exact HB.out | apply below_alloc | apply pw_below_drewN | apply below_drew1) | exact HB.out))) : w.heap.size ≤ gb132)); have n3_ := n2_; clear HB; have HB := n0_; have BK132 := n1_; have GW132 := n2_; have GE132 := n3_; clear n0_ n1_ n2_ n3_; clear hb hbox hg) | ((with_reducible refine gate_dst (N := 3) rfl ?_); refine box_event ?hg (N := 3) ?hd (cs := #[.int .i64 a1_0, .slice A1_1 l1_1.length c1_1, .int .i64 a1_2]) (t := 84) ?hr ?_; (case hd => rfl); (case hg => rfl); (case hr => first | (go_simp; done) | (go_simp; rfl)); intro gb133 hg w8 hbox hb; have n0_ := Aside0.mk (blk_below (g := gb132) (o := .cells #[.int .i64 a0_0, .slice A0_1 l0_1.length c0_1, .int .i64 a0_2] 84 (0, 0)) (by (with_reducible repeat (first | refine blk_drewN ?_ _ | refine blk_drew ?_ | refine blk_alloc ?_ _)); exact BK132.out) hb); have n1_ := Aside0.mk (below_step (by repeat (first | (with_reducible first | exact HB.out | apply below_alloc | apply pw_below_drewN | apply below_drew1 | refine below_set ?_ GE132.out) | exact HB.out)) hb); have n2_ := Aside0.mk (hbox); have n3_ := Aside0.mk ((by rw [hg]; exact (below_size (by repeat (first | (with_reducible first | exact HB.out | apply below_alloc | apply pw_below_drewN | apply below_drew1 | refine below_set ?_ GE132.out) | exact HB.out))) : w.heap.size ≤ gb133)); have n4_ := n3_; have n5_ := Aside0.mk ((by rw [hg]; exact Nat.ne_of_lt (blk_lt (g := gb132) (o := .cells #[.int .i64 a0_0, .slice A0_1 l0_1.length c0_1, .int .i64 a0_2] 84 (0, 0)) (by (with_reducible repeat (first | refine blk_drewN ?_ _ | refine blk_drew ?_ | refine blk_alloc ?_ _)); exact BK132.out)) : gb132 ≠ gb133)); have n6_ := Aside0.mk ((by rw [hg]; exact Nat.ne_of_gt (blk_lt (g := gb132) (o := .cells #[.int .i64 a0_0, .slice A0_1 l0_1.length c0_1, .int .i64 a0_2] 84 (0, 0)) (by (with_reducible repeat (first | refine blk_drewN ?_ _ | refine blk_drew ?_ | refine blk_alloc ?_ _)); exact BK132.out)) : gb133 ≠ gb132)); clear BK132; clear HB; have BK132 := n0_; have HB := n1_; have BK133 := n2_; have GW133 := n3_; have GE133 := n4_; have NB132_133 := n5_; have NB133_132 := n6_; clear n0_ n1_ n2_ n3_ n4_ n5_ n6_; clear hb hbox hg; have hnb9 := NB132_133.out; have hnc9 := NB133_132.out; have hcz10_0 : w8.cell? ⟨gb132, 0, none⟩ = some (.int .i64 a0_0) := (blk_cell BK132.out 0).trans rfl; have hcz10_1 : w8.cell? ⟨gb132, 1, none⟩ = some (.slice A0_1 l0_1.length c0_1) := (blk_cell BK132.out 1).trans rfl; have hcz10_2 : w8.cell? ⟨gb132, 2, none⟩ = some (.int .i64 a0_2) := (blk_cell BK132.out 2).trans rfl; have hfz10_0 := blk_frozen BK132.out 0; have hfz10_1 := blk_frozen BK132.out 1; have hfz10_2 := blk_frozen BK132.out 2; have hcz11_0 : w8.cell? ⟨gb133, 0, none⟩ = some (.int .i64 a1_0) := (blk_cell BK133.out 0).trans rfl; have hcz11_1 : w8.cell? ⟨gb133, 1, none⟩ = some (.slice A1_1 l1_1.length c1_1) := (blk_cell BK133.out 1).trans rfl; have hcz11_2 : w8.cell? ⟨gb133, 2, none⟩ = some (.int .i64 a1_2) := (blk_cell BK133.out 2).trans rfl; have hfz11_0 := blk_frozen BK133.out 0; have hfz11_1 := blk_frozen BK133.out 1; have hfz11_2 := blk_frozen BK133.out 2) | ((with_reducible refine gate_callee (f := 17) rfl ?_); refine goesL_ (some 14) rfl rfl Try.func17 (by kernel_rfl) rfl #[.slice A0_1 l0_1.length c0_1, .slice A1_1 l1_1.length c1_1] rfl (by (try simp only [List.map_toArray, List.map_cons, List.map_nil]); first | done | rfl | (simp only [List.length_drop, List.length_take]; rfl)) ?_; (with_reducible refine (laws_eqIntS.calls k _ _ l0_1 _ _ l1_1 true _ ?side1 ?side2 ?side3 ?side4 A4.out).mono ?_); (case side1 => repeat (first | exact (Kd.C_below HR0_1.out HB.out) | (with_reducible refine Kd.C_alloc ?_ _) | (with_reducible refine Kd.C_drewN ?_ _) | (with_reducible refine Kd.C_drew ?_))); (case side2 => exact HC0_1.out); (case side3 => repeat (first | exact (Kd.C_below HR1_1.out HB.out) | (with_reducible refine Kd.C_alloc ?_ _) | (with_reducible refine Kd.C_drewN ?_ _) | (with_reducible refine Kd.C_drew ?_))); (case side4 => exact HC1_1.out); rintro e w' ⟨rfl, ⟨nd, rfl⟩⟩; refine ⟨_, rfl, ?_⟩))
    go_ret
    exact ⟨by first | rfl | (simp [errW_none, errW_some] <;> rfl) | (simp [*, errW_none, errW_some] <;> rfl), by repeat (first | (with_reducible first | exact HB.out | apply below_alloc | apply pw_below_drewN | apply below_drew1 | refine below_set ?_ GE132.out | refine below_set ?_ GE133.out) | exact HB.out)⟩

/-! ### laws_markChosen: function 66 -/
def laws_markChosen.f (k : Nat) (a0_0 : Int) (l0_1 : List Int) (a0_2 : Int) (a1 : Int) : Option (Int × List Int) := (laws_markIntS.f k l0_1 a1).bind fun bt136 => (some (bt136.1, bt136.2))
theorem laws_markChosen.mono : ∀ a0 a1 a2 a3 k, LeO (laws_markChosen.f k a0 a1 a2 a3) (laws_markChosen.f (k + 1) a0 a1 a2 a3) := by
  intro a0 a1 a2 a3 k
  unfold laws_markChosen.f
  repeat' first
      | (with_reducible exact laws_markIntS.mono _ _ _)
      | (with_reducible exact LeO.refl _)
      | (with_reducible exact LeO.none _)
      | (with_reducible refine LeO.ite ?_ ?_)
      | (with_reducible refine LeO.bind ?_ (fun _ => ?_))
      | exact laws_markIntS.mono _ _ _
      | exact LeO.none _
      | refine LeO.ite ?_ ?_
      | refine LeO.bind ?_ (fun _ => ?_)
set_option maxHeartbeats 8000000 in
set_option maxRecDepth 100000 in
theorem laws_markChosen.calls (k : Nat) (a0_0 : Int) (P0_1_ : Nat → Prop) (u9000_ : Value) (l0_1 : List Int) (a0_2 : Int) (a1 : Int) (r1 : Int) (r2 : List Int) (w0 w : World) (hB : Below w0.heap.size w0 w) (ho0_1 : Kd.R (Kd.int .i64) 3 w w0.heap.size P0_1_ u9000_ l0_1) (h : laws_markChosen.f k a0_0 l0_1 a0_2 a1 = some (r1, r2)) :
    Calls Try.prog 66 #[.agg #[.int .i64 a0_0, u9000_, .int .i64 a0_2], .int .i64 a1] w fun e w' => e = .returned (.int .i64 r1) ∧ Kd.R (Kd.int .i64) 3 w' w0.heap.size (fun k_ => (P0_1_ k_ ∨ w.heap.size ≤ k_)) u9000_ r2 ∧ Below w0.heap.size w0 w' ∧ Kept w w' (fun k_ => P0_1_ k_) := by
  have hu84 := Try.underlying84
  have HO0_1 := Aside0.mk (show Kd.R (Kd.int .i64) 3 w w0.heap.size (fun k_ => (P0_1_ k_ ∨ w.heap.size ≤ k_)) u9000_ l0_1 from Kd.R_mono ho0_1 (fun k_ hk => (.inl hk)))
  have HK := Aside0.mk (Kept.refl w (fun k_ => P0_1_ k_))
  have HW0 := Aside0.mk hB.size
  have HB := Aside0.mk hB
  clear hB
  have H : ((laws_markIntS.f k l0_1 a1).bind fun bt136 => (some (bt136.1, bt136.2))) = some (r1, r2) := h
  clear h
  replace H := Option.bind_eq_some_iff.mp H
  obtain ⟨⟨t136, t137⟩, A30, H⟩ := H
  replace H : (some (t136, t137)) = some (r1, r2) := H
  have A3 := Aside0.mk A30
  clear A30
  simp only [Option.some.injEq, Prod.mk.injEq] at H
  obtain ⟨rfl, rfl⟩ := H
  obtain ⟨Ao4, co4, eo4⟩ := Kd.R_slice HO0_1.out
  subst eo4
  go_enter Try.func66, Try.ntmps66
  go_wp2_with (first | ((with_reducible refine gate_dst (N := 2) rfl ?_); refine box_event ?hg (N := 2) ?hd (cs := #[.int .i64 a0_0, .slice Ao4 l0_1.length co4, .int .i64 a0_2]) (t := 84) ?hr ?_; (case hd => rfl); (case hg => rfl); (case hr => first | (go_simp; done) | (go_simp; rfl)); intro gb135 hg w5 hbox hb; have n0_ := Aside0.mk (Kd.R_below (by (with_reducible repeat (first | apply Kd.R_alloc | apply Kd.R_drewN | apply Kd.R_drew)); exact HO0_1.out) hb); have n1_ := Aside0.mk (Kept.below (S := (fun k_ => P0_1_ k_)) (by repeat (first | (with_reducible first | exact HK.out | apply Kept.alloc | apply Kept.drewN | apply Kept.drew) | exact HK.out)) hb); have n2_ := Aside0.mk (below_step (by repeat (first | (with_reducible first | exact HB.out | apply below_alloc | apply pw_below_drewN | apply below_drew1) | exact HB.out)) hb); have n3_ := Aside0.mk (hbox); have n4_ := Aside0.mk ((by rw [hg]; exact (by first | exact HK.out.1 | exact (show Kept w _ (fun k_ => P0_1_ k_) from by repeat (first | (with_reducible first | exact HK.out | apply Kept.alloc | apply Kept.drewN | apply Kept.drew) | exact HK.out)).1) : w.heap.size ≤ gb135)); have n5_ := Aside0.mk ((by rw [hg]; exact (below_size (by repeat (first | (with_reducible first | exact HB.out | apply below_alloc | apply pw_below_drewN | apply below_drew1) | exact HB.out))) : w0.heap.size ≤ gb135)); clear HO0_1; clear HK; clear HB; have HO0_1 := n0_; have HK := n1_; have HB := n2_; have BK135 := n3_; have GW135 := n4_; have GE135 := n5_; clear n0_ n1_ n2_ n3_ n4_ n5_; clear hb hbox hg; have hcz6_0 : w5.cell? ⟨gb135, 0, none⟩ = some (.int .i64 a0_0) := (blk_cell BK135.out 0).trans rfl; have hcz6_1 : w5.cell? ⟨gb135, 1, none⟩ = some (.slice Ao4 l0_1.length co4) := (blk_cell BK135.out 1).trans rfl; have hcz6_2 : w5.cell? ⟨gb135, 2, none⟩ = some (.int .i64 a0_2) := (blk_cell BK135.out 2).trans rfl; have hfz6_0 := blk_frozen BK135.out 0; have hfz6_1 := blk_frozen BK135.out 1; have hfz6_2 := blk_frozen BK135.out 2) | ((with_reducible refine gate_callee (f := 18) rfl ?_); refine goesL_ (some 8) rfl rfl Try.func18 (by kernel_rfl) rfl #[.slice Ao4 l0_1.length co4, .int .i64 a1] rfl (by (try simp only [List.map_toArray, List.map_cons, List.map_nil]); first | done | rfl | (simp only [List.length_drop, List.length_take]; rfl)) ?_; (with_reducible refine (laws_markIntS.calls k (fun k_ => some k_ = (.slice Ao4 l0_1.length co4 : Value).ownBlock) (.slice Ao4 l0_1.length co4) l0_1 a1 t136 t137 w0 _ ?side1 ?side2 A3.out).mono ?_); (case side1 => repeat (first | (with_reducible first | exact HB.out | apply below_alloc | apply pw_below_drewN | apply below_drew1 | refine below_set ?_ GE135.out) | exact HB.out)); (case side2 => exact Kd.R_tight rfl HO0_1.out); rintro e w7 ⟨rfl, hy0, hb, hkp⟩; refine ⟨_, rfl, ?_⟩; have n0_ := Aside0.mk (Kd.R_reok rfl hy0 (fun k_ e_ => HO0_1.out.1 k_ e_)); have n1_ := Aside0.mk (blk_kept (by (with_reducible repeat (first | refine blk_drewN ?_ _ | refine blk_drew ?_ | refine blk_alloc ?_ _)); exact BK135.out) hkp (fun hs_ => (fun e_ => (Kd.R_ne HO0_1.out BK135.out (by decide)) e_) hs_)); have n2_ := Aside0.mk (Kept.then_ (S := (fun k_ => P0_1_ k_)) (by repeat (first | (with_reducible first | exact HK.out | apply Kept.alloc | apply Kept.drewN | apply Kept.drew | refine Kept.setCell ?_ (.inr GW135.out) _) | exact HK.out)) hkp (fun k_ hs_ => (fun e_ => (HO0_1.out.1 k_ e_.symm)) hs_)); have n3_ := Aside0.mk (hb); clear HO0_1; clear BK135; clear HK; clear HB; have HO0_1 := n0_; have BK135 := n1_; have HK := n2_; have HB := n3_; clear n0_ n1_ n2_ n3_; (try clear hb); (try clear hkp); (try clear hy0)))
  go_ret
  exact ⟨by first | rfl | (simp [errW_none, errW_some] <;> rfl) | (simp [*, errW_none, errW_some] <;> rfl), by (with_reducible repeat (first | apply Kd.R_alloc | apply Kd.R_drewN | apply Kd.R_drew)); exact HO0_1.out, by repeat (first | (with_reducible first | exact HB.out | apply below_alloc | apply pw_below_drewN | apply below_drew1 | refine below_set ?_ GE135.out) | exact HB.out), by repeat (first | (with_reducible first | exact HK.out | apply Kept.alloc | apply Kept.drewN | apply Kept.drew | refine Kept.setCell ?_ (.inr GW135.out) _) | exact HK.out)⟩

end Go.Proofs.Ytggokppfhkebkaa.PFnExactOddsUnpack

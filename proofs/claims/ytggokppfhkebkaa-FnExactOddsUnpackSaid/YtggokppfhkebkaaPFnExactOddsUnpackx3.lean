-- written by myprint.py (a program of this session's over the kit's print)
import Derived.Test.YtggokppfhkebkaaPFnExactOddsUnpackx0
import Derived.Test.YtggokppfhkebkaaPFnExactOddsUnpackx2
namespace Go.Proofs.Ytggokppfhkebkaa.PFnExactOddsUnpack
open Go.RowKit Go.Proofs.YtggokppfhkebkaaW.PrintWords Go.Proofs.YtggokppfhkebkaaW.PrintLast Go.Proofs.YtggokppfhkebkaaW.PrintMore
attribute [local go_sem] max2_int min2_int max_two min_two max_three min_three max_four min_four   -- for this text's walks alone
set_option linter.unusedVariables false
set_option linter.unusedSimpArgs false

/-! ### spec_OddsUnpack: function 62 -/
theorem spec_OddsUnpack.still_ {P : Program} {id : Nat} {Q : Exit → Act → World → Prop} {a : Act} {w : World} {l : List Oper} (hm : P.follows .mixedOrders = true) (hB : Region.lexB .any l.toArray = true)
    (h : ∀ w1, w1 = w.drew → wpStill P l.toArray w1 (fun a' => Q .normal a' w1) l a) : (Code.region id l.toArray true).wp P Q a w := wp_region_still_lit hm hB (h _ rfl)
def spec_OddsUnpack.l1 : Nat → List Int → List Int → Int → List Int → Int → Int → Int → List Int → Int → Option (Int × List Int × Int)
  | 0, _, _, _, _, _, _, _, _, _ => none
  | k + 1, l, ls, i, bits, at_, code, rng, od, err => if i < (ls.length : Int) then (if 0 ≤ i then ((spec_l12In_bit.f k l at_ code rng od err (rd ls i)).bind fun t => (if bits.length < 17592186044416 then (if t.2.2.2.2.2 = 0 then (spec_OddsUnpack.l1 k l ls (wrap64 (i + 1)) (bits ++ [t.1]) t.2.1 t.2.2.1 t.2.2.2.1 t.2.2.2.2.1 t.2.2.2.2.2) else (some (t.2.2.2.2.2, ([] : List Int), 0))) else (none))) else (none)) else (if err = 0 then (some (0, bits, at_)) else (some (err, ([] : List Int), 0)))
def spec_OddsUnpack.l0 : Nat → Int → List Int → List Int → Int → Option (Int × List Int × Int)
  | 0, _, _, _, _ => none
  | k + 1, places, l, ls, i => if i < (ls.length : Int) then (if 0 ≤ i then (if (rd ls i) < 0 then (some (1, ([] : List Int), 0)) else (if (rd ls i) ≥ places then (some (1, ([] : List Int), 0)) else (spec_OddsUnpack.l0 k places l ls (wrap64 (i + 1))))) else (none)) else ((spec_l12Open.f k places l).bind fun t => (spec_OddsUnpack.l1 k l ls 0 ([] : List Int) t.1 t.2.1 4294967295 t.2.2.2 t.2.2.1))
def spec_OddsUnpack.f (k : Nat) (places : Int) (l ls : List Int) : Option (Int × List Int × Int) := if places < 1 then (some (1, ([] : List Int), 0)) else (if places > 512 then (some (1, ([] : List Int), 0)) else (if (ls.length : Int) > 20000 then (some (1, ([] : List Int), 0)) else (spec_OddsUnpack.l0 k places l ls 0)))
theorem spec_OddsUnpack.mono_l : ∀ k, (∀ y0 y1 y2 y3 y4 y5 y6 y7 y8, LeO (spec_OddsUnpack.l1 k y0 y1 y2 y3 y4 y5 y6 y7 y8) (spec_OddsUnpack.l1 (k + 1) y0 y1 y2 y3 y4 y5 y6 y7 y8))
  | 0 => fun _ _ _ _ _ _ _ _ _ r h => by simp [spec_OddsUnpack.l1] at h
  | k + 1 => by
    have ih := spec_OddsUnpack.mono_l k
    have ih0 := ih
    · intro y0 y1 y2 y3 y4 y5 y6 y7 y8
      unfold spec_OddsUnpack.l1
      repeat' first
      | (with_reducible exact ih0 _ _ _ _ _ _ _ _ _)
      | (with_reducible exact spec_l12In_bit.mono _ _ _ _ _ _ _ _)
      | (with_reducible exact spec_l12Open.mono _ _ _)
      | (with_reducible exact LeO.refl _)
      | (with_reducible exact LeO.none _)
      | (with_reducible refine LeO.ite ?_ ?_)
      | (with_reducible refine LeO.bind ?_ (fun _ => ?_))
      | exact ih0 _ _ _ _ _ _ _ _ _
      | exact spec_l12In_bit.mono _ _ _ _ _ _ _ _
      | exact spec_l12Open.mono _ _ _
      | exact LeO.none _
      | refine LeO.ite ?_ ?_
      | refine LeO.bind ?_ (fun _ => ?_)
theorem spec_OddsUnpack.mono_l0 : ∀ k, (∀ y0 y1 y2 y3, LeO (spec_OddsUnpack.l0 k y0 y1 y2 y3) (spec_OddsUnpack.l0 (k + 1) y0 y1 y2 y3))
  | 0 => fun _ _ _ _ r h => by simp [spec_OddsUnpack.l0] at h
  | k + 1 => by
    have ih := spec_OddsUnpack.mono_l0 k
    have ih0 := ih
    · intro y0 y1 y2 y3
      unfold spec_OddsUnpack.l0
      repeat' first
      | (with_reducible exact ih0 _ _ _ _)
      | (with_reducible exact spec_l12In_bit.mono _ _ _ _ _ _ _ _)
      | (with_reducible exact spec_l12Open.mono _ _ _)
      | (with_reducible exact spec_OddsUnpack.mono_l _ _ _ _ _ _ _ _ _ _)
      | (with_reducible exact LeO.refl _)
      | (with_reducible exact LeO.none _)
      | (with_reducible refine LeO.ite ?_ ?_)
      | (with_reducible refine LeO.bind ?_ (fun _ => ?_))
      | exact ih0 _ _ _ _
      | exact spec_l12In_bit.mono _ _ _ _ _ _ _ _
      | exact spec_l12Open.mono _ _ _
      | exact spec_OddsUnpack.mono_l _ _ _ _ _ _ _ _ _ _
      | exact LeO.none _
      | refine LeO.ite ?_ ?_
      | refine LeO.bind ?_ (fun _ => ?_)
theorem spec_OddsUnpack.mono : ∀ a0 a1 a2 k, LeO (spec_OddsUnpack.f k a0 a1 a2) (spec_OddsUnpack.f (k + 1) a0 a1 a2) := by
  intro a0 a1 a2 k
  have ih := spec_OddsUnpack.mono_l0 k
  have ih0 := ih
  unfold spec_OddsUnpack.f
  repeat' first
      | (with_reducible exact ih0 _ _ _ _)
      | (with_reducible exact spec_l12In_bit.mono _ _ _ _ _ _ _ _)
      | (with_reducible exact spec_l12Open.mono _ _ _)
      | (with_reducible exact spec_OddsUnpack.mono_l _ _ _ _ _ _ _ _ _ _)
      | (with_reducible exact LeO.refl _)
      | (with_reducible exact LeO.none _)
      | (with_reducible refine LeO.ite ?_ ?_)
      | (with_reducible refine LeO.bind ?_ (fun _ => ?_))
      | exact ih0 _ _ _ _
      | exact spec_l12In_bit.mono _ _ _ _ _ _ _ _
      | exact spec_l12Open.mono _ _ _
      | exact spec_OddsUnpack.mono_l _ _ _ _ _ _ _ _ _ _
      | exact LeO.none _
      | refine LeO.ite ?_ ?_
      | refine LeO.bind ?_ (fun _ => ?_)
def spec_OddsUnpack.T : Bool × List (List Nat × List Nat) := (true, [([], []), ([0], [0]), ([], []), ([], []), ([2, 3], [2, 3]), ([4], [4]), ([1, 5, 4], [1, 5]), ([0, 1, 2, 3, 4, 5, 6], []), ([7, 6, 6, 0, 1, 2, 3, 4, 5, 6], [6, 7])])
def spec_OddsUnpack.B : List Nat := [0, 1, 0, 0, 12, 28, 63, 127, 255]
theorem spec_OddsUnpack.tab : rtab .any (opsOf Try.f62 14) = spec_OddsUnpack.T := by kernel_rfl
theorem spec_OddsUnpack.bits : waitsOk spec_OddsUnpack.T.2 spec_OddsUnpack.B = true := by kernel_rfl
set_option maxHeartbeats 8000000 in
set_option maxRecDepth 100000 in
theorem spec_OddsUnpack.calls (k : Nat) (places : Int) (A : Option Addr) (c : Nat) (l : List Int) (A2_ : Option Addr) (c2_ : Nat) (ls : List Int) (r1 : Int) (r2 : List Int) (r3 : Int) (w : World) (hd : Kd.C (Kd.int .u8) w A l.length l) (hc : l.length ≤ c) (he : Kd.C (Kd.int .i64) w A2_ ls.length ls) (hc2 : ls.length ≤ c2_) (h : spec_OddsUnpack.f k places l ls = some (r1, r2, r3)) :
    Calls Try.prog 62 #[.int .i64 places, .slice A l.length c, .slice A2_ ls.length c2_] w fun e w' => ∃ v1_ : Value, e = .returned (.agg #[.int .i64 r1, v1_, .int .i64 r3]) ∧ Kd.R (Kd.int .i64) 3 w' w.heap.size (fun _ => True) v1_ r2 ∧ Below w.heap.size w w' := by
  have hu_ := Try.underlying84
  have HD := Aside0.mk hd
  have HE := Aside0.mk he
  clear hd he hc hc2
  have H := h
  clear h
  unfold spec_OddsUnpack.f at H
  go_enter Try.func62, Try.ntmps62
  go_upto_region 1 with (first | ((with_reducible refine gate_dst (N := 6) rfl ?_); refine box_event ?hg (N := 6) ?hd (cs := #[.int .i64 0, .slice none 0 0, .int .i64 0]) (t := 84) ?hr ?_; (case hd => rfl); (case hg => rfl); (case hr => first | (go_simp; done) | (go_simp; rfl)); intro gr hg w1 hbox hb; have GR := Aside0.mk (show w.heap.size ≤ gr from Nat.le_of_eq hg.symm); have HB := Aside0.mk hb; have BR := Aside0.mk hbox; clear hg hb hbox))
  by_cases c1 : places < 1
  · rw [if_pos c1] at H
    have c1b := decide_eq_true c1
    clear c1
    simp only [Option.some.injEq, Prod.mk.injEq] at H
    obtain ⟨rfl, rfl, rfl⟩ := H
    have hy0 : w1.cell? ⟨gr, 0, none⟩ = some (.int .i64 0) := (blk_cell BR.out 0).trans rfl
    have hfy0 := blk_frozen BR.out 0
    have hy1 : w1.cell? ⟨gr, 1, none⟩ = some (.slice none 0 0) := (blk_cell BR.out 1).trans rfl
    have hfy1 := blk_frozen BR.out 1
    have hy2 : w1.cell? ⟨gr, 2, none⟩ = some (.int .i64 0) := (blk_cell BR.out 2).trans rfl
    have hfy2 := blk_frozen BR.out 2
    go_wp2
    refine bodyPost_ret (results_cell_row rfl _ _ gr 84 #[.int .i64 1, .slice none 0 0, .int .i64 0] (0, 0) _ rfl (by refine blk_put (cs := #[.int .i64 1, .slice none 0 0, .int .i64 0]) ?_ 2 _ rfl; refine blk_put (cs := #[.int .i64 1, .slice none 0 0, .int .i64 0]) ?_ 1 _ rfl; refine blk_put (cs := #[.int .i64 0, .slice none 0 0, .int .i64 0]) ?_ 0 _ rfl; exact BR.out) Try.underlying84 rfl (by kernel_rfl)) rfl ?_
    exact ⟨_, rfl, Kd.R_nil _ _ _ _ _, below_set (below_set (below_set HB.out GR.out) GR.out) GR.out⟩
  rw [if_neg c1] at H
  have c1b := decide_eq_false c1
  clear c1
  by_cases c2 : places > 512
  · rw [if_pos c2] at H
    have c2b : decide (512 < places) = true := decide_eq_true c2
    clear c2
    simp only [Option.some.injEq, Prod.mk.injEq] at H
    obtain ⟨rfl, rfl, rfl⟩ := H
    have hy0 : w1.cell? ⟨gr, 0, none⟩ = some (.int .i64 0) := (blk_cell BR.out 0).trans rfl
    have hfy0 := blk_frozen BR.out 0
    have hy1 : w1.cell? ⟨gr, 1, none⟩ = some (.slice none 0 0) := (blk_cell BR.out 1).trans rfl
    have hfy1 := blk_frozen BR.out 1
    have hy2 : w1.cell? ⟨gr, 2, none⟩ = some (.int .i64 0) := (blk_cell BR.out 2).trans rfl
    have hfy2 := blk_frozen BR.out 2
    go_wp2
    refine bodyPost_ret (results_cell_row rfl _ _ gr 84 #[.int .i64 1, .slice none 0 0, .int .i64 0] (0, 0) _ rfl (by refine blk_put (cs := #[.int .i64 1, .slice none 0 0, .int .i64 0]) ?_ 2 _ rfl; refine blk_put (cs := #[.int .i64 1, .slice none 0 0, .int .i64 0]) ?_ 1 _ rfl; refine blk_put (cs := #[.int .i64 0, .slice none 0 0, .int .i64 0]) ?_ 0 _ rfl; exact BR.out) Try.underlying84 rfl (by kernel_rfl)) rfl ?_
    exact ⟨_, rfl, Kd.R_nil _ _ _ _ _, below_set (below_set (below_set HB.out GR.out) GR.out) GR.out⟩
  rw [if_neg c2] at H
  have c2b : decide (512 < places) = false := decide_eq_false c2
  clear c2
  by_cases c3 : (ls.length : Int) > 20000
  · rw [if_pos c3] at H
    have c3b : decide (20000 < (ls.length : Int)) = true := decide_eq_true c3
    clear c3
    simp only [Option.some.injEq, Prod.mk.injEq] at H
    obtain ⟨rfl, rfl, rfl⟩ := H
    have hy0 : w1.cell? ⟨gr, 0, none⟩ = some (.int .i64 0) := (blk_cell BR.out 0).trans rfl
    have hfy0 := blk_frozen BR.out 0
    have hy1 : w1.cell? ⟨gr, 1, none⟩ = some (.slice none 0 0) := (blk_cell BR.out 1).trans rfl
    have hfy1 := blk_frozen BR.out 1
    have hy2 : w1.cell? ⟨gr, 2, none⟩ = some (.int .i64 0) := (blk_cell BR.out 2).trans rfl
    have hfy2 := blk_frozen BR.out 2
    go_wp2
    refine bodyPost_ret (results_cell_row rfl _ _ gr 84 #[.int .i64 1, .slice none 0 0, .int .i64 0] (0, 0) _ rfl (by refine blk_put (cs := #[.int .i64 1, .slice none 0 0, .int .i64 0]) ?_ 2 _ rfl; refine blk_put (cs := #[.int .i64 1, .slice none 0 0, .int .i64 0]) ?_ 1 _ rfl; refine blk_put (cs := #[.int .i64 0, .slice none 0 0, .int .i64 0]) ?_ 0 _ rfl; exact BR.out) Try.underlying84 rfl (by kernel_rfl)) rfl ?_
    exact ⟨_, rfl, Kd.R_nil _ _ _ _ _, below_set (below_set (below_set HB.out GR.out) GR.out) GR.out⟩
  rw [if_neg c3] at H
  have c3b : decide (20000 < (ls.length : Int)) = false := decide_eq_false c3
  clear c3
  have HL := Aside0.mk H
  clear H
  go_wp2
  clear c1b c2b c3b
  go_loopg [27] k (fun kq v27 w' => ∃ (i : Int), v27 = .int .i64 i ∧ Aside0 (spec_OddsUnpack.l0 kq places l ls i = some (r1, r2, r3)) ∧ Aside0 (kq ≤ k) ∧ Aside0 (w'.heap[gr]? = some (.cells #[.int .i64 0, .slice none 0 0, .int .i64 0] 84 (0, 0))) ∧ Aside0 (Below w.heap.size w w'))
  case atStart => exact ⟨0, rfl, HL, ⟨Nat.le_refl _⟩, BR, HB⟩
  case round =>
    clear HL BR HB
    obtain ⟨i, rfl, HA, HK0, BR, HB⟩ := hrel
    cases gk with
    | zero => exact absurd HA.out (by simp [spec_OddsUnpack.l0])
    | succ k0 =>
      have H := HA.out
      clear HA
      simp only [spec_OddsUnpack.l0] at H
      by_cases d1 : i < (ls.length : Int)
      · rw [if_pos d1] at H
        by_cases d2 : 0 ≤ i
        rotate_left
        · rw [if_neg d2] at H
          exact absurd H (by simp)
        rw [if_pos d2] at H
        obtain ⟨ad, ea, hx⟩ := Kd.at_int (Kd.C_below HE.out HB.out) i d2 d1
        cases ea
        have d1b := decide_eq_true d1
        have d2b := decide_eq_true d2
        replace d1 := eq_true d1
        replace d2 := eq_true d2
        by_cases d3 : (rd ls i) < 0
        · rw [if_pos d3] at H
          have d3b := decide_eq_true d3
          clear d3
          simp only [Option.some.injEq, Prod.mk.injEq] at H
          obtain ⟨rfl, rfl, rfl⟩ := H
          have hy0 : wr.cell? ⟨gr, 0, none⟩ = some (.int .i64 0) := (blk_cell BR.out 0).trans rfl
          have hfy0 := blk_frozen BR.out 0
          have hy1 : wr.cell? ⟨gr, 1, none⟩ = some (.slice none 0 0) := (blk_cell BR.out 1).trans rfl
          have hfy1 := blk_frozen BR.out 1
          have hy2 : wr.cell? ⟨gr, 2, none⟩ = some (.int .i64 0) := (blk_cell BR.out 2).trans rfl
          have hfy2 := blk_frozen BR.out 2
          go_wp2
          refine bodyPost_ret (results_cell_row rfl _ _ gr 84 #[.int .i64 1, .slice none 0 0, .int .i64 0] (0, 0) _ rfl (by refine blk_put (cs := #[.int .i64 1, .slice none 0 0, .int .i64 0]) ?_ 2 _ rfl; refine blk_put (cs := #[.int .i64 1, .slice none 0 0, .int .i64 0]) ?_ 1 _ rfl; refine blk_put (cs := #[.int .i64 0, .slice none 0 0, .int .i64 0]) ?_ 0 _ rfl; exact BR.out) Try.underlying84 rfl (by kernel_rfl)) rfl ?_
          exact ⟨_, rfl, Kd.R_nil _ _ _ _ _, below_set (below_set (below_set HB.out GR.out) GR.out) GR.out⟩
        rw [if_neg d3] at H
        have d3b := decide_eq_false d3
        clear d3
        by_cases d4 : (rd ls i) ≥ places
        · rw [if_pos d4] at H
          have d4b : decide (places ≤ (rd ls i)) = true := decide_eq_true d4
          clear d4
          simp only [Option.some.injEq, Prod.mk.injEq] at H
          obtain ⟨rfl, rfl, rfl⟩ := H
          have hy0 : wr.cell? ⟨gr, 0, none⟩ = some (.int .i64 0) := (blk_cell BR.out 0).trans rfl
          have hfy0 := blk_frozen BR.out 0
          have hy1 : wr.cell? ⟨gr, 1, none⟩ = some (.slice none 0 0) := (blk_cell BR.out 1).trans rfl
          have hfy1 := blk_frozen BR.out 1
          have hy2 : wr.cell? ⟨gr, 2, none⟩ = some (.int .i64 0) := (blk_cell BR.out 2).trans rfl
          have hfy2 := blk_frozen BR.out 2
          go_wp2
          refine bodyPost_ret (results_cell_row rfl _ _ gr 84 #[.int .i64 1, .slice none 0 0, .int .i64 0] (0, 0) _ rfl (by refine blk_put (cs := #[.int .i64 1, .slice none 0 0, .int .i64 0]) ?_ 2 _ rfl; refine blk_put (cs := #[.int .i64 1, .slice none 0 0, .int .i64 0]) ?_ 1 _ rfl; refine blk_put (cs := #[.int .i64 0, .slice none 0 0, .int .i64 0]) ?_ 0 _ rfl; exact BR.out) Try.underlying84 rfl (by kernel_rfl)) rfl ?_
          exact ⟨_, rfl, Kd.R_nil _ _ _ _ _, below_set (below_set (below_set HB.out GR.out) GR.out) GR.out⟩
        rw [if_neg d4] at H
        have d4b : decide (places ≤ (rd ls i)) = false := decide_eq_false d4
        clear d4
        have H' := Aside0.mk H
        clear H
        go_wp2
        go_roundg k0
        case measure => have := HK0.out; omega
        case rel => exact ⟨_, (by first | rfl | (simp; done) | (simp [*]; done)), H', ⟨by have := HK0.out; omega⟩, BR, HB⟩
      rw [if_neg d1] at H
      have d1b := decide_eq_false d1
      clear d1
      replace H := Option.bind_eq_some_iff.mp H
      obtain ⟨⟨t1, t2, t3, od⟩, A20, H⟩ := H
      replace H : spec_OddsUnpack.l1 k0 l ls 0 ([] : List Int) t1 t2 4294967295 od t3 = some (r1, r2, r3) := H
      have A2 := Aside0.mk A20
      have HL := Aside0.mk H
      clear A20 H
      go_wp2_with (first | ((with_reducible refine gate_callee (f := 122) rfl ?_); refine goesL_ (some 42) rfl rfl Try.func122 (by kernel_rfl) rfl #[.int .i64 places, .slice A l.length c] rfl (by (try simp only [List.map_toArray, List.map_cons, List.map_nil]); first | done | rfl) ?_; (with_reducible refine (spec_l12Open.calls k0 places A c l t1 t2 t3 od _ (Kd.C_below HD.out HB.out) A2.out).mono ?_); rintro e w2 ⟨g, go, n, co, rfl, hge, hbk, ho, hb⟩; refine ⟨_, rfl, ?_⟩; have GE := Aside0.mk (Nat.le_trans (below_size HB.out) hge); have HO := Aside0.mk (Kd.R_lower ho (below_size HB.out)); have BK := Aside0.mk hbk; have n0_ := Aside0.mk (blk_below BR.out hb); have n1_ := Aside0.mk (below_step HB.out hb); clear BR HB hge hbk ho hb; have BR := n0_; have HB := n1_; clear n0_ n1_) | ((with_reducible refine gate_dst (N := 10) rfl ?_); refine box_event ?hg (N := 10) ?hd (cs := #[.int .i64 0, .slice none 0 0, .int .i64 0]) (t := 84) ?hr ?_; (case hd => rfl); (case hg => rfl); (case hr => first | (go_simp; done) | (go_simp; rfl)); intro gx hg w3 hbox hb; have GX := Aside0.mk (show w.heap.size ≤ gx from by rw [hg]; exact below_size HB.out); have NE := Aside0.mk (show gr ≠ gx from by have h1_ := blk_lt BR.out; omega); have n0_ := Aside0.mk (blk_below BR.out hb); have n1_ := Aside0.mk (blk_below BK.out hb); have n2_ := Aside0.mk (Kd.R_below HO.out hb); have n3_ := Aside0.mk (below_step HB.out hb); clear BR BK HO HB; have BR := n0_; have BK := n1_; have HO := n2_; have HB := n3_; have BO := Aside0.mk hbox; clear n0_ n1_ n2_ n3_ hg hb hbox) | ((with_reducible refine gate_store (t := 84) (p := 10) (v := .tmp 43) rfl ?_); refine put_all rfl 84 (.tmp 10) (.tmp 43) rfl rfl gx #[.int .i64 0, .slice none 0 0, .int .i64 0] 84 (.agg #[.int .i64 0, .slice none 0 0, .int .i64 0]) [.int .i64 0, .slice none 0 0, .int .i64 0] rfl rfl rfl (by simp [Value.oneCell']) (by kernel_rfl) BO.out rfl ?_; intro w4 h1 hk hbb; have n0_ := Aside0.mk (blk_kept BR.out hk NE.out); have n1_ := Aside0.mk (blk_kept BK.out hk (blk_ne BK.out BO.out (by decide))); have n2_ := Aside0.mk (Kd.R_mono (Kd.R_kept (Kd.R_types HO.out BO.out (by decide)) hk (fun k_ ho_ hs_ => ho_.2 hs_)) (fun _ h_ => h_.1)); have n3_ := Aside0.mk (hbb _ _ HB.out GX.out); have n4_ := Aside0.mk (show w4.heap[gx]? = some (.cells #[.int .i64 0, .slice none 0 0, .int .i64 0] 84 (0, 0)) from h1); clear BR BK HO HB BO h1 hk hbb; have BR := n0_; have BK := n1_; have HO := n2_; have HB := n3_; have BO := n4_; clear n0_ n1_ n2_ n3_ n4_))
      go_loopg [46] k0 (fun kq v46 w' => ∃ (i : Int) (bits : List Int) (at_ code rng : Int) (od : List Int) (err : Int) (u : Value), v46 = .int .i64 i ∧ Aside0 (spec_OddsUnpack.l1 kq l ls i bits at_ code rng od err = some (r1, r2, r3)) ∧ Aside0 (kq ≤ k0) ∧ Aside0 (Kd.R (Kd.int .i64) 3 w' w.heap.size (fun k_ => k_ = go) (.slice (some ⟨go, 0, none⟩) n co) od) ∧ Aside0 (Kd.R (Kd.int .i64) 3 w' w.heap.size (fun k_ => k_ ≠ go) u bits) ∧ Aside0 (w'.heap[g]? = some (.cells #[.slice A l.length c, .int .i64 at_, .int .u64 code, .int .u64 rng, (.slice (some ⟨go, 0, none⟩) n co), .int .i64 err] 136 (0, 0))) ∧ Aside0 (w'.heap[gr]? = some (.cells #[.int .i64 0, .slice none 0 0, .int .i64 0] 84 (0, 0))) ∧ Aside0 (w'.heap[gx]? = some (.cells #[.int .i64 0, u, .int .i64 0] 84 (0, 0))) ∧ Aside0 (Below w.heap.size w w'))
      case atStart => exact ⟨0, [], t1, t2, 4294967295, od, t3, .slice none 0 0, rfl, HL, ⟨Nat.le_refl _⟩, HO, ⟨Kd.R_nil _ _ _ _ _⟩, BK, BR, BO, HB⟩
      case round =>
        clear HL HO BK BR BO HB
        obtain ⟨i, bits, at_, code, rng, od, err, u, rfl, HA, HK1, HO, HS, BK, BR, BO, HB⟩ := hrel
        cases gk with
        | zero => exact absurd HA.out (by simp [spec_OddsUnpack.l1])
        | succ k1 =>
          have H := HA.out
          clear HA
          simp only [spec_OddsUnpack.l1] at H
          by_cases d1 : i < (ls.length : Int)
          rotate_left
          · rw [if_neg d1] at H
            have d1b := decide_eq_false d1
            clear d1
            by_cases d2 : err = 0
            · rw [if_pos d2] at H
              have d2b := bne_eq_false_iff_eq.mpr d2
              have d2c := beq_iff_eq.mpr d2
              clear d2
              simp only [Option.some.injEq, Prod.mk.injEq] at H
              obtain ⟨rfl, rfl, rfl⟩ := H
              obtain ⟨Ax, cx, ex⟩ := Kd.R_slice HS.out
              subst ex
              have hz0 : wr.cell? ⟨g, 0, none⟩ = some (.slice A l.length c) := (blk_cell BK.out 0).trans rfl
              have hz1 : wr.cell? ⟨g, 1, none⟩ = some (.int .i64 at_) := (blk_cell BK.out 1).trans rfl
              have hz2 : wr.cell? ⟨g, 2, none⟩ = some (.int .u64 code) := (blk_cell BK.out 2).trans rfl
              have hz3 : wr.cell? ⟨g, 3, none⟩ = some (.int .u64 rng) := (blk_cell BK.out 3).trans rfl
              have hz4 : wr.cell? ⟨g, 4, none⟩ = some ((.slice (some ⟨go, 0, none⟩) n co)) := (blk_cell BK.out 4).trans rfl
              have hz5 : wr.cell? ⟨g, 5, none⟩ = some (.int .i64 err) := (blk_cell BK.out 5).trans rfl
              go_upto_region 20 with (first | ((with_reducible refine gate_store (t := 3) (p := 78) (v := .tmp 77) rfl ?_); refine put_event rfl 3 (.tmp 78) (.tmp 77) rfl rfl gx 2 #[.int .i64 0, .slice Ax bits.length cx, .int .i64 0] 84 (.int .i64 at_) rfl rfl rfl rfl (by kernel_rfl) BO.out (by simp) ?_; intro w30 h1 hk hbb; have n0_ := Aside0.mk (show w30.heap[gx]? = some (.cells #[.int .i64 0, .slice Ax bits.length cx, .int .i64 at_] 84 (0, 0)) from h1); have n1_ := Aside0.mk (blk_kept BR.out hk (fun e_ => NE.out e_)); have n2_ := Aside0.mk (hbb _ _ HB.out GX.out); have n3_ := Aside0.mk (Kd.R_mono (Kd.R_kept (Kd.R_types HS.out BO.out (by decide)) hk (fun k_ ho_ hs_ => ho_.2 hs_)) (fun _ h_ => h_.1)); clear BO BR HB HS h1 hk hbb; have BO := n0_; have BR := n1_; have HB := n2_; have HS := n3_; clear n0_ n1_ n2_ n3_))
              clear hz0 hz1 hz2 hz3 hz4 hz5
              have hy0 : w30.cell? ⟨gr, 0, none⟩ = some (.int .i64 0) := (blk_cell BR.out 0).trans rfl
              have hfy0 := blk_frozen BR.out 0
              have hy1 : w30.cell? ⟨gr, 1, none⟩ = some (.slice none 0 0) := (blk_cell BR.out 1).trans rfl
              have hfy1 := blk_frozen BR.out 1
              have hy2 : w30.cell? ⟨gr, 2, none⟩ = some (.int .i64 0) := (blk_cell BR.out 2).trans rfl
              have hfy2 := blk_frozen BR.out 2
              have hx0 : w30.cell? ⟨gx, 0, none⟩ = some (.int .i64 0) := (blk_cell BO.out 0).trans rfl
              have hfx0 := blk_frozen BO.out 0
              have hx1 : w30.cell? ⟨gx, 1, none⟩ = some (.slice Ax bits.length cx) := (blk_cell BO.out 1).trans rfl
              have hfx1 := blk_frozen BO.out 1
              have hx2 : w30.cell? ⟨gx, 2, none⟩ = some (.int .i64 at_) := (blk_cell BO.out 2).trans rfl
              have hfx2 := blk_frozen BO.out 2
              have hne1_ := NE.out
              have hne2_ := Ne.symm NE.out
              go_wp2
              refine bodyPost_ret (results_cell_row rfl _ _ gr 84 #[.int .i64 0, .slice Ax bits.length cx, .int .i64 at_] (0, 0) _ rfl (by refine blk_put (cs := #[.int .i64 0, .slice Ax bits.length cx, .int .i64 0]) ?_ 2 _ rfl; refine blk_put (cs := #[.int .i64 0, .slice none 0 0, .int .i64 0]) ?_ 1 _ rfl; refine blk_put (cs := #[.int .i64 0, .slice none 0 0, .int .i64 0]) ?_ 0 _ rfl; exact BR.out) Try.underlying84 rfl (by kernel_rfl)) rfl ?_
              exact ⟨_, rfl, Kd.R_mono (Kd.R_far (p := ⟨gr, 2, none⟩) (Kd.R_far (p := ⟨gr, 1, none⟩) (Kd.R_far (p := ⟨gr, 0, none⟩) (Kd.R_types HS.out BR.out (by decide)) (fun _ hk => hk.2) (.int .i64 0)) (fun _ hk => hk.2) (.slice Ax bits.length cx)) (fun _ hk => hk.2) (.int .i64 at_)) (fun _ _ => trivial), below_set (below_set (below_set HB.out GR.out) GR.out) GR.out⟩
            rw [if_neg d2] at H
            have d2b := bne_iff_ne.mpr d2
            have d2c := beq_eq_false_iff_ne.mpr d2
            clear d2
            simp only [Option.some.injEq, Prod.mk.injEq] at H
            obtain ⟨rfl, rfl, rfl⟩ := H
            have hz0 : wr.cell? ⟨g, 0, none⟩ = some (.slice A l.length c) := (blk_cell BK.out 0).trans rfl
            have hz1 : wr.cell? ⟨g, 1, none⟩ = some (.int .i64 at_) := (blk_cell BK.out 1).trans rfl
            have hz2 : wr.cell? ⟨g, 2, none⟩ = some (.int .u64 code) := (blk_cell BK.out 2).trans rfl
            have hz3 : wr.cell? ⟨g, 3, none⟩ = some (.int .u64 rng) := (blk_cell BK.out 3).trans rfl
            have hz4 : wr.cell? ⟨g, 4, none⟩ = some ((.slice (some ⟨go, 0, none⟩) n co)) := (blk_cell BK.out 4).trans rfl
            have hz5 : wr.cell? ⟨g, 5, none⟩ = some (.int .i64 err) := (blk_cell BK.out 5).trans rfl
            have hy0 : wr.cell? ⟨gr, 0, none⟩ = some (.int .i64 0) := (blk_cell BR.out 0).trans rfl
            have hfy0 := blk_frozen BR.out 0
            have hy1 : wr.cell? ⟨gr, 1, none⟩ = some (.slice none 0 0) := (blk_cell BR.out 1).trans rfl
            have hfy1 := blk_frozen BR.out 1
            have hy2 : wr.cell? ⟨gr, 2, none⟩ = some (.int .i64 0) := (blk_cell BR.out 2).trans rfl
            have hfy2 := blk_frozen BR.out 2
            go_wp2
            refine bodyPost_ret (results_cell_row rfl _ _ gr 84 #[.int .i64 err, .slice none 0 0, .int .i64 0] (0, 0) _ rfl (by refine blk_put (cs := #[.int .i64 err, .slice none 0 0, .int .i64 0]) ?_ 2 _ rfl; refine blk_put (cs := #[.int .i64 err, .slice none 0 0, .int .i64 0]) ?_ 1 _ rfl; refine blk_put (cs := #[.int .i64 0, .slice none 0 0, .int .i64 0]) ?_ 0 _ rfl; exact BR.out) Try.underlying84 rfl (by kernel_rfl)) rfl ?_
            exact ⟨_, rfl, Kd.R_nil _ _ _ _ _, below_set (below_set (below_set HB.out GR.out) GR.out) GR.out⟩
          rw [if_pos d1] at H
          by_cases d2 : 0 ≤ i
          rotate_left
          · rw [if_neg d2] at H
            exact absurd H (by simp)
          rw [if_pos d2] at H
          replace H := Option.bind_eq_some_iff.mp H
          obtain ⟨⟨b, e1, e2, e3, e4, e5⟩, A50, H⟩ := H
          dsimp only at H
          have A5 := Aside0.mk A50
          clear A50
          by_cases d3 : bits.length < 17592186044416
          rotate_left
          · rw [if_neg d3] at H
            exact absurd H (by simp)
          rw [if_pos d3] at H
          have LM := Aside0.mk d3
          clear d3
          have HX := Aside0.mk H
          clear H
          obtain ⟨ad, ea, hx⟩ := Kd.at_int (Kd.C_below HE.out HB.out) i d2 d1
          cases ea
          have d1b := decide_eq_true d1
          have d2b := decide_eq_true d2
          replace d1 := eq_true d1
          replace d2 := eq_true d2
          go_upto_region 14 with (fail)
          try go_wp2
          have n_HO := Aside0.mk (Kd.R_drew HO.out)
          have n_HS := Aside0.mk (Kd.R_drew HS.out)
          have n_BK := Aside0.mk (blk_drew BK.out)
          have n_BR := Aside0.mk (blk_drew BR.out)
          have n_BO := Aside0.mk (blk_drew BO.out)
          have n_HB := Aside0.mk (below_drew1 HB.out)
          clear HO HS BK BR BO HB
          have HO := n_HO
          have HS := n_HS
          have BK := n_BK
          have BR := n_BR
          have BO := n_BO
          have HB := n_HB
          clear n_HO n_HS n_BK n_BR n_BO n_HB
          refine start_ (n := 9) (S := fun w' => w'.cell? ⟨gx, 0, none⟩ = some (.int .i64 0) ∧ w'.cell? ⟨gx, 1, none⟩ = some (u) ∧ w'.cell? ⟨gx, 2, none⟩ = some (.int .i64 0)) (ds := [8]) #[false, false, false, false, false, false, false, false, false] (by kernel_rfl) rfl rfl ⟨(blk_cell BO.out 0).trans rfl, (blk_cell BO.out 1).trans rfl, (blk_cell BO.out 2).trans rfl⟩ (fun hHeld => ?_); refine with_tabW spec_OddsUnpack.tab spec_OddsUnpack.bits (fun HT_ HW_ => ?_)
          generalize wr.drew = w19 at HO HS BK BR BO HB hHeld ⊢
          refine pure_ (i := 0) (N := some 50) (v := ?_) (a' := ?_) #[true, false, false, false, false, false, false, false, false] rfl rfl (any_of HT_.out (by kernel_rfl)) (fun _ _ _ h => h) (Or.inl ⟨by rfl, ?_⟩) ?_ ?_
          rotate_left
          · intro w'
            go_simp
            with_reducible rfl
          rotate_left
          · simp only [Act.put, List.setIfInBounds_toArray, List.set_cons_zero, List.set_cons_succ, i64_w, i32_w]
            rfl
          refine pure_ (i := 2) (N := some 52) (v := ?_) (a' := ?_) #[true, false, true, false, false, false, false, false, false] rfl rfl (any_of HT_.out (by kernel_rfl)) (fun _ _ _ h => h) (Or.inl ⟨by rfl, ?_⟩) ?_ ?_
          rotate_left
          · intro w'
            go_simp
            with_reducible rfl
          rotate_left
          · simp only [Act.put, List.setIfInBounds_toArray, List.set_cons_zero, List.set_cons_succ, i64_w, i32_w]
            rfl
          refine pure_ (i := 3) (N := some 53) (v := ?_) (a' := ?_) #[true, false, true, true, false, false, false, false, false] rfl rfl (any_of HT_.out (by kernel_rfl)) (fun _ _ _ h => h) (Or.inl ⟨by rfl, ?_⟩) ?_ ?_
          rotate_left
          · intro w'
            go_simp
            with_reducible rfl
          rotate_left
          · simp only [Act.put, List.setIfInBounds_toArray, List.set_cons_zero, List.set_cons_succ, i64_w, i32_w]
            rfl
          refine take_ (i := 1) (N := some 51) (v := ?_) (a' := ?_) #[true, true, true, true, false, false, false, false, false] rfl rfl (take_ofW HT_.out HW_.out (by kernel_rfl)) (fun _ _ _ h => h) (Or.inl ⟨by rfl, ?_⟩) hHeld ?_ ?_
          rotate_left
          · rintro w' ⟨s0, s1, s2⟩
            go_simp
            with_reducible rfl
          rotate_left
          · simp only [Act.put, List.setIfInBounds_toArray, List.set_cons_zero, List.set_cons_succ, i64_w, i32_w]
            rfl
          refine one_ (i := 4) (N := some 54) #[true, true, true, true, true, false, false, false, false] rfl rfl (one_of HT_.out (by kernel_rfl)) (by decide) (fun K hK => ?_)
          refine goes_ Try.func123 (by kernel_rfl) rfl #[.pointer (some ⟨g, 0, none⟩), .int .i64 (rd ls i)] (by rfl) rfl rfl (by (try simp only [List.map_toArray, List.map_cons, List.map_nil]); first | done | rfl | (simp only [List.length_drop, List.length_take]; rfl)) ?_
          with_reducible refine (spec_l12In_bit.calls k1 g go n co A c l at_ code rng err od (rd ls i) b e1 e2 e3 e4 e5 w _ HB.out GE.out HD.out HO.out BK.out A5.out).mono ?_
          rintro e w20 ⟨rfl, hbx, ho, hb, hk⟩
          refine ⟨_, rfl, ?_⟩
          have n0_ := Aside0.mk (Kd.R_mono (Kd.R_kept (Kd.R_types HS.out BK.out (by decide)) hk (fun k_ ho_ hs_ => hs_.elim ho_.2 ho_.1)) (fun _ h_ => h_.1))
          have n1_ := Aside0.mk (blk_kept BR.out hk (fun e_ => e_.elim (blk_ne BR.out BK.out (by decide)) (fun e_ => Kd.R_ne HO.out BR.out (by decide) (e_ ▸ rfl))))
          have n2_ := Aside0.mk (blk_kept BO.out hk (fun e_ => e_.elim (blk_ne BO.out BK.out (by decide)) (fun e_ => Kd.R_ne HO.out BO.out (by decide) (e_ ▸ rfl))))
          clear HO HS BK BR BO HB hk
          have HO := Aside0.mk ho
          have HS := n0_
          have BK := Aside0.mk hbx
          have BR := n1_
          have BO := n2_
          have HB := Aside0.mk hb
          clear n0_ n1_ n2_ ho hbx hb
          refine hK.out _ _ ⟨(blk_cell BO.out 0).trans rfl, (blk_cell BO.out 1).trans rfl, (blk_cell BO.out 2).trans rfl⟩ (fun hHeld => ?_)
          clear hK K
          refine norm_ (a' := ?_) ?_ ?_
          rotate_left
          · show Act.put _ (some 54) _ = _
            simp only [Act.put, List.setIfInBounds_toArray, List.set_cons_zero, List.set_cons_succ, i64_w, i32_w]
            rfl
          refine one_ (i := 5) (N := some 55) #[true, true, true, true, true, true, false, false, false] rfl rfl (one_of HT_.out (by kernel_rfl)) (by decide) (fun K hK => ?_)
          refine value_ (w1 := ?_) (v := ?_) (by rfl) rfl ?_ ?_
          rotate_left 2
          · go_simp
            constructor
            · rfl
            · rfl
          refine hK.out _ _ ⟨(blk_cell (blk_alloc BO.out _) 0).trans rfl, (blk_cell (blk_alloc BO.out _) 1).trans rfl, (blk_cell (blk_alloc BO.out _) 2).trans rfl⟩ (fun hHeld => ?_)
          clear hK K
          refine norm_ (a' := ?_) ?_ ?_
          rotate_left
          · show Act.put _ (some 55) _ = _
            simp only [Act.put, List.setIfInBounds_toArray, List.set_cons_zero, List.set_cons_succ, i64_w, i32_w]
            rfl
          refine one_ (i := 6) (N := some 56) #[true, true, true, true, true, true, true, false, false] rfl rfl (one_of HT_.out (by kernel_rfl)) (by decide) (fun K hK => ?_)
          refine Kd.R_append_step (Kd.int .i64) (w0 := w) w.heap.size (by rfl) (.tmp 51) (.tmp 55) 22 3 (.int .i64 0) 8 rfl Try.underlying22 info3 rfl (by decide) (by omega) u bits b [.int .i64 b] (fun k_ => k_ ≠ go) (fun _ => False) rfl rfl ?aP (fun _ hk => hk.elim) ?aF ?aO ?aB ?aS ?aL ?_
          (case aP => exact rfl)
          (case aB => exact HB.out)
          (case aF => intro k_ hk_ e_; subst e_; obtain ⟨cs_, hc_⟩ := Kd.R_typed HO.out _ rfl; have h1_ := blk_lt hc_; dsimp only at h1_; omega)
          (case aO => exact HS.out)
          (case aS => exact below_size HB.out)
          (case aL => have := LM.out; omega)
          intro v1 w21 ho hb hg hat
          have n0_ := Aside0.mk (Kd.R_grown HO.out hg (fun k_ ho_ e_ => HS.out.1 k_ e_.symm ho_))
          have n1_ := Aside0.mk (blk_grown BK.out hg (Kd.R_ne HS.out BK.out (by decide)))
          have n2_ := Aside0.mk (blk_grown BR.out hg (Kd.R_ne HS.out BR.out (by decide)))
          have n3_ := Aside0.mk (blk_grown BO.out hg (Kd.R_ne HS.out BO.out (by decide)))
          clear HO HS BK BR BO HB hg hat
          have HO := n0_
          have HS := Aside0.mk ho
          have BK := n1_
          have BR := n2_
          have BO := n3_
          have HB := Aside0.mk hb
          clear n0_ n1_ n2_ n3_ ho hb
          obtain ⟨Ax, cx, ex⟩ := Kd.R_slice HS.out
          obtain ⟨nb, hnb⟩ : ∃ nb, (bits ++ [b]).length = nb := ⟨_, rfl⟩
          rw [hnb] at ex
          clear hnb
          subst ex
          refine hK.out _ _ ⟨(blk_cell BO.out 0).trans rfl, (blk_cell BO.out 1).trans rfl, (blk_cell BO.out 2).trans rfl⟩ (fun hHeld => ?_)
          clear hK K
          refine norm_ (a' := ?_) ?_ ?_
          rotate_left
          · show Act.put _ (some 56) _ = _
            simp only [Act.put, List.setIfInBounds_toArray, List.set_cons_zero, List.set_cons_succ, i64_w, i32_w]
            rfl
          refine pure_ (i := 7) (N := some 57) (v := ?_) (a' := ?_) #[true, true, true, true, true, true, true, true, false] rfl rfl (any_of HT_.out (by kernel_rfl)) (fun _ _ _ h => h) (Or.inl ⟨by rfl, ?_⟩) ?_ ?_
          rotate_left
          · intro w'
            go_simp
            with_reducible rfl
          rotate_left
          · simp only [Act.put, List.setIfInBounds_toArray, List.set_cons_zero, List.set_cons_succ, i64_w, i32_w]
            rfl
          refine last_ (i := 8) (N := none) #[true, true, true, true, true, true, true, true, true] rfl rfl (one_of HT_.out (by kernel_rfl)) (by decide) (fun K hK => ?_)
          have hs_ : w21.cell? ⟨gx, 1, none⟩ = some (u) := (blk_cell BO.out 1).trans rfl
          have hfs_ := blk_frozen BO.out 1
          refine skip_ (w1 := ?_) (by rfl) rfl ?_ ?_
          rotate_left
          · go_simp
            rfl
          refine hK.out _ _ ?_
          clear hK K
          refine done_ (done_of HT_.out (by kernel_rfl)) ?_
          clear hs_ hfs_
          have hk2 := kept_set (W := w21) gx 1 (.slice Ax nb cx)
          have n0_ := Aside0.mk (Kd.R_mono (Kd.R_kept (Kd.R_types HO.out BO.out (by decide)) hk2 (fun k_ ho_ hs_ => ho_.2 hs_)) (fun _ h_ => h_.1))
          have n1_ := Aside0.mk (Kd.R_mono (Kd.R_kept (Kd.R_types HS.out BO.out (by decide)) hk2 (fun k_ ho_ hs_ => ho_.2 hs_)) (fun _ h_ => h_.1))
          have n2_ := Aside0.mk (blk_kept BK.out hk2 (fun e_ => blk_ne BK.out BO.out (by decide) e_))
          have n3_ := Aside0.mk (blk_kept BR.out hk2 (fun e_ => NE.out e_))
          have n4_ := Aside0.mk (blk_set BO.out 1 (.slice Ax nb cx))
          have n5_ := Aside0.mk (show Below w.heap.size w (w21.setCell ⟨gx, 1, none⟩ (.slice Ax nb cx)) from below_set HB.out GX.out)
          clear HO HS BK BR BO HB hk2
          generalize w21.setCell ⟨gx, 1, none⟩ (.slice Ax nb cx) = w22 at n0_ n1_ n2_ n3_ n4_ n5_ ⊢
          have HO := n0_
          have HS := n1_
          have BK := n2_
          have BR := n3_
          have BO := Aside0.mk (show w22.heap[gx]? = some (.cells #[.int .i64 0, (.slice Ax nb cx), .int .i64 0] 84 (0, 0)) from n4_.out)
          have HB := n5_
          clear n0_ n1_ n2_ n3_ n4_ n5_
          clear d1 d2 d1b d2b hx
          have H := HX.out
          clear HX
          by_cases f1 : e5 = 0
          · rw [if_pos f1] at H
            have f1b := bne_eq_false_iff_eq.mpr f1
            clear f1
            have H' := Aside0.mk H
            clear H
            have hz0 : w22.cell? ⟨g, 0, none⟩ = some (.slice A l.length c) := (blk_cell BK.out 0).trans rfl
            have hz1 : w22.cell? ⟨g, 1, none⟩ = some (.int .i64 e1) := (blk_cell BK.out 1).trans rfl
            have hz2 : w22.cell? ⟨g, 2, none⟩ = some (.int .u64 e2) := (blk_cell BK.out 2).trans rfl
            have hz3 : w22.cell? ⟨g, 3, none⟩ = some (.int .u64 e3) := (blk_cell BK.out 3).trans rfl
            have hz4 : w22.cell? ⟨g, 4, none⟩ = some ((.slice (some ⟨go, 0, none⟩) n co)) := (blk_cell BK.out 4).trans rfl
            have hz5 : w22.cell? ⟨g, 5, none⟩ = some (.int .i64 e5) := (blk_cell BK.out 5).trans rfl
            go_wp2
            clear hz0 hz1 hz2 hz3 hz4 hz5
            go_roundg k1
            case measure => have := HK1.out; (try have := HK0.out); omega
            case rel => exact ⟨_, _, e1, e2, e3, e4, e5, _, (by first | rfl | (simp; done) | (simp [*]; done)), H', ⟨by have := HK1.out; (try have := HK0.out); omega⟩, HO, HS, BK, BR, BO, HB⟩
          rw [if_neg f1] at H
          have f1b := bne_iff_ne.mpr f1
          clear f1
          simp only [Option.some.injEq, Prod.mk.injEq] at H
          obtain ⟨rfl, rfl, rfl⟩ := H
          have hz0 : w22.cell? ⟨g, 0, none⟩ = some (.slice A l.length c) := (blk_cell BK.out 0).trans rfl
          have hz1 : w22.cell? ⟨g, 1, none⟩ = some (.int .i64 e1) := (blk_cell BK.out 1).trans rfl
          have hz2 : w22.cell? ⟨g, 2, none⟩ = some (.int .u64 e2) := (blk_cell BK.out 2).trans rfl
          have hz3 : w22.cell? ⟨g, 3, none⟩ = some (.int .u64 e3) := (blk_cell BK.out 3).trans rfl
          have hz4 : w22.cell? ⟨g, 4, none⟩ = some ((.slice (some ⟨go, 0, none⟩) n co)) := (blk_cell BK.out 4).trans rfl
          have hz5 : w22.cell? ⟨g, 5, none⟩ = some (.int .i64 e5) := (blk_cell BK.out 5).trans rfl
          have hy0 : w22.cell? ⟨gr, 0, none⟩ = some (.int .i64 0) := (blk_cell BR.out 0).trans rfl
          have hfy0 := blk_frozen BR.out 0
          have hy1 : w22.cell? ⟨gr, 1, none⟩ = some (.slice none 0 0) := (blk_cell BR.out 1).trans rfl
          have hfy1 := blk_frozen BR.out 1
          have hy2 : w22.cell? ⟨gr, 2, none⟩ = some (.int .i64 0) := (blk_cell BR.out 2).trans rfl
          have hfy2 := blk_frozen BR.out 2
          go_wp2
          refine bodyPost_ret (results_cell_row rfl _ _ gr 84 #[.int .i64 e5, .slice none 0 0, .int .i64 0] (0, 0) _ rfl (by refine blk_put (cs := #[.int .i64 e5, .slice none 0 0, .int .i64 0]) ?_ 2 _ rfl; refine blk_put (cs := #[.int .i64 e5, .slice none 0 0, .int .i64 0]) ?_ 1 _ rfl; refine blk_put (cs := #[.int .i64 0, .slice none 0 0, .int .i64 0]) ?_ 0 _ rfl; exact BR.out) Try.underlying84 rfl (by kernel_rfl)) rfl ?_
          exact ⟨_, rfl, Kd.R_nil _ _ _ _ _, below_set (below_set (below_set HB.out GR.out) GR.out) GR.out⟩

/-! ### laws_toByteS: function 63 -/
def laws_toByteS.l0 : Nat → List Int → List Int → Int → Option (List Int)
  | 0, _, _, _ => none
  | k + 1, x0, x3, x4 => if x4 < (x0.length : Int) then (if 0 ≤ x4 then (if x4 < (x3.length : Int) then (laws_toByteS.l0 k x0 (x3.set (x4 : Int).toNat (rd x0 x4)) (wrap64 (x4 + 1))) else (none)) else (none)) else (some x3)
def laws_toByteS.f (k : Nat) (l0 : List Int) : Option (List Int) := if 0 ≤ (l0.length : Int) then (if ((l0.length : Int) : Int).toNat ≤ 281474976710656 then (laws_toByteS.l0 k l0 (List.replicate ((l0.length : Int) : Int).toNat 0) 0) else (none)) else (none)
theorem laws_toByteS.mono_l : ∀ k, (∀ y0 y1 y2, LeO (laws_toByteS.l0 k y0 y1 y2) (laws_toByteS.l0 (k + 1) y0 y1 y2))
  | 0 => fun _ _ _ r h => by simp [laws_toByteS.l0] at h
  | k + 1 => by
    have ih0 := laws_toByteS.mono_l k
    · intro y0 y1 y2
      unfold laws_toByteS.l0
      repeat' first
      | (with_reducible exact ih0 _ _ _)
      | (with_reducible exact LeO.refl _)
      | (with_reducible exact LeO.none _)
      | (with_reducible refine LeO.ite ?_ ?_)
      | (with_reducible refine LeO.bind ?_ (fun _ => ?_))
      | exact ih0 _ _ _
      | exact LeO.none _
      | refine LeO.ite ?_ ?_
      | refine LeO.bind ?_ (fun _ => ?_)
theorem laws_toByteS.mono : ∀ a0 k, LeO (laws_toByteS.f k a0) (laws_toByteS.f (k + 1) a0) := by
  intro a0 k
  have ih0 := laws_toByteS.mono_l k
  unfold laws_toByteS.f
  repeat' first
      | (with_reducible exact ih0 _ _ _)
      | (with_reducible exact LeO.refl _)
      | (with_reducible exact LeO.none _)
      | (with_reducible refine LeO.ite ?_ ?_)
      | (with_reducible refine LeO.bind ?_ (fun _ => ?_))
      | exact ih0 _ _ _
      | exact LeO.none _
      | refine LeO.ite ?_ ?_
      | refine LeO.bind ?_ (fun _ => ?_)
set_option maxHeartbeats 8000000 in
set_option maxRecDepth 100000 in
theorem laws_toByteS.calls (k : Nat) (A0 : Option Addr) (c0 : Nat) (l0 : List Int) (r : List Int) (w : World) (hr0 : Kd.C (Kd.int .u8) w A0 l0.length l0) (hc0 : l0.length ≤ c0) (h : laws_toByteS.f k l0 = some r) :
    Calls Try.prog 63 #[.slice A0 l0.length c0] w fun e w' => ∃ v0_ : Value, e = .returned (v0_) ∧ Kd.R (Kd.int .u8) 5 w' w.heap.size (fun _ => True) v0_ r ∧ Below w.heap.size w w' := by
  have HR0 := Aside0.mk hr0
  have HC0 := Aside0.mk hc0
  clear hr0 hc0
  have HB := Aside0.mk (Below.refl w.heap.size w)
  have H : (if 0 ≤ (l0.length : Int) then (if ((l0.length : Int) : Int).toNat ≤ 281474976710656 then (laws_toByteS.l0 k l0 (List.replicate ((l0.length : Int) : Int).toNat 0) 0) else (none)) else (none)) = some r := h
  clear h
  by_cases c2 : 0 ≤ (l0.length : Int)
  rotate_left
  · rw [if_neg c2] at H
    exact absurd H (by simp)
  rw [if_pos c2] at H
  have c2b0 := eq_true c2
  have c2b1 : decide (0 ≤ (l0.length : Int)) = true := decide_eq_true c2
  clear c2
  by_cases c3 : ((l0.length : Int) : Int).toNat ≤ 281474976710656
  rotate_left
  · rw [if_neg c3] at H
    exact absurd H (by simp)
  rw [if_pos c3] at H
  have c3b0 := eq_true c3
  have c3b1 : decide (((l0.length : Int) : Int).toNat ≤ 281474976710656) = true := decide_eq_true c3
  clear c3
  obtain ⟨y116, hy116⟩ : ∃ y_ : List Int, y_ = (List.replicate ((l0.length : Int) : Int).toNat 0) := ⟨_, rfl⟩
  replace H : (laws_toByteS.l0 k l0 y116 0) = some r := by first | (rw [hy116]; with_reducible exact H) | (have H2_ := (Option.bind_some _ _).symm.trans H; rw [hy116]; with_reducible exact H2_) | (have H2_ := (Option.bind_some _ _).symm.trans H; with_reducible exact H2_) | with_reducible exact H | (rw [hy116]; exact H) | exact H
  have Ny116 := Aside0.mk hy116
  clear hy116
  have H' := Aside0.mk H
  clear H
  go_enter Try.func63, Try.ntmps63
  go_wp2_with (first | ((with_reducible refine gate_dst (N := 7) rfl ?_); refine Kd.R_make (Kd.int .u8) _ 5 rfl (N := 7) rfl 23 _ _ rfl (l0.length : Int) rfl rfl Try.underlying23 (.int .u8 0) 1 info5 rfl (by decide) (by omega) 0 (ok := fun _ => True) (okp := fun _ => True) rfl (fun _ hk => hk) trivial (of_decide_eq_true (by first | (with_reducible assumption) | assumption)) (Nat.le_trans (Nat.mul_le_mul_right _ (of_decide_eq_true (by first | (with_reducible assumption) | assumption) : (l0.length : Int).toNat ≤ 281474976710656)) (by omega)) (Below.refl _ _) (Nat.le_refl _) ?_; intro v117 w4 ho5 hb hg_ hnew_; clear hg_ hnew_; (first | rw [← Ny116.out] at ho5 | (simp only [Int.reduceToNat] at ho5; rw [← Ny116.out] at ho5)); have n0_ := Aside0.mk (Kd.R_lower ho5 (below_size (by repeat (first | (with_reducible first | exact HB.out | apply below_alloc | apply pw_below_drewN | apply below_drew1) | exact HB.out)))); have n1_ := Aside0.mk (below_step (by repeat (first | (with_reducible first | exact HB.out | apply below_alloc | apply pw_below_drewN | apply below_drew1) | exact HB.out)) hb); clear HB; have HO118 := n0_; have HB := n1_; clear n0_ n1_; clear hb ho5))
  go_loopg [4] k (fun kq v4 w' => ∃ (x3_1 : List Int) (x4_1 : Int), v4 = .int .i64 x4_1 ∧ Aside0 (laws_toByteS.l0 kq l0 x3_1 x4_1 = some r) ∧ Aside0 (kq ≤ k) ∧ Aside0 (Kd.R (Kd.int .u8) 5 w' w.heap.size (fun _ => True) v117 x3_1) ∧ Aside0 (Below w.heap.size w w'))
  case atStart => exact ⟨(y116), (0), (by first | rfl | (simp; done) | (simp [*]; done)), H', ⟨Nat.le_refl _⟩, ⟨by (with_reducible repeat (first | apply Kd.R_alloc | apply Kd.R_drewN | apply Kd.R_drew)); exact HO118.out⟩, ⟨by repeat (first | (with_reducible first | exact HB.out | apply below_alloc | apply pw_below_drewN | apply below_drew1) | exact HB.out)⟩⟩
  case round =>
    clear H'
    try clear c2
    try clear c2b0
    try clear c2b1
    try clear p2
    try clear c3
    try clear c3b0
    try clear c3b1
    obtain ⟨x3_1, x4_1, rfl, HA, HK1, HO_3, HB⟩ := hrel
    cases gk with
    | zero => exact absurd HA.out (by simp [laws_toByteS.l0])
    | succ k1 =>
      have H := HA.out
      clear HA
      simp only [laws_toByteS.l0] at H
      by_cases c6 : x4_1 < (l0.length : Int)
      rotate_left
      · rw [if_neg c6] at H
        have c6b0 : decide (x4_1 < (l0.length : Int)) = false := decide_eq_false c6
        clear c6
        obtain rfl := Option.some.inj H
        go_wp2
        go_ret
        exact ⟨_, by first | rfl | (simp [errW_none, errW_some] <;> rfl) | (simp [*, errW_none, errW_some] <;> rfl), by (with_reducible repeat (first | apply Kd.R_alloc | apply Kd.R_drewN | apply Kd.R_drew)); exact HO_3.out, by repeat (first | (with_reducible first | exact HB.out | apply below_alloc | apply pw_below_drewN | apply below_drew1) | exact HB.out)⟩
      rw [if_pos c6] at H
      have c6b0 : decide (x4_1 < (l0.length : Int)) = true := decide_eq_true c6
      clear c6
      by_cases c7 : 0 ≤ x4_1
      rotate_left
      · rw [if_neg c7] at H
        exact absurd H (by simp)
      rw [if_pos c7] at H
      have c7b0 : decide (0 ≤ x4_1) = true := decide_eq_true c7
      clear c7
      by_cases c8 : x4_1 < (x3_1.length : Int)
      rotate_left
      · rw [if_neg c8] at H
        exact absurd H (by simp)
      rw [if_pos c8] at H
      have c8b0 : decide (x4_1 < (x3_1.length : Int)) = true := decide_eq_true c8
      clear c8
      obtain ⟨y120, hy120⟩ : ∃ y_ : List Int, y_ = (x3_1.set (x4_1 : Int).toNat (rd l0 x4_1)) := ⟨_, rfl⟩
      replace H : (laws_toByteS.l0 k1 l0 y120 (wrap64 (x4_1 + 1))) = some r := by first | (rw [hy120]; with_reducible exact H) | (have H2_ := (Option.bind_some _ _).symm.trans H; rw [hy120]; with_reducible exact H2_) | (have H2_ := (Option.bind_some _ _).symm.trans H; with_reducible exact H2_) | with_reducible exact H | (rw [hy120]; exact H) | exact H
      have Ny120 := Aside0.mk hy120
      clear hy120
      have H' := Aside0.mk H
      clear H
      have p119 : 0 ≤ (x4_1 : Int) := of_decide_eq_true (by first | (with_reducible assumption) | assumption)
      have q119 : x4_1 < (l0.length : Int) := of_decide_eq_true (by first | (with_reducible assumption) | assumption)
      obtain ⟨ad119, e119, hx119_0⟩ := Kd.at_int HR0.out x4_1 p119 q119
      cases e119
      replace hx119_0 := (HB.out.cell (World.block_lt_of_cell? w _ hx119_0)).trans hx119_0
      replace p119 := eq_true p119
      replace q119 := eq_true q119
      have p9 : 0 ≤ (x4_1 : Int) := of_decide_eq_true (by first | (with_reducible assumption) | assumption)
      have q9 : (x4_1 : Int) < ((x3_1.length : Int) : Int) := of_decide_eq_true (by first | (with_reducible assumption) | assumption)
      obtain ⟨go9, co9, eo9, gb9, gl9, cl9, HG9⟩ := Kd.R_form HO_3.out (by omega)
      (first | cases eo9 | (injection eo9 with ea_ en_ ec_; (first | subst ea_ | (injection ea_ with ea_; subst ea_)); subst ec_; clear en_))
      have GB9 := Aside0.mk gb9
      have GG9 := Aside0.mk HG9
      clear gb9 gl9 HG9
      obtain ⟨hx9_0, hf9_0⟩ := Kd.R_celln 0 HO_3.out (x4_1 : Int) p9 q9
      replace p9 := eq_true p9
      replace q9 := eq_true q9
      have HP10 := Kd.R_putg HO_3.out (x4_1 : Int) (rd l0 x4_1)
      go_wp2_with (first | ((with_reducible refine gate_store (t := 5) (p := 20) rfl ?_); refine store_event (t := 5) (p := 20) (v := ?vo_w11) (w1 := (wr.setCell ⟨go9, (x4_1 : Int).toNat, none⟩ (.int .u8 (rd l0 x4_1)))) ?hg ?ho ?hn ?hr ?_; (case ho => rfl); (case hg => rfl); (case hn => rfl); (case hr => first | (go_simp; done) | (go_simp; rfl)); intro w11 hw; have hg : wr.grownBy w11 (some go9) := (by rw [hw]; exact HP10.2); have hp_ : Kd.R (Kd.int .u8) 5 w11 w.heap.size (fun _ => True) (.slice (some ⟨go9, 0, none⟩) x3_1.length co9) y120 := (by rw [hw, Ny120.out]; exact HP10.1); clear HP10; have n0_ := Aside0.mk (hp_); have n1_ := Aside0.mk ((by rw [hw]; exact below_set (HB.out) GB9.out : Below w.heap.size w w11)); clear HO_3; clear HB; have HO_3 := n0_; have HB := n1_; clear n0_ n1_; clear hg hw hp_))
      go_roundg k1
      case measure => have := HK1.out; omega
      case rel => exact ⟨(y120), (wrap64 (x4_1 + 1)), (by first | rfl | (simp; done) | (simp [*]; done)), H', ⟨by have := HK1.out; omega⟩, ⟨by (with_reducible repeat (first | apply Kd.R_alloc | apply Kd.R_drewN | apply Kd.R_drew)); exact HO_3.out⟩, ⟨by repeat (first | (with_reducible first | exact HB.out | apply below_alloc | apply pw_below_drewN | apply below_drew1) | exact HB.out)⟩⟩

/-! ### impl_zrange: function 118 -/
def impl_zrange.l0 : Nat → Int → Int → List Int → Int → Int → Option (Bool)
  | 0, _, _, _, _, _ => none
  | k + 1, x1, x2, x15, x16, x17 => if x17 < x16 then (if 0 ≤ x17 then (if x17 < (x15.length : Int) then (if (rd x15 x17) < x1 then (some false) else (if (rd x15 x17) > x2 then (some false) else (impl_zrange.l0 k x1 x2 x15 x16 (wrap64 (x17 + 1))))) else (none)) else (none)) else (some true)
def impl_zrange.f (k : Nat) (l0 : List Int) (a1 : Int) (a2 : Int) (a3 : Int) : Option (Bool) := if (l0.length : Int) > a3 then (some false) else (impl_zrange.l0 k a1 a2 l0 (l0.length : Int) 0)
theorem impl_zrange.mono_l : ∀ k, (∀ y0 y1 y2 y3 y4, LeO (impl_zrange.l0 k y0 y1 y2 y3 y4) (impl_zrange.l0 (k + 1) y0 y1 y2 y3 y4))
  | 0 => fun _ _ _ _ _ r h => by simp [impl_zrange.l0] at h
  | k + 1 => by
    have ih0 := impl_zrange.mono_l k
    · intro y0 y1 y2 y3 y4
      unfold impl_zrange.l0
      repeat' first
      | (with_reducible exact ih0 _ _ _ _ _)
      | (with_reducible exact LeO.refl _)
      | (with_reducible exact LeO.none _)
      | (with_reducible refine LeO.ite ?_ ?_)
      | (with_reducible refine LeO.bind ?_ (fun _ => ?_))
      | exact ih0 _ _ _ _ _
      | exact LeO.none _
      | refine LeO.ite ?_ ?_
      | refine LeO.bind ?_ (fun _ => ?_)
theorem impl_zrange.mono : ∀ a0 a1 a2 a3 k, LeO (impl_zrange.f k a0 a1 a2 a3) (impl_zrange.f (k + 1) a0 a1 a2 a3) := by
  intro a0 a1 a2 a3 k
  have ih0 := impl_zrange.mono_l k
  unfold impl_zrange.f
  repeat' first
      | (with_reducible exact ih0 _ _ _ _ _)
      | (with_reducible exact LeO.refl _)
      | (with_reducible exact LeO.none _)
      | (with_reducible refine LeO.ite ?_ ?_)
      | (with_reducible refine LeO.bind ?_ (fun _ => ?_))
      | exact ih0 _ _ _ _ _
      | exact LeO.none _
      | refine LeO.ite ?_ ?_
      | refine LeO.bind ?_ (fun _ => ?_)
set_option maxHeartbeats 8000000 in
set_option maxRecDepth 100000 in
theorem impl_zrange.calls (k : Nat) (A0 : Option Addr) (c0 : Nat) (l0 : List Int) (a1 : Int) (a2 : Int) (a3 : Int) (r : Bool) (w : World) (hr0 : Kd.C (Kd.int .i64) w A0 l0.length l0) (hc0 : l0.length ≤ c0) (h : impl_zrange.f k l0 a1 a2 a3 = some r) :
    Calls Try.prog 118 #[.slice A0 l0.length c0, .int .i64 a1, .int .i64 a2, .int .i64 a3] w fun e w' => e = .returned (.bool r) ∧ Drawn0 w w' := by
  have HR0 := Aside0.mk hr0
  have HC0 := Aside0.mk hc0
  clear hr0 hc0
  have H : (if (l0.length : Int) > a3 then (some false) else (impl_zrange.l0 k a1 a2 l0 (l0.length : Int) 0)) = some r := h
  clear h
  by_cases c5 : (l0.length : Int) > a3
  · rw [if_pos c5] at H
    have c5b0 : decide (a3 < (l0.length : Int)) = true := decide_eq_true c5
    clear c5
    obtain rfl := Option.some.inj H
    go_enter Try.func118, Try.ntmps118
    go_wp2
    go_ret
    exact ⟨by first | rfl | (simp; done) | (simp [*]; done), by repeat (first | exact Drawn0.refl _ | apply Drawn0.step)⟩
  rw [if_neg c5] at H
  have c5b0 : decide (a3 < (l0.length : Int)) = false := decide_eq_false c5
  clear c5
  have H' := Aside0.mk H
  clear H
  go_enter Try.func118, Try.ntmps118
  go_wp2
  go_loopg [17] k (fun kq v17 w' => ∃ (x17_1 : Int), v17 = .int .i64 x17_1 ∧ Aside0 (impl_zrange.l0 kq a1 a2 l0 (l0.length : Int) x17_1 = some r) ∧ Aside0 (kq ≤ k) ∧ Drawn0 w w')
  case atStart => exact ⟨(0), (by first | rfl | (simp; done) | (simp [*]; done)), H', ⟨Nat.le_refl _⟩, by repeat (first | exact Drawn0.refl _ | apply Drawn0.step)⟩
  case round =>
    clear H'
    try clear c1
    try clear p2
    try clear c5
    try clear c5b0
    obtain ⟨x17_1, rfl, HA, HK1, ⟨m1, rfl⟩⟩ := hrel
    cases gk with
    | zero => exact absurd HA.out (by simp [impl_zrange.l0])
    | succ k1 =>
      have H := HA.out
      clear HA
      simp only [impl_zrange.l0] at H
      by_cases c6 : x17_1 < (l0.length : Int)
      rotate_left
      · rw [if_neg c6] at H
        have c6b0 : decide (x17_1 < (l0.length : Int)) = false := decide_eq_false c6
        clear c6
        obtain rfl := Option.some.inj H
        go_wp2
        go_ret
        exact ⟨by first | rfl | (simp; done) | (simp [*]; done), by repeat (first | exact Drawn0.refl _ | apply Drawn0.step)⟩
      rw [if_pos c6] at H
      have c6b0 : decide (x17_1 < (l0.length : Int)) = true := decide_eq_true c6
      clear c6
      by_cases c7 : 0 ≤ x17_1
      rotate_left
      · rw [if_neg c7] at H
        exact absurd H (by simp)
      rw [if_pos c7] at H
      have c7b0 : decide (0 ≤ x17_1) = true := decide_eq_true c7
      clear c7
      by_cases c8 : x17_1 < (l0.length : Int)
      rotate_left
      · rw [if_neg c8] at H
        exact absurd H (by simp)
      rw [if_pos c8] at H
      have c8b0 : decide (x17_1 < (l0.length : Int)) = true := decide_eq_true c8
      clear c8
      by_cases c9 : (rd l0 x17_1) < a1
      · rw [if_pos c9] at H
        have c9b0 : decide ((rd l0 x17_1) < a1) = true := decide_eq_true c9
        clear c9
        obtain rfl := Option.some.inj H
        have p121 : 0 ≤ (x17_1 : Int) := of_decide_eq_true (by first | (with_reducible assumption) | assumption)
        have q121 : x17_1 < (l0.length : Int) := of_decide_eq_true (by first | (with_reducible assumption) | assumption)
        obtain ⟨ad121, e121, hx121_0⟩ := Kd.at_int HR0.out x17_1 p121 q121
        cases e121
        replace p121 := eq_true p121
        replace q121 := eq_true q121
        go_wp2
        go_ret
        exact ⟨by first | rfl | (simp; done) | (simp [*]; done), by repeat (first | exact Drawn0.refl _ | apply Drawn0.step)⟩
      rw [if_neg c9] at H
      have c9b0 : decide ((rd l0 x17_1) < a1) = false := decide_eq_false c9
      clear c9
      by_cases c10 : (rd l0 x17_1) > a2
      · rw [if_pos c10] at H
        have c10b0 : decide (a2 < (rd l0 x17_1)) = true := decide_eq_true c10
        clear c10
        obtain rfl := Option.some.inj H
        have p121 : 0 ≤ (x17_1 : Int) := of_decide_eq_true (by first | (with_reducible assumption) | assumption)
        have q121 : x17_1 < (l0.length : Int) := of_decide_eq_true (by first | (with_reducible assumption) | assumption)
        obtain ⟨ad121, e121, hx121_0⟩ := Kd.at_int HR0.out x17_1 p121 q121
        cases e121
        replace p121 := eq_true p121
        replace q121 := eq_true q121
        go_wp2
        go_ret
        exact ⟨by first | rfl | (simp; done) | (simp [*]; done), by repeat (first | exact Drawn0.refl _ | apply Drawn0.step)⟩
      rw [if_neg c10] at H
      have c10b0 : decide (a2 < (rd l0 x17_1)) = false := decide_eq_false c10
      clear c10
      have H' := Aside0.mk H
      clear H
      have p121 : 0 ≤ (x17_1 : Int) := of_decide_eq_true (by first | (with_reducible assumption) | assumption)
      have q121 : x17_1 < (l0.length : Int) := of_decide_eq_true (by first | (with_reducible assumption) | assumption)
      obtain ⟨ad121, e121, hx121_0⟩ := Kd.at_int HR0.out x17_1 p121 q121
      cases e121
      replace p121 := eq_true p121
      replace q121 := eq_true q121
      go_wp2
      go_roundg k1
      case measure => have := HK1.out; omega
      case rel => exact ⟨(wrap64 (x17_1 + 1)), (by first | rfl | (simp; done) | (simp [*]; done)), H', ⟨by have := HK1.out; omega⟩, by repeat (first | exact Drawn0.refl _ | apply Drawn0.step)⟩

end Go.Proofs.Ytggokppfhkebkaa.PFnExactOddsUnpack

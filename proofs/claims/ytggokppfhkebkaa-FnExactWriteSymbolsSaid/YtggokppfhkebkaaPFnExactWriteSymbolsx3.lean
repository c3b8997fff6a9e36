-- written by myprint.py (a program of this session's over the kit's print)
import Derived.Test.YtggokppfhkebkaaPFnExactWriteSymbolsx0
import Derived.Test.YtggokppfhkebkaaPFnExactWriteSymbolsx1
import Derived.Test.YtggokppfhkebkaaPFnExactWriteSymbolsx2
namespace Go.Proofs.Ytggokppfhkebkaa.PFnExactWriteSymbols
open Go.RowKit Go.Proofs.YtggokppfhkebkaaW.PrintWords Go.Proofs.YtggokppfhkebkaaW.PrintLast Go.Proofs.YtggokppfhkebkaaW.PrintMore
attribute [local go_sem] max2_int min2_int max_two min_two max_three min_three max_four min_four   -- for this text's walks alone
set_option linter.unusedVariables false
set_option linter.unusedSimpArgs false

/-! ### spec_WriteSymbols: function 13 -/
def spec_WriteSymbols.l0 : Nat → List Int → List Int → List Int → Int → List Int → Int → Bool → Option (List Int)
  | 0, _, _, _, _, _, _, _ => none
  | k + 1, ls, l, ws, i, b, n, h => if i < (l.length : Int) then (if 0 ≤ i then (if (rd l i) < 0 then (some []) else (if (rd l i) ≥ (ls.length : Int) then (some []) else (if (rd ls (rd l i)) = 0 then (some []) else (if (rd l i) < (ws.length : Int) then ((spec_l1Sink_put.f k h b n (rd ls (rd l i)) (IntKind.u64.wrap (rd ws (rd l i)))).bind fun t => (spec_WriteSymbols.l0 k ls l ws (wrap64 (i + 1)) t.2.1 t.2.2 t.1)) else (none))))) else (none)) else (some b)
def spec_WriteSymbols.f (k : Nat) (l0 : List Int) (l1 : List Int) : Option (List Int) := (spec_CodeKind.f k l0).bind fun t => (if t = 0 then (some []) else (if (l1.length : Int) > 20000 then (some []) else ((spec_l2Words.f k l0).bind fun ws => (if 0 < ws.length then (spec_WriteSymbols.l0 k l0 l1 ws 0 [] 0 true) else (none)))))
theorem spec_WriteSymbols.mono_l : ∀ k, (∀ y0 y1 y2 y3 y4 y5 y6, LeO (spec_WriteSymbols.l0 k y0 y1 y2 y3 y4 y5 y6) (spec_WriteSymbols.l0 (k + 1) y0 y1 y2 y3 y4 y5 y6))
  | 0 => fun _ _ _ _ _ _ _ r h => by simp [spec_WriteSymbols.l0] at h
  | k + 1 => by
    have ih0 := spec_WriteSymbols.mono_l k
    · intro y0 y1 y2 y3 y4 y5 y6
      unfold spec_WriteSymbols.l0
      repeat' first
      | (with_reducible exact ih0 _ _ _ _ _ _ _)
      | (with_reducible exact spec_l1Sink_put.mono _ _ _ _ _ _)
      | (with_reducible exact spec_CodeKind.mono _ _)
      | (with_reducible exact spec_l2Words.mono _ _)
      | (with_reducible exact LeO.refl _)
      | (with_reducible exact LeO.none _)
      | (with_reducible refine LeO.ite ?_ ?_)
      | (with_reducible refine LeO.bind ?_ (fun _ => ?_))
      | exact ih0 _ _ _ _ _ _ _
      | exact spec_l1Sink_put.mono _ _ _ _ _ _
      | exact spec_CodeKind.mono _ _
      | exact spec_l2Words.mono _ _
      | exact LeO.none _
      | refine LeO.ite ?_ ?_
      | refine LeO.bind ?_ (fun _ => ?_)
theorem spec_WriteSymbols.mono : ∀ a0 a1 k, LeO (spec_WriteSymbols.f k a0 a1) (spec_WriteSymbols.f (k + 1) a0 a1) := by
  intro a0 a1 k
  have ih0 := spec_WriteSymbols.mono_l k
  unfold spec_WriteSymbols.f
  repeat' first
      | (with_reducible exact ih0 _ _ _ _ _ _ _)
      | (with_reducible exact spec_l1Sink_put.mono _ _ _ _ _ _)
      | (with_reducible exact spec_CodeKind.mono _ _)
      | (with_reducible exact spec_l2Words.mono _ _)
      | (with_reducible exact LeO.refl _)
      | (with_reducible exact LeO.none _)
      | (with_reducible refine LeO.ite ?_ ?_)
      | (with_reducible refine LeO.bind ?_ (fun _ => ?_))
      | exact ih0 _ _ _ _ _ _ _
      | exact spec_l1Sink_put.mono _ _ _ _ _ _
      | exact spec_CodeKind.mono _ _
      | exact spec_l2Words.mono _ _
      | exact LeO.none _
      | refine LeO.ite ?_ ?_
      | refine LeO.bind ?_ (fun _ => ?_)
set_option maxHeartbeats 8000000 in
set_option maxRecDepth 100000 in
theorem spec_WriteSymbols.calls (k : Nat) (A0 : Option Addr) (c0 : Nat) (l0 : List Int) (A1 : Option Addr) (c1 : Nat) (l1 : List Int) (r : List Int) (w : World) (hr0 : Kd.C (Kd.int .i64) w A0 l0.length l0) (hc0 : l0.length ≤ c0) (hr1 : Kd.C (Kd.int .i64) w A1 l1.length l1) (hc1 : l1.length ≤ c1) (h : spec_WriteSymbols.f k l0 l1 = some r) :
    Calls Try.prog 13 #[.slice A0 l0.length c0, .slice A1 l1.length c1] w fun e w' => ∃ v0_ : Value, e = .returned (v0_) ∧ Kd.R (Kd.int .u8) 5 w' w.heap.size (fun _ => True) v0_ r ∧ Below w.heap.size w w' := by
  have HR0 := Aside0.mk hr0
  have HC0 := Aside0.mk hc0
  clear hr0 hc0
  have HR1 := Aside0.mk hr1
  have HC1 := Aside0.mk hc1
  clear hr1 hc1
  have HB := Aside0.mk (Below.refl w.heap.size w)
  have hun := Try.underlying22
  unfold spec_WriteSymbols.f at h
  obtain ⟨t, A20, H⟩ := Option.bind_eq_some_iff.mp h
  clear h
  (try dsimp only at H)
  have A2 := Aside0.mk A20
  clear A20
  by_cases c : t = 0
  · rw [if_pos c] at H
    have cb := beq_iff_eq.mpr c
    clear c
    obtain rfl := Option.some.inj H
    go_enter Try.func13, Try.ntmps13
    go_wp2_with (first | ((with_reducible refine gate_callee (f := 70) rfl ?_); refine goesL_ (some 10) rfl rfl Try.func70 (by kernel_rfl) rfl #[.slice A0 l0.length c0] rfl (by (try simp only [List.map_toArray, List.map_cons, List.map_nil]); first | done | rfl) ?_; (with_reducible refine (spec_CodeKind.calls k _ _ l0 t _ ?side1 ?side2 A2.out).mono ?_); (case side1 => exact HR0.out); (case side2 => exact HC0.out); rintro e w1 ⟨rfl, hb0⟩; have hb := hb0.below; refine ⟨_, rfl, ?_⟩; have n0_ := Aside0.mk (Kd.C_below HR0.out hb); have n1_ := Aside0.mk (Kd.C_below HR1.out hb); have n2_ := Aside0.mk (below_step HB.out hb); clear HR0 HR1 HB hb hb0; have HR0 := n0_; have HR1 := n1_; have HB := n2_; clear n0_ n1_ n2_))
    go_ret
    exact ⟨_, rfl, Kd.R_nil _ _ _ _ _, HB.out⟩
  rw [if_neg c] at H
  have cb := beq_eq_false_iff_ne.mpr c
  clear c
  by_cases cl : (l1.length : Int) > 20000
  · rw [if_pos cl] at H
    have clb := decide_eq_true cl
    clear cl
    obtain rfl := Option.some.inj H
    go_enter Try.func13, Try.ntmps13
    go_wp2_with (first | ((with_reducible refine gate_callee (f := 70) rfl ?_); refine goesL_ (some 10) rfl rfl Try.func70 (by kernel_rfl) rfl #[.slice A0 l0.length c0] rfl (by (try simp only [List.map_toArray, List.map_cons, List.map_nil]); first | done | rfl) ?_; (with_reducible refine (spec_CodeKind.calls k _ _ l0 t _ ?side1 ?side2 A2.out).mono ?_); (case side1 => exact HR0.out); (case side2 => exact HC0.out); rintro e w1 ⟨rfl, hb0⟩; have hb := hb0.below; refine ⟨_, rfl, ?_⟩; have n0_ := Aside0.mk (Kd.C_below HR0.out hb); have n1_ := Aside0.mk (Kd.C_below HR1.out hb); have n2_ := Aside0.mk (below_step HB.out hb); clear HR0 HR1 HB hb hb0; have HR0 := n0_; have HR1 := n1_; have HB := n2_; clear n0_ n1_ n2_))
    go_ret
    exact ⟨_, rfl, Kd.R_nil _ _ _ _ _, HB.out⟩
  rw [if_neg cl] at H
  have clb := decide_eq_false cl
  clear cl
  obtain ⟨ws, A30, H⟩ := Option.bind_eq_some_iff.mp H
  (try dsimp only at H)
  have A3 := Aside0.mk A30
  clear A30
  by_cases cw : 0 < ws.length
  rotate_left
  · rw [if_neg cw] at H
    exact absurd H (by simp)
  rw [if_pos cw] at H
  have HW := Aside0.mk cw
  clear cw
  have HL := Aside0.mk H
  clear H
  go_enter Try.func13, Try.ntmps13
  go_wp2_with (first | ((with_reducible refine gate_callee (f := 70) rfl ?_); refine goesL_ (some 10) rfl rfl Try.func70 (by kernel_rfl) rfl #[.slice A0 l0.length c0] rfl (by (try simp only [List.map_toArray, List.map_cons, List.map_nil]); first | done | rfl) ?_; (with_reducible refine (spec_CodeKind.calls k _ _ l0 t _ ?side1 ?side2 A2.out).mono ?_); (case side1 => exact HR0.out); (case side2 => exact HC0.out); rintro e w1 ⟨rfl, hb0⟩; have hb := hb0.below; refine ⟨_, rfl, ?_⟩; have n0_ := Aside0.mk (Kd.C_below HR0.out hb); have n1_ := Aside0.mk (Kd.C_below HR1.out hb); have n2_ := Aside0.mk (below_step HB.out hb); clear HR0 HR1 HB hb hb0; have HR0 := n0_; have HR1 := n1_; have HB := n2_; clear n0_ n1_ n2_) | ((with_reducible refine gate_callee (f := 71) rfl ?_); refine goesL_ (some 18) rfl rfl Try.func71 (by kernel_rfl) rfl #[.slice A0 l0.length c0] rfl (by (try simp only [List.map_toArray, List.map_cons, List.map_nil]); first | done | rfl) ?_; (with_reducible refine (spec_l2Words.calls k _ _ l0 ws _ ?side1 ?side2 A3.out).mono ?_); (case side1 => exact HR0.out); (case side2 => exact HC0.out); rintro e wm ⟨v, rfl, ho, hb⟩; refine ⟨_, rfl, ?_⟩; have n0_ := Aside0.mk (Kd.C_below HR0.out hb); have n1_ := Aside0.mk (Kd.C_below HR1.out hb); have n2_ := Aside0.mk (below_step HB.out hb); clear HR0 HR1 HB hb; have HR0 := n0_; have HR1 := n1_; have HB := n2_; clear n0_ n1_ n2_; obtain ⟨gw, cw, rfl, _, _, _⟩ := Kd.R_form ho HW.out; have HOw := Aside0.mk ho; clear ho) | ((with_reducible refine gate_dst (N := 20) rfl ?_); refine box_event ?hg (N := 20) ?hd (cs := #[.bool true, .slice none 0 0, .int .i64 0]) (t := 95) ?hr ?_; (case hd => rfl); (case hg => rfl); (case hr => first | (go_simp; done) | (go_simp; rfl)); intro g hg wb hbox hb; have HS := Aside0.mk hb; have BK := Aside0.mk hbox; have GM := Aside0.mk (show wm.heap.size ≤ g from Nat.le_of_eq hg.symm); clear hg hb hbox))
  go_loopg [23] k (fun kq v23 w' => ∃ (i : Int) (b : List Int) (n : Int) (h : Bool) (u : Value), v23 = .int .i64 i ∧ Aside0 (spec_WriteSymbols.l0 kq l0 l1 ws i b n h = some r) ∧ Aside0 (kq ≤ k) ∧ Aside0 (Kd.R (Kd.int .u8) 5 w' wm.heap.size (fun _ => True) u b) ∧ Aside0 (w'.heap[g]? = some (.cells #[.bool h, u, .int .i64 n] 95 (0, 0))) ∧ Aside0 (Below wm.heap.size wm w'))
  case atStart => exact ⟨0, [], 0, true, .slice none 0 0, rfl, HL, ⟨Nat.le_refl _⟩, ⟨Kd.R_nil _ _ _ _ _⟩, BK, HS⟩
  case round =>
    clear HL BK HS
    obtain ⟨i, b, n, h, u, rfl, HA, HK1, HO, BK, HS⟩ := hrel
    cases gk with
    | zero => exact absurd HA.out (by simp [spec_WriteSymbols.l0])
    | succ k1 =>
      have H := HA.out
      clear HA
      simp only [spec_WriteSymbols.l0] at H
      by_cases c1 : i < (l1.length : Int)
      rotate_left
      · rw [if_neg c1] at H
        have c1b := decide_eq_false c1
        clear c1
        obtain rfl := Option.some.inj H
        have hcz0 : wr.cell? ⟨g, 0, none⟩ = some (.bool h) := (blk_cell BK.out 0).trans rfl
        have hcz1 : wr.cell? ⟨g, 1, none⟩ = some (u) := (blk_cell BK.out 1).trans rfl
        go_wp2
        go_ret
        exact ⟨_, rfl, Kd.R_mono (Kd.R_lower HO.out (below_size HB.out)) (fun _ _ => trivial), below_step HB.out HS.out⟩
      rw [if_pos c1] at H
      by_cases c2 : 0 ≤ i
      rotate_left
      · rw [if_neg c2] at H
        exact absurd H (by simp)
      rw [if_pos c2] at H
      have c1b := decide_eq_true c1
      have c2b := decide_eq_true c2
      obtain ⟨s, hs⟩ : ∃ s_ : Int, rd l1 i = s_ := ⟨_, rfl⟩
      obtain ⟨ad1, e1, hx1⟩ := Kd.at_int (Kd.C_below HR1.out HS.out) i c2 c1
      cases e1
      rw [hs] at H hx1
      clear hs
      replace c1 := eq_true c1
      replace c2 := eq_true c2
      by_cases c3 : s < 0
      · rw [if_pos c3] at H
        have c3b := decide_eq_true c3
        clear c3
        obtain rfl := Option.some.inj H
        go_wp2
        go_ret
        exact ⟨_, rfl, Kd.R_nil _ _ _ _ _, below_step HB.out HS.out⟩
      rw [if_neg c3] at H
      have c3b := decide_eq_false c3
      by_cases c4 : s ≥ (l0.length : Int)
      · rw [if_pos c4] at H
        have c4b := decide_eq_true c4
        clear c3 c4
        obtain rfl := Option.some.inj H
        go_wp2
        go_ret
        exact ⟨_, rfl, Kd.R_nil _ _ _ _ _, below_step HB.out HS.out⟩
      rw [if_neg c4] at H
      have c4b := decide_eq_false c4
      obtain ⟨ad0, e0, hx0⟩ := Kd.at_int (Kd.C_below HR0.out HS.out) s (by omega) (by omega)
      cases e0
      have s0 : 0 ≤ s := by omega
      have s1 : s < (l0.length : Int) := by omega
      by_cases c5 : rd l0 s = 0
      · rw [if_pos c5] at H
        have c5b := beq_iff_eq.mpr c5
        have S0 := eq_true s0
        have S1 := eq_true s1
        have S0b := decide_eq_true s0
        have S1b := decide_eq_true s1
        clear c3 c4 c5 s0 s1
        obtain rfl := Option.some.inj H
        go_wp2
        go_ret
        exact ⟨_, rfl, Kd.R_nil _ _ _ _ _, below_step HB.out HS.out⟩
      rw [if_neg c5] at H
      have c5b := beq_eq_false_iff_ne.mpr c5
      by_cases c6 : s < (ws.length : Int)
      rotate_left
      · rw [if_neg c6] at H
        exact absurd H (by simp)
      rw [if_pos c6] at H
      obtain ⟨adw, ew, hxw⟩ := Kd.at_int (Kd.C_below (Kd.R_reads' HOw.out).2.2 HS.out) s s0 c6
      cases ew
      rw [add_plain] at hxw
      have S0 := eq_true s0
      have S1 := eq_true s1
      have S2 := eq_true c6
      have S0b := decide_eq_true s0
      have S1b := decide_eq_true s1
      have S2b := decide_eq_true c6
      clear c3 c4 c5 s0 s1 c6
      replace H := Option.bind_eq_some_iff.mp H
      obtain ⟨⟨h', b', n'⟩, A50, H⟩ := H
      replace H : spec_WriteSymbols.l0 k1 l0 l1 ws (wrap64 (i + 1)) b' n' h' = some r := H
      have A5 := Aside0.mk A50
      clear A50
      have H' := Aside0.mk H
      clear H
      go_upto_region 10 with (fail)
      refine still_tail_ 10 (by kernel_rfl) (by kernel_rfl) (fun w4 hw4 => ?_)
      have hd_ := below_drew (Below.refl wr.heap.size wr)
      rw [← hw4] at hd_
      clear hw4
      have n0_ := Aside0.mk (Kd.R_below HO.out hd_)
      have n1_ := Aside0.mk (blk_below BK.out hd_)
      have n2_ := Aside0.mk (below_step HS.out hd_)
      replace hx0 := pw_cell_below hd_ hx0
      replace hxw := pw_cell_below hd_ hxw
      clear HO BK HS hx1 hd_
      have HO := n0_
      have BK := n1_
      have HS := n2_
      clear n0_ n1_ n2_
      simp only [List.take_succ_cons, List.take_zero, List.drop_succ_cons, List.drop_zero]
      repeat still_step
      refine wpStill_nil ?_
      clear hx0 hxw
      go_wp2_with (first | ((with_reducible refine gate_callee (f := 72) rfl ?_); refine goesL_ (some 52) rfl rfl Try.func72 (by kernel_rfl) rfl #[.pointer (some ⟨g, 0, none⟩), .int .i64 (rd l0 s), .int .u64 (IntKind.u64.wrap (rd ws s))] rfl (by (try simp only [List.map_toArray, List.map_cons, List.map_nil]); first | done | rfl) ?_; (with_reducible refine (spec_l1Sink_put.calls k1 g h b n (rd l0 s) (IntKind.u64.wrap (rd ws s)) h' b' n' wm _ HS.out GM.out u BK.out HO.out A5.out).mono ?_); rintro e w5 ⟨v', rfl, hbx, ho, hb⟩; refine ⟨_, rfl, ?_⟩; clear HS BK HO; have HS := Aside0.mk hb; have BK := Aside0.mk hbx; have HO := Aside0.mk ho; clear hb hbx ho))
      go_roundg k1
      case measure => have := HK1.out; omega
      case rel => exact ⟨_, b', n', h', v', (by first | rfl | (simp; done) | (simp [*]; done)), H', ⟨by have := HK1.out; omega⟩, HO, BK, HS⟩

/-! ### laws_toIntS: function 14 -/
def laws_toIntS.l0 : Nat → List Int → List Int → Int → Option (List Int)
  | 0, _, _, _ => none
  | k + 1, x0, x3, x4 => if x4 < (x0.length : Int) then (if 0 ≤ x4 then (if x4 < (x3.length : Int) then (laws_toIntS.l0 k x0 (x3.set (x4 : Int).toNat (rd x0 x4)) (wrap64 (x4 + 1))) else (none)) else (none)) else (some x3)
def laws_toIntS.f (k : Nat) (l0 : List Int) : Option (List Int) := if 0 ≤ (l0.length : Int) then (if ((l0.length : Int) : Int).toNat ≤ 35184372088832 then (laws_toIntS.l0 k l0 (List.replicate ((l0.length : Int) : Int).toNat 0) 0) else (none)) else (none)
theorem laws_toIntS.mono_l : ∀ k, (∀ y0 y1 y2, LeO (laws_toIntS.l0 k y0 y1 y2) (laws_toIntS.l0 (k + 1) y0 y1 y2))
  | 0 => fun _ _ _ r h => by simp [laws_toIntS.l0] at h
  | k + 1 => by
    have ih0 := laws_toIntS.mono_l k
    · intro y0 y1 y2
      unfold laws_toIntS.l0
      repeat' first
      | (with_reducible exact ih0 _ _ _)
      | (with_reducible exact LeO.refl _)
      | (with_reducible exact LeO.none _)
      | (with_reducible refine LeO.ite ?_ ?_)
      | (with_reducible refine LeO.bind ?_ (fun _ => ?_))
      | exact ih0 _ _ _
      | exact LeO.none _
      | refine LeO.ite ?_ ?_
      | refine LeO.bind ?_ (fun _ => ?_)
theorem laws_toIntS.mono : ∀ a0 k, LeO (laws_toIntS.f k a0) (laws_toIntS.f (k + 1) a0) := by
  intro a0 k
  have ih0 := laws_toIntS.mono_l k
  unfold laws_toIntS.f
  repeat' first
      | (with_reducible exact ih0 _ _ _)
      | (with_reducible exact LeO.refl _)
      | (with_reducible exact LeO.none _)
      | (with_reducible refine LeO.ite ?_ ?_)
      | (with_reducible refine LeO.bind ?_ (fun _ => ?_))
      | exact ih0 _ _ _
      | exact LeO.none _
      | refine LeO.ite ?_ ?_
      | refine LeO.bind ?_ (fun _ => ?_)
set_option maxHeartbeats 8000000 in
set_option maxRecDepth 100000 in
theorem laws_toIntS.calls (k : Nat) (A0 : Option Addr) (c0 : Nat) (l0 : List Int) (r : List Int) (w : World) (hr0 : Kd.C (Kd.int .i64) w A0 l0.length l0) (hc0 : l0.length ≤ c0) (h : laws_toIntS.f k l0 = some r) :
    Calls Try.prog 14 #[.slice A0 l0.length c0] w fun e w' => ∃ v0_ : Value, e = .returned (v0_) ∧ Kd.R (Kd.int .i64) 3 w' w.heap.size (fun _ => True) v0_ r ∧ Below w.heap.size w w' := by
  have HR0 := Aside0.mk hr0
  have HC0 := Aside0.mk hc0
  clear hr0 hc0
  have HB := Aside0.mk (Below.refl w.heap.size w)
  have H : (if 0 ≤ (l0.length : Int) then (if ((l0.length : Int) : Int).toNat ≤ 35184372088832 then (laws_toIntS.l0 k l0 (List.replicate ((l0.length : Int) : Int).toNat 0) 0) else (none)) else (none)) = some r := h
  clear h
  by_cases c2 : 0 ≤ (l0.length : Int)
  rotate_left
  · rw [if_neg c2] at H
    exact absurd H (by simp)
  rw [if_pos c2] at H
  have c2b0 := eq_true c2
  have c2b1 : decide (0 ≤ (l0.length : Int)) = true := decide_eq_true c2
  clear c2
  by_cases c3 : ((l0.length : Int) : Int).toNat ≤ 35184372088832
  rotate_left
  · rw [if_neg c3] at H
    exact absurd H (by simp)
  rw [if_pos c3] at H
  have c3b0 := eq_true c3
  have c3b1 : decide (((l0.length : Int) : Int).toNat ≤ 35184372088832) = true := decide_eq_true c3
  clear c3
  obtain ⟨y127, hy127⟩ : ∃ y_ : List Int, y_ = (List.replicate ((l0.length : Int) : Int).toNat 0) := ⟨_, rfl⟩
  replace H : (laws_toIntS.l0 k l0 y127 0) = some r := by first | (rw [hy127]; with_reducible exact H) | (have H2_ := (Option.bind_some _ _).symm.trans H; rw [hy127]; with_reducible exact H2_) | (have H2_ := (Option.bind_some _ _).symm.trans H; with_reducible exact H2_) | with_reducible exact H | (rw [hy127]; exact H) | exact H
  have Ny127 := Aside0.mk hy127
  clear hy127
  have H' := Aside0.mk H
  clear H
  go_enter Try.func14, Try.ntmps14
  go_wp2_with (first | ((with_reducible refine gate_dst (N := 7) rfl ?_); refine Kd.R_make (Kd.int .i64) _ 3 rfl (N := 7) rfl 22 _ _ rfl (l0.length : Int) rfl rfl Try.underlying22 (.int .i64 0) 8 info3 rfl (by decide) (by omega) 0 (ok := fun _ => True) (okp := fun _ => True) rfl (fun _ hk => hk) trivial (of_decide_eq_true (by first | (with_reducible assumption) | assumption)) (Nat.le_trans (Nat.mul_le_mul_right _ (of_decide_eq_true (by first | (with_reducible assumption) | assumption) : (l0.length : Int).toNat ≤ 35184372088832)) (by omega)) (Below.refl _ _) (Nat.le_refl _) ?_; intro v128 w4 ho5 hb hg_ hnew_; clear hg_ hnew_; (first | rw [← Ny127.out] at ho5 | (simp only [Int.reduceToNat] at ho5; rw [← Ny127.out] at ho5)); have n0_ := Aside0.mk (Kd.R_lower ho5 (below_size (by repeat (first | (with_reducible first | exact HB.out | apply below_alloc | apply pw_below_drewN | apply below_drew1) | exact HB.out)))); have n1_ := Aside0.mk (below_step (by repeat (first | (with_reducible first | exact HB.out | apply below_alloc | apply pw_below_drewN | apply below_drew1) | exact HB.out)) hb); clear HB; have HO129 := n0_; have HB := n1_; clear n0_ n1_; clear hb ho5))
  go_loopg [4] k (fun kq v4 w' => ∃ (x3_1 : List Int) (x4_1 : Int), v4 = .int .i64 x4_1 ∧ Aside0 (laws_toIntS.l0 kq l0 x3_1 x4_1 = some r) ∧ Aside0 (kq ≤ k) ∧ Aside0 (Kd.R (Kd.int .i64) 3 w' w.heap.size (fun _ => True) v128 x3_1) ∧ Aside0 (Below w.heap.size w w'))
  case atStart => exact ⟨(y127), (0), (by first | rfl | (simp; done) | (simp [*]; done)), H', ⟨Nat.le_refl _⟩, ⟨by (with_reducible repeat (first | apply Kd.R_alloc | apply Kd.R_drewN | apply Kd.R_drew)); exact HO129.out⟩, ⟨by repeat (first | (with_reducible first | exact HB.out | apply below_alloc | apply pw_below_drewN | apply below_drew1) | exact HB.out)⟩⟩
  case round =>
    clear H'
    try clear c1
    try clear c2
    try clear c2b0
    try clear c2b1
    try clear p2
    try clear c3
    try clear c3b0
    try clear c3b1
    obtain ⟨x3_1, x4_1, rfl, HA, HK1, HO_3, HB⟩ := hrel
    cases gk with
    | zero => exact absurd HA.out (by simp [laws_toIntS.l0])
    | succ k1 =>
      have H := HA.out
      clear HA
      simp only [laws_toIntS.l0] at H
      by_cases c6 : x4_1 < (l0.length : Int)
      rotate_left
      · rw [if_neg c6] at H
        have c6b0 : decide (x4_1 < (l0.length : Int)) = false := decide_eq_false c6
        clear c6
        obtain rfl := Option.some.inj H
        go_wp2
        go_ret
        exact ⟨_, by first | rfl | (simp [errW_none, errW_some] <;> rfl) | (simp [*, errW_none, errW_some] <;> rfl), by (with_reducible repeat (first | apply Kd.R_alloc | apply Kd.R_drewN | apply Kd.R_drew)); exact HO_3.out, by repeat (first | (with_reducible first | exact HB.out | apply below_alloc | apply pw_below_drewN | apply below_drew1) | exact HB.out)⟩
      rw [if_pos c6] at H
      have c6b0 : decide (x4_1 < (l0.length : Int)) = true := decide_eq_true c6
      clear c6
      by_cases c7 : 0 ≤ x4_1
      rotate_left
      · rw [if_neg c7] at H
        exact absurd H (by simp)
      rw [if_pos c7] at H
      have c7b0 : decide (0 ≤ x4_1) = true := decide_eq_true c7
      clear c7
      by_cases c8 : x4_1 < (x3_1.length : Int)
      rotate_left
      · rw [if_neg c8] at H
        exact absurd H (by simp)
      rw [if_pos c8] at H
      have c8b0 : decide (x4_1 < (x3_1.length : Int)) = true := decide_eq_true c8
      clear c8
      obtain ⟨y131, hy131⟩ : ∃ y_ : List Int, y_ = (x3_1.set (x4_1 : Int).toNat (rd l0 x4_1)) := ⟨_, rfl⟩
      replace H : (laws_toIntS.l0 k1 l0 y131 (wrap64 (x4_1 + 1))) = some r := by first | (rw [hy131]; with_reducible exact H) | (have H2_ := (Option.bind_some _ _).symm.trans H; rw [hy131]; with_reducible exact H2_) | (have H2_ := (Option.bind_some _ _).symm.trans H; with_reducible exact H2_) | with_reducible exact H | (rw [hy131]; exact H) | exact H
      have Ny131 := Aside0.mk hy131
      clear hy131
      have H' := Aside0.mk H
      clear H
      have p130 : 0 ≤ (x4_1 : Int) := of_decide_eq_true (by first | (with_reducible assumption) | assumption)
      have q130 : x4_1 < (l0.length : Int) := of_decide_eq_true (by first | (with_reducible assumption) | assumption)
      obtain ⟨ad130, e130, hx130_0⟩ := Kd.at_int HR0.out x4_1 p130 q130
      cases e130
      replace hx130_0 := (HB.out.cell (World.block_lt_of_cell? w _ hx130_0)).trans hx130_0
      replace p130 := eq_true p130
      replace q130 := eq_true q130
      have p9 : 0 ≤ (x4_1 : Int) := of_decide_eq_true (by first | (with_reducible assumption) | assumption)
      have q9 : (x4_1 : Int) < ((x3_1.length : Int) : Int) := of_decide_eq_true (by first | (with_reducible assumption) | assumption)
      obtain ⟨go9, co9, eo9, gb9, gl9, cl9, HG9⟩ := Kd.R_form HO_3.out (by omega)
      (first | cases eo9 | (injection eo9 with ea_ en_ ec_; (first | subst ea_ | (injection ea_ with ea_; subst ea_)); subst ec_; clear en_))
      have GB9 := Aside0.mk gb9
      have GG9 := Aside0.mk HG9
      clear gb9 gl9 HG9
      obtain ⟨hx9_0, hf9_0⟩ := Kd.R_celln 0 HO_3.out (x4_1 : Int) p9 q9
      replace p9 := eq_true p9
      replace q9 := eq_true q9
      have HP10 := Kd.R_putg HO_3.out (x4_1 : Int) (rd l0 x4_1)
      go_wp2_with (first | ((with_reducible refine gate_store (t := 3) (p := 20) rfl ?_); refine store_event (t := 3) (p := 20) (v := ?vo_w11) (w1 := (wr.setCell ⟨go9, (x4_1 : Int).toNat, none⟩ (.int .i64 (rd l0 x4_1)))) ?hg ?ho ?hn ?hr ?_; (case ho => rfl); (case hg => rfl); (case hn => rfl); (case hr => first | (go_simp; done) | (go_simp; rfl)); intro w11 hw; have hg : wr.grownBy w11 (some go9) := (by rw [hw]; exact HP10.2); have hp_ : Kd.R (Kd.int .i64) 3 w11 w.heap.size (fun _ => True) (.slice (some ⟨go9, 0, none⟩) x3_1.length co9) y131 := (by rw [hw, Ny131.out]; exact HP10.1); clear HP10; have n0_ := Aside0.mk (hp_); have n1_ := Aside0.mk ((by rw [hw]; exact below_set (HB.out) GB9.out : Below w.heap.size w w11)); clear HO_3; clear HB; have HO_3 := n0_; have HB := n1_; clear n0_ n1_; clear hg hw hp_))
      go_roundg k1
      case measure => have := HK1.out; omega
      case rel => exact ⟨(y131), (wrap64 (x4_1 + 1)), (by first | rfl | (simp; done) | (simp [*]; done)), H', ⟨by have := HK1.out; omega⟩, ⟨by (with_reducible repeat (first | apply Kd.R_alloc | apply Kd.R_drewN | apply Kd.R_drew)); exact HO_3.out⟩, ⟨by repeat (first | (with_reducible first | exact HB.out | apply below_alloc | apply pw_below_drewN | apply below_drew1) | exact HB.out)⟩⟩

/-! ### impl_CodeKind: function 131 -/
mutual
def impl_CodeKind.l0 : Nat → Int → List Int → Int → Int → Option (Int)
  | 0, _, _, _, _ => none
  | k + 1, x3, x9, x10, x11 => if x11 < x10 then (if 0 ≤ x11 then (if x11 < (x9.length : Int) then (if (rd x9 x11) < 0 then (impl_CodeKind.j1 k x3 (rd x9 x11) x9 x10 x11 true) else (impl_CodeKind.j1 k x3 (rd x9 x11) x9 x10 x11 (decide ((rd x9 x11) > 15)))) else (none)) else (none)) else (if x3 = 0 then (impl_CodeKind.j2 k x3 true) else (impl_CodeKind.j2 k x3 (decide (x3 > 32768))))
def impl_CodeKind.j1 : Nat → Int → Int → List Int → Int → Int → Bool → Option (Int)
  | 0, _, _, _, _, _, _ => none
  | k + 1, x3, x5, x9, x10, x11, x20 => if x20 = true then (some 0) else (if x5 > 0 then (if 0 ≤ (wrap64 (15 - x5)) then (impl_CodeKind.l0 k (wrap64 (x3 + (shl .i64 1 (wrap64 (15 - x5))))) x9 x10 (wrap64 (x11 + 1))) else (none)) else (impl_CodeKind.l0 k x3 x9 x10 (wrap64 (x11 + 1))))
def impl_CodeKind.j2 : Nat → Int → Bool → Option (Int)
  | 0, _, _ => none
  | k + 1, x3, x29 => if x29 = true then (some 0) else (if x3 < 32768 then (some 1) else (some 2))
end
def impl_CodeKind.f (k : Nat) (l0 : List Int) : Option (Int) := if (l0.length : Int) > 300 then (some 0) else (impl_CodeKind.l0 k 0 l0 (l0.length : Int) 0)
theorem impl_CodeKind.mono_l : ∀ k, (∀ y0 y1 y2 y3, LeO (impl_CodeKind.l0 k y0 y1 y2 y3) (impl_CodeKind.l0 (k + 1) y0 y1 y2 y3)) ∧ (∀ y0 y1 y2 y3 y4 y5, LeO (impl_CodeKind.j1 k y0 y1 y2 y3 y4 y5) (impl_CodeKind.j1 (k + 1) y0 y1 y2 y3 y4 y5)) ∧ (∀ y0 y1, LeO (impl_CodeKind.j2 k y0 y1) (impl_CodeKind.j2 (k + 1) y0 y1))
  | 0 => ⟨fun _ _ _ _ r h => by simp [impl_CodeKind.l0] at h, fun _ _ _ _ _ _ r h => by simp [impl_CodeKind.j1] at h, fun _ _ r h => by simp [impl_CodeKind.j2] at h⟩
  | k + 1 => by
    obtain ⟨ih0, ih1, ih2⟩ := impl_CodeKind.mono_l k
    refine ⟨?_, ?_, ?_⟩
    · intro y0 y1 y2 y3
      unfold impl_CodeKind.l0
      repeat' first
      | (with_reducible exact ih0 _ _ _ _)
      | (with_reducible exact ih1 _ _ _ _ _ _)
      | (with_reducible exact ih2 _ _)
      | (with_reducible exact LeO.refl _)
      | (with_reducible exact LeO.none _)
      | (with_reducible refine LeO.ite ?_ ?_)
      | (with_reducible refine LeO.bind ?_ (fun _ => ?_))
      | exact ih0 _ _ _ _
      | exact ih1 _ _ _ _ _ _
      | exact ih2 _ _
      | exact LeO.none _
      | refine LeO.ite ?_ ?_
      | refine LeO.bind ?_ (fun _ => ?_)
    · intro y0 y1 y2 y3 y4 y5
      unfold impl_CodeKind.j1
      repeat' first
      | (with_reducible exact ih0 _ _ _ _)
      | (with_reducible exact ih1 _ _ _ _ _ _)
      | (with_reducible exact ih2 _ _)
      | (with_reducible exact LeO.refl _)
      | (with_reducible exact LeO.none _)
      | (with_reducible refine LeO.ite ?_ ?_)
      | (with_reducible refine LeO.bind ?_ (fun _ => ?_))
      | exact ih0 _ _ _ _
      | exact ih1 _ _ _ _ _ _
      | exact ih2 _ _
      | exact LeO.none _
      | refine LeO.ite ?_ ?_
      | refine LeO.bind ?_ (fun _ => ?_)
    · intro y0 y1
      unfold impl_CodeKind.j2
      repeat' first
      | (with_reducible exact ih0 _ _ _ _)
      | (with_reducible exact ih1 _ _ _ _ _ _)
      | (with_reducible exact ih2 _ _)
      | (with_reducible exact LeO.refl _)
      | (with_reducible exact LeO.none _)
      | (with_reducible refine LeO.ite ?_ ?_)
      | (with_reducible refine LeO.bind ?_ (fun _ => ?_))
      | exact ih0 _ _ _ _
      | exact ih1 _ _ _ _ _ _
      | exact ih2 _ _
      | exact LeO.none _
      | refine LeO.ite ?_ ?_
      | refine LeO.bind ?_ (fun _ => ?_)
theorem impl_CodeKind.mono : ∀ a0 k, LeO (impl_CodeKind.f k a0) (impl_CodeKind.f (k + 1) a0) := by
  intro a0 k
  obtain ⟨ih0, ih1, ih2⟩ := impl_CodeKind.mono_l k
  unfold impl_CodeKind.f
  repeat' first
      | (with_reducible exact ih0 _ _ _ _)
      | (with_reducible exact ih1 _ _ _ _ _ _)
      | (with_reducible exact ih2 _ _)
      | (with_reducible exact LeO.refl _)
      | (with_reducible exact LeO.none _)
      | (with_reducible refine LeO.ite ?_ ?_)
      | (with_reducible refine LeO.bind ?_ (fun _ => ?_))
      | exact ih0 _ _ _ _
      | exact ih1 _ _ _ _ _ _
      | exact ih2 _ _
      | exact LeO.none _
      | refine LeO.ite ?_ ?_
      | refine LeO.bind ?_ (fun _ => ?_)
set_option maxHeartbeats 8000000 in
set_option maxRecDepth 100000 in
theorem impl_CodeKind.calls (k : Nat) (A0 : Option Addr) (c0 : Nat) (l0 : List Int) (r : Int) (w : World) (hr0 : Kd.C (Kd.int .i64) w A0 l0.length l0) (hc0 : l0.length ≤ c0) (h : impl_CodeKind.f k l0 = some r) :
    Calls Try.prog 131 #[.slice A0 l0.length c0] w fun e w' => e = .returned (.int .i64 r) ∧ Drawn0 w w' := by
  have HR0 := Aside0.mk hr0
  have HC0 := Aside0.mk hc0
  clear hr0 hc0
  have H : (if (l0.length : Int) > 300 then (some 0) else (impl_CodeKind.l0 k 0 l0 (l0.length : Int) 0)) = some r := h
  clear h
  by_cases c2 : (l0.length : Int) > 300
  · rw [if_pos c2] at H
    have c2b0 : decide (300 < (l0.length : Int)) = true := decide_eq_true c2
    have c2b1 : decide (300 < l0.length) = true := decide_eq_true (by omega)
    have c2b2 : 300 < l0.length := by omega
    clear c2
    obtain rfl := Option.some.inj H
    go_enter Try.func131, Try.ntmps131
    go_wp2
    go_ret
    exact ⟨by first | rfl | (simp; done) | (simp [*]; done), by repeat (first | exact Drawn0.refl _ | apply Drawn0.step)⟩
  rw [if_neg c2] at H
  have c2b0 : decide (300 < (l0.length : Int)) = false := decide_eq_false c2
  have c2b1 : decide (300 < l0.length) = false := decide_eq_false (by omega)
  have c2b2 : ¬ (300 < l0.length) := by omega
  clear c2
  have H' := Aside0.mk H
  clear H
  go_enter Try.func131, Try.ntmps131
  go_wp2
  go_loopg [3, 11] k (fun kq v3 v11 w' => ∃ (x3_1 : Int) (x11_1 : Int), v3 = .int .i64 x3_1 ∧ v11 = .int .i64 x11_1 ∧ Aside0 (impl_CodeKind.l0 kq x3_1 l0 (l0.length : Int) x11_1 = some r) ∧ Aside0 (kq ≤ k) ∧ Drawn0 w w')
  case atStart => exact ⟨(0), (0), (by first | rfl | (simp; done) | (simp [*]; done)), (by first | rfl | (simp; done) | (simp [*]; done)), H', ⟨Nat.le_refl _⟩, by repeat (first | exact Drawn0.refl _ | apply Drawn0.step)⟩
  case round =>
    clear H'
    try clear c1
    try clear c2
    try clear c2b0
    try clear c2b1
    try clear c2b2
    try clear p2
    obtain ⟨x3_1, x11_1, rfl, rfl, HA, HK1, ⟨m1, rfl⟩⟩ := hrel
    cases gk with
    | zero => exact absurd HA.out (by simp [impl_CodeKind.l0])
    | succ k1 =>
      have H := HA.out
      clear HA
      simp only [impl_CodeKind.l0] at H
      by_cases c3 : x11_1 < (l0.length : Int)
      rotate_left
      · rw [if_neg c3] at H
        have c3b0 : decide (x11_1 < (l0.length : Int)) = false := decide_eq_false c3
        clear c3
        have HC13 := Aside0.mk H
        clear H
        go_upto_region 12 with (fail)
        go_cut [29] (fun v29 wc => ∃ (kq : Nat) (x29_12 : Bool), v29 = .bool x29_12 ∧ Aside0 (impl_CodeKind.j2 kq x3_1 x29_12 = some r) ∧ Aside0 (kq ≤ k1) ∧ Drawn0 w wc)
        case first =>
          have H := HC13.out
          clear HC13
          by_cases c14 : x3_1 = 0
          · rw [if_pos c14] at H
            have c14b0 : (x3_1 == 0) = true := beq_iff_eq.mpr c14
            have c14b1 : (x3_1 != 0) = false := bne_eq_false_iff_eq.mpr c14
            clear c14
            (first | rw [c14b0] | (simp only [i64_w, i32_w]; rw [c14b0]) | skip)
            have H' := Aside0.mk H
            clear H
            go_wp2
            go_meet
            case rel => exact ⟨_, (true), (by first | rfl | (simp; done) | (simp [*]; done)), H', ⟨by have := HK1.out; first | omega | exact Nat.le_refl _⟩, by repeat (first | exact Drawn0.refl _ | apply Drawn0.step)⟩
          rw [if_neg c14] at H
          have c14b0 : (x3_1 == 0) = false := beq_eq_false_iff_ne.mpr c14
          have c14b1 : (x3_1 != 0) = true := bne_iff_ne.mpr c14
          (first | rw [c14b0] | (simp only [i64_w, i32_w]; rw [c14b0]) | skip)
          have H' := Aside0.mk H
          clear H
          go_wp2
          go_meet
          case rel => exact ⟨_, (decide (x3_1 > 32768)), (by first | rfl | (simp; done) | (simp [*]; done)), H', ⟨by have := HK1.out; first | omega | exact Nat.le_refl _⟩, by repeat (first | exact Drawn0.refl _ | apply Drawn0.step)⟩
        case rest =>
          clear HC13
          try clear c1
          try clear p1
          try clear q1
          try clear hx1
          try clear c2
          try clear c2b0
          try clear c2b1
          try clear c2b2
          try clear p2
          try clear c3
          try clear c3b0
          try clear c4
          try clear c4b0
          try clear c5
          try clear c5b0
          try clear p6
          try clear c7
          try clear c7b0
          try clear c8
          try clear c9
          try clear c9b0
          try clear c11
          try clear c11b0
          try clear c11b1
          try clear c13
          try clear p13
          try clear q13
          try clear hx13
          try clear c14
          try clear c14b0
          try clear c14b1
          try clear hx132_0
          try clear p1
          try clear p132
          try clear p2
          try clear q1
          try clear q132
          obtain ⟨kq, x29_12, rfl, HA, HJ12, ⟨mc12, rfl⟩⟩ := hcut
          cases kq with
          | zero => exact absurd HA.out (by simp [impl_CodeKind.j2])
          | succ kj12 =>
            have H := HA.out
            clear HA
            simp only [impl_CodeKind.j2] at H
            by_cases c15 : x29_12 = true
            · subst c15
              have H1 : (some 0) = some r := by rw [if_pos rfl] at H; exact H
              clear H
              have H := H1
              clear H1
              obtain rfl := Option.some.inj H
              go_wp2
              go_ret
              exact ⟨by first | rfl | (simp; done) | (simp [*]; done), by repeat (first | exact Drawn0.refl _ | apply Drawn0.step)⟩
            replace c15 := Bool.eq_false_iff.mpr c15
            subst c15
            have H1 : (if x3_1 < 32768 then (some 1) else (some 2)) = some r := by rw [if_neg (show ¬ (false = true) by decide)] at H; exact H
            clear H
            have H := H1
            clear H1
            by_cases c16 : x3_1 < 32768
            · rw [if_pos c16] at H
              have c16b0 : decide (x3_1 < 32768) = true := decide_eq_true c16
              clear c16
              obtain rfl := Option.some.inj H
              go_wp2
              go_ret
              exact ⟨by first | rfl | (simp; done) | (simp [*]; done), by repeat (first | exact Drawn0.refl _ | apply Drawn0.step)⟩
            rw [if_neg c16] at H
            have c16b0 : decide (x3_1 < 32768) = false := decide_eq_false c16
            clear c16
            obtain rfl := Option.some.inj H
            go_wp2
            go_ret
            exact ⟨by first | rfl | (simp; done) | (simp [*]; done), by repeat (first | exact Drawn0.refl _ | apply Drawn0.step)⟩
      rw [if_pos c3] at H
      have c3b0 : decide (x11_1 < (l0.length : Int)) = true := decide_eq_true c3
      clear c3
      by_cases c4 : 0 ≤ x11_1
      rotate_left
      · rw [if_neg c4] at H
        exact absurd H (by simp)
      rw [if_pos c4] at H
      have c4b0 : decide (0 ≤ x11_1) = true := decide_eq_true c4
      clear c4
      by_cases c5 : x11_1 < (l0.length : Int)
      rotate_left
      · rw [if_neg c5] at H
        exact absurd H (by simp)
      rw [if_pos c5] at H
      have c5b0 : decide (x11_1 < (l0.length : Int)) = true := decide_eq_true c5
      clear c5
      have HC6 := Aside0.mk H
      clear H
      have p132 : 0 ≤ (x11_1 : Int) := of_decide_eq_true (by first | (with_reducible assumption) | assumption)
      have q132 : x11_1 < (l0.length : Int) := of_decide_eq_true (by first | (with_reducible assumption) | assumption)
      obtain ⟨ad132, e132, hx132_0⟩ := Kd.at_int HR0.out x11_1 p132 q132
      cases e132
      replace p132 := eq_true p132
      replace q132 := eq_true q132
      go_upto_region 7 with (fail)
      go_cut [20] (fun v20 wc => ∃ (kq : Nat) (x20_5 : Bool), v20 = .bool x20_5 ∧ Aside0 (impl_CodeKind.j1 kq x3_1 (rd l0 x11_1) l0 (l0.length : Int) x11_1 x20_5 = some r) ∧ Aside0 (kq ≤ k1) ∧ Drawn0 w wc)
      case first =>
        have H := HC6.out
        clear HC6
        by_cases c7 : (rd l0 x11_1) < 0
        · rw [if_pos c7] at H
          have c7b0 : decide ((rd l0 x11_1) < 0) = true := decide_eq_true c7
          clear c7
          (first | rw [c7b0] | (simp only [i64_w, i32_w]; rw [c7b0]) | skip)
          have H' := Aside0.mk H
          clear H
          go_wp2
          go_meet
          case rel => exact ⟨_, (true), (by first | rfl | (simp; done) | (simp [*]; done)), H', ⟨by have := HK1.out; first | omega | exact Nat.le_refl _⟩, by repeat (first | exact Drawn0.refl _ | apply Drawn0.step)⟩
        rw [if_neg c7] at H
        have c7b0 : decide ((rd l0 x11_1) < 0) = false := decide_eq_false c7
        clear c7
        (first | rw [c7b0] | (simp only [i64_w, i32_w]; rw [c7b0]) | skip)
        have H' := Aside0.mk H
        clear H
        go_wp2
        go_meet
        case rel => exact ⟨_, (decide ((rd l0 x11_1) > 15)), (by first | rfl | (simp; done) | (simp [*]; done)), H', ⟨by have := HK1.out; first | omega | exact Nat.le_refl _⟩, by repeat (first | exact Drawn0.refl _ | apply Drawn0.step)⟩
      case rest =>
        clear HC6
        try clear c1
        try clear p1
        try clear q1
        try clear hx1
        try clear c2
        try clear c2b0
        try clear c2b1
        try clear c2b2
        try clear p2
        try clear c3
        try clear c3b0
        try clear c4
        try clear c4b0
        try clear c5
        try clear c5b0
        try clear c7
        try clear c7b0
        try clear hx132_0
        try clear p132
        try clear p2
        try clear q132
        obtain ⟨kq, x20_5, rfl, HA, HJ5, ⟨mc5, rfl⟩⟩ := hcut
        cases kq with
        | zero => exact absurd HA.out (by simp [impl_CodeKind.j1])
        | succ kj5 =>
          have H := HA.out
          clear HA
          simp only [impl_CodeKind.j1] at H
          by_cases c8 : x20_5 = true
          · subst c8
            have H1 : (some 0) = some r := by rw [if_pos rfl] at H; exact H
            clear H
            have H := H1
            clear H1
            obtain rfl := Option.some.inj H
            go_wp2
            go_ret
            exact ⟨by first | rfl | (simp; done) | (simp [*]; done), by repeat (first | exact Drawn0.refl _ | apply Drawn0.step)⟩
          replace c8 := Bool.eq_false_iff.mpr c8
          subst c8
          have H1 : (if (rd l0 x11_1) > 0 then (if 0 ≤ (wrap64 (15 - (rd l0 x11_1))) then (impl_CodeKind.l0 kj5 (wrap64 (x3_1 + (shl .i64 1 (wrap64 (15 - (rd l0 x11_1)))))) l0 (l0.length : Int) (wrap64 (x11_1 + 1))) else (none)) else (impl_CodeKind.l0 kj5 x3_1 l0 (l0.length : Int) (wrap64 (x11_1 + 1)))) = some r := by rw [if_neg (show ¬ (false = true) by decide)] at H; exact H
          clear H
          have H := H1
          clear H1
          by_cases c9 : (rd l0 x11_1) > 0
          rotate_left
          · rw [if_neg c9] at H
            have c9b0 : decide (0 < (rd l0 x11_1)) = false := decide_eq_false c9
            clear c9
            have H' := Aside0.mk H
            clear H
            go_wp2
            go_roundg kj5
            case measure => have := HK1.out; have := HJ5.out; omega
            case rel => exact ⟨(x3_1), (wrap64 (x11_1 + 1)), (by first | rfl | (simp; done) | (simp [*]; done)), (by first | rfl | (simp; done) | (simp [*]; done)), H', ⟨by have := HK1.out; have := HJ5.out; omega⟩, by repeat (first | exact Drawn0.refl _ | apply Drawn0.step)⟩
          rw [if_pos c9] at H
          have c9b0 : decide (0 < (rd l0 x11_1)) = true := decide_eq_true c9
          clear c9
          obtain ⟨ji10, hji10⟩ : ∃ j_ : Int, (wrap64 (15 - (rd l0 x11_1))) = j_ := ⟨_, rfl⟩
          replace H : (if 0 ≤ (ji10) then (impl_CodeKind.l0 kj5 (wrap64 (x3_1 + (shl .i64 1 (ji10)))) l0 (l0.length : Int) (wrap64 (x11_1 + 1))) else (none)) = some r := by first | (rw [hji10] at H; exact H) | (simp only [hji10] at H ⊢; exact H)
          have hji10w : (IntKind.i64.wrap (15 - (rd l0 x11_1))) = ji10 := (i64_w _).trans hji10
          by_cases c11 : 0 ≤ (ji10)
          rotate_left
          · rw [if_neg c11] at H
            exact absurd H (by simp)
          rw [if_pos c11] at H
          have c11b0 := eq_true c11
          have c11b1 : decide (0 ≤ (ji10)) = true := decide_eq_true c11
          clear c11
          obtain ⟨ji12, hji12⟩ : ∃ j_ : Int, (shl .i64 1 (ji10)) = j_ := ⟨_, rfl⟩
          replace H : (impl_CodeKind.l0 kj5 (wrap64 (x3_1 + (ji12))) l0 (l0.length : Int) (wrap64 (x11_1 + 1))) = some r := by first | (rw [hji12] at H; exact H) | (simp only [hji12] at H ⊢; exact H)
          have hji12_ : (IntKind.i64.wrap (1 * 2 ^ min (ji10).toNat 64)) = ji12 := hji12
          have hji12z : (ji10) ≤ 64 → (IntKind.i64.wrap (1 * 2 ^ (ji10).toNat)) = ji12 := shl_small hji12
          have hji12u : (IntKind.i64.wrap (2 ^ min (ji10).toNat 64)) = ji12 := by have h_ := hji12_; rw [Int.one_mul] at h_; exact h_
          have hji12v : (ji10) ≤ 64 → (IntKind.i64.wrap (2 ^ (ji10).toNat)) = ji12 := fun hle_ => by have h_ := hji12z hle_; rw [Int.one_mul] at h_; exact h_
          have hji12y : (wrap64 (1 * 2 ^ min (ji10).toNat 64)) = ji12 := (i64_w _).symm.trans hji12_
          have hji12x : (ji10) ≤ 64 → (wrap64 (1 * 2 ^ (ji10).toNat)) = ji12 := fun h_ => (i64_w _).symm.trans (hji12z h_)
          have H' := Aside0.mk H
          clear H
          go_wp2
          go_roundg kj5
          case measure => have := HK1.out; have := HJ5.out; omega
          case rel => exact ⟨(wrap64 (x3_1 + (ji12))), (wrap64 (x11_1 + 1)), (by first | rfl | (simp; done) | (simp only [← hji12] <;> (first | rfl | simp)) | (simp [*]; done)), (by first | rfl | (simp; done) | (simp [*]; done)), H', ⟨by have := HK1.out; have := HJ5.out; omega⟩, by repeat (first | exact Drawn0.refl _ | apply Drawn0.step)⟩

end Go.Proofs.Ytggokppfhkebkaa.PFnExactWriteSymbols

-- written by myprint.py (a program of this session's over the kit's print)
import Derived.Test.YtidblealnaicpaaPFnExactReadPartsx0
import Derived.Test.YtidblealnaicpaaTFERPE
import Derived.Test.YtidblealnaicpaaPFnExactReadPartsx1
import Derived.Test.YtidblealnaicpaaPFnExactReadPartsx2
import Derived.Test.YtidblealnaicpaaPFnExactReadPartsx4
import Derived.Test.YtidblealnaicpaaPFnExactReadPartsx5
namespace Go.Proofs.Ytidblealnaicpaa.PFnExactReadParts
open Go.RowKit Go.Proofs.YtidblealnaicpaaW.PrintWords Go.Proofs.YtidblealnaicpaaW.PrintLast Go.Proofs.YtidblealnaicpaaW.PrintMore
attribute [local go_sem] max2_int min2_int max_two min_two max_three min_three max_four min_four   -- for this text's walks alone
set_option linter.unusedVariables false
set_option linter.unusedSimpArgs false

/-! ### laws_markByteSS: function 152 -/
def laws_markByteSS.l0 : Nat → List (List Int) → Int → Int → Option (Int × List (List Int))
  | 0, _, _, _ => none
  | k + 1, x0, x1, x5 => if x5 < (x0.length : Int) then (if 0 ≤ x5 then ((laws_markByteS.f k (x0.getD (x5 : Int).toNat []) x1).bind fun b => laws_markByteSS.l0 k (x0.set (x5 : Int).toNat b.2) b.1 (wrap64 (x5 + 1))) else (none)) else (some (x1, x0))
def laws_markByteSS.f (k : Nat) (l0 : List (List Int)) (a1 : Int) : Option (Int × List (List Int)) := laws_markByteSS.l0 k l0 a1 0
theorem laws_markByteSS.mono_l : ∀ k, (∀ y0 y1 y2, LeO (laws_markByteSS.l0 k y0 y1 y2) (laws_markByteSS.l0 (k + 1) y0 y1 y2))
  | 0 => fun _ _ _ r h => by simp [laws_markByteSS.l0] at h
  | k + 1 => by
    have ih0 := laws_markByteSS.mono_l k
    · intro y0 y1 y2
      unfold laws_markByteSS.l0
      repeat' first
      | (with_reducible exact ih0 _ _ _)
      | (with_reducible exact laws_markByteS.mono _ _ _)
      | (with_reducible exact LeO.refl _)
      | (with_reducible exact LeO.none _)
      | (with_reducible refine LeO.ite ?_ ?_)
      | (with_reducible refine LeO.bind ?_ (fun _ => ?_))
      | exact ih0 _ _ _
      | exact laws_markByteS.mono _ _ _
      | exact LeO.none _
      | refine LeO.ite ?_ ?_
      | refine LeO.bind ?_ (fun _ => ?_)
theorem laws_markByteSS.mono : ∀ a0 a1 k, LeO (laws_markByteSS.f k a0 a1) (laws_markByteSS.f (k + 1) a0 a1) := by
  intro a0 a1 k
  have ih0 := laws_markByteSS.mono_l k
  unfold laws_markByteSS.f
  repeat' first
      | (with_reducible exact ih0 _ _ _)
      | (with_reducible exact laws_markByteS.mono _ _ _)
      | (with_reducible exact LeO.refl _)
      | (with_reducible exact LeO.none _)
      | (with_reducible refine LeO.ite ?_ ?_)
      | (with_reducible refine LeO.bind ?_ (fun _ => ?_))
      | exact ih0 _ _ _
      | exact laws_markByteS.mono _ _ _
      | exact LeO.none _
      | refine LeO.ite ?_ ?_
      | refine LeO.bind ?_ (fun _ => ?_)
set_option maxHeartbeats 8000000 in
set_option maxRecDepth 100000 in
theorem laws_markByteSS.calls (k : Nat) (P0_ : Nat → Prop) (u9000_ : Value) (l0 : List (List Int)) (a1 : Int) (r1 : Int) (r2 : List (List Int)) (w0 w : World) (hB : Below w0.heap.size w0 w) (ho0 : Kd.S (Kd.slice 5 (Kd.int .u8)) 51 w w0.heap.size P0_ u9000_ l0) (h : laws_markByteSS.f k l0 a1 = some (r1, r2)) :
    Calls Try.prog 152 #[u9000_, .int .i64 a1] w fun e w' => e = .returned (.int .i64 r1) ∧ Kd.S (Kd.slice 5 (Kd.int .u8)) 51 w' w0.heap.size (fun k_ => (P0_ k_ ∨ w.heap.size ≤ k_)) u9000_ r2 ∧ Below w0.heap.size w0 w' ∧ Kept w w' (fun k_ => P0_ k_) := by
  have HO0 := Aside0.mk (show Kd.S (Kd.slice 5 (Kd.int .u8)) 51 w w0.heap.size (fun k_ => (P0_ k_ ∨ w.heap.size ≤ k_)) u9000_ l0 from Kd.S_mono ho0 (fun k_ hk => (.inl hk)))
  have HK := Aside0.mk (Kept.refl w (fun k_ => P0_ k_))
  have HW0 := Aside0.mk hB.size
  have HB := Aside0.mk hB
  clear hB ho0
  have H : (laws_markByteSS.l0 k l0 a1 0) = some (r1, r2) := h
  clear h
  have H' := Aside0.mk H
  clear H
  go_enter Try.func152, Try.ntmps152
  go_wp2
  go_loopg [1, 5] k (fun kq v1 v5 w' => ∃ (x0_1 : List (List Int)) (x1_1 : Int) (x5_1 : Int), v1 = .int .i64 x1_1 ∧ v5 = .int .i64 x5_1 ∧ Aside0 (laws_markByteSS.l0 kq x0_1 x1_1 x5_1 = some (r1, r2)) ∧ Aside0 (kq ≤ k) ∧ Aside0 (Kd.S (Kd.slice 5 (Kd.int .u8)) 51 w' w0.heap.size (fun k_ => (P0_ k_ ∨ w.heap.size ≤ k_)) u9000_ x0_1) ∧ Aside0 (Kept w w' (fun k_ => P0_ k_)) ∧ Aside0 (Below w0.heap.size w0 w'))
  case atStart => exact ⟨l0, a1, 0, rfl, rfl, H', ⟨Nat.le_refl _⟩, HO0, HK, HB⟩
  case round =>
    clear H'
    obtain ⟨x0_1, x1_1, x5_1, rfl, rfl, HA, HK1, HO_0, HK, HB⟩ := hrel
    cases gk with
    | zero => exact absurd HA.out (by simp [laws_markByteSS.l0])
    | succ k1 =>
      have H := HA.out
      clear HA
      simp only [laws_markByteSS.l0] at H
      by_cases c3 : x5_1 < (x0_1.length : Int)
      rotate_left
      · rw [if_neg c3] at H
        have c3b0 : decide (x5_1 < (x0_1.length : Int)) = false := decide_eq_false c3
        clear c3
        simp only [Option.some.injEq, Prod.mk.injEq] at H
        obtain ⟨rfl, rfl⟩ := H
        obtain ⟨Ao9, co9, eo9⟩ := Kd.S_slice HO_0.out
        subst eo9
        go_wp2
        go_ret
        exact ⟨rfl, HO_0.out, HB.out, HK.out⟩
      rw [if_pos c3] at H
      have c3b0 : decide (x5_1 < (x0_1.length : Int)) = true := decide_eq_true c3
      by_cases c4 : 0 ≤ x5_1
      rotate_left
      · rw [if_neg c4] at H
        exact absurd H (by simp)
      rw [if_pos c4] at H
      have c4b0 : decide (0 ≤ x5_1) = true := decide_eq_true c4
      obtain ⟨y, hy⟩ : ∃ y_ : List Int, x0_1.getD (x5_1 : Int).toNat [] = y_ := ⟨_, rfl⟩
      rw [hy] at H
      replace H := Option.bind_eq_some_iff.mp H
      obtain ⟨⟨t1, t2⟩, A30, H⟩ := H
      have A3 := Aside0.mk A30
      clear A30
      have H' := Aside0.mk H
      clear H
      obtain ⟨g5, co5, eo5, gb5, gl5, cl5, HG5⟩ := Kd.S_form HO_0.out (by omega)
      subst eo5
      obtain ⟨oki, cs, hcl, hM, hcc, hoki, hH⟩ := Kd.S_lend HO_0.out [] x5_1 c4 (by exact c3)
      rw [hy] at hM
      clear hy HO0
      obtain ⟨v5, rfl, hR⟩ := hM
      have hx := hcc 0 v5 rfl
      have hx5 : wr.cell? ⟨g5, (x5_1 : Int).toNat, none⟩ = some v5 := by simpa [Kd.slice] using hx
      clear hx hcc hcl
      have HR := Aside0.mk hR
      have HH := Aside0.mk hH
      have HOK := Aside0.mk hoki
      have HMg := Aside0.mk (show (P0_ g5 ∨ w.heap.size ≤ g5) from (Kd.S_R HO_0.out).1 _ rfl)
      clear hR hH hoki HO_0 HG5 cl5
      obtain ⟨Ai, ci, ei⟩ := Kd.R_slice HR.out
      subst ei
      have C3 := Aside0.mk c3
      have C4 := Aside0.mk c4
      replace c3 := eq_true c3
      replace c4 := eq_true c4
      replace gb5 := Aside0.mk gb5
      replace gl5 := Aside0.mk gl5
      go_wp2_with (first | ((with_reducible refine gate_callee (f := 40) rfl ?_); refine goesL_ (some 17) rfl rfl Try.func40 (by kernel_rfl) rfl #[.slice Ai y.length ci, .int .i64 x1_1] rfl (by (try simp only [List.map_toArray, List.map_cons, List.map_nil]); first | done | rfl) ?_; (with_reducible refine (laws_markByteS.calls k1 oki (.slice Ai y.length ci) y x1_1 t1 t2 w0 wr HB.out HR.out A3.out).mono ?_); rintro e w9 ⟨rfl, hR9, hB9, hK9⟩; refine ⟨_, rfl, ?_⟩; have HR9 := Aside0.mk hR9; have HB9 := Aside0.mk hB9; have HK9 := Aside0.mk hK9; clear hR9 hB9 hK9))
      have HS9 : Aside0 (Kd.S (Kd.slice 5 (Kd.int .u8)) 51 w9 w0.heap.size (fun k_ => (P0_ k_ ∨ w.heap.size ≤ k_)) (.slice (some ⟨g5, 0, none⟩) x0_1.length co5) (x0_1.set (x5_1 : Int).toNat t2)) := ⟨by
        have hH9 := Kd.H_kept (Kd.H_widen HH.out) HK9.out (fun k_ _ hn hs => hn (.inl hs))
        refine Kd.H_back hH9 (okp := fun k_ => oki k_ ∨ wr.heap.size ≤ k_) ⟨_, rfl, ?_⟩ (fun k_ hk => hk.elim .inl (fun hge => .inr ⟨.inr (Nat.le_trans HK.out.1 hge), hge⟩))
        exact HR9.out⟩
      have HK' := Aside0.mk (Kept.then_ HK.out HK9.out (fun k_ hk => (HOK.out k_ hk).1))
      clear HK HB HR9 HK9 HH HR HOK
      have HB := HB9
      have HK := HK'
      clear HB9 HK'
      go_roundg k1
      case measure => have := HK1.out; omega
      case rel => exact ⟨x0_1.set (x5_1 : Int).toNat t2, t1, wrap64 (x5_1 + 1), (by first | rfl | (simp; done)), (by first | rfl | (simp; done) | (simp [*]; done)), H', ⟨by have := HK1.out; omega⟩, ⟨by simpa using HS9.out⟩, HK, HB⟩

/-! ### laws_markPiled: function 70 -/
def laws_markPiled.f (k : Nat) (l3 : List Bool) (l4 : List Int) (l5 : List (List Int)) (a1 : Int) : Option (Int × List Bool × List Int × List (List Int)) := (laws_markBoolS.f k l3 a1).bind fun b => ((laws_markIntS.f k l4 b.1).bind fun c => ((laws_markByteSS.f k l5 c.1).bind fun d => some (d.1, b.2, c.2, d.2)))
theorem laws_markPiled.mono : ∀ a0 a1 a2 a3 k, LeO (laws_markPiled.f k a0 a1 a2 a3) (laws_markPiled.f (k + 1) a0 a1 a2 a3) := by
  intro a0 a1 a2 a3 k
  unfold laws_markPiled.f
  repeat' first
      | (with_reducible exact laws_markBoolS.mono _ _ _)
      | (with_reducible exact laws_markIntS.mono _ _ _)
      | (with_reducible exact laws_markByteSS.mono _ _ _)
      | (with_reducible exact LeO.refl _)
      | (with_reducible exact LeO.none _)
      | (with_reducible refine LeO.ite ?_ ?_)
      | (with_reducible refine LeO.bind ?_ (fun _ => ?_))
      | exact laws_markBoolS.mono _ _ _
      | exact laws_markIntS.mono _ _ _
      | exact laws_markByteSS.mono _ _ _
      | exact LeO.none _
      | refine LeO.ite ?_ ?_
      | refine LeO.bind ?_ (fun _ => ?_)
set_option maxHeartbeats 8000000 in
set_option maxRecDepth 100000 in
theorem laws_markPiled.calls (k : Nat) (a0_0 : Int) (a0_1 : Int) (a0_2 : Int) (P3_ P4_ P5_ : Nat → Prop) (u3 u4 u5 : Value) (l3 : List Bool) (l4 : List Int) (l5 : List (List Int)) (a1 r : Int) (r3 : List Bool) (r4 : List Int) (r5 : List (List Int)) (w0 w : World) (hB : Below w0.heap.size w0 w) (ho3 : Kd.R Kd.bool 4 w w0.heap.size P3_ u3 l3) (ho4 : Kd.R (Kd.int .i64) 3 w w0.heap.size P4_ u4 l4) (ho5 : Kd.S (Kd.slice 5 (Kd.int .u8)) 51 w w0.heap.size P5_ u5 l5) (h : laws_markPiled.f k l3 l4 l5 a1 = some (r, r3, r4, r5)) :
    Calls Try.prog 70 #[.agg #[.int .i64 a0_0, .int .i64 a0_1, .int .i64 a0_2, u3, u4, u5], .int .i64 a1] w fun e w' => e = .returned (.int .i64 r) ∧ Kd.R Kd.bool 4 w' w0.heap.size (fun k_ => P3_ k_ ∨ w.heap.size ≤ k_) u3 r3 ∧ Kd.R (Kd.int .i64) 3 w' w0.heap.size (fun k_ => P4_ k_ ∨ w.heap.size ≤ k_) u4 r4 ∧ Kd.S (Kd.slice 5 (Kd.int .u8)) 51 w' w0.heap.size (fun k_ => P5_ k_ ∨ w.heap.size ≤ k_) u5 r5 ∧ Below w0.heap.size w0 w' ∧ Kept w w' (fun k_ => P3_ k_ ∨ P4_ k_ ∨ P5_ k_) := by
  have hu := Try.underlying94
  obtain ⟨A3, c3, e3⟩ := Kd.R_slice ho3
  subst e3
  obtain ⟨A4, c4, e4⟩ := Kd.R_slice ho4
  subst e4
  obtain ⟨A5, c5, e5⟩ := Kd.S_slice ho5
  subst e5
  have HO3 := Aside0.mk (show Kd.R Kd.bool 4 w w0.heap.size (fun k_ => P3_ k_ ∧ k_ < w.heap.size ∧ ∃ c_, w.heap[k_]? = some (.cells c_ 4 (0, 0))) (.slice A3 l3.length c3) l3 from Kd.R_mono (Kd.R_bound ho3) (fun k_ hk => by
    obtain ⟨h1, _, h3, q, hq, c, hc⟩ := hk
    replace hq : q ∈ [4] := hq
    rw [List.mem_singleton] at hq
    subst hq
    exact ⟨h1, h3, c, hc⟩))
  have HO4 := Aside0.mk (show Kd.R (Kd.int .i64) 3 w w0.heap.size (fun k_ => P4_ k_ ∧ k_ < w.heap.size ∧ ∃ c_, w.heap[k_]? = some (.cells c_ 3 (0, 0))) (.slice A4 l4.length c4) l4 from Kd.R_mono (Kd.R_bound ho4) (fun k_ hk => by
    obtain ⟨h1, _, h3, q, hq, c, hc⟩ := hk
    replace hq : q ∈ [3] := hq
    rw [List.mem_singleton] at hq
    subst hq
    exact ⟨h1, h3, c, hc⟩))
  have HO5 := Aside0.mk (show Kd.S (Kd.slice 5 (Kd.int .u8)) 51 w w0.heap.size (fun k_ => P5_ k_ ∧ k_ < w.heap.size ∧ ((∃ c_, w.heap[k_]? = some (.cells c_ 51 (0, 0))) ∨ ∃ c_, w.heap[k_]? = some (.cells c_ 5 (0, 0)))) (.slice A5 l5.length c5) l5 from Kd.S_mono (Kd.S_bound ho5) (fun k_ hk => by
    obtain ⟨h1, _, h3, q, hq, c, hc⟩ := hk
    replace hq : q ∈ [51, 5] := hq
    simp only [List.mem_cons, List.not_mem_nil, or_false] at hq
    rcases hq with rfl | rfl
    · exact ⟨h1, h3, .inl ⟨c, hc⟩⟩
    · exact ⟨h1, h3, .inr ⟨c, hc⟩⟩))
  have D34 : ∀ k_, (fun k_ => P3_ k_ ∧ k_ < w.heap.size ∧ ∃ c_, w.heap[k_]? = some (.cells c_ 4 (0, 0))) k_ → ¬ (fun k_ => P4_ k_ ∧ k_ < w.heap.size ∧ ∃ c_, w.heap[k_]? = some (.cells c_ 3 (0, 0))) k_ := fun k_ ⟨_, _, c1, h1⟩ ⟨_, _, c2, h2⟩ => by rw [h1] at h2; injection h2 with z_; injection z_ with _ z_; exact absurd z_ (by decide)
  have D35 : ∀ k_, (fun k_ => P3_ k_ ∧ k_ < w.heap.size ∧ ∃ c_, w.heap[k_]? = some (.cells c_ 4 (0, 0))) k_ → ¬ (fun k_ => P5_ k_ ∧ k_ < w.heap.size ∧ ((∃ c_, w.heap[k_]? = some (.cells c_ 51 (0, 0))) ∨ ∃ c_, w.heap[k_]? = some (.cells c_ 5 (0, 0)))) k_ := fun k_ ⟨_, _, c1, h1⟩ ⟨_, _, hh⟩ => by
    rcases hh with ⟨c2, h2⟩ | ⟨c2, h2⟩
    · rw [h1] at h2; injection h2 with z_; injection z_ with _ z_; exact absurd z_ (by decide)
    · rw [h1] at h2; injection h2 with z_; injection z_ with _ z_; exact absurd z_ (by decide)
  have D45 : ∀ k_, (fun k_ => P4_ k_ ∧ k_ < w.heap.size ∧ ∃ c_, w.heap[k_]? = some (.cells c_ 3 (0, 0))) k_ → ¬ (fun k_ => P5_ k_ ∧ k_ < w.heap.size ∧ ((∃ c_, w.heap[k_]? = some (.cells c_ 51 (0, 0))) ∨ ∃ c_, w.heap[k_]? = some (.cells c_ 5 (0, 0)))) k_ := fun k_ ⟨_, _, c1, h1⟩ ⟨_, _, hh⟩ => by
    rcases hh with ⟨c2, h2⟩ | ⟨c2, h2⟩
    · rw [h1] at h2; injection h2 with z_; injection z_ with _ z_; exact absurd z_ (by decide)
    · rw [h1] at h2; injection h2 with z_; injection z_ with _ z_; exact absurd z_ (by decide)
  have HB := Aside0.mk hB
  clear ho3 ho4 ho5 hB
  replace h := Option.bind_eq_some_iff.mp h
  obtain ⟨⟨t1, t3⟩, A20, h⟩ := h
  have E2 := Aside0.mk (show laws_markBoolS.f k l3 a1 = some (t1, t3) from A20)
  clear A20
  replace h := Option.bind_eq_some_iff.mp h
  obtain ⟨⟨t2, t4⟩, A30, h⟩ := h
  have E3 := Aside0.mk (show laws_markIntS.f k l4 t1 = some (t2, t4) from A30)
  clear A30
  replace h := Option.bind_eq_some_iff.mp h
  obtain ⟨⟨t6, t5⟩, A40, h⟩ := h
  have E4 := Aside0.mk (show laws_markByteSS.f k l5 t2 = some (t6, t5) from A40)
  clear A40
  simp only [Option.some.injEq, Prod.mk.injEq] at h
  obtain ⟨rfl, rfl, rfl, rfl⟩ := h
  go_enter Try.func70, Try.ntmps70
  go_wp2_with (first | ((with_reducible refine gate_dst (N := 2) rfl ?_); refine box_event ?hg (N := 2) ?hd (cs := #[.int .i64 a0_0, .int .i64 a0_1, .int .i64 a0_2, .slice A3 l3.length c3, .slice A4 l4.length c4, .slice A5 l5.length c5]) (t := 94) ?hr ?_; (case hd => rfl); (case hg => rfl); (case hr => first | (go_simp; done) | (go_simp; rfl)); intro g2 hg w1 hbox hb; have BK := Aside0.mk hbox; have GE := Aside0.mk (show w.heap.size ≤ g2 from Nat.le_of_eq hg.symm); have HB1 := Aside0.mk hb; have n3 := Aside0.mk (Kd.R_below HO3.out hb); have n4 := Aside0.mk (Kd.R_below HO4.out hb); have n5 := Aside0.mk (Kd.S_below HO5.out hb); have nB := Aside0.mk (below_step HB.out hb); clear hg hbox hb HO3 HO4 HO5; have hcz0 : w1.cell? ⟨g2, 0, none⟩ = some (.int .i64 a0_0) := (blk_cell BK.out 0).trans rfl; have hcz1 : w1.cell? ⟨g2, 1, none⟩ = some (.int .i64 a0_1) := (blk_cell BK.out 1).trans rfl; have hcz2 : w1.cell? ⟨g2, 2, none⟩ = some (.int .i64 a0_2) := (blk_cell BK.out 2).trans rfl; have hcz3 : w1.cell? ⟨g2, 3, none⟩ = some (.slice A3 l3.length c3) := (blk_cell BK.out 3).trans rfl; have hcz4 : w1.cell? ⟨g2, 4, none⟩ = some (.slice A4 l4.length c4) := (blk_cell BK.out 4).trans rfl; have hcz5 : w1.cell? ⟨g2, 5, none⟩ = some (.slice A5 l5.length c5) := (blk_cell BK.out 5).trans rfl) | ((with_reducible refine gate_callee (f := 151) rfl ?_); refine goesL_ (some 8) rfl rfl Try.func151 (by kernel_rfl) rfl #[.slice A3 l3.length c3, .int .i64 a1] rfl (by (try simp only [List.map_toArray, List.map_cons, List.map_nil]); first | done | rfl) ?_; (with_reducible refine (laws_markBoolS.calls k (fun k_ => P3_ k_ ∧ k_ < w.heap.size ∧ ∃ c_, w.heap[k_]? = some (.cells c_ 4 (0, 0))) (.slice A3 l3.length c3) l3 a1 t1 t3 w0 w1 nB.out n3.out E2.out).mono ?_); rintro e w2 ⟨rfl, ho, hb, hk⟩; refine ⟨_, rfl, ?_⟩; have BK2 := Aside0.mk (blk_kept BK.out hk (fun h_ => by have h2_ := h_.2.1; have := GE.out; omega)); have m3 := Aside0.mk ho; have m4 := Aside0.mk (Kd.R_kept n4.out hk (fun k_ a_ b_ => D34 k_ b_ a_)); have m5 := Aside0.mk (Kd.S_kept n5.out hk (fun k_ a_ b_ => D35 k_ b_ a_)); have HB2 := Aside0.mk hb; have HK2 := Aside0.mk hk; clear BK n3 n4 n5 hb hk ho nB hcz0 hcz1 hcz2 hcz3 hcz4 hcz5; have BK := BK2; clear BK2; have hcz0 : w2.cell? ⟨g2, 0, none⟩ = some (.int .i64 a0_0) := (blk_cell BK.out 0).trans rfl; have hcz1 : w2.cell? ⟨g2, 1, none⟩ = some (.int .i64 a0_1) := (blk_cell BK.out 1).trans rfl; have hcz2 : w2.cell? ⟨g2, 2, none⟩ = some (.int .i64 a0_2) := (blk_cell BK.out 2).trans rfl; have hcz3 : w2.cell? ⟨g2, 3, none⟩ = some (.slice A3 l3.length c3) := (blk_cell BK.out 3).trans rfl; have hcz4 : w2.cell? ⟨g2, 4, none⟩ = some (.slice A4 l4.length c4) := (blk_cell BK.out 4).trans rfl; have hcz5 : w2.cell? ⟨g2, 5, none⟩ = some (.slice A5 l5.length c5) := (blk_cell BK.out 5).trans rfl) | ((with_reducible refine gate_callee (f := 18) rfl ?_); refine goesL_ (some 12) rfl rfl Try.func18 (by kernel_rfl) rfl #[.slice A4 l4.length c4, .int .i64 t1] rfl (by (try simp only [List.map_toArray, List.map_cons, List.map_nil]); first | done | rfl) ?_; (with_reducible refine (laws_markIntS.calls k (fun k_ => P4_ k_ ∧ k_ < w.heap.size ∧ ∃ c_, w.heap[k_]? = some (.cells c_ 3 (0, 0))) (.slice A4 l4.length c4) l4 t1 t2 t4 w0 w2 HB2.out m4.out E3.out).mono ?_); rintro e w3 ⟨rfl, ho, hb, hk⟩; refine ⟨_, rfl, ?_⟩; have BK2 := Aside0.mk (blk_kept BK.out hk (fun h_ => by have h2_ := h_.2.1; have := GE.out; omega)); have q3 := Aside0.mk (Kd.R_kept m3.out hk (fun k_ a_ b_ => a_.elim (fun a_ => D34 k_ a_ b_) (fun a_ => by have b2_ := b_.2.1; have := HB1.out.size; omega))); have q4 := Aside0.mk ho; have q5 := Aside0.mk (Kd.S_kept m5.out hk (fun k_ a_ b_ => D45 k_ b_ a_)); have HB3 := Aside0.mk hb; have HK3 := Aside0.mk hk; clear BK m3 m4 m5 hb hk ho hcz0 hcz1 hcz2 hcz3 hcz4 hcz5; have BK := BK2; clear BK2; have hcz0 : w3.cell? ⟨g2, 0, none⟩ = some (.int .i64 a0_0) := (blk_cell BK.out 0).trans rfl; have hcz1 : w3.cell? ⟨g2, 1, none⟩ = some (.int .i64 a0_1) := (blk_cell BK.out 1).trans rfl; have hcz2 : w3.cell? ⟨g2, 2, none⟩ = some (.int .i64 a0_2) := (blk_cell BK.out 2).trans rfl; have hcz3 : w3.cell? ⟨g2, 3, none⟩ = some (.slice A3 l3.length c3) := (blk_cell BK.out 3).trans rfl; have hcz4 : w3.cell? ⟨g2, 4, none⟩ = some (.slice A4 l4.length c4) := (blk_cell BK.out 4).trans rfl; have hcz5 : w3.cell? ⟨g2, 5, none⟩ = some (.slice A5 l5.length c5) := (blk_cell BK.out 5).trans rfl) | ((with_reducible refine gate_callee (f := 152) rfl ?_); refine goesL_ (some 16) rfl rfl Try.func152 (by kernel_rfl) rfl #[.slice A5 l5.length c5, .int .i64 t2] rfl (by (try simp only [List.map_toArray, List.map_cons, List.map_nil]); first | done | rfl) ?_; (with_reducible refine (laws_markByteSS.calls k (fun k_ => P5_ k_ ∧ k_ < w.heap.size ∧ ((∃ c_, w.heap[k_]? = some (.cells c_ 51 (0, 0))) ∨ ∃ c_, w.heap[k_]? = some (.cells c_ 5 (0, 0)))) (.slice A5 l5.length c5) l5 t2 t6 t5 w0 w3 HB3.out q5.out E4.out).mono ?_); rintro e w4 ⟨rfl, ho, hb, hk⟩; refine ⟨_, rfl, ?_⟩; have z3 := Aside0.mk (Kd.R_kept q3.out hk (fun k_ a_ b_ => a_.elim (fun a_ => D35 k_ a_ b_) (fun a_ => by have b2_ := b_.2.1; have := HB1.out.size; omega))); have z4 := Aside0.mk (Kd.R_kept q4.out hk (fun k_ a_ b_ => a_.elim (fun a_ => D45 k_ a_ b_) (fun a_ => by have b2_ := b_.2.1; have := HB1.out.size; have := HK2.out.1; omega))); have z5 := Aside0.mk ho; have HB4 := Aside0.mk hb; have HK4 := Aside0.mk hk; clear q3 q4 q5 hb hk ho hcz0 hcz1 hcz2 hcz3 hcz4 hcz5))
  go_ret
  have s1 := HB1.out.size
  have s2 := HK2.out.1
  have s3 := HK3.out.1
  refine ⟨rfl, Kd.R_mono z3.out (fun k_ h_ => h_.elim (fun h_ => .inl h_.1) (fun h_ => .inr (by omega))), Kd.R_mono z4.out (fun k_ h_ => h_.elim (fun h_ => .inl h_.1) (fun h_ => .inr (by omega))), Kd.S_mono z5.out (fun k_ h_ => h_.elim (fun h_ => .inl h_.1) (fun h_ => .inr (by omega))), HB4.out, ?_⟩
  exact (((Kept.of_below HB1.out _).then_ HK2.out (fun k_ h_ => .inl (.inl h_.1))).then_ HK3.out (fun k_ h_ => .inl (.inr (.inl h_.1)))).then_ HK4.out (fun k_ h_ => .inl (.inr (.inr h_.1)))

/-! ### laws_heldIntS: function 83 -/
def laws_heldIntS.l0 : Nat → List Int → Int → Int → Option (Int)
  | 0, _, _, _ => none
  | k + 1, x0, x1, x5 => if x5 < (x0.length : Int) then (if 0 ≤ x5 then (if (rd x0 x5) = x1 then (laws_heldIntS.l0 k x0 (wrap64 (x1 + 1)) (wrap64 (x5 + 1))) else (some (-1))) else (none)) else (some x1)
def laws_heldIntS.f (k : Nat) (l0 : List Int) (a1 : Int) : Option (Int) := laws_heldIntS.l0 k l0 a1 0
theorem laws_heldIntS.mono_l : ∀ k, (∀ y0 y1 y2, LeO (laws_heldIntS.l0 k y0 y1 y2) (laws_heldIntS.l0 (k + 1) y0 y1 y2))
  | 0 => fun _ _ _ r h => by simp [laws_heldIntS.l0] at h
  | k + 1 => by
    have ih0 := laws_heldIntS.mono_l k
    · intro y0 y1 y2
      unfold laws_heldIntS.l0
      repeat' first
      | (with_reducible exact ih0 _ _ _)
      | (with_reducible exact LeO.refl _)
      | (with_reducible exact LeO.none _)
      | (with_reducible refine LeO.ite ?_ ?_)
      | (with_reducible refine LeO.bind ?_ (fun _ => ?_))
      | exact ih0 _ _ _
      | exact LeO.none _
      | refine LeO.ite ?_ ?_
      | refine LeO.bind ?_ (fun _ => ?_)
theorem laws_heldIntS.mono : ∀ a0 a1 k, LeO (laws_heldIntS.f k a0 a1) (laws_heldIntS.f (k + 1) a0 a1) := by
  intro a0 a1 k
  have ih0 := laws_heldIntS.mono_l k
  unfold laws_heldIntS.f
  repeat' first
      | (with_reducible exact ih0 _ _ _)
      | (with_reducible exact LeO.refl _)
      | (with_reducible exact LeO.none _)
      | (with_reducible refine LeO.ite ?_ ?_)
      | (with_reducible refine LeO.bind ?_ (fun _ => ?_))
      | exact ih0 _ _ _
      | exact LeO.none _
      | refine LeO.ite ?_ ?_
      | refine LeO.bind ?_ (fun _ => ?_)
set_option maxHeartbeats 8000000 in
set_option maxRecDepth 100000 in
theorem laws_heldIntS.calls (k : Nat) (A0 : Option Addr) (c0 : Nat) (l0 : List Int) (a1 : Int) (r : Int) (w : World) (hr0 : Kd.C (Kd.int .i64) w A0 l0.length l0) (hc0 : l0.length ≤ c0) (h : laws_heldIntS.f k l0 a1 = some r) :
    Calls Try.prog 83 #[.slice A0 l0.length c0, .int .i64 a1] w fun e w' => e = .returned (.int .i64 r) ∧ Drawn0 w w' := by
  have HR0 := Aside0.mk hr0
  have HC0 := Aside0.mk hc0
  clear hr0 hc0
  have H : (laws_heldIntS.l0 k l0 a1 0) = some r := h
  clear h
  have H' := Aside0.mk H
  clear H
  go_enter Try.func83, Try.ntmps83
  go_wp2
  go_loopg [1, 5] k (fun kq v1 v5 w' => ∃ (x1_1 : Int) (x5_1 : Int), v1 = .int .i64 x1_1 ∧ v5 = .int .i64 x5_1 ∧ Aside0 (laws_heldIntS.l0 kq l0 x1_1 x5_1 = some r) ∧ Aside0 (kq ≤ k) ∧ Drawn0 w w')
  case atStart => exact ⟨(a1), (0), (by first | rfl | (simp; done) | (simp [*]; done)), (by first | rfl | (simp; done) | (simp [*]; done)), H', ⟨Nat.le_refl _⟩, by repeat (first | exact Drawn0.refl _ | apply Drawn0.step)⟩
  case round =>
    clear H'
    try clear p2
    obtain ⟨x1_1, x5_1, rfl, rfl, HA, HK1, ⟨m1, rfl⟩⟩ := hrel
    cases gk with
    | zero => exact absurd HA.out (by simp [laws_heldIntS.l0])
    | succ k1 =>
      have H := HA.out
      clear HA
      simp only [laws_heldIntS.l0] at H
      by_cases c3 : x5_1 < (l0.length : Int)
      · rw [if_pos c3] at H
        have c3b0 : decide (x5_1 < (l0.length : Int)) = true := decide_eq_true c3
        clear c3
        by_cases c4 : 0 ≤ x5_1
        · rw [if_pos c4] at H
          have c4b0 : decide (0 ≤ x5_1) = true := decide_eq_true c4
          clear c4
          by_cases c5 : (rd l0 x5_1) = x1_1
          · rw [if_pos c5] at H
            have c5b0 : ((rd l0 x5_1) == x1_1) = true := beq_iff_eq.mpr c5
            have c5b1 : ((rd l0 x5_1) != x1_1) = false := bne_eq_false_iff_eq.mpr c5
            clear c5
            have H' := Aside0.mk H
            clear H
            have p327 : 0 ≤ (x5_1 : Int) := of_decide_eq_true (by first | (with_reducible assumption) | assumption)
            have q327 : x5_1 < (l0.length : Int) := of_decide_eq_true (by first | (with_reducible assumption) | assumption)
            obtain ⟨ad327, e327, hx327_0⟩ := Kd.at_int HR0.out x5_1 p327 q327
            cases e327
            replace p327 := eq_true p327
            replace q327 := eq_true q327
            go_wp2
            go_roundg k1
            case measure => have := HK1.out; omega
            case rel => exact ⟨(wrap64 (x1_1 + 1)), (wrap64 (x5_1 + 1)), (by first | rfl | (simp; done) | (simp [*]; done)), (by first | rfl | (simp; done) | (simp [*]; done)), H', ⟨by have := HK1.out; omega⟩, by repeat (first | exact Drawn0.refl _ | apply Drawn0.step)⟩
          · rw [if_neg c5] at H
            have c5b0 : ((rd l0 x5_1) == x1_1) = false := beq_eq_false_iff_ne.mpr c5
            have c5b1 : ((rd l0 x5_1) != x1_1) = true := bne_iff_ne.mpr c5
            obtain rfl := Option.some.inj H
            have p327 : 0 ≤ (x5_1 : Int) := of_decide_eq_true (by first | (with_reducible assumption) | assumption)
            have q327 : x5_1 < (l0.length : Int) := of_decide_eq_true (by first | (with_reducible assumption) | assumption)
            obtain ⟨ad327, e327, hx327_0⟩ := Kd.at_int HR0.out x5_1 p327 q327
            cases e327
            replace p327 := eq_true p327
            replace q327 := eq_true q327
            go_wp2
            go_ret
            exact ⟨by first | rfl | (simp; done) | (simp [*]; done), by repeat (first | exact Drawn0.refl _ | apply Drawn0.step)⟩
        · rw [if_neg c4] at H
          exact absurd H (by simp)
      · rw [if_neg c3] at H
        have c3b0 : decide (x5_1 < (l0.length : Int)) = false := decide_eq_false c3
        clear c3
        obtain rfl := Option.some.inj H
        go_wp2
        go_ret
        exact ⟨by first | rfl | (simp; done) | (simp [*]; done), by repeat (first | exact Drawn0.refl _ | apply Drawn0.step)⟩

/-! ### laws_heldBoolS: function 153 -/
def laws_heldBoolS.l0 : Nat → List Bool → Int → Int → Option (Int)
  | 0, _, _, _ => none
  | k + 1, x0, x1, x5 => if x5 < (x0.length : Int) then (if 0 ≤ x5 then (if ((rdOf false x0 x5) != ((Int.tmod x1 3) == 0)) = true then (some (-1)) else (laws_heldBoolS.l0 k x0 (wrap64 (x1 + 1)) (wrap64 (x5 + 1)))) else (none)) else (some x1)
def laws_heldBoolS.f (k : Nat) (l0 : List Bool) (a1 : Int) : Option (Int) := laws_heldBoolS.l0 k l0 a1 0
theorem laws_heldBoolS.mono_l : ∀ k, (∀ y0 y1 y2, LeO (laws_heldBoolS.l0 k y0 y1 y2) (laws_heldBoolS.l0 (k + 1) y0 y1 y2))
  | 0 => fun _ _ _ r h => by simp [laws_heldBoolS.l0] at h
  | k + 1 => by
    have ih0 := laws_heldBoolS.mono_l k
    · intro y0 y1 y2
      unfold laws_heldBoolS.l0
      repeat' first
      | (with_reducible exact ih0 _ _ _)
      | (with_reducible exact LeO.refl _)
      | (with_reducible exact LeO.none _)
      | (with_reducible refine LeO.ite ?_ ?_)
      | (with_reducible refine LeO.bind ?_ (fun _ => ?_))
      | exact ih0 _ _ _
      | exact LeO.none _
      | refine LeO.ite ?_ ?_
      | refine LeO.bind ?_ (fun _ => ?_)
theorem laws_heldBoolS.mono : ∀ a0 a1 k, LeO (laws_heldBoolS.f k a0 a1) (laws_heldBoolS.f (k + 1) a0 a1) := by
  intro a0 a1 k
  have ih0 := laws_heldBoolS.mono_l k
  unfold laws_heldBoolS.f
  repeat' first
      | (with_reducible exact ih0 _ _ _)
      | (with_reducible exact LeO.refl _)
      | (with_reducible exact LeO.none _)
      | (with_reducible refine LeO.ite ?_ ?_)
      | (with_reducible refine LeO.bind ?_ (fun _ => ?_))
      | exact ih0 _ _ _
      | exact LeO.none _
      | refine LeO.ite ?_ ?_
      | refine LeO.bind ?_ (fun _ => ?_)
set_option maxHeartbeats 8000000 in
set_option maxRecDepth 100000 in
theorem laws_heldBoolS.calls (k : Nat) (A0 : Option Addr) (c0 : Nat) (l0 : List Bool) (a1 : Int) (r : Int) (w : World) (hr0 : Kd.C Kd.bool w A0 l0.length l0) (hc0 : l0.length ≤ c0) (h : laws_heldBoolS.f k l0 a1 = some r) :
    Calls Try.prog 153 #[.slice A0 l0.length c0, .int .i64 a1] w fun e w' => e = .returned (.int .i64 r) ∧ Drawn0 w w' := by
  have HR0 := Aside0.mk hr0
  have HC0 := Aside0.mk hc0
  clear hr0 hc0
  have H : (laws_heldBoolS.l0 k l0 a1 0) = some r := h
  clear h
  have H' := Aside0.mk H
  clear H
  go_enter Try.func153, Try.ntmps153
  go_wp2
  go_loopg [1, 5] k (fun kq v1 v5 w' => ∃ (x1_1 : Int) (x5_1 : Int), v1 = .int .i64 x1_1 ∧ v5 = .int .i64 x5_1 ∧ Aside0 (laws_heldBoolS.l0 kq l0 x1_1 x5_1 = some r) ∧ Aside0 (kq ≤ k) ∧ Drawn0 w w')
  case atStart => exact ⟨(a1), (0), (by first | rfl | (simp; done) | (simp [*]; done)), (by first | rfl | (simp; done) | (simp [*]; done)), H', ⟨Nat.le_refl _⟩, by repeat (first | exact Drawn0.refl _ | apply Drawn0.step)⟩
  case round =>
    clear H'
    try clear c1
    try clear p2
    obtain ⟨x1_1, x5_1, rfl, rfl, HA, HK1, ⟨m1, rfl⟩⟩ := hrel
    cases gk with
    | zero => exact absurd HA.out (by simp [laws_heldBoolS.l0])
    | succ k1 =>
      have H := HA.out
      clear HA
      simp only [laws_heldBoolS.l0] at H
      by_cases c3 : x5_1 < (l0.length : Int)
      rotate_left
      · rw [if_neg c3] at H
        have c3b0 : decide (x5_1 < (l0.length : Int)) = false := decide_eq_false c3
        clear c3
        obtain rfl := Option.some.inj H
        go_wp2
        go_ret
        exact ⟨by first | rfl | (simp; done) | (simp [*]; done), by repeat (first | exact Drawn0.refl _ | apply Drawn0.step)⟩
      rw [if_pos c3] at H
      have c3b0 : decide (x5_1 < (l0.length : Int)) = true := decide_eq_true c3
      clear c3
      by_cases c4 : 0 ≤ x5_1
      rotate_left
      · rw [if_neg c4] at H
        exact absurd H (by simp)
      rw [if_pos c4] at H
      have c4b0 : decide (0 ≤ x5_1) = true := decide_eq_true c4
      clear c4
      by_cases c5 : ((rdOf false l0 x5_1) != ((Int.tmod x1_1 3) == 0)) = true
      · rw [if_pos c5] at H
        have c5b0 : ((rdOf false l0 x5_1) != ((Int.tmod x1_1 3) == 0)) = true := c5
        (try (have c5b1 : decide ((rdOf false l0 x5_1) = ((Int.tmod x1_1 3) == 0)) = false := by simpa using c5))
        (try (have c5b2 : ((rdOf false l0 x5_1) == ((Int.tmod x1_1 3) == 0)) = false := by simpa using c5))
        (try (have c5b3 : ¬ ((rdOf false l0 x5_1) = ((Int.tmod x1_1 3) == 0)) := by simpa using c5))
        clear c5
        obtain rfl := Option.some.inj H
        have p328 : 0 ≤ (x5_1 : Int) := of_decide_eq_true (by first | (with_reducible assumption) | assumption)
        have q328 : x5_1 < (l0.length : Int) := of_decide_eq_true (by first | (with_reducible assumption) | assumption)
        obtain ⟨ad328, e328, hx328_0⟩ := Kd.at_bool HR0.out x5_1 p328 q328
        cases e328
        replace p328 := eq_true p328
        replace q328 := eq_true q328
        go_wp2
        go_ret
        exact ⟨by first | rfl | (simp; done) | (simp [*]; done), by repeat (first | exact Drawn0.refl _ | apply Drawn0.step)⟩
      rw [if_neg c5] at H
      have c5b0 : ((rdOf false l0 x5_1) != ((Int.tmod x1_1 3) == 0)) = false := by simpa using c5
      (try (have c5b1 : decide ((rdOf false l0 x5_1) = ((Int.tmod x1_1 3) == 0)) = true := by simpa using c5))
      (try (have c5b2 : ((rdOf false l0 x5_1) == ((Int.tmod x1_1 3) == 0)) = true := by simpa using c5))
      clear c5
      have H' := Aside0.mk H
      clear H
      have p328 : 0 ≤ (x5_1 : Int) := of_decide_eq_true (by first | (with_reducible assumption) | assumption)
      have q328 : x5_1 < (l0.length : Int) := of_decide_eq_true (by first | (with_reducible assumption) | assumption)
      obtain ⟨ad328, e328, hx328_0⟩ := Kd.at_bool HR0.out x5_1 p328 q328
      cases e328
      replace p328 := eq_true p328
      replace q328 := eq_true q328
      go_wp2
      go_roundg k1
      case measure => have := HK1.out; omega
      case rel => exact ⟨(wrap64 (x1_1 + 1)), (wrap64 (x5_1 + 1)), (by first | rfl | (simp; done) | (simp [*]; done)), (by first | rfl | (simp; done) | (simp [*]; done)), H', ⟨by have := HK1.out; omega⟩, by repeat (first | exact Drawn0.refl _ | apply Drawn0.step)⟩

/-! ### laws_heldByteS: function 203 -/
def laws_heldByteS.l0 : Nat → List Int → Int → Int → Option (Int)
  | 0, _, _, _ => none
  | k + 1, x0, x1, x5 => if x5 < (x0.length : Int) then (if 0 ≤ x5 then (if (rd x0 x5) = ((x1) % 256) then (laws_heldByteS.l0 k x0 (wrap64 (x1 + 1)) (wrap64 (x5 + 1))) else (some (-1))) else (none)) else (some x1)
def laws_heldByteS.f (k : Nat) (l0 : List Int) (a1 : Int) : Option (Int) := laws_heldByteS.l0 k l0 a1 0
theorem laws_heldByteS.mono_l : ∀ k, (∀ y0 y1 y2, LeO (laws_heldByteS.l0 k y0 y1 y2) (laws_heldByteS.l0 (k + 1) y0 y1 y2))
  | 0 => fun _ _ _ r h => by simp [laws_heldByteS.l0] at h
  | k + 1 => by
    have ih0 := laws_heldByteS.mono_l k
    · intro y0 y1 y2
      unfold laws_heldByteS.l0
      repeat' first
      | (with_reducible exact ih0 _ _ _)
      | (with_reducible exact LeO.refl _)
      | (with_reducible exact LeO.none _)
      | (with_reducible refine LeO.ite ?_ ?_)
      | (with_reducible refine LeO.bind ?_ (fun _ => ?_))
      | exact ih0 _ _ _
      | exact LeO.none _
      | refine LeO.ite ?_ ?_
      | refine LeO.bind ?_ (fun _ => ?_)
theorem laws_heldByteS.mono : ∀ a0 a1 k, LeO (laws_heldByteS.f k a0 a1) (laws_heldByteS.f (k + 1) a0 a1) := by
  intro a0 a1 k
  have ih0 := laws_heldByteS.mono_l k
  unfold laws_heldByteS.f
  repeat' first
      | (with_reducible exact ih0 _ _ _)
      | (with_reducible exact LeO.refl _)
      | (with_reducible exact LeO.none _)
      | (with_reducible refine LeO.ite ?_ ?_)
      | (with_reducible refine LeO.bind ?_ (fun _ => ?_))
      | exact ih0 _ _ _
      | exact LeO.none _
      | refine LeO.ite ?_ ?_
      | refine LeO.bind ?_ (fun _ => ?_)
set_option maxHeartbeats 8000000 in
set_option maxRecDepth 100000 in
theorem laws_heldByteS.calls (k : Nat) (A0 : Option Addr) (c0 : Nat) (l0 : List Int) (a1 : Int) (r : Int) (w : World) (hr0 : Kd.C (Kd.int .u8) w A0 l0.length l0) (hc0 : l0.length ≤ c0) (h : laws_heldByteS.f k l0 a1 = some r) :
    Calls Try.prog 203 #[.slice A0 l0.length c0, .int .i64 a1] w fun e w' => e = .returned (.int .i64 r) ∧ Drawn0 w w' := by
  have HR0 := Aside0.mk hr0
  have HC0 := Aside0.mk hc0
  clear hr0 hc0
  have H : (laws_heldByteS.l0 k l0 a1 0) = some r := h
  clear h
  have H' := Aside0.mk H
  clear H
  go_enter Try.func203, Try.ntmps203
  go_wp2
  go_loopg [1, 5] k (fun kq v1 v5 w' => ∃ (x1_1 : Int) (x5_1 : Int), v1 = .int .i64 x1_1 ∧ v5 = .int .i64 x5_1 ∧ Aside0 (laws_heldByteS.l0 kq l0 x1_1 x5_1 = some r) ∧ Aside0 (kq ≤ k) ∧ Drawn0 w w')
  case atStart => exact ⟨(a1), (0), (by first | rfl | (simp; done) | (simp [*]; done)), (by first | rfl | (simp; done) | (simp [*]; done)), H', ⟨Nat.le_refl _⟩, by repeat (first | exact Drawn0.refl _ | apply Drawn0.step)⟩
  case round =>
    clear H'
    try clear c2
    try clear p2
    obtain ⟨x1_1, x5_1, rfl, rfl, HA, HK1, ⟨m1, rfl⟩⟩ := hrel
    cases gk with
    | zero => exact absurd HA.out (by simp [laws_heldByteS.l0])
    | succ k1 =>
      have H := HA.out
      clear HA
      simp only [laws_heldByteS.l0] at H
      by_cases c3 : x5_1 < (l0.length : Int)
      · rw [if_pos c3] at H
        have c3b0 : decide (x5_1 < (l0.length : Int)) = true := decide_eq_true c3
        clear c3
        by_cases c4 : 0 ≤ x5_1
        · rw [if_pos c4] at H
          have c4b0 : decide (0 ≤ x5_1) = true := decide_eq_true c4
          clear c4
          by_cases c5 : (rd l0 x5_1) = ((x1_1) % 256)
          · rw [if_pos c5] at H
            have c5b0 : ((rd l0 x5_1) == ((x1_1) % 256)) = true := beq_iff_eq.mpr c5
            have c5b1 : ((rd l0 x5_1) != ((x1_1) % 256)) = false := bne_eq_false_iff_eq.mpr c5
            clear c5
            have H' := Aside0.mk H
            clear H
            have p329 : 0 ≤ (x5_1 : Int) := of_decide_eq_true (by first | (with_reducible assumption) | assumption)
            have q329 : x5_1 < (l0.length : Int) := of_decide_eq_true (by first | (with_reducible assumption) | assumption)
            obtain ⟨ad329, e329, hx329_0⟩ := Kd.at_int HR0.out x5_1 p329 q329
            cases e329
            replace p329 := eq_true p329
            replace q329 := eq_true q329
            go_wp2
            go_roundg k1
            case measure => have := HK1.out; omega
            case rel => exact ⟨(wrap64 (x1_1 + 1)), (wrap64 (x5_1 + 1)), (by first | rfl | (simp; done) | (simp [*]; done)), (by first | rfl | (simp; done) | (simp [*]; done)), H', ⟨by have := HK1.out; omega⟩, by repeat (first | exact Drawn0.refl _ | apply Drawn0.step)⟩
          · rw [if_neg c5] at H
            have c5b0 : ((rd l0 x5_1) == ((x1_1) % 256)) = false := beq_eq_false_iff_ne.mpr c5
            have c5b1 : ((rd l0 x5_1) != ((x1_1) % 256)) = true := bne_iff_ne.mpr c5
            obtain rfl := Option.some.inj H
            have p329 : 0 ≤ (x5_1 : Int) := of_decide_eq_true (by first | (with_reducible assumption) | assumption)
            have q329 : x5_1 < (l0.length : Int) := of_decide_eq_true (by first | (with_reducible assumption) | assumption)
            obtain ⟨ad329, e329, hx329_0⟩ := Kd.at_int HR0.out x5_1 p329 q329
            cases e329
            replace p329 := eq_true p329
            replace q329 := eq_true q329
            go_wp2
            go_ret
            exact ⟨by first | rfl | (simp; done) | (simp [*]; done), by repeat (first | exact Drawn0.refl _ | apply Drawn0.step)⟩
        · rw [if_neg c4] at H
          exact absurd H (by simp)
      · rw [if_neg c3] at H
        have c3b0 : decide (x5_1 < (l0.length : Int)) = false := decide_eq_false c3
        clear c3
        obtain rfl := Option.some.inj H
        go_wp2
        go_ret
        exact ⟨by first | rfl | (simp; done) | (simp [*]; done), by repeat (first | exact Drawn0.refl _ | apply Drawn0.step)⟩

/-! ### laws_heldByteSS: function 154 -/
def laws_heldByteSS.l0 : Nat → List (List Int) → Int → Int → Option (Int)
  | 0, _, _, _ => none
  | k + 1, x0, x1, x5 => if x5 < (x0.length : Int) then (if 0 ≤ x5 then ((laws_heldByteS.f k (rd_L5 x0 x5) x1).bind fun t331 => (if t331 < 0 then (some (-1)) else (laws_heldByteSS.l0 k x0 t331 (wrap64 (x5 + 1))))) else (none)) else (some x1)
def laws_heldByteSS.f (k : Nat) (l0 : List (List Int)) (a1 : Int) : Option (Int) := laws_heldByteSS.l0 k l0 a1 0
theorem laws_heldByteSS.mono_l : ∀ k, (∀ y0 y1 y2, LeO (laws_heldByteSS.l0 k y0 y1 y2) (laws_heldByteSS.l0 (k + 1) y0 y1 y2))
  | 0 => fun _ _ _ r h => by simp [laws_heldByteSS.l0] at h
  | k + 1 => by
    have ih0 := laws_heldByteSS.mono_l k
    · intro y0 y1 y2
      unfold laws_heldByteSS.l0
      repeat' first
      | (with_reducible exact ih0 _ _ _)
      | (with_reducible exact laws_heldByteS.mono _ _ _)
      | (with_reducible exact LeO.refl _)
      | (with_reducible exact LeO.none _)
      | (with_reducible refine LeO.ite ?_ ?_)
      | (with_reducible refine LeO.bind ?_ (fun _ => ?_))
      | exact ih0 _ _ _
      | exact laws_heldByteS.mono _ _ _
      | exact LeO.none _
      | refine LeO.ite ?_ ?_
      | refine LeO.bind ?_ (fun _ => ?_)
theorem laws_heldByteSS.mono : ∀ a0 a1 k, LeO (laws_heldByteSS.f k a0 a1) (laws_heldByteSS.f (k + 1) a0 a1) := by
  intro a0 a1 k
  have ih0 := laws_heldByteSS.mono_l k
  unfold laws_heldByteSS.f
  repeat' first
      | (with_reducible exact ih0 _ _ _)
      | (with_reducible exact laws_heldByteS.mono _ _ _)
      | (with_reducible exact LeO.refl _)
      | (with_reducible exact LeO.none _)
      | (with_reducible refine LeO.ite ?_ ?_)
      | (with_reducible refine LeO.bind ?_ (fun _ => ?_))
      | exact ih0 _ _ _
      | exact laws_heldByteS.mono _ _ _
      | exact LeO.none _
      | refine LeO.ite ?_ ?_
      | refine LeO.bind ?_ (fun _ => ?_)
set_option maxHeartbeats 8000000 in
set_option maxRecDepth 100000 in
theorem laws_heldByteSS.calls (k : Nat) (A0 : Option Addr) (c0 : Nat) (l0 : List (List Int)) (a1 : Int) (r : Int) (w : World) (hr0 : Kd.C (Kd.slice 5 (Kd.int .u8)) w A0 l0.length l0) (hc0 : l0.length ≤ c0) (h : laws_heldByteSS.f k l0 a1 = some r) :
    Calls Try.prog 154 #[.slice A0 l0.length c0, .int .i64 a1] w fun e w' => e = .returned (.int .i64 r) ∧ Drawn0 w w' := by
  have HR0 := Aside0.mk hr0
  have HC0 := Aside0.mk hc0
  clear hr0 hc0
  have H : (laws_heldByteSS.l0 k l0 a1 0) = some r := h
  clear h
  have H' := Aside0.mk H
  clear H
  go_enter Try.func154, Try.ntmps154
  go_wp2
  go_loopg [1, 5] k (fun kq v1 v5 w' => ∃ (x1_1 : Int) (x5_1 : Int), v1 = .int .i64 x1_1 ∧ v5 = .int .i64 x5_1 ∧ Aside0 (laws_heldByteSS.l0 kq l0 x1_1 x5_1 = some r) ∧ Aside0 (kq ≤ k) ∧ Drawn0 w w')
  case atStart => exact ⟨(a1), (0), (by first | rfl | (simp; done) | (simp [*]; done)), (by first | rfl | (simp; done) | (simp [*]; done)), H', ⟨Nat.le_refl _⟩, by repeat (first | exact Drawn0.refl _ | apply Drawn0.step)⟩
  case round =>
    clear H'
    try clear c1
    try clear p2
    obtain ⟨x1_1, x5_1, rfl, rfl, HA, HK1, ⟨m1, rfl⟩⟩ := hrel
    cases gk with
    | zero => exact absurd HA.out (by simp [laws_heldByteSS.l0])
    | succ k1 =>
      have H := HA.out
      clear HA
      simp only [laws_heldByteSS.l0] at H
      by_cases c3 : x5_1 < (l0.length : Int)
      rotate_left
      · rw [if_neg c3] at H
        have c3b0 : decide (x5_1 < (l0.length : Int)) = false := decide_eq_false c3
        clear c3
        obtain rfl := Option.some.inj H
        go_wp2
        go_ret
        exact ⟨by first | rfl | (simp; done) | (simp [*]; done), by repeat (first | exact Drawn0.refl _ | apply Drawn0.step)⟩
      rw [if_pos c3] at H
      have c3b0 : decide (x5_1 < (l0.length : Int)) = true := decide_eq_true c3
      clear c3
      by_cases c4 : 0 ≤ x5_1
      rotate_left
      · rw [if_neg c4] at H
        exact absurd H (by simp)
      rw [if_pos c4] at H
      have c4b0 : decide (0 ≤ x5_1) = true := decide_eq_true c4
      clear c4
      replace H := Option.bind_eq_some_iff.mp H
      obtain ⟨t331, A50, H⟩ := H
      replace H : (if t331 < 0 then (some (-1)) else (laws_heldByteSS.l0 k1 l0 t331 (wrap64 (x5_1 + 1)))) = some r := H
      have A5 := Aside0.mk A50
      clear A50
      by_cases c6 : t331 < 0
      · rw [if_pos c6] at H
        have c6b0 : decide (t331 < 0) = true := decide_eq_true c6
        clear c6
        obtain rfl := Option.some.inj H
        have p330 : 0 ≤ (x5_1 : Int) := of_decide_eq_true (by first | (with_reducible assumption) | assumption)
        have q330 : x5_1 < (l0.length : Int) := of_decide_eq_true (by first | (with_reducible assumption) | assumption)
        obtain ⟨ad330, A330_0, c330_0, e330, hx330_0, hl330_0, hi330_0⟩ := at_L5 HR0.out x5_1 p330 q330
        cases e330
        have HR330_0 := Aside0.mk hi330_0
        have HC330_0 := Aside0.mk hl330_0
        clear hi330_0 hl330_0
        replace p330 := eq_true p330
        replace q330 := eq_true q330
        go_wp2_with (first | ((with_reducible refine gate_callee (f := 203) rfl ?_); refine goesL_ (some 17) rfl rfl Try.func203 (by kernel_rfl) rfl #[.slice A330_0 (rd_L5 l0 x5_1).length c330_0, .int .i64 x1_1] rfl (by (try simp only [List.map_toArray, List.map_cons, List.map_nil]); first | done | rfl | (simp only [List.length_drop, List.length_take]; rfl)) ?_; (with_reducible refine (laws_heldByteS.calls k1 _ _ (rd_L5 l0 x5_1) x1_1 t331 _ ?side1 ?side2 A5.out).mono ?_); (case side1 => repeat (first | exact HR330_0.out | (with_reducible refine Kd.C_alloc ?_ _) | (with_reducible refine Kd.C_drewN ?_ _) | (with_reducible refine Kd.C_drew ?_))); (case side2 => exact HC330_0.out); rintro e w' ⟨rfl, ⟨nd, rfl⟩⟩; refine ⟨_, rfl, ?_⟩))
        go_ret
        exact ⟨by first | rfl | (simp; done) | (simp [*]; done), by repeat (first | exact Drawn0.refl _ | apply Drawn0.step)⟩
      rw [if_neg c6] at H
      have c6b0 : decide (t331 < 0) = false := decide_eq_false c6
      clear c6
      have H' := Aside0.mk H
      clear H
      have p330 : 0 ≤ (x5_1 : Int) := of_decide_eq_true (by first | (with_reducible assumption) | assumption)
      have q330 : x5_1 < (l0.length : Int) := of_decide_eq_true (by first | (with_reducible assumption) | assumption)
      obtain ⟨ad330, A330_0, c330_0, e330, hx330_0, hl330_0, hi330_0⟩ := at_L5 HR0.out x5_1 p330 q330
      cases e330
      have HR330_0 := Aside0.mk hi330_0
      have HC330_0 := Aside0.mk hl330_0
      clear hi330_0 hl330_0
      replace p330 := eq_true p330
      replace q330 := eq_true q330
      go_wp2_with (first | ((with_reducible refine gate_callee (f := 203) rfl ?_); refine goesL_ (some 17) rfl rfl Try.func203 (by kernel_rfl) rfl #[.slice A330_0 (rd_L5 l0 x5_1).length c330_0, .int .i64 x1_1] rfl (by (try simp only [List.map_toArray, List.map_cons, List.map_nil]); first | done | rfl | (simp only [List.length_drop, List.length_take]; rfl)) ?_; (with_reducible refine (laws_heldByteS.calls k1 _ _ (rd_L5 l0 x5_1) x1_1 t331 _ ?side1 ?side2 A5.out).mono ?_); (case side1 => repeat (first | exact HR330_0.out | (with_reducible refine Kd.C_alloc ?_ _) | (with_reducible refine Kd.C_drewN ?_ _) | (with_reducible refine Kd.C_drew ?_))); (case side2 => exact HC330_0.out); rintro e w' ⟨rfl, ⟨nd, rfl⟩⟩; refine ⟨_, rfl, ?_⟩))
      go_roundg k1
      case measure => have := HK1.out; omega
      case rel => exact ⟨(t331), (wrap64 (x5_1 + 1)), (by first | rfl | (simp; done) | (simp [*]; done)), (by first | rfl | (simp; done) | (simp [*]; done)), H', ⟨by have := HK1.out; omega⟩, by repeat (first | exact Drawn0.refl _ | apply Drawn0.step)⟩

/-! ### laws_heldPiled: function 71 -/
def laws_heldPiled.f (k : Nat) (a0_0 : Int) (a0_1 : Int) (a0_2 : Int) (l0_3 : List Bool) (l0_4 : List Int) (l0_5 : List (List Int)) (a1 : Int) : Option (Int) := (laws_heldBoolS.f k l0_3 a1).bind fun t333 => (if t333 < 0 then (some (-1)) else ((laws_heldIntS.f k l0_4 t333).bind fun t334 => (if t334 < 0 then (some (-1)) else ((laws_heldByteSS.f k l0_5 t334).bind fun t335 => (if t335 < 0 then (some (-1)) else (some t335))))))
theorem laws_heldPiled.mono : ∀ a0 a1 a2 a3 a4 a5 a6 k, LeO (laws_heldPiled.f k a0 a1 a2 a3 a4 a5 a6) (laws_heldPiled.f (k + 1) a0 a1 a2 a3 a4 a5 a6) := by
  intro a0 a1 a2 a3 a4 a5 a6 k
  unfold laws_heldPiled.f
  repeat' first
      | (with_reducible exact laws_heldBoolS.mono _ _ _)
      | (with_reducible exact laws_heldByteSS.mono _ _ _)
      | (with_reducible exact laws_heldIntS.mono _ _ _)
      | (with_reducible exact LeO.refl _)
      | (with_reducible exact LeO.none _)
      | (with_reducible refine LeO.ite ?_ ?_)
      | (with_reducible refine LeO.bind ?_ (fun _ => ?_))
      | exact laws_heldBoolS.mono _ _ _
      | exact laws_heldByteSS.mono _ _ _
      | exact laws_heldIntS.mono _ _ _
      | exact LeO.none _
      | refine LeO.ite ?_ ?_
      | refine LeO.bind ?_ (fun _ => ?_)
set_option maxHeartbeats 8000000 in
set_option maxRecDepth 100000 in
theorem laws_heldPiled.calls (k : Nat) (a0_0 : Int) (a0_1 : Int) (a0_2 : Int) (A0_3 : Option Addr) (c0_3 : Nat) (l0_3 : List Bool) (A0_4 : Option Addr) (c0_4 : Nat) (l0_4 : List Int) (A0_5 : Option Addr) (c0_5 : Nat) (l0_5 : List (List Int)) (a1 : Int) (r : Int) (w : World) (hr0_3 : Kd.C Kd.bool w A0_3 l0_3.length l0_3) (hc0_3 : l0_3.length ≤ c0_3) (hr0_4 : Kd.C (Kd.int .i64) w A0_4 l0_4.length l0_4) (hc0_4 : l0_4.length ≤ c0_4) (hr0_5 : Kd.C (Kd.slice 5 (Kd.int .u8)) w A0_5 l0_5.length l0_5) (hc0_5 : l0_5.length ≤ c0_5) (h : laws_heldPiled.f k a0_0 a0_1 a0_2 l0_3 l0_4 l0_5 a1 = some r) :
    Calls Try.prog 71 #[.agg #[.int .i64 a0_0, .int .i64 a0_1, .int .i64 a0_2, .slice A0_3 l0_3.length c0_3, .slice A0_4 l0_4.length c0_4, .slice A0_5 l0_5.length c0_5], .int .i64 a1] w fun e w' => e = .returned (.int .i64 r) ∧ Below w.heap.size w w' := by
  have hu94 := Try.underlying94
  have HR0_3 := Aside0.mk hr0_3
  have HC0_3 := Aside0.mk hc0_3
  clear hr0_3 hc0_3
  have HR0_4 := Aside0.mk hr0_4
  have HC0_4 := Aside0.mk hc0_4
  clear hr0_4 hc0_4
  have HR0_5 := Aside0.mk hr0_5
  have HC0_5 := Aside0.mk hc0_5
  clear hr0_5 hc0_5
  have HB := Aside0.mk (Below.refl w.heap.size w)
  have H : ((laws_heldBoolS.f k l0_3 a1).bind fun t333 => (if t333 < 0 then (some (-1)) else ((laws_heldIntS.f k l0_4 t333).bind fun t334 => (if t334 < 0 then (some (-1)) else ((laws_heldByteSS.f k l0_5 t334).bind fun t335 => (if t335 < 0 then (some (-1)) else (some t335))))))) = some r := h
  clear h
  replace H := Option.bind_eq_some_iff.mp H
  obtain ⟨t333, A30, H⟩ := H
  replace H : (if t333 < 0 then (some (-1)) else ((laws_heldIntS.f k l0_4 t333).bind fun t334 => (if t334 < 0 then (some (-1)) else ((laws_heldByteSS.f k l0_5 t334).bind fun t335 => (if t335 < 0 then (some (-1)) else (some t335)))))) = some r := H
  have A3 := Aside0.mk A30
  clear A30
  by_cases c4 : t333 < 0
  · rw [if_pos c4] at H
    have c4b0 : decide (t333 < 0) = true := decide_eq_true c4
    clear c4
    obtain rfl := Option.some.inj H
    go_enter Try.func71, Try.ntmps71
    go_wp2_with (first | ((with_reducible refine gate_dst (N := 2) rfl ?_); refine box_event ?hg (N := 2) ?hd (cs := #[.int .i64 a0_0, .int .i64 a0_1, .int .i64 a0_2, .slice A0_3 l0_3.length c0_3, .slice A0_4 l0_4.length c0_4, .slice A0_5 l0_5.length c0_5]) (t := 94) ?hr ?_; (case hd => rfl); (case hg => rfl); (case hr => first | (go_simp; done) | (go_simp; rfl)); intro gb332 hg w5 hbox hb; have n0_ := Aside0.mk (below_step (by repeat (first | (with_reducible first | exact HB.out | apply below_alloc | apply pw_below_drewN | apply below_drew1) | exact HB.out)) hb); have n1_ := Aside0.mk (hbox); have n2_ := Aside0.mk ((by rw [hg]; exact (below_size (by repeat (first | (with_reducible first | exact HB.out | apply below_alloc | apply pw_below_drewN | apply below_drew1) | exact HB.out))) : w.heap.size ≤ gb332)); have n3_ := n2_; clear HB; have HB := n0_; have BK332 := n1_; have GW332 := n2_; have GE332 := n3_; clear n0_ n1_ n2_ n3_; clear hb hbox hg; have hcz6_0 : w5.cell? ⟨gb332, 0, none⟩ = some (.int .i64 a0_0) := (blk_cell BK332.out 0).trans rfl; have hcz6_1 : w5.cell? ⟨gb332, 1, none⟩ = some (.int .i64 a0_1) := (blk_cell BK332.out 1).trans rfl; have hcz6_2 : w5.cell? ⟨gb332, 2, none⟩ = some (.int .i64 a0_2) := (blk_cell BK332.out 2).trans rfl; have hcz6_3 : w5.cell? ⟨gb332, 3, none⟩ = some (.slice A0_3 l0_3.length c0_3) := (blk_cell BK332.out 3).trans rfl; have hcz6_4 : w5.cell? ⟨gb332, 4, none⟩ = some (.slice A0_4 l0_4.length c0_4) := (blk_cell BK332.out 4).trans rfl; have hcz6_5 : w5.cell? ⟨gb332, 5, none⟩ = some (.slice A0_5 l0_5.length c0_5) := (blk_cell BK332.out 5).trans rfl; have hfz6_0 := blk_frozen BK332.out 0; have hfz6_1 := blk_frozen BK332.out 1; have hfz6_2 := blk_frozen BK332.out 2; have hfz6_3 := blk_frozen BK332.out 3; have hfz6_4 := blk_frozen BK332.out 4; have hfz6_5 := blk_frozen BK332.out 5) | ((with_reducible refine gate_callee (f := 153) rfl ?_); refine goesL_ (some 8) rfl rfl Try.func153 (by kernel_rfl) rfl #[.slice A0_3 l0_3.length c0_3, .int .i64 a1] rfl (by (try simp only [List.map_toArray, List.map_cons, List.map_nil]); first | done | rfl | (simp only [List.length_drop, List.length_take]; rfl)) ?_; (with_reducible refine (laws_heldBoolS.calls k _ _ l0_3 a1 t333 _ ?side1 ?side2 A3.out).mono ?_); (case side1 => repeat (first | exact (Kd.C_below HR0_3.out HB.out) | (with_reducible refine Kd.C_alloc ?_ _) | (with_reducible refine Kd.C_drewN ?_ _) | (with_reducible refine Kd.C_drew ?_))); (case side2 => exact HC0_3.out); rintro e w' ⟨rfl, ⟨nd, rfl⟩⟩; refine ⟨_, rfl, ?_⟩))
    go_ret
    exact ⟨by first | rfl | (simp [errW_none, errW_some] <;> rfl) | (simp [*, errW_none, errW_some] <;> rfl), by repeat (first | (with_reducible first | exact HB.out | apply below_alloc | apply pw_below_drewN | apply below_drew1 | refine below_set ?_ GE332.out) | exact HB.out)⟩
  rw [if_neg c4] at H
  have c4b0 : decide (t333 < 0) = false := decide_eq_false c4
  clear c4
  replace H := Option.bind_eq_some_iff.mp H
  obtain ⟨t334, A70, H⟩ := H
  replace H : (if t334 < 0 then (some (-1)) else ((laws_heldByteSS.f k l0_5 t334).bind fun t335 => (if t335 < 0 then (some (-1)) else (some t335)))) = some r := H
  have A7 := Aside0.mk A70
  clear A70
  by_cases c8 : t334 < 0
  · rw [if_pos c8] at H
    have c8b0 : decide (t334 < 0) = true := decide_eq_true c8
    clear c8
    obtain rfl := Option.some.inj H
    go_enter Try.func71, Try.ntmps71
    go_wp2_with (first | ((with_reducible refine gate_dst (N := 2) rfl ?_); refine box_event ?hg (N := 2) ?hd (cs := #[.int .i64 a0_0, .int .i64 a0_1, .int .i64 a0_2, .slice A0_3 l0_3.length c0_3, .slice A0_4 l0_4.length c0_4, .slice A0_5 l0_5.length c0_5]) (t := 94) ?hr ?_; (case hd => rfl); (case hg => rfl); (case hr => first | (go_simp; done) | (go_simp; rfl)); intro gb332 hg w9 hbox hb; have n0_ := Aside0.mk (below_step (by repeat (first | (with_reducible first | exact HB.out | apply below_alloc | apply pw_below_drewN | apply below_drew1) | exact HB.out)) hb); have n1_ := Aside0.mk (hbox); have n2_ := Aside0.mk ((by rw [hg]; exact (below_size (by repeat (first | (with_reducible first | exact HB.out | apply below_alloc | apply pw_below_drewN | apply below_drew1) | exact HB.out))) : w.heap.size ≤ gb332)); have n3_ := n2_; clear HB; have HB := n0_; have BK332 := n1_; have GW332 := n2_; have GE332 := n3_; clear n0_ n1_ n2_ n3_; clear hb hbox hg; have hcz10_0 : w9.cell? ⟨gb332, 0, none⟩ = some (.int .i64 a0_0) := (blk_cell BK332.out 0).trans rfl; have hcz10_1 : w9.cell? ⟨gb332, 1, none⟩ = some (.int .i64 a0_1) := (blk_cell BK332.out 1).trans rfl; have hcz10_2 : w9.cell? ⟨gb332, 2, none⟩ = some (.int .i64 a0_2) := (blk_cell BK332.out 2).trans rfl; have hcz10_3 : w9.cell? ⟨gb332, 3, none⟩ = some (.slice A0_3 l0_3.length c0_3) := (blk_cell BK332.out 3).trans rfl; have hcz10_4 : w9.cell? ⟨gb332, 4, none⟩ = some (.slice A0_4 l0_4.length c0_4) := (blk_cell BK332.out 4).trans rfl; have hcz10_5 : w9.cell? ⟨gb332, 5, none⟩ = some (.slice A0_5 l0_5.length c0_5) := (blk_cell BK332.out 5).trans rfl; have hfz10_0 := blk_frozen BK332.out 0; have hfz10_1 := blk_frozen BK332.out 1; have hfz10_2 := blk_frozen BK332.out 2; have hfz10_3 := blk_frozen BK332.out 3; have hfz10_4 := blk_frozen BK332.out 4; have hfz10_5 := blk_frozen BK332.out 5) | ((with_reducible refine gate_callee (f := 153) rfl ?_); refine goesL_ (some 8) rfl rfl Try.func153 (by kernel_rfl) rfl #[.slice A0_3 l0_3.length c0_3, .int .i64 a1] rfl (by (try simp only [List.map_toArray, List.map_cons, List.map_nil]); first | done | rfl | (simp only [List.length_drop, List.length_take]; rfl)) ?_; (with_reducible refine (laws_heldBoolS.calls k _ _ l0_3 a1 t333 _ ?side1 ?side2 A3.out).mono ?_); (case side1 => repeat (first | exact (Kd.C_below HR0_3.out HB.out) | (with_reducible refine Kd.C_alloc ?_ _) | (with_reducible refine Kd.C_drewN ?_ _) | (with_reducible refine Kd.C_drew ?_))); (case side2 => exact HC0_3.out); rintro e w' ⟨rfl, ⟨nd, rfl⟩⟩; refine ⟨_, rfl, ?_⟩) | ((with_reducible refine gate_callee (f := 83) rfl ?_); refine goesL_ (some 14) rfl rfl Try.func83 (by kernel_rfl) rfl #[.slice A0_4 l0_4.length c0_4, .int .i64 t333] rfl (by (try simp only [List.map_toArray, List.map_cons, List.map_nil]); first | done | rfl | (simp only [List.length_drop, List.length_take]; rfl)) ?_; (with_reducible refine (laws_heldIntS.calls k _ _ l0_4 t333 t334 _ ?side1 ?side2 A7.out).mono ?_); (case side1 => repeat (first | exact (Kd.C_below HR0_4.out (by repeat (first | (with_reducible first | exact HB.out | apply below_alloc | apply pw_below_drewN | apply below_drew1 | refine below_set ?_ GE332.out) | exact HB.out))) | (with_reducible refine Kd.C_alloc ?_ _) | (with_reducible refine Kd.C_drewN ?_ _) | (with_reducible refine Kd.C_drew ?_))); (case side2 => exact HC0_4.out); rintro e w' ⟨rfl, ⟨nd, rfl⟩⟩; refine ⟨_, rfl, ?_⟩))
    go_ret
    exact ⟨by first | rfl | (simp [errW_none, errW_some] <;> rfl) | (simp [*, errW_none, errW_some] <;> rfl), by repeat (first | (with_reducible first | exact HB.out | apply below_alloc | apply pw_below_drewN | apply below_drew1 | refine below_set ?_ GE332.out) | exact HB.out)⟩
  rw [if_neg c8] at H
  have c8b0 : decide (t334 < 0) = false := decide_eq_false c8
  clear c8
  replace H := Option.bind_eq_some_iff.mp H
  obtain ⟨t335, A110, H⟩ := H
  replace H : (if t335 < 0 then (some (-1)) else (some t335)) = some r := H
  have A11 := Aside0.mk A110
  clear A110
  by_cases c12 : t335 < 0
  rw [if_pos c12] at H
  have c12b0 : decide (t335 < 0) = true := decide_eq_true c12
  clear c12
  obtain rfl := Option.some.inj H
  rotate_left
  rw [if_neg c12] at H
  have c12b0 : decide (t335 < 0) = false := decide_eq_false c12
  clear c12
  obtain rfl := Option.some.inj H
  all_goals
    go_enter Try.func71, Try.ntmps71
    go_wp2_with (first | ((with_reducible refine gate_dst (N := 2) rfl ?_); refine box_event ?hg (N := 2) ?hd (cs := #[.int .i64 a0_0, .int .i64 a0_1, .int .i64 a0_2, .slice A0_3 l0_3.length c0_3, .slice A0_4 l0_4.length c0_4, .slice A0_5 l0_5.length c0_5]) (t := 94) ?hr ?_; (case hd => rfl); (case hg => rfl); (case hr => first | (go_simp; done) | (go_simp; rfl)); intro gb332 hg w13 hbox hb; have n0_ := Aside0.mk (below_step (by repeat (first | (with_reducible first | exact HB.out | apply below_alloc | apply pw_below_drewN | apply below_drew1) | exact HB.out)) hb); have n1_ := Aside0.mk (hbox); have n2_ := Aside0.mk ((by rw [hg]; exact (below_size (by repeat (first | (with_reducible first | exact HB.out | apply below_alloc | apply pw_below_drewN | apply below_drew1) | exact HB.out))) : w.heap.size ≤ gb332)); have n3_ := n2_; clear HB; have HB := n0_; have BK332 := n1_; have GW332 := n2_; have GE332 := n3_; clear n0_ n1_ n2_ n3_; clear hb hbox hg; have hcz14_0 : w13.cell? ⟨gb332, 0, none⟩ = some (.int .i64 a0_0) := (blk_cell BK332.out 0).trans rfl; have hcz14_1 : w13.cell? ⟨gb332, 1, none⟩ = some (.int .i64 a0_1) := (blk_cell BK332.out 1).trans rfl; have hcz14_2 : w13.cell? ⟨gb332, 2, none⟩ = some (.int .i64 a0_2) := (blk_cell BK332.out 2).trans rfl; have hcz14_3 : w13.cell? ⟨gb332, 3, none⟩ = some (.slice A0_3 l0_3.length c0_3) := (blk_cell BK332.out 3).trans rfl; have hcz14_4 : w13.cell? ⟨gb332, 4, none⟩ = some (.slice A0_4 l0_4.length c0_4) := (blk_cell BK332.out 4).trans rfl; have hcz14_5 : w13.cell? ⟨gb332, 5, none⟩ = some (.slice A0_5 l0_5.length c0_5) := (blk_cell BK332.out 5).trans rfl; have hfz14_0 := blk_frozen BK332.out 0; have hfz14_1 := blk_frozen BK332.out 1; have hfz14_2 := blk_frozen BK332.out 2; have hfz14_3 := blk_frozen BK332.out 3; have hfz14_4 := blk_frozen BK332.out 4; have hfz14_5 := blk_frozen BK332.out 5) | ((with_reducible refine gate_callee (f := 153) rfl ?_); refine goesL_ (some 8) rfl rfl Try.func153 (by kernel_rfl) rfl #[.slice A0_3 l0_3.length c0_3, .int .i64 a1] rfl (by (try simp only [List.map_toArray, List.map_cons, List.map_nil]); first | done | rfl | (simp only [List.length_drop, List.length_take]; rfl)) ?_; (with_reducible refine (laws_heldBoolS.calls k _ _ l0_3 a1 t333 _ ?side1 ?side2 A3.out).mono ?_); (case side1 => repeat (first | exact (Kd.C_below HR0_3.out HB.out) | (with_reducible refine Kd.C_alloc ?_ _) | (with_reducible refine Kd.C_drewN ?_ _) | (with_reducible refine Kd.C_drew ?_))); (case side2 => exact HC0_3.out); rintro e w' ⟨rfl, ⟨nd, rfl⟩⟩; refine ⟨_, rfl, ?_⟩) | ((with_reducible refine gate_callee (f := 83) rfl ?_); refine goesL_ (some 14) rfl rfl Try.func83 (by kernel_rfl) rfl #[.slice A0_4 l0_4.length c0_4, .int .i64 t333] rfl (by (try simp only [List.map_toArray, List.map_cons, List.map_nil]); first | done | rfl | (simp only [List.length_drop, List.length_take]; rfl)) ?_; (with_reducible refine (laws_heldIntS.calls k _ _ l0_4 t333 t334 _ ?side1 ?side2 A7.out).mono ?_); (case side1 => repeat (first | exact (Kd.C_below HR0_4.out (by repeat (first | (with_reducible first | exact HB.out | apply below_alloc | apply pw_below_drewN | apply below_drew1 | refine below_set ?_ GE332.out) | exact HB.out))) | (with_reducible refine Kd.C_alloc ?_ _) | (with_reducible refine Kd.C_drewN ?_ _) | (with_reducible refine Kd.C_drew ?_))); (case side2 => exact HC0_4.out); rintro e w' ⟨rfl, ⟨nd, rfl⟩⟩; refine ⟨_, rfl, ?_⟩) | ((with_reducible refine gate_callee (f := 154) rfl ?_); refine goesL_ (some 20) rfl rfl Try.func154 (by kernel_rfl) rfl #[.slice A0_5 l0_5.length c0_5, .int .i64 t334] rfl (by (try simp only [List.map_toArray, List.map_cons, List.map_nil]); first | done | rfl | (simp only [List.length_drop, List.length_take]; rfl)) ?_; (with_reducible refine (laws_heldByteSS.calls k _ _ l0_5 t334 t335 _ ?side1 ?side2 A11.out).mono ?_); (case side1 => repeat (first | exact (Kd.C_below HR0_5.out (by repeat (first | (with_reducible first | exact HB.out | apply below_alloc | apply pw_below_drewN | apply below_drew1 | refine below_set ?_ GE332.out) | exact HB.out))) | (with_reducible refine Kd.C_alloc ?_ _) | (with_reducible refine Kd.C_drewN ?_ _) | (with_reducible refine Kd.C_drew ?_))); (case side2 => exact HC0_5.out); rintro e w' ⟨rfl, ⟨nd, rfl⟩⟩; refine ⟨_, rfl, ?_⟩))
    go_ret
    exact ⟨by first | rfl | (simp [errW_none, errW_some] <;> rfl) | (simp [*, errW_none, errW_some] <;> rfl), by repeat (first | (with_reducible first | exact HB.out | apply below_alloc | apply pw_below_drewN | apply below_drew1 | refine below_set ?_ GE332.out) | exact HB.out)⟩

/-! ### laws_FnExactReadParts: function 11 -/
def laws_FnExactReadParts.Core (l0 : List Int) : Prop := (l0.length : Int) > 1048576 ∨ ∃ (k : Nat) (r1 r2 r3 : Int) (r4 r4' : List Bool) (r5 r5' : List Int) (r6 r6' : List (List Int)) (x' : List Int) (ka m : Int), laws_toByteS.f k l0 = some l0 ∧ spec_ReadParts.f k l0 = some (r1, r2, r3, r4, r5, r6) ∧ impl_ReadParts.f k l0 = some (r1, r2, r3, r4, r5, r6) ∧ laws_eqPiled.f k r1 r2 r3 r4 r5 r6 r1 r2 r3 r4 r5 r6 = some true ∧ laws_eqByteS.f k l0 l0 = some true ∧ laws_markByteS.f k l0 1 = some (ka, x') ∧ 0 ≤ ka ∧ laws_markPiled.f k r4 r5 r6 1 = some (m, r4', r5', r6') ∧ 0 ≤ m ∧ laws_heldPiled.f k r1 r2 r3 r4' r5' r6' 1 = some m
def laws_FnExactReadParts.Pure : Prop := ∀ (l0 : List Int), l0.length ≤ maxLen → l0.length * 1 ≤ 140737488351232 → (∀ x ∈ l0, (Lit.int .u8 x).wf = true) → laws_FnExactReadParts.Core l0
set_option maxHeartbeats 8000000 in
set_option maxRecDepth 100000 in
theorem laws_FnExactReadParts.core (A0 : Option Addr) (c0 : Nat) (l0 : List Int) (P : laws_FnExactReadParts.Core l0) (w : World) (hr0 : Kd.C (Kd.int .u8) w A0 l0.length l0) (hc0 : l0.length ≤ c0) :
    Calls Try.prog 11 #[.slice A0 l0.length c0] w fun e w' => e = .returned (.bool true) ∧ Below w.heap.size w w' := by
  unfold laws_FnExactReadParts.Core at P
  have ES := Aside0.mk P
  clear P
  have hu := Try.underlying94
  have HR0 := Aside0.mk hr0
  have HC0 := Aside0.mk hc0
  clear hr0 hc0
  have HB := Aside0.mk (Below.refl w.heap.size w)
  by_cases cl : (l0.length : Int) > 1048576
  · have cb : decide ((l0.length : Int) > 1048576) = true := decide_eq_true cl
    clear ES
    go_enter Try.func11, Try.ntmps11
    go_wp2
    go_ret
    exact ⟨rfl, HB.out⟩
  have cb : decide ((l0.length : Int) > 1048576) = false := decide_eq_false cl
  obtain ⟨k, r1, r2, r3, r4, r4', r5, r5', r6, r6', x', ka, m, E1, E2, E3, E4, E5, E6, hka, E7, hm, E8⟩ := ES.out.resolve_left cl
  clear ES cl
  replace E1 := Aside0.mk E1
  replace E2 := Aside0.mk E2
  replace E3 := Aside0.mk E3
  replace E4 := Aside0.mk E4
  replace E5 := Aside0.mk E5
  replace E6 := Aside0.mk E6
  replace E7 := Aside0.mk E7
  replace E8 := Aside0.mk E8
  have cka : decide (ka < 0) = false := decide_eq_false (by omega)
  have cm : decide (m < 0) = false := decide_eq_false (by omega)
  clear hka hm
  go_enter Try.func11, Try.ntmps11
  go_upto_region 3 with (fail)
  go_upto_region 4 with (first | ((with_reducible refine gate_callee (f := 36) rfl ?_); refine goesL_ (some 14) rfl rfl Try.func36 (by kernel_rfl) rfl #[.slice A0 l0.length c0] rfl (by (try simp only [List.map_toArray, List.map_cons, List.map_nil]); first | done | rfl) ?_; (with_reducible refine (laws_toByteS.calls k _ _ l0 l0 _ ?side1 ?side2 E1.out).mono ?_); (case side1 => exact Kd.C_below HR0.out HB.out); (case side2 => exact HC0.out); rintro e w_1 ⟨vx, rfl, hox, hb⟩; refine ⟨_, rfl, ?_⟩; have n_HB := Aside0.mk (below_step HB.out hb); have SZw_1 := Aside0.mk hb.size; clear HB; have HB := n_HB; clear n_HB; have HOx := Aside0.mk (show Kd.R (Kd.int .u8) 5 w_1 w.heap.size (fun k_ => w.heap.size ≤ k_ ∧ k_ < w_1.heap.size) vx l0 from Kd.R_lower (Kd.R_mono (Kd.R_bound hox) (fun k_ hk => ⟨hk.2.1, hk.2.2.1⟩)) (by have := SZw_1.out; omega)); obtain ⟨Ax, cx, ex⟩ := Kd.R_slice HOx.out; subst ex; clear hb hox) | ((with_reducible refine gate_callee (f := 67) rfl ?_); refine goesL_ (some 15) rfl rfl Try.func67 (by kernel_rfl) rfl #[.slice Ax l0.length cx] rfl (by (try simp only [List.map_toArray, List.map_cons, List.map_nil]); first | done | rfl) ?_; (with_reducible refine (spec_ReadParts.calls k _ _ l0 r1 r2 r3 r4 r5 r6 _ ?side1 ?side2 E2.out).mono ?_); (case side1 => exact (Kd.R_reads' HOx.out).2.2); (case side2 => exact (Kd.R_reads' HOx.out).2.1); rintro e w_2 ⟨vw4, vw5, vw6, rfl, how4, how5, how6, hb⟩; refine ⟨_, rfl, ?_⟩; have n_HB := Aside0.mk (below_step HB.out hb); have SZw_2 := Aside0.mk hb.size; have n_HOx := Aside0.mk (Kd.R_below HOx.out hb); clear HB HOx; have HB := n_HB; have HOx := n_HOx; clear n_HB n_HOx; have HOw4 := Aside0.mk (show Kd.R Kd.bool 4 w_2 w.heap.size (fun k_ => w_1.heap.size ≤ k_ ∧ k_ < w_2.heap.size) vw4 r4 from Kd.R_lower (Kd.R_mono (Kd.R_bound how4) (fun k_ hk => ⟨hk.2.1, hk.2.2.1⟩)) (by have := SZw_1.out; have := SZw_2.out; omega)); obtain ⟨Aw4, cw4, ew4⟩ := Kd.R_slice HOw4.out; subst ew4; have HOw5 := Aside0.mk (show Kd.R (Kd.int .i64) 3 w_2 w.heap.size (fun k_ => w_1.heap.size ≤ k_ ∧ k_ < w_2.heap.size) vw5 r5 from Kd.R_lower (Kd.R_mono (Kd.R_bound how5) (fun k_ hk => ⟨hk.2.1, hk.2.2.1⟩)) (by have := SZw_1.out; have := SZw_2.out; omega)); obtain ⟨Aw5, cw5, ew5⟩ := Kd.R_slice HOw5.out; subst ew5; have HOw6 := Aside0.mk (show Kd.S (Kd.slice 5 (Kd.int .u8)) 51 w_2 w.heap.size (fun k_ => w_1.heap.size ≤ k_ ∧ k_ < w_2.heap.size) vw6 r6 from Kd.S_lower (Kd.S_mono (Kd.S_bound how6) (fun k_ hk => ⟨hk.2.1, hk.2.2.1⟩)) (by have := SZw_1.out; have := SZw_2.out; omega)); obtain ⟨Aw6, cw6, ew6⟩ := Kd.S_slice HOw6.out; subst ew6; clear hb how4 how5 how6) | ((with_reducible refine gate_dst (N := 3) rfl ?_); refine box_event ?hg (N := 3) ?hd (cs := #[.int .i64 0, .int .i64 0, .int .i64 0, .slice none 0 0, .slice none 0 0, .slice none 0 0]) (t := 94) ?hr ?_; (case hd => rfl); (case hg => rfl); (case hr => first | (go_simp; done) | (go_simp; rfl)); intro g3 hg w_3 hbox hb; have BKg3 := Aside0.mk hbox; have GLg3 := Aside0.mk (show w_2.heap.size ≤ g3 from Nat.le_of_eq hg.symm); have HV := Aside0.mk hb; clear hg hb hbox) | ((with_reducible refine gate_store (t := 94) (p := 3) (v := .tmp 15) rfl ?_); refine put_all rfl 94 (.tmp 3) (.tmp 15) rfl rfl g3 #[.int .i64 0, .int .i64 0, .int .i64 0, .slice none 0 0, .slice none 0 0, .slice none 0 0] 94 (.agg #[.int .i64 r1, .int .i64 r2, .int .i64 r3, .slice Aw4 r4.length cw4, .slice Aw5 r5.length cw5, .slice Aw6 r6.length cw6]) [.int .i64 r1, .int .i64 r2, .int .i64 r3, .slice Aw4 r4.length cw4, .slice Aw5 r5.length cw5, .slice Aw6 r6.length cw6] rfl rfl rfl (by simp [Value.oneCell']) (by kernel_rfl) BKg3.out rfl ?_; intro w_4 h1 hk hbb; have hb := hbb _ _ HV.out GLg3.out; have n_HB := Aside0.mk (below_step HB.out hb); have SZw_4 := Aside0.mk hb.size; have n_HOx := Aside0.mk (Kd.R_below HOx.out hb); have n_HOw4 := Aside0.mk (Kd.R_below HOw4.out hb); have n_HOw5 := Aside0.mk (Kd.R_below HOw5.out hb); have n_HOw6 := Aside0.mk (Kd.S_below HOw6.out hb); clear HB HOx HOw4 HOw5 HOw6; have HB := n_HB; have HOx := n_HOx; have HOw4 := n_HOw4; have HOw5 := n_HOw5; have HOw6 := n_HOw6; clear n_HB n_HOx n_HOw4 n_HOw5 n_HOw6; clear HV BKg3; have BKg3 := Aside0.mk (show w_4.heap[g3]? = some (.cells #[.int .i64 r1, .int .i64 r2, .int .i64 r3, .slice Aw4 r4.length cw4, .slice Aw5 r5.length cw5, .slice Aw6 r6.length cw6] 94 (0, 0)) from h1); have GHg3 := Aside0.mk (blk_lt h1); clear h1 hk hbb hb; have hcz_g3_0 : (w_4).cell? ⟨g3, 0, none⟩ = some (.int .i64 r1) := (blk_cell BKg3.out 0).trans rfl; have hcz_g3_1 : (w_4).cell? ⟨g3, 1, none⟩ = some (.int .i64 r2) := (blk_cell BKg3.out 1).trans rfl; have hcz_g3_2 : (w_4).cell? ⟨g3, 2, none⟩ = some (.int .i64 r3) := (blk_cell BKg3.out 2).trans rfl; have hcz_g3_3 : (w_4).cell? ⟨g3, 3, none⟩ = some (.slice Aw4 r4.length cw4) := (blk_cell BKg3.out 3).trans rfl; have hcz_g3_4 : (w_4).cell? ⟨g3, 4, none⟩ = some (.slice Aw5 r5.length cw5) := (blk_cell BKg3.out 4).trans rfl; have hcz_g3_5 : (w_4).cell? ⟨g3, 5, none⟩ = some (.slice Aw6 r6.length cw6) := (blk_cell BKg3.out 5).trans rfl; have hfz_g3_0 := blk_frozen BKg3.out 0; have hfz_g3_1 := blk_frozen BKg3.out 1; have hfz_g3_2 := blk_frozen BKg3.out 2; have hfz_g3_3 := blk_frozen BKg3.out 3; have hfz_g3_4 := blk_frozen BKg3.out 4; have hfz_g3_5 := blk_frozen BKg3.out 5))
  go_upto_region 5 with (first | ((with_reducible refine gate_callee (f := 36) rfl ?_); refine goesL_ (some 17) rfl rfl Try.func36 (by kernel_rfl) rfl #[.slice A0 l0.length c0] rfl (by (try simp only [List.map_toArray, List.map_cons, List.map_nil]); first | done | rfl) ?_; (with_reducible refine (laws_toByteS.calls k _ _ l0 l0 _ ?side1 ?side2 E1.out).mono ?_); (case side1 => exact Kd.C_below HR0.out HB.out); (case side2 => exact HC0.out); rintro e w_5 ⟨vy, rfl, hoy, hb⟩; refine ⟨_, rfl, ?_⟩; clear hcz_g3_0 hcz_g3_1 hcz_g3_2 hcz_g3_3 hcz_g3_4 hcz_g3_5 hfz_g3_0 hfz_g3_1 hfz_g3_2 hfz_g3_3 hfz_g3_4 hfz_g3_5; have n_HB := Aside0.mk (below_step HB.out hb); have SZw_5 := Aside0.mk hb.size; have n_HOx := Aside0.mk (Kd.R_below HOx.out hb); have n_HOw4 := Aside0.mk (Kd.R_below HOw4.out hb); have n_HOw5 := Aside0.mk (Kd.R_below HOw5.out hb); have n_HOw6 := Aside0.mk (Kd.S_below HOw6.out hb); have n_BKg3 := Aside0.mk (blk_below BKg3.out hb); clear HB HOx HOw4 HOw5 HOw6 BKg3; have HB := n_HB; have HOx := n_HOx; have HOw4 := n_HOw4; have HOw5 := n_HOw5; have HOw6 := n_HOw6; have BKg3 := n_BKg3; clear n_HB n_HOx n_HOw4 n_HOw5 n_HOw6 n_BKg3; have HOy := Aside0.mk (show Kd.R (Kd.int .u8) 5 w_5 w.heap.size (fun k_ => w_4.heap.size ≤ k_ ∧ k_ < w_5.heap.size) vy l0 from Kd.R_lower (Kd.R_mono (Kd.R_bound hoy) (fun k_ hk => ⟨hk.2.1, hk.2.2.1⟩)) (by have := SZw_1.out; have := SZw_2.out; have := SZw_4.out; have := SZw_5.out; omega)); obtain ⟨Ay, cy, ey⟩ := Kd.R_slice HOy.out; subst ey; clear hb hoy; have hcz_g3_0 : (w_5).cell? ⟨g3, 0, none⟩ = some (.int .i64 r1) := (blk_cell BKg3.out 0).trans rfl; have hcz_g3_1 : (w_5).cell? ⟨g3, 1, none⟩ = some (.int .i64 r2) := (blk_cell BKg3.out 1).trans rfl; have hcz_g3_2 : (w_5).cell? ⟨g3, 2, none⟩ = some (.int .i64 r3) := (blk_cell BKg3.out 2).trans rfl; have hcz_g3_3 : (w_5).cell? ⟨g3, 3, none⟩ = some (.slice Aw4 r4.length cw4) := (blk_cell BKg3.out 3).trans rfl; have hcz_g3_4 : (w_5).cell? ⟨g3, 4, none⟩ = some (.slice Aw5 r5.length cw5) := (blk_cell BKg3.out 4).trans rfl; have hcz_g3_5 : (w_5).cell? ⟨g3, 5, none⟩ = some (.slice Aw6 r6.length cw6) := (blk_cell BKg3.out 5).trans rfl; have hfz_g3_0 := blk_frozen BKg3.out 0; have hfz_g3_1 := blk_frozen BKg3.out 1; have hfz_g3_2 := blk_frozen BKg3.out 2; have hfz_g3_3 := blk_frozen BKg3.out 3; have hfz_g3_4 := blk_frozen BKg3.out 4; have hfz_g3_5 := blk_frozen BKg3.out 5))
  go_upto_region 6 with (first | ((with_reducible refine gate_callee (f := 68) rfl ?_); refine goesL_ (some 19) rfl rfl Try.func68 (by kernel_rfl) rfl #[.slice Ay l0.length cy] rfl (by (try simp only [List.map_toArray, List.map_cons, List.map_nil]); first | done | rfl) ?_; (with_reducible refine (impl_ReadParts.calls k (fun k_ => w_4.heap.size ≤ k_ ∧ k_ < w_5.heap.size) _ _ l0 r1 r2 r3 r4 r5 r6 _ ?side1 E3.out).mono ?_); (case side1 => exact Kd.V_mk (Kd.R_reads' HOy.out).2.1 (Kd.R_F HOy.out)); rintro e w_6 ⟨vg4, vg5, vg6, rfl, hog4, hog5, hog6, hb⟩; refine ⟨_, rfl, ?_⟩; clear hcz_g3_0 hcz_g3_1 hcz_g3_2 hcz_g3_3 hcz_g3_4 hcz_g3_5 hfz_g3_0 hfz_g3_1 hfz_g3_2 hfz_g3_3 hfz_g3_4 hfz_g3_5; have n_HB := Aside0.mk (below_step HB.out hb); have SZw_6 := Aside0.mk hb.size; have n_HOx := Aside0.mk (Kd.R_below HOx.out hb); have n_HOw4 := Aside0.mk (Kd.R_below HOw4.out hb); have n_HOw5 := Aside0.mk (Kd.R_below HOw5.out hb); have n_HOw6 := Aside0.mk (Kd.S_below HOw6.out hb); have n_BKg3 := Aside0.mk (blk_below BKg3.out hb); have n_HOy := Aside0.mk (Kd.R_below HOy.out hb); clear HB HOx HOw4 HOw5 HOw6 BKg3 HOy; have HB := n_HB; have HOx := n_HOx; have HOw4 := n_HOw4; have HOw5 := n_HOw5; have HOw6 := n_HOw6; have BKg3 := n_BKg3; have HOy := n_HOy; clear n_HB n_HOx n_HOw4 n_HOw5 n_HOw6 n_BKg3 n_HOy; have HOg4 := Aside0.mk (show Kd.R Kd.bool 4 w_6 w.heap.size (fun k_ => w_5.heap.size ≤ k_ ∧ k_ < w_6.heap.size) vg4 r4 from Kd.R_lower (Kd.R_mono (Kd.R_bound hog4) (fun k_ hk => ⟨hk.2.1, hk.2.2.1⟩)) (by have := SZw_1.out; have := SZw_2.out; have := SZw_4.out; have := SZw_5.out; have := SZw_6.out; omega)); obtain ⟨Ag4, cg4, eg4⟩ := Kd.R_slice HOg4.out; subst eg4; have HOg5 := Aside0.mk (show Kd.R (Kd.int .i64) 3 w_6 w.heap.size (fun k_ => w_5.heap.size ≤ k_ ∧ k_ < w_6.heap.size) vg5 r5 from Kd.R_lower (Kd.R_mono (Kd.R_bound hog5) (fun k_ hk => ⟨hk.2.1, hk.2.2.1⟩)) (by have := SZw_1.out; have := SZw_2.out; have := SZw_4.out; have := SZw_5.out; have := SZw_6.out; omega)); obtain ⟨Ag5, cg5, eg5⟩ := Kd.R_slice HOg5.out; subst eg5; have HOg6 := Aside0.mk (show Kd.S (Kd.slice 5 (Kd.int .u8)) 51 w_6 w.heap.size (fun k_ => w_5.heap.size ≤ k_ ∧ k_ < w_6.heap.size) vg6 r6 from Kd.S_lower (Kd.S_mono (Kd.S_bound hog6) (fun k_ hk => ⟨hk.2.1, hk.2.2.1⟩)) (by have := SZw_1.out; have := SZw_2.out; have := SZw_4.out; have := SZw_5.out; have := SZw_6.out; omega)); obtain ⟨Ag6, cg6, eg6⟩ := Kd.S_slice HOg6.out; subst eg6; clear hb hog4 hog5 hog6; have hcz_g3_0 : (w_6).cell? ⟨g3, 0, none⟩ = some (.int .i64 r1) := (blk_cell BKg3.out 0).trans rfl; have hcz_g3_1 : (w_6).cell? ⟨g3, 1, none⟩ = some (.int .i64 r2) := (blk_cell BKg3.out 1).trans rfl; have hcz_g3_2 : (w_6).cell? ⟨g3, 2, none⟩ = some (.int .i64 r3) := (blk_cell BKg3.out 2).trans rfl; have hcz_g3_3 : (w_6).cell? ⟨g3, 3, none⟩ = some (.slice Aw4 r4.length cw4) := (blk_cell BKg3.out 3).trans rfl; have hcz_g3_4 : (w_6).cell? ⟨g3, 4, none⟩ = some (.slice Aw5 r5.length cw5) := (blk_cell BKg3.out 4).trans rfl; have hcz_g3_5 : (w_6).cell? ⟨g3, 5, none⟩ = some (.slice Aw6 r6.length cw6) := (blk_cell BKg3.out 5).trans rfl; have hfz_g3_0 := blk_frozen BKg3.out 0; have hfz_g3_1 := blk_frozen BKg3.out 1; have hfz_g3_2 := blk_frozen BKg3.out 2; have hfz_g3_3 := blk_frozen BKg3.out 3; have hfz_g3_4 := blk_frozen BKg3.out 4; have hfz_g3_5 := blk_frozen BKg3.out 5) | ((with_reducible refine gate_dst (N := 5) rfl ?_); refine box_event ?hg (N := 5) ?hd (cs := #[.int .i64 0, .int .i64 0, .int .i64 0, .slice none 0 0, .slice none 0 0, .slice none 0 0]) (t := 94) ?hr ?_; (case hd => rfl); (case hg => rfl); (case hr => first | (go_simp; done) | (go_simp; rfl)); intro g5 hg w_7 hbox hb; have BKg5 := Aside0.mk hbox; have GLg5 := Aside0.mk (show w_6.heap.size ≤ g5 from Nat.le_of_eq hg.symm); have HV := Aside0.mk hb; clear hg hb hbox) | ((with_reducible refine gate_store (t := 94) (p := 5) (v := .tmp 19) rfl ?_); refine put_all rfl 94 (.tmp 5) (.tmp 19) rfl rfl g5 #[.int .i64 0, .int .i64 0, .int .i64 0, .slice none 0 0, .slice none 0 0, .slice none 0 0] 94 (.agg #[.int .i64 r1, .int .i64 r2, .int .i64 r3, .slice Ag4 r4.length cg4, .slice Ag5 r5.length cg5, .slice Ag6 r6.length cg6]) [.int .i64 r1, .int .i64 r2, .int .i64 r3, .slice Ag4 r4.length cg4, .slice Ag5 r5.length cg5, .slice Ag6 r6.length cg6] rfl rfl rfl (by simp [Value.oneCell']) (by kernel_rfl) BKg5.out rfl ?_; intro w_8 h1 hk hbb; have hb := hbb _ _ HV.out GLg5.out; clear hcz_g3_0 hcz_g3_1 hcz_g3_2 hcz_g3_3 hcz_g3_4 hcz_g3_5 hfz_g3_0 hfz_g3_1 hfz_g3_2 hfz_g3_3 hfz_g3_4 hfz_g3_5; have n_HB := Aside0.mk (below_step HB.out hb); have SZw_8 := Aside0.mk hb.size; have n_HOx := Aside0.mk (Kd.R_below HOx.out hb); have n_HOw4 := Aside0.mk (Kd.R_below HOw4.out hb); have n_HOw5 := Aside0.mk (Kd.R_below HOw5.out hb); have n_HOw6 := Aside0.mk (Kd.S_below HOw6.out hb); have n_BKg3 := Aside0.mk (blk_below BKg3.out hb); have n_HOy := Aside0.mk (Kd.R_below HOy.out hb); have n_HOg4 := Aside0.mk (Kd.R_below HOg4.out hb); have n_HOg5 := Aside0.mk (Kd.R_below HOg5.out hb); have n_HOg6 := Aside0.mk (Kd.S_below HOg6.out hb); clear HB HOx HOw4 HOw5 HOw6 BKg3 HOy HOg4 HOg5 HOg6; have HB := n_HB; have HOx := n_HOx; have HOw4 := n_HOw4; have HOw5 := n_HOw5; have HOw6 := n_HOw6; have BKg3 := n_BKg3; have HOy := n_HOy; have HOg4 := n_HOg4; have HOg5 := n_HOg5; have HOg6 := n_HOg6; clear n_HB n_HOx n_HOw4 n_HOw5 n_HOw6 n_BKg3 n_HOy n_HOg4 n_HOg5 n_HOg6; clear HV BKg5; have BKg5 := Aside0.mk (show w_8.heap[g5]? = some (.cells #[.int .i64 r1, .int .i64 r2, .int .i64 r3, .slice Ag4 r4.length cg4, .slice Ag5 r5.length cg5, .slice Ag6 r6.length cg6] 94 (0, 0)) from h1); have GHg5 := Aside0.mk (blk_lt h1); clear h1 hk hbb hb; have hcz_g3_0 : (w_8).cell? ⟨g3, 0, none⟩ = some (.int .i64 r1) := (blk_cell BKg3.out 0).trans rfl; have hcz_g3_1 : (w_8).cell? ⟨g3, 1, none⟩ = some (.int .i64 r2) := (blk_cell BKg3.out 1).trans rfl; have hcz_g3_2 : (w_8).cell? ⟨g3, 2, none⟩ = some (.int .i64 r3) := (blk_cell BKg3.out 2).trans rfl; have hcz_g3_3 : (w_8).cell? ⟨g3, 3, none⟩ = some (.slice Aw4 r4.length cw4) := (blk_cell BKg3.out 3).trans rfl; have hcz_g3_4 : (w_8).cell? ⟨g3, 4, none⟩ = some (.slice Aw5 r5.length cw5) := (blk_cell BKg3.out 4).trans rfl; have hcz_g3_5 : (w_8).cell? ⟨g3, 5, none⟩ = some (.slice Aw6 r6.length cw6) := (blk_cell BKg3.out 5).trans rfl; have hfz_g3_0 := blk_frozen BKg3.out 0; have hfz_g3_1 := blk_frozen BKg3.out 1; have hfz_g3_2 := blk_frozen BKg3.out 2; have hfz_g3_3 := blk_frozen BKg3.out 3; have hfz_g3_4 := blk_frozen BKg3.out 4; have hfz_g3_5 := blk_frozen BKg3.out 5; have hcz_g5_0 : (w_8).cell? ⟨g5, 0, none⟩ = some (.int .i64 r1) := (blk_cell BKg5.out 0).trans rfl; have hcz_g5_1 : (w_8).cell? ⟨g5, 1, none⟩ = some (.int .i64 r2) := (blk_cell BKg5.out 1).trans rfl; have hcz_g5_2 : (w_8).cell? ⟨g5, 2, none⟩ = some (.int .i64 r3) := (blk_cell BKg5.out 2).trans rfl; have hcz_g5_3 : (w_8).cell? ⟨g5, 3, none⟩ = some (.slice Ag4 r4.length cg4) := (blk_cell BKg5.out 3).trans rfl; have hcz_g5_4 : (w_8).cell? ⟨g5, 4, none⟩ = some (.slice Ag5 r5.length cg5) := (blk_cell BKg5.out 4).trans rfl; have hcz_g5_5 : (w_8).cell? ⟨g5, 5, none⟩ = some (.slice Ag6 r6.length cg6) := (blk_cell BKg5.out 5).trans rfl; have hfz_g5_0 := blk_frozen BKg5.out 0; have hfz_g5_1 := blk_frozen BKg5.out 1; have hfz_g5_2 := blk_frozen BKg5.out 2; have hfz_g5_3 := blk_frozen BKg5.out 3; have hfz_g5_4 := blk_frozen BKg5.out 4; have hfz_g5_5 := blk_frozen BKg5.out 5))
  go_upto_region 8 with (first | ((with_reducible refine gate_callee (f := 69) rfl ?_); refine goesL_ (some 22) rfl rfl Try.func69 (by kernel_rfl) rfl #[.agg #[.int .i64 r1, .int .i64 r2, .int .i64 r3, .slice Ag4 r4.length cg4, .slice Ag5 r5.length cg5, .slice Ag6 r6.length cg6], .agg #[.int .i64 r1, .int .i64 r2, .int .i64 r3, .slice Aw4 r4.length cw4, .slice Aw5 r5.length cw5, .slice Aw6 r6.length cw6]] rfl (by (try simp only [List.map_toArray, List.map_cons, List.map_nil]); first | done | rfl) ?_; (with_reducible refine (laws_eqPiled.calls k r1 r2 r3 _ _ r4 _ _ r5 _ _ r6 r1 r2 r3 _ _ r4 _ _ r5 _ _ r6 true _ ?side1 ?side2 ?side3 ?side4 ?side5 ?side6 ?side7 ?side8 ?side9 ?side10 ?side11 ?side12 E4.out).mono ?_); (case side1 => exact (Kd.R_reads' HOg4.out).2.2); (case side2 => exact (Kd.R_reads' HOg4.out).2.1); (case side3 => exact (Kd.R_reads' HOg5.out).2.2); (case side4 => exact (Kd.R_reads' HOg5.out).2.1); (case side5 => exact (Kd.S_reads' HOg6.out).2.2); (case side6 => exact (Kd.S_reads' HOg6.out).2.1); (case side7 => exact (Kd.R_reads' HOw4.out).2.2); (case side8 => exact (Kd.R_reads' HOw4.out).2.1); (case side9 => exact (Kd.R_reads' HOw5.out).2.2); (case side10 => exact (Kd.R_reads' HOw5.out).2.1); (case side11 => exact (Kd.S_reads' HOw6.out).2.2); (case side12 => exact (Kd.S_reads' HOw6.out).2.1); rintro e w_9 ⟨rfl, hb⟩; refine ⟨_, rfl, ?_⟩; clear hcz_g3_0 hcz_g3_1 hcz_g3_2 hcz_g3_3 hcz_g3_4 hcz_g3_5 hfz_g3_0 hfz_g3_1 hfz_g3_2 hfz_g3_3 hfz_g3_4 hfz_g3_5 hcz_g5_0 hcz_g5_1 hcz_g5_2 hcz_g5_3 hcz_g5_4 hcz_g5_5 hfz_g5_0 hfz_g5_1 hfz_g5_2 hfz_g5_3 hfz_g5_4 hfz_g5_5; have n_HB := Aside0.mk (below_step HB.out hb); have SZw_9 := Aside0.mk hb.size; have n_HOx := Aside0.mk (Kd.R_below HOx.out hb); have n_HOw4 := Aside0.mk (Kd.R_below HOw4.out hb); have n_HOw5 := Aside0.mk (Kd.R_below HOw5.out hb); have n_HOw6 := Aside0.mk (Kd.S_below HOw6.out hb); have n_BKg3 := Aside0.mk (blk_below BKg3.out hb); have n_HOy := Aside0.mk (Kd.R_below HOy.out hb); have n_HOg4 := Aside0.mk (Kd.R_below HOg4.out hb); have n_HOg5 := Aside0.mk (Kd.R_below HOg5.out hb); have n_HOg6 := Aside0.mk (Kd.S_below HOg6.out hb); have n_BKg5 := Aside0.mk (blk_below BKg5.out hb); clear HB HOx HOw4 HOw5 HOw6 BKg3 HOy HOg4 HOg5 HOg6 BKg5; have HB := n_HB; have HOx := n_HOx; have HOw4 := n_HOw4; have HOw5 := n_HOw5; have HOw6 := n_HOw6; have BKg3 := n_BKg3; have HOy := n_HOy; have HOg4 := n_HOg4; have HOg5 := n_HOg5; have HOg6 := n_HOg6; have BKg5 := n_BKg5; clear n_HB n_HOx n_HOw4 n_HOw5 n_HOw6 n_BKg3 n_HOy n_HOg4 n_HOg5 n_HOg6 n_BKg5; clear hb; have hcz_g3_0 : (w_9).cell? ⟨g3, 0, none⟩ = some (.int .i64 r1) := (blk_cell BKg3.out 0).trans rfl; have hcz_g3_1 : (w_9).cell? ⟨g3, 1, none⟩ = some (.int .i64 r2) := (blk_cell BKg3.out 1).trans rfl; have hcz_g3_2 : (w_9).cell? ⟨g3, 2, none⟩ = some (.int .i64 r3) := (blk_cell BKg3.out 2).trans rfl; have hcz_g3_3 : (w_9).cell? ⟨g3, 3, none⟩ = some (.slice Aw4 r4.length cw4) := (blk_cell BKg3.out 3).trans rfl; have hcz_g3_4 : (w_9).cell? ⟨g3, 4, none⟩ = some (.slice Aw5 r5.length cw5) := (blk_cell BKg3.out 4).trans rfl; have hcz_g3_5 : (w_9).cell? ⟨g3, 5, none⟩ = some (.slice Aw6 r6.length cw6) := (blk_cell BKg3.out 5).trans rfl; have hfz_g3_0 := blk_frozen BKg3.out 0; have hfz_g3_1 := blk_frozen BKg3.out 1; have hfz_g3_2 := blk_frozen BKg3.out 2; have hfz_g3_3 := blk_frozen BKg3.out 3; have hfz_g3_4 := blk_frozen BKg3.out 4; have hfz_g3_5 := blk_frozen BKg3.out 5; have hcz_g5_0 : (w_9).cell? ⟨g5, 0, none⟩ = some (.int .i64 r1) := (blk_cell BKg5.out 0).trans rfl; have hcz_g5_1 : (w_9).cell? ⟨g5, 1, none⟩ = some (.int .i64 r2) := (blk_cell BKg5.out 1).trans rfl; have hcz_g5_2 : (w_9).cell? ⟨g5, 2, none⟩ = some (.int .i64 r3) := (blk_cell BKg5.out 2).trans rfl; have hcz_g5_3 : (w_9).cell? ⟨g5, 3, none⟩ = some (.slice Ag4 r4.length cg4) := (blk_cell BKg5.out 3).trans rfl; have hcz_g5_4 : (w_9).cell? ⟨g5, 4, none⟩ = some (.slice Ag5 r5.length cg5) := (blk_cell BKg5.out 4).trans rfl; have hcz_g5_5 : (w_9).cell? ⟨g5, 5, none⟩ = some (.slice Ag6 r6.length cg6) := (blk_cell BKg5.out 5).trans rfl; have hfz_g5_0 := blk_frozen BKg5.out 0; have hfz_g5_1 := blk_frozen BKg5.out 1; have hfz_g5_2 := blk_frozen BKg5.out 2; have hfz_g5_3 := blk_frozen BKg5.out 3; have hfz_g5_4 := blk_frozen BKg5.out 4; have hfz_g5_5 := blk_frozen BKg5.out 5))
  go_upto_region 10 with (first | ((with_reducible refine gate_callee (f := 36) rfl ?_); refine goesL_ (some 26) rfl rfl Try.func36 (by kernel_rfl) rfl #[.slice A0 l0.length c0] rfl (by (try simp only [List.map_toArray, List.map_cons, List.map_nil]); first | done | rfl) ?_; (with_reducible refine (laws_toByteS.calls k _ _ l0 l0 _ ?side1 ?side2 E1.out).mono ?_); (case side1 => exact Kd.C_below HR0.out HB.out); (case side2 => exact HC0.out); rintro e w_10 ⟨vz, rfl, hoz, hb⟩; refine ⟨_, rfl, ?_⟩; clear hcz_g3_0 hcz_g3_1 hcz_g3_2 hcz_g3_3 hcz_g3_4 hcz_g3_5 hfz_g3_0 hfz_g3_1 hfz_g3_2 hfz_g3_3 hfz_g3_4 hfz_g3_5 hcz_g5_0 hcz_g5_1 hcz_g5_2 hcz_g5_3 hcz_g5_4 hcz_g5_5 hfz_g5_0 hfz_g5_1 hfz_g5_2 hfz_g5_3 hfz_g5_4 hfz_g5_5; have n_HB := Aside0.mk (below_step HB.out hb); have SZw_10 := Aside0.mk hb.size; have n_HOx := Aside0.mk (Kd.R_below HOx.out hb); have n_HOw4 := Aside0.mk (Kd.R_below HOw4.out hb); have n_HOw5 := Aside0.mk (Kd.R_below HOw5.out hb); have n_HOw6 := Aside0.mk (Kd.S_below HOw6.out hb); have n_BKg3 := Aside0.mk (blk_below BKg3.out hb); have n_HOy := Aside0.mk (Kd.R_below HOy.out hb); have n_HOg4 := Aside0.mk (Kd.R_below HOg4.out hb); have n_HOg5 := Aside0.mk (Kd.R_below HOg5.out hb); have n_HOg6 := Aside0.mk (Kd.S_below HOg6.out hb); have n_BKg5 := Aside0.mk (blk_below BKg5.out hb); clear HB HOx HOw4 HOw5 HOw6 BKg3 HOy HOg4 HOg5 HOg6 BKg5; have HB := n_HB; have HOx := n_HOx; have HOw4 := n_HOw4; have HOw5 := n_HOw5; have HOw6 := n_HOw6; have BKg3 := n_BKg3; have HOy := n_HOy; have HOg4 := n_HOg4; have HOg5 := n_HOg5; have HOg6 := n_HOg6; have BKg5 := n_BKg5; clear n_HB n_HOx n_HOw4 n_HOw5 n_HOw6 n_BKg3 n_HOy n_HOg4 n_HOg5 n_HOg6 n_BKg5; have HOz := Aside0.mk (show Kd.R (Kd.int .u8) 5 w_10 w.heap.size (fun k_ => w_9.heap.size ≤ k_ ∧ k_ < w_10.heap.size) vz l0 from Kd.R_lower (Kd.R_mono (Kd.R_bound hoz) (fun k_ hk => ⟨hk.2.1, hk.2.2.1⟩)) (by have := SZw_1.out; have := SZw_2.out; have := SZw_4.out; have := SZw_5.out; have := SZw_6.out; have := SZw_8.out; have := SZw_9.out; have := SZw_10.out; omega)); obtain ⟨Az, cz, ez⟩ := Kd.R_slice HOz.out; subst ez; clear hb hoz; have hcz_g3_0 : (w_10).cell? ⟨g3, 0, none⟩ = some (.int .i64 r1) := (blk_cell BKg3.out 0).trans rfl; have hcz_g3_1 : (w_10).cell? ⟨g3, 1, none⟩ = some (.int .i64 r2) := (blk_cell BKg3.out 1).trans rfl; have hcz_g3_2 : (w_10).cell? ⟨g3, 2, none⟩ = some (.int .i64 r3) := (blk_cell BKg3.out 2).trans rfl; have hcz_g3_3 : (w_10).cell? ⟨g3, 3, none⟩ = some (.slice Aw4 r4.length cw4) := (blk_cell BKg3.out 3).trans rfl; have hcz_g3_4 : (w_10).cell? ⟨g3, 4, none⟩ = some (.slice Aw5 r5.length cw5) := (blk_cell BKg3.out 4).trans rfl; have hcz_g3_5 : (w_10).cell? ⟨g3, 5, none⟩ = some (.slice Aw6 r6.length cw6) := (blk_cell BKg3.out 5).trans rfl; have hfz_g3_0 := blk_frozen BKg3.out 0; have hfz_g3_1 := blk_frozen BKg3.out 1; have hfz_g3_2 := blk_frozen BKg3.out 2; have hfz_g3_3 := blk_frozen BKg3.out 3; have hfz_g3_4 := blk_frozen BKg3.out 4; have hfz_g3_5 := blk_frozen BKg3.out 5; have hcz_g5_0 : (w_10).cell? ⟨g5, 0, none⟩ = some (.int .i64 r1) := (blk_cell BKg5.out 0).trans rfl; have hcz_g5_1 : (w_10).cell? ⟨g5, 1, none⟩ = some (.int .i64 r2) := (blk_cell BKg5.out 1).trans rfl; have hcz_g5_2 : (w_10).cell? ⟨g5, 2, none⟩ = some (.int .i64 r3) := (blk_cell BKg5.out 2).trans rfl; have hcz_g5_3 : (w_10).cell? ⟨g5, 3, none⟩ = some (.slice Ag4 r4.length cg4) := (blk_cell BKg5.out 3).trans rfl; have hcz_g5_4 : (w_10).cell? ⟨g5, 4, none⟩ = some (.slice Ag5 r5.length cg5) := (blk_cell BKg5.out 4).trans rfl; have hcz_g5_5 : (w_10).cell? ⟨g5, 5, none⟩ = some (.slice Ag6 r6.length cg6) := (blk_cell BKg5.out 5).trans rfl; have hfz_g5_0 := blk_frozen BKg5.out 0; have hfz_g5_1 := blk_frozen BKg5.out 1; have hfz_g5_2 := blk_frozen BKg5.out 2; have hfz_g5_3 := blk_frozen BKg5.out 3; have hfz_g5_4 := blk_frozen BKg5.out 4; have hfz_g5_5 := blk_frozen BKg5.out 5) | ((with_reducible refine gate_callee (f := 39) rfl ?_); refine goesL_ (some 27) rfl rfl Try.func39 (by kernel_rfl) rfl #[.slice Ay l0.length cy, .slice Az l0.length cz] rfl (by (try simp only [List.map_toArray, List.map_cons, List.map_nil]); first | done | rfl) ?_; (with_reducible refine (laws_eqByteS.calls k _ _ l0 _ _ l0 true _ ?side1 ?side2 ?side3 ?side4 E5.out).mono ?_); (case side1 => exact (Kd.R_reads' HOy.out).2.2); (case side2 => exact (Kd.R_reads' HOy.out).2.1); (case side3 => exact (Kd.R_reads' HOz.out).2.2); (case side4 => exact (Kd.R_reads' HOz.out).2.1); rintro e w_11 ⟨rfl, hb⟩; replace hb := hb.below; refine ⟨_, rfl, ?_⟩; clear hcz_g3_0 hcz_g3_1 hcz_g3_2 hcz_g3_3 hcz_g3_4 hcz_g3_5 hfz_g3_0 hfz_g3_1 hfz_g3_2 hfz_g3_3 hfz_g3_4 hfz_g3_5 hcz_g5_0 hcz_g5_1 hcz_g5_2 hcz_g5_3 hcz_g5_4 hcz_g5_5 hfz_g5_0 hfz_g5_1 hfz_g5_2 hfz_g5_3 hfz_g5_4 hfz_g5_5; have n_HB := Aside0.mk (below_step HB.out hb); have SZw_11 := Aside0.mk hb.size; have n_HOx := Aside0.mk (Kd.R_below HOx.out hb); have n_HOw4 := Aside0.mk (Kd.R_below HOw4.out hb); have n_HOw5 := Aside0.mk (Kd.R_below HOw5.out hb); have n_HOw6 := Aside0.mk (Kd.S_below HOw6.out hb); have n_BKg3 := Aside0.mk (blk_below BKg3.out hb); have n_HOy := Aside0.mk (Kd.R_below HOy.out hb); have n_HOg4 := Aside0.mk (Kd.R_below HOg4.out hb); have n_HOg5 := Aside0.mk (Kd.R_below HOg5.out hb); have n_HOg6 := Aside0.mk (Kd.S_below HOg6.out hb); have n_BKg5 := Aside0.mk (blk_below BKg5.out hb); have n_HOz := Aside0.mk (Kd.R_below HOz.out hb); clear HB HOx HOw4 HOw5 HOw6 BKg3 HOy HOg4 HOg5 HOg6 BKg5 HOz; have HB := n_HB; have HOx := n_HOx; have HOw4 := n_HOw4; have HOw5 := n_HOw5; have HOw6 := n_HOw6; have BKg3 := n_BKg3; have HOy := n_HOy; have HOg4 := n_HOg4; have HOg5 := n_HOg5; have HOg6 := n_HOg6; have BKg5 := n_BKg5; have HOz := n_HOz; clear n_HB n_HOx n_HOw4 n_HOw5 n_HOw6 n_BKg3 n_HOy n_HOg4 n_HOg5 n_HOg6 n_BKg5 n_HOz; clear hb; have hcz_g3_0 : (w_11).cell? ⟨g3, 0, none⟩ = some (.int .i64 r1) := (blk_cell BKg3.out 0).trans rfl; have hcz_g3_1 : (w_11).cell? ⟨g3, 1, none⟩ = some (.int .i64 r2) := (blk_cell BKg3.out 1).trans rfl; have hcz_g3_2 : (w_11).cell? ⟨g3, 2, none⟩ = some (.int .i64 r3) := (blk_cell BKg3.out 2).trans rfl; have hcz_g3_3 : (w_11).cell? ⟨g3, 3, none⟩ = some (.slice Aw4 r4.length cw4) := (blk_cell BKg3.out 3).trans rfl; have hcz_g3_4 : (w_11).cell? ⟨g3, 4, none⟩ = some (.slice Aw5 r5.length cw5) := (blk_cell BKg3.out 4).trans rfl; have hcz_g3_5 : (w_11).cell? ⟨g3, 5, none⟩ = some (.slice Aw6 r6.length cw6) := (blk_cell BKg3.out 5).trans rfl; have hfz_g3_0 := blk_frozen BKg3.out 0; have hfz_g3_1 := blk_frozen BKg3.out 1; have hfz_g3_2 := blk_frozen BKg3.out 2; have hfz_g3_3 := blk_frozen BKg3.out 3; have hfz_g3_4 := blk_frozen BKg3.out 4; have hfz_g3_5 := blk_frozen BKg3.out 5; have hcz_g5_0 : (w_11).cell? ⟨g5, 0, none⟩ = some (.int .i64 r1) := (blk_cell BKg5.out 0).trans rfl; have hcz_g5_1 : (w_11).cell? ⟨g5, 1, none⟩ = some (.int .i64 r2) := (blk_cell BKg5.out 1).trans rfl; have hcz_g5_2 : (w_11).cell? ⟨g5, 2, none⟩ = some (.int .i64 r3) := (blk_cell BKg5.out 2).trans rfl; have hcz_g5_3 : (w_11).cell? ⟨g5, 3, none⟩ = some (.slice Ag4 r4.length cg4) := (blk_cell BKg5.out 3).trans rfl; have hcz_g5_4 : (w_11).cell? ⟨g5, 4, none⟩ = some (.slice Ag5 r5.length cg5) := (blk_cell BKg5.out 4).trans rfl; have hcz_g5_5 : (w_11).cell? ⟨g5, 5, none⟩ = some (.slice Ag6 r6.length cg6) := (blk_cell BKg5.out 5).trans rfl; have hfz_g5_0 := blk_frozen BKg5.out 0; have hfz_g5_1 := blk_frozen BKg5.out 1; have hfz_g5_2 := blk_frozen BKg5.out 2; have hfz_g5_3 := blk_frozen BKg5.out 3; have hfz_g5_4 := blk_frozen BKg5.out 4; have hfz_g5_5 := blk_frozen BKg5.out 5))
  go_upto_region 11 with (fail)
  go_upto_region 12 with (first | ((with_reducible refine gate_callee (f := 40) rfl ?_); refine goesL_ (some 31) rfl rfl Try.func40 (by kernel_rfl) rfl #[.slice Ay l0.length cy, .int .i64 1] rfl (by (try simp only [List.map_toArray, List.map_cons, List.map_nil]); first | done | rfl) ?_; (with_reducible refine (laws_markByteS.calls k (fun k_ => w_4.heap.size ≤ k_ ∧ k_ < w_5.heap.size) (.slice Ay l0.length cy) l0 1 ka x' w _ ?side1 ?side2 E6.out).mono ?_); (case side1 => exact HB.out); (case side2 => exact HOy.out); rintro e w_12 ⟨rfl, hox, hb, hk⟩; clear hox; refine ⟨_, rfl, ?_⟩; clear HOy; clear hcz_g3_0 hcz_g3_1 hcz_g3_2 hcz_g3_3 hcz_g3_4 hcz_g3_5 hfz_g3_0 hfz_g3_1 hfz_g3_2 hfz_g3_3 hfz_g3_4 hfz_g3_5 hcz_g5_0 hcz_g5_1 hcz_g5_2 hcz_g5_3 hcz_g5_4 hcz_g5_5 hfz_g5_0 hfz_g5_1 hfz_g5_2 hfz_g5_3 hfz_g5_4 hfz_g5_5; have n_HB := Aside0.mk hb; have SZw_12 := Aside0.mk hk.1; have n_HOx := Aside0.mk (Kd.R_kept HOx.out hk (fun k_ ⟨a_, b_⟩ hs_ => by (try dsimp only at hs_); have := SZw_1.out; have := SZw_2.out; have := SZw_4.out; have := SZw_5.out; have := SZw_6.out; have := SZw_8.out; have := SZw_9.out; have := SZw_10.out; have := SZw_11.out; omega)); have n_HOw4 := Aside0.mk (Kd.R_kept HOw4.out hk (fun k_ ⟨a_, b_⟩ hs_ => by (try dsimp only at hs_); have := SZw_1.out; have := SZw_2.out; have := SZw_4.out; have := SZw_5.out; have := SZw_6.out; have := SZw_8.out; have := SZw_9.out; have := SZw_10.out; have := SZw_11.out; omega)); have n_HOw5 := Aside0.mk (Kd.R_kept HOw5.out hk (fun k_ ⟨a_, b_⟩ hs_ => by (try dsimp only at hs_); have := SZw_1.out; have := SZw_2.out; have := SZw_4.out; have := SZw_5.out; have := SZw_6.out; have := SZw_8.out; have := SZw_9.out; have := SZw_10.out; have := SZw_11.out; omega)); have n_HOw6 := Aside0.mk (Kd.S_kept HOw6.out hk (fun k_ ⟨a_, b_⟩ hs_ => by (try dsimp only at hs_); have := SZw_1.out; have := SZw_2.out; have := SZw_4.out; have := SZw_5.out; have := SZw_6.out; have := SZw_8.out; have := SZw_9.out; have := SZw_10.out; have := SZw_11.out; omega)); have n_BKg3 := Aside0.mk (blk_kept BKg3.out hk (fun hs_ => by (try dsimp only at hs_); have := GLg3.out; have := GHg3.out; have := SZw_1.out; have := SZw_2.out; have := SZw_4.out; have := SZw_5.out; have := SZw_6.out; have := SZw_8.out; have := SZw_9.out; have := SZw_10.out; have := SZw_11.out; omega)); have n_HOg4 := Aside0.mk (Kd.R_kept HOg4.out hk (fun k_ ⟨a_, b_⟩ hs_ => by (try dsimp only at hs_); have := SZw_1.out; have := SZw_2.out; have := SZw_4.out; have := SZw_5.out; have := SZw_6.out; have := SZw_8.out; have := SZw_9.out; have := SZw_10.out; have := SZw_11.out; omega)); have n_HOg5 := Aside0.mk (Kd.R_kept HOg5.out hk (fun k_ ⟨a_, b_⟩ hs_ => by (try dsimp only at hs_); have := SZw_1.out; have := SZw_2.out; have := SZw_4.out; have := SZw_5.out; have := SZw_6.out; have := SZw_8.out; have := SZw_9.out; have := SZw_10.out; have := SZw_11.out; omega)); have n_HOg6 := Aside0.mk (Kd.S_kept HOg6.out hk (fun k_ ⟨a_, b_⟩ hs_ => by (try dsimp only at hs_); have := SZw_1.out; have := SZw_2.out; have := SZw_4.out; have := SZw_5.out; have := SZw_6.out; have := SZw_8.out; have := SZw_9.out; have := SZw_10.out; have := SZw_11.out; omega)); have n_BKg5 := Aside0.mk (blk_kept BKg5.out hk (fun hs_ => by (try dsimp only at hs_); have := GLg5.out; have := GHg5.out; have := SZw_1.out; have := SZw_2.out; have := SZw_4.out; have := SZw_5.out; have := SZw_6.out; have := SZw_8.out; have := SZw_9.out; have := SZw_10.out; have := SZw_11.out; omega)); have n_HOz := Aside0.mk (Kd.R_kept HOz.out hk (fun k_ ⟨a_, b_⟩ hs_ => by (try dsimp only at hs_); have := SZw_1.out; have := SZw_2.out; have := SZw_4.out; have := SZw_5.out; have := SZw_6.out; have := SZw_8.out; have := SZw_9.out; have := SZw_10.out; have := SZw_11.out; omega)); clear HB HOx HOw4 HOw5 HOw6 BKg3 HOg4 HOg5 HOg6 BKg5 HOz; have HB := n_HB; have HOx := n_HOx; have HOw4 := n_HOw4; have HOw5 := n_HOw5; have HOw6 := n_HOw6; have BKg3 := n_BKg3; have HOg4 := n_HOg4; have HOg5 := n_HOg5; have HOg6 := n_HOg6; have BKg5 := n_BKg5; have HOz := n_HOz; clear n_HB n_HOx n_HOw4 n_HOw5 n_HOw6 n_BKg3 n_HOg4 n_HOg5 n_HOg6 n_BKg5 n_HOz; clear hb hk; have hcz_g3_0 : (w_12).cell? ⟨g3, 0, none⟩ = some (.int .i64 r1) := (blk_cell BKg3.out 0).trans rfl; have hcz_g3_1 : (w_12).cell? ⟨g3, 1, none⟩ = some (.int .i64 r2) := (blk_cell BKg3.out 1).trans rfl; have hcz_g3_2 : (w_12).cell? ⟨g3, 2, none⟩ = some (.int .i64 r3) := (blk_cell BKg3.out 2).trans rfl; have hcz_g3_3 : (w_12).cell? ⟨g3, 3, none⟩ = some (.slice Aw4 r4.length cw4) := (blk_cell BKg3.out 3).trans rfl; have hcz_g3_4 : (w_12).cell? ⟨g3, 4, none⟩ = some (.slice Aw5 r5.length cw5) := (blk_cell BKg3.out 4).trans rfl; have hcz_g3_5 : (w_12).cell? ⟨g3, 5, none⟩ = some (.slice Aw6 r6.length cw6) := (blk_cell BKg3.out 5).trans rfl; have hfz_g3_0 := blk_frozen BKg3.out 0; have hfz_g3_1 := blk_frozen BKg3.out 1; have hfz_g3_2 := blk_frozen BKg3.out 2; have hfz_g3_3 := blk_frozen BKg3.out 3; have hfz_g3_4 := blk_frozen BKg3.out 4; have hfz_g3_5 := blk_frozen BKg3.out 5; have hcz_g5_0 : (w_12).cell? ⟨g5, 0, none⟩ = some (.int .i64 r1) := (blk_cell BKg5.out 0).trans rfl; have hcz_g5_1 : (w_12).cell? ⟨g5, 1, none⟩ = some (.int .i64 r2) := (blk_cell BKg5.out 1).trans rfl; have hcz_g5_2 : (w_12).cell? ⟨g5, 2, none⟩ = some (.int .i64 r3) := (blk_cell BKg5.out 2).trans rfl; have hcz_g5_3 : (w_12).cell? ⟨g5, 3, none⟩ = some (.slice Ag4 r4.length cg4) := (blk_cell BKg5.out 3).trans rfl; have hcz_g5_4 : (w_12).cell? ⟨g5, 4, none⟩ = some (.slice Ag5 r5.length cg5) := (blk_cell BKg5.out 4).trans rfl; have hcz_g5_5 : (w_12).cell? ⟨g5, 5, none⟩ = some (.slice Ag6 r6.length cg6) := (blk_cell BKg5.out 5).trans rfl; have hfz_g5_0 := blk_frozen BKg5.out 0; have hfz_g5_1 := blk_frozen BKg5.out 1; have hfz_g5_2 := blk_frozen BKg5.out 2; have hfz_g5_3 := blk_frozen BKg5.out 3; have hfz_g5_4 := blk_frozen BKg5.out 4; have hfz_g5_5 := blk_frozen BKg5.out 5))
  (try simp only [Act.put, List.setIfInBounds_toArray, List.set_cons_zero, List.set_cons_succ])
  (try rw [cka])
  go_upto_region 14 with (first | (go_at_call 69; (with_reducible refine (laws_eqPiled.calls k r1 r2 r3 _ _ r4 _ _ r5 _ _ r6 r1 r2 r3 _ _ r4 _ _ r5 _ _ r6 true _ ?side1 ?side2 ?side3 ?side4 ?side5 ?side6 ?side7 ?side8 ?side9 ?side10 ?side11 ?side12 E4.out).mono ?_); (case side1 => exact (Kd.R_reads' HOg4.out).2.2); (case side2 => exact (Kd.R_reads' HOg4.out).2.1); (case side3 => exact (Kd.R_reads' HOg5.out).2.2); (case side4 => exact (Kd.R_reads' HOg5.out).2.1); (case side5 => exact (Kd.S_reads' HOg6.out).2.2); (case side6 => exact (Kd.S_reads' HOg6.out).2.1); (case side7 => exact (Kd.R_reads' HOw4.out).2.2); (case side8 => exact (Kd.R_reads' HOw4.out).2.1); (case side9 => exact (Kd.R_reads' HOw5.out).2.2); (case side10 => exact (Kd.R_reads' HOw5.out).2.1); (case side11 => exact (Kd.S_reads' HOw6.out).2.2); (case side12 => exact (Kd.S_reads' HOw6.out).2.1); rintro e w_13 ⟨rfl, hb⟩; clear hcz_g3_0 hcz_g3_1 hcz_g3_2 hcz_g3_3 hcz_g3_4 hcz_g3_5 hfz_g3_0 hfz_g3_1 hfz_g3_2 hfz_g3_3 hfz_g3_4 hfz_g3_5 hcz_g5_0 hcz_g5_1 hcz_g5_2 hcz_g5_3 hcz_g5_4 hcz_g5_5 hfz_g5_0 hfz_g5_1 hfz_g5_2 hfz_g5_3 hfz_g5_4 hfz_g5_5; have n_HB := Aside0.mk (below_step HB.out hb); have SZw_13 := Aside0.mk hb.size; have n_HOx := Aside0.mk (Kd.R_below HOx.out hb); have n_HOw4 := Aside0.mk (Kd.R_below HOw4.out hb); have n_HOw5 := Aside0.mk (Kd.R_below HOw5.out hb); have n_HOw6 := Aside0.mk (Kd.S_below HOw6.out hb); have n_BKg3 := Aside0.mk (blk_below BKg3.out hb); have n_HOg4 := Aside0.mk (Kd.R_below HOg4.out hb); have n_HOg5 := Aside0.mk (Kd.R_below HOg5.out hb); have n_HOg6 := Aside0.mk (Kd.S_below HOg6.out hb); have n_BKg5 := Aside0.mk (blk_below BKg5.out hb); have n_HOz := Aside0.mk (Kd.R_below HOz.out hb); clear HB HOx HOw4 HOw5 HOw6 BKg3 HOg4 HOg5 HOg6 BKg5 HOz; have HB := n_HB; have HOx := n_HOx; have HOw4 := n_HOw4; have HOw5 := n_HOw5; have HOw6 := n_HOw6; have BKg3 := n_BKg3; have HOg4 := n_HOg4; have HOg5 := n_HOg5; have HOg6 := n_HOg6; have BKg5 := n_BKg5; have HOz := n_HOz; clear n_HB n_HOx n_HOw4 n_HOw5 n_HOw6 n_BKg3 n_HOg4 n_HOg5 n_HOg6 n_BKg5 n_HOz; clear hb; have hcz_g3_0 : (w_13).cell? ⟨g3, 0, none⟩ = some (.int .i64 r1) := (blk_cell BKg3.out 0).trans rfl; have hcz_g3_1 : (w_13).cell? ⟨g3, 1, none⟩ = some (.int .i64 r2) := (blk_cell BKg3.out 1).trans rfl; have hcz_g3_2 : (w_13).cell? ⟨g3, 2, none⟩ = some (.int .i64 r3) := (blk_cell BKg3.out 2).trans rfl; have hcz_g3_3 : (w_13).cell? ⟨g3, 3, none⟩ = some (.slice Aw4 r4.length cw4) := (blk_cell BKg3.out 3).trans rfl; have hcz_g3_4 : (w_13).cell? ⟨g3, 4, none⟩ = some (.slice Aw5 r5.length cw5) := (blk_cell BKg3.out 4).trans rfl; have hcz_g3_5 : (w_13).cell? ⟨g3, 5, none⟩ = some (.slice Aw6 r6.length cw6) := (blk_cell BKg3.out 5).trans rfl; have hfz_g3_0 := blk_frozen BKg3.out 0; have hfz_g3_1 := blk_frozen BKg3.out 1; have hfz_g3_2 := blk_frozen BKg3.out 2; have hfz_g3_3 := blk_frozen BKg3.out 3; have hfz_g3_4 := blk_frozen BKg3.out 4; have hfz_g3_5 := blk_frozen BKg3.out 5; have hcz_g5_0 : (w_13).cell? ⟨g5, 0, none⟩ = some (.int .i64 r1) := (blk_cell BKg5.out 0).trans rfl; have hcz_g5_1 : (w_13).cell? ⟨g5, 1, none⟩ = some (.int .i64 r2) := (blk_cell BKg5.out 1).trans rfl; have hcz_g5_2 : (w_13).cell? ⟨g5, 2, none⟩ = some (.int .i64 r3) := (blk_cell BKg5.out 2).trans rfl; have hcz_g5_3 : (w_13).cell? ⟨g5, 3, none⟩ = some (.slice Ag4 r4.length cg4) := (blk_cell BKg5.out 3).trans rfl; have hcz_g5_4 : (w_13).cell? ⟨g5, 4, none⟩ = some (.slice Ag5 r5.length cg5) := (blk_cell BKg5.out 4).trans rfl; have hcz_g5_5 : (w_13).cell? ⟨g5, 5, none⟩ = some (.slice Ag6 r6.length cg6) := (blk_cell BKg5.out 5).trans rfl; have hfz_g5_0 := blk_frozen BKg5.out 0; have hfz_g5_1 := blk_frozen BKg5.out 1; have hfz_g5_2 := blk_frozen BKg5.out 2; have hfz_g5_3 := blk_frozen BKg5.out 3; have hfz_g5_4 := blk_frozen BKg5.out 4; have hfz_g5_5 := blk_frozen BKg5.out 5))
  go_upto_region 16 with (first | ((with_reducible refine gate_callee (f := 70) rfl ?_); refine goesL_ (some 42) rfl rfl Try.func70 (by kernel_rfl) rfl #[.agg #[.int .i64 r1, .int .i64 r2, .int .i64 r3, .slice Ag4 r4.length cg4, .slice Ag5 r5.length cg5, .slice Ag6 r6.length cg6], .int .i64 1] rfl (by (try simp only [List.map_toArray, List.map_cons, List.map_nil]); first | done | rfl) ?_; (with_reducible refine (laws_markPiled.calls k r1 r2 r3 (fun k_ => w_5.heap.size ≤ k_ ∧ k_ < w_6.heap.size) (fun k_ => w_5.heap.size ≤ k_ ∧ k_ < w_6.heap.size) (fun k_ => w_5.heap.size ≤ k_ ∧ k_ < w_6.heap.size) (.slice Ag4 r4.length cg4) (.slice Ag5 r5.length cg5) (.slice Ag6 r6.length cg6) r4 r5 r6 1 m r4' r5' r6' w _ ?side1 ?side2 ?side3 ?side4 E7.out).mono ?_); (case side1 => exact HB.out); (case side2 => exact HOg4.out); (case side3 => exact HOg5.out); (case side4 => exact HOg6.out); rintro e w_14 ⟨rfl, hog4, hog5, hog6, hb, hk⟩; (try refine ⟨_, rfl, ?_⟩); clear HOg4 HOg5 HOg6; clear hcz_g3_0 hcz_g3_1 hcz_g3_2 hcz_g3_3 hcz_g3_4 hcz_g3_5 hfz_g3_0 hfz_g3_1 hfz_g3_2 hfz_g3_3 hfz_g3_4 hfz_g3_5 hcz_g5_0 hcz_g5_1 hcz_g5_2 hcz_g5_3 hcz_g5_4 hcz_g5_5 hfz_g5_0 hfz_g5_1 hfz_g5_2 hfz_g5_3 hfz_g5_4 hfz_g5_5; have n_HB := Aside0.mk hb; have SZw_14 := Aside0.mk hk.1; have n_HOx := Aside0.mk (Kd.R_kept HOx.out hk (fun k_ ⟨a_, b_⟩ hs_ => by (try dsimp only at hs_); have := SZw_1.out; have := SZw_2.out; have := SZw_4.out; have := SZw_5.out; have := SZw_6.out; have := SZw_8.out; have := SZw_9.out; have := SZw_10.out; have := SZw_11.out; have := SZw_12.out; have := SZw_13.out; omega)); have n_HOw4 := Aside0.mk (Kd.R_kept HOw4.out hk (fun k_ ⟨a_, b_⟩ hs_ => by (try dsimp only at hs_); have := SZw_1.out; have := SZw_2.out; have := SZw_4.out; have := SZw_5.out; have := SZw_6.out; have := SZw_8.out; have := SZw_9.out; have := SZw_10.out; have := SZw_11.out; have := SZw_12.out; have := SZw_13.out; omega)); have n_HOw5 := Aside0.mk (Kd.R_kept HOw5.out hk (fun k_ ⟨a_, b_⟩ hs_ => by (try dsimp only at hs_); have := SZw_1.out; have := SZw_2.out; have := SZw_4.out; have := SZw_5.out; have := SZw_6.out; have := SZw_8.out; have := SZw_9.out; have := SZw_10.out; have := SZw_11.out; have := SZw_12.out; have := SZw_13.out; omega)); have n_HOw6 := Aside0.mk (Kd.S_kept HOw6.out hk (fun k_ ⟨a_, b_⟩ hs_ => by (try dsimp only at hs_); have := SZw_1.out; have := SZw_2.out; have := SZw_4.out; have := SZw_5.out; have := SZw_6.out; have := SZw_8.out; have := SZw_9.out; have := SZw_10.out; have := SZw_11.out; have := SZw_12.out; have := SZw_13.out; omega)); have n_BKg3 := Aside0.mk (blk_kept BKg3.out hk (fun hs_ => by (try dsimp only at hs_); have := GLg3.out; have := GHg3.out; have := SZw_1.out; have := SZw_2.out; have := SZw_4.out; have := SZw_5.out; have := SZw_6.out; have := SZw_8.out; have := SZw_9.out; have := SZw_10.out; have := SZw_11.out; have := SZw_12.out; have := SZw_13.out; omega)); have n_BKg5 := Aside0.mk (blk_kept BKg5.out hk (fun hs_ => by (try dsimp only at hs_); have := GLg5.out; have := GHg5.out; have := SZw_1.out; have := SZw_2.out; have := SZw_4.out; have := SZw_5.out; have := SZw_6.out; have := SZw_8.out; have := SZw_9.out; have := SZw_10.out; have := SZw_11.out; have := SZw_12.out; have := SZw_13.out; omega)); have n_HOz := Aside0.mk (Kd.R_kept HOz.out hk (fun k_ ⟨a_, b_⟩ hs_ => by (try dsimp only at hs_); have := SZw_1.out; have := SZw_2.out; have := SZw_4.out; have := SZw_5.out; have := SZw_6.out; have := SZw_8.out; have := SZw_9.out; have := SZw_10.out; have := SZw_11.out; have := SZw_12.out; have := SZw_13.out; omega)); clear HB HOx HOw4 HOw5 HOw6 BKg3 BKg5 HOz; have HB := n_HB; have HOx := n_HOx; have HOw4 := n_HOw4; have HOw5 := n_HOw5; have HOw6 := n_HOw6; have BKg3 := n_BKg3; have BKg5 := n_BKg5; have HOz := n_HOz; clear n_HB n_HOx n_HOw4 n_HOw5 n_HOw6 n_BKg3 n_BKg5 n_HOz; have HOg4 := Aside0.mk (show Kd.R Kd.bool 4 w_14 w.heap.size (fun k_ => 0 ≤ k_ ∧ k_ < w_14.heap.size) (.slice Ag4 r4.length cg4) r4' from Kd.R_mono (Kd.R_bound hog4) (fun k_ hk => ⟨Nat.zero_le _, hk.2.2.1⟩)); have HOg5 := Aside0.mk (show Kd.R (Kd.int .i64) 3 w_14 w.heap.size (fun k_ => 0 ≤ k_ ∧ k_ < w_14.heap.size) (.slice Ag5 r5.length cg5) r5' from Kd.R_mono (Kd.R_bound hog5) (fun k_ hk => ⟨Nat.zero_le _, hk.2.2.1⟩)); have HOg6 := Aside0.mk (show Kd.S (Kd.slice 5 (Kd.int .u8)) 51 w_14 w.heap.size (fun k_ => 0 ≤ k_ ∧ k_ < w_14.heap.size) (.slice Ag6 r6.length cg6) r6' from Kd.S_mono (Kd.S_bound hog6) (fun k_ hk => ⟨Nat.zero_le _, hk.2.2.1⟩)); clear hb hk hog4 hog5 hog6; have hcz_g3_0 : (w_14).cell? ⟨g3, 0, none⟩ = some (.int .i64 r1) := (blk_cell BKg3.out 0).trans rfl; have hcz_g3_1 : (w_14).cell? ⟨g3, 1, none⟩ = some (.int .i64 r2) := (blk_cell BKg3.out 1).trans rfl; have hcz_g3_2 : (w_14).cell? ⟨g3, 2, none⟩ = some (.int .i64 r3) := (blk_cell BKg3.out 2).trans rfl; have hcz_g3_3 : (w_14).cell? ⟨g3, 3, none⟩ = some (.slice Aw4 r4.length cw4) := (blk_cell BKg3.out 3).trans rfl; have hcz_g3_4 : (w_14).cell? ⟨g3, 4, none⟩ = some (.slice Aw5 r5.length cw5) := (blk_cell BKg3.out 4).trans rfl; have hcz_g3_5 : (w_14).cell? ⟨g3, 5, none⟩ = some (.slice Aw6 r6.length cw6) := (blk_cell BKg3.out 5).trans rfl; have hfz_g3_0 := blk_frozen BKg3.out 0; have hfz_g3_1 := blk_frozen BKg3.out 1; have hfz_g3_2 := blk_frozen BKg3.out 2; have hfz_g3_3 := blk_frozen BKg3.out 3; have hfz_g3_4 := blk_frozen BKg3.out 4; have hfz_g3_5 := blk_frozen BKg3.out 5; have hcz_g5_0 : (w_14).cell? ⟨g5, 0, none⟩ = some (.int .i64 r1) := (blk_cell BKg5.out 0).trans rfl; have hcz_g5_1 : (w_14).cell? ⟨g5, 1, none⟩ = some (.int .i64 r2) := (blk_cell BKg5.out 1).trans rfl; have hcz_g5_2 : (w_14).cell? ⟨g5, 2, none⟩ = some (.int .i64 r3) := (blk_cell BKg5.out 2).trans rfl; have hcz_g5_3 : (w_14).cell? ⟨g5, 3, none⟩ = some (.slice Ag4 r4.length cg4) := (blk_cell BKg5.out 3).trans rfl; have hcz_g5_4 : (w_14).cell? ⟨g5, 4, none⟩ = some (.slice Ag5 r5.length cg5) := (blk_cell BKg5.out 4).trans rfl; have hcz_g5_5 : (w_14).cell? ⟨g5, 5, none⟩ = some (.slice Ag6 r6.length cg6) := (blk_cell BKg5.out 5).trans rfl; have hfz_g5_0 := blk_frozen BKg5.out 0; have hfz_g5_1 := blk_frozen BKg5.out 1; have hfz_g5_2 := blk_frozen BKg5.out 2; have hfz_g5_3 := blk_frozen BKg5.out 3; have hfz_g5_4 := blk_frozen BKg5.out 4; have hfz_g5_5 := blk_frozen BKg5.out 5))
  go_upto_region 18 with (first | ((with_reducible refine gate_callee (f := 71) rfl ?_); refine goesL_ (some 45) rfl rfl Try.func71 (by kernel_rfl) rfl #[.agg #[.int .i64 r1, .int .i64 r2, .int .i64 r3, .slice Ag4 r4'.length cg4, .slice Ag5 r5'.length cg5, .slice Ag6 r6'.length cg6], .int .i64 1] rfl (by (try simp only [List.map_toArray, List.map_cons, List.map_nil]); first | done | rfl | (rw [show r4'.length = r4.length from (Kd.R_reads' HOg4.out).1.symm, show r5'.length = r5.length from (Kd.R_reads' HOg5.out).1.symm, show r6'.length = r6.length from (Kd.S_reads' HOg6.out).1.symm] <;> rfl)) ?_; (with_reducible refine (laws_heldPiled.calls k r1 r2 r3 _ _ r4' _ _ r5' _ _ r6' 1 m _ ?side1 ?side2 ?side3 ?side4 ?side5 ?side6 E8.out).mono ?_); (case side1 => exact (Kd.R_reads' HOg4.out).2.2); (case side2 => exact Nat.le_trans (Nat.le_of_eq (Kd.R_reads' HOg4.out).1.symm) (Kd.R_reads' HOg4.out).2.1); (case side3 => exact (Kd.R_reads' HOg5.out).2.2); (case side4 => exact Nat.le_trans (Nat.le_of_eq (Kd.R_reads' HOg5.out).1.symm) (Kd.R_reads' HOg5.out).2.1); (case side5 => exact (Kd.S_reads' HOg6.out).2.2); (case side6 => exact Nat.le_trans (Nat.le_of_eq (Kd.S_reads' HOg6.out).1.symm) (Kd.S_reads' HOg6.out).2.1); rintro e w_15 ⟨rfl, hb⟩; refine ⟨_, rfl, ?_⟩; clear hcz_g3_0 hcz_g3_1 hcz_g3_2 hcz_g3_3 hcz_g3_4 hcz_g3_5 hfz_g3_0 hfz_g3_1 hfz_g3_2 hfz_g3_3 hfz_g3_4 hfz_g3_5 hcz_g5_0 hcz_g5_1 hcz_g5_2 hcz_g5_3 hcz_g5_4 hcz_g5_5 hfz_g5_0 hfz_g5_1 hfz_g5_2 hfz_g5_3 hfz_g5_4 hfz_g5_5; have n_HB := Aside0.mk (below_step HB.out hb); have SZw_15 := Aside0.mk hb.size; have n_HOx := Aside0.mk (Kd.R_below HOx.out hb); have n_HOw4 := Aside0.mk (Kd.R_below HOw4.out hb); have n_HOw5 := Aside0.mk (Kd.R_below HOw5.out hb); have n_HOw6 := Aside0.mk (Kd.S_below HOw6.out hb); have n_BKg3 := Aside0.mk (blk_below BKg3.out hb); have n_BKg5 := Aside0.mk (blk_below BKg5.out hb); have n_HOz := Aside0.mk (Kd.R_below HOz.out hb); have n_HOg4 := Aside0.mk (Kd.R_below HOg4.out hb); have n_HOg5 := Aside0.mk (Kd.R_below HOg5.out hb); have n_HOg6 := Aside0.mk (Kd.S_below HOg6.out hb); clear HB HOx HOw4 HOw5 HOw6 BKg3 BKg5 HOz HOg4 HOg5 HOg6; have HB := n_HB; have HOx := n_HOx; have HOw4 := n_HOw4; have HOw5 := n_HOw5; have HOw6 := n_HOw6; have BKg3 := n_BKg3; have BKg5 := n_BKg5; have HOz := n_HOz; have HOg4 := n_HOg4; have HOg5 := n_HOg5; have HOg6 := n_HOg6; clear n_HB n_HOx n_HOw4 n_HOw5 n_HOw6 n_BKg3 n_BKg5 n_HOz n_HOg4 n_HOg5 n_HOg6; clear hb; have hcz_g3_0 : (w_15).cell? ⟨g3, 0, none⟩ = some (.int .i64 r1) := (blk_cell BKg3.out 0).trans rfl; have hcz_g3_1 : (w_15).cell? ⟨g3, 1, none⟩ = some (.int .i64 r2) := (blk_cell BKg3.out 1).trans rfl; have hcz_g3_2 : (w_15).cell? ⟨g3, 2, none⟩ = some (.int .i64 r3) := (blk_cell BKg3.out 2).trans rfl; have hcz_g3_3 : (w_15).cell? ⟨g3, 3, none⟩ = some (.slice Aw4 r4.length cw4) := (blk_cell BKg3.out 3).trans rfl; have hcz_g3_4 : (w_15).cell? ⟨g3, 4, none⟩ = some (.slice Aw5 r5.length cw5) := (blk_cell BKg3.out 4).trans rfl; have hcz_g3_5 : (w_15).cell? ⟨g3, 5, none⟩ = some (.slice Aw6 r6.length cw6) := (blk_cell BKg3.out 5).trans rfl; have hfz_g3_0 := blk_frozen BKg3.out 0; have hfz_g3_1 := blk_frozen BKg3.out 1; have hfz_g3_2 := blk_frozen BKg3.out 2; have hfz_g3_3 := blk_frozen BKg3.out 3; have hfz_g3_4 := blk_frozen BKg3.out 4; have hfz_g3_5 := blk_frozen BKg3.out 5; have hcz_g5_0 : (w_15).cell? ⟨g5, 0, none⟩ = some (.int .i64 r1) := (blk_cell BKg5.out 0).trans rfl; have hcz_g5_1 : (w_15).cell? ⟨g5, 1, none⟩ = some (.int .i64 r2) := (blk_cell BKg5.out 1).trans rfl; have hcz_g5_2 : (w_15).cell? ⟨g5, 2, none⟩ = some (.int .i64 r3) := (blk_cell BKg5.out 2).trans rfl; have hcz_g5_3 : (w_15).cell? ⟨g5, 3, none⟩ = some (.slice Ag4 r4.length cg4) := (blk_cell BKg5.out 3).trans rfl; have hcz_g5_4 : (w_15).cell? ⟨g5, 4, none⟩ = some (.slice Ag5 r5.length cg5) := (blk_cell BKg5.out 4).trans rfl; have hcz_g5_5 : (w_15).cell? ⟨g5, 5, none⟩ = some (.slice Ag6 r6.length cg6) := (blk_cell BKg5.out 5).trans rfl; have hfz_g5_0 := blk_frozen BKg5.out 0; have hfz_g5_1 := blk_frozen BKg5.out 1; have hfz_g5_2 := blk_frozen BKg5.out 2; have hfz_g5_3 := blk_frozen BKg5.out 3; have hfz_g5_4 := blk_frozen BKg5.out 4; have hfz_g5_5 := blk_frozen BKg5.out 5))
  go_upto_region 23 with (first | ((with_reducible refine gate_callee (f := 36) rfl ?_); refine goesL_ (some 52) rfl rfl Try.func36 (by kernel_rfl) rfl #[.slice A0 l0.length c0] rfl (by (try simp only [List.map_toArray, List.map_cons, List.map_nil]); first | done | rfl) ?_; (with_reducible refine (laws_toByteS.calls k _ _ l0 l0 _ ?side1 ?side2 E1.out).mono ?_); (case side1 => exact Kd.C_below HR0.out HB.out); (case side2 => exact HC0.out); rintro e w_16 ⟨vq, rfl, hoq, hb⟩; refine ⟨_, rfl, ?_⟩; clear hcz_g3_0 hcz_g3_1 hcz_g3_2 hcz_g3_3 hcz_g3_4 hcz_g3_5 hfz_g3_0 hfz_g3_1 hfz_g3_2 hfz_g3_3 hfz_g3_4 hfz_g3_5 hcz_g5_0 hcz_g5_1 hcz_g5_2 hcz_g5_3 hcz_g5_4 hcz_g5_5 hfz_g5_0 hfz_g5_1 hfz_g5_2 hfz_g5_3 hfz_g5_4 hfz_g5_5; have n_HB := Aside0.mk (below_step HB.out hb); have SZw_16 := Aside0.mk hb.size; have n_HOx := Aside0.mk (Kd.R_below HOx.out hb); have n_HOw4 := Aside0.mk (Kd.R_below HOw4.out hb); have n_HOw5 := Aside0.mk (Kd.R_below HOw5.out hb); have n_HOw6 := Aside0.mk (Kd.S_below HOw6.out hb); have n_BKg3 := Aside0.mk (blk_below BKg3.out hb); have n_BKg5 := Aside0.mk (blk_below BKg5.out hb); have n_HOz := Aside0.mk (Kd.R_below HOz.out hb); have n_HOg4 := Aside0.mk (Kd.R_below HOg4.out hb); have n_HOg5 := Aside0.mk (Kd.R_below HOg5.out hb); have n_HOg6 := Aside0.mk (Kd.S_below HOg6.out hb); clear HB HOx HOw4 HOw5 HOw6 BKg3 BKg5 HOz HOg4 HOg5 HOg6; have HB := n_HB; have HOx := n_HOx; have HOw4 := n_HOw4; have HOw5 := n_HOw5; have HOw6 := n_HOw6; have BKg3 := n_BKg3; have BKg5 := n_BKg5; have HOz := n_HOz; have HOg4 := n_HOg4; have HOg5 := n_HOg5; have HOg6 := n_HOg6; clear n_HB n_HOx n_HOw4 n_HOw5 n_HOw6 n_BKg3 n_BKg5 n_HOz n_HOg4 n_HOg5 n_HOg6; have HOq := Aside0.mk (show Kd.R (Kd.int .u8) 5 w_16 w.heap.size (fun k_ => w_15.heap.size ≤ k_ ∧ k_ < w_16.heap.size) vq l0 from Kd.R_lower (Kd.R_mono (Kd.R_bound hoq) (fun k_ hk => ⟨hk.2.1, hk.2.2.1⟩)) (by have := SZw_1.out; have := SZw_2.out; have := SZw_4.out; have := SZw_5.out; have := SZw_6.out; have := SZw_8.out; have := SZw_9.out; have := SZw_10.out; have := SZw_11.out; have := SZw_12.out; have := SZw_13.out; have := SZw_14.out; have := SZw_15.out; have := SZw_16.out; omega)); obtain ⟨Aq, cq, eq⟩ := Kd.R_slice HOq.out; subst eq; clear hb hoq; have hcz_g3_0 : (w_16).cell? ⟨g3, 0, none⟩ = some (.int .i64 r1) := (blk_cell BKg3.out 0).trans rfl; have hcz_g3_1 : (w_16).cell? ⟨g3, 1, none⟩ = some (.int .i64 r2) := (blk_cell BKg3.out 1).trans rfl; have hcz_g3_2 : (w_16).cell? ⟨g3, 2, none⟩ = some (.int .i64 r3) := (blk_cell BKg3.out 2).trans rfl; have hcz_g3_3 : (w_16).cell? ⟨g3, 3, none⟩ = some (.slice Aw4 r4.length cw4) := (blk_cell BKg3.out 3).trans rfl; have hcz_g3_4 : (w_16).cell? ⟨g3, 4, none⟩ = some (.slice Aw5 r5.length cw5) := (blk_cell BKg3.out 4).trans rfl; have hcz_g3_5 : (w_16).cell? ⟨g3, 5, none⟩ = some (.slice Aw6 r6.length cw6) := (blk_cell BKg3.out 5).trans rfl; have hfz_g3_0 := blk_frozen BKg3.out 0; have hfz_g3_1 := blk_frozen BKg3.out 1; have hfz_g3_2 := blk_frozen BKg3.out 2; have hfz_g3_3 := blk_frozen BKg3.out 3; have hfz_g3_4 := blk_frozen BKg3.out 4; have hfz_g3_5 := blk_frozen BKg3.out 5; have hcz_g5_0 : (w_16).cell? ⟨g5, 0, none⟩ = some (.int .i64 r1) := (blk_cell BKg5.out 0).trans rfl; have hcz_g5_1 : (w_16).cell? ⟨g5, 1, none⟩ = some (.int .i64 r2) := (blk_cell BKg5.out 1).trans rfl; have hcz_g5_2 : (w_16).cell? ⟨g5, 2, none⟩ = some (.int .i64 r3) := (blk_cell BKg5.out 2).trans rfl; have hcz_g5_3 : (w_16).cell? ⟨g5, 3, none⟩ = some (.slice Ag4 r4.length cg4) := (blk_cell BKg5.out 3).trans rfl; have hcz_g5_4 : (w_16).cell? ⟨g5, 4, none⟩ = some (.slice Ag5 r5.length cg5) := (blk_cell BKg5.out 4).trans rfl; have hcz_g5_5 : (w_16).cell? ⟨g5, 5, none⟩ = some (.slice Ag6 r6.length cg6) := (blk_cell BKg5.out 5).trans rfl; have hfz_g5_0 := blk_frozen BKg5.out 0; have hfz_g5_1 := blk_frozen BKg5.out 1; have hfz_g5_2 := blk_frozen BKg5.out 2; have hfz_g5_3 := blk_frozen BKg5.out 3; have hfz_g5_4 := blk_frozen BKg5.out 4; have hfz_g5_5 := blk_frozen BKg5.out 5) | ((with_reducible refine gate_callee (f := 68) rfl ?_); refine goesL_ (some 53) rfl rfl Try.func68 (by kernel_rfl) rfl #[.slice Aq l0.length cq] rfl (by (try simp only [List.map_toArray, List.map_cons, List.map_nil]); first | done | rfl) ?_; (with_reducible refine (impl_ReadParts.calls k (fun k_ => w_15.heap.size ≤ k_ ∧ k_ < w_16.heap.size) _ _ l0 r1 r2 r3 r4 r5 r6 _ ?side1 E3.out).mono ?_); (case side1 => exact Kd.V_mk (Kd.R_reads' HOq.out).2.1 (Kd.R_F HOq.out)); rintro e w_17 ⟨vh4, vh5, vh6, rfl, hoh4, hoh5, hoh6, hb⟩; refine ⟨_, rfl, ?_⟩; clear hcz_g3_0 hcz_g3_1 hcz_g3_2 hcz_g3_3 hcz_g3_4 hcz_g3_5 hfz_g3_0 hfz_g3_1 hfz_g3_2 hfz_g3_3 hfz_g3_4 hfz_g3_5 hcz_g5_0 hcz_g5_1 hcz_g5_2 hcz_g5_3 hcz_g5_4 hcz_g5_5 hfz_g5_0 hfz_g5_1 hfz_g5_2 hfz_g5_3 hfz_g5_4 hfz_g5_5; have n_HB := Aside0.mk (below_step HB.out hb); have SZw_17 := Aside0.mk hb.size; have n_HOx := Aside0.mk (Kd.R_below HOx.out hb); have n_HOw4 := Aside0.mk (Kd.R_below HOw4.out hb); have n_HOw5 := Aside0.mk (Kd.R_below HOw5.out hb); have n_HOw6 := Aside0.mk (Kd.S_below HOw6.out hb); have n_BKg3 := Aside0.mk (blk_below BKg3.out hb); have n_BKg5 := Aside0.mk (blk_below BKg5.out hb); have n_HOz := Aside0.mk (Kd.R_below HOz.out hb); have n_HOg4 := Aside0.mk (Kd.R_below HOg4.out hb); have n_HOg5 := Aside0.mk (Kd.R_below HOg5.out hb); have n_HOg6 := Aside0.mk (Kd.S_below HOg6.out hb); have n_HOq := Aside0.mk (Kd.R_below HOq.out hb); clear HB HOx HOw4 HOw5 HOw6 BKg3 BKg5 HOz HOg4 HOg5 HOg6 HOq; have HB := n_HB; have HOx := n_HOx; have HOw4 := n_HOw4; have HOw5 := n_HOw5; have HOw6 := n_HOw6; have BKg3 := n_BKg3; have BKg5 := n_BKg5; have HOz := n_HOz; have HOg4 := n_HOg4; have HOg5 := n_HOg5; have HOg6 := n_HOg6; have HOq := n_HOq; clear n_HB n_HOx n_HOw4 n_HOw5 n_HOw6 n_BKg3 n_BKg5 n_HOz n_HOg4 n_HOg5 n_HOg6 n_HOq; have HOh4 := Aside0.mk (show Kd.R Kd.bool 4 w_17 w.heap.size (fun k_ => w_16.heap.size ≤ k_ ∧ k_ < w_17.heap.size) vh4 r4 from Kd.R_lower (Kd.R_mono (Kd.R_bound hoh4) (fun k_ hk => ⟨hk.2.1, hk.2.2.1⟩)) (by have := SZw_1.out; have := SZw_2.out; have := SZw_4.out; have := SZw_5.out; have := SZw_6.out; have := SZw_8.out; have := SZw_9.out; have := SZw_10.out; have := SZw_11.out; have := SZw_12.out; have := SZw_13.out; have := SZw_14.out; have := SZw_15.out; have := SZw_16.out; have := SZw_17.out; omega)); obtain ⟨Ah4, ch4, eh4⟩ := Kd.R_slice HOh4.out; subst eh4; have HOh5 := Aside0.mk (show Kd.R (Kd.int .i64) 3 w_17 w.heap.size (fun k_ => w_16.heap.size ≤ k_ ∧ k_ < w_17.heap.size) vh5 r5 from Kd.R_lower (Kd.R_mono (Kd.R_bound hoh5) (fun k_ hk => ⟨hk.2.1, hk.2.2.1⟩)) (by have := SZw_1.out; have := SZw_2.out; have := SZw_4.out; have := SZw_5.out; have := SZw_6.out; have := SZw_8.out; have := SZw_9.out; have := SZw_10.out; have := SZw_11.out; have := SZw_12.out; have := SZw_13.out; have := SZw_14.out; have := SZw_15.out; have := SZw_16.out; have := SZw_17.out; omega)); obtain ⟨Ah5, ch5, eh5⟩ := Kd.R_slice HOh5.out; subst eh5; have HOh6 := Aside0.mk (show Kd.S (Kd.slice 5 (Kd.int .u8)) 51 w_17 w.heap.size (fun k_ => w_16.heap.size ≤ k_ ∧ k_ < w_17.heap.size) vh6 r6 from Kd.S_lower (Kd.S_mono (Kd.S_bound hoh6) (fun k_ hk => ⟨hk.2.1, hk.2.2.1⟩)) (by have := SZw_1.out; have := SZw_2.out; have := SZw_4.out; have := SZw_5.out; have := SZw_6.out; have := SZw_8.out; have := SZw_9.out; have := SZw_10.out; have := SZw_11.out; have := SZw_12.out; have := SZw_13.out; have := SZw_14.out; have := SZw_15.out; have := SZw_16.out; have := SZw_17.out; omega)); obtain ⟨Ah6, ch6, eh6⟩ := Kd.S_slice HOh6.out; subst eh6; clear hb hoh4 hoh5 hoh6; have hcz_g3_0 : (w_17).cell? ⟨g3, 0, none⟩ = some (.int .i64 r1) := (blk_cell BKg3.out 0).trans rfl; have hcz_g3_1 : (w_17).cell? ⟨g3, 1, none⟩ = some (.int .i64 r2) := (blk_cell BKg3.out 1).trans rfl; have hcz_g3_2 : (w_17).cell? ⟨g3, 2, none⟩ = some (.int .i64 r3) := (blk_cell BKg3.out 2).trans rfl; have hcz_g3_3 : (w_17).cell? ⟨g3, 3, none⟩ = some (.slice Aw4 r4.length cw4) := (blk_cell BKg3.out 3).trans rfl; have hcz_g3_4 : (w_17).cell? ⟨g3, 4, none⟩ = some (.slice Aw5 r5.length cw5) := (blk_cell BKg3.out 4).trans rfl; have hcz_g3_5 : (w_17).cell? ⟨g3, 5, none⟩ = some (.slice Aw6 r6.length cw6) := (blk_cell BKg3.out 5).trans rfl; have hfz_g3_0 := blk_frozen BKg3.out 0; have hfz_g3_1 := blk_frozen BKg3.out 1; have hfz_g3_2 := blk_frozen BKg3.out 2; have hfz_g3_3 := blk_frozen BKg3.out 3; have hfz_g3_4 := blk_frozen BKg3.out 4; have hfz_g3_5 := blk_frozen BKg3.out 5; have hcz_g5_0 : (w_17).cell? ⟨g5, 0, none⟩ = some (.int .i64 r1) := (blk_cell BKg5.out 0).trans rfl; have hcz_g5_1 : (w_17).cell? ⟨g5, 1, none⟩ = some (.int .i64 r2) := (blk_cell BKg5.out 1).trans rfl; have hcz_g5_2 : (w_17).cell? ⟨g5, 2, none⟩ = some (.int .i64 r3) := (blk_cell BKg5.out 2).trans rfl; have hcz_g5_3 : (w_17).cell? ⟨g5, 3, none⟩ = some (.slice Ag4 r4.length cg4) := (blk_cell BKg5.out 3).trans rfl; have hcz_g5_4 : (w_17).cell? ⟨g5, 4, none⟩ = some (.slice Ag5 r5.length cg5) := (blk_cell BKg5.out 4).trans rfl; have hcz_g5_5 : (w_17).cell? ⟨g5, 5, none⟩ = some (.slice Ag6 r6.length cg6) := (blk_cell BKg5.out 5).trans rfl; have hfz_g5_0 := blk_frozen BKg5.out 0; have hfz_g5_1 := blk_frozen BKg5.out 1; have hfz_g5_2 := blk_frozen BKg5.out 2; have hfz_g5_3 := blk_frozen BKg5.out 3; have hfz_g5_4 := blk_frozen BKg5.out 4; have hfz_g5_5 := blk_frozen BKg5.out 5) | ((with_reducible refine gate_dst (N := 9) rfl ?_); refine box_event ?hg (N := 9) ?hd (cs := #[.int .i64 0, .int .i64 0, .int .i64 0, .slice none 0 0, .slice none 0 0, .slice none 0 0]) (t := 94) ?hr ?_; (case hd => rfl); (case hg => rfl); (case hr => first | (go_simp; done) | (go_simp; rfl)); intro g9 hg w_18 hbox hb; have BKg9 := Aside0.mk hbox; have GLg9 := Aside0.mk (show w_17.heap.size ≤ g9 from Nat.le_of_eq hg.symm); have HV := Aside0.mk hb; clear hg hb hbox) | ((with_reducible refine gate_store (t := 94) (p := 9) (v := .tmp 53) rfl ?_); refine put_all rfl 94 (.tmp 9) (.tmp 53) rfl rfl g9 #[.int .i64 0, .int .i64 0, .int .i64 0, .slice none 0 0, .slice none 0 0, .slice none 0 0] 94 (.agg #[.int .i64 r1, .int .i64 r2, .int .i64 r3, .slice Ah4 r4.length ch4, .slice Ah5 r5.length ch5, .slice Ah6 r6.length ch6]) [.int .i64 r1, .int .i64 r2, .int .i64 r3, .slice Ah4 r4.length ch4, .slice Ah5 r5.length ch5, .slice Ah6 r6.length ch6] rfl rfl rfl (by simp [Value.oneCell']) (by kernel_rfl) BKg9.out rfl ?_; intro w_19 h1 hk hbb; have hb := hbb _ _ HV.out GLg9.out; clear hcz_g3_0 hcz_g3_1 hcz_g3_2 hcz_g3_3 hcz_g3_4 hcz_g3_5 hfz_g3_0 hfz_g3_1 hfz_g3_2 hfz_g3_3 hfz_g3_4 hfz_g3_5 hcz_g5_0 hcz_g5_1 hcz_g5_2 hcz_g5_3 hcz_g5_4 hcz_g5_5 hfz_g5_0 hfz_g5_1 hfz_g5_2 hfz_g5_3 hfz_g5_4 hfz_g5_5; have n_HB := Aside0.mk (below_step HB.out hb); have SZw_19 := Aside0.mk hb.size; have n_HOx := Aside0.mk (Kd.R_below HOx.out hb); have n_HOw4 := Aside0.mk (Kd.R_below HOw4.out hb); have n_HOw5 := Aside0.mk (Kd.R_below HOw5.out hb); have n_HOw6 := Aside0.mk (Kd.S_below HOw6.out hb); have n_BKg3 := Aside0.mk (blk_below BKg3.out hb); have n_BKg5 := Aside0.mk (blk_below BKg5.out hb); have n_HOz := Aside0.mk (Kd.R_below HOz.out hb); have n_HOg4 := Aside0.mk (Kd.R_below HOg4.out hb); have n_HOg5 := Aside0.mk (Kd.R_below HOg5.out hb); have n_HOg6 := Aside0.mk (Kd.S_below HOg6.out hb); have n_HOq := Aside0.mk (Kd.R_below HOq.out hb); have n_HOh4 := Aside0.mk (Kd.R_below HOh4.out hb); have n_HOh5 := Aside0.mk (Kd.R_below HOh5.out hb); have n_HOh6 := Aside0.mk (Kd.S_below HOh6.out hb); clear HB HOx HOw4 HOw5 HOw6 BKg3 BKg5 HOz HOg4 HOg5 HOg6 HOq HOh4 HOh5 HOh6; have HB := n_HB; have HOx := n_HOx; have HOw4 := n_HOw4; have HOw5 := n_HOw5; have HOw6 := n_HOw6; have BKg3 := n_BKg3; have BKg5 := n_BKg5; have HOz := n_HOz; have HOg4 := n_HOg4; have HOg5 := n_HOg5; have HOg6 := n_HOg6; have HOq := n_HOq; have HOh4 := n_HOh4; have HOh5 := n_HOh5; have HOh6 := n_HOh6; clear n_HB n_HOx n_HOw4 n_HOw5 n_HOw6 n_BKg3 n_BKg5 n_HOz n_HOg4 n_HOg5 n_HOg6 n_HOq n_HOh4 n_HOh5 n_HOh6; clear HV BKg9; have BKg9 := Aside0.mk (show w_19.heap[g9]? = some (.cells #[.int .i64 r1, .int .i64 r2, .int .i64 r3, .slice Ah4 r4.length ch4, .slice Ah5 r5.length ch5, .slice Ah6 r6.length ch6] 94 (0, 0)) from h1); have GHg9 := Aside0.mk (blk_lt h1); clear h1 hk hbb hb; have hcz_g3_0 : (w_19).cell? ⟨g3, 0, none⟩ = some (.int .i64 r1) := (blk_cell BKg3.out 0).trans rfl; have hcz_g3_1 : (w_19).cell? ⟨g3, 1, none⟩ = some (.int .i64 r2) := (blk_cell BKg3.out 1).trans rfl; have hcz_g3_2 : (w_19).cell? ⟨g3, 2, none⟩ = some (.int .i64 r3) := (blk_cell BKg3.out 2).trans rfl; have hcz_g3_3 : (w_19).cell? ⟨g3, 3, none⟩ = some (.slice Aw4 r4.length cw4) := (blk_cell BKg3.out 3).trans rfl; have hcz_g3_4 : (w_19).cell? ⟨g3, 4, none⟩ = some (.slice Aw5 r5.length cw5) := (blk_cell BKg3.out 4).trans rfl; have hcz_g3_5 : (w_19).cell? ⟨g3, 5, none⟩ = some (.slice Aw6 r6.length cw6) := (blk_cell BKg3.out 5).trans rfl; have hfz_g3_0 := blk_frozen BKg3.out 0; have hfz_g3_1 := blk_frozen BKg3.out 1; have hfz_g3_2 := blk_frozen BKg3.out 2; have hfz_g3_3 := blk_frozen BKg3.out 3; have hfz_g3_4 := blk_frozen BKg3.out 4; have hfz_g3_5 := blk_frozen BKg3.out 5; have hcz_g5_0 : (w_19).cell? ⟨g5, 0, none⟩ = some (.int .i64 r1) := (blk_cell BKg5.out 0).trans rfl; have hcz_g5_1 : (w_19).cell? ⟨g5, 1, none⟩ = some (.int .i64 r2) := (blk_cell BKg5.out 1).trans rfl; have hcz_g5_2 : (w_19).cell? ⟨g5, 2, none⟩ = some (.int .i64 r3) := (blk_cell BKg5.out 2).trans rfl; have hcz_g5_3 : (w_19).cell? ⟨g5, 3, none⟩ = some (.slice Ag4 r4.length cg4) := (blk_cell BKg5.out 3).trans rfl; have hcz_g5_4 : (w_19).cell? ⟨g5, 4, none⟩ = some (.slice Ag5 r5.length cg5) := (blk_cell BKg5.out 4).trans rfl; have hcz_g5_5 : (w_19).cell? ⟨g5, 5, none⟩ = some (.slice Ag6 r6.length cg6) := (blk_cell BKg5.out 5).trans rfl; have hfz_g5_0 := blk_frozen BKg5.out 0; have hfz_g5_1 := blk_frozen BKg5.out 1; have hfz_g5_2 := blk_frozen BKg5.out 2; have hfz_g5_3 := blk_frozen BKg5.out 3; have hfz_g5_4 := blk_frozen BKg5.out 4; have hfz_g5_5 := blk_frozen BKg5.out 5; have hcz_g9_0 : (w_19).cell? ⟨g9, 0, none⟩ = some (.int .i64 r1) := (blk_cell BKg9.out 0).trans rfl; have hcz_g9_1 : (w_19).cell? ⟨g9, 1, none⟩ = some (.int .i64 r2) := (blk_cell BKg9.out 1).trans rfl; have hcz_g9_2 : (w_19).cell? ⟨g9, 2, none⟩ = some (.int .i64 r3) := (blk_cell BKg9.out 2).trans rfl; have hcz_g9_3 : (w_19).cell? ⟨g9, 3, none⟩ = some (.slice Ah4 r4.length ch4) := (blk_cell BKg9.out 3).trans rfl; have hcz_g9_4 : (w_19).cell? ⟨g9, 4, none⟩ = some (.slice Ah5 r5.length ch5) := (blk_cell BKg9.out 4).trans rfl; have hcz_g9_5 : (w_19).cell? ⟨g9, 5, none⟩ = some (.slice Ah6 r6.length ch6) := (blk_cell BKg9.out 5).trans rfl; have hfz_g9_0 := blk_frozen BKg9.out 0; have hfz_g9_1 := blk_frozen BKg9.out 1; have hfz_g9_2 := blk_frozen BKg9.out 2; have hfz_g9_3 := blk_frozen BKg9.out 3; have hfz_g9_4 := blk_frozen BKg9.out 4; have hfz_g9_5 := blk_frozen BKg9.out 5))
  go_upto_region 25 with (first | ((with_reducible refine gate_callee (f := 69) rfl ?_); refine goesL_ (some 56) rfl rfl Try.func69 (by kernel_rfl) rfl #[.agg #[.int .i64 r1, .int .i64 r2, .int .i64 r3, .slice Ah4 r4.length ch4, .slice Ah5 r5.length ch5, .slice Ah6 r6.length ch6], .agg #[.int .i64 r1, .int .i64 r2, .int .i64 r3, .slice Aw4 r4.length cw4, .slice Aw5 r5.length cw5, .slice Aw6 r6.length cw6]] rfl (by (try simp only [List.map_toArray, List.map_cons, List.map_nil]); first | done | rfl) ?_; (with_reducible refine (laws_eqPiled.calls k r1 r2 r3 _ _ r4 _ _ r5 _ _ r6 r1 r2 r3 _ _ r4 _ _ r5 _ _ r6 true _ ?side1 ?side2 ?side3 ?side4 ?side5 ?side6 ?side7 ?side8 ?side9 ?side10 ?side11 ?side12 E4.out).mono ?_); (case side1 => exact (Kd.R_reads' HOh4.out).2.2); (case side2 => exact (Kd.R_reads' HOh4.out).2.1); (case side3 => exact (Kd.R_reads' HOh5.out).2.2); (case side4 => exact (Kd.R_reads' HOh5.out).2.1); (case side5 => exact (Kd.S_reads' HOh6.out).2.2); (case side6 => exact (Kd.S_reads' HOh6.out).2.1); (case side7 => exact (Kd.R_reads' HOw4.out).2.2); (case side8 => exact (Kd.R_reads' HOw4.out).2.1); (case side9 => exact (Kd.R_reads' HOw5.out).2.2); (case side10 => exact (Kd.R_reads' HOw5.out).2.1); (case side11 => exact (Kd.S_reads' HOw6.out).2.2); (case side12 => exact (Kd.S_reads' HOw6.out).2.1); rintro e w_20 ⟨rfl, hb⟩; refine ⟨_, rfl, ?_⟩; clear hcz_g3_0 hcz_g3_1 hcz_g3_2 hcz_g3_3 hcz_g3_4 hcz_g3_5 hfz_g3_0 hfz_g3_1 hfz_g3_2 hfz_g3_3 hfz_g3_4 hfz_g3_5 hcz_g5_0 hcz_g5_1 hcz_g5_2 hcz_g5_3 hcz_g5_4 hcz_g5_5 hfz_g5_0 hfz_g5_1 hfz_g5_2 hfz_g5_3 hfz_g5_4 hfz_g5_5 hcz_g9_0 hcz_g9_1 hcz_g9_2 hcz_g9_3 hcz_g9_4 hcz_g9_5 hfz_g9_0 hfz_g9_1 hfz_g9_2 hfz_g9_3 hfz_g9_4 hfz_g9_5; have n_HB := Aside0.mk (below_step HB.out hb); have SZw_20 := Aside0.mk hb.size; have n_HOx := Aside0.mk (Kd.R_below HOx.out hb); have n_HOw4 := Aside0.mk (Kd.R_below HOw4.out hb); have n_HOw5 := Aside0.mk (Kd.R_below HOw5.out hb); have n_HOw6 := Aside0.mk (Kd.S_below HOw6.out hb); have n_BKg3 := Aside0.mk (blk_below BKg3.out hb); have n_BKg5 := Aside0.mk (blk_below BKg5.out hb); have n_HOz := Aside0.mk (Kd.R_below HOz.out hb); have n_HOg4 := Aside0.mk (Kd.R_below HOg4.out hb); have n_HOg5 := Aside0.mk (Kd.R_below HOg5.out hb); have n_HOg6 := Aside0.mk (Kd.S_below HOg6.out hb); have n_HOq := Aside0.mk (Kd.R_below HOq.out hb); have n_HOh4 := Aside0.mk (Kd.R_below HOh4.out hb); have n_HOh5 := Aside0.mk (Kd.R_below HOh5.out hb); have n_HOh6 := Aside0.mk (Kd.S_below HOh6.out hb); have n_BKg9 := Aside0.mk (blk_below BKg9.out hb); clear HB HOx HOw4 HOw5 HOw6 BKg3 BKg5 HOz HOg4 HOg5 HOg6 HOq HOh4 HOh5 HOh6 BKg9; have HB := n_HB; have HOx := n_HOx; have HOw4 := n_HOw4; have HOw5 := n_HOw5; have HOw6 := n_HOw6; have BKg3 := n_BKg3; have BKg5 := n_BKg5; have HOz := n_HOz; have HOg4 := n_HOg4; have HOg5 := n_HOg5; have HOg6 := n_HOg6; have HOq := n_HOq; have HOh4 := n_HOh4; have HOh5 := n_HOh5; have HOh6 := n_HOh6; have BKg9 := n_BKg9; clear n_HB n_HOx n_HOw4 n_HOw5 n_HOw6 n_BKg3 n_BKg5 n_HOz n_HOg4 n_HOg5 n_HOg6 n_HOq n_HOh4 n_HOh5 n_HOh6 n_BKg9; clear hb; have hcz_g3_0 : (w_20).cell? ⟨g3, 0, none⟩ = some (.int .i64 r1) := (blk_cell BKg3.out 0).trans rfl; have hcz_g3_1 : (w_20).cell? ⟨g3, 1, none⟩ = some (.int .i64 r2) := (blk_cell BKg3.out 1).trans rfl; have hcz_g3_2 : (w_20).cell? ⟨g3, 2, none⟩ = some (.int .i64 r3) := (blk_cell BKg3.out 2).trans rfl; have hcz_g3_3 : (w_20).cell? ⟨g3, 3, none⟩ = some (.slice Aw4 r4.length cw4) := (blk_cell BKg3.out 3).trans rfl; have hcz_g3_4 : (w_20).cell? ⟨g3, 4, none⟩ = some (.slice Aw5 r5.length cw5) := (blk_cell BKg3.out 4).trans rfl; have hcz_g3_5 : (w_20).cell? ⟨g3, 5, none⟩ = some (.slice Aw6 r6.length cw6) := (blk_cell BKg3.out 5).trans rfl; have hfz_g3_0 := blk_frozen BKg3.out 0; have hfz_g3_1 := blk_frozen BKg3.out 1; have hfz_g3_2 := blk_frozen BKg3.out 2; have hfz_g3_3 := blk_frozen BKg3.out 3; have hfz_g3_4 := blk_frozen BKg3.out 4; have hfz_g3_5 := blk_frozen BKg3.out 5; have hcz_g5_0 : (w_20).cell? ⟨g5, 0, none⟩ = some (.int .i64 r1) := (blk_cell BKg5.out 0).trans rfl; have hcz_g5_1 : (w_20).cell? ⟨g5, 1, none⟩ = some (.int .i64 r2) := (blk_cell BKg5.out 1).trans rfl; have hcz_g5_2 : (w_20).cell? ⟨g5, 2, none⟩ = some (.int .i64 r3) := (blk_cell BKg5.out 2).trans rfl; have hcz_g5_3 : (w_20).cell? ⟨g5, 3, none⟩ = some (.slice Ag4 r4.length cg4) := (blk_cell BKg5.out 3).trans rfl; have hcz_g5_4 : (w_20).cell? ⟨g5, 4, none⟩ = some (.slice Ag5 r5.length cg5) := (blk_cell BKg5.out 4).trans rfl; have hcz_g5_5 : (w_20).cell? ⟨g5, 5, none⟩ = some (.slice Ag6 r6.length cg6) := (blk_cell BKg5.out 5).trans rfl; have hfz_g5_0 := blk_frozen BKg5.out 0; have hfz_g5_1 := blk_frozen BKg5.out 1; have hfz_g5_2 := blk_frozen BKg5.out 2; have hfz_g5_3 := blk_frozen BKg5.out 3; have hfz_g5_4 := blk_frozen BKg5.out 4; have hfz_g5_5 := blk_frozen BKg5.out 5; have hcz_g9_0 : (w_20).cell? ⟨g9, 0, none⟩ = some (.int .i64 r1) := (blk_cell BKg9.out 0).trans rfl; have hcz_g9_1 : (w_20).cell? ⟨g9, 1, none⟩ = some (.int .i64 r2) := (blk_cell BKg9.out 1).trans rfl; have hcz_g9_2 : (w_20).cell? ⟨g9, 2, none⟩ = some (.int .i64 r3) := (blk_cell BKg9.out 2).trans rfl; have hcz_g9_3 : (w_20).cell? ⟨g9, 3, none⟩ = some (.slice Ah4 r4.length ch4) := (blk_cell BKg9.out 3).trans rfl; have hcz_g9_4 : (w_20).cell? ⟨g9, 4, none⟩ = some (.slice Ah5 r5.length ch5) := (blk_cell BKg9.out 4).trans rfl; have hcz_g9_5 : (w_20).cell? ⟨g9, 5, none⟩ = some (.slice Ah6 r6.length ch6) := (blk_cell BKg9.out 5).trans rfl; have hfz_g9_0 := blk_frozen BKg9.out 0; have hfz_g9_1 := blk_frozen BKg9.out 1; have hfz_g9_2 := blk_frozen BKg9.out 2; have hfz_g9_3 := blk_frozen BKg9.out 3; have hfz_g9_4 := blk_frozen BKg9.out 4; have hfz_g9_5 := blk_frozen BKg9.out 5))
  go_wp2_with (first | ((with_reducible refine gate_callee (f := 71) rfl ?_); refine goesL_ (some 60) rfl rfl Try.func71 (by kernel_rfl) rfl #[.agg #[.int .i64 r1, .int .i64 r2, .int .i64 r3, .slice Ag4 r4'.length cg4, .slice Ag5 r5'.length cg5, .slice Ag6 r6'.length cg6], .int .i64 1] rfl (by (try simp only [List.map_toArray, List.map_cons, List.map_nil]); first | done | rfl | (rw [show r4'.length = r4.length from (Kd.R_reads' HOg4.out).1.symm, show r5'.length = r5.length from (Kd.R_reads' HOg5.out).1.symm, show r6'.length = r6.length from (Kd.S_reads' HOg6.out).1.symm] <;> rfl)) ?_; (with_reducible refine (laws_heldPiled.calls k r1 r2 r3 _ _ r4' _ _ r5' _ _ r6' 1 m _ ?side1 ?side2 ?side3 ?side4 ?side5 ?side6 E8.out).mono ?_); (case side1 => exact (Kd.R_reads' HOg4.out).2.2); (case side2 => exact Nat.le_trans (Nat.le_of_eq (Kd.R_reads' HOg4.out).1.symm) (Kd.R_reads' HOg4.out).2.1); (case side3 => exact (Kd.R_reads' HOg5.out).2.2); (case side4 => exact Nat.le_trans (Nat.le_of_eq (Kd.R_reads' HOg5.out).1.symm) (Kd.R_reads' HOg5.out).2.1); (case side5 => exact (Kd.S_reads' HOg6.out).2.2); (case side6 => exact Nat.le_trans (Nat.le_of_eq (Kd.S_reads' HOg6.out).1.symm) (Kd.S_reads' HOg6.out).2.1); rintro e w_21 ⟨rfl, hb⟩; refine ⟨_, rfl, ?_⟩; clear hcz_g3_0 hcz_g3_1 hcz_g3_2 hcz_g3_3 hcz_g3_4 hcz_g3_5 hfz_g3_0 hfz_g3_1 hfz_g3_2 hfz_g3_3 hfz_g3_4 hfz_g3_5 hcz_g5_0 hcz_g5_1 hcz_g5_2 hcz_g5_3 hcz_g5_4 hcz_g5_5 hfz_g5_0 hfz_g5_1 hfz_g5_2 hfz_g5_3 hfz_g5_4 hfz_g5_5 hcz_g9_0 hcz_g9_1 hcz_g9_2 hcz_g9_3 hcz_g9_4 hcz_g9_5 hfz_g9_0 hfz_g9_1 hfz_g9_2 hfz_g9_3 hfz_g9_4 hfz_g9_5; have n_HB := Aside0.mk (below_step HB.out hb); have SZw_21 := Aside0.mk hb.size; have n_HOx := Aside0.mk (Kd.R_below HOx.out hb); have n_HOw4 := Aside0.mk (Kd.R_below HOw4.out hb); have n_HOw5 := Aside0.mk (Kd.R_below HOw5.out hb); have n_HOw6 := Aside0.mk (Kd.S_below HOw6.out hb); have n_BKg3 := Aside0.mk (blk_below BKg3.out hb); have n_BKg5 := Aside0.mk (blk_below BKg5.out hb); have n_HOz := Aside0.mk (Kd.R_below HOz.out hb); have n_HOg4 := Aside0.mk (Kd.R_below HOg4.out hb); have n_HOg5 := Aside0.mk (Kd.R_below HOg5.out hb); have n_HOg6 := Aside0.mk (Kd.S_below HOg6.out hb); have n_HOq := Aside0.mk (Kd.R_below HOq.out hb); have n_HOh4 := Aside0.mk (Kd.R_below HOh4.out hb); have n_HOh5 := Aside0.mk (Kd.R_below HOh5.out hb); have n_HOh6 := Aside0.mk (Kd.S_below HOh6.out hb); have n_BKg9 := Aside0.mk (blk_below BKg9.out hb); clear HB HOx HOw4 HOw5 HOw6 BKg3 BKg5 HOz HOg4 HOg5 HOg6 HOq HOh4 HOh5 HOh6 BKg9; have HB := n_HB; have HOx := n_HOx; have HOw4 := n_HOw4; have HOw5 := n_HOw5; have HOw6 := n_HOw6; have BKg3 := n_BKg3; have BKg5 := n_BKg5; have HOz := n_HOz; have HOg4 := n_HOg4; have HOg5 := n_HOg5; have HOg6 := n_HOg6; have HOq := n_HOq; have HOh4 := n_HOh4; have HOh5 := n_HOh5; have HOh6 := n_HOh6; have BKg9 := n_BKg9; clear n_HB n_HOx n_HOw4 n_HOw5 n_HOw6 n_BKg3 n_BKg5 n_HOz n_HOg4 n_HOg5 n_HOg6 n_HOq n_HOh4 n_HOh5 n_HOh6 n_BKg9; clear hb; have hcz_g3_0 : (w_21).cell? ⟨g3, 0, none⟩ = some (.int .i64 r1) := (blk_cell BKg3.out 0).trans rfl; have hcz_g3_1 : (w_21).cell? ⟨g3, 1, none⟩ = some (.int .i64 r2) := (blk_cell BKg3.out 1).trans rfl; have hcz_g3_2 : (w_21).cell? ⟨g3, 2, none⟩ = some (.int .i64 r3) := (blk_cell BKg3.out 2).trans rfl; have hcz_g3_3 : (w_21).cell? ⟨g3, 3, none⟩ = some (.slice Aw4 r4.length cw4) := (blk_cell BKg3.out 3).trans rfl; have hcz_g3_4 : (w_21).cell? ⟨g3, 4, none⟩ = some (.slice Aw5 r5.length cw5) := (blk_cell BKg3.out 4).trans rfl; have hcz_g3_5 : (w_21).cell? ⟨g3, 5, none⟩ = some (.slice Aw6 r6.length cw6) := (blk_cell BKg3.out 5).trans rfl; have hfz_g3_0 := blk_frozen BKg3.out 0; have hfz_g3_1 := blk_frozen BKg3.out 1; have hfz_g3_2 := blk_frozen BKg3.out 2; have hfz_g3_3 := blk_frozen BKg3.out 3; have hfz_g3_4 := blk_frozen BKg3.out 4; have hfz_g3_5 := blk_frozen BKg3.out 5; have hcz_g5_0 : (w_21).cell? ⟨g5, 0, none⟩ = some (.int .i64 r1) := (blk_cell BKg5.out 0).trans rfl; have hcz_g5_1 : (w_21).cell? ⟨g5, 1, none⟩ = some (.int .i64 r2) := (blk_cell BKg5.out 1).trans rfl; have hcz_g5_2 : (w_21).cell? ⟨g5, 2, none⟩ = some (.int .i64 r3) := (blk_cell BKg5.out 2).trans rfl; have hcz_g5_3 : (w_21).cell? ⟨g5, 3, none⟩ = some (.slice Ag4 r4.length cg4) := (blk_cell BKg5.out 3).trans rfl; have hcz_g5_4 : (w_21).cell? ⟨g5, 4, none⟩ = some (.slice Ag5 r5.length cg5) := (blk_cell BKg5.out 4).trans rfl; have hcz_g5_5 : (w_21).cell? ⟨g5, 5, none⟩ = some (.slice Ag6 r6.length cg6) := (blk_cell BKg5.out 5).trans rfl; have hfz_g5_0 := blk_frozen BKg5.out 0; have hfz_g5_1 := blk_frozen BKg5.out 1; have hfz_g5_2 := blk_frozen BKg5.out 2; have hfz_g5_3 := blk_frozen BKg5.out 3; have hfz_g5_4 := blk_frozen BKg5.out 4; have hfz_g5_5 := blk_frozen BKg5.out 5; have hcz_g9_0 : (w_21).cell? ⟨g9, 0, none⟩ = some (.int .i64 r1) := (blk_cell BKg9.out 0).trans rfl; have hcz_g9_1 : (w_21).cell? ⟨g9, 1, none⟩ = some (.int .i64 r2) := (blk_cell BKg9.out 1).trans rfl; have hcz_g9_2 : (w_21).cell? ⟨g9, 2, none⟩ = some (.int .i64 r3) := (blk_cell BKg9.out 2).trans rfl; have hcz_g9_3 : (w_21).cell? ⟨g9, 3, none⟩ = some (.slice Ah4 r4.length ch4) := (blk_cell BKg9.out 3).trans rfl; have hcz_g9_4 : (w_21).cell? ⟨g9, 4, none⟩ = some (.slice Ah5 r5.length ch5) := (blk_cell BKg9.out 4).trans rfl; have hcz_g9_5 : (w_21).cell? ⟨g9, 5, none⟩ = some (.slice Ah6 r6.length ch6) := (blk_cell BKg9.out 5).trans rfl; have hfz_g9_0 := blk_frozen BKg9.out 0; have hfz_g9_1 := blk_frozen BKg9.out 1; have hfz_g9_2 := blk_frozen BKg9.out 2; have hfz_g9_3 := blk_frozen BKg9.out 3; have hfz_g9_4 := blk_frozen BKg9.out 4; have hfz_g9_5 := blk_frozen BKg9.out 5))
  go_ret
  exact ⟨rfl, HB.out⟩
theorem laws_FnExactReadParts.walk (P : laws_FnExactReadParts.Pure) (a0 : Option Addr) (len0 cap0 : Nat) (z0 : List Int) (w : World) (w0 : (a0 = none ∧ len0 = 0 ∧ cap0 = 0 ∧ z0 = []) ∨ ∃ x, a0 = some x ∧ len0 ≤ cap0 ∧ cap0 ≤ maxLen ∧ z0.length = cap0 ∧ (∀ i, i < z0.length → w.cell? (x.add i) = some (.int .u8 (z0.getD i 0))) ∧ ∀ n ∈ z0, (Lit.int .u8 n).wf = true) (y0 : len0 * 1 ≤ 140737488351232) :
    Calls Try.prog 11 #[.slice a0 len0 cap0] w fun e w' => e = .returned (.bool true) ∧ Below w.heap.size w w' := by
  obtain ⟨l0, rfl, hr0, hm0, hw0, hc0⟩ := ReadsInt.ofRowC w0
  exact laws_FnExactReadParts.core _ _ l0 (P l0 hm0 y0 hw0) w (Kd.C_of_reads (d := (0 : Int)) (h1 := fun _ => rfl) hr0) hc0

end Go.Proofs.Ytidblealnaicpaa.PFnExactReadParts

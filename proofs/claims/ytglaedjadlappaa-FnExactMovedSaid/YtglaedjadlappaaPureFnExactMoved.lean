/- The square of a moved picture, as the program and the form compute it. -/
import Derived.Test.YtglaedjadlappaaPFnExactMovedx0
import Derived.Test.YtglaedjadlappaaPFnExactMovedx1
import Derived.Test.YtglaedjadlappaaPFnExactMovedx2
import Derived.Test.YtglaedjadlappaaPFnExactMovedx3
import Derived.Test.YtglaedjadlappaaPFnExactMovedx4
import Derived.Test.YtglaedjadlappaaPFnExactMovedx5
import Derived.Test.YtglaedjadlappaaPFnExactMovedx6
import Derived.Test.YtglaedjadlappaaK
import Derived.Laws.Bits64b
namespace Go.Proofs.Ytglaedjadlappaa.Pure
open Go.RowKit Go.Proofs.Ytglaedjadlappaa.PFnExactMoved Go.Proofs.Ytglaedjadlappaa.K Go.Proofs.YtglaedjadlappaaW.PrintWords Go.Proofs.YtglaedjadlappaaW.PrintLast Go.Proofs.YtglaedjadlappaaW.PrintMore

theorem rdT29 (l : List S29) (i : Nat) : rd_T29 l (i : Int) = l.getD i z29 := by simp [rd_T29]
theorem rdT24 (l : List S24) (i : Nat) : rd_T24 l (i : Int) = l.getD i z24 := by simp [rd_T24]
theorem rdL1n (l : List (List Int)) (i : Nat) : rd_L1 l (i : Int) = l.getD i ([] : List Int) := by simp [rd_L1]
theorem toIntS (l : List Int) (hl : l.length ≤ 1048576) : Ev (fun k => laws_toIntS.f k l) l := by
  refine evpos (by omega) (evpos (by omega) ?_)
  have := down (n := l.length) (P := fun i => Ev (fun k => laws_toIntS.l0 k l (fl 0 l.length (fun j => l.getD j 0) i) (i : Int)) l) ?_ ?_
  · rw [fl_zero] at this; exact this
  · refine Ev.step (fun k => rfl) (evneg (by omega) ?_)
    rw [fl_all]
    have e := map_range_get l 0 id
    try simp only [id_eq, List.map_id_fun] at e
    rw [e]; exact Ev.now _
  · intro i hi h
    refine Ev.step (fun k => rfl) (evpos (by omega) (evpos (by omega) (evpos (by rw [fl_len]; omega) ?_)))
    rw [w64s (by omega), rd_nat, getD_lt hi, Int.toNat_natCast]
    rw [← fl_set, getD_lt hi] at h
    exact h
theorem eqIntS (l : List Int) (hl : l.length ≤ 4611686018427387904) : Ev (fun k => laws_eqIntS.f k l l) true := by
  refine evpos rfl ?_
  refine down (n := l.length) (P := fun i => Ev (fun k => laws_eqIntS.l0 k l l (i : Int)) true) ?_ ?_
  · exact Ev.step (fun k => rfl) (evneg (by omega) (Ev.now _))
  · intro i hi h
    refine Ev.step (fun k => rfl) (evpos (by omega) (evpos (by omega) (evpos (by omega) (evpos rfl ?_))))
    rw [w64s (by omega)]; exact h
theorem szIntS (l : List Int) (a : Int) (hl : l.length ≤ maxLen) (h0 : 0 ≤ a) (h1 : a ≤ 1048576) : laws_szIntS.f l a = some (if a < l.length then -1 else a - l.length) := by
  unfold maxLen at hl
  unfold laws_szIntS.f
  rw [w64 (by omega) (by omega)]
  split <;> split <;> first | rfl | omega
theorem mhIntS (l : List Int) (a : Int) (h0 : 0 ≤ a) (h1 : a + l.length ≤ 4611686018427387904) : ∃ l' : List Int, Ev (fun k => laws_markIntS.f k l a) (a + l.length, l') ∧ Ev (fun k => laws_heldIntS.f k l' a) (a + l.length) ∧ l'.length = l.length := by
  refine ⟨(List.range l.length).map (fun (j : Nat) => a + (j : Int)), ?_, ?_, by simp⟩
  · have := down (n := l.length) (P := fun i => Ev (fun k => laws_markIntS.l0 k (f2 l.length (fun (j : Nat) => a + (j : Int)) (fun j => l.getD j 0) i) (a + (i : Int)) (i : Int)) (a + l.length, (List.range l.length).map (fun (j : Nat) => a + (j : Int)))) ?_ ?_
    · rw [f2_zero] at this; rw [show a + ((0 : Nat) : Int) = a by omega] at this; exact this
    · refine Ev.step (fun k => rfl) (evneg (by rw [f2_len]; omega) ?_)
      rw [f2_all]; exact Ev.now _
    · intro i hi h
      refine Ev.step (fun k => rfl) (evpos (by rw [f2_len]; omega) (evpos (by omega) ?_))
      rw [w64s (by omega), w64 (by omega) (by omega), Int.toNat_natCast, show a + (i : Int) + 1 = a + ((i + 1 : Nat) : Int) by omega]
      rw [← f2_set] at h
      exact h
  · have := down (n := l.length) (P := fun i => Ev (fun k => laws_heldIntS.l0 k ((List.range l.length).map (fun (j : Nat) => a + (j : Int))) (a + (i : Int)) (i : Int)) (a + l.length)) ?_ ?_
    · rw [show a + ((0 : Nat) : Int) = a by omega] at this; exact this
    · exact Ev.step (fun k => rfl) (evneg (by simp) (Ev.now _))
    · intro i hi h
      refine Ev.step (fun k => rfl) (evpos (by simpa using hi) (evpos (by omega) (evpos (by rw [rd_nat, range_getD _ _ _ _ hi]) ?_)))
      rw [w64s (by omega), w64 (by omega) (by omega), show a + (i : Int) + 1 = a + ((i + 1 : Nat) : Int) by omega]
      exact h
theorem szPlane (a0_0 : Int) (a0_1 : Int) (l0_2 : List Int) (a : Int) (hl0_2 : l0_2.length ≤ maxLen) (h0 : 0 ≤ a) (h1 : a ≤ 1048576) : ∃ r, Ev (fun _ => laws_szPlane.f a0_0 a0_1 l0_2 a) r ∧ r ≤ a ∧ (0 ≤ r → l0_2.length ≤ 1048576) := by
  have e0 := szIntS l0_2 a hl0_2 (by omega) (by omega)
  by_cases c0 : a < (l0_2.length : Int)
  · rw [if_pos c0] at e0
    exact ⟨-1, evlet e0 (evpos (by omega) (Ev.now _)), by omega, by omega⟩
  rw [if_neg c0] at e0
  exact ⟨(a - l0_2.length), evlet e0 (evneg (by omega) (Ev.now _)), by omega, fun _ => by omega⟩
theorem toPlane (a0_0 : Int) (a0_1 : Int) (l0_2 : List Int) (hl0_2 : l0_2.length ≤ 1048576) : Ev (fun k => laws_toPlane.f k a0_0 a0_1 l0_2) (a0_0, a0_1, l0_2) :=
  Ev.bind (toIntS l0_2 hl0_2) (Ev.now _)
theorem eqPlane (a0_0 : Int) (a0_1 : Int) (l0_2 : List Int) (hl0_2 : l0_2.length ≤ 4611686018427387904) : Ev (fun k => laws_eqPlane.f k a0_0 a0_1 l0_2 a0_0 a0_1 l0_2) true :=
  evpos rfl (evpos rfl (Ev.bind (eqIntS l0_2 hl0_2) (evpos rfl (Ev.now _))))
theorem pokB_of {W H : Int} {l : List Int} (a : 1 ≤ W ∧ W ≤ 512) (b : 1 ≤ H ∧ H ≤ 512) (c : (l.length : Int) = W * H) (d : ∀ j : Nat, j < l.length → 0 ≤ rd l (j : Int) ∧ rd l (j : Int) ≤ 255) : pokB W H l = true := by
  unfold pokB
  rw [Bool.and_eq_true]
  refine ⟨decide_eq_true ⟨a.1, a.2, b.1, b.2, c⟩, List.all_eq_true.2 fun v hv => decide_eq_true ?_⟩
  obtain ⟨j, hj, rfl⟩ := List.getElem_of_mem hv
  have := d j hj
  unfold rd at this
  rw [Int.toNat_natCast, List.getD_eq_getElem?_getD, List.getElem?_eq_getElem hj] at this
  exact this
theorem plane_both (W H : Int) (S : List Int) (hS : S.length ≤ 1048576) : ∃ q : Bool, Ev (fun k => spec_GoodPlane.f k W H S) q ∧ Ev (fun k => impl_GoodPlane.f k W H S) q ∧ (q = true → PlaneOk W H S ∧ pokB W H S = true) := by
  have sp : spec_l7Sides.f W H = some (decide (((1 ≤ W ∧ W ≤ 512) ∧ 1 ≤ H ∧ H ≤ 512) ∧ wrap64 (W * H) ≤ 4096)) := by
    have g : spec_l4Sides.f W H = some (decide ((1 ≤ W ∧ W ≤ 512) ∧ 1 ≤ H ∧ H ≤ 512)) := by
      unfold spec_l4Sides.f
      repeat' split
      all_goals first | (rw [decide_eq_false (by omega)]; done) | exact congrArg some (decide_eq_decide.2 (by omega))
    unfold spec_l7Sides.f
    rw [g, Option.bind_some]
    by_cases c : (1 ≤ W ∧ W ≤ 512) ∧ 1 ≤ H ∧ H ≤ 512
    · rw [decide_eq_true c, if_pos rfl]
      exact congrArg some (decide_eq_decide.2 (by omega))
    · rw [decide_eq_false c, if_neg (by simp), decide_eq_false (by omega)]
  have im : impl_goodSides.f W H = some (decide (((1 ≤ W ∧ W ≤ 512) ∧ 1 ≤ H ∧ H ≤ 512) ∧ wrap64 (W * H) ≤ 4096)) := by
    have g : ∀ a, impl_goodSide.f a = some (decide (1 ≤ a ∧ a ≤ 512)) := by
      intro a
      unfold impl_goodSide.f
      split
      · exact congrArg some (decide_eq_decide.2 (by omega))
      · rw [decide_eq_false (by omega)]
    unfold impl_goodSides.f
    rw [g, g, Option.bind_some, Option.bind_some]
    by_cases c1 : 1 ≤ W ∧ W ≤ 512
    · rw [decide_eq_true c1, if_pos rfl]
      by_cases c2 : 1 ≤ H ∧ H ≤ 512
      · rw [decide_eq_true c2, if_pos rfl]
        exact congrArg some (decide_eq_decide.2 (by omega))
      · rw [decide_eq_false c2, if_neg (by simp), decide_eq_false (by omega)]
    · rw [decide_eq_false c1, if_neg (by simp), decide_eq_false (by omega)]
  have st : Ev (fun k => spec_GoodPlane.j0 k true W H S) false := Ev.step (f := fun _ => some false) (fun k => by simp only [spec_GoodPlane.j0, if_true]) (Ev.now _)
  by_cases c : ((1 ≤ W ∧ W ≤ 512) ∧ 1 ≤ H ∧ H ≤ 512) ∧ wrap64 (W * H) ≤ 4096
  case neg =>
    rw [decide_eq_false c] at sp im
    exact ⟨false, evlet sp (evneg (by simp) st), evlet im (evneg (by simp) (Ev.now _)), fun h => (by cases h)⟩
  rw [decide_eq_true c] at sp im
  have wm : wrap64 (W * H) = W * H := by
    have := Int.mul_le_mul c.1.1.2 c.1.2.2 (by omega) (by omega)
    have := Int.mul_nonneg (show 0 ≤ W by omega) (show 0 ≤ H by omega)
    exact w64 (by omega) (by omega)
  by_cases e : (S.length : Int) = wrap64 (W * H)
  case neg =>
    refine ⟨false, evlet sp (evpos rfl ?_), evlet im (evpos rfl (evneg e (Ev.now _))), fun h => (by cases h)⟩
    rw [bne_iff_ne.mpr e]; exact st
  have main := down (n := S.length) (P := fun i => ∃ q : Bool, Ev (fun k => spec_GoodPlane.l0 k S (S.length : Int) (i : Int)) q ∧ Ev (fun k => impl_inRange.l0 k 255 S (S.length : Int) (i : Int)) q ∧ (q = true → ∀ j : Nat, i ≤ j → j < S.length → 0 ≤ rd S (j : Int) ∧ rd S (j : Int) ≤ 255)) ?_ ?_
  · obtain ⟨q, g1, g2, g3⟩ := main
    refine ⟨q, evlet sp (evpos rfl ?_), evlet im (evpos rfl (evpos e (Ev.bind g2 (Ev.now _)))), fun hq => have hk := pokB_of c.1.1 c.1.2 (by rw [e, wm]) (fun j hj => g3 hq j (Nat.zero_le _) hj); ⟨pokB_ok hk, hk⟩⟩
    rw [bne_eq_false_iff_eq.mpr e]
    exact Ev.step (f := fun k => spec_GoodPlane.l0 k S (S.length : Int) 0) (fun k => by simp only [spec_GoodPlane.j0, Bool.false_eq_true, if_false]) g1
  · exact ⟨true, Ev.step (fun k => rfl) (evneg (by omega) (Ev.now _)), Ev.step (fun k => rfl) (evneg (by omega) (Ev.now _)), fun _ j h1 h2 => absurd h2 (by omega)⟩
  · intro i hi ⟨b, h1, h2, h3⟩
    by_cases c1 : rd S (i : Int) < 0
    · exact ⟨false, Ev.step (fun k => rfl) (evpos (by omega) (evpos (by omega) (evpos (by omega) (evpos c1 (Ev.now _))))), Ev.step (fun k => rfl) (evpos (by omega) (evpos (by omega) (evpos (by omega) (evpos c1 (Ev.now _))))), fun h => (by cases h)⟩
    by_cases c2 : rd S (i : Int) > 255
    · exact ⟨false, Ev.step (fun k => rfl) (evpos (by omega) (evpos (by omega) (evpos (by omega) (evneg c1 (evpos c2 (Ev.now _)))))), Ev.step (fun k => rfl) (evpos (by omega) (evpos (by omega) (evpos (by omega) (evneg c1 (evpos c2 (Ev.now _)))))), fun h => (by cases h)⟩
    refine ⟨b, Ev.step (fun k => rfl) (evpos (by omega) (evpos (by omega) (evpos (by omega) (evneg c1 (evneg c2 ?_))))), Ev.step (fun k => rfl) (evpos (by omega) (evpos (by omega) (evpos (by omega) (evneg c1 (evneg c2 ?_))))), fun hb j j1 j2 => ?_⟩
    · rw [w64s (by omega)]; exact h1
    · rw [w64s (by omega)]; exact h2
    · rcases Nat.lt_or_ge i j with c | c
      · exact h3 hb j (by omega) j2
      · rw [show j = i by omega]; omega
theorem cl_if (v n : Int) (h : 1 ≤ n) : cl_ v n = if v < 0 then 0 else if v ≥ n then n - 1 else v := by
  unfold cl_ mn mx
  (repeat' split) <;> omega
theorem and3 (x : Int) : 0 ≤ Go.bits .and .i64 x 3 ∧ Go.bits .and .i64 x 3 ≤ 3 := by
  have e : Go.bits .and .i64 x 3 = IntKind.i64.wrap ((BitVec.ofInt 64 x &&& BitVec.ofInt 64 3).toNat : Int) := rfl
  have h : (BitVec.ofInt 64 x &&& BitVec.ofInt 64 3).toNat ≤ 3 := by
    rw [BitVec.toNat_and]; exact Nat.and_le_right
  rw [e, i64_w, w64 (by omega) (by omega)]
  omega
theorem at_s {W H : Int} {l : List Int} (ho : PlaneOk W H l) (x y : Int) : Ev (fun k => spec_l7At.f k W H l x y) (smp W H l x y) := by
  obtain ⟨s0, s1, s2, s3⟩ := smp_in ho x y
  obtain ⟨w1, w2⟩ := ho.w
  obtain ⟨h1, h2⟩ := ho.h
  obtain ⟨b0, b1⟩ := cl_in x W w1
  unfold smp
  have two : ∀ z : Int, z = cl_ y H → Ev (fun _ : Nat => if 0 ≤ wrap64 (wrap64 (z * W) + cl_ x W) then (if wrap64 (wrap64 (z * W) + cl_ x W) < (l.length : Int) then some (rd l (wrap64 (wrap64 (z * W) + cl_ x W))) else none) else none) (rd l (cl_ y H * W + cl_ x W)) := by
    rintro z rfl
    rw [w64 (n := cl_ y H * W) (by omega) (by omega), w64 (by omega) (by omega)]
    exact evpos s0 (evpos s1 (Ev.now _))
  have one : ∀ z : Int, z = cl_ x W → Ev (fun k => spec_l7At.j1 k z y W H l) (rd l (cl_ y H * W + cl_ x W)) := by
    rintro z rfl
    have e := cl_if y H h1
    refine Ev.step (fun k => rfl) ?_
    by_cases c : y < 0
    · rw [if_pos c] at e
      exact evpos c (evneg (by omega) (two 0 e.symm))
    rw [if_neg c] at e
    by_cases c2 : y ≥ H
    · rw [if_pos c2] at e
      refine evneg c (evpos c2 (two _ ?_))
      rw [e, w64 (by omega) (by omega)]
    · rw [if_neg c2] at e
      exact evneg c (evneg c2 (two _ e.symm))
  have e := cl_if x W w1
  by_cases c : x < 0
  · rw [if_pos c] at e
    refine evpos c (Ev.step (fun k => rfl) (evneg (by omega) (one _ e.symm)))
  rw [if_neg c] at e
  by_cases c2 : x ≥ W
  · rw [if_pos c2] at e
    refine evneg c (Ev.step (fun k => rfl) (evpos c2 (one _ ?_)))
    rw [e, w64 (by omega) (by omega)]
  · rw [if_neg c2] at e
    exact evneg c (Ev.step (fun k => rfl) (evneg c2 (one _ e.symm)))
theorem clip_s (a : Int) : spec_l7Clip.f a = some (cl_ a 256) := by
  rw [cl_if a 256 (by omega)]
  unfold spec_l7Clip.f
  (repeat' split) <;> first | rfl | omega
theorem half_s (v : List Int) (a : Nat) (g : Int → Int) (h2 : 2 ≤ a) (hl : a + 3 < v.length) (hl2 : v.length ≤ 4096) (hv : ∀ e : Int, -2 ≤ e → e ≤ 3 → rd v ((a : Int) + e) = g e) (hg : ∀ e, 0 ≤ g e ∧ g e ≤ 255) : spec_l13Half.f v (a : Int) = some (half_ g) := by
  have m2 := hv (-2) (by omega) (by omega)
  have m1 := hv (-1) (by omega) (by omega)
  have m0 := hv 0 (by omega) (by omega)
  have p1 := hv 1 (by omega) (by omega)
  have p2 := hv 2 (by omega) (by omega)
  have p3 := hv 3 (by omega) (by omega)
  rw [Int.add_zero] at m0
  have g0 := hg (-2)
  have g1 := hg (-1)
  have g2 := hg 0
  have g3 := hg 1
  have g4 := hg 2
  have g5 := hg 3
  unfold spec_l13Half.f
  rw [w64 (n := (a : Int) - 2) (by omega) (by omega), w64 (n := (a : Int) - 1) (by omega) (by omega), w64 (n := (a : Int) + 1) (by omega) (by omega), w64 (n := (a : Int) + 2) (by omega) (by omega), w64 (n := (a : Int) + 3) (by omega) (by omega)]
  rw [if_pos (by omega), if_pos (by omega), if_pos (by omega), if_pos (by omega), if_pos (by omega), if_pos (by omega), if_pos (by omega), if_pos (by omega), if_pos (by omega), if_pos (by omega), if_pos (by omega), if_pos (by omega)]
  rw [show (a : Int) - 2 = (a : Int) + (-2) by omega, show (a : Int) - 1 = (a : Int) + (-1) by omega, m2, m1, m0, p1, p2, p3]
  unfold half_
  generalize g (-2) = x0 at *
  generalize g (-1) = x1 at *
  generalize g 0 = x2 at *
  generalize g 1 = x3 at *
  generalize g 2 = x4 at *
  generalize g 3 = x5 at *
  rw [w64 (n := 5 * x1) (by omega) (by omega), w64 (n := 20 * x2) (by omega) (by omega), w64 (n := 20 * x3) (by omega) (by omega), w64 (n := 5 * x4) (by omega) (by omega)]
  rw [w64 (n := x0 - 5 * x1) (by omega) (by omega), w64 (n := x0 - 5 * x1 + 20 * x2) (by omega) (by omega), w64 (n := x0 - 5 * x1 + 20 * x2 + 20 * x3) (by omega) (by omega), w64 (n := x0 - 5 * x1 + 20 * x2 + 20 * x3 - 5 * x4) (by omega) (by omega), w64 (n := x0 - 5 * x1 + 20 * x2 + 20 * x3 - 5 * x4 + x5) (by omega) (by omega), w64 (n := x0 - 5 * x1 + 20 * x2 + 20 * x3 - 5 * x4 + x5 + 16) (by omega) (by omega)]
  rw [clip_s, Option.bind_some]
theorem quarter_s (v : List Int) (a : Nat) (f : Int) (g : Int → Int) (h2 : 2 ≤ a) (hl : a + 3 < v.length) (hl2 : v.length ≤ 4096) (f0 : 0 ≤ f) (f3 : f ≤ 3) (hv : ∀ e : Int, -2 ≤ e → e ≤ 3 → rd v ((a : Int) + e) = g e) (hg : ∀ e, 0 ≤ g e ∧ g e ≤ 255) : spec_l13Quarter.f v (a : Int) f = some (btw f g) := by
  have hh := half_s v a g h2 hl hl2 hv hg
  have hb := half_in g
  have m0 := hv 0 (by omega) (by omega)
  have p1 := hv 1 (by omega) (by omega)
  rw [Int.add_zero] at m0
  have g2 := hg 0
  have g3 := hg 1
  unfold spec_l13Quarter.f btw
  rw [hh, Option.bind_some]
  by_cases c0 : f = 0
  · rw [if_pos c0, if_pos (by omega), if_pos (by omega), m0, if_neg (by omega), if_neg (by omega), if_neg (by omega)]
  rw [if_neg c0]
  by_cases c1 : f = 1
  · rw [if_pos c1, if_pos c1, if_pos (by omega), if_pos (by omega), m0, w64 (n := g 0 + half_ g) (by omega) (by omega), w64 (by omega) (by omega)]
  rw [if_neg c1, if_neg c1]
  by_cases c3 : f = 3
  · rw [if_pos c3, if_neg (show ¬ f = 2 by omega), if_pos c3, w64 (n := (a : Int) + 1) (by omega) (by omega), if_pos (by omega), if_pos (by omega), p1, w64 (n := half_ g + g 1) (by omega) (by omega), w64 (by omega) (by omega)]
  · rw [if_neg c3, if_pos (show f = 2 by omega)]
/-! The rows. -/
def rv (W H : Int) (l : List Int) (X Y : Int) (j i : Nat) : Int := btw (Go.bits .and .i64 X 3) (fun e => smp W H l (X / 4 + (i : Int) + e) (Y / 4 - 2 + (j : Int)))
def ost (n : Nat) (v : Nat → Nat → Int) (i j : Nat) : List Int := (List.range (n * n)).map fun q => if q % n < i ∨ (q % n = i ∧ q / n < j) then v (q / n) (q % n) else 0
theorem ost_len (n : Nat) (v : Nat → Nat → Int) (i j : Nat) : (ost n v i j).length = n * n := by simp [ost]
theorem ost_zero (n : Nat) (v : Nat → Nat → Int) : List.replicate (n * n) (0 : Int) = ost n v 0 0 := by
  refine List.ext_getElem (by simp [ost]) fun q h1 h2 => ?_
  simp [ost]
theorem ost_set {n : Nat} (hn : n = 4 ∨ n = 8) (v : Nat → Nat → Int) {i j : Nat} (hi : i < n) (hj : j < n) : (ost n v i j).set (j * n + i) (v j i) = ost n v i (j + 1) := by
  refine List.ext_getElem (by simp [ost]) fun q h1 h2 => ?_
  rw [ost_len] at h2
  have eg : ∀ (j : Nat) (h : q < (ost n v i j).length), (ost n v i j)[q] = if q % n < i ∨ (q % n = i ∧ q / n < j) then v (q / n) (q % n) else 0 := fun j h => by simp [ost]
  rw [List.getElem_set, eg, eg]
  by_cases c : j * n + i = q
  · rw [if_pos c]
    have : q % n = i ∧ q / n = j := by rcases hn with rfl | rfl <;> omega
    rw [this.1, this.2, if_pos (by omega)]
  · rw [if_neg c]
    have : q % n < i ∨ q % n = i ∧ q / n < j ↔ q % n < i ∨ q % n = i ∧ q / n < j + 1 := by rcases hn with rfl | rfl <;> omega
    simp only [this]
theorem ost_next {n : Nat} (hn : n = 4 ∨ n = 8) (v : Nat → Nat → Int) (i : Nat) : ost n v i n = ost n v (i + 1) 0 := by
  unfold ost
  refine List.map_congr_left fun q hq => ?_
  have hq := List.mem_range.1 hq
  have : q % n < i ∨ q % n = i ∧ q / n < n ↔ q % n < i + 1 ∨ q % n = i + 1 ∧ q / n < 0 := by rcases hn with rfl | rfl <;> omega
  simp only [this]
theorem mrow_map (W H : Int) (l : List Int) (X Y : Int) (j : Nat) : ∀ i, mrow W H l X Y j i = (List.range i).map (mval W H l X Y j)
  | 0 => rfl
  | i + 1 => by
    show mrow W H l X Y j i ++ [mval W H l X Y j i] = _
    rw [mrow_map W H l X Y j i, List.range_succ, List.map_append]; rfl
theorem mcol_map (W H : Int) (l : List Int) (X Y : Int) (n : Nat) (hn : 0 < n) (j : Nat) : mcol W H l X Y n j = (List.range (n * j)).map (fun q => mval W H l X Y (q / n) (q % n)) := by
  induction j with
  | zero => rw [Nat.mul_zero]; rfl
  | succ j ih =>
    have e : (List.range n).map (mval W H l X Y j) = ((List.range n).map (n * j + ·)).map (fun q => mval W H l X Y (q / n) (q % n)) := by
      rw [List.map_map]
      refine List.map_congr_left fun q hq => ?_
      have hq := List.mem_range.1 hq
      show mval W H l X Y j q = mval W H l X Y ((n * j + q) / n) ((n * j + q) % n)
      rw [Nat.mul_add_div hn, Nat.div_eq_of_lt hq, Nat.add_zero, Nat.mul_add_mod, Nat.mod_eq_of_lt hq]
    rw [show mcol W H l X Y n (j + 1) = mcol W H l X Y n j ++ mrow W H l X Y j n from rfl, ih, mrow_map, e, Nat.mul_succ, List.range_add, List.map_append]
theorem ost_all {n : Nat} (hn : n = 4 ∨ n = 8) (W H : Int) (l : List Int) (X Y : Int) : ost n (mval W H l X Y) n 0 = mcol W H l X Y n n := by
  rw [mcol_map _ _ _ _ _ _ (by omega)]
  unfold ost
  refine List.map_congr_left fun q hq => ?_
  have : q % n < n := Nat.mod_lt _ (by omega)
  rw [if_pos (Or.inl this)]
section
variable {W H : Int} {l : List Int} (ho : PlaneOk W H l) {n : Nat} (hn : n = 4 ∨ n = 8) {X Y : Int} (hX : -4096 ≤ X ∧ X ≤ 4096) (hY : -4096 ≤ Y ∧ Y ≤ 4096)
def R (W H : Int) (l : List Int) (X Y : Int) (n j : Nat) : List Int := (List.range n).map (rv W H l X Y j)
def line_ (W H : Int) (l : List Int) (X Y : Int) (j i : Nat) : Int := smp W H l (X / 4 - 2 + (i : Int)) (Y / 4 - 2 + (j : Int))
def rows (W H : Int) (l : List Int) (X Y : Int) (n j i : Nat) : List (List Int) := (List.range (n + 5)).map fun q => if q < j then R W H l X Y n q else if q = j then R W H l X Y i j else []
include ho in
theorem smp_bd (x y : Int) : 0 ≤ smp W H l x y ∧ smp W H l x y ≤ 255 := ho.v _
include ho in
theorem rv_bd (j i : Nat) : 0 ≤ rv W H l X Y j i ∧ rv W H l X Y j i ≤ 255 := btw_in _ _ fun _ => smp_bd ho _ _
theorem rows_len (j i : Nat) : (rows W H l X Y n j i).length = n + 5 := by simp [rows]
theorem rows_zero (n : Nat) : List.replicate (n + 5) ([] : List Int) = rows W H l X Y n 0 0 := by
  refine List.ext_getElem (by simp [rows]) fun q h1 h2 => ?_
  simp [rows, R]
theorem rows_next (j : Nat) : rows W H l X Y n j n = rows W H l X Y n (j + 1) 0 := by
  unfold rows
  refine List.map_congr_left fun q hq => ?_
  by_cases c : q < j
  · rw [if_pos c, if_pos (by omega)]
  by_cases c2 : q = j
  · rw [if_neg c, if_pos c2, if_pos (by omega), c2]
  · rw [if_neg c, if_neg c2, if_neg (by omega)]
    split
    · rfl
    · rfl
theorem rows_get {j i : Nat} (hj : j < n + 5) : rd_L1 (rows W H l X Y n j i) (j : Int) = R W H l X Y i j := by
  rw [rdL1n]; unfold rows
  rw [range_getD _ _ _ _ hj, if_neg (by omega), if_pos rfl]
theorem rows_set (j i : Nat) : (rows W H l X Y n j i).set j (R W H l X Y i j ++ [rv W H l X Y j i]) = rows W H l X Y n j (i + 1) := by
  refine List.ext_getElem (by simp [rows]) fun q h1 h2 => ?_
  have eg : ∀ (i : Nat) (h : q < (rows W H l X Y n j i).length), (rows W H l X Y n j i)[q] = if q < j then R W H l X Y n q else if q = j then R W H l X Y i j else [] := fun i h => by simp [rows]
  rw [List.getElem_set, eg, eg]
  by_cases c : j = q
  · rw [if_pos c, if_neg (by omega), if_pos c.symm]
    subst c
    unfold R
    rw [List.range_succ, List.map_append]; rfl
  · rw [if_neg c]
    by_cases c2 : q < j
    · rw [if_pos c2, if_pos c2]
    · rw [if_neg c2, if_neg c2, if_neg (by omega), if_neg (by omega)]
theorem rows_all : rows W H l X Y n (n + 5) 0 = (List.range (n + 5)).map (R W H l X Y n) := by
  unfold rows
  refine List.map_congr_left fun q hq => ?_
  rw [if_pos (List.mem_range.1 hq)]
include ho hn
theorem cols_s : Ev (fun k => spec_l13Moved.l3 k (n : Int) (Go.bits .and .i64 Y 3) ((List.range (n + 5)).map (R W H l X Y n)) (ost n (mval W H l X Y) 0 0) ((0 : Nat) : Int)) (mcol W H l X Y n n) := by
  obtain ⟨f0, f3⟩ := and3 Y
  have w5 : wrap64 ((n : Int) + 5) = ((n + 5 : Nat) : Int) := by rw [w64 (by omega) (by omega)]; omega
  have hnn : n * n ≤ 64 := by rcases hn with rfl | rfl <;> omega
  refine down (n := n) (P := fun i => Ev (fun k => spec_l13Moved.l3 k (n : Int) (Go.bits .and .i64 Y 3) ((List.range (n + 5)).map (R W H l X Y n)) (ost n (mval W H l X Y) i 0) (i : Int)) (mcol W H l X Y n n)) ?_ ?_
  · rw [ost_all hn]
    exact Ev.step (fun k => rfl) (evneg (by omega) (Ev.now _))
  intro i hi hnext
  refine Ev.step (fun k => rfl) (evpos (by omega) ?_)
  rw [w5]
  refine evpos (by omega) (evpos (by omega) (evlet rfl ?_))
  rw [Int.toNat_natCast, List.length_replicate]
  have inner := down (n := n + 5) (P := fun q => Ev (fun k => spec_l13Moved.l4 k (n : Int) (Go.bits .and .i64 Y 3) ((List.range (n + 5)).map (R W H l X Y n)) (ost n (mval W H l X Y) i 0) (i : Int) (fl 0 (n + 5) (fun q => rv W H l X Y q i) q) ((n + 5 : Nat) : Int) (q : Int)) (mcol W H l X Y n n)) ?_ ?_
  · rw [fl_zero] at inner; exact inner
  · refine Ev.step (fun k => rfl) (evneg (by omega) ?_)
    rw [fl_all]
    refine down (n := n) (P := fun j => Ev (fun k => spec_l13Moved.l5 k (n : Int) (Go.bits .and .i64 Y 3) ((List.range (n + 5)).map (R W H l X Y n)) (ost n (mval W H l X Y) i j) (i : Int) ((List.range (n + 5)).map (fun q => rv W H l X Y q i)) (j : Int)) (mcol W H l X Y n n)) ?_ ?_
    · rw [ost_next hn]
      refine Ev.step (fun k => rfl) (evneg (by omega) ?_)
      rw [w64s (by omega)]; exact hnext
    · intro j hj h
      have q := quarter_s ((List.range (n + 5)).map (fun q => rv W H l X Y q i)) (j + 2) (Go.bits .and .i64 Y 3) (fun d => btw (Go.bits .and .i64 X 3) (fun e => smp W H l (X / 4 + (i : Int) + e) (Y / 4 + (j : Int) + d))) (by omega) (by simp; omega) (by simp; omega) f0 f3 (fun e e0 e3 => by
        rw [show ((j + 2 : Nat) : Int) + e = (((j + 2 : Nat) + e).toNat : Int) by omega, rd_nat, range_getD _ _ _ _ (by omega)]
        unfold rv
        rw [show Y / 4 - 2 + ((((j + 2 : Nat) : Int) + e).toNat : Int) = Y / 4 + (j : Int) + e by omega]) (fun e => btw_in _ _ fun _ => smp_bd ho _ _)
      refine Ev.step (fun k => rfl) (evpos (by omega) ?_)
      have jn : j * n + i < n * n := by rcases hn with rfl | rfl <;> omega
      rw [show wrap64 ((j : Int) + 2) = ((j + 2 : Nat) : Int) by rw [w64 (by omega) (by omega)]; omega, ← Int.natCast_mul, w64 (n := ((j * n : Nat) : Int)) (by omega) (by omega), ← Int.natCast_add, w64 (n := ((j * n + i : Nat) : Int)) (by omega) (by omega)]
      refine evlet q (evpos (by omega) (evpos (by rw [ost_len]; omega) ?_))
      rw [Int.toNat_natCast, w64s (by omega)]
      rw [← ost_set hn _ hi hj] at h
      exact h
  · intro q hq h
    refine Ev.step (fun k => rfl) (evpos (by omega) (evpos (by omega) (evpos (by simp; omega) (evpos (by omega) ?_))))
    have e : rd_L1 ((List.range (n + 5)).map (R W H l X Y n)) (q : Int) = R W H l X Y n q := by rw [rdL1n, range_getD _ _ _ _ hq]
    rw [e]
    refine evpos (by simp [R]; omega) (evpos (by rw [fl_len]; omega) ?_)
    rw [show rd (R W H l X Y n q) (i : Int) = rv W H l X Y q i by unfold R; rw [rd_nat, range_getD _ _ _ _ hi], Int.toNat_natCast, w64s (by omega)]
    rw [← fl_set] at h
    exact h
include hX hY
theorem moved_s : Ev (fun k => spec_l13Moved.f k W H l X Y (n : Int)) (mcol W H l X Y n n) := by
  obtain ⟨f0, f3⟩ := and3 X
  have w5 : wrap64 ((n : Int) + 5) = ((n + 5 : Nat) : Int) := by rw [w64 (by omega) (by omega)]; omega
  have hnn : n * n ≤ 64 := by rcases hn with rfl | rfl <;> omega
  have dX : -1024 ≤ X / 4 ∧ X / 4 ≤ 1024 := by omega
  have dY : -1024 ≤ Y / 4 ∧ Y / 4 ≤ 1024 := by omega
  unfold spec_l13Moved.f
  rw [w5]
  refine evpos (by omega) (evpos (by omega) (evlet rfl ?_))
  rw [Int.toNat_natCast, List.length_replicate]
  have outer := down (n := n + 5) (P := fun j => Ev (fun k => spec_l13Moved.l0 k (n : Int) (X / 4) (Y / 4) (Go.bits .and .i64 X 3) (Go.bits .and .i64 Y 3) (rows W H l X Y n j 0) ((n + 5 : Nat) : Int) (j : Int) W H l) (mcol W H l X Y n n)) ?_ ?_
  · rw [rows_zero (W := W) (H := H) (l := l) (X := X) (Y := Y)]; exact outer
  · refine Ev.step (fun k => rfl) (evneg (by omega) ?_)
    rw [rows_all, ← Int.natCast_mul, w64 (n := ((n * n : Nat) : Int)) (by omega) (by omega)]
    refine evpos (by omega) (evpos (by omega) ?_)
    rw [Int.toNat_natCast, ost_zero n (mval W H l X Y)]
    exact cols_s ho hn
  intro j hj hnext
  refine Ev.step (fun k => rfl) (evpos (by omega) ?_)
  rw [w5]
  refine evpos (by omega) (evpos (by omega) (evlet rfl ?_))
  rw [Int.toNat_natCast, List.length_replicate]
  have inner := down (n := n + 5) (P := fun i => Ev (fun k => spec_l13Moved.l1 k (n : Int) (X / 4) (Y / 4) (Go.bits .and .i64 X 3) (Go.bits .and .i64 Y 3) (rows W H l X Y n j 0) (j : Int) (fl 0 (n + 5) (line_ W H l X Y j) i) ((n + 5 : Nat) : Int) (j : Int) ((n + 5 : Nat) : Int) (i : Int) W H l) (mcol W H l X Y n n)) ?_ ?_
  · rw [fl_zero] at inner; exact inner
  · refine Ev.step (fun k => rfl) (evneg (by omega) ?_)
    rw [fl_all]
    refine down (n := n) (P := fun i => Ev (fun k => spec_l13Moved.l2 k (n : Int) (X / 4) (Y / 4) (Go.bits .and .i64 X 3) (Go.bits .and .i64 Y 3) (rows W H l X Y n j i) (j : Int) ((List.range (n + 5)).map (line_ W H l X Y j)) (i : Int) ((n + 5 : Nat) : Int) (j : Int) W H l) (mcol W H l X Y n n)) ?_ ?_
    · rw [rows_next]
      refine Ev.step (fun k => rfl) (evneg (by omega) ?_)
      rw [w64s (by omega)]; exact hnext
    · intro i hi h
      have q := quarter_s ((List.range (n + 5)).map (line_ W H l X Y j)) (i + 2) (Go.bits .and .i64 X 3) (fun e => smp W H l (X / 4 + (i : Int) + e) (Y / 4 - 2 + (j : Int))) (by omega) (by simp; omega) (by simp; omega) f0 f3 (fun e e0 e3 => by
        rw [show ((i + 2 : Nat) : Int) + e = (((i + 2 : Nat) + e).toNat : Int) by omega, rd_nat, range_getD _ _ _ _ (by omega)]
        unfold line_
        rw [show X / 4 - 2 + ((((i + 2 : Nat) : Int) + e).toNat : Int) = X / 4 + (i : Int) + e by omega]) (fun e => smp_bd ho _ _)
      refine Ev.step (fun k => rfl) (evpos (by omega) (evpos (by omega) (evpos (by rw [rows_len]; omega) ?_)))
      rw [show wrap64 ((i : Int) + 2) = ((i + 2 : Nat) : Int) by rw [w64 (by omega) (by omega)]; omega, rows_get hj]
      refine evlet q (evpos (by simp [R]; omega) ?_)
      rw [Int.toNat_natCast, w64s (by omega)]
      rw [← rows_set j i] at h
      exact h
  · intro i hi h
    refine Ev.step (fun k => rfl) (evpos (by omega) ?_)
    have a := at_s ho (X / 4 - 2 + (i : Int)) (Y / 4 - 2 + (j : Int))
    rw [w64 (n := X / 4 - 2) (by omega) (by omega), w64 (n := Y / 4 - 2) (by omega) (by omega), w64 (n := X / 4 - 2 + (i : Int)) (by omega) (by omega), w64 (n := Y / 4 - 2 + (j : Int)) (by omega) (by omega)]
    refine Ev.bind a (evpos (by omega) (evpos (by rw [fl_len]; omega) ?_))
    rw [Int.toNat_natCast, w64s (by omega)]
    rw [← fl_set] at h
    exact h
end
theorem moved_both (W H : Int) (S : List Int) (X Y n : Int) (hS : S.length ≤ 1048576) : ∃ out : List Int, out.length ≤ 64 ∧ Ev (fun k => spec_Moved.f k W H S X Y n) out ∧ Ev (fun k => impl_Moved.f k W H S X Y n) out := by
  obtain ⟨q, p1, p2, p3⟩ := plane_both W H S hS
  cases q with
  | false => exact ⟨[], by simp, Ev.bind p1 (evneg (by decide) (Ev.now _)), Ev.bind p2 (evneg (by decide) (Ev.now _))⟩
  | true =>
    obtain ⟨ho, hk⟩ := p3 rfl
    by_cases cn : n = 4 ∨ n = 8
    case neg => exact ⟨[], by simp, Ev.bind p1 (evpos rfl (evneg (by omega) (evneg (by omega) (Ev.now _)))), Ev.bind p2 (evpos rfl (evneg cn (Ev.now _)))⟩
    have fin : ∀ (r : List Int) (r4 : Ev (fun k => if X < -4096 then some [] else if X > 4096 then some [] else if Y < -4096 then some [] else if Y > 4096 then some [] else (spec_l13Moved.f k W H S X Y n).bind fun t => some t) r), Ev (fun k => spec_Moved.f k W H S X Y n) r := by
      intro r r4
      refine Ev.bind p1 (evpos rfl ?_)
      rcases cn with rfl | rfl
      · exact evpos rfl r4
      · exact evneg (by omega) (evpos rfl r4)
    by_cases c1 : X < -4096
    · exact ⟨[], by simp, fin _ (evpos c1 (Ev.now _)), Ev.bind p2 (evpos rfl (evpos cn (evpos c1 (Ev.now _))))⟩
    by_cases c2 : X > 4096
    · exact ⟨[], by simp, fin _ (evneg c1 (evpos c2 (Ev.now _))), Ev.bind p2 (evpos rfl (evpos cn (evneg c1 (evpos c2 (Ev.now _)))))⟩
    by_cases c3 : Y < -4096
    · exact ⟨[], by simp, fin _ (evneg c1 (evneg c2 (evpos c3 (Ev.now _)))), Ev.bind p2 (evpos rfl (evpos cn (evneg c1 (evneg c2 (evpos c3 (Ev.now _))))))⟩
    by_cases c4 : Y > 4096
    · exact ⟨[], by simp, fin _ (evneg c1 (evneg c2 (evneg c3 (evpos c4 (Ev.now _))))), Ev.bind p2 (evpos rfl (evpos cn (evneg c1 (evneg c2 (evneg c3 (evpos c4 (Ev.now _)))))))⟩
    obtain ⟨m, rfl⟩ : ∃ m : Nat, n = (m : Int) := ⟨n.toNat, by omega⟩
    have hm : m = 4 ∨ m = 8 := by omega
    refine ⟨mcol W H S X Y m m, by rw [mcol_len]; rcases hm with rfl | rfl <;> omega, fin _ (evneg c1 (evneg c2 (evneg c3 (evneg c4 (Ev.bind (moved_s ho hm (by omega) (by omega)) (Ev.now _)))))), Ev.bind p2 (evpos rfl (evpos cn (evneg c1 (evneg c2 (evneg c3 (evneg c4 (evpos hk ?_)))))))⟩
    rw [Int.toNat_natCast]; exact Ev.now _
theorem FnExactMoved : laws_FnExactMoved.Pure := by
  intro W H S a b' n ⟨_, _, hS, _⟩ _ _ _
  refine Ev.rounds ?_
  obtain ⟨r, s0, s1, s2⟩ := szPlane W H S 1048576 hS (by omega) (by omega)
  by_cases c : r < 0
  · exact Ev.bind s0 (evpos c (Ev.now _))
  have sl := s2 (by omega)
  have t := toPlane W H S sl
  obtain ⟨out, hl, h1, h2⟩ := moved_both W H S a b' n sl
  have eo := eqIntS out (by omega)
  have es := eqPlane W H S (by omega)
  obtain ⟨m, hm, _⟩ := mhIntS S 1 (by omega) (by omega)
  obtain ⟨g, hg1, hg2, hg3⟩ := mhIntS out 1 (by omega) (by omega)
  have jn : ∀ b : Bool, ¬ b = true → Ev (fun k => laws_FnExactMoved.j0 k a b' n out out b W H S) true := fun b hb =>
    Ev.step (fun _ => rfl) (evneg hb (Ev.bind hg1 (Ev.bind hg2 (evneg (by omega) (evpos rfl (Ev.bind t (Ev.bind h2 (Ev.bind eo (evpos rfl (Ev.bind hg2 (evneg (by omega) (evpos rfl (Ev.now _)))))))))))))
  refine Ev.bind s0 (evneg c (Ev.bind t (Ev.bind h1 (Ev.bind t (Ev.bind h2 (Ev.bind eo (evpos rfl (Ev.bind t (Ev.bind es (evpos rfl (Ev.bind (a := (1 + (S.length : Int), m)) (Ev.bind hm (Ev.now _)) ?_)))))))))))
  exact evneg (by simp only; omega) (Ev.bind eo (jn _ (by decide)))
end Go.Proofs.Ytglaedjadlappaa.Pure

/- The motion that fits best, as the program and the form find it. -/
import Derived.Test.YtglaedjadlappaaPFnExactBestMotionx0
import Derived.Test.YtglaedjadlappaaPFnExactBestMotionx1
import Derived.Test.YtglaedjadlappaaPFnExactBestMotionx2
import Derived.Test.YtglaedjadlappaaPFnExactBestMotionx3
import Derived.Test.YtglaedjadlappaaPFnExactBestMotionx4
import Derived.Test.YtglaedjadlappaaPFnExactBestMotionx5
import Derived.Test.YtglaedjadlappaaPFnExactBestMotionx6
import Derived.Test.YtglaedjadlappaaPFnExactBestMotionx7
import Derived.Test.YtglaedjadlappaaPFnExactBestMotionx8
import Derived.Test.YtglaedjadlappaaPFnExactBestMotionx9
import Derived.Test.YtglaedjadlappaaPFnExactBestMotionx10
import Derived.Test.YtglaedjadlappaaTFEBMK
import Derived.Laws.Bits64b
namespace Go.Proofs.Ytglaedjadlappaa.Pure
open Go.RowKit Go.Proofs.Ytglaedjadlappaa.PFnExactBestMotion Go.Proofs.Ytglaedjadlappaa.K Go.Proofs.YtglaedjadlappaaW.PrintWords Go.Proofs.YtglaedjadlappaaW.PrintLast Go.Proofs.YtglaedjadlappaaW.PrintMore

theorem rdL1n (l : List (List Int)) (i : Nat) : rd_L1 l (i : Int) = l.getD i ([] : List Int) := by simp [rd_L1]
theorem toIntS (l : List Int) (hl : l.length ≤ 1048576) : Ev (fun k => laws_toIntS.f k l) l := by
  refine evpos (by omega) (evpos (by omega) ?_)
  have := down (n := l.length) (P := fun i => Ev (fun k => laws_toIntS.l0 k l (fl 0 l.length (fun j => l.getD j 0) i) (i : Int)) l) ?_ ?_
  · rw [fl_zero] at this; exact this
  · refine Ev.step (fun k => rfl) (evneg (by omega) ?_)
    rw [fl_all]
    have e := map_range_get l 0 id
    try simp only [id_eq, List.map_id_fun] at e
    rw [e]; exact Ev.now _
  · intro i hi h
    refine Ev.step (fun k => rfl) (evpos (by omega) (evpos (by omega) (evpos (by rw [fl_len]; omega) ?_)))
    rw [w64s (by omega), rd_nat, getD_lt hi, Int.toNat_natCast]
    rw [← fl_set, getD_lt hi] at h
    exact h
theorem eqIntS (l : List Int) (hl : l.length ≤ 4611686018427387904) : Ev (fun k => laws_eqIntS.f k l l) true := by
  refine evpos rfl ?_
  refine down (n := l.length) (P := fun i => Ev (fun k => laws_eqIntS.l0 k l l (i : Int)) true) ?_ ?_
  · exact Ev.step (fun k => rfl) (evneg (by omega) (Ev.now _))
  · intro i hi h
    refine Ev.step (fun k => rfl) (evpos (by omega) (evpos (by omega) (evpos (by omega) (evpos rfl ?_))))
    rw [w64s (by omega)]; exact h
theorem szIntS (l : List Int) (a : Int) (hl : l.length ≤ maxLen) (h0 : 0 ≤ a) (h1 : a ≤ 1048576) : laws_szIntS.f l a = some (if a < l.length then -1 else a - l.length) := by
  unfold maxLen at hl
  unfold laws_szIntS.f
  rw [w64 (by omega) (by omega)]
  split <;> split <;> first | rfl | omega
theorem szPlane (a0_0 : Int) (a0_1 : Int) (l0_2 : List Int) (a : Int) (hl0_2 : l0_2.length ≤ maxLen) (h0 : 0 ≤ a) (h1 : a ≤ 1048576) : ∃ r, Ev (fun _ => laws_szPlane.f a0_0 a0_1 l0_2 a) r ∧ r ≤ a ∧ (0 ≤ r → l0_2.length ≤ 1048576) := by
  have e0 := szIntS l0_2 a hl0_2 (by omega) (by omega)
  by_cases c0 : a < (l0_2.length : Int)
  · rw [if_pos c0] at e0
    exact ⟨-1, evlet e0 (evpos (by omega) (Ev.now _)), by omega, by omega⟩
  rw [if_neg c0] at e0
  exact ⟨(a - l0_2.length), evlet e0 (evneg (by omega) (Ev.now _)), by omega, fun _ => by omega⟩
theorem toPlane (a0_0 : Int) (a0_1 : Int) (l0_2 : List Int) (hl0_2 : l0_2.length ≤ 1048576) : Ev (fun k => laws_toPlane.f k a0_0 a0_1 l0_2) (a0_0, a0_1, l0_2) :=
  Ev.bind (toIntS l0_2 hl0_2) (Ev.now _)
theorem eqPlane (a0_0 : Int) (a0_1 : Int) (l0_2 : List Int) (hl0_2 : l0_2.length ≤ 4611686018427387904) : Ev (fun k => laws_eqPlane.f k a0_0 a0_1 l0_2 a0_0 a0_1 l0_2) true :=
  evpos rfl (evpos rfl (Ev.bind (eqIntS l0_2 hl0_2) (evpos rfl (Ev.now _))))
theorem pokB_of {W H : Int} {l : List Int} (a : 1 ≤ W ∧ W ≤ 512) (b : 1 ≤ H ∧ H ≤ 512) (c : (l.length : Int) = W * H) (d : ∀ j : Nat, j < l.length → 0 ≤ rd l (j : Int) ∧ rd l (j : Int) ≤ 255) : pokB W H l = true := by
  unfold pokB
  rw [Bool.and_eq_true]
  refine ⟨decide_eq_true ⟨a.1, a.2, b.1, b.2, c⟩, List.all_eq_true.2 fun v hv => decide_eq_true ?_⟩
  obtain ⟨j, hj, rfl⟩ := List.getElem_of_mem hv
  have := d j hj
  unfold rd at this
  rw [Int.toNat_natCast, List.getD_eq_getElem?_getD, List.getElem?_eq_getElem hj] at this
  exact this
theorem plane_both (W H : Int) (S : List Int) (hS : S.length ≤ 1048576) : ∃ q : Bool, Ev (fun k => spec_GoodPlane.f k W H S) q ∧ Ev (fun k => impl_GoodPlane.f k W H S) q ∧ (q = true → PlaneOk W H S ∧ pokB W H S = true) := by
  have sp : spec_l7Sides.f W H = some (decide (((1 ≤ W ∧ W ≤ 512) ∧ 1 ≤ H ∧ H ≤ 512) ∧ wrap64 (W * H) ≤ 4096)) := by
    have g : spec_l4Sides.f W H = some (decide ((1 ≤ W ∧ W ≤ 512) ∧ 1 ≤ H ∧ H ≤ 512)) := by
      unfold spec_l4Sides.f
      repeat' split
      all_goals first | (rw [decide_eq_false (by omega)]; done) | exact congrArg some (decide_eq_decide.2 (by omega))
    unfold spec_l7Sides.f
    rw [g, Option.bind_some]
    by_cases c : (1 ≤ W ∧ W ≤ 512) ∧ 1 ≤ H ∧ H ≤ 512
    · rw [decide_eq_true c, if_pos rfl]
      exact congrArg some (decide_eq_decide.2 (by omega))
    · rw [decide_eq_false c, if_neg (by simp), decide_eq_false (by omega)]
  have im : impl_goodSides.f W H = some (decide (((1 ≤ W ∧ W ≤ 512) ∧ 1 ≤ H ∧ H ≤ 512) ∧ wrap64 (W * H) ≤ 4096)) := by
    have g : ∀ a, impl_goodSide.f a = some (decide (1 ≤ a ∧ a ≤ 512)) := by
      intro a
      unfold impl_goodSide.f
      split
      · exact congrArg some (decide_eq_decide.2 (by omega))
      · rw [decide_eq_false (by omega)]
    unfold impl_goodSides.f
    rw [g, g, Option.bind_some, Option.bind_some]
    by_cases c1 : 1 ≤ W ∧ W ≤ 512
    · rw [decide_eq_true c1, if_pos rfl]
      by_cases c2 : 1 ≤ H ∧ H ≤ 512
      · rw [decide_eq_true c2, if_pos rfl]
        exact congrArg some (decide_eq_decide.2 (by omega))
      · rw [decide_eq_false c2, if_neg (by simp), decide_eq_false (by omega)]
    · rw [decide_eq_false c1, if_neg (by simp), decide_eq_false (by omega)]
  have st : Ev (fun k => spec_GoodPlane.j0 k true W H S) false := Ev.step (f := fun _ => some false) (fun k => by simp only [spec_GoodPlane.j0, if_true]) (Ev.now _)
  by_cases c : ((1 ≤ W ∧ W ≤ 512) ∧ 1 ≤ H ∧ H ≤ 512) ∧ wrap64 (W * H) ≤ 4096
  case neg =>
    rw [decide_eq_false c] at sp im
    exact ⟨false, evlet sp (evneg (by simp) st), evlet im (evneg (by simp) (Ev.now _)), fun h => (by cases h)⟩
  rw [decide_eq_true c] at sp im
  have wm : wrap64 (W * H) = W * H := by
    have := Int.mul_le_mul c.1.1.2 c.1.2.2 (by omega) (by omega)
    have := Int.mul_nonneg (show 0 ≤ W by omega) (show 0 ≤ H by omega)
    exact w64 (by omega) (by omega)
  by_cases e : (S.length : Int) = wrap64 (W * H)
  case neg =>
    refine ⟨false, evlet sp (evpos rfl ?_), evlet im (evpos rfl (evneg e (Ev.now _))), fun h => (by cases h)⟩
    rw [bne_iff_ne.mpr e]; exact st
  have main := down (n := S.length) (P := fun i => ∃ q : Bool, Ev (fun k => spec_GoodPlane.l0 k S (S.length : Int) (i : Int)) q ∧ Ev (fun k => impl_inRange.l0 k 255 S (S.length : Int) (i : Int)) q ∧ (q = true → ∀ j : Nat, i ≤ j → j < S.length → 0 ≤ rd S (j : Int) ∧ rd S (j : Int) ≤ 255)) ?_ ?_
  · obtain ⟨q, g1, g2, g3⟩ := main
    refine ⟨q, evlet sp (evpos rfl ?_), evlet im (evpos rfl (evpos e (Ev.bind g2 (Ev.now _)))), fun hq => have hk := pokB_of c.1.1 c.1.2 (by rw [e, wm]) (fun j hj => g3 hq j (Nat.zero_le _) hj); ⟨pokB_ok hk, hk⟩⟩
    rw [bne_eq_false_iff_eq.mpr e]
    exact Ev.step (f := fun k => spec_GoodPlane.l0 k S (S.length : Int) 0) (fun k => by simp only [spec_GoodPlane.j0, Bool.false_eq_true, if_false]) g1
  · exact ⟨true, Ev.step (fun k => rfl) (evneg (by omega) (Ev.now _)), Ev.step (fun k => rfl) (evneg (by omega) (Ev.now _)), fun _ j h1 h2 => absurd h2 (by omega)⟩
  · intro i hi ⟨b, h1, h2, h3⟩
    by_cases c1 : rd S (i : Int) < 0
    · exact ⟨false, Ev.step (fun k => rfl) (evpos (by omega) (evpos (by omega) (evpos (by omega) (evpos c1 (Ev.now _))))), Ev.step (fun k => rfl) (evpos (by omega) (evpos (by omega) (evpos (by omega) (evpos c1 (Ev.now _))))), fun h => (by cases h)⟩
    by_cases c2 : rd S (i : Int) > 255
    · exact ⟨false, Ev.step (fun k => rfl) (evpos (by omega) (evpos (by omega) (evpos (by omega) (evneg c1 (evpos c2 (Ev.now _)))))), Ev.step (fun k => rfl) (evpos (by omega) (evpos (by omega) (evpos (by omega) (evneg c1 (evpos c2 (Ev.now _)))))), fun h => (by cases h)⟩
    refine ⟨b, Ev.step (fun k => rfl) (evpos (by omega) (evpos (by omega) (evpos (by omega) (evneg c1 (evneg c2 ?_))))), Ev.step (fun k => rfl) (evpos (by omega) (evpos (by omega) (evpos (by omega) (evneg c1 (evneg c2 ?_))))), fun hb j j1 j2 => ?_⟩
    · rw [w64s (by omega)]; exact h1
    · rw [w64s (by omega)]; exact h2
    · rcases Nat.lt_or_ge i j with c | c
      · exact h3 hb j (by omega) j2
      · rw [show j = i by omega]; omega
theorem cl_if (v n : Int) (h : 1 ≤ n) : cl_ v n = if v < 0 then 0 else if v ≥ n then n - 1 else v := by
  unfold cl_ mn mx
  (repeat' split) <;> omega
theorem and3 (x : Int) : 0 ≤ Go.bits .and .i64 x 3 ∧ Go.bits .and .i64 x 3 ≤ 3 := by
  have e : Go.bits .and .i64 x 3 = IntKind.i64.wrap ((BitVec.ofInt 64 x &&& BitVec.ofInt 64 3).toNat : Int) := rfl
  have h : (BitVec.ofInt 64 x &&& BitVec.ofInt 64 3).toNat ≤ 3 := by
    rw [BitVec.toNat_and]; exact Nat.and_le_right
  rw [e, i64_w, w64 (by omega) (by omega)]
  omega
theorem at_s {W H : Int} {l : List Int} (ho : PlaneOk W H l) (x y : Int) : Ev (fun k => spec_l7At.f k W H l x y) (smp W H l x y) := by
  obtain ⟨s0, s1, s2, s3⟩ := smp_in ho x y
  obtain ⟨w1, w2⟩ := ho.w
  obtain ⟨h1, h2⟩ := ho.h
  obtain ⟨b0, b1⟩ := cl_in x W w1
  unfold smp
  have two : ∀ z : Int, z = cl_ y H → Ev (fun _ : Nat => if 0 ≤ wrap64 (wrap64 (z * W) + cl_ x W) then (if wrap64 (wrap64 (z * W) + cl_ x W) < (l.length : Int) then some (rd l (wrap64 (wrap64 (z * W) + cl_ x W))) else none) else none) (rd l (cl_ y H * W + cl_ x W)) := by
    rintro z rfl
    rw [w64 (n := cl_ y H * W) (by omega) (by omega), w64 (by omega) (by omega)]
    exact evpos s0 (evpos s1 (Ev.now _))
  have one : ∀ z : Int, z = cl_ x W → Ev (fun k => spec_l7At.j1 k z y W H l) (rd l (cl_ y H * W + cl_ x W)) := by
    rintro z rfl
    have e := cl_if y H h1
    refine Ev.step (fun k => rfl) ?_
    by_cases c : y < 0
    · rw [if_pos c] at e
      exact evpos c (evneg (by omega) (two 0 e.symm))
    rw [if_neg c] at e
    by_cases c2 : y ≥ H
    · rw [if_pos c2] at e
      refine evneg c (evpos c2 (two _ ?_))
      rw [e, w64 (by omega) (by omega)]
    · rw [if_neg c2] at e
      exact evneg c (evneg c2 (two _ e.symm))
  have e := cl_if x W w1
  by_cases c : x < 0
  · rw [if_pos c] at e
    refine evpos c (Ev.step (fun k => rfl) (evneg (by omega) (one _ e.symm)))
  rw [if_neg c] at e
  by_cases c2 : x ≥ W
  · rw [if_pos c2] at e
    refine evneg c (Ev.step (fun k => rfl) (evpos c2 (one _ ?_)))
    rw [e, w64 (by omega) (by omega)]
  · rw [if_neg c2] at e
    exact evneg c (Ev.step (fun k => rfl) (evneg c2 (one _ e.symm)))
theorem clip_s (a : Int) : spec_l7Clip.f a = some (cl_ a 256) := by
  rw [cl_if a 256 (by omega)]
  unfold spec_l7Clip.f
  (repeat' split) <;> first | rfl | omega
theorem half_s (v : List Int) (a : Nat) (g : Int → Int) (h2 : 2 ≤ a) (hl : a + 3 < v.length) (hl2 : v.length ≤ 4096) (hv : ∀ e : Int, -2 ≤ e → e ≤ 3 → rd v ((a : Int) + e) = g e) (hg : ∀ e, 0 ≤ g e ∧ g e ≤ 255) : spec_l13Half.f v (a : Int) = some (half_ g) := by
  have m2 := hv (-2) (by omega) (by omega)
  have m1 := hv (-1) (by omega) (by omega)
  have m0 := hv 0 (by omega) (by omega)
  have p1 := hv 1 (by omega) (by omega)
  have p2 := hv 2 (by omega) (by omega)
  have p3 := hv 3 (by omega) (by omega)
  rw [Int.add_zero] at m0
  have g0 := hg (-2)
  have g1 := hg (-1)
  have g2 := hg 0
  have g3 := hg 1
  have g4 := hg 2
  have g5 := hg 3
  unfold spec_l13Half.f
  rw [w64 (n := (a : Int) - 2) (by omega) (by omega), w64 (n := (a : Int) - 1) (by omega) (by omega), w64 (n := (a : Int) + 1) (by omega) (by omega), w64 (n := (a : Int) + 2) (by omega) (by omega), w64 (n := (a : Int) + 3) (by omega) (by omega)]
  rw [if_pos (by omega), if_pos (by omega), if_pos (by omega), if_pos (by omega), if_pos (by omega), if_pos (by omega), if_pos (by omega), if_pos (by omega), if_pos (by omega), if_pos (by omega), if_pos (by omega), if_pos (by omega)]
  rw [show (a : Int) - 2 = (a : Int) + (-2) by omega, show (a : Int) - 1 = (a : Int) + (-1) by omega, m2, m1, m0, p1, p2, p3]
  unfold half_
  generalize g (-2) = x0 at *
  generalize g (-1) = x1 at *
  generalize g 0 = x2 at *
  generalize g 1 = x3 at *
  generalize g 2 = x4 at *
  generalize g 3 = x5 at *
  rw [w64 (n := 5 * x1) (by omega) (by omega), w64 (n := 20 * x2) (by omega) (by omega), w64 (n := 20 * x3) (by omega) (by omega), w64 (n := 5 * x4) (by omega) (by omega)]
  rw [w64 (n := x0 - 5 * x1) (by omega) (by omega), w64 (n := x0 - 5 * x1 + 20 * x2) (by omega) (by omega), w64 (n := x0 - 5 * x1 + 20 * x2 + 20 * x3) (by omega) (by omega), w64 (n := x0 - 5 * x1 + 20 * x2 + 20 * x3 - 5 * x4) (by omega) (by omega), w64 (n := x0 - 5 * x1 + 20 * x2 + 20 * x3 - 5 * x4 + x5) (by omega) (by omega), w64 (n := x0 - 5 * x1 + 20 * x2 + 20 * x3 - 5 * x4 + x5 + 16) (by omega) (by omega)]
  rw [clip_s, Option.bind_some]
theorem quarter_s (v : List Int) (a : Nat) (f : Int) (g : Int → Int) (h2 : 2 ≤ a) (hl : a + 3 < v.length) (hl2 : v.length ≤ 4096) (f0 : 0 ≤ f) (f3 : f ≤ 3) (hv : ∀ e : Int, -2 ≤ e → e ≤ 3 → rd v ((a : Int) + e) = g e) (hg : ∀ e, 0 ≤ g e ∧ g e ≤ 255) : spec_l13Quarter.f v (a : Int) f = some (btw f g) := by
  have hh := half_s v a g h2 hl hl2 hv hg
  have hb := half_in g
  have m0 := hv 0 (by omega) (by omega)
  have p1 := hv 1 (by omega) (by omega)
  rw [Int.add_zero] at m0
  have g2 := hg 0
  have g3 := hg 1
  unfold spec_l13Quarter.f btw
  rw [hh, Option.bind_some]
  by_cases c0 : f = 0
  · rw [if_pos c0, if_pos (by omega), if_pos (by omega), m0, if_neg (by omega), if_neg (by omega), if_neg (by omega)]
  rw [if_neg c0]
  by_cases c1 : f = 1
  · rw [if_pos c1, if_pos c1, if_pos (by omega), if_pos (by omega), m0, w64 (n := g 0 + half_ g) (by omega) (by omega), w64 (by omega) (by omega)]
  rw [if_neg c1, if_neg c1]
  by_cases c3 : f = 3
  · rw [if_pos c3, if_neg (show ¬ f = 2 by omega), if_pos c3, w64 (n := (a : Int) + 1) (by omega) (by omega), if_pos (by omega), if_pos (by omega), p1, w64 (n := half_ g + g 1) (by omega) (by omega), w64 (by omega) (by omega)]
  · rw [if_neg c3, if_pos (show f = 2 by omega)]
/-! The rows. -/
def rv (W H : Int) (l : List Int) (X Y : Int) (j i : Nat) : Int := btw (Go.bits .and .i64 X 3) (fun e => smp W H l (X / 4 + (i : Int) + e) (Y / 4 - 2 + (j : Int)))
def ost (n : Nat) (v : Nat → Nat → Int) (i j : Nat) : List Int := (List.range (n * n)).map fun q => if q % n < i ∨ (q % n = i ∧ q / n < j) then v (q / n) (q % n) else 0
theorem ost_len (n : Nat) (v : Nat → Nat → Int) (i j : Nat) : (ost n v i j).length = n * n := by simp [ost]
theorem ost_zero (n : Nat) (v : Nat → Nat → Int) : List.replicate (n * n) (0 : Int) = ost n v 0 0 := by
  refine List.ext_getElem (by simp [ost]) fun q h1 h2 => ?_
  simp [ost]
theorem ost_set {n : Nat} (hn : n = 4 ∨ n = 8) (v : Nat → Nat → Int) {i j : Nat} (hi : i < n) (hj : j < n) : (ost n v i j).set (j * n + i) (v j i) = ost n v i (j + 1) := by
  refine List.ext_getElem (by simp [ost]) fun q h1 h2 => ?_
  rw [ost_len] at h2
  have eg : ∀ (j : Nat) (h : q < (ost n v i j).length), (ost n v i j)[q] = if q % n < i ∨ (q % n = i ∧ q / n < j) then v (q / n) (q % n) else 0 := fun j h => by simp [ost]
  rw [List.getElem_set, eg, eg]
  by_cases c : j * n + i = q
  · rw [if_pos c]
    have : q % n = i ∧ q / n = j := by rcases hn with rfl | rfl <;> omega
    rw [this.1, this.2, if_pos (by omega)]
  · rw [if_neg c]
    have : q % n < i ∨ q % n = i ∧ q / n < j ↔ q % n < i ∨ q % n = i ∧ q / n < j + 1 := by rcases hn with rfl | rfl <;> omega
    simp only [this]
theorem ost_next {n : Nat} (hn : n = 4 ∨ n = 8) (v : Nat → Nat → Int) (i : Nat) : ost n v i n = ost n v (i + 1) 0 := by
  unfold ost
  refine List.map_congr_left fun q hq => ?_
  have hq := List.mem_range.1 hq
  have : q % n < i ∨ q % n = i ∧ q / n < n ↔ q % n < i + 1 ∨ q % n = i + 1 ∧ q / n < 0 := by rcases hn with rfl | rfl <;> omega
  simp only [this]
theorem mrow_map (W H : Int) (l : List Int) (X Y : Int) (j : Nat) : ∀ i, mrow W H l X Y j i = (List.range i).map (mval W H l X Y j)
  | 0 => rfl
  | i + 1 => by
    show mrow W H l X Y j i ++ [mval W H l X Y j i] = _
    rw [mrow_map W H l X Y j i, List.range_succ, List.map_append]; rfl
theorem mcol_map (W H : Int) (l : List Int) (X Y : Int) (n : Nat) (hn : 0 < n) (j : Nat) : mcol W H l X Y n j = (List.range (n * j)).map (fun q => mval W H l X Y (q / n) (q % n)) := by
  induction j with
  | zero => rw [Nat.mul_zero]; rfl
  | succ j ih =>
    have e : (List.range n).map (mval W H l X Y j) = ((List.range n).map (n * j + ·)).map (fun q => mval W H l X Y (q / n) (q % n)) := by
      rw [List.map_map]
      refine List.map_congr_left fun q hq => ?_
      have hq := List.mem_range.1 hq
      show mval W H l X Y j q = mval W H l X Y ((n * j + q) / n) ((n * j + q) % n)
      rw [Nat.mul_add_div hn, Nat.div_eq_of_lt hq, Nat.add_zero, Nat.mul_add_mod, Nat.mod_eq_of_lt hq]
    rw [show mcol W H l X Y n (j + 1) = mcol W H l X Y n j ++ mrow W H l X Y j n from rfl, ih, mrow_map, e, Nat.mul_succ, List.range_add, List.map_append]
theorem ost_all {n : Nat} (hn : n = 4 ∨ n = 8) (W H : Int) (l : List Int) (X Y : Int) : ost n (mval W H l X Y) n 0 = mcol W H l X Y n n := by
  rw [mcol_map _ _ _ _ _ _ (by omega)]
  unfold ost
  refine List.map_congr_left fun q hq => ?_
  have : q % n < n := Nat.mod_lt _ (by omega)
  rw [if_pos (Or.inl this)]
section
variable {W H : Int} {l : List Int} (ho : PlaneOk W H l) {n : Nat} (hn : n = 4 ∨ n = 8) {X Y : Int} (hX : -4096 ≤ X ∧ X ≤ 4096) (hY : -4096 ≤ Y ∧ Y ≤ 4096)
def R (W H : Int) (l : List Int) (X Y : Int) (n j : Nat) : List Int := (List.range n).map (rv W H l X Y j)
def line_ (W H : Int) (l : List Int) (X Y : Int) (j i : Nat) : Int := smp W H l (X / 4 - 2 + (i : Int)) (Y / 4 - 2 + (j : Int))
def rows (W H : Int) (l : List Int) (X Y : Int) (n j i : Nat) : List (List Int) := (List.range (n + 5)).map fun q => if q < j then R W H l X Y n q else if q = j then R W H l X Y i j else []
include ho in
theorem smp_bd (x y : Int) : 0 ≤ smp W H l x y ∧ smp W H l x y ≤ 255 := ho.v _
include ho in
theorem rv_bd (j i : Nat) : 0 ≤ rv W H l X Y j i ∧ rv W H l X Y j i ≤ 255 := btw_in _ _ fun _ => smp_bd ho _ _
theorem rows_len (j i : Nat) : (rows W H l X Y n j i).length = n + 5 := by simp [rows]
theorem rows_zero (n : Nat) : List.replicate (n + 5) ([] : List Int) = rows W H l X Y n 0 0 := by
  refine List.ext_getElem (by simp [rows]) fun q h1 h2 => ?_
  simp [rows, R]
theorem rows_next (j : Nat) : rows W H l X Y n j n = rows W H l X Y n (j + 1) 0 := by
  unfold rows
  refine List.map_congr_left fun q hq => ?_
  by_cases c : q < j
  · rw [if_pos c, if_pos (by omega)]
  by_cases c2 : q = j
  · rw [if_neg c, if_pos c2, if_pos (by omega), c2]
  · rw [if_neg c, if_neg c2, if_neg (by omega)]
    split
    · rfl
    · rfl
theorem rows_get {j i : Nat} (hj : j < n + 5) : rd_L1 (rows W H l X Y n j i) (j : Int) = R W H l X Y i j := by
  rw [rdL1n]; unfold rows
  rw [range_getD _ _ _ _ hj, if_neg (by omega), if_pos rfl]
theorem rows_set (j i : Nat) : (rows W H l X Y n j i).set j (R W H l X Y i j ++ [rv W H l X Y j i]) = rows W H l X Y n j (i + 1) := by
  refine List.ext_getElem (by simp [rows]) fun q h1 h2 => ?_
  have eg : ∀ (i : Nat) (h : q < (rows W H l X Y n j i).length), (rows W H l X Y n j i)[q] = if q < j then R W H l X Y n q else if q = j then R W H l X Y i j else [] := fun i h => by simp [rows]
  rw [List.getElem_set, eg, eg]
  by_cases c : j = q
  · rw [if_pos c, if_neg (by omega), if_pos c.symm]
    subst c
    unfold R
    rw [List.range_succ, List.map_append]; rfl
  · rw [if_neg c]
    by_cases c2 : q < j
    · rw [if_pos c2, if_pos c2]
    · rw [if_neg c2, if_neg c2, if_neg (by omega), if_neg (by omega)]
theorem rows_all : rows W H l X Y n (n + 5) 0 = (List.range (n + 5)).map (R W H l X Y n) := by
  unfold rows
  refine List.map_congr_left fun q hq => ?_
  rw [if_pos (List.mem_range.1 hq)]
include ho hn
theorem cols_s : Ev (fun k => spec_l13Moved.l3 k (n : Int) (Go.bits .and .i64 Y 3) ((List.range (n + 5)).map (R W H l X Y n)) (ost n (mval W H l X Y) 0 0) ((0 : Nat) : Int)) (mcol W H l X Y n n) := by
  obtain ⟨f0, f3⟩ := and3 Y
  have w5 : wrap64 ((n : Int) + 5) = ((n + 5 : Nat) : Int) := by rw [w64 (by omega) (by omega)]; omega
  have hnn : n * n ≤ 64 := by rcases hn with rfl | rfl <;> omega
  refine down (n := n) (P := fun i => Ev (fun k => spec_l13Moved.l3 k (n : Int) (Go.bits .and .i64 Y 3) ((List.range (n + 5)).map (R W H l X Y n)) (ost n (mval W H l X Y) i 0) (i : Int)) (mcol W H l X Y n n)) ?_ ?_
  · rw [ost_all hn]
    exact Ev.step (fun k => rfl) (evneg (by omega) (Ev.now _))
  intro i hi hnext
  refine Ev.step (fun k => rfl) (evpos (by omega) ?_)
  rw [w5]
  refine evpos (by omega) (evpos (by omega) (evlet rfl ?_))
  rw [Int.toNat_natCast, List.length_replicate]
  have inner := down (n := n + 5) (P := fun q => Ev (fun k => spec_l13Moved.l4 k (n : Int) (Go.bits .and .i64 Y 3) ((List.range (n + 5)).map (R W H l X Y n)) (ost n (mval W H l X Y) i 0) (i : Int) (fl 0 (n + 5) (fun q => rv W H l X Y q i) q) ((n + 5 : Nat) : Int) (q : Int)) (mcol W H l X Y n n)) ?_ ?_
  · rw [fl_zero] at inner; exact inner
  · refine Ev.step (fun k => rfl) (evneg (by omega) ?_)
    rw [fl_all]
    refine down (n := n) (P := fun j => Ev (fun k => spec_l13Moved.l5 k (n : Int) (Go.bits .and .i64 Y 3) ((List.range (n + 5)).map (R W H l X Y n)) (ost n (mval W H l X Y) i j) (i : Int) ((List.range (n + 5)).map (fun q => rv W H l X Y q i)) (j : Int)) (mcol W H l X Y n n)) ?_ ?_
    · rw [ost_next hn]
      refine Ev.step (fun k => rfl) (evneg (by omega) ?_)
      rw [w64s (by omega)]; exact hnext
    · intro j hj h
      have q := quarter_s ((List.range (n + 5)).map (fun q => rv W H l X Y q i)) (j + 2) (Go.bits .and .i64 Y 3) (fun d => btw (Go.bits .and .i64 X 3) (fun e => smp W H l (X / 4 + (i : Int) + e) (Y / 4 + (j : Int) + d))) (by omega) (by simp; omega) (by simp; omega) f0 f3 (fun e e0 e3 => by
        rw [show ((j + 2 : Nat) : Int) + e = (((j + 2 : Nat) + e).toNat : Int) by omega, rd_nat, range_getD _ _ _ _ (by omega)]
        unfold rv
        rw [show Y / 4 - 2 + ((((j + 2 : Nat) : Int) + e).toNat : Int) = Y / 4 + (j : Int) + e by omega]) (fun e => btw_in _ _ fun _ => smp_bd ho _ _)
      refine Ev.step (fun k => rfl) (evpos (by omega) ?_)
      have jn : j * n + i < n * n := by rcases hn with rfl | rfl <;> omega
      rw [show wrap64 ((j : Int) + 2) = ((j + 2 : Nat) : Int) by rw [w64 (by omega) (by omega)]; omega, ← Int.natCast_mul, w64 (n := ((j * n : Nat) : Int)) (by omega) (by omega), ← Int.natCast_add, w64 (n := ((j * n + i : Nat) : Int)) (by omega) (by omega)]
      refine evlet q (evpos (by omega) (evpos (by rw [ost_len]; omega) ?_))
      rw [Int.toNat_natCast, w64s (by omega)]
      rw [← ost_set hn _ hi hj] at h
      exact h
  · intro q hq h
    refine Ev.step (fun k => rfl) (evpos (by omega) (evpos (by omega) (evpos (by simp; omega) (evpos (by omega) ?_))))
    have e : rd_L1 ((List.range (n + 5)).map (R W H l X Y n)) (q : Int) = R W H l X Y n q := by rw [rdL1n, range_getD _ _ _ _ hq]
    rw [e]
    refine evpos (by simp [R]; omega) (evpos (by rw [fl_len]; omega) ?_)
    rw [show rd (R W H l X Y n q) (i : Int) = rv W H l X Y q i by unfold R; rw [rd_nat, range_getD _ _ _ _ hi], Int.toNat_natCast, w64s (by omega)]
    rw [← fl_set] at h
    exact h
include hX hY
theorem moved_s : Ev (fun k => spec_l13Moved.f k W H l X Y (n : Int)) (mcol W H l X Y n n) := by
  obtain ⟨f0, f3⟩ := and3 X
  have w5 : wrap64 ((n : Int) + 5) = ((n + 5 : Nat) : Int) := by rw [w64 (by omega) (by omega)]; omega
  have hnn : n * n ≤ 64 := by rcases hn with rfl | rfl <;> omega
  have dX : -1024 ≤ X / 4 ∧ X / 4 ≤ 1024 := by omega
  have dY : -1024 ≤ Y / 4 ∧ Y / 4 ≤ 1024 := by omega
  unfold spec_l13Moved.f
  rw [w5]
  refine evpos (by omega) (evpos (by omega) (evlet rfl ?_))
  rw [Int.toNat_natCast, List.length_replicate]
  have outer := down (n := n + 5) (P := fun j => Ev (fun k => spec_l13Moved.l0 k (n : Int) (X / 4) (Y / 4) (Go.bits .and .i64 X 3) (Go.bits .and .i64 Y 3) (rows W H l X Y n j 0) ((n + 5 : Nat) : Int) (j : Int) W H l) (mcol W H l X Y n n)) ?_ ?_
  · rw [rows_zero (W := W) (H := H) (l := l) (X := X) (Y := Y)]; exact outer
  · refine Ev.step (fun k => rfl) (evneg (by omega) ?_)
    rw [rows_all, ← Int.natCast_mul, w64 (n := ((n * n : Nat) : Int)) (by omega) (by omega)]
    refine evpos (by omega) (evpos (by omega) ?_)
    rw [Int.toNat_natCast, ost_zero n (mval W H l X Y)]
    exact cols_s ho hn
  intro j hj hnext
  refine Ev.step (fun k => rfl) (evpos (by omega) ?_)
  rw [w5]
  refine evpos (by omega) (evpos (by omega) (evlet rfl ?_))
  rw [Int.toNat_natCast, List.length_replicate]
  have inner := down (n := n + 5) (P := fun i => Ev (fun k => spec_l13Moved.l1 k (n : Int) (X / 4) (Y / 4) (Go.bits .and .i64 X 3) (Go.bits .and .i64 Y 3) (rows W H l X Y n j 0) (j : Int) (fl 0 (n + 5) (line_ W H l X Y j) i) ((n + 5 : Nat) : Int) (j : Int) ((n + 5 : Nat) : Int) (i : Int) W H l) (mcol W H l X Y n n)) ?_ ?_
  · rw [fl_zero] at inner; exact inner
  · refine Ev.step (fun k => rfl) (evneg (by omega) ?_)
    rw [fl_all]
    refine down (n := n) (P := fun i => Ev (fun k => spec_l13Moved.l2 k (n : Int) (X / 4) (Y / 4) (Go.bits .and .i64 X 3) (Go.bits .and .i64 Y 3) (rows W H l X Y n j i) (j : Int) ((List.range (n + 5)).map (line_ W H l X Y j)) (i : Int) ((n + 5 : Nat) : Int) (j : Int) W H l) (mcol W H l X Y n n)) ?_ ?_
    · rw [rows_next]
      refine Ev.step (fun k => rfl) (evneg (by omega) ?_)
      rw [w64s (by omega)]; exact hnext
    · intro i hi h
      have q := quarter_s ((List.range (n + 5)).map (line_ W H l X Y j)) (i + 2) (Go.bits .and .i64 X 3) (fun e => smp W H l (X / 4 + (i : Int) + e) (Y / 4 - 2 + (j : Int))) (by omega) (by simp; omega) (by simp; omega) f0 f3 (fun e e0 e3 => by
        rw [show ((i + 2 : Nat) : Int) + e = (((i + 2 : Nat) + e).toNat : Int) by omega, rd_nat, range_getD _ _ _ _ (by omega)]
        unfold line_
        rw [show X / 4 - 2 + ((((i + 2 : Nat) : Int) + e).toNat : Int) = X / 4 + (i : Int) + e by omega]) (fun e => smp_bd ho _ _)
      refine Ev.step (fun k => rfl) (evpos (by omega) (evpos (by omega) (evpos (by rw [rows_len]; omega) ?_)))
      rw [show wrap64 ((i : Int) + 2) = ((i + 2 : Nat) : Int) by rw [w64 (by omega) (by omega)]; omega, rows_get hj]
      refine evlet q (evpos (by simp [R]; omega) ?_)
      rw [Int.toNat_natCast, w64s (by omega)]
      rw [← rows_set j i] at h
      exact h
  · intro i hi h
    refine Ev.step (fun k => rfl) (evpos (by omega) ?_)
    have a := at_s ho (X / 4 - 2 + (i : Int)) (Y / 4 - 2 + (j : Int))
    rw [w64 (n := X / 4 - 2) (by omega) (by omega), w64 (n := Y / 4 - 2) (by omega) (by omega), w64 (n := X / 4 - 2 + (i : Int)) (by omega) (by omega), w64 (n := Y / 4 - 2 + (j : Int)) (by omega) (by omega)]
    refine Ev.bind a (evpos (by omega) (evpos (by rw [fl_len]; omega) ?_))
    rw [Int.toNat_natCast, w64s (by omega)]
    rw [← fl_set] at h
    exact h
end
theorem moved_i (W H : Int) (S : List Int) (X Y : Int) (n : Nat) (p2 : Ev (fun k => impl_GoodPlane.f k W H S) true) (hk : pokB W H S = true) (hn : n = 4 ∨ n = 8) (hX : -4096 ≤ X ∧ X ≤ 4096) (hY : -4096 ≤ Y ∧ Y ≤ 4096) : Ev (fun k => impl_Moved.f k W H S X Y (n : Int)) (mcol W H S X Y n n) := by
  refine Ev.bind p2 (evpos rfl (evpos (by omega) (evneg (by omega) (evneg (by omega) (evneg (by omega) (evneg (by omega) (evpos hk ?_)))))))
  rw [Int.toNat_natCast]; exact Ev.now _
theorem mx_abs (d : Int) : mx d (-d) = if d < 0 then -d else d := by
  unfold mx
  (repeat' split) <;> omega
theorem abs_s (v : Int) (h0 : -1000000 ≤ v) (h1 : v ≤ 1000000) : spec_l4Abs.f v = some (mx v (-v)) := by
  rw [mx_abs]
  unfold spec_l4Abs.f
  split
  · rw [w64 (by omega) (by omega)]
  · rfl
theorem abs_i (v : Int) (h0 : -1000000 ≤ v) (h1 : v ≤ 1000000) : impl_BestMotion_2.f v = some (mx v (-v)) := by
  unfold impl_BestMotion_2.f
  rw [w64 (by omega) (by omega)]
theorem mx_bd (v n : Int) (h0 : -n ≤ v) (h1 : v ≤ n) : 0 ≤ mx v (-v) ∧ mx v (-v) ≤ n := by
  rw [mx_abs]; split <;> omega
/-! The bits of a step. -/
theorem size_both : ∀ (b m : Nat), m ≤ b → b ≤ 4096 → ∀ c : Int, 0 ≤ c → c + (m : Int) ≤ 100000 → ∃ t : Int, Ev (fun k => spec_l9Size.l0 k (m : Int) c) t ∧ Ev (fun k => impl_zbitlen.l0 k (m : Int) c) t ∧ c ≤ t ∧ t ≤ c + (m : Int)
  | b, 0, _, _, c, _, _ => ⟨c, Ev.step (fun k => rfl) (evneg (by omega) (Ev.now _)), Ev.step (fun k => rfl) (evneg (by omega) (Ev.now _)), by omega, by omega⟩
  | 0, m + 1, hb, _, _, _, _ => absurd hb (by omega)
  | b + 1, m + 1, hb, hb2, c, hc, hm => by
    obtain ⟨t, h1, h2, h3, h4⟩ := size_both b ((m + 1) / 2) (by omega) (by omega) (c + 1) (by omega) (by omega)
    refine ⟨t, Ev.step (fun k => rfl) (evpos (by omega) ?_), Ev.step (fun k => rfl) (evpos (by omega) ?_), by omega, by omega⟩
    · rw [show Int.tdiv ((m + 1 : Nat) : Int) 2 = (((m + 1) / 2 : Nat) : Int) from (Int.ofNat_tdiv _ _).symm, w64 (n := (((m + 1) / 2 : Nat) : Int)) (by omega) (by omega), w64 (by omega) (by omega)]; exact h1
    · rw [show ((m + 1 : Nat) : Int) / 2 = (((m + 1) / 2 : Nat) : Int) by omega, w64 (by omega) (by omega)]; exact h2
theorem fold_eq : ∀ m : Nat, m < 17 → spec_Fold.f ((m : Int) - 8) = impl_Fold.f ((m : Int) - 8) ∧ (∃ z : Fin 18, spec_Fold.f ((m : Int) - 8) = some (z.val : Int)) := by decide +kernel
theorem bits_both (v : Int) (h0 : -8 ≤ v) (h1 : v ≤ 8) : ∃ t : Int, Ev (fun k => spec_l13Bits.f k v) t ∧ Ev (fun k => impl_BestMotion_1.f k v) t ∧ 0 ≤ t ∧ t ≤ 20 := by
  obtain ⟨e, z, hz⟩ := fold_eq (v + 8).toNat (by omega)
  rw [show (((v + 8).toNat : Nat) : Int) - 8 = v by omega] at e hz
  have hl := z.isLt
  obtain ⟨t, g1, g2, g3, g4⟩ := size_both (z.val + 1) (z.val + 1) (Nat.le_refl _) (by omega) 0 (by omega) (by omega)
  refine ⟨t, evlet hz ?_, evlet (e ▸ hz) ?_, by omega, by omega⟩
  · have a := abs_s ((z.val + 1 : Nat) : Int) (by omega) (by omega)
    rw [mx_abs, if_neg (by omega)] at a
    rw [show wrap64 (wrap64 (z.val : Int) + 1) = ((z.val + 1 : Nat) : Int) by rw [w64 (n := (z.val : Int)) (by omega) (by omega), w64 (by omega) (by omega)]; omega]
    exact Ev.bind (evlet a g1) (Ev.now _)
  · rw [show IntKind.u64.wrap ((z.val : Int) + 1) = ((z.val + 1 : Nat) : Int) by
      have : (z.val : Int) + 1 = ((z.val + 1 : Nat) : Int) := by omega
      rw [this]
      have : z.val + 1 < 19 := by omega
      generalize z.val + 1 = q at this
      revert q; decide]
    exact Ev.bind g2 (Ev.now _)
/-! How far two squares are apart. -/
def ap (a b : List Int) : Nat → Int
  | 0 => 0
  | j + 1 => ap a b j + mx (rd a (j : Int) - rd b (j : Int)) (-(rd a (j : Int) - rd b (j : Int)))
def In255 (l : List Int) : Prop := ∀ i : Nat, i < l.length → 0 ≤ rd l (i : Int) ∧ rd l (i : Int) ≤ 255
theorem ap_bd {a b : List Int} (ha : In255 a) (hb : In255 b) (hl : a.length = b.length) : ∀ j : Nat, j ≤ a.length → 0 ≤ ap a b j ∧ ap a b j ≤ 255 * (j : Int)
  | 0, _ => ⟨Int.le_refl _, by simp [ap]⟩
  | j + 1, hj => by
    have i := ap_bd ha hb hl j (by omega)
    have x := ha j (by omega)
    have y := hb j (by omega)
    have m := mx_bd (rd a (j : Int) - rd b (j : Int)) 255 (by omega) (by omega)
    show 0 ≤ ap a b j + _ ∧ ap a b j + _ ≤ _
    omega
theorem range_i {a : List Int} (ha : In255 a) (hl : a.length ≤ 64) : Ev (fun k => impl_zrange.f k a 0 255 64) true := by
  refine evneg (by omega) ?_
  refine down (n := a.length) (P := fun i => Ev (fun k => impl_zrange.l0 k 0 255 a (a.length : Int) (i : Int)) true) ?_ ?_
  · exact Ev.step (fun k => rfl) (evneg (by omega) (Ev.now _))
  · intro i hi h
    have x := ha i hi
    refine Ev.step (fun k => rfl) (evpos (by omega) (evpos (by omega) (evpos (by omega) (evneg (by omega) (evneg (by omega) ?_)))))
    rw [w64s (by omega)]; exact h
theorem apart_both {a b : List Int} (ha : In255 a) (hb : In255 b) (hl : a.length = b.length) (h64 : a.length ≤ 64) : Ev (fun k => spec_l13Apart.f k a b) (ap a b a.length) ∧ Ev (fun k => impl_Apart.f k a b) (ap a b a.length) := by
  have sp := down (n := a.length) (P := fun i => Ev (fun k => spec_l13Apart.l0 k a b (ap a b i) (a.length : Int) (i : Int)) (ap a b a.length)) ?_ ?_
  · have im := down (n := a.length) (P := fun i => Ev (fun k => impl_Apart.l0 k a b (ap a b i) (a.length : Int) (i : Int)) (ap a b a.length)) ?_ ?_
    · refine ⟨sp, evpos (by omega) (Ev.bind (range_i ha h64) (evpos rfl (Ev.bind (range_i hb (by omega)) (show Ev (fun k => impl_Apart.j0 k a b false) _ from Ev.step (fun k => rfl) im))))⟩
    · exact Ev.step (fun k => rfl) (evneg (by omega) (Ev.now _))
    · intro i hi h
      have x := ha i hi
      have y := hb i (by omega)
      have m := mx_bd (rd a (i : Int) - rd b (i : Int)) 255 (by omega) (by omega)
      have p := ap_bd ha hb hl i (by omega)
      refine Ev.step (fun k => rfl) (evpos (by omega) (evpos (by omega) (evpos (by omega) (evpos (by omega) ?_))))
      rw [w64s (by omega), w64 (n := rd a (i : Int) - rd b (i : Int)) (by omega) (by omega), w64 (n := rd b (i : Int) - rd a (i : Int)) (by omega) (by omega), show rd b (i : Int) - rd a (i : Int) = -(rd a (i : Int) - rd b (i : Int)) by omega, w64 (by omega) (by omega)]
      exact h
  · exact Ev.step (fun k => rfl) (evneg (by omega) (Ev.now _))
  · intro i hi h
    have x := ha i hi
    have y := hb i (by omega)
    have m := mx_bd (rd a (i : Int) - rd b (i : Int)) 255 (by omega) (by omega)
    have p := ap_bd ha hb hl i (by omega)
    refine Ev.step (fun k => rfl) (evpos (by omega) (evpos (by omega) (evpos (by omega) (evpos (by omega) ?_))))
    rw [w64s (by omega), w64 (n := rd a (i : Int) - rd b (i : Int)) (by omega) (by omega)]
    refine evlet (abs_s _ (by omega) (by omega)) ?_
    rw [w64 (by omega) (by omega)]
    exact h
theorem mcol_255 {W H : Int} {l : List Int} (ho : PlaneOk W H l) (X Y : Int) (n : Nat) (hn : 0 < n) : In255 (mcol W H l X Y n n) := by
  intro i hi
  rw [mcol_len] at hi
  rw [mcol_map _ _ _ _ _ _ hn, rd_nat, range_getD _ _ _ _ hi]
  exact btw_in _ _ fun _ => btw_in _ _ fun _ => smp_bd ho _ _
/-! The square itself. -/
def sq (W : Int) (l : List Int) (x y : Int) (n : Nat) : Nat → List Int
  | 0 => []
  | j + 1 => sq W l x y n j ++ (l.take ((y + (j : Int)) * W + x + (n : Int)).toNat).drop ((y + (j : Int)) * W + x).toNat
theorem mem_255 {W H : Int} {l : List Int} (ho : PlaneOk W H l) {v : Int} (hv : v ∈ l) : 0 ≤ v ∧ v ≤ 255 := by
  obtain ⟨i, hi, rfl⟩ := List.getElem_of_mem hv
  have := ho.v (i : Int)
  rw [rd_nat, List.getD_eq_getElem?_getD, List.getElem?_eq_getElem hi] at this
  exact this
theorem sq_mem {W : Int} {l : List Int} (x y : Int) (n : Nat) : ∀ (j : Nat) (v : Int), v ∈ sq W l x y n j → v ∈ l
  | 0, v, h => by simp [sq] at h
  | j + 1, v, h => by
    rcases List.mem_append.1 h with h | h
    · exact sq_mem x y n j v h
    · exact List.mem_of_mem_take (List.mem_of_mem_drop h)
theorem sq_255 {W H : Int} {l : List Int} (ho : PlaneOk W H l) (x y : Int) (n j : Nat) : In255 (sq W l x y n j) := by
  intro i hi
  rw [rd_nat, List.getD_eq_getElem?_getD, List.getElem?_eq_getElem hi]
  exact mem_255 ho (sq_mem x y n j _ (List.getElem_mem hi))
section
variable {W H : Int} {l : List Int} (ho : PlaneOk W H l) {n : Nat} (hn : n = 4 ∨ n = 8) {x y : Int} (hx : 0 ≤ x ∧ x ≤ W - (n : Int)) (hy : 0 ≤ y ∧ y ≤ H - (n : Int))
include ho hx hy in
theorem sq_at {j : Nat} (hj : j < n) : 0 ≤ (y + (j : Int)) * W ∧ (y + (j : Int)) * W + x + (n : Int) ≤ (l.length : Int) ∧ (l.length : Int) ≤ 262144 ∧ y + (j : Int) ≤ 512 := by
  obtain ⟨w1, w2⟩ := ho.w
  obtain ⟨h1, h2⟩ := ho.h
  have m0 : 0 ≤ (y + (j : Int)) * W := Int.mul_nonneg (by omega) (by omega)
  have m1 : (y + (j : Int)) * W ≤ (H - 1) * W := Int.mul_le_mul_of_nonneg_right (by omega) (by omega)
  have m2 : (H - 1) * W = W * H - W := by rw [Int.sub_mul, Int.one_mul, Int.mul_comm]
  have m3 : W * H ≤ 512 * H := Int.mul_le_mul_of_nonneg_right w2 (by omega)
  rw [ho.len]
  omega
include ho hx hy in
theorem sq_len : ∀ j : Nat, j ≤ n → (sq W l x y n j).length = n * j
  | 0, _ => rfl
  | j + 1, hj => by
    obtain ⟨a, b, c, d⟩ := sq_at ho hx hy (show j < n by omega)
    show (sq W l x y n j ++ _).length = _
    rw [List.length_append, sq_len j (by omega), List.length_drop, List.length_take, Nat.mul_succ]
    generalize n * j = q
    generalize (y + (j : Int)) * W = m at a b
    omega
include ho hn hx hy in
theorem square_both : Ev (fun k => spec_l13Square.f k W H l x y (n : Int)) (sq W l x y n n) ∧ Ev (fun k => impl_zsquare.f k W H l x y (n : Int)) (sq W l x y n n) := by
  obtain ⟨w1, w2⟩ := ho.w
  obtain ⟨h1, h2⟩ := ho.h
  have step : ∀ j : Nat, j < n → wrap64 (wrap64 (wrap64 (y + (j : Int)) * W) + x) = (y + (j : Int)) * W + x ∧ wrap64 ((y + (j : Int)) * W + x + (n : Int)) = (y + (j : Int)) * W + x + (n : Int) := by
    intro j hj
    obtain ⟨a, b, c, d⟩ := sq_at ho hx hy hj
    rw [w64 (n := y + (j : Int)) (by omega) (by omega)]
    generalize (y + (j : Int)) * W = m at a b
    rw [w64 (n := m) (by omega) (by omega)]
    exact ⟨w64 (by omega) (by omega), w64 (by omega) (by omega)⟩
  have room : ∀ j : Nat, j < n → (sq W l x y n j).length + ((l.take ((y + (j : Int)) * W + x + (n : Int)).toNat).drop ((y + (j : Int)) * W + x).toNat).length < 17592186044416 := by
    intro j hj
    have := sq_len ho hx hy (j + 1) (by omega)
    rw [show sq W l x y n (j + 1) = sq W l x y n j ++ _ from rfl, List.length_append] at this
    rw [this]
    have : n * (j + 1) ≤ 8 * 8 := Nat.mul_le_mul (by omega) (by omega)
    omega
  refine ⟨down (n := n) (P := fun j => Ev (fun k => spec_l13Square.l0 k x y (n : Int) (sq W l x y n j) (j : Int) W H l) (sq W l x y n n)) ?_ ?_, down (n := n) (P := fun j => Ev (fun k => impl_zsquare.l0 k x y (n : Int) (sq W l x y n j) (n : Int) (j : Int) W H l) (sq W l x y n n)) ?_ ?_⟩
  · exact Ev.step (fun k => rfl) (evneg (by omega) (Ev.now _))
  · intro j hj h
    obtain ⟨a, b, c, d⟩ := sq_at ho hx hy hj
    obtain ⟨s1, s2⟩ := step j hj
    refine Ev.step (fun k => rfl) (evpos (by omega) ?_)
    rw [s1, s2]
    refine evpos (by omega) (evpos (by omega) (evpos (by omega) (evpos (room j hj) ?_)))
    rw [w64s (by omega)]; exact h
  · exact Ev.step (fun k => rfl) (evneg (by omega) (Ev.now _))
  · intro j hj h
    obtain ⟨a, b, c, d⟩ := sq_at ho hx hy hj
    obtain ⟨s1, s2⟩ := step j hj
    refine Ev.step (fun k => rfl) (evpos (by omega) ?_)
    rw [s1, s2]
    refine evpos (by omega) (evpos (by omega) (evpos (by omega) (evpos (room j hj) ?_)))
    rw [w64s (by omega)]; exact h
end
/-! The search. -/
theorem nearer_s (h v c a b d : Int) (hh : -8 ≤ h ∧ h ≤ 8) (hv : -8 ≤ v ∧ v ≤ 8) (ha : -8 ≤ a ∧ a ≤ 8) (hb : -8 ≤ b ∧ b ≤ 8) (hpos : b < v ∨ b = v ∧ a < h) :
    spec_l13Nearer.f h v c a b d = some (decide (c < d ∨ c = d ∧ mx h (-h) + mx v (-v) < mx a (-a) + mx b (-b))) := by
  have e1 := mx_bd h 8 (by omega) (by omega)
  have e2 := mx_bd v 8 (by omega) (by omega)
  have e3 := mx_bd a 8 (by omega) (by omega)
  have e4 := mx_bd b 8 (by omega) (by omega)
  unfold spec_l13Nearer.f
  rw [abs_s h (by omega) (by omega), abs_s v (by omega) (by omega), abs_s a (by omega) (by omega), abs_s b (by omega) (by omega), Option.bind_some, Option.bind_some, Option.bind_some, Option.bind_some, w64 (n := mx h (-h) + mx v (-v)) (by omega) (by omega), w64 (n := mx a (-a) + mx b (-b)) (by omega) (by omega)]
  generalize mx h (-h) + mx v (-v) = p
  generalize mx a (-a) + mx b (-b) = q
  (repeat' split) <;> exact congrArg some (decide_eq_decide.2 (by omega))
section
variable {W H : Int} {S S2 : List Int} (ho : PlaneOk W H S) (ho2 : PlaneOk W H S2) {n : Nat} (hn : n = 4 ∨ n = 8) {x y : Int} (hx : 0 ≤ x ∧ x ≤ W - (n : Int)) (hy : 0 ≤ y ∧ y ≤ H - (n : Int)) {r wt : Int} (hr : 0 ≤ r ∧ r ≤ 2) (gp : Ev (fun k => impl_GoodPlane.f k W H S) true) (hk : pokB W H S = true)
include ho ho2 hn hx hy gp hk in
theorem cost_both (h v : Int) (hh : -8 ≤ h ∧ h ≤ 8) (hv : -8 ≤ v ∧ v ≤ 8) : ∃ (t : List Int) (u b1 b2 c : Int),
    Ev (fun k => spec_l13Moved.f k W H S (wrap64 (wrap64 (4 * x) + h)) (wrap64 (wrap64 (4 * y) + v)) (n : Int)) t ∧ Ev (fun k => impl_Moved.f k W H S (wrap64 (wrap64 (4 * x) + h)) (wrap64 (wrap64 (4 * y) + v)) (n : Int)) t ∧
    Ev (fun k => spec_l13Apart.f k t (sq W S2 x y n n)) u ∧ Ev (fun k => impl_Apart.f k t (sq W S2 x y n n)) u ∧
    Ev (fun k => spec_l13Bits.f k h) b1 ∧ Ev (fun k => impl_BestMotion_1.f k h) b1 ∧ Ev (fun k => spec_l13Bits.f k v) b2 ∧ Ev (fun k => impl_BestMotion_1.f k v) b2 ∧ wrap64 (u + wrap64 (wt * wrap64 (b1 + b2))) = c := by
  obtain ⟨w1, w2⟩ := ho.w
  obtain ⟨h1, h2⟩ := ho.h
  have eX : wrap64 (wrap64 (4 * x) + h) = 4 * x + h := by rw [w64 (n := 4 * x) (by omega) (by omega), w64 (by omega) (by omega)]
  have eY : wrap64 (wrap64 (4 * y) + v) = 4 * y + v := by rw [w64 (n := 4 * y) (by omega) (by omega), w64 (by omega) (by omega)]
  have lm : (mcol W H S (4 * x + h) (4 * y + v) n n).length = (sq W S2 x y n n).length := by rw [mcol_len, sq_len ho2 hx hy n (Nat.le_refl _)]
  have l64 : (mcol W H S (4 * x + h) (4 * y + v) n n).length ≤ 64 := by rw [mcol_len]; rcases hn with rfl | rfl <;> omega
  obtain ⟨a1, a2⟩ := apart_both (mcol_255 ho (4 * x + h) (4 * y + v) n (by omega)) (sq_255 ho2 x y n n) lm l64
  obtain ⟨b1, c1, c2, _, _⟩ := bits_both h hh.1 hh.2
  obtain ⟨b2, c3, c4, _, _⟩ := bits_both v hv.1 hv.2
  have ms := moved_s ho hn (X := 4 * x + h) (Y := 4 * y + v) (by omega) (by omega)
  have mi := moved_i W H S (4 * x + h) (4 * y + v) n gp hk hn (by omega) (by omega)
  rw [eX, eY]
  exact ⟨_, _, b1, b2, _, ms, mi, a1, a2, c1, c2, c3, c4, rfl⟩
include ho ho2 hn hx hy hr gp hk
theorem search_both : ∃ R : Int × Int × Int, Ev (fun k => spec_l13Best.l0 k x y (n : Int) r wt (sq W S2 x y n n) true (wrap64 ((-4) * r)) W H S 0 0 0) R ∧ Ev (fun k => impl_BestMotion.l0 k x y (n : Int) r wt (sq W S2 x y n n) false (wrap64 ((-4) * r)) W H S 0 0 0) R := by
  obtain ⟨m, hm⟩ : ∃ m : Nat, 4 * r = (m : Int) := ⟨(4 * r).toNat, by omega⟩
  have m8 : m ≤ 8 := by omega
  have e4 : wrap64 (4 * r) = (m : Int) := by rw [w64 (by omega) (by omega)]; exact hm
  have e5 : wrap64 ((-4) * r) = -(m : Int) := by rw [w64 (by omega) (by omega)]; omega
  rw [e5]
  have outer := down (n := 2 * m + 1) (P := fun i => ∀ (f : Bool) (a b c : Int), (f = true → (-8 ≤ a ∧ a ≤ 8) ∧ (-8 ≤ b ∧ b ≤ 8) ∧ b < -(m : Int) + (i : Int)) → ∃ R : Int × Int × Int, Ev (fun k => spec_l13Best.l0 k x y (n : Int) r wt (sq W S2 x y n n) (!f) (-(m : Int) + (i : Int)) W H S a b c) R ∧ Ev (fun k => impl_BestMotion.l0 k x y (n : Int) r wt (sq W S2 x y n n) f (-(m : Int) + (i : Int)) W H S a b c) R) ?_ ?_
  · have := outer false 0 0 0 (fun h => absurd h (by decide))
    rw [show -(m : Int) + ((0 : Nat) : Int) = -(m : Int) by omega] at this
    exact this
  · intro f a b c _
    refine ⟨(a, b, c), Ev.step (fun k => rfl) (evneg ?_ (Ev.now _)), Ev.step (fun k => rfl) (evneg ?_ (Ev.now _))⟩
    all_goals rw [e4]; omega
  intro i hi next f a b c hf
  have inner := down (n := 2 * m + 1) (P := fun j => ∀ (f : Bool) (a b c : Int), (f = true → (-8 ≤ a ∧ a ≤ 8) ∧ (-8 ≤ b ∧ b ≤ 8) ∧ (b < -(m : Int) + (i : Int) ∨ b = -(m : Int) + (i : Int) ∧ a < -(m : Int) + (j : Int))) → ∃ R : Int × Int × Int, Ev (fun k => spec_l13Best.l1 k x y (n : Int) r wt (sq W S2 x y n n) (!f) (-(m : Int) + (i : Int)) (-(m : Int) + (j : Int)) W H S a b c) R ∧ Ev (fun k => impl_BestMotion.l1 k x y (n : Int) r wt (sq W S2 x y n n) f (-(m : Int) + (i : Int)) (-(m : Int) + (j : Int)) W H S a b c) R) ?_ ?_
  · obtain ⟨R, g1, g2⟩ := inner f a b c (fun h => ⟨(hf h).1, (hf h).2.1, Or.inl (hf h).2.2⟩)
    rw [show -(m : Int) + ((0 : Nat) : Int) = -(m : Int) by omega] at g1 g2
    refine ⟨R, Ev.step (fun k => rfl) (evpos (by rw [e4]; omega) ?_), Ev.step (fun k => rfl) (evpos (by rw [e4]; omega) ?_)⟩
    · rw [e5]; exact g1
    · rw [e5]; exact g2
  · intro f a b c hf
    obtain ⟨R, g1, g2⟩ := next f a b c (fun h => ⟨(hf h).1, (hf h).2.1, by have := (hf h).2.2; omega⟩)
    refine ⟨R, Ev.step (fun k => rfl) (evneg (by rw [e4]; omega) ?_), Ev.step (fun k => rfl) (evneg (by rw [e4]; omega) ?_)⟩
    all_goals rw [show wrap64 (-(m : Int) + (i : Int) + 1) = -(m : Int) + ((i + 1 : Nat) : Int) by rw [w64 (by omega) (by omega)]; omega]
    · exact g1
    · exact g2
  intro j hj next2 f a b c hf
  have wj : wrap64 (-(m : Int) + (j : Int) + 1) = -(m : Int) + ((j + 1 : Nat) : Int) := by rw [w64 (by omega) (by omega)]; omega
  have hhb : -8 ≤ -(m : Int) + (j : Int) ∧ -(m : Int) + (j : Int) ≤ 8 := by omega
  have hvb : -8 ≤ -(m : Int) + (i : Int) ∧ -(m : Int) + (i : Int) ≤ 8 := by omega
  obtain ⟨t, u, b1, b2, C, k1, k2, k3, k4, k5, k6, k7, k8, k9⟩ := cost_both (wt := wt) ho ho2 hn hx hy gp hk (-(m : Int) + (j : Int)) (-(m : Int) + (i : Int)) hhb hvb
  have le4 : -(m : Int) + (j : Int) ≤ wrap64 (4 * r) := by rw [e4]; omega
  generalize hh : -(m : Int) + (j : Int) = h at *
  generalize hv : -(m : Int) + (i : Int) = v at *
  have take : ∃ R : Int × Int × Int, Ev (fun k => spec_l13Best.l1 k x y (n : Int) r wt (sq W S2 x y n n) false v (wrap64 (h + 1)) W H S h v C) R ∧ Ev (fun k => impl_BestMotion.l1 k x y (n : Int) r wt (sq W S2 x y n n) true v (wrap64 (h + 1)) W H S h v C) R := by
    rw [wj]
    exact next2 true h v C (fun _ => ⟨hhb, hvb, Or.inr ⟨rfl, by omega⟩⟩)
  cases f with
  | false =>
    obtain ⟨R, g1, g2⟩ := take
    refine ⟨R, Ev.step (fun k => rfl) (evpos le4 (Ev.bind k1 (Ev.bind k3 (Ev.bind k5 (Ev.bind k7 (evpos rfl ?_)))))), Ev.step (fun k => rfl) (evpos le4 (Ev.bind k2 (Ev.bind k4 (Ev.bind k6 (Ev.bind k8 (evneg (by decide) ?_))))))⟩
    · rw [k9]; exact g1
    · rw [k9]; exact g2
  | true =>
    obtain ⟨ha, hb, hp⟩ := hf rfl
    have nr := nearer_s h v C a b c hhb hvb ha hb hp
    have keep : ∃ R : Int × Int × Int, Ev (fun k => spec_l13Best.l1 k x y (n : Int) r wt (sq W S2 x y n n) false v (wrap64 (h + 1)) W H S a b c) R ∧ Ev (fun k => impl_BestMotion.l1 k x y (n : Int) r wt (sq W S2 x y n n) true v (wrap64 (h + 1)) W H S a b c) R := by
      rw [wj]
      exact next2 true a b c (fun _ => ⟨ha, hb, by omega⟩)
    have z1 := mx_bd h 8 (by omega) (by omega)
    have z2 := mx_bd v 8 (by omega) (by omega)
    have z3 := mx_bd a 8 (by omega) (by omega)
    have z4 := mx_bd b 8 (by omega) (by omega)
    by_cases near : C < c ∨ C = c ∧ mx h (-h) + mx v (-v) < mx a (-a) + mx b (-b)
    · rw [decide_eq_true near] at nr
      obtain ⟨R, g1, g2⟩ := take
      refine ⟨R, Ev.step (fun k => rfl) (evpos le4 (Ev.bind k1 (Ev.bind k3 (Ev.bind k5 (Ev.bind k7 (evneg (by decide) ?_)))))), Ev.step (fun k => rfl) (evpos le4 (Ev.bind k2 (Ev.bind k4 (Ev.bind k6 (Ev.bind k8 (evpos rfl ?_))))))⟩
      · rw [k9]; exact evlet nr (evpos rfl g1)
      · rw [k9]
        by_cases c1 : C < c
        · exact evpos c1 g2
        · refine evneg c1 (evpos (by omega) (evlet (abs_i h (by omega) (by omega)) (evlet (abs_i v (by omega) (by omega)) (evlet (abs_i a (by omega) (by omega)) (evlet (abs_i b (by omega) (by omega)) (evpos ?_ g2))))))
          rw [w64 (by omega) (by omega), w64 (by omega) (by omega)]; omega
    · rw [decide_eq_false near] at nr
      obtain ⟨R, g1, g2⟩ := keep
      refine ⟨R, Ev.step (fun k => rfl) (evpos le4 (Ev.bind k1 (Ev.bind k3 (Ev.bind k5 (Ev.bind k7 (evneg (by decide) ?_)))))), Ev.step (fun k => rfl) (evpos le4 (Ev.bind k2 (Ev.bind k4 (Ev.bind k6 (Ev.bind k8 (evpos rfl ?_))))))⟩
      · rw [k9]; exact evlet nr (evneg (by decide) g1)
      · rw [k9]
        by_cases c1 : C = c
        · refine evneg (by omega) (evpos c1 (evlet (abs_i h (by omega) (by omega)) (evlet (abs_i v (by omega) (by omega)) (evlet (abs_i a (by omega) (by omega)) (evlet (abs_i b (by omega) (by omega)) (evneg ?_ g2))))))
          rw [w64 (by omega) (by omega), w64 (by omega) (by omega)]; omega
        · exact evneg (by omega) (evneg c1 g2)
end
def iG (k : Nat) (a0_0 : Int) (a0_1 : Int) (l0_2 : List Int) (a1_0 : Int) (a1_1 : Int) (l1_2 : List Int) (a2 : Int) (a3 : Int) (a4 : Int) (a5 : Int) (a6 : Int) : Option (Int × Int × Int) := if a5 < 0 then (impl_BestMotion.j0 k a2 a3 a4 a5 a6 true a0_0 a0_1 l0_2 a1_0 a1_1 l1_2) else (if a5 > 2 then (impl_BestMotion.j0 k a2 a3 a4 a5 a6 true a0_0 a0_1 l0_2 a1_0 a1_1 l1_2) else (if a6 < 0 then (impl_BestMotion.j0 k a2 a3 a4 a5 a6 true a0_0 a0_1 l0_2 a1_0 a1_1 l1_2) else (if a6 > 64 then (impl_BestMotion.j0 k a2 a3 a4 a5 a6 true a0_0 a0_1 l0_2 a1_0 a1_1 l1_2) else (if a2 < 0 then (impl_BestMotion.j0 k a2 a3 a4 a5 a6 true a0_0 a0_1 l0_2 a1_0 a1_1 l1_2) else (if a3 < 0 then (impl_BestMotion.j0 k a2 a3 a4 a5 a6 true a0_0 a0_1 l0_2 a1_0 a1_1 l1_2) else (if a2 > (wrap64 (a1_0 - a4)) then (impl_BestMotion.j0 k a2 a3 a4 a5 a6 true a0_0 a0_1 l0_2 a1_0 a1_1 l1_2) else (impl_BestMotion.j0 k a2 a3 a4 a5 a6 (decide (a3 > (wrap64 (a1_1 - a4)))) a0_0 a0_1 l0_2 a1_0 a1_1 l1_2)))))))
theorem best_both (W H : Int) (S : List Int) (W2 H2 : Int) (S2 : List Int) (x y n r wt : Int) (hS : S.length ≤ 1048576) (hS2 : S2.length ≤ 1048576) (hn0 : -9223372036854775808 ≤ n) (hn1 : n ≤ 9223372036854775807) : ∃ a b c : Int, Ev (fun k => spec_BestMotion.f k W H S W2 H2 S2 x y n r wt) (a, b, c) ∧ Ev (fun k => impl_BestMotion.f k W H S W2 H2 S2 x y n r wt) (a, b, c) := by
  obtain ⟨q1, p1, p2, p3⟩ := plane_both W H S hS
  obtain ⟨q2, p4, p5, p6⟩ := plane_both W2 H2 S2 hS2
  have sT : Ev (fun k => spec_BestMotion.j0 k x y n r wt true W H S W2 H2 S2) (0, 0, 0) := Ev.step (fun k => rfl) (Ev.now _)
  have iT : Ev (fun k => impl_BestMotion.j0 k x y n r wt true W H S W2 H2 S2) (0, 0, 0) := Ev.step (fun k => rfl) (Ev.now _)
  cases q1 with
  | false => exact ⟨0, 0, 0, Ev.bind p1 (evneg (by decide) sT), Ev.bind p2 (evneg (by decide) iT)⟩
  | true =>
  cases q2 with
  | false => exact ⟨0, 0, 0, Ev.bind p1 (evpos rfl (Ev.bind p4 (evneg (by decide) sT))), Ev.bind p2 (evpos rfl (Ev.bind p5 (evneg (by decide) iT)))⟩
  | true =>
  by_cases cw : W = W2
  case neg => exact ⟨0, 0, 0, Ev.bind p1 (evpos rfl (Ev.bind p4 (evpos rfl (evneg cw sT)))), Ev.bind p2 (evpos rfl (Ev.bind p5 (evpos rfl (evneg cw iT))))⟩
  by_cases ch : H = H2
  case neg => exact ⟨0, 0, 0, Ev.bind p1 (evpos rfl (Ev.bind p4 (evpos rfl (evpos cw (evneg ch sT))))), Ev.bind p2 (evpos rfl (Ev.bind p5 (evpos rfl (evpos cw (evneg ch iT)))))⟩
  by_cases cn : n = 4 ∨ n = 8
  case neg =>
    have e : (n != 8) = true := by rw [bne_iff_ne]; omega
    refine ⟨0, 0, 0, Ev.bind p1 (evpos rfl (Ev.bind p4 (evpos rfl (evpos cw (evpos ch (evneg (by omega) ?_)))))), Ev.bind p2 (evpos rfl (Ev.bind p5 (evpos rfl (evpos cw (evpos ch (evneg (by omega) (evneg (by omega) iT)))))))⟩
    rw [e]; exact sT
  obtain ⟨ho, hk⟩ := p3 rfl
  have ho2 := (p6 rfl).1
  subst cw ch
  obtain ⟨w1, w2⟩ := ho.w
  obtain ⟨h1, h2⟩ := ho.h
  have eW : wrap64 (W - n) = W - n := w64 (by omega) (by omega)
  have eH : wrap64 (H - n) = H - n := w64 (by omega) (by omega)
  have sf : ∀ R, Ev (fun k => spec_BestMotion.j0 k x y n r wt false W H S W H S2) R → Ev (fun k => spec_BestMotion.f k W H S W H S2 x y n r wt) R := by
    intro R g
    refine Ev.bind p1 (evpos rfl (Ev.bind p4 (evpos rfl (evpos rfl (evpos rfl ?_)))))
    rcases cn with rfl | rfl
    · exact evpos rfl g
    · exact evneg (by decide) g
  have im : ∀ R, Ev (fun k => iG k W H S W H S2 x y n r wt) R → Ev (fun k => impl_BestMotion.f k W H S W H S2 x y n r wt) R := by
    intro R g
    refine Ev.bind p2 (evpos rfl (Ev.bind p5 (evpos rfl (evpos rfl (evpos rfl ?_)))))
    rcases cn with rfl | rfl
    · exact evpos rfl g
    · exact evneg (by decide) (evpos rfl g)
  by_cases C : (0 ≤ x ∧ 0 ≤ y) ∧ (x ≤ W - n ∧ y ≤ H - n) ∧ (0 ≤ r ∧ r ≤ 2) ∧ (0 ≤ wt ∧ wt ≤ 64)
  case neg =>
    refine ⟨0, 0, 0, sf _ ?_, im _ ?_⟩
    · refine Ev.step (fun k => rfl) ?_
      by_cases c1 : x < 0
      · exact evpos c1 (Ev.now _)
      refine evneg c1 ?_
      by_cases c2 : y < 0
      · exact evpos c2 (Ev.now _)
      refine evneg c2 ?_
      by_cases c3 : x > wrap64 (W - n)
      · exact evpos c3 (Ev.now _)
      refine evneg c3 ?_
      by_cases c4 : y > wrap64 (H - n)
      · exact evpos c4 (Ev.now _)
      refine evneg c4 ?_
      by_cases c5 : r < 0
      · exact evpos c5 (Ev.now _)
      refine evneg c5 ?_
      by_cases c6 : r > 2
      · exact evpos c6 (Ev.now _)
      refine evneg c6 ?_
      by_cases c7 : wt < 0
      · exact evpos c7 (Ev.now _)
      refine evneg c7 ?_
      by_cases c8 : wt > 64
      · exact evpos c8 (Ev.now _)
      exact absurd ⟨⟨by omega, by omega⟩, ⟨by omega, by omega⟩, ⟨by omega, by omega⟩, by omega, by omega⟩ C
    · unfold iG
      rw [eW, eH]
      by_cases c5 : r < 0
      · exact evpos c5 iT
      refine evneg c5 ?_
      by_cases c6 : r > 2
      · exact evpos c6 iT
      refine evneg c6 ?_
      by_cases c7 : wt < 0
      · exact evpos c7 iT
      refine evneg c7 ?_
      by_cases c8 : wt > 64
      · exact evpos c8 iT
      refine evneg c8 ?_
      by_cases c1 : x < 0
      · exact evpos c1 iT
      refine evneg c1 ?_
      by_cases c2 : y < 0
      · exact evpos c2 iT
      refine evneg c2 ?_
      by_cases c3 : x > W - n
      · exact evpos c3 iT
      refine evneg c3 ?_
      by_cases c4 : y > H - n
      · rw [decide_eq_true c4]; exact iT
      exact absurd ⟨⟨by omega, by omega⟩, ⟨by omega, by omega⟩, ⟨by omega, by omega⟩, by omega, by omega⟩ C
  obtain ⟨⟨x0, y0⟩, ⟨x1, y1⟩, hr, hw⟩ := C
  obtain ⟨m, rfl⟩ : ∃ m : Nat, n = (m : Int) := ⟨n.toNat, by omega⟩
  have hm : m = 4 ∨ m = 8 := by omega
  obtain ⟨q1, q2⟩ := square_both ho2 hm ⟨x0, x1⟩ ⟨y0, y1⟩
  obtain ⟨⟨a, b, c⟩, g1, g2⟩ := search_both ho ho2 hm ⟨x0, x1⟩ ⟨y0, y1⟩ hr p2 hk
  refine ⟨a, b, c, sf _ ?_, im _ ?_⟩
  · refine Ev.step (fun k => rfl) ?_
    exact evneg (by omega) (evneg (by omega) (evneg (by omega) (evneg (by omega) (evneg (by omega) (evneg (by omega) (evneg (by omega) (evneg (by omega) (Ev.bind (a := (a, b, c)) (Ev.bind q1 g1) (Ev.now _)))))))))
  · unfold iG
    rw [eW, eH]
    refine evneg (by omega) (evneg (by omega) (evneg (by omega) (evneg (by omega) (evneg (by omega) (evneg (by omega) (evneg (by omega) ?_))))))
    rw [decide_eq_false (by omega)]
    exact Ev.step (fun k => rfl) (Ev.bind q2 g2)
theorem FnExactBestMotion : laws_FnExactBestMotion.Pure := by
  intro W H S W2 H2 S2 x y n r wt ⟨_, _, hS, _⟩ ⟨_, _, hS2, _⟩ _ _ hn _ _
  refine Ev.rounds ?_
  have hn := wfi hn
  obtain ⟨z, s0, s1, s2⟩ := szPlane W H S 1048576 hS (by omega) (by omega)
  by_cases c : z < 0
  · exact Ev.bind s0 (evpos c (Ev.now _))
  have sl := s2 (by omega)
  obtain ⟨z2, u0, u1, u2⟩ := szPlane W2 H2 S2 z hS2 (by omega) (by omega)
  by_cases c2 : z2 < 0
  · exact Ev.bind s0 (evneg c (Ev.bind u0 (evpos c2 (Ev.now _))))
  have sl2 := u2 (by omega)
  have t := toPlane W H S sl
  have t2 := toPlane W2 H2 S2 sl2
  obtain ⟨a, b, d, h1, h2⟩ := best_both W H S W2 H2 S2 x y n r wt sl sl2 hn.1 hn.2
  have es := eqPlane W H S (by omega)
  have es2 := eqPlane W2 H2 S2 (by omega)
  have em : laws_eqMotion.f a b d a b d = some true := by unfold laws_eqMotion.f; rw [if_pos rfl, if_pos rfl, if_pos rfl]
  exact Ev.bind s0 (evneg c (Ev.bind u0 (evneg c2 (Ev.bind t (Ev.bind t2 (Ev.bind h1 (Ev.bind t (Ev.bind t2 (Ev.bind h2 (evlet em (evpos rfl (Ev.bind t (Ev.bind es (evpos rfl (Ev.bind t2 (Ev.bind es2 (evpos rfl (Ev.now _))))))))))))))))))
end Go.Proofs.Ytglaedjadlappaa.Pure

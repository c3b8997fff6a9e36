/- FnExactResize: the program's Resize answers as the reference at every argument. -/
import Derived.Test.YtmnihpedokeggaaPFnExactResizex0
import Derived.Test.YtmnihpedokeggaaPFnExactResizex1
import Derived.Test.YtmnihpedokeggaaPFnExactResizex2
import Derived.Test.YtmnihpedokeggaaPFnExactResizex3
import Derived.Test.YtmnihpedokeggaaPFnExactResizex4
import Derived.Test.YtmnihpedokeggaaPFnExactResizex5
import Derived.Test.YtmnihpedokeggaaPFnExactResizex6
import Derived.Test.YtmnihpedokeggaaK
namespace Go.Proofs.Ytmnihpedokeggaa.Pure
open Go.RowKit Go.Proofs.Ytmnihpedokeggaa.PFnExactResize Go.Proofs.Ytmnihpedokeggaa.K Go.Proofs.YtmnihpedokeggaaW.PrintWords Go.Proofs.YtmnihpedokeggaaW.PrintLast Go.Proofs.YtmnihpedokeggaaW.PrintMore

theorem rdT48 (l : List S48) (i : Nat) : rd_T48 l (i : Int) = l.getD i z48 := by simp [rd_T48]
theorem rdL1n (l : List (List Int)) (i : Nat) : rd_L1 l (i : Int) = l.getD i ([] : List Int) := by simp [rd_L1]
theorem toIntS (l : List Int) (hl : l.length ≤ 1048576) : Ev (fun k => laws_toIntS.f k l) l := by
  refine evpos (by omega) (evpos (by omega) ?_)
  have := down (n := l.length) (P := fun i => Ev (fun k => laws_toIntS.l0 k l (fl 0 l.length (fun j => l.getD j 0) i) (i : Int)) l) ?_ ?_
  · rw [fl_zero] at this; exact this
  · refine Ev.step (fun k => rfl) (evneg (by omega) ?_)
    rw [fl_all]
    have e := map_range_get l 0 id
    try simp only [id_eq, List.map_id_fun] at e
    rw [e]; exact Ev.now _
  · intro i hi h
    refine Ev.step (fun k => rfl) (evpos (by omega) (evpos (by omega) (evpos (by rw [fl_len]; omega) ?_)))
    rw [w64s (by omega), rd_nat, getD_lt hi, Int.toNat_natCast]
    rw [← fl_set, getD_lt hi] at h
    exact h
theorem eqIntS (l : List Int) (hl : l.length ≤ 4611686018427387904) : Ev (fun k => laws_eqIntS.f k l l) true := by
  refine evpos rfl ?_
  refine down (n := l.length) (P := fun i => Ev (fun k => laws_eqIntS.l0 k l l (i : Int)) true) ?_ ?_
  · exact Ev.step (fun k => rfl) (evneg (by omega) (Ev.now _))
  · intro i hi h
    refine Ev.step (fun k => rfl) (evpos (by omega) (evpos (by omega) (evpos (by omega) (evpos rfl ?_))))
    rw [w64s (by omega)]; exact h
theorem szIntS (l : List Int) (a : Int) (hl : l.length ≤ maxLen) (h0 : 0 ≤ a) (h1 : a ≤ 1048576) : laws_szIntS.f l a = some (if a < l.length then -1 else a - l.length) := by
  unfold maxLen at hl
  unfold laws_szIntS.f
  rw [w64 (by omega) (by omega)]
  split <;> split <;> first | rfl | omega
theorem mhIntS (l : List Int) (a : Int) (h0 : 0 ≤ a) (h1 : a + l.length ≤ 4611686018427387904) : ∃ l' : List Int, Ev (fun k => laws_markIntS.f k l a) (a + l.length, l') ∧ Ev (fun k => laws_heldIntS.f k l' a) (a + l.length) ∧ l'.length = l.length := by
  refine ⟨(List.range l.length).map (fun (j : Nat) => a + (j : Int)), ?_, ?_, by simp⟩
  · have := down (n := l.length) (P := fun i => Ev (fun k => laws_markIntS.l0 k (f2 l.length (fun (j : Nat) => a + (j : Int)) (fun j => l.getD j 0) i) (a + (i : Int)) (i : Int)) (a + l.length, (List.range l.length).map (fun (j : Nat) => a + (j : Int)))) ?_ ?_
    · rw [f2_zero] at this; rw [show a + ((0 : Nat) : Int) = a by omega] at this; exact this
    · refine Ev.step (fun k => rfl) (evneg (by rw [f2_len]; omega) ?_)
      rw [f2_all]; exact Ev.now _
    · intro i hi h
      refine Ev.step (fun k => rfl) (evpos (by rw [f2_len]; omega) (evpos (by omega) ?_))
      rw [w64s (by omega), w64 (by omega) (by omega), Int.toNat_natCast, show a + (i : Int) + 1 = a + ((i + 1 : Nat) : Int) by omega]
      rw [← f2_set] at h
      exact h
  · have := down (n := l.length) (P := fun i => Ev (fun k => laws_heldIntS.l0 k ((List.range l.length).map (fun (j : Nat) => a + (j : Int))) (a + (i : Int)) (i : Int)) (a + l.length)) ?_ ?_
    · rw [show a + ((0 : Nat) : Int) = a by omega] at this; exact this
    · exact Ev.step (fun k => rfl) (evneg (by simp) (Ev.now _))
    · intro i hi h
      refine Ev.step (fun k => rfl) (evpos (by simpa using hi) (evpos (by omega) (evpos (by rw [rd_nat, range_getD _ _ _ _ hi]) ?_)))
      rw [w64s (by omega), w64 (by omega) (by omega), show a + (i : Int) + 1 = a + ((i + 1 : Nat) : Int) by omega]
      exact h
theorem szPlane (a0_0 : Int) (a0_1 : Int) (l0_2 : List Int) (a : Int) (hl0_2 : l0_2.length ≤ maxLen) (h0 : 0 ≤ a) (h1 : a ≤ 1048576) : ∃ r, Ev (fun _ => laws_szPlane.f a0_0 a0_1 l0_2 a) r ∧ r ≤ a ∧ (0 ≤ r → l0_2.length ≤ 1048576) := by
  have e0 := szIntS l0_2 a hl0_2 (by omega) (by omega)
  by_cases c0 : a < (l0_2.length : Int)
  · rw [if_pos c0] at e0
    exact ⟨-1, evlet e0 (evpos (by omega) (Ev.now _)), by omega, by omega⟩
  rw [if_neg c0] at e0
  exact ⟨(a - l0_2.length), evlet e0 (evneg (by omega) (Ev.now _)), by omega, fun _ => by omega⟩
theorem toPlane (a0_0 : Int) (a0_1 : Int) (l0_2 : List Int) (hl0_2 : l0_2.length ≤ 1048576) : Ev (fun k => laws_toPlane.f k a0_0 a0_1 l0_2) (a0_0, a0_1, l0_2) :=
  Ev.bind (toIntS l0_2 hl0_2) (Ev.now _)
theorem eqPlane (a0_0 : Int) (a0_1 : Int) (l0_2 : List Int) (hl0_2 : l0_2.length ≤ 4611686018427387904) : Ev (fun k => laws_eqPlane.f k a0_0 a0_1 l0_2 a0_0 a0_1 l0_2) true :=
  evpos rfl (evpos rfl (Ev.bind (eqIntS l0_2 hl0_2) (evpos rfl (Ev.now _))))
theorem sides_both (W H : Int) : ∃ q : Bool, spec_l7Sides.f W H = some q ∧ impl_goodSides.f W H = some q ∧ (q = true → (1 ≤ W ∧ W ≤ 512) ∧ (1 ≤ H ∧ H ≤ 512) ∧ W * H ≤ 4096) := by
  have sp : spec_l7Sides.f W H = some (decide (((1 ≤ W ∧ W ≤ 512) ∧ 1 ≤ H ∧ H ≤ 512) ∧ wrap64 (W * H) ≤ 4096)) := by
    have g : spec_l4Sides.f W H = some (decide ((1 ≤ W ∧ W ≤ 512) ∧ 1 ≤ H ∧ H ≤ 512)) := by
      unfold spec_l4Sides.f
      repeat' split
      all_goals first | (rw [decide_eq_false (by omega)]; done) | exact congrArg some (decide_eq_decide.2 (by omega))
    unfold spec_l7Sides.f
    rw [g, Option.bind_some]
    by_cases c : (1 ≤ W ∧ W ≤ 512) ∧ 1 ≤ H ∧ H ≤ 512
    · rw [decide_eq_true c, if_pos rfl]
      exact congrArg some (decide_eq_decide.2 (by omega))
    · rw [decide_eq_false c, if_neg (by simp), decide_eq_false (by omega)]
  have im : impl_goodSides.f W H = some (decide (((1 ≤ W ∧ W ≤ 512) ∧ 1 ≤ H ∧ H ≤ 512) ∧ wrap64 (W * H) ≤ 4096)) := by
    have g : ∀ a, impl_goodSide.f a = some (decide (1 ≤ a ∧ a ≤ 512)) := by
      intro a
      unfold impl_goodSide.f
      split
      · exact congrArg some (decide_eq_decide.2 (by omega))
      · rw [decide_eq_false (by omega)]
    unfold impl_goodSides.f
    rw [g, g, Option.bind_some, Option.bind_some]
    by_cases c1 : 1 ≤ W ∧ W ≤ 512
    · rw [decide_eq_true c1, if_pos rfl]
      by_cases c2 : 1 ≤ H ∧ H ≤ 512
      · rw [decide_eq_true c2, if_pos rfl]
        exact congrArg some (decide_eq_decide.2 (by omega))
      · rw [decide_eq_false c2, if_neg (by simp), decide_eq_false (by omega)]
    · rw [decide_eq_false c1, if_neg (by simp), decide_eq_false (by omega)]
  refine ⟨_, sp, im, fun h => ?_⟩
  have c := of_decide_eq_true h
  refine ⟨c.1.1, c.1.2, ?_⟩
  have := Int.mul_le_mul c.1.1.2 c.1.2.2 (by omega) (by omega)
  have := Int.mul_nonneg (show 0 ≤ W by omega) (show 0 ≤ H by omega)
  rw [← w64 (n := W * H) (by omega) (by omega)]; exact c.2
theorem plane_both (W H : Int) (S : List Int) (hS : S.length ≤ 1048576) : ∃ q : Bool, Ev (fun k => spec_GoodPlane.f k W H S) q ∧ Ev (fun k => impl_GoodPlane.f k W H S) q ∧ (q = true → (1 ≤ W ∧ W ≤ 512) ∧ (1 ≤ H ∧ H ≤ 512) ∧ (S.length : Int) = W * H ∧ W * H ≤ 4096) := by
  have sp : spec_l7Sides.f W H = some (decide (((1 ≤ W ∧ W ≤ 512) ∧ 1 ≤ H ∧ H ≤ 512) ∧ wrap64 (W * H) ≤ 4096)) := by
    have g : spec_l4Sides.f W H = some (decide ((1 ≤ W ∧ W ≤ 512) ∧ 1 ≤ H ∧ H ≤ 512)) := by
      unfold spec_l4Sides.f
      repeat' split
      all_goals first | (rw [decide_eq_false (by omega)]; done) | exact congrArg some (decide_eq_decide.2 (by omega))
    unfold spec_l7Sides.f
    rw [g, Option.bind_some]
    by_cases c : (1 ≤ W ∧ W ≤ 512) ∧ 1 ≤ H ∧ H ≤ 512
    · rw [decide_eq_true c, if_pos rfl]
      exact congrArg some (decide_eq_decide.2 (by omega))
    · rw [decide_eq_false c, if_neg (by simp), decide_eq_false (by omega)]
  have im : impl_goodSides.f W H = some (decide (((1 ≤ W ∧ W ≤ 512) ∧ 1 ≤ H ∧ H ≤ 512) ∧ wrap64 (W * H) ≤ 4096)) := by
    have g : ∀ a, impl_goodSide.f a = some (decide (1 ≤ a ∧ a ≤ 512)) := by
      intro a
      unfold impl_goodSide.f
      split
      · exact congrArg some (decide_eq_decide.2 (by omega))
      · rw [decide_eq_false (by omega)]
    unfold impl_goodSides.f
    rw [g, g, Option.bind_some, Option.bind_some]
    by_cases c1 : 1 ≤ W ∧ W ≤ 512
    · rw [decide_eq_true c1, if_pos rfl]
      by_cases c2 : 1 ≤ H ∧ H ≤ 512
      · rw [decide_eq_true c2, if_pos rfl]
        exact congrArg some (decide_eq_decide.2 (by omega))
      · rw [decide_eq_false c2, if_neg (by simp), decide_eq_false (by omega)]
    · rw [decide_eq_false c1, if_neg (by simp), decide_eq_false (by omega)]
  have st : Ev (fun k => spec_GoodPlane.j0 k true W H S) false := Ev.step (f := fun _ => some false) (fun k => by simp only [spec_GoodPlane.j0, if_true]) (Ev.now _)
  by_cases c : ((1 ≤ W ∧ W ≤ 512) ∧ 1 ≤ H ∧ H ≤ 512) ∧ wrap64 (W * H) ≤ 4096
  case neg =>
    rw [decide_eq_false c] at sp im
    exact ⟨false, evlet sp (evneg (by simp) st), evlet im (evneg (by simp) (Ev.now _)), fun h => (by cases h)⟩
  rw [decide_eq_true c] at sp im
  have wm : wrap64 (W * H) = W * H := by
    have := Int.mul_le_mul c.1.1.2 c.1.2.2 (by omega) (by omega)
    have := Int.mul_nonneg (show 0 ≤ W by omega) (show 0 ≤ H by omega)
    exact w64 (by omega) (by omega)
  by_cases e : (S.length : Int) = wrap64 (W * H)
  case neg =>
    refine ⟨false, evlet sp (evpos rfl ?_), evlet im (evpos rfl (evneg e (Ev.now _))), fun h => (by cases h)⟩
    rw [bne_iff_ne.mpr e]; exact st
  have main := down (n := S.length) (P := fun i => ∃ q : Bool, Ev (fun k => spec_GoodPlane.l0 k S (S.length : Int) (i : Int)) q ∧ Ev (fun k => impl_inRange.l0 k 255 S (S.length : Int) (i : Int)) q) ?_ ?_
  · obtain ⟨q, g1, g2⟩ := main
    refine ⟨q, evlet sp (evpos rfl ?_), evlet im (evpos rfl (evpos e (Ev.bind g2 (Ev.now _)))), fun _ => ⟨c.1.1, c.1.2, by rw [e, wm], by rw [← wm]; exact c.2⟩⟩
    rw [bne_eq_false_iff_eq.mpr e]
    exact Ev.step (f := fun k => spec_GoodPlane.l0 k S (S.length : Int) 0) (fun k => by simp only [spec_GoodPlane.j0, Bool.false_eq_true, if_false]) g1
  · exact ⟨true, Ev.step (fun k => rfl) (evneg (by omega) (Ev.now _)), Ev.step (fun k => rfl) (evneg (by omega) (Ev.now _))⟩
  · intro i hi ⟨b, h1, h2⟩
    by_cases c1 : rd S (i : Int) < 0
    · exact ⟨false, Ev.step (fun k => rfl) (evpos (by omega) (evpos (by omega) (evpos (by omega) (evpos c1 (Ev.now _))))), Ev.step (fun k => rfl) (evpos (by omega) (evpos (by omega) (evpos (by omega) (evpos c1 (Ev.now _)))))⟩
    by_cases c2 : rd S (i : Int) > 255
    · exact ⟨false, Ev.step (fun k => rfl) (evpos (by omega) (evpos (by omega) (evpos (by omega) (evneg c1 (evpos c2 (Ev.now _)))))), Ev.step (fun k => rfl) (evpos (by omega) (evpos (by omega) (evpos (by omega) (evneg c1 (evpos c2 (Ev.now _))))))⟩
    refine ⟨b, Ev.step (fun k => rfl) (evpos (by omega) (evpos (by omega) (evpos (by omega) (evneg c1 (evneg c2 ?_))))), Ev.step (fun k => rfl) (evpos (by omega) (evpos (by omega) (evpos (by omega) (evneg c1 (evneg c2 ?_)))))⟩
    · rw [w64s (by omega)]; exact h1
    · rw [w64s (by omega)]; exact h2
/-- Where a sample comes from, in parts of 256. -/
def F (x o n : Nat) : Nat := (2 * x + 1) * o * 256 / (2 * n) - 128
theorem D_eq (x o n : Nat) (hx : x < n) (ho : o ≤ 512) (hn : n ≤ 512) :
    wrap64 (wrap64 (Int.tdiv (wrap64 (wrap64 (wrap64 (wrap64 (2 * (x : Int)) + 1) * (o : Int)) * 256)) (wrap64 (2 * (n : Int)))) - 128) = (((2 * x + 1) * o * 256 / (2 * n) : Nat) : Int) - 128 ∧ wrap64 (2 * (n : Int)) = ((2 * n : Nat) : Int) := by
  have e0 : wrap64 (wrap64 (2 * (x : Int)) + 1) = ((2 * x + 1 : Nat) : Int) := by
    rw [w64 (n := 2 * (x : Int)) (by omega) (by omega), w64 (by omega) (by omega)]; omega
  have hb : (2 * x + 1) * o ≤ 1025 * 512 := Nat.mul_le_mul (by omega) ho
  have e1 : wrap64 (((2 * x + 1 : Nat) : Int) * (o : Int)) = (((2 * x + 1) * o : Nat) : Int) := by
    rw [← Int.natCast_mul]; exact w64 (by omega) (by omega)
  rw [e0, e1]
  generalize (2 * x + 1) * o = m at hb
  have e2 : wrap64 ((m : Int) * 256) = ((m * 256 : Nat) : Int) := by rw [w64 (by omega) (by omega)]; omega
  have e3 : wrap64 (2 * (n : Int)) = ((2 * n : Nat) : Int) := by rw [w64 (by omega) (by omega)]; omega
  refine ⟨?_, e3⟩
  rw [e2, e3, show Int.tdiv ((m * 256 : Nat) : Int) ((2 * n : Nat) : Int) = ((m * 256 / (2 * n) : Nat) : Int) from (Int.ofNat_tdiv _ _).symm]
  have hq : m * 256 / (2 * n) ≤ m * 256 := Nat.div_le_self _ _
  generalize m * 256 / (2 * n) = q at hq
  rw [w64 (n := (q : Int)) (by omega) (by omega), w64 (by omega) (by omega)]
theorem F_lt (x o n : Nat) (ho : o ≤ 512) (hx : x < n) (hn : n ≤ 512) : F x o n ≤ 134348800 := by
  have hb : (2 * x + 1) * o ≤ 1025 * 512 := Nat.mul_le_mul (by omega) ho
  unfold F
  generalize (2 * x + 1) * o = m at hb
  have hq : m * 256 / (2 * n) ≤ m * 256 := Nat.div_le_self _ _
  omega
theorem from_spec (x o n : Nat) (hx : x < n) (ho : o ≤ 512) (hn : n ≤ 512) : spec_l7From.f (x : Int) (o : Int) (n : Int) = some (F x o n : Int) := by
  obtain ⟨d1, d2⟩ := D_eq x o n hx ho hn
  unfold spec_l7From.f
  rw [d1, d2, if_neg (by omega)]
  unfold F
  generalize (2 * x + 1) * o * 256 / (2 * n) = q
  by_cases c : (q : Int) - 128 < 0
  · rw [if_pos c]; exact congrArg some (by omega)
  · rw [if_neg c]; exact congrArg some (by omega)
def I (x o n : Nat) : Nat := min (F x o n / 256) (o - 1)
def K (x o n : Nat) : Nat := min (I x o n + 1) (o - 1)
theorem place_impl (x o n : Nat) (hx : x < n) (ho : o ≤ 512) (ho1 : 1 ≤ o) (hn : n ≤ 512) : impl_place.f (x : Int) (o : Int) (n : Int) = some ((I x o n : Int), (K x o n : Int), Go.bits .and .i64 (F x o n : Int) 255) := by
  obtain ⟨d1, d2⟩ := D_eq x o n hx ho hn
  have fl := F_lt x o n ho hx hn
  unfold impl_place.f
  rw [d1, d2, if_neg (by omega)]
  have e1 : mx 0 ((((2 * x + 1) * o * 256 / (2 * n) : Nat) : Int) - 128) = (F x o n : Int) := by
    unfold mx F
    generalize (2 * x + 1) * o * 256 / (2 * n) = q
    split <;> omega
  have e2 : wrap64 ((o : Int) - 1) = ((o - 1 : Nat) : Int) := by rw [w64 (by omega) (by omega)]; omega
  have e3 : mn ((F x o n : Int) / 256) ((o - 1 : Nat) : Int) = (I x o n : Int) := by
    unfold mn I
    generalize F x o n = f
    split <;> omega
  have e4 : wrap64 ((I x o n : Int) + 1) = ((I x o n + 1 : Nat) : Int) := by
    have : I x o n ≤ F x o n := by unfold I; omega
    rw [w64 (by omega) (by omega)]; omega
  have e5 : mn ((I x o n + 1 : Nat) : Int) ((o - 1 : Nat) : Int) = (K x o n : Int) := by
    unfold mn K
    generalize I x o n = f
    split <;> omega
  rw [e1, e2, e3, e4, e5]
theorem at_lt {W H i j : Nat} (hi : i < W) (hj : j < H) : j * W + i < W * H := by
  have := Nat.mul_le_mul_right W (show j + 1 ≤ H by omega)
  rw [Nat.succ_mul, Nat.mul_comm H W] at this
  omega
theorem at_w {W H i j : Nat} (hi : i < W) (hj : j < H) (hl : W * H ≤ 4096) : wrap64 (wrap64 ((j : Int) * (W : Int)) + (i : Int)) = ((j * W + i : Nat) : Int) := by
  have := at_lt hi hj
  rw [← Int.natCast_mul]
  generalize j * W = m at *
  rw [w64 (n := (m : Int)) (by omega) (by omega), w64 (by omega) (by omega)]; omega
/-- The sample at a place, or the nearest one. -/
def px (W H : Nat) (S : List Int) (a b : Nat) : Int := S.getD (min b (H - 1) * W + min a (W - 1)) 0
theorem at_impl (W H : Nat) (S : List Int) (hS : S.length = W * H) (hl : W * H ≤ 4096) (i j : Nat) (hi : i < W) (hj : j < H) : impl_Resize_1.f (i : Int) (j : Int) (W : Int) (H : Int) S = some (S.getD (j * W + i) 0) := by
  have := at_lt hi hj
  unfold impl_Resize_1.f
  rw [at_w hi hj hl, if_pos (by omega), if_pos (by omega), rd_nat]
theorem at_spec (W H : Nat) (S : List Int) (hS : S.length = W * H) (hl : W * H ≤ 4096) (hW : 1 ≤ W) (hH : 1 ≤ H) (hW2 : W ≤ 512) (hH2 : H ≤ 512) (a b : Nat) : Ev (fun k => spec_l7At.f k (W : Int) (H : Int) S (a : Int) (b : Int)) (px W H S a b) := by
  have j1 : ∀ c : Nat, c < W → Ev (fun k => spec_l7At.j1 k (c : Int) (b : Int) (W : Int) (H : Int) S) (S.getD (min b (H - 1) * W + c) 0) := by
    intro c hc
    have fin : ∀ d : Nat, d < H → Ev (fun _ => if 0 ≤ wrap64 (wrap64 ((d : Int) * (W : Int)) + (c : Int)) then (if wrap64 (wrap64 ((d : Int) * (W : Int)) + (c : Int)) < (S.length : Int) then some (rd S (wrap64 (wrap64 ((d : Int) * (W : Int)) + (c : Int)))) else none) else none) (S.getD (d * W + c) 0) := by
      intro d hd
      have := at_lt hc hd
      rw [at_w hc hd hl]
      refine evpos (by omega) (evpos (by omega) ?_)
      rw [rd_nat]; exact Ev.now _
    by_cases cb : (b : Int) ≥ (H : Int)
    · have := fin (H - 1) (by omega)
      have e2 : wrap64 ((H : Int) - 1) = ((H - 1 : Nat) : Int) := by rw [w64 (by omega) (by omega)]; omega
      refine Ev.step (fun k => rfl) ?_
      simp only [spec_l7At.j1]
      refine evneg (by omega) (evpos cb ?_)
      rw [e2, show min b (H - 1) = H - 1 by omega]; exact this
    · have := fin b (by omega)
      refine Ev.step (fun k => rfl) ?_
      simp only [spec_l7At.j1]
      refine evneg (by omega) (evneg cb ?_)
      rw [show min b (H - 1) = b by omega]; exact this
  unfold px
  refine evneg (by omega) ?_
  by_cases ca : (a : Int) ≥ (W : Int)
  · have := j1 (W - 1) (by omega)
    have e2 : wrap64 ((W : Int) - 1) = ((W - 1 : Nat) : Int) := by rw [w64 (by omega) (by omega)]; omega
    refine Ev.step (fun k => rfl) (evpos ca ?_)
    rw [e2, show min a (W - 1) = W - 1 by omega]; exact this
  · refine Ev.step (fun k => rfl) (evneg ca ?_)
    rw [show min a (W - 1) = a by omega]; exact j1 a (by omega)
theorem px_I (W H : Nat) (S : List Int) (hW : 1 ≤ W) (hH : 1 ≤ H) (x n y m : Nat) :
    px W H S (F x W n / 256) (F y H m / 256) = S.getD (I y H m * W + I x W n) 0 ∧ px W H S (F x W n / 256 + 1) (F y H m / 256) = S.getD (I y H m * W + K x W n) 0 ∧
    px W H S (F x W n / 256) (F y H m / 256 + 1) = S.getD (K y H m * W + I x W n) 0 ∧ px W H S (F x W n / 256 + 1) (F y H m / 256 + 1) = S.getD (K y H m * W + K x W n) 0 := by
  unfold px K I
  generalize F x W n / 256 = f
  generalize F y H m / 256 = g
  rw [show min (f + 1) (W - 1) = min (min f (W - 1) + 1) (W - 1) by omega, show min (g + 1) (H - 1) = min (min g (H - 1) + 1) (H - 1) by omega]
  exact ⟨rfl, rfl, rfl, rfl⟩
def blend (f g p q r s : Int) : Int := (wrap64 ((wrap64 ((wrap64 ((wrap64 (256 - g)) * (wrap64 ((wrap64 ((wrap64 (256 - f)) * p)) + (wrap64 (f * q)))))) + (wrap64 (g * (wrap64 ((wrap64 ((wrap64 (256 - f)) * r)) + (wrap64 (f * s)))))))) + 32768)) / 65536
theorem loops_both (W H w h : Nat) (S : List Int) (hS : S.length = W * H) (hl : W * H ≤ 4096) (hW : 1 ≤ W) (hH : 1 ≤ H) (hW2 : W ≤ 512) (hH2 : H ≤ 512) (hw : 1 ≤ w) (hh : 1 ≤ h) (hw2 : w ≤ 512) (hh2 : h ≤ 512) :
    ∃ r : List Int, Ev (fun k => spec_Resize.l0 k (w : Int) (h : Int) 0 (W : Int) (H : Int) S (w : Int) (h : Int) []) ((w : Int), (h : Int), r) ∧ Ev (fun k => impl_Resize.l0 k (w : Int) (h : Int) (h : Int) 0 (W : Int) (H : Int) S (w : Int) (h : Int) []) ((w : Int), (h : Int), r) ∧ r.length ≤ 262144 := by
  have main := down (n := h) (P := fun y => ∀ acc : List Int, acc.length ≤ y * w → ∃ r : List Int, Ev (fun k => spec_Resize.l0 k (w : Int) (h : Int) (y : Int) (W : Int) (H : Int) S (w : Int) (h : Int) acc) ((w : Int), (h : Int), r) ∧ Ev (fun k => impl_Resize.l0 k (w : Int) (h : Int) (h : Int) (y : Int) (W : Int) (H : Int) S (w : Int) (h : Int) acc) ((w : Int), (h : Int), r) ∧ r.length ≤ 262144) ?_ ?_
  · exact main [] (by simp)
  · intro acc ha
    have := Nat.mul_le_mul hh2 hw2
    exact ⟨acc, Ev.step (fun k => rfl) (evneg (by omega) (Ev.now _)), Ev.step (fun k => rfl) (evneg (by omega) (Ev.now _)), by omega⟩
  · intro y hy ih acc ha
    have inn := down (n := w) (P := fun x => ∀ acc : List Int, acc.length ≤ y * w + x → ∃ r : List Int, Ev (fun k => spec_Resize.l1 k (w : Int) (h : Int) (y : Int) (F y H h : Int) (x : Int) (W : Int) (H : Int) S (w : Int) (h : Int) acc) ((w : Int), (h : Int), r) ∧ Ev (fun k => impl_Resize.l1 k (w : Int) (h : Int) (I y H h : Int) (K y H h : Int) (Go.bits .and .i64 (F y H h : Int) 255) (h : Int) (y : Int) (w : Int) (x : Int) (W : Int) (H : Int) S (w : Int) (h : Int) acc) ((w : Int), (h : Int), r) ∧ r.length ≤ 262144) ?_ ?_
    · obtain ⟨r, g1, g2, g3⟩ := inn acc (by omega)
      exact ⟨r, Ev.step (fun k => rfl) (evpos (by omega) (evlet (from_spec y H h hy hH2 hh2) g1)), Ev.step (fun k => rfl) (evpos (by omega) (evlet (place_impl y H h hy hH2 hH hh2) g2)), g3⟩
    · intro acc ha
      obtain ⟨r, g1, g2, g3⟩ := ih acc (by rw [Nat.succ_mul]; exact ha)
      refine ⟨r, Ev.step (fun k => rfl) (evneg (by omega) ?_), Ev.step (fun k => rfl) (evneg (by omega) ?_), g3⟩
      · rw [w64s (by omega)]; exact g1
      · rw [w64s (by omega)]; exact g2
    · intro x hx ihx acc ha
      have hb := Nat.mul_le_mul (show y ≤ 512 by omega) hw2
      have ln : acc.length < 17592186044416 := by omega
      have fx := F_lt x W w hW2 hx hw2
      have fy := F_lt y H h hH2 hy hh2
      obtain ⟨p1, p2, p3, p4⟩ := px_I W H S hW hH x w y h
      have iW : I x W w < W := by unfold I; omega
      have kW : K x W w < W := by unfold K; omega
      have iH : I y H h < H := by unfold I; omega
      have kH : K y H h < H := by unfold K; omega
      have d1 : (F x W w : Int) / 256 = ((F x W w / 256 : Nat) : Int) := rfl
      have d2 : (F y H h : Int) / 256 = ((F y H h / 256 : Nat) : Int) := rfl
      have d3 : wrap64 (((F x W w / 256 : Nat) : Int) + 1) = ((F x W w / 256 + 1 : Nat) : Int) := w64s (by omega)
      have d4 : wrap64 (((F y H h / 256 : Nat) : Int) + 1) = ((F y H h / 256 + 1 : Nat) : Int) := w64s (by omega)
      have go := at_spec W H S hS hl hW hH hW2 hH2
      have im := at_impl W H S hS hl
      obtain ⟨r, g1, g2, g3⟩ := ihx (acc ++ [blend (Go.bits .and .i64 (F x W w : Int) 255) (Go.bits .and .i64 (F y H h : Int) 255) (S.getD (I y H h * W + I x W w) 0) (S.getD (I y H h * W + K x W w) 0) (S.getD (K y H h * W + I x W w) 0) (S.getD (K y H h * W + K x W w) 0)]) (by rw [List.length_append, List.length_singleton]; omega)
      refine ⟨r, Ev.step (fun k => rfl) (evpos (by omega) (evlet (from_spec x W w hx hW2 hw2) ?_)), Ev.step (fun k => rfl) (evpos (by omega) (evlet (place_impl x W w hx hW2 hW hw2) (evlet (im _ _ iW iH) (evlet (im _ _ kW iH) (evlet (im _ _ iW kH) (evlet (im _ _ kW kH) (evpos ln ?_))))))), g3⟩
      · rw [d1, d2, d3, d4]
        refine Ev.bind (go _ _) (Ev.bind (go _ _) (Ev.bind (go _ _) (Ev.bind (go _ _) (evpos ln ?_))))
        rw [p1, p2, p3, p4, w64s (by omega)]; exact g1
      · rw [w64s (by omega)]; exact g2
theorem resize_both (W H a b : Int) (S : List Int) (hS : S.length ≤ 1048576) : ∃ (OW OH : Int) (out : List Int), out.length ≤ 1000000 ∧ Ev (fun k => spec_Resize.f k W H S a b) (OW, OH, out) ∧ Ev (fun k => impl_Resize.f k W H S a b) (OW, OH, out) := by
  obtain ⟨q, p1, p2, p3⟩ := plane_both W H S hS
  have it : Ev (fun k => impl_Resize.j0 k a b true W H S) (0, 0, []) := Ev.step (fun k => rfl) (Ev.now _)
  have st : Ev (fun k => spec_Resize.j0 k a b true W H S) (0, 0, []) := Ev.step (fun k => rfl) (Ev.now _)
  cases q with
  | false => exact ⟨0, 0, [], by simp, Ev.bind p1 (evneg (by decide) st), Ev.bind p2 (evneg (by decide) it)⟩
  | true =>
    obtain ⟨hw, hh, hs, hl⟩ := p3 rfl
    obtain ⟨q, s1, s2, s3⟩ := sides_both a b
    cases q with
    | false => exact ⟨0, 0, [], by simp, Ev.bind p1 (evpos rfl (evlet s1 st)), Ev.bind p2 (evpos rfl (evlet s2 it))⟩
    | true =>
      obtain ⟨ha, hb, _⟩ := s3 rfl
      obtain ⟨W, rfl⟩ : ∃ n : Nat, W = (n : Int) := ⟨W.toNat, by omega⟩
      obtain ⟨H, rfl⟩ : ∃ n : Nat, H = (n : Int) := ⟨H.toNat, by omega⟩
      obtain ⟨a, rfl⟩ : ∃ n : Nat, a = (n : Int) := ⟨a.toNat, by omega⟩
      obtain ⟨b, rfl⟩ : ∃ n : Nat, b = (n : Int) := ⟨b.toNat, by omega⟩
      rw [← Int.natCast_mul] at hs hl
      obtain ⟨r, g1, g2, g3⟩ := loops_both W H a b S (by omega) (by omega) (by omega) (by omega) (by omega) (by omega) (by omega) (by omega) (by omega) (by omega)
      exact ⟨_, _, r, by omega, Ev.bind p1 (evpos rfl (evlet s1 (Ev.step (fun k => rfl) g1))), Ev.bind p2 (evpos rfl (evlet s2 (Ev.step (fun k => rfl) g2)))⟩
theorem FnExactResize : laws_FnExactResize.Pure := by
  intro W H S a b ⟨_, _, hS, _⟩ _ _
  refine Ev.rounds ?_
  obtain ⟨r, s0, s1, s2⟩ := szPlane W H S 1048576 hS (by omega) (by omega)
  by_cases c : r < 0
  · exact Ev.bind s0 (evpos c (Ev.now _))
  have sl := s2 (by omega)
  have t := toPlane W H S sl
  obtain ⟨OW, OH, out, hl, h1, h2⟩ := resize_both W H a b S sl
  have eo := eqPlane OW OH out (by omega)
  have es := eqPlane W H S (by omega)
  obtain ⟨m, hm, _⟩ := mhIntS S 1 (by omega) (by omega)
  obtain ⟨g, hg1, hg2, hg3⟩ := mhIntS out 1 (by omega) (by omega)
  have hgp : Ev (fun k => laws_heldPlane.f k OW OH g 1) (1 + out.length) := Ev.bind hg2 (evneg (by omega) (Ev.now _))
  refine Ev.bind s0 (evneg c (Ev.bind t (Ev.bind h1 (Ev.bind t (Ev.bind h2 (Ev.bind eo (evpos rfl (Ev.bind t (Ev.bind es (evpos rfl (Ev.bind (a := (1 + (S.length : Int), m)) (Ev.bind hm (Ev.now _)) ?_)))))))))))
  refine evneg (by simp only; omega) (Ev.bind eo ?_)
  refine Ev.step (fun k => rfl) (Ev.bind (a := (1 + (out.length : Int), g)) (Ev.bind hg1 (Ev.now _)) (Ev.bind hgp (evneg (by omega) (evpos rfl ?_))))
  exact Ev.bind t (Ev.bind h2 (Ev.bind eo (evpos rfl (Ev.bind hgp (evneg (by omega) (evpos rfl (Ev.now _)))))))
end Go.Proofs.Ytmnihpedokeggaa.Pure

/- The law FnExactSmooth: for every plane and every step the program's Smooth answers what the reference answers; no condition besides. -/
import Derived.Test.YtglaedjadlappaaPFnExactSmoothx0
import Derived.Test.YtglaedjadlappaaPFnExactSmoothx1
import Derived.Test.YtglaedjadlappaaPFnExactSmoothx2
import Derived.Test.YtglaedjadlappaaPFnExactSmoothx3
import Derived.Test.YtglaedjadlappaaPFnExactSmoothx4
import Derived.Test.YtglaedjadlappaaPFnExactSmoothx5
import Derived.Test.YtglaedjadlappaaPFnExactSmoothx6
import Derived.Test.YtglaedjadlappaaPFnExactSmoothx7
import Derived.Test.YtglaedjadlappaaTFESK
import Derived.Laws.Bits64b
namespace Go.Proofs.Ytglaedjadlappaa.Pure
open Go.RowKit Go.Proofs.Ytglaedjadlappaa.PFnExactSmooth Go.Proofs.Ytglaedjadlappaa.K Go.Proofs.YtglaedjadlappaaW.PrintWords Go.Proofs.YtglaedjadlappaaW.PrintLast Go.Proofs.YtglaedjadlappaaW.PrintMore

theorem rdT29 (l : List S29) (i : Nat) : rd_T29 l (i : Int) = l.getD i z29 := by simp [rd_T29]
theorem rdT24 (l : List S24) (i : Nat) : rd_T24 l (i : Int) = l.getD i z24 := by simp [rd_T24]
theorem rdL1n (l : List (List Int)) (i : Nat) : rd_L1 l (i : Int) = l.getD i ([] : List Int) := by simp [rd_L1]
theorem toIntS (l : List Int) (hl : l.length ≤ 1048576) : Ev (fun k => laws_toIntS.f k l) l := by
  refine evpos (by omega) (evpos (by omega) ?_)
  have := down (n := l.length) (P := fun i => Ev (fun k => laws_toIntS.l0 k l (fl 0 l.length (fun j => l.getD j 0) i) (i : Int)) l) ?_ ?_
  · rw [fl_zero] at this; exact this
  · refine Ev.step (fun k => rfl) (evneg (by omega) ?_)
    rw [fl_all]
    have e := map_range_get l 0 id
    try simp only [id_eq, List.map_id_fun] at e
    rw [e]; exact Ev.now _
  · intro i hi h
    refine Ev.step (fun k => rfl) (evpos (by omega) (evpos (by omega) (evpos (by rw [fl_len]; omega) ?_)))
    rw [w64s (by omega), rd_nat, getD_lt hi, Int.toNat_natCast]
    rw [← fl_set, getD_lt hi] at h
    exact h
theorem eqIntS (l : List Int) (hl : l.length ≤ 4611686018427387904) : Ev (fun k => laws_eqIntS.f k l l) true := by
  refine evpos rfl ?_
  refine down (n := l.length) (P := fun i => Ev (fun k => laws_eqIntS.l0 k l l (i : Int)) true) ?_ ?_
  · exact Ev.step (fun k => rfl) (evneg (by omega) (Ev.now _))
  · intro i hi h
    refine Ev.step (fun k => rfl) (evpos (by omega) (evpos (by omega) (evpos (by omega) (evpos rfl ?_))))
    rw [w64s (by omega)]; exact h
theorem szIntS (l : List Int) (a : Int) (hl : l.length ≤ maxLen) (h0 : 0 ≤ a) (h1 : a ≤ 1048576) : laws_szIntS.f l a = some (if a < l.length then -1 else a - l.length) := by
  unfold maxLen at hl
  unfold laws_szIntS.f
  rw [w64 (by omega) (by omega)]
  split <;> split <;> first | rfl | omega
theorem mhIntS (l : List Int) (a : Int) (h0 : 0 ≤ a) (h1 : a + l.length ≤ 4611686018427387904) : ∃ l' : List Int, Ev (fun k => laws_markIntS.f k l a) (a + l.length, l') ∧ Ev (fun k => laws_heldIntS.f k l' a) (a + l.length) ∧ l'.length = l.length := by
  refine ⟨(List.range l.length).map (fun (j : Nat) => a + (j : Int)), ?_, ?_, by simp⟩
  · have := down (n := l.length) (P := fun i => Ev (fun k => laws_markIntS.l0 k (f2 l.length (fun (j : Nat) => a + (j : Int)) (fun j => l.getD j 0) i) (a + (i : Int)) (i : Int)) (a + l.length, (List.range l.length).map (fun (j : Nat) => a + (j : Int)))) ?_ ?_
    · rw [f2_zero] at this; rw [show a + ((0 : Nat) : Int) = a by omega] at this; exact this
    · refine Ev.step (fun k => rfl) (evneg (by rw [f2_len]; omega) ?_)
      rw [f2_all]; exact Ev.now _
    · intro i hi h
      refine Ev.step (fun k => rfl) (evpos (by rw [f2_len]; omega) (evpos (by omega) ?_))
      rw [w64s (by omega), w64 (by omega) (by omega), Int.toNat_natCast, show a + (i : Int) + 1 = a + ((i + 1 : Nat) : Int) by omega]
      rw [← f2_set] at h
      exact h
  · have := down (n := l.length) (P := fun i => Ev (fun k => laws_heldIntS.l0 k ((List.range l.length).map (fun (j : Nat) => a + (j : Int))) (a + (i : Int)) (i : Int)) (a + l.length)) ?_ ?_
    · rw [show a + ((0 : Nat) : Int) = a by omega] at this; exact this
    · exact Ev.step (fun k => rfl) (evneg (by simp) (Ev.now _))
    · intro i hi h
      refine Ev.step (fun k => rfl) (evpos (by simpa using hi) (evpos (by omega) (evpos (by rw [rd_nat, range_getD _ _ _ _ hi]) ?_)))
      rw [w64s (by omega), w64 (by omega) (by omega), show a + (i : Int) + 1 = a + ((i + 1 : Nat) : Int) by omega]
      exact h
theorem szPlane (a0_0 : Int) (a0_1 : Int) (l0_2 : List Int) (a : Int) (hl0_2 : l0_2.length ≤ maxLen) (h0 : 0 ≤ a) (h1 : a ≤ 1048576) : ∃ r, Ev (fun _ => laws_szPlane.f a0_0 a0_1 l0_2 a) r ∧ r ≤ a ∧ (0 ≤ r → l0_2.length ≤ 1048576) := by
  have e0 := szIntS l0_2 a hl0_2 (by omega) (by omega)
  by_cases c0 : a < (l0_2.length : Int)
  · rw [if_pos c0] at e0
    exact ⟨-1, evlet e0 (evpos (by omega) (Ev.now _)), by omega, by omega⟩
  rw [if_neg c0] at e0
  exact ⟨(a - l0_2.length), evlet e0 (evneg (by omega) (Ev.now _)), by omega, fun _ => by omega⟩
theorem toPlane (a0_0 : Int) (a0_1 : Int) (l0_2 : List Int) (hl0_2 : l0_2.length ≤ 1048576) : Ev (fun k => laws_toPlane.f k a0_0 a0_1 l0_2) (a0_0, a0_1, l0_2) :=
  Ev.bind (toIntS l0_2 hl0_2) (Ev.now _)
theorem eqPlane (a0_0 : Int) (a0_1 : Int) (l0_2 : List Int) (hl0_2 : l0_2.length ≤ 4611686018427387904) : Ev (fun k => laws_eqPlane.f k a0_0 a0_1 l0_2 a0_0 a0_1 l0_2) true :=
  evpos rfl (evpos rfl (Ev.bind (eqIntS l0_2 hl0_2) (evpos rfl (Ev.now _))))
/-- A good plane, in numbers. -/
structure Pl (W H : Int) (S : List Int) : Prop where
  w : 1 ≤ W ∧ W ≤ 512
  h : 1 ≤ H ∧ H ≤ 512
  wh : W * H ≤ 4096
  len : (S.length : Int) = W * H
  v : ∀ j : Nat, j < S.length → 0 ≤ rd S (j : Int) ∧ rd S (j : Int) ≤ 255
theorem plane_both (W H : Int) (S : List Int) (hS : S.length ≤ 1048576) : ∃ q : Bool, Ev (fun k => spec_GoodPlane.f k W H S) q ∧ Ev (fun k => impl_GoodPlane.f k W H S) q ∧ (q = true → Pl W H S) := by
  have sp : spec_l7Sides.f W H = some (decide (((1 ≤ W ∧ W ≤ 512) ∧ 1 ≤ H ∧ H ≤ 512) ∧ wrap64 (W * H) ≤ 4096)) := by
    have g : spec_l4Sides.f W H = some (decide ((1 ≤ W ∧ W ≤ 512) ∧ 1 ≤ H ∧ H ≤ 512)) := by
      unfold spec_l4Sides.f
      repeat' split
      all_goals first | (rw [decide_eq_false (by omega)]; done) | exact congrArg some (decide_eq_decide.2 (by omega))
    unfold spec_l7Sides.f
    rw [g, Option.bind_some]
    by_cases c : (1 ≤ W ∧ W ≤ 512) ∧ 1 ≤ H ∧ H ≤ 512
    · rw [decide_eq_true c, if_pos rfl]
      exact congrArg some (decide_eq_decide.2 (by omega))
    · rw [decide_eq_false c, if_neg (by simp), decide_eq_false (by omega)]
  have im : impl_goodSides.f W H = some (decide (((1 ≤ W ∧ W ≤ 512) ∧ 1 ≤ H ∧ H ≤ 512) ∧ wrap64 (W * H) ≤ 4096)) := by
    have g : ∀ a, impl_goodSide.f a = some (decide (1 ≤ a ∧ a ≤ 512)) := by
      intro a
      unfold impl_goodSide.f
      split
      · exact congrArg some (decide_eq_decide.2 (by omega))
      · rw [decide_eq_false (by omega)]
    unfold impl_goodSides.f
    rw [g, g, Option.bind_some, Option.bind_some]
    by_cases c1 : 1 ≤ W ∧ W ≤ 512
    · rw [decide_eq_true c1, if_pos rfl]
      by_cases c2 : 1 ≤ H ∧ H ≤ 512
      · rw [decide_eq_true c2, if_pos rfl]
        exact congrArg some (decide_eq_decide.2 (by omega))
      · rw [decide_eq_false c2, if_neg (by simp), decide_eq_false (by omega)]
    · rw [decide_eq_false c1, if_neg (by simp), decide_eq_false (by omega)]
  have st : Ev (fun k => spec_GoodPlane.j0 k true W H S) false := Ev.step (f := fun _ => some false) (fun k => by simp only [spec_GoodPlane.j0, if_true]) (Ev.now _)
  by_cases c : ((1 ≤ W ∧ W ≤ 512) ∧ 1 ≤ H ∧ H ≤ 512) ∧ wrap64 (W * H) ≤ 4096
  case neg =>
    rw [decide_eq_false c] at sp im
    exact ⟨false, evlet sp (evneg (by simp) st), evlet im (evneg (by simp) (Ev.now _)), fun h => (by cases h)⟩
  rw [decide_eq_true c] at sp im
  have wm : wrap64 (W * H) = W * H := by
    have := Int.mul_le_mul c.1.1.2 c.1.2.2 (by omega) (by omega)
    have := Int.mul_nonneg (show 0 ≤ W by omega) (show 0 ≤ H by omega)
    exact w64 (by omega) (by omega)
  by_cases e : (S.length : Int) = wrap64 (W * H)
  case neg =>
    refine ⟨false, evlet sp (evpos rfl ?_), evlet im (evpos rfl (evneg e (Ev.now _))), fun h => (by cases h)⟩
    rw [bne_iff_ne.mpr e]; exact st
  have main := down (n := S.length) (P := fun i => ∃ q : Bool, Ev (fun k => spec_GoodPlane.l0 k S (S.length : Int) (i : Int)) q ∧ Ev (fun k => impl_inRange.l0 k 255 S (S.length : Int) (i : Int)) q ∧ (q = true → ∀ j : Nat, i ≤ j → j < S.length → 0 ≤ rd S (j : Int) ∧ rd S (j : Int) ≤ 255)) ?_ ?_
  · obtain ⟨q, g1, g2, g3⟩ := main
    refine ⟨q, evlet sp (evpos rfl ?_), evlet im (evpos rfl (evpos e (Ev.bind g2 (Ev.now _)))), fun hq => ⟨c.1.1, c.1.2, by rw [← wm]; exact c.2, by rw [e, wm], fun j hj => g3 hq j (Nat.zero_le _) hj⟩⟩
    rw [bne_eq_false_iff_eq.mpr e]
    exact Ev.step (f := fun k => spec_GoodPlane.l0 k S (S.length : Int) 0) (fun k => by simp only [spec_GoodPlane.j0, Bool.false_eq_true, if_false]) g1
  · exact ⟨true, Ev.step (fun k => rfl) (evneg (by omega) (Ev.now _)), Ev.step (fun k => rfl) (evneg (by omega) (Ev.now _)), fun _ j h1 h2 => absurd h2 (by omega)⟩
  · intro i hi ⟨b, h1, h2, h3⟩
    by_cases c1 : rd S (i : Int) < 0
    · exact ⟨false, Ev.step (fun k => rfl) (evpos (by omega) (evpos (by omega) (evpos (by omega) (evpos c1 (Ev.now _))))), Ev.step (fun k => rfl) (evpos (by omega) (evpos (by omega) (evpos (by omega) (evpos c1 (Ev.now _))))), fun h => (by cases h)⟩
    by_cases c2 : rd S (i : Int) > 255
    · exact ⟨false, Ev.step (fun k => rfl) (evpos (by omega) (evpos (by omega) (evpos (by omega) (evneg c1 (evpos c2 (Ev.now _)))))), Ev.step (fun k => rfl) (evpos (by omega) (evpos (by omega) (evpos (by omega) (evneg c1 (evpos c2 (Ev.now _)))))), fun h => (by cases h)⟩
    refine ⟨b, Ev.step (fun k => rfl) (evpos (by omega) (evpos (by omega) (evpos (by omega) (evneg c1 (evneg c2 ?_))))), Ev.step (fun k => rfl) (evpos (by omega) (evpos (by omega) (evpos (by omega) (evneg c1 (evneg c2 ?_))))), fun hb j j1 j2 => ?_⟩
    · rw [w64s (by omega)]; exact h1
    · rw [w64s (by omega)]; exact h2
    · rcases Nat.lt_or_ge i j with c | c
      · exact h3 hb j (by omega) j2
      · rw [show j = i by omega]; omega
theorem set_same (l : List Int) (i : Nat) : l.set i (rd l (i : Int)) = l := by
  refine List.ext_getElem? fun j => ?_
  rw [List.getElem?_set]
  by_cases e : i = j
  · subst e
    rw [if_pos rfl]
    split
    · rename_i h
      rw [rd_nat, List.getD_eq_getElem?_getD, List.getElem?_eq_getElem h]; rfl
    · rename_i h
      rw [List.getElem?_eq_none (by omega)]
  · rw [if_neg e]
theorem rd_set (l : List Int) (i j : Nat) (v : Int) : rd (l.set i v) (j : Int) = if i = j ∧ j < l.length then v else rd l (j : Int) := by
  rw [rd_nat, rd_nat, List.getD_eq_getElem?_getD, List.getD_eq_getElem?_getD, List.getElem?_set]
  by_cases e : i = j
  · subst e
    rw [if_pos rfl]
    by_cases h : i < l.length
    · rw [if_pos h, if_pos ⟨rfl, h⟩]; rfl
    · rw [if_neg h, if_neg (by omega), List.getElem?_eq_none (by omega)]
  · rw [if_neg e, if_neg (by omega)]
/-! The numbers that a step gives. -/
def bigOf (st : Int) : Int := wrap64 (st + wrap64 (Int.tdiv (wrap64 (st * st)) 16))
def smlOf (st : Int) : Int := wrap64 (Int.tdiv st 2)
def mstOf (st : Int) : Int := wrap64 (wrap64 (Int.tdiv st 4) + 1)
theorem mst_eq {st : Int} (h0 : 0 ≤ st) (h1 : st ≤ 40) : mstOf st = st / 4 + 1 := by
  unfold mstOf
  rw [Int.tdiv_eq_ediv_of_nonneg h0, w64 (n := st / 4) (by omega) (by omega), w64 (by omega) (by omega)]
/-- How much the samples b and c are moved. -/
def mvX (a b c d : Int) : Int := wrap64 (wrap64 (wrap64 (4 * wrap64 (c - b)) + wrap64 (a - d)) + 4) / 8
def mvK (st a b c d : Int) : Int := mn (mx (mvX a b c d) (wrap64 (-mstOf st))) (mstOf st)
def cp (n : Int) : Int := mn (mx n 0) 255
theorem cp_in (n : Int) : 0 ≤ cp n ∧ cp n ≤ 255 := by
  unfold cp mn mx
  (repeat' split) <;> omega
theorem cp_near {b k m : Int} (h0 : 0 ≤ b) (h1 : b ≤ 255) (k0 : -m ≤ k) (k1 : k ≤ m) : -m ≤ cp (b + k) - b ∧ cp (b + k) - b ≤ m := by
  unfold cp mn mx
  (repeat' split) <;> omega
def mab (x : Int) : Int := mx x (wrap64 (-x))
def onE (st a b c d : Int) : Bool := decide (mab (wrap64 (c - b)) < bigOf st) && decide (mab (wrap64 (b - a)) < smlOf st) && decide (mab (wrap64 (d - c)) < smlOf st)
def edgB (st a b c d : Int) : Int := if onE st a b c d = true then cp (b + mvK st a b c d) else b
def edgC (st a b c d : Int) : Int := if onE st a b c d = true then cp (c - mvK st a b c d) else c
structure S8 (x : Int) : Prop where
  lo : 0 ≤ x
  hi : x ≤ 255
theorem mab_s {x : Int} (h0 : -255 ≤ x) (h1 : x ≤ 255) : spec_l4Abs.f (wrap64 x) = some (mab (wrap64 x)) := by
  rw [w64 (n := x) (by omega) (by omega)]
  unfold spec_l4Abs.f mab mx
  rw [w64 (n := -x) (by omega) (by omega)]
  (repeat' split) <;> first | rfl | omega | exact congrArg some (by omega)
theorem zclip_i (n : Int) : impl_zclip.f n = some (cp n) := rfl
theorem clip_s (n : Int) : spec_l7Clip.f n = some (cp n) := by
  unfold spec_l7Clip.f cp mn mx
  (repeat' split) <;> first | rfl | omega | exact congrArg some (by omega)
theorem mvK_in {st a b c d : Int} (h0 : 0 ≤ st) (h1 : st ≤ 40) : -(st / 4 + 1) ≤ mvK st a b c d ∧ mvK st a b c d ≤ st / 4 + 1 := by
  unfold mvK
  rw [mst_eq h0 h1, w64 (n := -(st / 4 + 1)) (by omega) (by omega)]
  generalize mvX a b c d = x
  unfold mn mx
  (repeat' split) <;> omega
theorem edgB_in {st a b c d : Int} (h0 : 8 ≤ st) (h1 : st ≤ 40) (_ha : S8 a) (hb : S8 b) (_hc : S8 c) (_hd : S8 d) : S8 (edgB st a b c d) ∧ -(st / 4 + 1) ≤ edgB st a b c d - b ∧ edgB st a b c d - b ≤ st / 4 + 1 := by
  unfold edgB
  split
  · have k := mvK_in (st := st) (a := a) (b := b) (c := c) (d := d) (by omega) h1
    exact ⟨⟨(cp_in _).1, (cp_in _).2⟩, cp_near hb.lo hb.hi k.1 k.2⟩
  · exact ⟨hb, by omega, by omega⟩
theorem edgC_in {st a b c d : Int} (h0 : 8 ≤ st) (h1 : st ≤ 40) (_ha : S8 a) (_hb : S8 b) (hc : S8 c) (_hd : S8 d) : S8 (edgC st a b c d) ∧ -(st / 4 + 1) ≤ edgC st a b c d - c ∧ edgC st a b c d - c ≤ st / 4 + 1 := by
  unfold edgC
  split
  · have k := mvK_in (st := st) (a := a) (b := b) (c := c) (d := d) (by omega) h1
    have := cp_near (m := st / 4 + 1) (k := -mvK st a b c d) hc.lo hc.hi (by omega) (by omega)
    exact ⟨⟨(cp_in _).1, (cp_in _).2⟩, this⟩
  · exact ⟨hc, by omega, by omega⟩
section
variable {st a b c d : Int} (h0 : 8 ≤ st) (h1 : st ≤ 40) (ha : S8 a) (hb : S8 b) (hc : S8 c) (hd : S8 d)
include h0 h1 ha hb hc hd
theorem edge_s : Ev (fun k => spec_l13Edge.f k a b c d st) (edgB st a b c d, edgC st a b c d) := by
  obtain ⟨a0, a1⟩ := ha
  obtain ⟨b0, b1⟩ := hb
  obtain ⟨c0, c1⟩ := hc
  obtain ⟨d0, d1⟩ := hd
  have k := mvK_in (st := st) (a := a) (b := b) (c := c) (d := d) (by omega) h1
  have m1 := mab_s (x := c - b) (by omega) (by omega)
  have m2 := mab_s (x := b - a) (by omega) (by omega)
  have m3 := mab_s (x := d - c) (by omega) (by omega)
  have no : ∀ (h : onE st a b c d = false) , Ev (fun k => spec_l13Edge.j0 k a b c d st true) (edgB st a b c d, edgC st a b c d) := by
    intro h
    unfold edgB edgC
    rw [h, if_neg (by simp), if_neg (by simp)]
    exact Ev.step (f := fun _ => some (b, c)) (fun k => by simp only [spec_l13Edge.j0, if_true]) (Ev.now _)
  refine evlet m1 ?_
  by_cases c1 : mab (wrap64 (c - b)) ≥ wrap64 (st + wrap64 (Int.tdiv (wrap64 (st * st)) 16))
  · exact evpos c1 (no (by unfold onE bigOf; rw [decide_eq_false (by omega)]; rfl))
  refine evneg c1 (evlet m2 ?_)
  by_cases c2 : mab (wrap64 (b - a)) ≥ wrap64 (Int.tdiv st 2)
  · exact evpos c2 (no (by unfold onE smlOf; rw [decide_eq_false (p := mab (wrap64 (b - a)) < wrap64 (Int.tdiv st 2)) (by omega), Bool.and_false, Bool.false_and]))
  refine evneg c2 (evlet m3 ?_)
  by_cases c3 : mab (wrap64 (d - c)) ≥ wrap64 (Int.tdiv st 2)
  · rw [decide_eq_true c3]
    exact no (by unfold onE smlOf; rw [decide_eq_false (p := mab (wrap64 (d - c)) < wrap64 (Int.tdiv st 2)) (by omega), Bool.and_false])
  rw [decide_eq_false c3]
  have on : onE st a b c d = true := by
    unfold onE smlOf bigOf
    rw [decide_eq_true (by omega), decide_eq_true (by omega), decide_eq_true (by omega)]; rfl
  unfold edgB edgC
  rw [if_pos on, if_pos on]
  have fin : ∀ x : Int, x = mvK st a b c d → Ev (fun _ : Nat => (spec_l7Clip.f (wrap64 (b + x))).bind fun t => (spec_l7Clip.f (wrap64 (c - x))).bind fun u => some (t, u)) (cp (b + mvK st a b c d), cp (c - mvK st a b c d)) := by
    rintro x rfl
    rw [w64 (n := b + _) (by omega) (by omega), w64 (n := c - _) (by omega) (by omega)]
    exact evlet (clip_s _) (evlet (clip_s _) (Ev.now _))
  have two : ∀ x : Int, x = mx (mvX a b c d) (wrap64 (-mstOf st)) → Ev (fun k => spec_l13Edge.j1 k b c (mstOf st) x) (cp (b + mvK st a b c d), cp (c - mvK st a b c d)) := by
    intro x hx
    refine Ev.step (fun k => rfl) ?_
    have e : mvK st a b c d = mn x (mstOf st) := by rw [hx]; rfl
    unfold mn at e
    by_cases c4 : x > mstOf st
    · exact evpos c4 (fin _ (by rw [e]; split <;> omega))
    · exact evneg c4 (fin _ (by rw [e]; split <;> omega))
  refine Ev.step (f := fun k => if mvX a b c d < wrap64 (-mstOf st) then spec_l13Edge.j1 k b c (mstOf st) (wrap64 (-mstOf st)) else spec_l13Edge.j1 k b c (mstOf st) (mvX a b c d)) (fun k => by simp only [spec_l13Edge.j0, Bool.false_eq_true, if_false]; rfl) ?_
  by_cases c5 : mvX a b c d < wrap64 (-mstOf st)
  · exact evpos c5 (two _ (by unfold mx; split <;> omega))
  · exact evneg c5 (two _ (by unfold mx; split <;> omega))
end
/-- What one edge leaves of the samples: i the place behind it, n the way to the next. -/
def edg (st : Int) (s : List Int) (i n : Nat) : List Int :=
  (s.set (i - n) (edgB st (rd s ((i - 2 * n : Nat) : Int)) (rd s ((i - n : Nat) : Int)) (rd s (i : Int)) (rd s ((i + n : Nat) : Int)))).set i (edgC st (rd s ((i - 2 * n : Nat) : Int)) (rd s ((i - n : Nat) : Int)) (rd s (i : Int)) (rd s ((i + n : Nat) : Int)))
structure Ok (N : Nat) (s : List Int) : Prop where
  len : s.length = N
  v : ∀ j : Nat, j < N → S8 (rd s (j : Int))
theorem edg_ok {N : Nat} {st : Int} {s : List Int} {i n : Nat} (h0 : 8 ≤ st) (h1 : st ≤ 40) (ho : Ok N s) (hi : i + n < N) (hn : 2 * n ≤ i) : Ok N (edg st s i n) := by
  have g := edgB_in h0 h1 (ho.v (i - 2 * n) (by omega)) (ho.v (i - n) (by omega)) (ho.v i (by omega)) (ho.v (i + n) hi)
  have g' := edgC_in h0 h1 (ho.v (i - 2 * n) (by omega)) (ho.v (i - n) (by omega)) (ho.v i (by omega)) (ho.v (i + n) hi)
  refine ⟨by unfold edg; rw [List.length_set, List.length_set, ho.len], fun j hj => ?_⟩
  unfold edg
  rw [rd_set]
  split
  · exact g'.1
  · rw [rd_set]
    split
    · exact g.1
    · exact ho.v j hj
section
variable {N : Nat} {st : Int} {s : List Int} {i n : Nat} (h0 : 8 ≤ st) (h1 : st ≤ 40) (ho : Ok N s) (hi : i + n < N) (hn : 2 * n ≤ i) (hN : N ≤ 4096)
include h0 h1 ho hi hn hN
theorem edge_i : Ev (fun k => impl_Smooth_2.f k (i : Int) (n : Int) s (bigOf st) (smlOf st) (mstOf st)) (edg st s i n) := by
  have hl := ho.len
  have A := ho.v (i - 2 * n) (by omega)
  have B := ho.v (i - n) (by omega)
  have C := ho.v i (by omega)
  have D := ho.v (i + n) hi
  have k := mvK_in (st := st) (a := rd s ((i - 2 * n : Nat) : Int)) (b := rd s ((i - n : Nat) : Int)) (c := rd s (i : Int)) (d := rd s ((i + n : Nat) : Int)) (by omega) h1
  have e1 : wrap64 ((i : Int) - wrap64 (2 * (n : Int))) = ((i - 2 * n : Nat) : Int) := by rw [w64 (n := 2 * (n : Int)) (by omega) (by omega), w64 (by omega) (by omega)]; omega
  have e2 : wrap64 ((i : Int) - (n : Int)) = ((i - n : Nat) : Int) := by rw [w64 (by omega) (by omega)]; omega
  have e3 : wrap64 ((i : Int) + (n : Int)) = ((i + n : Nat) : Int) := by rw [w64 (by omega) (by omega)]; omega
  unfold impl_Smooth_2.f
  rw [e1, e2, e3]
  have E2 := Aside0.mk e2
  clear e1 e2 e3
  refine evpos (by omega) (evpos (by omega) (evpos (by omega) (evpos (by omega) (evpos (by omega) (evpos (by omega) (evpos (by omega) (evpos (by omega) ?_)))))))
  unfold edg
  generalize ha : rd s ((i - 2 * n : Nat) : Int) = a at *
  generalize hb : rd s ((i - n : Nat) : Int) = b at *
  generalize hc : rd s (i : Int) = c at *
  generalize hd : rd s ((i + n : Nat) : Int) = d at *
  have no : ∀ (h : onE st a b c d = false), Ev (fun k => impl_Smooth_2.j0 k (i : Int) (n : Int) s (mstOf st) a b c d false) ((s.set (i - n) (edgB st a b c d)).set i (edgC st a b c d)) := by
    intro h
    unfold edgB edgC
    rw [h, if_neg (by simp), if_neg (by simp), ← hb, set_same, ← hc, set_same]
    exact Ev.step (f := fun _ => some s) (fun k => by simp only [impl_Smooth_2.j0, Bool.false_eq_true, if_false]) (Ev.now _)
  refine evlet (a := mab (wrap64 (c - b))) rfl ?_
  by_cases c1 : mab (wrap64 (c - b)) < bigOf st
  case neg => exact evneg c1 (no (by unfold onE; rw [decide_eq_false c1]; rfl))
  refine evpos c1 (evlet (a := mab (wrap64 (b - a))) rfl ?_)
  by_cases c2 : mab (wrap64 (b - a)) < smlOf st
  case neg => exact evneg c2 (no (by unfold onE; rw [decide_eq_false c2, Bool.and_false, Bool.false_and]))
  refine evpos c2 (evlet (a := mab (wrap64 (d - c))) rfl ?_)
  by_cases c3 : mab (wrap64 (d - c)) < smlOf st
  case neg =>
    rw [decide_eq_false c3]
    exact no (by unfold onE; rw [decide_eq_false c3, Bool.and_false])
  rw [decide_eq_true c3]
  have on : onE st a b c d = true := by
    unfold onE
    rw [decide_eq_true c1, decide_eq_true c2, decide_eq_true c3]; rfl
  unfold edgB edgC
  rw [if_pos on, if_pos on]
  refine Ev.step (f := fun _ => (impl_zclip.f (wrap64 (b + mvK st a b c d))).bind fun t => (impl_zclip.f (wrap64 (c - mvK st a b c d))).bind fun u => if 0 ≤ wrap64 ((i : Int) - (n : Int)) then (if wrap64 ((i : Int) - (n : Int)) < (s.length : Int) then (if 0 ≤ (i : Int) then (if (i : Int) < (s.length : Int) then some ((s.set (wrap64 ((i : Int) - (n : Int))).toNat t).set (i : Int).toNat u) else none) else none) else none) else none) (fun k => by simp only [impl_Smooth_2.j0, if_true]; rfl) ?_
  obtain ⟨b0, b1⟩ := B
  obtain ⟨c0, c1'⟩ := C
  rw [w64 (n := b + _) (by omega) (by omega), w64 (n := c - _) (by omega) (by omega), E2.out]
  refine evlet (zclip_i _) (evlet (zclip_i _) (evpos (by omega) (evpos (by omega) (evpos (by omega) (evpos (by omega) ?_)))))
  rw [Int.toNat_natCast, Int.toNat_natCast]
  exact Ev.now _
end
/-! The two ways of a plane. -/
section
variable {W H : Nat} {S : List Int} {st : Int} (h0 : 8 ≤ st) (h1 : st ≤ 40) (hW : W ≤ 512) (hH : H ≤ 512) (hN : W * H ≤ 4096)
include h0 h1 hW hH hN
theorem cols_both (x : Nat) (hx : x ≤ W) : ∀ s, Ok (W * H) s → ∃ r, Ok (W * H) r ∧ Ev (fun k => spec_l13Smooth.l2 k st (x : Int) (W : Int) (H : Int) S (W : Int) (H : Int) s) ((W : Int), (H : Int), r) ∧
    Ev (fun k => impl_Smooth.l2 k (bigOf st) (smlOf st) (mstOf st) (W : Int) (x : Int) (W : Int) (H : Int) S (W : Int) (H : Int) s) ((W : Int), (H : Int), r) := by
  refine down_to (n := W) (P := fun x => ∀ s, Ok (W * H) s → ∃ r, Ok (W * H) r ∧ Ev (fun k => spec_l13Smooth.l2 k st (x : Int) (W : Int) (H : Int) S (W : Int) (H : Int) s) ((W : Int), (H : Int), r) ∧
    Ev (fun k => impl_Smooth.l2 k (bigOf st) (smlOf st) (mstOf st) (W : Int) (x : Int) (W : Int) (H : Int) S (W : Int) (H : Int) s) ((W : Int), (H : Int), r)) ?_ ?_ x hx
  · intro s ho
    exact ⟨s, ho, Ev.step (fun k => rfl) (evneg (by omega) (Ev.now _)), Ev.step (fun k => rfl) (evneg (by omega) (Ev.now _))⟩
  intro x hx next s ho
  have inner : ∀ (m y : Nat), H ≤ y + m → 4 ≤ y → y ≤ H + 4 → ∀ s, Ok (W * H) s → ∃ r, Ok (W * H) r ∧ Ev (fun k => spec_l13Smooth.l3 k st (x : Int) (y : Int) (W : Int) (H : Int) S (W : Int) (H : Int) s) ((W : Int), (H : Int), r) ∧
      Ev (fun k => impl_Smooth.l3 k (bigOf st) (smlOf st) (mstOf st) (x : Int) (y : Int) (W : Int) (x : Int) (W : Int) (H : Int) S (W : Int) (H : Int) s) ((W : Int), (H : Int), r) := by
    intro m
    induction m with
    | zero =>
      intro y hy y4 yH s ho
      obtain ⟨r, hr, n1, n2⟩ := next s ho
      refine ⟨r, hr, Ev.step (fun k => rfl) (evneg (by rw [w64 (by omega) (by omega)]; omega) ?_), Ev.step (fun k => rfl) (evneg (by rw [w64 (by omega) (by omega)]; omega) ?_)⟩
      · rw [w64s (by omega)]; exact n1
      · rw [w64s (by omega)]; exact n2
    | succ m ih =>
      intro y hy y4 yH s ho
      by_cases c : y + 1 < H
      case neg =>
        obtain ⟨r, hr, n1, n2⟩ := next s ho
        refine ⟨r, hr, Ev.step (fun k => rfl) (evneg (by rw [w64 (by omega) (by omega)]; omega) ?_), Ev.step (fun k => rfl) (evneg (by rw [w64 (by omega) (by omega)]; omega) ?_)⟩
        · rw [w64s (by omega)]; exact n1
        · rw [w64s (by omega)]; exact n2
      obtain ⟨i, hi⟩ : ∃ i, i = y * W + x := ⟨_, rfl⟩
      have b1 : i + W < W * H := by
        have := Nat.mul_le_mul_left W (show y + 2 ≤ H by omega)
        rw [Nat.mul_add] at this
        have := Nat.mul_comm y W
        omega
      have b2 : 2 * W ≤ i := by
        have := Nat.mul_le_mul_right W (show 2 ≤ y by omega)
        omega
      have hyw : ((y : Int) * (W : Int)) = ((y * W : Nat) : Int) := by rw [Int.natCast_mul]
      have e0 := Aside0.mk (show wrap64 (wrap64 ((y : Int) * (W : Int)) + (x : Int)) = (i : Int) from by rw [hyw, w64 (n := ((y * W : Nat) : Int)) (by omega) (by omega), w64 (by omega) (by omega)]; omega)
      have e1 := Aside0.mk (show wrap64 ((i : Int) - wrap64 (2 * (W : Int))) = ((i - 2 * W : Nat) : Int) from by rw [w64 (n := 2 * (W : Int)) (by omega) (by omega), w64 (by omega) (by omega)]; omega)
      have e2 := Aside0.mk (show wrap64 ((i : Int) - (W : Int)) = ((i - W : Nat) : Int) from by rw [w64 (by omega) (by omega)]; omega)
      have e3 := Aside0.mk (show wrap64 ((i : Int) + (W : Int)) = ((i + W : Nat) : Int) from by rw [w64 (by omega) (by omega)]; omega)
      have e4 := Aside0.mk (show wrap64 ((y : Int) + 4) = ((y + 4 : Nat) : Int) from by rw [w64 (by omega) (by omega)]; omega)
      have hl := ho.len
      obtain ⟨r, hr, n1, n2⟩ := ih (y + 4) (by omega) (by omega) (by omega) (edg st s i W) (edg_ok h0 h1 ho b1 b2)
      refine ⟨r, hr, Ev.step (fun k => rfl) (evpos (by rw [w64 (by omega) (by omega)]; omega) ?_), Ev.step (fun k => rfl) (evpos (by rw [w64 (by omega) (by omega)]; omega) ?_)⟩
      · rw [e0.out, e1.out, e2.out, e3.out, e4.out]
        refine evpos (by omega) (evpos (by omega) (evpos (by omega) (evpos (by omega) (evpos (by omega) (evpos (by omega) (evpos (by omega) (evpos (by omega) ?_)))))))
        refine Ev.bind (edge_s h0 h1 (ho.v (i - 2 * W) (by omega)) (ho.v (i - W) (by omega)) (ho.v i (by omega)) (ho.v (i + W) b1)) ?_
        rw [Int.toNat_natCast, Int.toNat_natCast]
        exact n1
      · rw [e0.out, e4.out]
        exact Ev.bind (edge_i h0 h1 ho b1 b2 hN) n2
  obtain ⟨r, hr, n1, n2⟩ := inner H 4 (by omega) (by omega) (by omega) s ho
  exact ⟨r, hr, Ev.step (fun k => rfl) (evpos (by omega) n1), Ev.step (fun k => rfl) (evpos (by omega) n2)⟩
theorem rows_both (y : Nat) (hy : y ≤ H) : ∀ s, Ok (W * H) s → ∃ r, Ok (W * H) r ∧ Ev (fun k => spec_l13Smooth.l0 k st (y : Int) (W : Int) (H : Int) S (W : Int) (H : Int) s) ((W : Int), (H : Int), r) ∧
    Ev (fun k => impl_Smooth.l0 k (bigOf st) (smlOf st) (mstOf st) (H : Int) (y : Int) (W : Int) (H : Int) S (W : Int) (H : Int) s) ((W : Int), (H : Int), r) := by
  refine down_to (n := H) (P := fun y => ∀ s, Ok (W * H) s → ∃ r, Ok (W * H) r ∧ Ev (fun k => spec_l13Smooth.l0 k st (y : Int) (W : Int) (H : Int) S (W : Int) (H : Int) s) ((W : Int), (H : Int), r) ∧
    Ev (fun k => impl_Smooth.l0 k (bigOf st) (smlOf st) (mstOf st) (H : Int) (y : Int) (W : Int) (H : Int) S (W : Int) (H : Int) s) ((W : Int), (H : Int), r)) ?_ ?_ y hy
  · intro s ho
    obtain ⟨r, hr, n1, n2⟩ := cols_both (S := S) h0 h1 hW hH hN 0 (by omega) s ho
    exact ⟨r, hr, Ev.step (fun k => rfl) (evneg (by omega) n1), Ev.step (fun k => rfl) (evneg (by omega) n2)⟩
  intro y hy next s ho
  have inner : ∀ (m x : Nat), W ≤ x + m → 4 ≤ x → x ≤ W + 4 → ∀ s, Ok (W * H) s → ∃ r, Ok (W * H) r ∧ Ev (fun k => spec_l13Smooth.l1 k st (y : Int) (x : Int) (W : Int) (H : Int) S (W : Int) (H : Int) s) ((W : Int), (H : Int), r) ∧
      Ev (fun k => impl_Smooth.l1 k (bigOf st) (smlOf st) (mstOf st) (y : Int) (x : Int) (H : Int) (y : Int) (W : Int) (H : Int) S (W : Int) (H : Int) s) ((W : Int), (H : Int), r) := by
    intro m
    induction m with
    | zero =>
      intro x hx x4 xW s ho
      obtain ⟨r, hr, n1, n2⟩ := next s ho
      refine ⟨r, hr, Ev.step (fun k => rfl) (evneg (by rw [w64 (by omega) (by omega)]; omega) ?_), Ev.step (fun k => rfl) (evneg (by rw [w64 (by omega) (by omega)]; omega) ?_)⟩
      · rw [w64s (by omega)]; exact n1
      · rw [w64s (by omega)]; exact n2
    | succ m ih =>
      intro x hx x4 xW s ho
      by_cases c : x + 1 < W
      case neg =>
        obtain ⟨r, hr, n1, n2⟩ := next s ho
        refine ⟨r, hr, Ev.step (fun k => rfl) (evneg (by rw [w64 (by omega) (by omega)]; omega) ?_), Ev.step (fun k => rfl) (evneg (by rw [w64 (by omega) (by omega)]; omega) ?_)⟩
        · rw [w64s (by omega)]; exact n1
        · rw [w64s (by omega)]; exact n2
      obtain ⟨i, hi⟩ : ∃ i, i = y * W + x := ⟨_, rfl⟩
      have b1 : i + 1 < W * H := by
        have := Nat.mul_le_mul_left W (show y + 1 ≤ H by omega)
        rw [Nat.mul_add] at this
        have := Nat.mul_comm y W
        omega
      have b2 : 2 * 1 ≤ i := by omega
      have hyw : ((y : Int) * (W : Int)) = ((y * W : Nat) : Int) := by rw [Int.natCast_mul]
      have e0 := Aside0.mk (show wrap64 (wrap64 ((y : Int) * (W : Int)) + (x : Int)) = (i : Int) from by rw [hyw, w64 (n := ((y * W : Nat) : Int)) (by omega) (by omega), w64 (by omega) (by omega)]; omega)
      have e1 := Aside0.mk (show wrap64 ((i : Int) - 2) = ((i - 2 * 1 : Nat) : Int) from by rw [w64 (by omega) (by omega)]; omega)
      have e2 := Aside0.mk (show wrap64 ((i : Int) - 1) = ((i - 1 : Nat) : Int) from by rw [w64 (by omega) (by omega)]; omega)
      have e3 := Aside0.mk (show wrap64 ((i : Int) + 1) = ((i + 1 : Nat) : Int) from w64s (by omega))
      have e4 := Aside0.mk (show wrap64 ((x : Int) + 4) = ((x + 4 : Nat) : Int) from by rw [w64 (by omega) (by omega)]; omega)
      have hl := ho.len
      obtain ⟨r, hr, n1, n2⟩ := ih (x + 4) (by omega) (by omega) (by omega) (edg st s i 1) (edg_ok h0 h1 ho b1 b2)
      refine ⟨r, hr, Ev.step (fun k => rfl) (evpos (by rw [w64 (by omega) (by omega)]; omega) ?_), Ev.step (fun k => rfl) (evpos (by rw [w64 (by omega) (by omega)]; omega) ?_)⟩
      · rw [e0.out, e1.out, e2.out, e3.out, e4.out]
        refine evpos (by omega) (evpos (by omega) (evpos (by omega) (evpos (by omega) (evpos (by omega) (evpos (by omega) (evpos (by omega) (evpos (by omega) ?_)))))))
        refine Ev.bind (edge_s h0 h1 (ho.v (i - 2 * 1) (by omega)) (ho.v (i - 1) (by omega)) (ho.v i (by omega)) (ho.v (i + 1) b1)) ?_
        rw [Int.toNat_natCast, Int.toNat_natCast]
        exact n1
      · rw [e0.out, e4.out]
        exact Ev.bind (edge_i h0 h1 ho b1 b2 hN) n2
  obtain ⟨r, hr, n1, n2⟩ := inner W 4 (by omega) (by omega) (by omega) s ho
  exact ⟨r, hr, Ev.step (fun k => rfl) (evpos (by omega) n1), Ev.step (fun k => rfl) (evpos (by omega) n2)⟩
end
theorem smooth_both (W H : Int) (S : List Int) (st : Int) (hS : S.length ≤ 1048576) : ∃ (w' h' : Int) (r : List Int), r.length ≤ 1048576 ∧ Ev (fun k => spec_Smooth.f k W H S st) (w', h', r) ∧ Ev (fun k => impl_Smooth.f k W H S st) (w', h', r) := by
  obtain ⟨q, p1, p2, p3⟩ := plane_both W H S hS
  have out : Ev (fun k => impl_Smooth.j0 k st true W H S) (0, 0, []) := Ev.step (f := fun _ => some (0, 0, [])) (fun k => by simp only [impl_Smooth.j0, if_true]) (Ev.now _)
  cases q with
  | false => exact ⟨0, 0, [], by simp, Ev.bind p1 (evneg (by decide) (Ev.now _)), Ev.bind p2 (evneg (by decide) out)⟩
  | true =>
    have ho := p3 rfl
    by_cases c1 : st < 0
    · exact ⟨0, 0, [], by simp, Ev.bind p1 (evpos rfl (evpos c1 (Ev.now _))), Ev.bind p2 (evpos rfl (evpos c1 out))⟩
    by_cases c2 : st > 40
    · refine ⟨0, 0, [], by simp, Ev.bind p1 (evpos rfl (evneg c1 (evpos c2 (Ev.now _)))), Ev.bind p2 (evpos rfl (evneg c1 ?_))⟩
      rw [decide_eq_true c2]; exact out
    obtain ⟨w, rfl⟩ : ∃ w : Nat, W = (w : Int) := ⟨W.toNat, by have := ho.w; omega⟩
    obtain ⟨h, rfl⟩ : ∃ h : Nat, H = (h : Int) := ⟨H.toNat, by have := ho.h; omega⟩
    have hl : S.length = w * h := by have := ho.len; rw [← Int.natCast_mul] at this; omega
    have hwh : w * h ≤ 4096 := by have := ho.wh; rw [← Int.natCast_mul] at this; omega
    have hw := ho.w
    have hh := ho.h
    have oS : Ok (w * h) S := ⟨hl, fun j hj => ⟨(ho.v j (by omega)).1, (ho.v j (by omega)).2⟩⟩
    have zc : impl_zcopy.f S = some S := by
      unfold impl_zcopy.f
      rw [Option.bind_some, if_pos (by simp only [List.length_nil]; omega), List.nil_append]
    have im : ∀ r, Ev (fun k => (impl_zcopy.f S).bind fun t186 => (if st < 8 then (some ((w : Int), (h : Int), t186)) else (impl_Smooth.l0 k (bigOf st) (smlOf st) (mstOf st) (h : Int) 0 (w : Int) (h : Int) S (w : Int) (h : Int) t186))) r → Ev (fun k => impl_Smooth.f k (w : Int) (h : Int) S st) r := by
      intro r hr
      refine Ev.bind p2 (evpos rfl (evneg c1 ?_))
      rw [decide_eq_false c2]
      exact Ev.step (fun k => by simp only [impl_Smooth.j0, Bool.false_eq_true, if_false]; rfl) hr
    have sp : ∀ r, Ev (fun k => if st < 8 then some ((w : Int), (h : Int), S) else spec_l13Smooth.l0 k st 0 (w : Int) (h : Int) S (w : Int) (h : Int) S) r → Ev (fun k => spec_Smooth.f k (w : Int) (h : Int) S st) r := by
      intro r hr
      refine Ev.bind p1 (evpos rfl (evneg c1 (evneg c2 ?_)))
      refine Ev.bind (a := r) ?_ (Ev.now _)
      unfold spec_l13Smooth.f
      refine evpos (by simp only [List.length_nil]; omega) (evlet (a := S) rfl ?_)
      exact hr
    by_cases c3 : st < 8
    · exact ⟨w, h, S, hS, sp _ (evpos c3 (Ev.now _)), im _ (evlet zc (evpos c3 (Ev.now _)))⟩
    obtain ⟨r, hr, n1, n2⟩ := rows_both (S := S) (W := w) (H := h) (st := st) (by omega) (by omega) (by omega) (by omega) hwh 0 (by omega) S oS
    exact ⟨w, h, r, by have := hr.len; omega, sp _ (evneg c3 n1), im _ (evlet zc (evneg c3 n2))⟩
theorem mhPlane (W H : Int) (l : List Int) (hl : l.length ≤ 1048576) : ∃ (m : Int) (l' : List Int), 0 ≤ m ∧ Ev (fun k => laws_markPlane.f k W H l 1) (m, l') ∧ Ev (fun k => laws_heldPlane.f k W H l' 1) m := by
  obtain ⟨l', h1, h2, _⟩ := mhIntS l 1 (by omega) (by omega)
  exact ⟨_, l', by omega, Ev.bind h1 (Ev.now _), Ev.bind h2 (evneg (by omega) (Ev.now _))⟩
theorem FnExactSmooth : laws_FnExactSmooth.Pure := by
  intro W H S st ⟨_, _, hS, _⟩ _
  refine Ev.rounds ?_
  obtain ⟨r, s0, s1, s2⟩ := szPlane W H S 1048576 hS (by omega) (by omega)
  by_cases c : r < 0
  · exact Ev.bind s0 (evpos c (Ev.now _))
  have sl := s2 (by omega)
  have t := toPlane W H S sl
  obtain ⟨w', h', out, hl, h1, h2⟩ := smooth_both W H S st sl
  have eo := eqPlane w' h' out (by omega)
  have es := eqPlane W H S (by omega)
  obtain ⟨m, S', hm0, hm, _⟩ := mhPlane W H S sl
  obtain ⟨g, out', hg0, hg1, hg2⟩ := mhPlane w' h' out hl
  have jn : Ev (fun k => laws_FnExactSmooth.j0 k st (!true) W H S w' h' out w' h' out) true :=
    Ev.step (f := fun k => (laws_markPlane.f k w' h' out 1).bind fun bt214 => ((laws_heldPlane.f k w' h' bt214.2 1).bind fun t216 => (if t216 < 0 then (some false) else (if t216 = bt214.1 then ((laws_toPlane.f k W H S).bind fun bt217 => ((impl_Smooth.f k bt217.1 bt217.2.1 bt217.2.2 st).bind fun bt222 => ((laws_eqPlane.f k bt222.1 bt222.2.1 bt222.2.2 w' h' out).bind fun t228 => (if t228 = true then ((laws_heldPlane.f k w' h' bt214.2 1).bind fun t229 => (if t229 < 0 then (some false) else (if t229 = bt214.1 then (some true) else (some false)))) else (some false))))) else (some false))))) (fun k => by simp only [laws_FnExactSmooth.j0, Bool.not_true, Bool.false_eq_true, if_false]) (Ev.bind hg1 (Ev.bind hg2 (evneg (by omega) (evpos rfl (Ev.bind t (Ev.bind h2 (Ev.bind eo (evpos rfl (Ev.bind hg2 (evneg (by omega) (evpos rfl (Ev.now _))))))))))))
  refine Ev.bind s0 (evneg c (Ev.bind t (Ev.bind h1 (Ev.bind t (Ev.bind h2 (Ev.bind eo (evpos rfl (Ev.bind t (Ev.bind es (evpos rfl (Ev.bind hm ?_)))))))))))
  exact evneg (by simp only; omega) (Ev.bind eo jn)
end Go.Proofs.Ytglaedjadlappaa.Pure

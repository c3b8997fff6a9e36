/- For all inputs Merge of the program answers as the reference's; no conditions. -/
import Derived.Test.YtidblealnaicpaaPFnExactMergex0
import Derived.Test.YtidblealnaicpaaPFnExactMergex1
import Derived.Test.YtidblealnaicpaaPFnExactMergex2
import Derived.Test.YtidblealnaicpaaPFnExactMergex3
import Derived.Test.YtidblealnaicpaaPFnExactMergex4
import Derived.Test.YtidblealnaicpaaPFnExactMergex5
import Derived.Test.YtidblealnaicpaaPFnExactMergex6
import Derived.Test.YtidblealnaicpaaPFnExactMergex7
import Derived.Test.YtidblealnaicpaaPFnExactMergex8
import Derived.Test.YtidblealnaicpaaPFnExactMergex9
import Derived.Test.YtidblealnaicpaaTFEMK
import Derived.Laws.Bits64b
namespace Go.Proofs.Ytidblealnaicpaa.Pure
open Go.RowKit Go.Proofs.Ytidblealnaicpaa.PFnExactMerge Go.Proofs.Ytidblealnaicpaa.K Go.Proofs.YtidblealnaicpaaW.PrintWords Go.Proofs.YtidblealnaicpaaW.PrintLast Go.Proofs.YtidblealnaicpaaW.PrintMore

theorem rdT108 (l : List S108) (i : Nat) : rd_T108 l (i : Int) = l.getD i z108 := by simp [rd_T108]
theorem rdT113 (l : List S113) (i : Nat) : rd_T113 l (i : Int) = l.getD i z113 := by simp [rd_T113]
theorem rdT35 (l : List S35) (i : Nat) : rd_T35 l (i : Int) = l.getD i z35 := by simp [rd_T35]
theorem rdL1n (l : List (List Int)) (i : Nat) : rd_L1 l (i : Int) = l.getD i ([] : List Int) := by simp [rd_L1]
theorem toIntS (l : List Int) (hl : l.length ≤ 1048576) : Ev (fun k => laws_toIntS.f k l) l := by
  refine evpos (by omega) (evpos (by omega) ?_)
  have := down (n := l.length) (P := fun i => Ev (fun k => laws_toIntS.l0 k l (fl 0 l.length (fun j => l.getD j 0) i) (i : Int)) l) ?_ ?_
  · rw [fl_zero] at this; exact this
  · refine Ev.step (fun k => rfl) (evneg (by omega) ?_)
    rw [fl_all]
    have e := map_range_get l 0 id
    try simp only [id_eq, List.map_id_fun] at e
    rw [e]; exact Ev.now _
  · intro i hi h
    refine Ev.step (fun k => rfl) (evpos (by omega) (evpos (by omega) (evpos (by rw [fl_len]; omega) ?_)))
    rw [w64s (by omega), rd_nat, getD_lt hi, Int.toNat_natCast]
    rw [← fl_set, getD_lt hi] at h
    exact h
theorem eqIntS (l : List Int) (hl : l.length ≤ 4611686018427387904) : Ev (fun k => laws_eqIntS.f k l l) true := by
  refine evpos rfl ?_
  refine down (n := l.length) (P := fun i => Ev (fun k => laws_eqIntS.l0 k l l (i : Int)) true) ?_ ?_
  · exact Ev.step (fun k => rfl) (evneg (by omega) (Ev.now _))
  · intro i hi h
    refine Ev.step (fun k => rfl) (evpos (by omega) (evpos (by omega) (evpos (by omega) (evpos rfl ?_))))
    rw [w64s (by omega)]; exact h
theorem szIntS (l : List Int) (a : Int) (hl : l.length ≤ maxLen) (h0 : 0 ≤ a) (h1 : a ≤ 1048576) : laws_szIntS.f l a = some (if a < l.length then -1 else a - l.length) := by
  unfold maxLen at hl
  unfold laws_szIntS.f
  rw [w64 (by omega) (by omega)]
  split <;> split <;> first | rfl | omega
theorem mhIntS (l : List Int) (a : Int) (h0 : 0 ≤ a) (h1 : a + l.length ≤ 4611686018427387904) : ∃ l' : List Int, Ev (fun k => laws_markIntS.f k l a) (a + l.length, l') ∧ Ev (fun k => laws_heldIntS.f k l' a) (a + l.length) ∧ l'.length = l.length := by
  refine ⟨(List.range l.length).map (fun (j : Nat) => a + (j : Int)), ?_, ?_, by simp⟩
  · have := down (n := l.length) (P := fun i => Ev (fun k => laws_markIntS.l0 k (f2 l.length (fun (j : Nat) => a + (j : Int)) (fun j => l.getD j 0) i) (a + (i : Int)) (i : Int)) (a + l.length, (List.range l.length).map (fun (j : Nat) => a + (j : Int)))) ?_ ?_
    · rw [f2_zero] at this; rw [show a + ((0 : Nat) : Int) = a by omega] at this; exact this
    · refine Ev.step (fun k => rfl) (evneg (by rw [f2_len]; omega) ?_)
      rw [f2_all]; exact Ev.now _
    · intro i hi h
      refine Ev.step (fun k => rfl) (evpos (by rw [f2_len]; omega) (evpos (by omega) ?_))
      rw [w64s (by omega), w64 (by omega) (by omega), Int.toNat_natCast, show a + (i : Int) + 1 = a + ((i + 1 : Nat) : Int) by omega]
      rw [← f2_set] at h
      exact h
  · have := down (n := l.length) (P := fun i => Ev (fun k => laws_heldIntS.l0 k ((List.range l.length).map (fun (j : Nat) => a + (j : Int))) (a + (i : Int)) (i : Int)) (a + l.length)) ?_ ?_
    · rw [show a + ((0 : Nat) : Int) = a by omega] at this; exact this
    · exact Ev.step (fun k => rfl) (evneg (by simp) (Ev.now _))
    · intro i hi h
      refine Ev.step (fun k => rfl) (evpos (by simpa using hi) (evpos (by omega) (evpos (by rw [rd_nat, range_getD _ _ _ _ hi]) ?_)))
      rw [w64s (by omega), w64 (by omega) (by omega), show a + (i : Int) + 1 = a + ((i + 1 : Nat) : Int) by omega]
      exact h
theorem szImage (a0_0 : Int) (a0_1 : Int) (a0_2 : Int) (a0_3 : Int) (l0_4 : List Int) (a : Int) (hl0_4 : l0_4.length ≤ maxLen) (h0 : 0 ≤ a) (h1 : a ≤ 1048576) : ∃ r, Ev (fun _ => laws_szImage.f a0_0 a0_1 a0_2 a0_3 l0_4 a) r ∧ r ≤ a ∧ (0 ≤ r → l0_4.length ≤ 1048576) := by
  have e0 := szIntS l0_4 a hl0_4 (by omega) (by omega)
  by_cases c0 : a < (l0_4.length : Int)
  · rw [if_pos c0] at e0
    exact ⟨-1, evlet e0 (evpos (by omega) (Ev.now _)), by omega, by omega⟩
  rw [if_neg c0] at e0
  exact ⟨(a - l0_4.length), evlet e0 (evneg (by omega) (Ev.now _)), by omega, fun _ => by omega⟩
theorem szImageS (l0 : List (S108)) (a : Int) (hl0 : (l0.length ≤ maxLen ∧ ∀ y0 ∈ l0, y0.f4.length ≤ maxLen)) (h0 : 0 ≤ a) (h1 : a ≤ 1048576) : ∃ r, Ev (fun k => laws_szImageS.f k l0 a) r ∧ r ≤ a ∧ (0 ≤ r → (l0.length ≤ 1048576 ∧ ∀ y0 ∈ l0, y0.f4.length ≤ 1048576)) := by
  obtain ⟨hl, hs⟩ := hl0
  unfold maxLen at hl
  have hw : wrap64 (a - (l0.length : Int)) = a - l0.length := w64 (by omega) (by omega)
  by_cases c : a - (l0.length : Int) < 0
  · exact ⟨-1, evpos (by rw [hw]; exact c) (Ev.now _), by omega, by omega⟩
  have main := down (n := l0.length) (P := fun i => ∀ b : Int, 0 ≤ b → b ≤ a → ∃ r, Ev (fun k => laws_szImageS.l0 k l0 b (i : Int)) r ∧ r ≤ b ∧ (0 ≤ r → ∀ y ∈ l0.drop i, y.f4.length ≤ 1048576)) ?_ ?_
  · obtain ⟨r, e, e1, e2⟩ := main (a - l0.length) (by omega) (by omega)
    refine ⟨r, evneg (by rw [hw]; exact c) (by rw [hw]; exact e), by omega, fun h => ⟨by omega, by simpa using e2 h⟩⟩
  · intro b b0 _
    exact ⟨b, Ev.step (fun k => rfl) (evneg (by omega) (Ev.now _)), by omega, fun _ y hy => by simp at hy⟩
  · intro i hi ih b b0 b1
    have hm := hs _ (List.getElem_mem hi)
    have hd : ∀ y ∈ l0.drop i, y = l0[i] ∨ y ∈ l0.drop (i + 1) := by
      intro y hy
      rw [List.drop_eq_getElem_cons hi] at hy
      exact List.mem_cons.1 hy
    obtain ⟨q, q0, q1, q2⟩ := szImage _ _ _ _ _ b hm b0 (by omega)
    by_cases c2 : q < 0
    · refine ⟨-1, Ev.step (fun k => rfl) (evpos (by omega) (evpos (by omega) ?_)), by omega, by omega⟩
      rw [rdT108, getD_lt hi]
      exact Ev.bind q0 (evpos c2 (Ev.now _))
    · obtain ⟨r, e, e1, e2⟩ := ih q (by omega) (by omega)
      refine ⟨r, Ev.step (fun k => rfl) (evpos (by omega) (evpos (by omega) ?_)), by omega, fun h y hy => ?_⟩
      · rw [rdT108, getD_lt hi]
        refine Ev.bind q0 (evneg c2 ?_)
        rw [w64s (by omega)]; exact e
      · rcases hd y hy with rfl | hy
        · exact q2 (by omega)
        · exact e2 h y hy
theorem toImage (a0_0 : Int) (a0_1 : Int) (a0_2 : Int) (a0_3 : Int) (l0_4 : List Int) (hl0_4 : l0_4.length ≤ 1048576) : Ev (fun k => laws_toImage.f k a0_0 a0_1 a0_2 a0_3 l0_4) (a0_0, a0_1, a0_2, a0_3, l0_4) :=
  Ev.bind (toIntS l0_4 hl0_4) (Ev.now _)
def cv108 (y : S108) : S35 := (⟨y.f0, y.f1, y.f2, y.f3, y.f4⟩ : S35)
theorem toImageS (l : List (S108)) (hl : (l.length ≤ 1048576 ∧ ∀ y0 ∈ l, y0.f4.length ≤ 1048576)) : Ev (fun k => laws_toImageS.f k l) (l.map cv108) := by
  obtain ⟨hl, hs⟩ := hl
  refine evpos (by omega) (evpos (by omega) ?_)
  have := down (n := l.length) (P := fun i => Ev (fun k => laws_toImageS.l0 k l (fl z35 l.length (fun j => cv108 (l.getD j z108)) i) (i : Int)) (l.map cv108)) ?_ ?_
  · rw [fl_zero] at this; exact this
  · refine Ev.step (fun k => rfl) (evneg (by omega) ?_)
    rw [fl_all]
    have e := map_range_get l z108 (cv108)
    try simp only [id_eq, List.map_id_fun] at e
    rw [e]; exact Ev.now _
  · intro i hi h
    have hm := hs _ (List.getElem_mem hi)
    refine Ev.step (fun k => rfl) (evpos (by omega) (evpos (by omega) ?_))
    rw [rdT108, getD_lt hi]
    refine Ev.bind (toImage _ _ _ _ _ hm) (evpos (by rw [fl_len]; omega) ?_)
    rw [w64s (by omega), Int.toNat_natCast]
    rw [← fl_set, getD_lt hi] at h
    exact h
theorem eqImage (a0_0 : Int) (a0_1 : Int) (a0_2 : Int) (a0_3 : Int) (l0_4 : List Int) (hl0_4 : l0_4.length ≤ 4611686018427387904) : Ev (fun k => laws_eqImage.f k a0_0 a0_1 a0_2 a0_3 l0_4 a0_0 a0_1 a0_2 a0_3 l0_4) true :=
  evpos rfl (evpos rfl (evpos rfl (evpos rfl (Ev.bind (eqIntS l0_4 hl0_4) (evpos rfl (Ev.now _))))))
theorem eqImageS (l : List (S35)) (hl : (l.length ≤ 4611686018427387904 ∧ ∀ y0 ∈ l, y0.f4.length ≤ 4611686018427387904)) : Ev (fun k => laws_eqImageS.f k l l) true := by
  obtain ⟨hl, hs⟩ := hl
  refine evpos rfl ?_
  refine down (n := l.length) (P := fun i => Ev (fun k => laws_eqImageS.l0 k l l (i : Int)) true) ?_ ?_
  · exact Ev.step (fun k => rfl) (evneg (by omega) (Ev.now _))
  · intro i hi h
    have hm := hs _ (List.getElem_mem hi)
    refine Ev.step (fun k => rfl) (evpos (by omega) (evpos (by omega) (evpos (by omega) ?_)))
    rw [rdT35, getD_lt hi, w64s (by omega)]
    exact Ev.bind (eqImage _ _ _ _ _ hm) (evpos rfl h)
/-! What a good image is. -/
structure ImgOk (W H PL : Int) (l : List Int) : Prop where
  w : 1 ≤ W ∧ W ≤ 512
  h : 1 ≤ H ∧ H ≤ 512
  wh : W * H ≤ 4096
  pl : 1 ≤ PL ∧ PL ≤ 4
  len : (l.length : Int) = W * H * PL
theorem depth_shl {d : Int} (h : d = 1 ∨ d = 2 ∨ d = 4 ∨ d = 8 ∨ d = 16) : ∃ m : Int, shl .i64 1 d = m ∧ shl .i64 1 (IntKind.u64.wrap d) = m ∧ 1 ≤ m ∧ m ≤ 65536 ∧ 0 ≤ IntKind.u64.wrap d := by
  rcases h with rfl | rfl | rfl | rfl | rfl
  · exact ⟨2, rfl, rfl, by decide, by decide, by decide⟩
  · exact ⟨4, rfl, rfl, by decide, by decide, by decide⟩
  · exact ⟨16, rfl, rfl, by decide, by decide, by decide⟩
  · exact ⟨256, rfl, rfl, by decide, by decide, by decide⟩
  · exact ⟨65536, rfl, rfl, by decide, by decide, by decide⟩
theorem rng_both (l : List Int) (hl : l.length ≤ 1048576) (w h pl d m : Int) (h1 : shl .i64 1 (IntKind.u64.wrap d) = m) (h2 : 0 ≤ IntKind.u64.wrap d) (h3 : 1 ≤ m ∧ m ≤ 65536) : ∃ q : Bool, Ev (fun k => spec_GoodImage.l0 k l (l.length : Int) 0 w h pl d l) q ∧ Ev (fun k => impl_inRange.f k l (wrap64 (m - 1))) q := by
  have hw : wrap64 (m - 1) = m - 1 := w64 (by omega) (by omega)
  rw [hw]
  have main := down (n := l.length) (P := fun i => ∃ q : Bool, Ev (fun k => spec_GoodImage.l0 k l (l.length : Int) (i : Int) w h pl d l) q ∧ Ev (fun k => impl_inRange.l0 k (m - 1) l (l.length : Int) (i : Int)) q) ?_ ?_
  · exact main
  · exact ⟨true, Ev.step (fun k => rfl) (evneg (by omega) (Ev.now _)), Ev.step (fun k => rfl) (evneg (by omega) (Ev.now _))⟩
  · intro i hi ⟨q, a1, a2⟩
    generalize er : rd l (i : Int) = v
    by_cases c1 : v < 0
    · refine ⟨false, Ev.step (fun k => rfl) (evpos (by omega) (evpos (by omega) (evpos (by omega) ?_))), Ev.step (fun k => rfl) (evpos (by omega) (evpos (by omega) (evpos (by omega) ?_)))⟩
      · rw [er]; exact evpos c1 (Ev.now _)
      · rw [er]; exact evpos c1 (Ev.now _)
    by_cases c2 : v ≥ m
    · refine ⟨false, Ev.step (fun k => rfl) (evpos (by omega) (evpos (by omega) (evpos (by omega) ?_))), Ev.step (fun k => rfl) (evpos (by omega) (evpos (by omega) (evpos (by omega) ?_)))⟩
      · rw [er, h1]; exact evneg c1 (evpos h2 (evpos c2 (Ev.now _)))
      · rw [er]; exact evneg c1 (evpos (by omega) (Ev.now _))
    refine ⟨q, Ev.step (fun k => rfl) (evpos (by omega) (evpos (by omega) (evpos (by omega) ?_))), Ev.step (fun k => rfl) (evpos (by omega) (evpos (by omega) (evpos (by omega) ?_)))⟩
    · rw [er, h1, w64s (by omega)]; exact evneg c1 (evpos h2 (evneg c2 a1))
    · rw [er, w64s (by omega)]; exact evneg c1 (evneg (by omega) a2)
theorem goodSide_eq (n : Int) : impl_goodSide.f n = some (decide (1 ≤ n ∧ n ≤ 512)) := by
  unfold impl_goodSide.f
  by_cases c : n ≥ 1
  · rw [if_pos c]
    congr 1
    by_cases e : n ≤ 512
    · rw [decide_eq_true e, decide_eq_true ⟨by omega, e⟩]
    · rw [decide_eq_false e, decide_eq_false (fun z => e z.2)]
  · rw [if_neg c, decide_eq_false (fun z => c z.1)]
theorem depths (d : Int) : ∃ q : Bool, impl_goodDepth.f d = some q ∧ spec_l4Depth.f d = some q ∧ (q = true → d = 1 ∨ d = 2 ∨ d = 4 ∨ d = 8 ∨ d = 16) := by
  unfold impl_goodDepth.f spec_l4Depth.f
  by_cases c1 : d = 1
  · exact ⟨true, by rw [if_pos c1], by rw [if_pos c1], fun _ => by omega⟩
  by_cases c2 : d = 2
  · exact ⟨true, by rw [if_neg c1, if_pos c2], by rw [if_neg c1, if_pos c2], fun _ => by omega⟩
  by_cases c3 : d = 4
  · exact ⟨true, by rw [if_neg c1, if_neg c2, if_pos c3], by rw [if_neg c1, if_neg c2, if_pos c3], fun _ => by omega⟩
  by_cases c4 : d = 8
  · exact ⟨true, by rw [if_neg c1, if_neg c2, if_neg c3, if_pos c4], by rw [if_neg c1, if_neg c2, if_neg c3, if_pos c4], fun _ => by omega⟩
  exact ⟨d == 16, by rw [if_neg c1, if_neg c2, if_neg c3, if_neg c4], by rw [if_neg c1, if_neg c2, if_neg c3, if_neg c4], fun h => by have := beq_iff_eq.1 h; omega⟩
/-- Of a shape that is good: what the program says of the samples. -/
theorem shape_bad {w h pl d : Int} (l : List Int) (hs : impl_goodShape.f w h pl d = some false) : Ev (fun k => impl_GoodImage.f k w h pl d l) false := evlet hs (evneg (by simp) (Ev.now _))
theorem sides_false {w h : Int} (c : ¬ (1 ≤ w ∧ w ≤ 512 ∧ 1 ≤ h ∧ h ≤ 512)) : impl_goodSides.f w h = some false ∧ spec_l4Sides.f w h = some false := by
  unfold impl_goodSides.f spec_l4Sides.f
  rw [goodSide_eq, goodSide_eq]
  simp only [Option.bind_some]
  by_cases c1 : 1 ≤ w ∧ w ≤ 512
  · have c2 : ¬ (1 ≤ h ∧ h ≤ 512) := fun z => c ⟨c1.1, c1.2, z.1, z.2⟩
    rw [decide_eq_true c1, decide_eq_false c2]
    refine ⟨rfl, ?_⟩
    rw [if_pos (by omega), if_pos (by omega)]
    by_cases e : h ≥ 1
    · rw [if_pos e, decide_eq_false (by omega)]
    · rw [if_neg e]
  · rw [decide_eq_false c1]
    refine ⟨rfl, ?_⟩
    by_cases e : w ≥ 1
    · rw [if_pos e, if_neg (by omega)]
    · rw [if_neg e]
theorem good_img (w h pl d : Int) (l : List Int) (hl : l.length ≤ 1048576) : ∃ q : Bool, Ev (fun k => spec_GoodImage.f k w h pl d l) q ∧ Ev (fun k => impl_GoodImage.f k w h pl d l) q ∧ (q = true → ImgOk w h pl l) := by
  have j0t : Ev (fun k => spec_GoodImage.j0 k true w h pl d l) false := Ev.step (f := fun _ => some false) (fun k => by simp only [spec_GoodImage.j0, if_true]) (Ev.now _)
  have j1t : Ev (fun k => spec_GoodImage.j1 k true w h pl d l) false := Ev.step (f := fun _ => some false) (fun k => by simp only [spec_GoodImage.j1, if_true]) (Ev.now _)
  have no : ∀ {P : Prop}, (false = true) → P := fun h => by cases h
  by_cases cs : 1 ≤ w ∧ w ≤ 512 ∧ 1 ≤ h ∧ h ≤ 512
  rotate_left
  · obtain ⟨s1, s2⟩ := sides_false cs
    refine ⟨false, evlet s2 (evneg (by simp) j0t), shape_bad l ?_, no⟩
    unfold impl_goodShape.f; rw [s1]; rfl
  obtain ⟨w1, w2, h1, h2⟩ := cs
  have s2 : spec_l4Sides.f w h = some true := by
    unfold spec_l4Sides.f; rw [if_pos (by omega), if_pos (by omega), if_pos (by omega), decide_eq_true (by omega)]
  have wh0 : 1 ≤ w * h := by have := Int.mul_le_mul_of_nonneg_left h1 (show 0 ≤ w by omega); omega
  have wh1 : w * h ≤ 512 * 512 := by
    have a := Int.mul_le_mul_of_nonneg_right w2 (show 0 ≤ h by omega)
    omega
  have hw : wrap64 (w * h) = w * h := w64 (by omega) (by omega)
  have gs : impl_goodSides.f w h = some (decide (w * h ≤ 4096)) := by
    unfold impl_goodSides.f
    rw [goodSide_eq, goodSide_eq, decide_eq_true ⟨w1, w2⟩, decide_eq_true ⟨h1, h2⟩]
    simp only [Option.bind_some, if_true]
    rw [hw]
  have shp : ∀ q, (if decide (w * h ≤ 4096) = true then (if pl ≥ 1 then (if pl ≤ 4 then ((impl_goodDepth.f d).bind fun t114 => (if t114 = true then (if pl = 1 then (some true) else (some (decide (d ≥ 8)))) else (some false))) else (some false)) else (some false)) else (some false)) = some q → impl_goodShape.f w h pl d = some q := fun q hq => by
    unfold impl_goodShape.f; rw [gs]; exact hq
  by_cases c1 : w * h > 4096
  · exact ⟨false, evlet s2 (evpos rfl (evpos (by rw [hw]; exact c1) j0t)), shape_bad l (shp _ (by rw [decide_eq_false (by omega)]; rfl)), no⟩
  by_cases c2 : pl < 1
  · exact ⟨false, evlet s2 (evpos rfl (evneg (by rw [hw]; exact c1) (evpos c2 j0t))), shape_bad l (shp _ (by rw [if_pos (decide_eq_true (by omega)), if_neg (by omega)])), no⟩
  by_cases c3 : pl > 4
  · exact ⟨false, evlet s2 (evpos rfl (evneg (by rw [hw]; exact c1) (evneg c2 (evpos c3 j0t)))), shape_bad l (shp _ (by rw [if_pos (decide_eq_true (by omega)), if_pos (by omega), if_neg (by omega)])), no⟩
  obtain ⟨qd, d1, d2, d3⟩ := depths d
  have toj : ∀ {q : Bool}, Ev (fun k => spec_GoodImage.j0 k (!qd) w h pl d l) q → Ev (fun k => spec_GoodImage.f k w h pl d l) q := fun h => evlet s2 (evpos rfl (evneg (by rw [hw]; exact c1) (evneg c2 (evneg c3 (evlet d2 h)))))
  have shp2 : ∀ q, (if qd = true then (if pl = 1 then (some true) else (some (decide (d ≥ 8)))) else (some false)) = some q → impl_goodShape.f w h pl d = some q := fun q hq => shp q (by
    rw [if_pos (decide_eq_true (by omega)), if_pos (by omega), if_pos (by omega), d1]; exact hq)
  cases qd with
  | false => exact ⟨false, toj j0t, shape_bad l (shp2 _ rfl), no⟩
  | true =>
    have dd := d3 rfl
    have wp : w * h * pl ≤ 4096 * 4 := by
      have a := Int.mul_le_mul_of_nonneg_right (show w * h ≤ 4096 by omega) (show 0 ≤ pl by omega)
      omega
    have wp0 : 0 ≤ w * h * pl := Int.mul_nonneg (by omega) (by omega)
    have hwp : wrap64 (wrap64 (w * h) * pl) = w * h * pl := by rw [hw, w64 (by omega) (by omega)]
    obtain ⟨m, m1, m2, m3, m4, m5⟩ := depth_shl dd
    obtain ⟨q, r1, r2⟩ := rng_both l hl w h pl d m m2 m5 ⟨m3, m4⟩
    have jf : ∀ {f : Nat → Option Bool} {q : Bool}, (∀ k, spec_GoodImage.j0 (k + 1) false w h pl d l = f k) → Ev f q → Ev (fun k => spec_GoodImage.j0 k (!true) w h pl d l) q := fun hf he => Ev.step hf he
    by_cases c4 : pl > 1 ∧ d < 8
    · refine ⟨false, toj (jf (f := fun k => spec_GoodImage.j1 k true w h pl d l) (fun k => by simp only [spec_GoodImage.j0, Bool.false_eq_true, if_false]; rw [if_pos c4.1, if_pos c4.2]) j1t), shape_bad l (shp2 _ ?_), no⟩
      rw [if_pos rfl, if_neg (by omega), decide_eq_false (by omega)]
    have hj0 : ∀ {q : Bool}, Ev (fun k => spec_GoodImage.j1 k ((l.length : Int) != w * h * pl) w h pl d l) q → Ev (fun k => spec_GoodImage.f k w h pl d l) q := fun he => toj (jf (f := fun k => spec_GoodImage.j1 k ((l.length : Int) != w * h * pl) w h pl d l) (fun k => by
      simp only [spec_GoodImage.j0, Bool.false_eq_true, if_false]
      rw [hwp]
      by_cases c5 : pl > 1
      · rw [if_pos c5, if_neg (by omega)]
      · rw [if_neg c5]) he)
    have hsh : impl_goodShape.f w h pl d = some true := shp2 _ (by
      rw [if_pos rfl]
      by_cases c5 : pl = 1
      · rw [if_pos c5]
      · rw [if_neg c5, decide_eq_true (by omega)])
    by_cases c6 : (l.length : Int) = w * h * pl
    · refine ⟨q, hj0 ?_, evlet hsh (evpos rfl (evpos (by rw [hwp]; exact c6) (evpos (by omega) ?_))), fun _ => ⟨⟨w1, w2⟩, ⟨h1, h2⟩, by omega, by omega, c6⟩⟩
      · rw [show ((l.length : Int) != w * h * pl) = false by rw [c6]; simp]
        exact Ev.step (f := fun k => spec_GoodImage.l0 k l (l.length : Int) 0 w h pl d l) (fun k => by simp only [spec_GoodImage.j1, Bool.false_eq_true, if_false]) r1
      · rw [m1]
        exact Ev.bind r2 (Ev.now _)
    · refine ⟨false, hj0 ?_, evlet hsh (evpos rfl (evneg (by rw [hwp]; exact c6) (Ev.now _))), no⟩
      rw [show ((l.length : Int) != w * h * pl) = true by simp; exact c6]
      exact j1t
/-! The passes. -/
def PL : List S113 := [(⟨0, 0, 8, 8, 0, 0⟩ : S113), (⟨4, 0, 8, 8, 0, 0⟩ : S113), (⟨0, 4, 4, 8, 0, 0⟩ : S113), (⟨2, 0, 4, 4, 0, 0⟩ : S113), (⟨0, 2, 2, 4, 0, 0⟩ : S113), (⟨1, 0, 2, 2, 0, 0⟩ : S113), (⟨0, 1, 1, 2, 0, 0⟩ : S113)]
def cnt (w x s : Int) : Int := if w ≤ x then 0 else (w - x + s - 1) / s
def psz (w h : Int) (e : S113) : S113 := ⟨e.f0, e.f1, e.f2, e.f3, cnt w e.f0 e.f2, cnt h e.f1 e.f3⟩
def accP (w h : Int) : Nat → List S113
  | 0 => []
  | i + 1 => if 0 < cnt w (PL.getD i z113).f0 (PL.getD i z113).f2 ∧ 0 < cnt h (PL.getD i z113).f1 (PL.getD i z113).f3 then accP w h i ++ [psz w h (PL.getD i z113)] else accP w h i
theorem accP_len (w h : Int) : ∀ i, (accP w h i).length ≤ i
  | 0 => Nat.le_refl _
  | i + 1 => by
    have := accP_len w h i
    unfold accP
    split
    · rw [List.length_append]; simp; omega
    · omega
/-- Where the columns (or rows) of a pass lie. -/
def inP (n x s c : Int) : Prop := 1 ≤ c ∧ c ≤ n ∧ ∀ j : Int, 0 ≤ j → j < c → 0 ≤ j * s ∧ j * s ≤ 1024 ∧ 0 ≤ x + j * s ∧ x + j * s < n
theorem cnt_in {n x s : Int} (hx : 0 ≤ x) (hx4 : x ≤ 4) (hn : n ≤ 512) (hs : 1 ≤ s) (hc : 0 < cnt n x s) : inP n x s (cnt n x s) := by
  unfold cnt at hc ⊢
  by_cases h : n ≤ x
  · rw [if_pos h] at hc; omega
  rw [if_neg h] at hc ⊢
  have hd : (n - x + s - 1) / s * s ≤ n - x + s - 1 := Int.ediv_mul_le _ (by omega)
  generalize (n - x + s - 1) / s = q at hc hd
  have hq : q ≤ n - x := by
    have h1 : q * 1 ≤ q * s := Int.mul_le_mul_of_nonneg_left hs (by omega)
    by_cases hq1 : q = 1
    · omega
    · have h2 : (q - 1) * 1 ≤ (q - 1) * s := Int.mul_le_mul_of_nonneg_left hs (by omega)
      have e2 : (q - 1) * s = q * s - s := by rw [Int.sub_mul, Int.one_mul]
      omega
  refine ⟨by omega, by omega, fun j h0 h1 => ?_⟩
  have h2 : j * s ≤ (q - 1) * s := Int.mul_le_mul_of_nonneg_right (by omega) (by omega)
  have h3 : 0 ≤ j * s := Int.mul_nonneg h0 (by omega)
  rw [Int.sub_mul] at h2
  omega
theorem PL_ok : ∀ i : Nat, i < 7 → 0 ≤ (PL.getD i z113).f0 ∧ (PL.getD i z113).f0 ≤ 4 ∧ 0 ≤ (PL.getD i z113).f1 ∧ (PL.getD i z113).f1 ≤ 4 ∧ 1 ≤ (PL.getD i z113).f2 ∧ (PL.getD i z113).f2 ≤ 8 ∧ 1 ≤ (PL.getD i z113).f3 ∧ (PL.getD i z113).f3 ≤ 8 ∧ (PL.getD i z113).f0 < (PL.getD i z113).f2 + 1 ∧ (PL.getD i z113).f1 < (PL.getD i z113).f3 + 1 := by decide
structure PassOk (w h : Int) (p : S113) : Prop where
  x : inP w p.f0 p.f2 p.f4
  y : inP h p.f1 p.f3 p.f5
  b : 0 ≤ p.f0 ∧ p.f0 ≤ 4 ∧ 0 ≤ p.f1 ∧ p.f1 ≤ 4 ∧ 1 ≤ p.f2 ∧ p.f2 ≤ 8 ∧ 1 ≤ p.f3 ∧ p.f3 ≤ 8
theorem accP_ok (w h : Int) (hw : w ≤ 512) (hh : h ≤ 512) : ∀ i, i ≤ 7 → ∀ p ∈ accP w h i, PassOk w h p
  | 0, _ => fun p hp => by simp [accP] at hp
  | i + 1, hi => fun p hp => by
    have ih := accP_ok w h hw hh i (by omega)
    have o := PL_ok i (by omega)
    unfold accP at hp
    generalize PL.getD i z113 = e at hp o
    split at hp
    · rename_i c
      rcases List.mem_append.1 hp with hp | hp
      · exact ih p hp
      · rw [List.mem_singleton.1 hp]
        exact ⟨show inP w e.f0 e.f2 (cnt w e.f0 e.f2) from cnt_in (by omega) (by omega) hw (by omega) c.1, show inP h e.f1 e.f3 (cnt h e.f1 e.f3) from cnt_in (by omega) (by omega) hh (by omega) c.2, by show 0 ≤ e.f0 ∧ e.f0 ≤ 4 ∧ 0 ≤ e.f1 ∧ e.f1 ≤ 4 ∧ 1 ≤ e.f2 ∧ e.f2 ≤ 8 ∧ 1 ≤ e.f3 ∧ e.f3 ≤ 8; omega⟩
    · exact ih p hp
theorem cnt_impl {n x s : Int} (hn : 1 ≤ n) (hn2 : n ≤ 512) (hx : 0 ≤ x) (hx4 : x ≤ 4) (hs : 1 ≤ s) (hs8 : s ≤ 8) (hxs : x < s + 1) :
    ∃ v, wrap64 (Int.tdiv (wrap64 ((wrap64 ((wrap64 (n - x)) + s)) - 1)) s) = v ∧ (v > 0 ↔ 0 < cnt n x s) ∧ (0 < cnt n x s → v = cnt n x s) := by
  have hq0 : 0 ≤ (n - x + s - 1) / s := Int.ediv_nonneg (by omega) (by omega)
  have hq1 : (n - x + s - 1) / s ≤ n - x + s - 1 := Int.ediv_le_self _ (by omega)
  refine ⟨(n - x + s - 1) / s, ?_, ?_, ?_⟩
  · rw [w64 (n := n - x) (by omega) (by omega), w64 (n := n - x + s) (by omega) (by omega), w64 (n := n - x + s - 1) (by omega) (by omega), Int.tdiv_eq_ediv_of_nonneg (by omega), w64 (by omega) (by omega)]
  · unfold cnt
    split
    · rename_i h
      have : (n - x + s - 1) / s < 1 := Int.ediv_lt_of_lt_mul (by omega) (by omega)
      omega
    · omega
  · unfold cnt
    split
    · intro h; omega
    · intro _; rfl
theorem cnt_spec {n x s : Int} (hn : 1 ≤ n) (hn2 : n ≤ 512) (hx : 0 ≤ x) (hx4 : x ≤ 4) (hs : 1 ≤ s) (hs8 : s ≤ 8) : spec_l4Count.f n x s = some (cnt n x s) := by
  unfold spec_l4Count.f cnt
  by_cases h : n ≤ x
  · rw [if_pos h, if_pos h]
  · have hq0 : 0 ≤ (n - x + s - 1) / s := Int.ediv_nonneg (by omega) (by omega)
    have hq1 : (n - x + s - 1) / s ≤ n - x + s - 1 := Int.ediv_le_self _ (by omega)
    rw [if_neg h, if_neg h, if_neg (by omega), w64 (n := n - x) (by omega) (by omega), w64 (n := n - x + s) (by omega) (by omega), w64 (n := n - x + s - 1) (by omega) (by omega), Int.tdiv_eq_ediv_of_nonneg (by omega), w64 (by omega) (by omega)]
theorem passes_impl (w h : Int) (hw : 1 ≤ w ∧ w ≤ 512) (hh : 1 ≤ h ∧ h ≤ 512) : Ev (fun k => impl_Passes.f k w h) (accP w h 7) := by
  have gs : ∀ n : Int, 1 ≤ n ∧ n ≤ 512 → impl_goodSide.f n = some true := fun n hn => by
    unfold impl_goodSide.f; rw [if_pos (by omega), decide_eq_true (by omega)]
  have main := down (n := 7) (P := fun i => Ev (fun k => impl_Passes.l0 k w h (accP w h i) PL ((7 : Nat) : Int) (i : Int)) (accP w h 7)) ?_ ?_
  · refine evlet (gs w hw) (evpos rfl (evlet (gs h hh) ?_))
    exact Ev.step (f := fun k => impl_Passes.l0 k w h [] PL ((7 : Nat) : Int) 0) (fun k => by simp only [impl_Passes.j0, Bool.not_true, Bool.false_eq_true, if_false]; rfl) main
  · generalize ((7 : Nat) : Int) = N
    refine Ev.step (fun k => rfl) (evneg (by omega) (Ev.now _))
  · intro i hi ih
    have hc : (i : Int) < ((7 : Nat) : Int) := Int.ofNat_lt.2 hi
    generalize ((7 : Nat) : Int) = N at hc ih
    have o := PL_ok i hi
    have hl := accP_len w h i
    have e0 : rd_T113 PL (i : Int) = PL.getD i z113 := rdT113 PL i
    have hPL : PL.length = 7 := rfl
    have ea : accP w h (i + 1) = if 0 < cnt w (PL.getD i z113).f0 (PL.getD i z113).f2 ∧ 0 < cnt h (PL.getD i z113).f1 (PL.getD i z113).f3 then accP w h i ++ [psz w h (PL.getD i z113)] else accP w h i := rfl
    rw [ea] at ih
    generalize PL.getD i z113 = e at e0 o ih
    obtain ⟨v1, a1, a2, a3⟩ := cnt_impl (n := w) (x := e.f0) (s := e.f2) (by omega) (by omega) (by omega) (by omega) (by omega) (by omega) (by omega)
    obtain ⟨v2, b1, b2, b3⟩ := cnt_impl (n := h) (x := e.f1) (s := e.f3) (by omega) (by omega) (by omega) (by omega) (by omega) (by omega) (by omega)
    refine Ev.step (fun k => rfl) (evpos hc (evpos (by omega) (evpos (by omega) ?_)))
    rw [e0, a1, b1, w64s (by omega)]
    refine evneg (by omega) (evneg (by omega) ?_)
    by_cases c1 : 0 < cnt w e.f0 e.f2
    · by_cases c2 : 0 < cnt h e.f1 e.f3
      · rw [if_pos ⟨c1, c2⟩] at ih
        refine evpos (a2.2 c1) (evpos (b2.2 c2) (evpos (by omega) ?_))
        rw [a3 c1, b3 c2]
        exact ih
      · rw [if_neg (fun z => c2 z.2)] at ih
        exact evpos (a2.2 c1) (evneg (fun z => c2 (b2.1 z)) ih)
    · rw [if_neg (fun z => c1 z.1)] at ih
      exact evneg (fun z => c1 (a2.1 z)) ih
theorem tab : ∀ i : Nat, i < 7 → ([0, 0, 8, 8, 4, 0, 8, 8, 0, 4, 4, 8, 2, 0, 4, 4, 0, 2, 2, 4, 1, 0, 2, 2, 0, 1, 1, 2] : List Int).getD (4 * i) 0 = (PL.getD i z113).f0 ∧ ([0, 0, 8, 8, 4, 0, 8, 8, 0, 4, 4, 8, 2, 0, 4, 4, 0, 2, 2, 4, 1, 0, 2, 2, 0, 1, 1, 2] : List Int).getD (4 * i + 1) 0 = (PL.getD i z113).f1 ∧ ([0, 0, 8, 8, 4, 0, 8, 8, 0, 4, 4, 8, 2, 0, 4, 4, 0, 2, 2, 4, 1, 0, 2, 2, 0, 1, 1, 2] : List Int).getD (4 * i + 2) 0 = (PL.getD i z113).f2 ∧ ([0, 0, 8, 8, 4, 0, 8, 8, 0, 4, 4, 8, 2, 0, 4, 4, 0, 2, 2, 4, 1, 0, 2, 2, 0, 1, 1, 2] : List Int).getD (4 * i + 3) 0 = (PL.getD i z113).f3 := by decide
theorem passes_spec (w h : Int) (hw : 1 ≤ w ∧ w ≤ 512) (hh : 1 ≤ h ∧ h ≤ 512) : Ev (fun k => spec_l4Passes.f k w h) (accP w h 7) := by
  have hT := tab
  have hTl : ([0, 0, 8, 8, 4, 0, 8, 8, 0, 4, 4, 8, 2, 0, 4, 4, 0, 2, 2, 4, 1, 0, 2, 2, 0, 1, 1, 2] : List Int).length = 28 := rfl
  unfold spec_l4Passes.f
  generalize ([0, 0, 8, 8, 4, 0, 8, 8, 0, 4, 4, 8, 2, 0, 4, 4, 0, 2, 2, 4, 1, 0, 2, 2, 0, 1, 1, 2] : List Int) = L at hT hTl
  have main := down (n := 7) (P := fun i => Ev (fun k => spec_l4Passes.l0 k w h L (accP w h i) ((4 * i : Nat) : Int)) (accP w h 7)) ?_ ?_
  · exact main
  · generalize hN : ((4 * 7 : Nat) : Int) = N
    exact Ev.step (fun k => rfl) (evneg (by omega) (Ev.now _))
  · intro i hi ih
    obtain ⟨t0, t1, t2, t3⟩ := hT i hi
    have o := PL_ok i hi
    have hl := accP_len w h i
    have ea : accP w h (i + 1) = if 0 < cnt w (PL.getD i z113).f0 (PL.getD i z113).f2 ∧ 0 < cnt h (PL.getD i z113).f1 (PL.getD i z113).f3 then accP w h i ++ [psz w h (PL.getD i z113)] else accP w h i := rfl
    rw [ea] at ih
    generalize PL.getD i z113 = e at t0 t1 t2 t3 o ih
    have x0 : rd L ((4 * i : Nat) : Int) = e.f0 := by rw [rd_nat, t0]
    have x1 : rd L ((4 * i + 1 : Nat) : Int) = e.f1 := by rw [rd_nat, t1]
    have x2 : rd L ((4 * i + 2 : Nat) : Int) = e.f2 := by rw [rd_nat, t2]
    have x3 : rd L ((4 * i + 3 : Nat) : Int) = e.f3 := by rw [rd_nat, t3]
    have y1 : wrap64 (((4 * i : Nat) : Int) + 1) = ((4 * i + 1 : Nat) : Int) := by rw [w64 (by omega) (by omega)]; omega
    have y2 : wrap64 (((4 * i : Nat) : Int) + 2) = ((4 * i + 2 : Nat) : Int) := by rw [w64 (by omega) (by omega)]; omega
    have y3 : wrap64 (((4 * i : Nat) : Int) + 3) = ((4 * i + 3 : Nat) : Int) := by rw [w64 (by omega) (by omega)]; omega
    have y4 : wrap64 (((4 * i : Nat) : Int) + 4) = ((4 * (i + 1) : Nat) : Int) := by rw [w64 (by omega) (by omega)]; omega
    refine Ev.step (fun k => rfl) (evpos (by omega) (evpos (by omega) (evpos (by rw [y1]; omega) (evpos (by rw [y1]; omega) (evpos (by rw [y2]; omega) (evpos (by rw [y2]; omega) (evpos (by rw [y3]; omega) (evpos (by rw [y3]; omega) ?_))))))))
    rw [y1, y2, y3, y4, x0, x1, x2, x3]
    refine evlet (cnt_spec (by omega) (by omega) (by omega) (by omega) (by omega) (by omega)) (evlet (cnt_spec (by omega) (by omega) (by omega) (by omega) (by omega) (by omega)) ?_)
    by_cases c1 : 0 < cnt w e.f0 e.f2
    · by_cases c2 : 0 < cnt h e.f1 e.f3
      · rw [if_pos ⟨c1, c2⟩] at ih
        exact evpos c1 (evpos c2 (evpos (by omega) ih))
      · rw [if_neg (fun z => c2 z.2)] at ih
        exact evpos c1 (evneg c2 ih)
    · rw [if_neg (fun z => c1 z.1)] at ih
      exact evneg c1 ih
/-! The pictures. -/
/-- Where the pixel i of row j of a pass begins, as both have it. -/
def at_ (W pl : Int) (p : S113) (j i : Int) : Int := wrap64 ((wrap64 ((wrap64 ((wrap64 ((wrap64 (p.f1 + (wrap64 (j * p.f3)))) * W)) + p.f0)) + (wrap64 (i * p.f2)))) * pl)
theorem at_in {W H pl : Int} {l : List Int} {p : S113} (ho : ImgOk W H pl l) (hp : PassOk W H p) {j i : Int} (j0 : 0 ≤ j) (j1 : j < p.f5) (i0 : 0 ≤ i) (i1 : i < p.f4) :
    at_ W pl p j i = ((p.f1 + j * p.f3) * W + (p.f0 + i * p.f2)) * pl ∧ 0 ≤ at_ W pl p j i ∧ at_ W pl p j i + pl ≤ l.length := by
  obtain ⟨w1, w2⟩ := ho.w
  obtain ⟨h1, h2⟩ := ho.h
  obtain ⟨p1, p2⟩ := ho.pl
  obtain ⟨a0, a1, a2, a3⟩ := hp.y.2.2 j j0 j1
  obtain ⟨b0, b1, b2, b3⟩ := hp.x.2.2 i i0 i1
  obtain ⟨o0, o1, o2, o3, _⟩ := hp.b
  have hwh := ho.wh
  have hlen := ho.len
  unfold at_
  generalize hu : p.f1 + j * p.f3 = u at a2 a3
  have m1 : u * W ≤ (H - 1) * W := Int.mul_le_mul_of_nonneg_right (by omega) (by omega)
  have m0 : 0 ≤ u * W := Int.mul_nonneg a2 (by omega)
  rw [Int.sub_mul, Int.one_mul, Int.mul_comm H W] at m1
  rw [w64 (n := j * p.f3) (by omega) (by omega), w64 (n := p.f1 + j * p.f3) (by omega) (by omega), hu, w64 (n := u * W) (by omega) (by omega), w64 (n := u * W + p.f0) (by omega) (by omega), w64 (n := i * p.f2) (by omega) (by omega), w64 (n := u * W + p.f0 + i * p.f2) (by omega) (by omega)]
  rw [show u * W + p.f0 + i * p.f2 = u * W + (p.f0 + i * p.f2) by omega]
  generalize hv : u * W + (p.f0 + i * p.f2) = v
  have v0 : 0 ≤ v := by omega
  have v1 : v + 1 ≤ W * H := by omega
  have n0 : 0 ≤ v * pl := Int.mul_nonneg v0 (by omega)
  have n1 : (v + 1) * pl ≤ W * H * pl := Int.mul_le_mul_of_nonneg_right v1 (by omega)
  rw [Int.add_mul, Int.one_mul] at n1
  have n2 : W * H * pl ≤ 4096 * pl := Int.mul_le_mul_of_nonneg_right hwh (by omega)
  rw [w64 (by omega) (by omega)]
  omega
/-! The program's own words on a good image. -/
theorem sides_true {w h : Int} (hw : 1 ≤ w ∧ w ≤ 512) (hh : 1 ≤ h ∧ h ≤ 512) (hwh : w * h ≤ 4096) : impl_goodSides.f w h = some true := by
  unfold impl_goodSides.f
  rw [goodSide_eq, goodSide_eq, decide_eq_true hw, decide_eq_true hh]
  simp only [Option.bind_some, if_true]
  have wh0 : 0 ≤ w * h := Int.mul_nonneg (by omega) (by omega)
  rw [w64 (by omega) (by omega), decide_eq_true hwh]
theorem shape_same {w h w' h' pl d : Int} (h1 : impl_goodSides.f w h = some true) (h2 : impl_goodSides.f w' h' = some true) : impl_goodShape.f w h pl d = impl_goodShape.f w' h' pl d := by
  unfold impl_goodShape.f; rw [h1, h2]
def inr (m : Int) (x : Int) : Bool := decide (0 ≤ x ∧ x ≤ m)
theorem inr_ev (l : List Int) (m : Int) (hl : l.length ≤ 4611686018427387904) : Ev (fun k => impl_inRange.f k l m) (l.all (inr m)) := by
  have := down (n := l.length) (P := fun i => Ev (fun k => impl_inRange.l0 k m l (l.length : Int) (i : Int)) ((l.drop i).all (inr m))) ?_ ?_
  · exact this
  · rw [drop_end_all]; exact Ev.step (fun k => rfl) (evneg (by omega) (Ev.now _))
  · intro i hi ih
    have er : rd l (i : Int) = l[i] := by rw [rd_nat, getD_lt hi]
    rw [drop_all hi]
    by_cases c1 : l[i] < 0
    · rw [show inr m l[i] = false from decide_eq_false (by omega), Bool.false_and]
      exact Ev.step (fun k => rfl) (evpos (by omega) (evpos (by omega) (evpos (by omega) (evpos (by rw [er]; omega) (Ev.now _)))))
    by_cases c2 : l[i] > m
    · rw [show inr m l[i] = false from decide_eq_false (by omega), Bool.false_and]
      exact Ev.step (fun k => rfl) (evpos (by omega) (evpos (by omega) (evpos (by omega) (evneg (by rw [er]; omega) (evpos (by rw [er]; omega) (Ev.now _))))))
    rw [show inr m l[i] = true from decide_eq_true (by omega), Bool.true_and]
    refine Ev.step (fun k => rfl) (evpos (by omega) (evpos (by omega) (evpos (by omega) (evneg (by rw [er]; omega) (evneg (by rw [er]; omega) ?_)))))
    rw [w64s (by omega)]; exact ih
structure GoodI (W H pl d : Int) (l : List Int) : Prop where
  shape : impl_goodShape.f W H pl d = some true
  dp : 0 ≤ d
  rng : l.all (inr (wrap64 ((shl .i64 1 d) - 1))) = true
theorem len_wrap {W H pl : Int} (hw : 1 ≤ W) (hh : 1 ≤ H) (hwh : W * H ≤ 4096) (hp : 1 ≤ pl ∧ pl ≤ 4) : wrap64 ((wrap64 (W * H)) * pl) = W * H * pl ∧ 1 ≤ W * H * pl ∧ W * H * pl ≤ 16384 := by
  have a0 : 1 * 1 ≤ W * H := Int.mul_le_mul hw hh (by omega) (by omega)
  have a1 : 1 * 1 ≤ W * H * pl := Int.mul_le_mul (by omega) hp.1 (by omega) (by omega)
  have a2 : W * H * pl ≤ 4096 * 4 := Int.mul_le_mul hwh hp.2 (by omega) (by omega)
  rw [w64 (n := W * H) (by omega) (by omega), w64 (by omega) (by omega)]
  omega
theorem good_facts {W H pl d : Int} {l : List Int} (ho : ImgOk W H pl l) (hg : Ev (fun k => impl_GoodImage.f k W H pl d l) true) : GoodI W H pl d l := by
  have hs := sides_true ho.w ho.h ho.wh
  have lw := len_wrap ho.w.1 ho.h.1 ho.wh ho.pl
  have hlen := ho.len
  obtain ⟨p1, p2⟩ := ho.pl
  obtain ⟨q, hq, _, hq3⟩ := depths d
  have e : impl_goodShape.f W H pl d = (if q = true then (if pl = 1 then (some true) else (some (decide (d ≥ 8)))) else (some false)) := by
    unfold impl_goodShape.f
    rw [hs]
    simp only [Option.bind_some, if_true]
    rw [if_pos (by omega), if_pos (by omega), hq]
    rfl
  cases q with
  | false =>
    rw [if_neg (by simp)] at e
    exact absurd (ev_one hg (shape_bad l e)) (by simp)
  | true =>
    rw [if_pos rfl] at e
    obtain ⟨b, hb⟩ : ∃ b, impl_goodShape.f W H pl d = some b := by
      rw [e]
      by_cases c : pl = 1
      · exact ⟨true, if_pos c⟩
      · exact ⟨_, if_neg c⟩
    cases b with
    | false => exact absurd (ev_one hg (shape_bad l hb)) (by simp)
    | true =>
      have hd : 0 ≤ d := by have := hq3 rfl; omega
      refine ⟨hb, hd, ?_⟩
      have := inr_ev l (wrap64 ((shl .i64 1 d) - 1)) (by omega)
      exact ev_one (f := fun k => impl_GoodImage.f k W H pl d l) (evlet hb (evpos rfl (evpos (by rw [lw.1]; exact hlen) (evpos hd (Ev.bind this (Ev.now _)))))) hg
theorem part_sides {W H pl : Int} {l : List Int} {p : S113} (ho : ImgOk W H pl l) (hp : PassOk W H p) : (1 ≤ p.f4 ∧ p.f4 ≤ 512) ∧ (1 ≤ p.f5 ∧ p.f5 ≤ 512) ∧ p.f4 * p.f5 ≤ 4096 := by
  obtain ⟨x1, x2, _⟩ := hp.x
  obtain ⟨y1, y2, _⟩ := hp.y
  have a := Int.mul_le_mul x2 y2 (by omega) (show 0 ≤ W by have := ho.w; omega)
  have b := ho.wh
  have c := ho.w
  have e := ho.h
  omega
/-! Each pixel lies in a pass. -/
theorem mem_accP (w h : Int) (q : Nat) (hc : 0 < cnt w (PL.getD q z113).f0 (PL.getD q z113).f2 ∧ 0 < cnt h (PL.getD q z113).f1 (PL.getD q z113).f3) : ∀ i, q < i → psz w h (PL.getD q z113) ∈ accP w h i
  | 0, hq => by omega
  | i + 1, hq => by
    unfold accP
    by_cases e : q = i
    · subst e
      rw [if_pos hc]; exact List.mem_append_right _ (List.mem_singleton.2 rfl)
    · have ih := mem_accP w h q hc i (by omega)
      split
      · exact List.mem_append_left _ ih
      · exact ih
theorem cnt_gt {n x s i : Int} (hs : 1 ≤ s) (hi : 0 ≤ i) (h : x + i * s < n) : i < cnt n x s := by
  have h0 : 0 ≤ i * s := Int.mul_nonneg hi (by omega)
  unfold cnt
  rw [if_neg (by omega)]
  have : (i + 1) * s ≤ n - x + s - 1 := by rw [Int.add_mul, Int.one_mul]; omega
  have := Int.le_ediv_of_mul_le (show 0 < s by omega) this
  omega
theorem find_case (w h : Int) (q : Nat) (hq : q < 7) (j i X Y : Int) (hj : 0 ≤ j) (hi : 0 ≤ i) (hx : (PL.getD q z113).f0 + i * (PL.getD q z113).f2 = X) (hy : (PL.getD q z113).f1 + j * (PL.getD q z113).f3 = Y) (hX : X < w) (hY : Y < h) :
    ∃ p ∈ accP w h 7, ∃ j i : Nat, (j : Int) < p.f5 ∧ (i : Int) < p.f4 ∧ p.f0 + i * p.f2 = X ∧ p.f1 + j * p.f3 = Y := by
  have o := PL_ok q hq
  have c1 := cnt_gt (n := w) (x := (PL.getD q z113).f0) (s := (PL.getD q z113).f2) (by omega) hi (by omega)
  have c2 := cnt_gt (n := h) (x := (PL.getD q z113).f1) (s := (PL.getD q z113).f3) (by omega) hj (by omega)
  refine ⟨_, mem_accP w h q ⟨by omega, by omega⟩ 7 hq, j.toNat, i.toNat, ?_, ?_, ?_, ?_⟩
  · rw [Int.toNat_of_nonneg hj]; exact c2
  · rw [Int.toNat_of_nonneg hi]; exact c1
  · rw [Int.toNat_of_nonneg hi]; exact hx
  · rw [Int.toNat_of_nonneg hj]; exact hy
theorem find (w h X Y : Int) (hX0 : 0 ≤ X) (hX : X < w) (hY0 : 0 ≤ Y) (hY : Y < h) : ∃ p ∈ accP w h 7, ∃ j i : Nat, (j : Int) < p.f5 ∧ (i : Int) < p.f4 ∧ p.f0 + i * p.f2 = X ∧ p.f1 + j * p.f3 = Y := by
  by_cases y1 : Y % 2 = 1
  · exact find_case w h 6 (by omega) (Y / 2) X X Y (by omega) hX0 (show 0 + X * 1 = X by omega) (show 1 + Y / 2 * 2 = Y by omega) hX hY
  by_cases x1 : X % 2 = 1
  · exact find_case w h 5 (by omega) (Y / 2) (X / 2) X Y (by omega) (by omega) (show 1 + X / 2 * 2 = X by omega) (show 0 + Y / 2 * 2 = Y by omega) hX hY
  by_cases y2 : Y % 4 = 2
  · exact find_case w h 4 (by omega) (Y / 4) (X / 2) X Y (by omega) (by omega) (show 0 + X / 2 * 2 = X by omega) (show 2 + Y / 4 * 4 = Y by omega) hX hY
  by_cases x2 : X % 4 = 2
  · exact find_case w h 3 (by omega) (Y / 4) (X / 4) X Y (by omega) (by omega) (show 2 + X / 4 * 4 = X by omega) (show 0 + Y / 4 * 4 = Y by omega) hX hY
  by_cases y4 : Y % 8 = 4
  · exact find_case w h 2 (by omega) (Y / 8) (X / 4) X Y (by omega) (by omega) (show 0 + X / 4 * 4 = X by omega) (show 4 + Y / 8 * 8 = Y by omega) hX hY
  by_cases x4 : X % 8 = 4
  · exact find_case w h 1 (by omega) (Y / 8) (X / 8) X Y (by omega) (by omega) (show 4 + X / 8 * 8 = X by omega) (show 0 + Y / 8 * 8 = Y by omega) hX hY
  · exact find_case w h 0 (by omega) (Y / 8) (X / 8) X Y (by omega) (by omega) (show 0 + X / 8 * 8 = X by omega) (show 0 + Y / 8 * 8 = Y by omega) hX hY
/-! Merge of any parts: the program and the reference, part by part. -/
abbrev RI : Type := Int × Int × Int × Int × List Int
def zi : RI := (0, 0, 0, 0, [])
structure PG (P D : Int) (x : S35) (e : S113) : Prop where
  good : Ev (fun k => impl_GoodImage.f k x.f0 x.f1 x.f2 x.f3 x.f4) true
  sgood : Ev (fun k => spec_GoodImage.f k x.f0 x.f1 x.f2 x.f3 x.f4) true
  ok : ImgOk x.f0 x.f1 x.f2 x.f4
  w : x.f0 = e.f4
  h : x.f1 = e.f5
  p : x.f2 = P
  d : x.f3 = D
theorem chk (x : S35) (e : S113) (P D : Int) (hl : x.f4.length ≤ 1048576) : PG P D x e ∨ ∀ g gs : Nat → Option RI,
    Ev (fun k => (impl_GoodImage.f k x.f0 x.f1 x.f2 x.f3 x.f4).bind fun t => (if t = true then (if x.f0 = e.f4 then (if x.f1 = e.f5 then (if x.f2 = P then (if x.f3 = D then g k else some (0, 0, 0, 0, ([] : List Int))) else some (0, 0, 0, 0, ([] : List Int))) else some (0, 0, 0, 0, ([] : List Int))) else some (0, 0, 0, 0, ([] : List Int))) else some (0, 0, 0, 0, ([] : List Int)))) zi ∧
    Ev (fun k => (spec_GoodImage.f k x.f0 x.f1 x.f2 x.f3 x.f4).bind fun t => (if t = true then (if x.f0 = e.f4 then (if x.f1 = e.f5 then (if x.f2 = P then (if x.f3 = D then gs k else some (0, 0, 0, 0, ([] : List Int))) else some (0, 0, 0, 0, ([] : List Int))) else some (0, 0, 0, 0, ([] : List Int))) else some (0, 0, 0, 0, ([] : List Int))) else some (0, 0, 0, 0, ([] : List Int)))) zi := by
  obtain ⟨q, h1, h2, h3⟩ := good_img x.f0 x.f1 x.f2 x.f3 x.f4 hl
  cases q with
  | false => exact .inr (fun g gs => ⟨Ev.bind h2 (evneg (by simp) (Ev.now _)), Ev.bind h1 (evneg (by simp) (Ev.now _))⟩)
  | true =>
    by_cases c1 : x.f0 = e.f4
    rotate_left
    · exact .inr (fun g gs => ⟨Ev.bind h2 (evpos rfl (evneg c1 (Ev.now _))), Ev.bind h1 (evpos rfl (evneg c1 (Ev.now _)))⟩)
    by_cases c2 : x.f1 = e.f5
    rotate_left
    · exact .inr (fun g gs => ⟨Ev.bind h2 (evpos rfl (evpos c1 (evneg c2 (Ev.now _)))), Ev.bind h1 (evpos rfl (evpos c1 (evneg c2 (Ev.now _))))⟩)
    by_cases c3 : x.f2 = P
    rotate_left
    · exact .inr (fun g gs => ⟨Ev.bind h2 (evpos rfl (evpos c1 (evpos c2 (evneg c3 (Ev.now _))))), Ev.bind h1 (evpos rfl (evpos c1 (evpos c2 (evneg c3 (Ev.now _)))))⟩)
    by_cases c4 : x.f3 = D
    rotate_left
    · exact .inr (fun g gs => ⟨Ev.bind h2 (evpos rfl (evpos c1 (evpos c2 (evpos c3 (evneg c4 (Ev.now _)))))), Ev.bind h1 (evpos rfl (evpos c1 (evpos c2 (evpos c3 (evneg c4 (Ev.now _))))))⟩)
    exact .inl ⟨h2, h1, h3 rfl, c1, c2, c3, c4⟩
theorem st_set {out seg : List Int} {a r : Nat} (h : a + seg.length ≤ out.length) (hr : r < seg.length) : (out.take a ++ (seg.take r ++ out.drop (a + r))).set (a + r) (seg.getD r 0) = out.take a ++ (seg.take (r + 1) ++ out.drop (a + (r + 1))) := by
  have ha : (out.take a).length = a := by rw [List.length_take]; omega
  have hs : (seg.take r).length = r := by rw [List.length_take]; omega
  rw [List.set_append_right _ _ (by omega), ha, show a + r - a = r by omega, List.set_append_right _ _ (by omega), hs, Nat.sub_self, List.drop_eq_getElem_cons (show a + r < out.length by omega), List.set_cons_zero, List.take_succ_eq_append_getElem hr, getD_lt hr, List.append_assoc]
  rfl
theorem divs (c q j i r : Nat) (hi : i < c) (hr : r < q) : ((j * c + i) * q + r) / q = j * c + i ∧ ((j * c + i) * q + r) % q = r ∧ (j * c + i) / c = j ∧ (j * c + i) % c = i := by
  refine ⟨?_, ?_, ?_, ?_⟩
  · rw [Nat.add_comm, Nat.add_mul_div_right _ _ (by omega), Nat.div_eq_of_lt hr]; omega
  · rw [Nat.add_comm, Nat.add_mul_mod_self_right, Nat.mod_eq_of_lt hr]
  · rw [Nat.add_comm, Nat.add_mul_div_right _ _ (by omega), Nat.div_eq_of_lt hi]; omega
  · rw [Nat.add_comm, Nat.add_mul_mod_self_right, Nat.mod_eq_of_lt hi]
theorem tdn (a b : Nat) : Int.tdiv (a : Int) (b : Int) = ((a / b : Nat) : Int) := by rw [Int.tdiv_eq_ediv_of_nonneg (by omega), Int.natCast_ediv]
theorem tmn (a b : Nat) : Int.tmod (a : Int) (b : Int) = ((a % b : Nat) : Int) := by rw [Int.tmod_eq_emod_of_nonneg (by omega), Int.natCast_emod]
theorem piece_both {W H P : Int} {z : List Int} {e : S113} (ho : ImgOk W H P z) (he : PassOk W H e) (xs : List Int) (c m q : Nat) (hq : (q : Int) = P) (hc : (c : Int) = e.f4) (hm : (m : Int) = e.f5) (hx : xs.length = m * c * q) (j i : Nat) (hj : j < m) (hi : i < c) (out : List Int) (hout : out.length = z.length) :
    ∃ o2, o2.length = z.length ∧ impl_Merge.cp W P e xs (j : Int) (i : Int) out = some o2 ∧ ∀ (Hh D : Int) (ps : List S35) (L : List S113) (n : Int) (R : RI),
      Ev (fun k => spec_l4Merge.l1 k W ps L (L.length : Int) n xs (xs.length : Int) (((j * c + i) * q + q : Nat) : Int) W Hh P D o2 e.f0 e.f1 e.f2 e.f3 e.f4 e.f5) R →
      Ev (fun k => spec_l4Merge.l1 k W ps L (L.length : Int) n xs (xs.length : Int) (((j * c + i) * q : Nat) : Int) W Hh P D out e.f0 e.f1 e.f2 e.f3 e.f4 e.f5) R := by
  obtain ⟨s1, s2, s3⟩ := part_sides ho he
  obtain ⟨_, h0, h1⟩ := at_in ho he (Int.natCast_nonneg j) (show (j : Int) < e.f5 by omega) (Int.natCast_nonneg i) (show (i : Int) < e.f4 by omega)
  obtain ⟨p1, p2⟩ := ho.pl
  have lw := len_wrap ho.w.1 ho.h.1 ho.wh ho.pl
  have hlen := ho.len
  have eq_ : P.toNat = q := by omega
  have jm : (j + 1) * c ≤ m * c := Nat.mul_le_mul_right c (by omega)
  have mc : m * c ≤ 512 * 512 := Nat.mul_le_mul (by omega) (by omega)
  rw [Nat.add_mul, Nat.one_mul] at jm
  have hX : (j * c + i + 1) * q ≤ m * c * q := Nat.mul_le_mul_right q (by omega)
  have hX2 : m * c * q ≤ 262144 * 4 := Nat.mul_le_mul mc (by omega)
  rw [Nat.add_mul, Nat.one_mul] at hX
  have hs : wrap64 ((wrap64 ((wrap64 ((j : Int) * e.f4)) + (i : Int))) * P) = (((j * c + i) * q : Nat) : Int) := by
    rw [← hc, ← hq, ← Int.natCast_mul, w64 (n := ((j * c : Nat) : Int)) (by omega) (by omega), ← Int.natCast_add, w64 (n := ((j * c + i : Nat) : Int)) (by omega) (by omega), ← Int.natCast_mul, w64 (by omega) (by omega)]
  obtain ⟨a, ha⟩ : ∃ a : Nat, at_ W P e (j : Int) (i : Int) = (a : Int) := ⟨(at_ W P e (j : Int) (i : Int)).toNat, by omega⟩
  obtain ⟨seg, hseg⟩ : ∃ seg, seg = (xs.drop ((j * c + i) * q)).take q := ⟨_, rfl⟩
  have ls : seg.length = q := by rw [hseg, List.length_take, List.length_drop]; omega
  refine ⟨out.take a ++ (seg ++ out.drop (a + q)), ?_, ?_, ?_⟩
  · simp only [List.length_append, List.length_drop, List.length_take, ls]; omega
  · have ha' := ha
    unfold at_ at ha'
    unfold impl_Merge.cp
    rw [ha', hs, if_pos p1, if_pos (by omega), if_pos (by omega), if_pos (by omega), if_pos (by omega), if_pos (by omega), if_pos (by omega), Int.toNat_natCast, Int.toNat_natCast, eq_, hseg]
  · intro Hh D ps L n R hR
    obtain ⟨k0, hk0⟩ : ∃ k0, k0 = (j * c + i) * q := ⟨_, rfl⟩
    rw [← hk0] at hR hseg ⊢
    have main := down (n := q) (P := fun r => Ev (fun k => spec_l4Merge.l1 k W ps L (L.length : Int) n xs (xs.length : Int) ((k0 + r : Nat) : Int) W Hh P D (out.take a ++ (seg.take r ++ out.drop (a + r))) e.f0 e.f1 e.f2 e.f3 e.f4 e.f5) R) ?_ ?_
    · have e0 : out.take a ++ (seg.take 0 ++ out.drop (a + 0)) = out := by rw [List.take_zero, List.nil_append, Nat.add_zero, List.take_append_drop]
      rw [e0] at main
      exact main
    · have e1 : seg.take q = seg := List.take_of_length_le (by omega)
      rw [e1]; exact hR
    · intro r hr ih
      obtain ⟨v1, v2, v3, v4⟩ := divs c q j i r hi hr
      rw [← hk0] at v1 v2
      have d1 : wrap64 (Int.tdiv ((k0 + r : Nat) : Int) P) = ((j * c + i : Nat) : Int) := by rw [← hq, tdn, v1, w64 (by omega) (by omega)]
      have d2 : wrap64 (Int.tdiv ((j * c + i : Nat) : Int) e.f4) = (j : Int) := by rw [← hc, tdn, v3, w64 (by omega) (by omega)]
      have d3 : Int.tmod ((j * c + i : Nat) : Int) e.f4 = (i : Int) := by rw [← hc, tmn, v4]
      have d4 : Int.tmod ((k0 + r : Nat) : Int) P = (r : Int) := by rw [← hq, tmn, v2]
      have hidx : wrap64 ((wrap64 ((wrap64 ((wrap64 ((wrap64 ((wrap64 (e.f1 + (wrap64 ((wrap64 (Int.tdiv (wrap64 (Int.tdiv ((k0 + r : Nat) : Int) P)) e.f4)) * e.f3)))) * W)) + e.f0)) + (wrap64 ((Int.tmod (wrap64 (Int.tdiv ((k0 + r : Nat) : Int) P)) e.f4) * e.f2)))) * P)) + (Int.tmod ((k0 + r : Nat) : Int) P)) = ((a + r : Nat) : Int) := by
        rw [d1, d2, d3, d4]
        have ha' := ha
        unfold at_ at ha'
        rw [ha', w64 (by omega) (by omega), Int.natCast_add]
      have hrd : rd xs ((k0 + r : Nat) : Int) = seg.getD r 0 := by
        rw [rd_nat, hseg]
        simp only [List.getD_eq_getElem?_getD]
        rw [List.getElem?_take_of_lt hr, List.getElem?_drop]
      have hlo : (out.take a ++ (seg.take r ++ out.drop (a + r))).length = out.length := by simp only [List.length_append, List.length_drop, List.length_take, ls]; omega
      have w1 := Aside0.mk (show wrap64 (((k0 + r : Nat) : Int) + 1) = ((k0 + (r + 1) : Nat) : Int) from by rw [w64 (by omega) (by omega)]; omega)
      have c1 : ((k0 + r : Nat) : Int) < (xs.length : Int) := by omega
      refine Ev.step (fun k => rfl) (evpos c1 (evpos (by omega) (evpos c1 (evneg (by omega) (evneg (by omega) ?_)))))
      rw [hidx, hrd, w1.out, Int.toNat_natCast, st_set (by omega) (by omega)]
      exact evpos (by omega) (evpos (by rw [hlo]; omega) ih)
theorem part_both {W H P : Int} {z : List Int} {e : S113} (ho : ImgOk W H P z) (he : PassOk W H e) (D : Int) (ps : List S35) (L : List S113) (n : Nat) (hn : n ≤ 100) (xs : List Int) (hx : (xs.length : Int) = e.f4 * e.f5 * P) (out : List Int) (hout : out.length = z.length) :
    ∃ o2, o2.length = z.length ∧ (∀ R, Ev (fun k => impl_Merge.l0 k W H P D ps L ((n + 1 : Nat) : Int) o2) R → Ev (fun k => impl_Merge.l1 k W H P D ps L (n : Int) e xs out 0) R) ∧
      (∀ R, Ev (fun k => spec_l4Merge.l0 k W ps L (L.length : Int) ((n + 1 : Nat) : Int) W H P D o2) R → Ev (fun k => spec_l4Merge.l1 k W ps L (L.length : Int) (n : Int) xs (xs.length : Int) 0 W H P D out e.f0 e.f1 e.f2 e.f3 e.f4 e.f5) R) := by
  obtain ⟨s1, s2, s3⟩ := part_sides ho he
  obtain ⟨p1, p2⟩ := ho.pl
  obtain ⟨q, hq⟩ : ∃ q : Nat, (q : Int) = P := ⟨P.toNat, by omega⟩
  obtain ⟨c, hc⟩ : ∃ c : Nat, (c : Int) = e.f4 := ⟨e.f4.toNat, by omega⟩
  obtain ⟨m, hm⟩ : ∃ m : Nat, (m : Int) = e.f5 := ⟨e.f5.toNat, by omega⟩
  have hx' : xs.length = m * c * q := by
    rw [← hc, ← hm, ← hq, ← Int.natCast_mul, ← Int.natCast_mul] at hx
    rw [Nat.mul_comm m c]; exact Int.ofNat.inj hx
  have w1 := Aside0.mk (show wrap64 ((n : Int) + 1) = ((n + 1 : Nat) : Int) from w64s (by omega))
  have main := down (n := m) (P := fun j => ∀ out : List Int, out.length = z.length → ∃ o2, o2.length = z.length ∧ (∀ R, Ev (fun k => impl_Merge.l0 k W H P D ps L ((n + 1 : Nat) : Int) o2) R → Ev (fun k => impl_Merge.l1 k W H P D ps L (n : Int) e xs out (j : Int)) R) ∧
      (∀ R, Ev (fun k => spec_l4Merge.l0 k W ps L (L.length : Int) ((n + 1 : Nat) : Int) W H P D o2) R → Ev (fun k => spec_l4Merge.l1 k W ps L (L.length : Int) (n : Int) xs (xs.length : Int) ((j * c * q : Nat) : Int) W H P D out e.f0 e.f1 e.f2 e.f3 e.f4 e.f5) R)) ?_ ?_
  · have := main out hout
    rw [show 0 * c * q = 0 by rw [Nat.zero_mul, Nat.zero_mul]] at this
    exact this
  · intro out hout
    refine ⟨out, hout, fun R h => Ev.step (fun k => rfl) (evneg (by omega) ?_), fun R h => Ev.step (fun k => rfl) (evneg (by rw [hx']; omega) ?_)⟩
    · rw [w1.out]; exact h
    · rw [w1.out]; exact h
  · intro j hj ihj out hout
    have w2 := Aside0.mk (show wrap64 ((j : Int) + 1) = ((j + 1 : Nat) : Int) from w64s (by omega))
    have inner := down (n := c) (P := fun i => ∀ out : List Int, out.length = z.length → ∃ o2, o2.length = z.length ∧ (∀ R, Ev (fun k => impl_Merge.l0 k W H P D ps L ((n + 1 : Nat) : Int) o2) R → Ev (fun k => impl_Merge.l2 k W H P D ps L (n : Int) e xs out (j : Int) (i : Int)) R) ∧
      (∀ R, Ev (fun k => spec_l4Merge.l0 k W ps L (L.length : Int) ((n + 1 : Nat) : Int) W H P D o2) R → Ev (fun k => spec_l4Merge.l1 k W ps L (L.length : Int) (n : Int) xs (xs.length : Int) (((j * c + i) * q : Nat) : Int) W H P D out e.f0 e.f1 e.f2 e.f3 e.f4 e.f5) R)) ?_ ?_
    · obtain ⟨o2, l2, g1, g2⟩ := inner out hout
      rw [Nat.add_zero] at g2
      exact ⟨o2, l2, fun R h => Ev.step (fun k => rfl) (evpos (by omega) (g1 R h)), g2⟩
    · intro out hout
      obtain ⟨o2, l2, g1, g2⟩ := ihj out hout
      rw [show (j + 1) * c * q = (j * c + c) * q by rw [Nat.add_mul j 1 c, Nat.one_mul]] at g2
      refine ⟨o2, l2, fun R h => Ev.step (fun k => rfl) (evneg (by omega) ?_), g2⟩
      rw [w2.out]; exact g1 R h
    · intro i hi ihi out hout
      obtain ⟨o1, l1, hcp, hsp⟩ := piece_both ho he xs c m q hq hc hm hx' j i hj hi out hout
      obtain ⟨o2, l2, g1, g2⟩ := ihi o1 l1
      have w3 := Aside0.mk (show wrap64 ((i : Int) + 1) = ((i + 1 : Nat) : Int) from w64s (by omega))
      refine ⟨o2, l2, fun R h => Ev.step (fun k => rfl) (evpos (by omega) (evlet hcp ?_)), fun R h => hsp H D ps L (n : Int) R ?_⟩
      · rw [w3.out]; exact g1 R h
      · rw [show (j * c + i) * q + q = (j * c + (i + 1)) * q by rw [← Nat.add_assoc, Nat.add_mul (j * c + i) 1 q, Nat.one_mul]]
        exact g2 R h
section
variable {W H P D : Int} {ps : List S35} {z : List Int}
/-- All parts from n on are right. -/
theorem all_good (ho : ImgOk W H P z) (L : List S113) (hok : ∀ e ∈ L, PassOk W H e) (hL : L.length ≤ 7) (hps : ps.length = L.length) (hg : ∀ m (h : m < L.length), PG P D (ps[m]'(by omega)) L[m]) (n : Nat) (hn : n ≤ L.length) : ∀ out : List Int, out.length = z.length →
    ∃ R, R.length = z.length ∧ Ev (fun k => impl_Merge.l0 k W H P D ps L (n : Int) out) (W, H, P, D, R) ∧ Ev (fun k => spec_l4Merge.l0 k W ps L (L.length : Int) (n : Int) W H P D out) (W, H, P, D, R) := by
  refine down_to (n := L.length) (P := fun n => ∀ out : List Int, out.length = z.length → ∃ R, R.length = z.length ∧ Ev (fun k => impl_Merge.l0 k W H P D ps L (n : Int) out) (W, H, P, D, R) ∧ Ev (fun k => spec_l4Merge.l0 k W ps L (L.length : Int) (n : Int) W H P D out) (W, H, P, D, R)) ?_ ?_ n hn
  · intro out hout
    exact ⟨out, hout, Ev.step (fun k => rfl) (evneg (by omega) (Ev.now _)), Ev.step (fun k => rfl) (evneg (by omega) (Ev.now _))⟩
  · intro n hn ih out hout
    have g := hg n hn
    have he := hok _ (List.getElem_mem hn)
    have e1 : rd_T113 L (n : Int) = L[n] := by rw [rdT113, getD_lt hn]
    have e2 : rd_T35 ps (n : Int) = ps[n]'(by omega) := by rw [rdT35, getD_lt (by omega)]
    generalize ps[n]'(by omega) = x at g e2
    generalize L[n] = e at g he e1
    have hx : (x.f4.length : Int) = e.f4 * e.f5 * P := by rw [g.ok.len, g.w, g.h, g.p]
    obtain ⟨o2, l2, g1, g2⟩ := part_both ho he D ps L n (by omega) x.f4 hx out hout
    obtain ⟨R, hR, i1, i2⟩ := ih o2 l2
    refine ⟨R, hR, Ev.step (fun k => rfl) (evpos (by omega) (evpos (by omega) (evpos (by omega) ?_))), Ev.step (fun k => rfl) (evpos (by omega) (evpos (by omega) (evpos (by omega) (evpos (by omega) ?_))))⟩
    · rw [e1, e2]
      exact Ev.bind g.good (evpos rfl (evpos g.w (evpos g.h (evpos g.p (evpos g.d (g1 _ i1))))))
    · rw [e1, e2]
      exact g2 _ i2
/-- Part m is the first that is not right. -/
theorem impl_fail (ho : ImgOk W H P z) (L : List S113) (hok : ∀ e ∈ L, PassOk W H e) (hL : L.length ≤ 7) (hps : ps.length = L.length) (hy : ∀ y ∈ ps, y.f4.length ≤ 1048576) (m : Nat) (hm : m < L.length) (hb : ¬ PG P D (ps[m]'(by omega)) L[m]) (hg : ∀ j (h : j < m), PG P D (ps[j]'(by omega)) (L[j]'(by omega))) : ∀ out : List Int, out.length = z.length →
    Ev (fun k => impl_Merge.l0 k W H P D ps L 0 out) zi := by
  refine down (n := m) (P := fun n => ∀ out : List Int, out.length = z.length → Ev (fun k => impl_Merge.l0 k W H P D ps L (n : Int) out) zi) ?_ ?_
  · intro out hout
    have e1 : rd_T113 L (m : Int) = L[m] := by rw [rdT113, getD_lt hm]
    have e2 : rd_T35 ps (m : Int) = ps[m]'(by omega) := by rw [rdT35, getD_lt (by omega)]
    have hl := hy _ (List.getElem_mem (show m < ps.length by omega))
    refine Ev.step (fun k => rfl) (evpos (by omega) (evpos (by omega) (evpos (by omega) ?_)))
    rw [e1, e2]
    rcases chk (ps[m]'(by omega)) L[m] P D hl with h | h
    · exact absurd h hb
    · exact (h _ (fun _ => none)).1
  · intro n hn ih out hout
    have g := hg n hn
    have hnL : n < L.length := by omega
    have he := hok _ (List.getElem_mem hnL)
    have e1 : rd_T113 L (n : Int) = L[n] := by rw [rdT113, getD_lt hnL]
    have e2 : rd_T35 ps (n : Int) = ps[n]'(by omega) := by rw [rdT35, getD_lt (by omega)]
    generalize ps[n]'(by omega) = x at g e2
    generalize L[n]'(by omega) = e at g he e1
    have hx : (x.f4.length : Int) = e.f4 * e.f5 * P := by rw [g.ok.len, g.w, g.h, g.p]
    obtain ⟨o2, l2, g1, _⟩ := part_both ho he D ps L n (by omega) x.f4 hx out hout
    refine Ev.step (fun k => rfl) (evpos (by omega) (evpos (by omega) (evpos (by omega) ?_)))
    rw [e1, e2]
    exact Ev.bind g.good (evpos rfl (evpos g.w (evpos g.h (evpos g.p (evpos g.d (g1 _ (ih o2 l2)))))))
theorem spec_fail (L : List S113) (hL : L.length ≤ 7) (hps : ps.length = L.length) (hP : (rd_T35 ps 0).f2 = P) (hD : (rd_T35 ps 0).f3 = D) (hy : ∀ y ∈ ps, y.f4.length ≤ 1048576) (m : Nat) (hm : m < L.length) (hb : ¬ PG P D (ps[m]'(by omega)) L[m]) (hg : ∀ j (h : j < m), PG P D (ps[j]'(by omega)) (L[j]'(by omega))) :
    Ev (fun k => spec_Merge.l0 k W H ps L 0) zi := by
  refine down (n := m) (P := fun n => Ev (fun k => spec_Merge.l0 k W H ps L (n : Int)) zi) ?_ ?_
  · have e1 : rd_T113 L (m : Int) = L[m] := by rw [rdT113, getD_lt hm]
    have e2 : rd_T35 ps (m : Int) = ps[m]'(by omega) := by rw [rdT35, getD_lt (by omega)]
    have hl := hy _ (List.getElem_mem (show m < ps.length by omega))
    refine Ev.step (fun k => rfl) (evpos (by omega) (evpos (by omega) (evpos (by omega) (evpos (by omega) ?_))))
    rw [e1, e2, hP, hD]
    rcases chk (ps[m]'(by omega)) L[m] P D hl with h | h
    · exact absurd h hb
    · exact (h (fun _ => none) _).2
  · intro n hn ih
    have g := hg n hn
    have hnL : n < L.length := by omega
    have e1 : rd_T113 L (n : Int) = L[n] := by rw [rdT113, getD_lt hnL]
    have e2 : rd_T35 ps (n : Int) = ps[n]'(by omega) := by rw [rdT35, getD_lt (by omega)]
    refine Ev.step (fun k => rfl) (evpos (by omega) (evpos (by omega) (evpos (by omega) (evpos (by omega) ?_))))
    rw [e1, e2, hP, hD, w64s (by omega)]
    exact Ev.bind g.sgood (evpos rfl (evpos g.w (evpos g.h (evpos g.p (evpos g.d ih)))))
theorem spec_all (L : List S113) (hL : L.length ≤ 7) (hps : ps.length = L.length) (hP : (rd_T35 ps 0).f2 = P) (hD : (rd_T35 ps 0).f3 = D) (hg : ∀ m (h : m < L.length), PG P D (ps[m]'(by omega)) L[m]) (R : RI) (hR : Ev (fun k => spec_l4Merge.f k W H ps) R) :
    Ev (fun k => spec_Merge.l0 k W H ps L 0) R := by
  refine down (n := L.length) (P := fun n => Ev (fun k => spec_Merge.l0 k W H ps L (n : Int)) R) ?_ ?_
  · exact Ev.step (fun k => rfl) (evneg (by omega) hR)
  · intro n hn ih
    have g := hg n hn
    have e1 : rd_T113 L (n : Int) = L[n] := by rw [rdT113, getD_lt hn]
    have e2 : rd_T35 ps (n : Int) = ps[n]'(by omega) := by rw [rdT35, getD_lt (by omega)]
    refine Ev.step (fun k => rfl) (evpos (by omega) (evpos (by omega) (evpos (by omega) (evpos (by omega) ?_))))
    rw [e1, e2, hP, hD, w64s (by omega)]
    exact Ev.bind g.sgood (evpos rfl (evpos g.w (evpos g.h (evpos g.p (evpos g.d ih)))))
end
theorem first_bad {p : Nat → Prop} (n : Nat) : (∀ m, m < n → p m) ∨ ∃ m, m < n ∧ ¬ p m ∧ ∀ j, j < m → p j := by
  induction n with
  | zero => exact .inl (fun m h => by omega)
  | succ n ih =>
    rcases ih with h | ⟨m, h1, h2, h3⟩
    · by_cases c : p n
      · exact .inl (fun m hm => by
          by_cases e : m = n
          · subst e; exact c
          · exact h m (by omega))
      · exact .inr ⟨n, by omega, c, h⟩
    · exact .inr ⟨m, by omega, h2, h3⟩
theorem shape_tot (W H P D : Int) (hs : impl_goodSides.f W H = some true) : ∃ b, impl_goodShape.f W H P D = some b ∧ (b = true → 1 ≤ P ∧ P ≤ 4) := by
  obtain ⟨q, hq, _, _⟩ := depths D
  unfold impl_goodShape.f
  rw [hs]
  simp only [Option.bind_some, if_true]
  by_cases c1 : P ≥ 1
  · rw [if_pos c1]
    by_cases c2 : P ≤ 4
    · rw [if_pos c2, hq]
      simp only [Option.bind_some]
      cases q with
      | false => exact ⟨false, by simp, by simp⟩
      | true =>
        rw [if_pos rfl]
        by_cases c3 : P = 1
        · exact ⟨true, if_pos c3, fun _ => ⟨by omega, by omega⟩⟩
        · exact ⟨_, if_neg c3, fun _ => ⟨by omega, by omega⟩⟩
    · rw [if_neg c2]; exact ⟨false, rfl, by simp⟩
  · rw [if_neg c1]; exact ⟨false, rfl, by simp⟩
theorem passes_none (W H : Int) (c : ¬ (1 ≤ W ∧ W ≤ 512 ∧ 1 ≤ H ∧ H ≤ 512)) : Ev (fun k => impl_Passes.f k W H) ([] : List S113) := by
  have jt : Ev (fun k => impl_Passes.j0 k W H true) ([] : List S113) := Ev.step (f := fun _ => some []) (fun k => by simp only [impl_Passes.j0, if_true]) (Ev.now _)
  by_cases c1 : 1 ≤ W ∧ W ≤ 512
  · have c2 : ¬ (1 ≤ H ∧ H ≤ 512) := fun z => c ⟨c1.1, c1.2, z.1, z.2⟩
    exact evlet (goodSide_eq W) (evpos (decide_eq_true c1) (evlet (goodSide_eq H) (by rw [decide_eq_false c2]; exact jt)))
  · exact evlet (goodSide_eq W) (evneg (by rw [decide_eq_false c1]; simp) jt)
theorem merge_both (W H : Int) (ps : List S35) (hy : ∀ y ∈ ps, y.f4.length ≤ 1048576) : ∃ r1 r2 r3 r4 r5, r5.length ≤ 16384 ∧ Ev (fun k => spec_Merge.f k W H ps) (r1, r2, r3, r4, r5) ∧ Ev (fun k => impl_Merge.f k W H ps) (r1, r2, r3, r4, r5) := by
  have fin : Ev (fun k => spec_Merge.f k W H ps) zi → Ev (fun k => impl_Merge.f k W H ps) zi → ∃ r1 r2 r3 r4 r5, r5.length ≤ 16384 ∧ Ev (fun k => spec_Merge.f k W H ps) (r1, r2, r3, r4, r5) ∧ Ev (fun k => impl_Merge.f k W H ps) (r1, r2, r3, r4, r5) := fun a b => ⟨0, 0, 0, 0, [], by simp, a, b⟩
  by_cases cs : 1 ≤ W ∧ W ≤ 512 ∧ 1 ≤ H ∧ H ≤ 512
  rotate_left
  · exact fin (evlet (sides_false cs).2 (evneg (by simp) (Ev.now _))) (Ev.bind (passes_none W H cs) (evpos rfl (Ev.now _)))
  obtain ⟨w1, w2, h1, h2⟩ := cs
  have ss : spec_l4Sides.f W H = some true := by
    unfold spec_l4Sides.f; rw [if_pos (by omega), if_pos (by omega), if_pos (by omega), decide_eq_true (by omega)]
  have wh0 : 1 * 1 ≤ W * H := Int.mul_le_mul w1 h1 (by omega) (by omega)
  have wh1 : W * H ≤ 512 * 512 := Int.mul_le_mul w2 h2 (by omega) (by omega)
  have hw : wrap64 (W * H) = W * H := w64 (by omega) (by omega)
  have pi := passes_impl W H ⟨w1, w2⟩ ⟨h1, h2⟩
  have psp := passes_spec W H ⟨w1, w2⟩ ⟨h1, h2⟩
  have hok := accP_ok W H w2 h2 7 (by omega)
  have hL := accP_len W H 7
  have hf : 0 < (accP W H 7).length := by
    obtain ⟨p, hp, _⟩ := find W H 0 0 (by omega) (by omega) (by omega) (by omega)
    exact List.length_pos_of_mem hp
  generalize accP W H 7 = L at pi psp hok hL hf
  by_cases cl : ps.length = L.length
  rotate_left
  · refine fin (evlet ss (evpos rfl ?_)) (Ev.bind pi (evneg (by omega) (evneg (by omega) (Ev.now _))))
    by_cases c2 : wrap64 (W * H) > 4096
    · exact evpos c2 (Ev.now _)
    · exact evneg c2 (Ev.bind psp (evneg (by omega) (Ev.now _)))
  obtain ⟨P, hP⟩ : ∃ P, (rd_T35 ps 0).f2 = P := ⟨_, rfl⟩
  obtain ⟨D, hD⟩ : ∃ D, (rd_T35 ps 0).f3 = D := ⟨_, rfl⟩
  by_cases c2 : W * H > 4096
  · have gs : impl_goodSides.f W H = some false := by
      unfold impl_goodSides.f
      rw [goodSide_eq, goodSide_eq, decide_eq_true ⟨w1, w2⟩, decide_eq_true ⟨h1, h2⟩]
      simp only [Option.bind_some, if_true]
      rw [hw, decide_eq_false (by omega)]
    have sh : impl_goodShape.f W H P D = some false := by unfold impl_goodShape.f; rw [gs]; rfl
    refine fin (evlet ss (evpos rfl (evpos (by rw [hw]; exact c2) (Ev.now _)))) (Ev.bind pi (evneg (by omega) (evpos (by omega) ?_)))
    rw [hP, hD]
    exact evlet sh (evneg (by simp) (Ev.now _))
  have gs := sides_true ⟨w1, w2⟩ ⟨h1, h2⟩ (show W * H ≤ 4096 by omega)
  obtain ⟨b, sh, hb⟩ := shape_tot W H P D gs
  have sp0 : ∀ R, Ev (fun k => spec_Merge.l0 k W H ps L 0) R → Ev (fun k => spec_Merge.f k W H ps) R := fun R h => evlet ss (evpos rfl (evneg (by rw [hw]; exact c2) (Ev.bind psp (evpos (by omega) h))))
  have im0 : ∀ R, Ev (fun k => if b = true then (if 1 ≤ wrap64 ((wrap64 (W * H)) * P) then (if wrap64 ((wrap64 (W * H)) * P) ≤ 4194304 then (impl_Merge.l0 k W H P D ps L 0 (List.replicate (wrap64 ((wrap64 (W * H)) * P)).toNat 0)) else none) else none) else (some (0, 0, 0, 0, ([] : List Int)))) R → Ev (fun k => impl_Merge.f k W H ps) R := fun R h => Ev.bind pi (evneg (by omega) (evpos (by omega) (by rw [hP, hD]; exact evlet sh h)))
  have hex : (∀ m, m < L.length → ∀ (h1 : m < ps.length) (h2 : m < L.length), PG P D ps[m] L[m]) ∨ ∃ m, m < L.length ∧ ¬ (∀ (h1 : m < ps.length) (h2 : m < L.length), PG P D ps[m] L[m]) ∧ ∀ j, j < m → ∀ (h1 : j < ps.length) (h2 : j < L.length), PG P D ps[j] L[j] := first_bad L.length
  cases b with
  | false =>
    refine fin (sp0 _ ?_) (im0 _ (evneg (by simp) (Ev.now _)))
    rcases hex with h | ⟨m, m1, m2, m3⟩
    · have g := h 0 hf (by omega) hf
      have sg := (good_facts g.ok g.good).shape
      have hs2 : impl_goodSides.f ps[0].f0 ps[0].f1 = some true := sides_true g.ok.w g.ok.h g.ok.wh
      rw [shape_same hs2 gs, g.p, g.d, sh] at sg
      exact absurd sg (by simp)
    · exact spec_fail L hL cl hP hD hy m m1 (fun hh => m2 (fun _ _ => hh)) (fun j hj => m3 j hj (by omega) (by omega))
  | true =>
    have hp := hb rfl
    have lw := len_wrap w1 h1 (show W * H ≤ 4096 by omega) hp
    have ho : ImgOk W H P (List.replicate (W * H * P).toNat 0) := ⟨⟨w1, w2⟩, ⟨h1, h2⟩, by omega, hp, by rw [List.length_replicate]; omega⟩
    have im1 : ∀ R, Ev (fun k => impl_Merge.l0 k W H P D ps L 0 (List.replicate (W * H * P).toNat 0)) R → Ev (fun k => impl_Merge.f k W H ps) R := fun R h => im0 R (evpos rfl (evpos (by omega) (evpos (by omega) (by rw [lw.1]; exact h))))
    rcases hex with h | ⟨m, m1, m2, m3⟩
    · have hg : ∀ m (h : m < L.length), PG P D (ps[m]'(by omega)) L[m] := fun m hm => h m hm (by omega) hm
      obtain ⟨R, hR, i1, i2⟩ := all_good ho L hok hL cl hg 0 (by omega) _ rfl
      rw [List.length_replicate] at hR
      refine ⟨W, H, P, D, R, by omega, sp0 _ (spec_all L hL cl hP hD hg _ ?_), im1 _ i1⟩
      refine evpos (by omega) ?_
      rw [hP, hD, lw.1]
      exact evpos (by omega) (evpos (by omega) (Ev.bind psp i2))
    · have hb' : ¬ PG P D (ps[m]'(by omega)) L[m] := fun hh => m2 (fun _ _ => hh)
      have hg' : ∀ j (h : j < m), PG P D (ps[j]'(by omega)) (L[j]'(by omega)) := fun j hj => m3 j hj (by omega) (by omega)
      exact fin (sp0 _ (spec_fail L hL cl hP hD hy m m1 hb' hg')) (im1 _ (impl_fail ho L hok hL cl hy m m1 hb' hg' _ rfl))
theorem mIS (n : Nat) (hn : n ≤ 1048576) (r : Nat) : ∀ (i : Nat) (m : List S35) (a : Int), i + r = n → m.length = n → (∀ y ∈ m, y.f4.length ≤ 1048576) → 0 ≤ a → a ≤ 1 + 2097152 * (i : Int) →
    ∃ b l', Ev (fun k => laws_markImageS.l0 k m a (i : Int)) (b, l') ∧ a ≤ b := by
  induction r with
  | zero =>
    intro i m a hi hm _ h0 h1
    exact ⟨a, m, Ev.step (fun k => rfl) (evneg (by omega) (Ev.now _)), by omega⟩
  | succ r ih =>
    intro i m a hi hm hy h0 h1
    have hil : i < m.length := by omega
    have hb := hy _ (List.getElem_mem hil)
    generalize he : m[i] = e at hb
    obtain ⟨l1, e1, e2, e3⟩ := mhIntS e.f4 (a + 1 + 1 + 1 + 1) (by omega) (by omega)
    have w1 : wrap64 (a + 1) = a + 1 := w64 (by omega) (by omega)
    have w2 : wrap64 (a + 1 + 1) = a + 1 + 1 := w64 (by omega) (by omega)
    have w3 : wrap64 (a + 1 + 1 + 1) = a + 1 + 1 + 1 := w64 (by omega) (by omega)
    have w4 : wrap64 (a + 1 + 1 + 1 + 1) = a + 1 + 1 + 1 + 1 := w64 (by omega) (by omega)
    have er : rd_T35 m (i : Int) = e := by rw [rdT35, getD_lt hil, he]
    obtain ⟨b, l', f1, f5⟩ := ih (i + 1) (m.set i (⟨a, a + 1, a + 1 + 1, a + 1 + 1 + 1, l1⟩ : S35)) (a + 1 + 1 + 1 + 1 + e.f4.length) (by omega) (by rw [List.length_set]; exact hm) (fun y hy' => by
      rcases List.mem_or_eq_of_mem_set hy' with h | h
      · exact hy y h
      · rw [h]; show l1.length ≤ _; rw [e3]; exact hb) (by omega) (by omega)
    refine ⟨b, l', Ev.step (fun k => rfl) (evpos (by omega) (evpos (by omega) ?_)), by omega⟩
    rw [w64s (by omega), er]
    simp only [Int.toNat_natCast, w1, w2, w3, w4]
    exact Ev.bind e1 f1
theorem FnExactMerge : laws_FnExactMerge.Pure := by
  intro a0 a1 l2 _ _ w2
  obtain ⟨s, es, _, hs⟩ := szImageS l2 1048576 ⟨w2.1, fun y hy => (w2.2 y hy).2.2.2.2.1⟩ (by omega) (by omega)
  obtain ⟨K0, f0⟩ := es
  by_cases cs : s < 0
  · exact ⟨K0, s, f0 K0 (Nat.le_refl _), .inl cs⟩
  obtain ⟨bl, by_⟩ := hs (by omega)
  have et := toImageS l2 ⟨bl, by_⟩
  have hpy : ∀ y ∈ l2.map cv108, y.f4.length ≤ 1048576 := fun y hy => by
    obtain ⟨x, hx, rfl⟩ := List.mem_map.1 hy
    exact by_ x hx
  have hpl : (l2.map cv108).length ≤ 1048576 := by rw [List.length_map]; exact bl
  obtain ⟨r1, r2, r3, r4, r5, hr, e1, e2⟩ := merge_both a0 a1 (l2.map cv108) hpy
  have eq := eqImage r1 r2 r3 r4 r5 (by omega)
  have eqs := eqImageS (l2.map cv108) ⟨by omega, fun y hy' => by have := hpy y hy'; omega⟩
  obtain ⟨ka, ps', em, hka⟩ := mIS (l2.map cv108).length hpl (l2.map cv108).length 0 (l2.map cv108) 1 (by omega) rfl hpy (by omega) (by omega)
  obtain ⟨r5', m1, m2, _⟩ := mhIntS r5 1 (by omega) (by omega)
  have em1 : Ev (fun k => laws_markImage.f k r1 r2 r3 r4 r5 1) (1 + r5.length, r5') := Ev.bind m1 (Ev.now _)
  have eh1 : Ev (fun k => laws_heldImage.f k r1 r2 r3 r4 r5' 1) (1 + r5.length) := Ev.bind m2 (evneg (by omega) (Ev.now _))
  obtain ⟨K1, f1⟩ := et
  obtain ⟨K2, f2'⟩ := e1
  obtain ⟨K3, f3⟩ := e2
  obtain ⟨K4, f4⟩ := eq
  obtain ⟨K5, f5⟩ := eqs
  obtain ⟨K6, f6⟩ := em
  obtain ⟨K7, f7⟩ := em1
  obtain ⟨K8, f8⟩ := eh1
  refine ⟨K0 + K1 + K2 + K3 + K4 + K5 + K6 + K7 + K8, s, f0 (K0 + K1 + K2 + K3 + K4 + K5 + K6 + K7 + K8) (by omega), .inr ⟨by omega, l2.map cv108, ps', r1, r2, r3, r4, r5, r5', ka, 1 + r5.length, f1 _ (by omega), f2' _ (by omega), f3 _ (by omega), f4 _ (by omega), f5 _ (by omega), f6 _ (by omega), by omega, f7 _ (by omega), by omega, f8 _ (by omega)⟩⟩
end Go.Proofs.Ytidblealnaicpaa.Pure

/- GoodCues: the reading's captions and the program's answer the same; the plain law. -/
import Derived.Test.YtidblealnaicpaaPFnExactGoodCuesx0
import Derived.Test.YtidblealnaicpaaPFnExactGoodCuesx1
import Derived.Test.YtidblealnaicpaaPFnExactGoodCuesx2
import Derived.Test.YtidblealnaicpaaPFnExactGoodCuesx3
import Derived.Test.YtidblealnaicpaaPFnExactGoodCuesx4
import Derived.Test.YtidblealnaicpaaPFnExactGoodCuesx5
import Derived.Test.YtidblealnaicpaaPFnExactGoodCuesx6
import Derived.Test.YtidblealnaicpaaK
import Derived.Laws.Bits64b
namespace Go.Proofs.Ytidblealnaicpaa.Pure
open Go.RowKit Go.Proofs.Ytidblealnaicpaa.PFnExactGoodCues Go.Proofs.Ytidblealnaicpaa.K Go.Proofs.YtidblealnaicpaaW.PrintWords Go.Proofs.YtidblealnaicpaaW.PrintLast Go.Proofs.YtidblealnaicpaaW.PrintMore

theorem rdB (l : List ByteArray) (i : Nat) (hi : i < l.length) : rdOf ByteArray.empty l (i : Int) = l[i] := by simp [rdOf, List.getD_eq_getElem?_getD, hi]
theorem rdT120 (l : List S120) (i : Nat) : rd_T120 l (i : Int) = l.getD i z120 := by simp [rd_T120]
theorem rdT121 (l : List S121) (i : Nat) : rd_T121 l (i : Int) = l.getD i z121 := by simp [rd_T121]
/-! The sizes. -/
theorem szStr (l : List ByteArray) (a : Int) (hl : l.length ≤ maxLen) (hs : ∀ y ∈ l, y.size ≤ maxLen) (h0 : 0 ≤ a) (h1 : a ≤ 1048576) :
    ∃ r, Ev (fun k => laws_szStringS.f k l a) r ∧ r ≤ a ∧ (0 ≤ r → l.length ≤ 1048576 ∧ ∀ y ∈ l, y.size ≤ 1048576) := by
  unfold maxLen at hl hs
  have hw : wrap64 (a - (l.length : Int)) = a - l.length := w64 (by omega) (by omega)
  by_cases c : a - (l.length : Int) < 0
  · exact ⟨-1, evpos (by rw [hw]; exact c) (Ev.now _), by omega, by omega⟩
  have main := down (n := l.length) (P := fun i => ∀ b : Int, 0 ≤ b → b ≤ a → ∃ r, Ev (fun k => laws_szStringS.l0 k l b (i : Int)) r ∧ r ≤ b ∧ (0 ≤ r → ∀ j (h : j < l.length), i ≤ j → l[j].size ≤ 1048576)) ?_ ?_
  · obtain ⟨r, e, e1, e2⟩ := main (a - l.length) (by omega) (by omega)
    refine ⟨r, evneg (by rw [hw]; exact c) (by rw [hw]; exact e), by omega, fun h => ⟨by omega, fun y hy => ?_⟩⟩
    obtain ⟨j, hj, rfl⟩ := List.getElem_of_mem hy
    exact e2 h j hj (Nat.zero_le _)
  · intro b b0 _
    exact ⟨b, Ev.step (fun k => rfl) (evneg (by omega) (Ev.now _)), by omega, fun _ j hj hij => absurd hj (by omega)⟩
  · intro i hi ih b b0 b1
    have hm := hs _ (List.getElem_mem hi)
    have hr := rdB l i hi
    have hv : wrap64 (b - (l[i].size : Int)) = b - (l[i].size : Int) := w64 (by omega) (by omega)
    by_cases c2 : b - (l[i].size : Int) < 0
    · exact ⟨-1, Ev.step (fun k => rfl) (evpos (by omega) (evpos (by omega) (evpos (by rw [hr, hv]; exact c2) (Ev.now _)))), by omega, by omega⟩
    · obtain ⟨r, e, e1, e2⟩ := ih (b - (l[i].size : Int)) (by omega) (by omega)
      refine ⟨r, Ev.step (fun k => rfl) (evpos (by omega) (evpos (by omega) (evneg (by rw [hr, hv]; exact c2) ?_))), by omega, fun h j hj hij => ?_⟩
      · rw [hr, hv, w64s (by omega)]; exact e
      · by_cases e : j = i
        · subst e; omega
        · exact e2 h j hj (by omega)
/-- What a list of captions must be for the rest. -/
def OkS (y : S120) : Prop := y.f2.length ≤ 1048576 ∧ ∀ s ∈ y.f2, s.size ≤ 1048576
theorem szCues (l : List S120) (a : Int) (hl : l.length ≤ maxLen ∧ ∀ y ∈ l, y.f2.length ≤ maxLen ∧ ∀ s ∈ y.f2, s.size ≤ maxLen) (h0 : 0 ≤ a) (h1 : a ≤ 1048576) :
    ∃ r, Ev (fun k => laws_szCueS.f k l a) r ∧ (0 ≤ r → l.length ≤ 1048576 ∧ ∀ y ∈ l, OkS y) := by
  obtain ⟨hl, hs⟩ := hl
  have hl' := hl
  unfold maxLen at hl'
  have hw : wrap64 (a - (l.length : Int)) = a - l.length := w64 (by omega) (by omega)
  by_cases c : a - (l.length : Int) < 0
  · exact ⟨-1, evpos (by rw [hw]; exact c) (Ev.now _), by omega⟩
  have main := down (n := l.length) (P := fun i => ∀ b : Int, 0 ≤ b → b ≤ a → ∃ r, Ev (fun k => laws_szCueS.l0 k l b (i : Int)) r ∧ (0 ≤ r → ∀ j (h : j < l.length), i ≤ j → OkS l[j])) ?_ ?_
  · obtain ⟨r, e, e2⟩ := main (a - l.length) (by omega) (by omega)
    refine ⟨r, evneg (by rw [hw]; exact c) (by rw [hw]; exact e), fun h => ⟨by omega, fun y hy => ?_⟩⟩
    obtain ⟨j, hj, rfl⟩ := List.getElem_of_mem hy
    exact e2 h j hj (Nat.zero_le _)
  · intro b b0 _
    exact ⟨b, Ev.step (fun k => rfl) (evneg (by omega) (Ev.now _)), fun _ j hj hij => absurd hj (by omega)⟩
  · intro i hi ih b b0 b1
    have hm := hs _ (List.getElem_mem hi)
    have hr : rd_T120 l (i : Int) = l[i] := by rw [rdT120, getD_lt hi]
    obtain ⟨t, et, et1, et2⟩ := szStr l[i].f2 b hm.1 hm.2 b0 (by omega)
    by_cases c2 : t < 0
    · refine ⟨-1, Ev.step (fun k => rfl) (evpos (by omega) (evpos (by omega) ?_)), by omega⟩
      rw [hr]
      exact Ev.bind (a := -1) (Ev.bind et (evpos c2 (Ev.now _))) (evpos (by omega) (Ev.now _))
    · obtain ⟨r, e, e2⟩ := ih t (by omega) (by omega)
      refine ⟨r, Ev.step (fun k => rfl) (evpos (by omega) (evpos (by omega) ?_)), fun h j hj hij => ?_⟩
      · rw [hr, w64s (by omega)]
        exact Ev.bind (a := t) (Ev.bind et (evneg c2 (Ev.now _))) (evneg c2 e)
      · by_cases e : j = i
        · subst e; exact et2 (by omega)
        · exact e2 h j hj (by omega)
/-! The copies and the comparisons. -/
theorem toStr (l : List ByteArray) (hl : l.length ≤ 1048576) : Ev (fun k => laws_toStringS.f k l) l := by
  refine evpos (by omega) (evpos (by omega) ?_)
  have := down (n := l.length) (P := fun i => Ev (fun k => laws_toStringS.l0 k l (fl (⟨#[]⟩ : ByteArray) l.length (fun j => l.getD j ⟨#[]⟩) i) (i : Int)) l) ?_ ?_
  · rw [fl_zero] at this; exact this
  · refine Ev.step (fun k => rfl) (evneg (by omega) ?_)
    rw [fl_all]
    have e := map_range_get l (⟨#[]⟩ : ByteArray) id
    simp only [id_eq, List.map_id_fun] at e
    rw [e]; exact Ev.now _
  · intro i hi h
    refine Ev.step (fun k => rfl) (evpos (by omega) (evpos (by omega) (evpos (by rw [fl_len]; omega) ?_)))
    rw [w64s (by omega), rdB l i hi, Int.toNat_natCast]
    rw [← fl_set, getD_lt hi] at h
    exact h
theorem eqStr (l : List ByteArray) (hl : l.length ≤ 4611686018427387904) : Ev (fun k => laws_eqStringS.f k l l) true := by
  refine evpos rfl ?_
  refine down (n := l.length) (P := fun i => Ev (fun k => laws_eqStringS.l0 k l l (i : Int)) true) ?_ ?_
  · exact Ev.step (fun k => rfl) (evneg (by omega) (Ev.now _))
  · intro i hi h
    refine Ev.step (fun k => rfl) (evpos (by omega) (evpos (by omega) (evpos (by omega) (evpos rfl ?_))))
    rw [w64s (by omega)]; exact h
def cv (y : S120) : S121 := ⟨y.f0, y.f1, y.f2⟩
theorem toCues (l : List S120) (hl : l.length ≤ 1048576) (hy : ∀ y ∈ l, OkS y) : Ev (fun k => laws_toCueS.f k l) (l.map cv) := by
  refine evpos (by omega) (evpos (by omega) ?_)
  have := down (n := l.length) (P := fun i => Ev (fun k => laws_toCueS.l0 k l (fl z121 l.length (fun j => cv (l.getD j z120)) i) (i : Int)) (l.map cv)) ?_ ?_
  · rw [fl_zero] at this; exact this
  · refine Ev.step (fun k => rfl) (evneg (by omega) ?_)
    rw [fl_all, map_range_get l z120 cv]; exact Ev.now _
  · intro i hi h
    have hm := hy _ (List.getElem_mem hi)
    have hr : rd_T120 l (i : Int) = l[i] := by rw [rdT120, getD_lt hi]
    refine Ev.step (fun k => rfl) (evpos (by omega) (evpos (by omega) ?_))
    rw [hr]
    refine Ev.bind (a := (l[i].f0, l[i].f1, l[i].f2)) (Ev.bind (toStr _ hm.1) (Ev.now _)) (evpos (by rw [fl_len]; omega) ?_)
    rw [w64s (by omega), Int.toNat_natCast]
    rw [← fl_set, getD_lt hi] at h
    exact h
theorem eqCues (l : List S121) (hl : l.length ≤ 1048576) (hy : ∀ y ∈ l, y.f2.length ≤ 1048576) : Ev (fun k => laws_eqCueS.f k l l) true := by
  refine evpos rfl ?_
  refine down (n := l.length) (P := fun i => Ev (fun k => laws_eqCueS.l0 k l l (i : Int)) true) ?_ ?_
  · exact Ev.step (fun k => rfl) (evneg (by omega) (Ev.now _))
  · intro i hi h
    have hm := hy _ (List.getElem_mem hi)
    have hr : rd_T121 l (i : Int) = l[i] := by rw [rdT121, getD_lt hi]
    refine Ev.step (fun k => rfl) (evpos (by omega) (evpos (by omega) (evpos (by omega) ?_)))
    rw [hr, w64s (by omega)]
    exact Ev.bind (evpos rfl (evpos rfl (Ev.bind (eqStr l[i].f2 (by omega)) (evpos rfl (Ev.now _))))) (evpos rfl h)
/-! A line of a caption. -/
abbrev arrow : List UInt8 := [45, 45, 62]
abbrev has (s : ByteArray) : Bool := Lib.contains s.data.toList arrow
theorem ex_occ (s : ByteArray) (j : Nat) : (s.extract j (j + 3)).toList = arrow ↔ Lib.occAt s.data.toList arrow j = true := by
  unfold Lib.occAt
  rw [Lib.extract_toList, List.isPrefixOf_iff_prefix, List.prefix_iff_eq_take]
  rw [show j + 3 - j = arrow.length by simp [arrow]]
  exact ⟨fun h => h.symm, fun h => h.symm⟩
theorem has_ev (s : ByteArray) (hs : s.size ≤ 1048576) : Ev (fun k => spec_l15Has.f k s) (has s) := by
  have hsz : s.data.toList.length = s.size := by rw [Array.length_toList]; rfl
  have t2 : ∀ j : Nat, j ≤ 1048576 → wrap64 ((j : Int) + 2) = ((j + 2 : Nat) : Int) := fun j h => by rw [w64 (by omega) (by omega)]; omega
  have tn : ∀ j : Nat, j ≤ 1048576 → wrap64 ((j : Int) + 3) = ((j + 3 : Nat) : Int) := fun j h => by rw [w64 (by omega) (by omega)]; omega
  rcases Lib.index_spec s.data.toList arrow with ⟨e, no⟩ | ⟨i, e, hi, yes, no⟩
  · rw [show has s = false by unfold has Lib.contains; rw [e]; decide]
    refine down (n := s.size - 2) (P := fun j => Ev (fun k => spec_l15Has.l0 k s (j : Int)) false) ?_ ?_
    · refine Ev.step (fun k => rfl) (evneg ?_ (Ev.now _))
      rw [t2 _ (by omega)]; omega
    · intro j hj ih
      refine Ev.step (fun k => rfl) (evpos (by rw [t2 _ (by omega)]; omega) (evpos (by omega) (evpos (by rw [tn _ (by omega)]; omega) (evpos (by rw [tn _ (by omega)]; omega) (evneg ?_ ?_)))))
      · rw [tn _ (by omega), Int.toNat_natCast, Int.toNat_natCast]
        intro h
        have := no j (by omega)
        rw [(ex_occ s j).1 h] at this
        exact absurd this (by decide)
      · rw [w64s (by omega)]; exact ih
  · have room : i + 3 ≤ s.size := by
      have := Lib.index_room s.data.toList arrow (by omega)
      rw [e, hsz] at this
      simp only [arrow, List.length_cons, List.length_nil] at this
      omega
    rw [show has s = true by unfold has Lib.contains; rw [e]; exact decide_eq_true (by omega)]
    refine down (n := i) (P := fun j => Ev (fun k => spec_l15Has.l0 k s (j : Int)) true) ?_ ?_
    · refine Ev.step (fun k => rfl) (evpos (by rw [t2 _ (by omega)]; omega) (evpos (by omega) (evpos (by rw [tn _ (by omega)]; omega) (evpos (by rw [tn _ (by omega)]; omega) (evpos ?_ (Ev.now _))))))
      rw [tn _ (by omega), Int.toNat_natCast, Int.toNat_natCast]
      exact (ex_occ s i).2 yes
    · intro j hj ih
      refine Ev.step (fun k => rfl) (evpos (by rw [t2 _ (by omega)]; omega) (evpos (by omega) (evpos (by rw [tn _ (by omega)]; omega) (evpos (by rw [tn _ (by omega)]; omega) (evneg ?_ ?_)))))
      · rw [tn _ (by omega), Int.toNat_natCast, Int.toNat_natCast]
        intro h
        have := no j hj
        rw [(ex_occ s j).1 h] at this
        exact absurd this (by decide)
      · rw [w64s (by omega)]; exact ih
/-- What the program's line says once its bytes are good. -/
def rest (s : ByteArray) : Int := if has s = true then 4 else if (s.size : Int) > 80 then 7 else 0
theorem rest_ev (s : ByteArray) (hs : s.size ≤ 1048576) : Ev (fun _ => (strings_Contains.f s (⟨#[45, 45, 62]⟩ : ByteArray)).bind fun t => (if t = true then (some 4) else (if (s.size : Int) > 80 then (some 7) else (some 0)))) (rest s) := by
  refine evlet (a := has s) (by unfold strings_Contains.f; rw [if_pos (by omega)]) ?_
  by_cases c : has s = true
  · rw [show rest s = 4 from if_pos c]; exact evpos c (Ev.now _)
  · rw [show rest s = if (s.size : Int) > 80 then 7 else 0 from if_neg c]; refine evneg c ?_
    exact evval
theorem line_both (s : ByteArray) (hs : s.size ≤ 1048576) : ∃ b : Bool, Ev (fun k => spec_l15Bytes.f k s) b ∧ Ev (fun k => impl_zcueLine.f k s) (if b = true then rest s else 4) := by
  refine down (n := s.size) (P := fun i => ∃ b : Bool, Ev (fun k => spec_l15Bytes.l0 k s (i : Int)) b ∧ Ev (fun k => impl_zcueLine.l0 k s (s.size : Int) (i : Int)) (if b = true then rest s else 4)) ?_ ?_
  · exact ⟨true, Ev.step (fun k => rfl) (evneg (by omega) (Ev.now _)), Ev.step (fun k => rfl) (evneg (by omega) (rest_ev s hs))⟩
  · intro i hi ⟨b, h1, h2⟩
    by_cases c1 : bt s (i : Int) < 32
    · exact ⟨false, Ev.step (fun k => rfl) (evpos (by omega) (evpos (by omega) (evpos c1 (Ev.now _)))), Ev.step (fun k => rfl) (evpos (by omega) (evpos (by omega) (evpos (by omega) (evpos c1 (Ev.now _)))))⟩
    by_cases c2 : bt s (i : Int) > 126
    · exact ⟨false, Ev.step (fun k => rfl) (evpos (by omega) (evpos (by omega) (evneg c1 (evpos c2 (Ev.now _))))), Ev.step (fun k => rfl) (evpos (by omega) (evpos (by omega) (evpos (by omega) (evneg c1 (evpos c2 (Ev.now _))))))⟩
    refine ⟨b, Ev.step (fun k => rfl) (evpos (by omega) (evpos (by omega) (evneg c1 (evneg c2 ?_)))), Ev.step (fun k => rfl) (evpos (by omega) (evpos (by omega) (evpos (by omega) (evneg c1 (evneg c2 ?_)))))⟩
    · rw [w64s (by omega)]; exact h1
    · rw [w64s (by omega)]; exact h2
theorem toList_nil (s : ByteArray) : s.toList = ([] : List UInt8) ↔ s.size = 0 := by
  rw [Lib.toList_data]
  constructor
  · intro h
    have : s.data.toList.length = 0 := by rw [h]; rfl
    rw [Array.length_toList] at this
    exact this
  · intro h
    exact List.eq_nil_of_length_eq_zero (by rw [Array.length_toList]; exact h)
theorem lines_both (L : List ByteArray) (hL : L.length ≤ 1048576) (hs : ∀ s ∈ L, s.size ≤ 1048576) :
    ∃ q : Bool, Ev (fun k => spec_l15Lines.f k L) (q && decide ((L.length : Int) ≥ 1 ∧ (L.length : Int) ≤ 4)) ∧ Ev (fun k => impl_zcue.l0 k L (L.length : Int) 0) q := by
  refine down (n := L.length) (P := fun i => ∃ q : Bool, Ev (fun k => spec_l15Lines.l0 k L L (L.length : Int) (i : Int)) (q && decide ((L.length : Int) ≥ 1 ∧ (L.length : Int) ≤ 4)) ∧ Ev (fun k => impl_zcue.l0 k L (L.length : Int) (i : Int)) q) ?_ ?_
  · refine ⟨true, Ev.step (fun k => rfl) (evneg (by omega) ?_), Ev.step (fun k => rfl) (evneg (by omega) (Ev.now _))⟩
    by_cases c : (L.length : Int) ≥ 1
    · refine evpos c ?_
      rw [Bool.true_and, show decide ((L.length : Int) ≥ 1 ∧ (L.length : Int) ≤ 4) = decide ((L.length : Int) ≤ 4) by simp only [c, true_and]]
      exact Ev.now _
    · refine evneg c ?_
      rw [decide_eq_false (fun h => c h.1)]
      exact Ev.now _
  · intro i hi ⟨q, h1, h2⟩
    have hm := hs _ (List.getElem_mem hi)
    have hr := rdB L i hi
    generalize L[i] = s at hm hr
    by_cases c0 : s.size = 0
    · refine ⟨false, Ev.step (fun k => rfl) (evpos (by omega) (evpos (by omega) (evpos (by omega) ?_))), Ev.step (fun k => rfl) (evpos (by omega) (evpos (by omega) (evpos (by omega) ?_)))⟩
      · rw [hr]; exact evpos (by omega) (Ev.now _)
      · rw [hr]; exact evpos ((toList_nil s).2 c0) (Ev.now _)
    have hw : wrap64 ((s.size : Int) - 1) = (s.size : Int) - 1 := w64 (by omega) (by omega)
    obtain ⟨b, e1, e2⟩ := line_both s hm
    have ne : ¬ s.toList = ([] : List UInt8) := fun h => c0 ((toList_nil s).1 h)
    by_cases c32 : bt s ((s.size : Int) - 1) = 32
    · refine ⟨false, Ev.step (fun k => rfl) (evpos (by omega) (evpos (by omega) (evpos (by omega) ?_))), Ev.step (fun k => rfl) (evpos (by omega) (evpos (by omega) (evpos (by omega) ?_)))⟩
      · rw [hr, hw]
        refine evneg (by omega) ?_
        by_cases c80 : (s.size : Int) > 80
        · exact evpos c80 (Ev.now _)
        refine evneg c80 (Ev.bind e1 ?_)
        cases b with
        | false => exact evneg (by decide) (Ev.now _)
        | true => exact evpos rfl (evpos (by omega) (evpos (by omega) (evpos c32 (Ev.now _))))
      · rw [hr, hw]
        exact evneg ne (evpos (by omega) (evpos (by omega) (evpos c32 (Ev.now _))))
    by_cases good : b = true ∧ ¬ (s.size : Int) > 80 ∧ has s = false
    · obtain ⟨rfl, c80, hh⟩ := good
      refine ⟨q, Ev.step (fun k => rfl) (evpos (by omega) (evpos (by omega) (evpos (by omega) ?_))), Ev.step (fun k => rfl) (evpos (by omega) (evpos (by omega) (evpos (by omega) ?_)))⟩
      · rw [hr, hw]
        refine evneg (by omega) (evneg c80 (Ev.bind e1 (evpos rfl (evpos (by omega) (evpos (by omega) (evneg c32 (Ev.bind (has_ev s hm) ?_)))))))
        rw [hh, w64s (by omega)]
        exact evneg (by decide) h1
      · rw [hr, hw, w64s (by omega)]
        refine evneg ne (evpos (by omega) (evpos (by omega) (evneg c32 (Ev.bind e2 ?_))))
        rw [if_pos rfl]
        refine evpos ?_ h2
        unfold rest
        rw [hh, if_neg (by decide), if_neg c80]
    · refine ⟨false, Ev.step (fun k => rfl) (evpos (by omega) (evpos (by omega) (evpos (by omega) ?_))), Ev.step (fun k => rfl) (evpos (by omega) (evpos (by omega) (evpos (by omega) ?_)))⟩
      · rw [hr, hw]
        refine evneg (by omega) ?_
        by_cases c80 : (s.size : Int) > 80
        · exact evpos c80 (Ev.now _)
        refine evneg c80 (Ev.bind e1 ?_)
        cases b with
        | false => exact evneg (by decide) (Ev.now _)
        | true =>
          refine evpos rfl (evpos (by omega) (evpos (by omega) (evneg c32 (Ev.bind (has_ev s hm) (evpos ?_ (Ev.now _))))))
          cases hh : has s with
          | true => rfl
          | false => exact absurd ⟨rfl, c80, hh⟩ good
      · rw [hr, hw]
        refine evneg ne (evpos (by omega) (evpos (by omega) (evneg c32 (Ev.bind e2 (evneg ?_ (Ev.now _))))))
        intro hz
        apply good
        cases b with
        | false => rw [if_neg (by decide)] at hz; exact absurd hz (by decide)
        | true =>
          rw [if_pos rfl] at hz
          unfold rest at hz
          refine ⟨rfl, fun c80 => ?_, ?_⟩
          · rw [if_pos c80] at hz
            split at hz <;> exact absurd hz (by decide)
          · cases hh : has s with
            | false => rfl
            | true => rw [hh, if_pos rfl] at hz; exact absurd hz (by decide)
theorem cue_both (a b : Int) (L : List ByteArray) (hL : L.length ≤ 1048576) (hs : ∀ s ∈ L, s.size ≤ 1048576) :
    ∃ r : Bool, Ev (fun k => spec_l15Lines.f k L) r ∧ Ev (fun k => impl_zcue.f k a b L) r := by
  obtain ⟨q, h1, h2⟩ := lines_both L hL hs
  have jt : Ev (fun k => impl_zcue.j0 k true a b L) false := Ev.step (f := fun _ => some false) (fun k => by simp only [impl_zcue.j0, if_true]) (Ev.now _)
  refine ⟨_, h1, ?_⟩
  by_cases c1 : (L.length : Int) < 1
  · rw [decide_eq_false (by omega), Bool.and_false]
    exact evpos c1 jt
  refine evneg c1 ?_
  by_cases c4 : (L.length : Int) > 4
  · rw [decide_eq_false (p := ((L.length : Int) ≥ 1 ∧ (L.length : Int) ≤ 4)) (by omega), Bool.and_false, decide_eq_true c4]
    exact jt
  · rw [decide_eq_true (p := ((L.length : Int) ≥ 1 ∧ (L.length : Int) ≤ 4)) (by omega), Bool.and_true, decide_eq_false c4]
    exact Ev.step (f := fun k => impl_zcue.l0 k L (L.length : Int) 0) (fun k => by simp only [impl_zcue.j0, Bool.false_eq_true, if_false]) h2
theorem same_time (a : Int) : impl_ztime.f a = spec_l15Time.f a := rfl
theorem time_some (a : Int) : ∃ b : Bool, spec_l15Time.f a = some b := by
  unfold spec_l15Time.f
  split <;> exact ⟨_, rfl⟩
theorem good_both (L : List S121) (hL : L.length ≤ 1048576) (hy : ∀ y ∈ L, y.f2.length ≤ 1048576 ∧ ∀ s ∈ y.f2, s.size ≤ 1048576) :
    ∃ r : Bool, Ev (fun k => spec_GoodCues.f k L) r ∧ Ev (fun k => impl_GoodCues.f k L) r := by
  by_cases c : (L.length : Int) > 200
  · exact ⟨false, evpos c (Ev.now _), evpos c (Ev.now _)⟩
  suffices h : ∃ r : Bool, Ev (fun k => spec_GoodCues.l0 k L L (L.length : Int) ((0 : Nat) : Int)) r ∧ Ev (fun k => impl_GoodCues.l0 k L L (L.length : Int) ((0 : Nat) : Int)) r by
    obtain ⟨r, h1, h2⟩ := h
    exact ⟨r, evneg c h1, evneg c h2⟩
  refine down (n := L.length) (P := fun i => ∃ r : Bool, Ev (fun k => spec_GoodCues.l0 k L L (L.length : Int) (i : Int)) r ∧ Ev (fun k => impl_GoodCues.l0 k L L (L.length : Int) (i : Int)) r) ?_ ?_
  · exact ⟨true, Ev.step (fun k => rfl) (evneg (by omega) (Ev.now _)), Ev.step (fun k => rfl) (evneg (by omega) (Ev.now _))⟩
  · intro i hi ⟨r, h1, h2⟩
    have hm := hy _ (List.getElem_mem hi)
    have hr : rd_T121 L (i : Int) = L[i] := by rw [rdT121, getD_lt hi]
    generalize L[i] = y at hm hr
    obtain ⟨t0, e0⟩ := time_some y.f0
    obtain ⟨t1, e1⟩ := time_some y.f1
    suffices h : ∃ r : Bool, Ev (fun k => if t0 = true then (if t1 = true then (if y.f0 ≥ y.f1 then (some false) else ((spec_l15Lines.f k y.f2).bind fun t113 => (if t113 = true then (if (i : Int) > 0 then (if 0 ≤ (wrap64 ((i : Int) - 1)) then (if (wrap64 ((i : Int) - 1)) < (L.length : Int) then (if y.f0 < ((rd_T121 L (wrap64 ((i : Int) - 1))).f0) then (some false) else (spec_GoodCues.l0 k L L (L.length : Int) (wrap64 ((i : Int) + 1)))) else (none)) else (none)) else (spec_GoodCues.l0 k L L (L.length : Int) (wrap64 ((i : Int) + 1)))) else (some false)))) else (some false)) else (some false)) r ∧
        Ev (fun k => if t0 = true then (if t1 = true then (if y.f0 ≥ y.f1 then (some false) else ((impl_zcue.f k y.f0 y.f1 y.f2).bind fun t113 => (if t113 = true then (if (i : Int) > 0 then (if 0 ≤ (wrap64 ((i : Int) - 1)) then (if (wrap64 ((i : Int) - 1)) < (L.length : Int) then (if y.f0 < ((rd_T121 L (wrap64 ((i : Int) - 1))).f0) then (some false) else (impl_GoodCues.l0 k L L (L.length : Int) (wrap64 ((i : Int) + 1)))) else (none)) else (none)) else (impl_GoodCues.l0 k L L (L.length : Int) (wrap64 ((i : Int) + 1)))) else (some false)))) else (some false)) else (some false)) r by
      obtain ⟨r, g1, g2⟩ := h
      refine ⟨r, Ev.step (fun k => rfl) (evpos (by omega) (evpos (by omega) (evpos (by omega) ?_))), Ev.step (fun k => rfl) (evpos (by omega) (evpos (by omega) (evpos (by omega) ?_)))⟩
      · rw [hr, e0, e1]; exact g1
      · rw [hr, same_time, same_time, e0, e1]; exact g2
    cases t0 with
    | false => exact ⟨false, evneg (by decide) (Ev.now _), evneg (by decide) (Ev.now _)⟩
    | true =>
      cases t1 with
      | false => exact ⟨false, evpos rfl (evneg (by decide) (Ev.now _)), evpos rfl (evneg (by decide) (Ev.now _))⟩
      | true =>
        by_cases cge : y.f0 ≥ y.f1
        · exact ⟨false, evpos rfl (evpos rfl (evpos cge (Ev.now _))), evpos rfl (evpos rfl (evpos cge (Ev.now _)))⟩
        obtain ⟨u, u1, u2⟩ := cue_both y.f0 y.f1 y.f2 hm.1 hm.2
        cases u with
        | false => exact ⟨false, evpos rfl (evpos rfl (evneg cge (Ev.bind u1 (evneg (by decide) (Ev.now _))))), evpos rfl (evpos rfl (evneg cge (Ev.bind u2 (evneg (by decide) (Ev.now _)))))⟩
        | true =>
          rw [← w64s (by omega)] at h1 h2
          by_cases c0 : (i : Int) > 0
          · have hw : wrap64 ((i : Int) - 1) = (i : Int) - 1 := w64 (by omega) (by omega)
            by_cases cl : y.f0 < (rd_T121 L (wrap64 ((i : Int) - 1))).f0
            · exact ⟨false, evpos rfl (evpos rfl (evneg cge (Ev.bind u1 (evpos rfl (evpos c0 (evpos (by omega) (evpos (by omega) (evpos cl (Ev.now _))))))))), evpos rfl (evpos rfl (evneg cge (Ev.bind u2 (evpos rfl (evpos c0 (evpos (by omega) (evpos (by omega) (evpos cl (Ev.now _)))))))))⟩
            · exact ⟨r, evpos rfl (evpos rfl (evneg cge (Ev.bind u1 (evpos rfl (evpos c0 (evpos (by omega) (evpos (by omega) (evneg cl h1)))))))), evpos rfl (evpos rfl (evneg cge (Ev.bind u2 (evpos rfl (evpos c0 (evpos (by omega) (evpos (by omega) (evneg cl h2))))))))⟩
          · exact ⟨r, evpos rfl (evpos rfl (evneg cge (Ev.bind u1 (evpos rfl (evneg c0 h1))))), evpos rfl (evpos rfl (evneg cge (Ev.bind u2 (evpos rfl (evneg c0 h2)))))⟩
theorem FnExactGoodCues : laws_FnExactGoodCues.Pure := by
  intro l hdom
  have key : Ev (fun k => laws_FnExactGoodCues.f k l) true := by
    obtain ⟨t, et, ht⟩ := szCues l 1048576 ⟨hdom.1, fun y hy => (hdom.2 y hy).2.2⟩ (by omega) (by omega)
    refine Ev.bind et ?_
    by_cases c : t < 0
    · exact evpos c (Ev.now _)
    obtain ⟨hl, hy⟩ := ht (by omega)
    have T := toCues l hl hy
    have hy' : ∀ y ∈ l.map cv, y.f2.length ≤ 1048576 ∧ ∀ s ∈ y.f2, s.size ≤ 1048576 := by
      intro y hm
      obtain ⟨x, hx, rfl⟩ := List.mem_map.1 hm
      exact hy x hx
    obtain ⟨r, g1, g2⟩ := good_both (l.map cv) (by rw [List.length_map]; exact hl) hy'
    refine evneg c (Ev.bind T (Ev.bind g1 (Ev.bind T (Ev.bind g2 (evneg (by simp) (Ev.bind T (Ev.bind (eqCues (l.map cv) (by rw [List.length_map]; exact hl) (fun y h => (hy' y h).1)) (evpos rfl (Ev.now _)))))))))
  exact key.rounds
end Go.Proofs.Ytidblealnaicpaa.Pure

/- FnExactGoodClip: for every clip the program's GoodClip answers what the reference's answers, and writes into no argument. -/
import Derived.Test.YtglaedjadlappaaPFnExactGoodClipx5
import Derived.Test.YtglaedjadlappaaK
namespace Go.Proofs.Ytglaedjadlappaa.Pure
open Go.RowKit Go.Proofs.Ytglaedjadlappaa.PFnExactGoodClip Go.Proofs.Ytglaedjadlappaa.K Go.Proofs.YtglaedjadlappaaW.PrintWords Go.Proofs.YtglaedjadlappaaW.PrintLast Go.Proofs.YtglaedjadlappaaW.PrintMore

theorem rdT201 (l : List S201) (i : Nat) : rd_T201 l (i : Int) = l.getD i z201 := by simp [rd_T201]
theorem rdT166 (l : List S166) (i : Nat) : rd_T166 l (i : Int) = l.getD i z166 := by simp [rd_T166]
theorem rdT100 (l : List S100) (i : Nat) : rd_T100 l (i : Int) = l.getD i z100 := by simp [rd_T100]
theorem rdL1n (l : List (List Int)) (i : Nat) : rd_L1 l (i : Int) = l.getD i ([] : List Int) := by simp [rd_L1]
theorem rdL2n (l : List (List (List Int))) (i : Nat) : rd_L2 l (i : Int) = l.getD i ([] : List (List Int)) := by simp [rd_L2]
theorem rdL5n (l : List (List S201)) (i : Nat) : rd_L5 l (i : Int) = l.getD i ([] : List S201) := by simp [rd_L5]
theorem toIntS (l : List Int) (hl : l.length ≤ 1048576) : Ev (fun k => laws_toIntS.f k l) l := by
  refine evpos (by omega) (evpos (by omega) ?_)
  have := down (n := l.length) (P := fun i => Ev (fun k => laws_toIntS.l0 k l (fl 0 l.length (fun j => l.getD j 0) i) (i : Int)) l) ?_ ?_
  · rw [fl_zero] at this; exact this
  · refine Ev.step (fun k => rfl) (evneg (by omega) ?_)
    rw [fl_all]
    have e := map_range_get l 0 id
    try simp only [id_eq, List.map_id_fun] at e
    rw [e]; exact Ev.now _
  · intro i hi h
    refine Ev.step (fun k => rfl) (evpos (by omega) (evpos (by omega) (evpos (by rw [fl_len]; omega) ?_)))
    rw [w64s (by omega), rd_nat, getD_lt hi, Int.toNat_natCast]
    rw [← fl_set, getD_lt hi] at h
    exact h
theorem eqIntS (l : List Int) (hl : l.length ≤ 4611686018427387904) : Ev (fun k => laws_eqIntS.f k l l) true := by
  refine evpos rfl ?_
  refine down (n := l.length) (P := fun i => Ev (fun k => laws_eqIntS.l0 k l l (i : Int)) true) ?_ ?_
  · exact Ev.step (fun k => rfl) (evneg (by omega) (Ev.now _))
  · intro i hi h
    refine Ev.step (fun k => rfl) (evpos (by omega) (evpos (by omega) (evpos (by omega) (evpos rfl ?_))))
    rw [w64s (by omega)]; exact h
theorem szIntS (l : List Int) (a : Int) (hl : l.length ≤ maxLen) (h0 : 0 ≤ a) (h1 : a ≤ 1048576) : laws_szIntS.f l a = some (if a < l.length then -1 else a - l.length) := by
  unfold maxLen at hl
  unfold laws_szIntS.f
  rw [w64 (by omega) (by omega)]
  split <;> split <;> first | rfl | omega
theorem szIntSS (l0 : List (List Int)) (a : Int) (hl0 : (l0.length ≤ maxLen ∧ ∀ y0 ∈ l0, y0.length ≤ maxLen)) (h0 : 0 ≤ a) (h1 : a ≤ 1048576) : ∃ r, Ev (fun k => laws_szIntSS.f k l0 a) r ∧ r ≤ a ∧ (0 ≤ r → (l0.length ≤ 1048576 ∧ ∀ y0 ∈ l0, y0.length ≤ 1048576)) := by
  obtain ⟨hl, hs⟩ := hl0
  unfold maxLen at hl
  have hw : wrap64 (a - (l0.length : Int)) = a - l0.length := w64 (by omega) (by omega)
  by_cases c : a - (l0.length : Int) < 0
  · exact ⟨-1, evpos (by rw [hw]; exact c) (Ev.now _), by omega, by omega⟩
  have main := down (n := l0.length) (P := fun i => ∀ b : Int, 0 ≤ b → b ≤ a → ∃ r, Ev (fun k => laws_szIntSS.l0 k l0 b (i : Int)) r ∧ r ≤ b ∧ (0 ≤ r → ∀ y ∈ l0.drop i, y.length ≤ 1048576)) ?_ ?_
  · obtain ⟨r, e, e1, e2⟩ := main (a - l0.length) (by omega) (by omega)
    refine ⟨r, evneg (by rw [hw]; exact c) (by rw [hw]; exact e), by omega, fun h => ⟨by omega, by simpa using e2 h⟩⟩
  · intro b b0 _
    exact ⟨b, Ev.step (fun k => rfl) (evneg (by omega) (Ev.now _)), by omega, fun _ y hy => by simp at hy⟩
  · intro i hi ih b b0 b1
    have hm := hs _ (List.getElem_mem hi)
    have hd : ∀ y ∈ l0.drop i, y = l0[i] ∨ y ∈ l0.drop (i + 1) := by
      intro y hy
      rw [List.drop_eq_getElem_cons hi] at hy
      exact List.mem_cons.1 hy
    have e0 := szIntS l0[i] b hm b0 (by omega)
    by_cases c2 : b < (l0[i].length : Int)
    · refine ⟨-1, Ev.step (fun k => rfl) (evpos (by omega) (evpos (by omega) ?_)), by omega, by omega⟩
      rw [rdL1n, getD_lt hi]
      rw [if_pos c2] at e0
      exact evlet e0 (evpos (by omega) (Ev.now _))
    · obtain ⟨r, e, e1, e2⟩ := ih (b - l0[i].length) (by omega) (by omega)
      refine ⟨r, Ev.step (fun k => rfl) (evpos (by omega) (evpos (by omega) ?_)), by omega, fun h y hy => ?_⟩
      · rw [rdL1n, getD_lt hi]
        rw [if_neg c2] at e0
        refine evlet e0 (evneg (by omega) ?_)
        rw [w64s (by omega)]; exact e
      · rcases hd y hy with rfl | hy
        · omega
        · exact e2 h y hy
theorem szShot (l0_0 : List (List Int)) (a : Int) (hl0_0 : (l0_0.length ≤ maxLen ∧ ∀ y0 ∈ l0_0, y0.length ≤ maxLen)) (h0 : 0 ≤ a) (h1 : a ≤ 1048576) : ∃ r, Ev (fun k => laws_szShot.f k l0_0 a) r ∧ r ≤ a ∧ (0 ≤ r → (l0_0.length ≤ 1048576 ∧ ∀ y0 ∈ l0_0, y0.length ≤ 1048576)) := by
  obtain ⟨q0, e0, l0, s0⟩ := szIntSS l0_0 a hl0_0 (by omega) (by omega)
  by_cases c0 : q0 < 0
  · exact ⟨-1, Ev.bind e0 (evpos c0 (Ev.now _)), by omega, by omega⟩
  exact ⟨q0, Ev.bind e0 (evneg c0 (Ev.now _)), by omega, fun _ => s0 (by omega)⟩
theorem szShotS (l0 : List (S201)) (a : Int) (hl0 : (l0.length ≤ maxLen ∧ ∀ y0 ∈ l0, (y0.f0.length ≤ maxLen ∧ ∀ y1 ∈ y0.f0, y1.length ≤ maxLen))) (h0 : 0 ≤ a) (h1 : a ≤ 1048576) : ∃ r, Ev (fun k => laws_szShotS.f k l0 a) r ∧ r ≤ a ∧ (0 ≤ r → (l0.length ≤ 1048576 ∧ ∀ y0 ∈ l0, (y0.f0.length ≤ 1048576 ∧ ∀ y1 ∈ y0.f0, y1.length ≤ 1048576))) := by
  obtain ⟨hl, hs⟩ := hl0
  unfold maxLen at hl
  have hw : wrap64 (a - (l0.length : Int)) = a - l0.length := w64 (by omega) (by omega)
  by_cases c : a - (l0.length : Int) < 0
  · exact ⟨-1, evpos (by rw [hw]; exact c) (Ev.now _), by omega, by omega⟩
  have main := down (n := l0.length) (P := fun i => ∀ b : Int, 0 ≤ b → b ≤ a → ∃ r, Ev (fun k => laws_szShotS.l0 k l0 b (i : Int)) r ∧ r ≤ b ∧ (0 ≤ r → ∀ y ∈ l0.drop i, (y.f0.length ≤ 1048576 ∧ ∀ y1 ∈ y.f0, y1.length ≤ 1048576))) ?_ ?_
  · obtain ⟨r, e, e1, e2⟩ := main (a - l0.length) (by omega) (by omega)
    refine ⟨r, evneg (by rw [hw]; exact c) (by rw [hw]; exact e), by omega, fun h => ⟨by omega, by simpa using e2 h⟩⟩
  · intro b b0 _
    exact ⟨b, Ev.step (fun k => rfl) (evneg (by omega) (Ev.now _)), by omega, fun _ y hy => by simp at hy⟩
  · intro i hi ih b b0 b1
    have hm := hs _ (List.getElem_mem hi)
    have hd : ∀ y ∈ l0.drop i, y = l0[i] ∨ y ∈ l0.drop (i + 1) := by
      intro y hy
      rw [List.drop_eq_getElem_cons hi] at hy
      exact List.mem_cons.1 hy
    obtain ⟨q, q0, q1, q2⟩ := szShot _ b hm b0 (by omega)
    by_cases c2 : q < 0
    · refine ⟨-1, Ev.step (fun k => rfl) (evpos (by omega) (evpos (by omega) ?_)), by omega, by omega⟩
      rw [rdT201, getD_lt hi]
      exact Ev.bind q0 (evpos c2 (Ev.now _))
    · obtain ⟨r, e, e1, e2⟩ := ih q (by omega) (by omega)
      refine ⟨r, Ev.step (fun k => rfl) (evpos (by omega) (evpos (by omega) ?_)), by omega, fun h y hy => ?_⟩
      · rw [rdT201, getD_lt hi]
        refine Ev.bind q0 (evneg c2 ?_)
        rw [w64s (by omega)]; exact e
      · rcases hd y hy with rfl | hy
        · exact q2 (by omega)
        · exact e2 h y hy
theorem szClip (a0_0 : Int) (a0_1 : Int) (l0_2 : List (S201)) (a : Int) (hl0_2 : (l0_2.length ≤ maxLen ∧ ∀ y0 ∈ l0_2, (y0.f0.length ≤ maxLen ∧ ∀ y1 ∈ y0.f0, y1.length ≤ maxLen))) (h0 : 0 ≤ a) (h1 : a ≤ 1048576) : ∃ r, Ev (fun k => laws_szClip.f k a0_0 a0_1 l0_2 a) r ∧ r ≤ a ∧ (0 ≤ r → (l0_2.length ≤ 1048576 ∧ ∀ y0 ∈ l0_2, (y0.f0.length ≤ 1048576 ∧ ∀ y1 ∈ y0.f0, y1.length ≤ 1048576))) := by
  obtain ⟨q0, e0, l0, s0⟩ := szShotS l0_2 a hl0_2 (by omega) (by omega)
  by_cases c0 : q0 < 0
  · exact ⟨-1, Ev.bind e0 (evpos c0 (Ev.now _)), by omega, by omega⟩
  exact ⟨q0, Ev.bind e0 (evneg c0 (Ev.now _)), by omega, fun _ => s0 (by omega)⟩
theorem toIntSS (l : List (List Int)) (hl : (l.length ≤ 1048576 ∧ ∀ y0 ∈ l, y0.length ≤ 1048576)) : Ev (fun k => laws_toIntSS.f k l) (l) := by
  obtain ⟨hl, hs⟩ := hl
  refine evpos (by omega) (evpos (by omega) ?_)
  have := down (n := l.length) (P := fun i => Ev (fun k => laws_toIntSS.l0 k l (fl [] l.length (fun j => (l.getD j [])) i) (i : Int)) (l)) ?_ ?_
  · rw [fl_zero] at this; exact this
  · refine Ev.step (fun k => rfl) (evneg (by omega) ?_)
    rw [fl_all]
    have e := map_range_get l [] (id)
    try simp only [id_eq, List.map_id_fun] at e
    rw [e]; exact Ev.now _
  · intro i hi h
    have hm := hs _ (List.getElem_mem hi)
    refine Ev.step (fun k => rfl) (evpos (by omega) (evpos (by omega) ?_))
    rw [rdL1n, getD_lt hi]
    refine Ev.bind (toIntS _ hm) (evpos (by rw [fl_len]; omega) ?_)
    rw [w64s (by omega), Int.toNat_natCast]
    rw [← fl_set, getD_lt hi] at h
    exact h
theorem toShot (l0_0 : List (List Int)) (hl0_0 : (l0_0.length ≤ 1048576 ∧ ∀ y0 ∈ l0_0, y0.length ≤ 1048576)) : Ev (fun k => laws_toShot.f k l0_0) (l0_0) :=
  Ev.bind (toIntSS l0_0 hl0_0) (Ev.now _)
def cv201 (y : S201) : S166 := (⟨y.f0⟩ : S166)
theorem toShotS (l : List (S201)) (hl : (l.length ≤ 1048576 ∧ ∀ y0 ∈ l, (y0.f0.length ≤ 1048576 ∧ ∀ y1 ∈ y0.f0, y1.length ≤ 1048576))) : Ev (fun k => laws_toShotS.f k l) (l.map cv201) := by
  obtain ⟨hl, hs⟩ := hl
  refine evpos (by omega) (evpos (by omega) ?_)
  have := down (n := l.length) (P := fun i => Ev (fun k => laws_toShotS.l0 k l (fl z166 l.length (fun j => cv201 (l.getD j z201)) i) (i : Int)) (l.map cv201)) ?_ ?_
  · rw [fl_zero] at this; exact this
  · refine Ev.step (fun k => rfl) (evneg (by omega) ?_)
    rw [fl_all]
    have e := map_range_get l z201 (cv201)
    try simp only [id_eq, List.map_id_fun] at e
    rw [e]; exact Ev.now _
  · intro i hi h
    have hm := hs _ (List.getElem_mem hi)
    refine Ev.step (fun k => rfl) (evpos (by omega) (evpos (by omega) ?_))
    rw [rdT201, getD_lt hi]
    refine Ev.bind (toShot _ hm) (evpos (by rw [fl_len]; omega) ?_)
    rw [w64s (by omega), Int.toNat_natCast]
    rw [← fl_set, getD_lt hi] at h
    exact h
theorem toClip (a0_0 : Int) (a0_1 : Int) (l0_2 : List (S201)) (hl0_2 : (l0_2.length ≤ 1048576 ∧ ∀ y0 ∈ l0_2, (y0.f0.length ≤ 1048576 ∧ ∀ y1 ∈ y0.f0, y1.length ≤ 1048576))) : Ev (fun k => laws_toClip.f k a0_0 a0_1 l0_2) (a0_0, a0_1, (l0_2.map cv201)) :=
  Ev.bind (toShotS l0_2 hl0_2) (Ev.now _)
theorem eqIntSS (l : List (List Int)) (hl : (l.length ≤ 4611686018427387904 ∧ ∀ y0 ∈ l, y0.length ≤ 4611686018427387904)) : Ev (fun k => laws_eqIntSS.f k l l) true := by
  obtain ⟨hl, hs⟩ := hl
  refine evpos rfl ?_
  refine down (n := l.length) (P := fun i => Ev (fun k => laws_eqIntSS.l0 k l l (i : Int)) true) ?_ ?_
  · exact Ev.step (fun k => rfl) (evneg (by omega) (Ev.now _))
  · intro i hi h
    have hm := hs _ (List.getElem_mem hi)
    refine Ev.step (fun k => rfl) (evpos (by omega) (evpos (by omega) (evpos (by omega) ?_)))
    rw [rdL1n, getD_lt hi, w64s (by omega)]
    exact Ev.bind (eqIntS _ hm) (evpos rfl h)
theorem eqShot (l0_0 : List (List Int)) (hl0_0 : (l0_0.length ≤ 4611686018427387904 ∧ ∀ y0 ∈ l0_0, y0.length ≤ 4611686018427387904)) : Ev (fun k => laws_eqShot.f k l0_0 l0_0) true :=
  Ev.bind (eqIntSS l0_0 hl0_0) (evpos rfl (Ev.now _))
theorem eqShotS (l : List (S166)) (hl : (l.length ≤ 4611686018427387904 ∧ ∀ y0 ∈ l, (y0.f0.length ≤ 4611686018427387904 ∧ ∀ y1 ∈ y0.f0, y1.length ≤ 4611686018427387904))) : Ev (fun k => laws_eqShotS.f k l l) true := by
  obtain ⟨hl, hs⟩ := hl
  refine evpos rfl ?_
  refine down (n := l.length) (P := fun i => Ev (fun k => laws_eqShotS.l0 k l l (i : Int)) true) ?_ ?_
  · exact Ev.step (fun k => rfl) (evneg (by omega) (Ev.now _))
  · intro i hi h
    have hm := hs _ (List.getElem_mem hi)
    refine Ev.step (fun k => rfl) (evpos (by omega) (evpos (by omega) (evpos (by omega) ?_)))
    rw [rdT166, getD_lt hi, w64s (by omega)]
    exact Ev.bind (eqShot _ hm) (evpos rfl h)
theorem eqClip (a0_0 : Int) (a0_1 : Int) (l0_2 : List (S166)) (hl0_2 : (l0_2.length ≤ 4611686018427387904 ∧ ∀ y0 ∈ l0_2, (y0.f0.length ≤ 4611686018427387904 ∧ ∀ y1 ∈ y0.f0, y1.length ≤ 4611686018427387904))) : Ev (fun k => laws_eqClip.f k a0_0 a0_1 l0_2 a0_0 a0_1 l0_2) true :=
  evpos rfl (evpos rfl (Ev.bind (eqShotS l0_2 hl0_2) (evpos rfl (Ev.now _))))
/-- numbers in 0..255, n of them -/
def inb (l : List Int) : Bool := l.all fun x => decide (0 ≤ x ∧ x ≤ 255)
theorem in_spec (l : List Int) (n : Int) (hl : l.length ≤ 1048576) : Ev (fun k => spec_l13In.f k l n) (inb l && decide ((l.length : Int) = n)) := by
  have := down (n := l.length) (P := fun i => Ev (fun k => spec_l13In.l0 k l n l (l.length : Int) (i : Int)) ((l.drop i).all (fun x => decide (0 ≤ x ∧ x ≤ 255)) && decide ((l.length : Int) = n))) ?_ ?_
  · exact this
  · refine Ev.step (fun k => rfl) (evneg (by omega) ?_)
    rw [drop_end_all, Bool.true_and]
    have e : ((l.length : Int) == n) = decide ((l.length : Int) = n) := by rw [Bool.eq_iff_iff]; simp
    rw [e]; exact Ev.now _
  · intro i hi h
    refine Ev.step (fun k => rfl) (evpos (by omega) (evpos (by omega) (evpos (by omega) ?_)))
    rw [rd_nat, getD_lt hi, w64s (by omega), drop_all hi]
    by_cases h1 : l[i] < 0
    · rw [show decide (0 ≤ l[i] ∧ l[i] ≤ 255) = false from decide_eq_false (by omega)]; simp only [Bool.false_and]; exact evpos h1 (Ev.now _)
    refine evneg h1 ?_
    by_cases h2 : l[i] > 255
    · rw [show decide (0 ≤ l[i] ∧ l[i] ≤ 255) = false from decide_eq_false (by omega)]; simp only [Bool.false_and]; exact evpos h2 (Ev.now _)
    refine evneg h2 ?_
    rw [show decide (0 ≤ l[i] ∧ l[i] ≤ 255) = true from decide_eq_true (by omega), Bool.true_and]; exact h
theorem range_impl (l : List Int) (m : Int) (hl : l.length ≤ 1048576) (hm : (l.length : Int) ≤ m) : Ev (fun k => impl_zrange.f k l 0 255 m) (inb l) := by
  refine evneg (by omega) ?_
  have := down (n := l.length) (P := fun i => Ev (fun k => impl_zrange.l0 k 0 255 l (l.length : Int) (i : Int)) ((l.drop i).all (fun x => decide (0 ≤ x ∧ x ≤ 255)))) ?_ ?_
  · exact this
  · refine Ev.step (fun k => rfl) (evneg (by omega) ?_)
    rw [drop_end_all]; exact Ev.now _
  · intro i hi h
    refine Ev.step (fun k => rfl) (evpos (by omega) (evpos (by omega) (evpos (by omega) ?_)))
    rw [rd_nat, getD_lt hi, w64s (by omega), drop_all hi]
    by_cases h1 : l[i] < 0
    · rw [show decide (0 ≤ l[i] ∧ l[i] ≤ 255) = false from decide_eq_false (by omega)]; simp only [Bool.false_and]; exact evpos h1 (Ev.now _)
    refine evneg h1 ?_
    by_cases h2 : l[i] > 255
    · rw [show decide (0 ≤ l[i] ∧ l[i] ≤ 255) = false from decide_eq_false (by omega)]; simp only [Bool.false_and]; exact evpos h2 (Ev.now _)
    refine evneg h2 ?_
    rw [show decide (0 ≤ l[i] ∧ l[i] ≤ 255) = true from decide_eq_true (by omega), Bool.true_and]; exact h
def sides (w h : Int) : Prop := 8 ≤ w ∧ w ≤ 64 ∧ 8 ≤ h ∧ h ≤ 64 ∧ w % 8 = 0 ∧ h % 8 = 0
theorem sides_or (w h : Int) : (sides w h ∧ spec_l14Sides.f w h = some true ∧ impl_zsides.f w h = some true) ∨ (spec_l14Sides.f w h = some false ∧ impl_zsides.f w h = some false) := by
  unfold spec_l14Sides.f impl_zsides.f sides
  have tw : 8 ≤ w → Int.tmod w 8 = w % 8 := fun h => Int.tmod_eq_emod_of_nonneg (by omega)
  have th : 8 ≤ h → Int.tmod h 8 = h % 8 := fun h => Int.tmod_eq_emod_of_nonneg (by omega)
  by_cases c1 : w ≥ 8
  · by_cases c3 : h ≥ 8
    · rw [tw c1, th c3]
      by_cases c2 : w ≤ 64 <;> by_cases c4 : h ≤ 64 <;> by_cases c5 : w % 8 = 0 <;> by_cases c6 : h % 8 = 0 <;> simp [c1, c2, c3, c4, c5, c6] <;> omega
    · right
      by_cases c2 : w ≤ 64 <;> by_cases c5 : Int.tmod w 8 = 0 <;> by_cases c6 : Int.tmod h 8 = 0 <;> simp [c1, c2, c3, c5, c6]
  · right
    by_cases c5 : Int.tmod w 8 = 0 <;> by_cases c6 : Int.tmod h 8 = 0 <;> simp [c1, c5, c6]
theorem prod_bd {w h : Int} (s : sides w h) : 64 ≤ w * h ∧ w * h ≤ 4096 := by
  obtain ⟨a, b, c, d, _⟩ := s
  have h1 : 8 * 8 ≤ w * h := Int.mul_le_mul a c (by omega) (by omega)
  have h2 : w * h ≤ 64 * 64 := Int.mul_le_mul b d (by omega) (by omega)
  omega
/-- one shot's planes: the program's answer, and what the reference goes on with -/
theorem shot_both (w h : Int) (s : sides w h) (L : List S166) (i : Nat) (pl : List (List Int)) (hp : pl.length ≤ 1048576 ∧ ∀ y ∈ pl, y.length ≤ 1048576) :
    ∃ b, Ev (fun k => impl_zshot.l0 k w h pl (pl.length : Int) 0) b ∧ (b = true → ∀ r, Ev (fun k => spec_GoodClip.l0 k L (L.length : Int) (wrap64 ((i : Int) + 1)) w h L) r → Ev (fun k => spec_GoodClip.l1 k L (L.length : Int) (i : Int) pl (pl.length : Int) 0 w h L) r) ∧ (b = false → Ev (fun k => spec_GoodClip.l1 k L (L.length : Int) (i : Int) pl (pl.length : Int) 0 w h L) false) := by
  obtain ⟨hp1, hp2⟩ := hp
  have bd := prod_bd s
  have e1 : wrap64 (w * h) = w * h := w64 (by omega) (by omega)
  have e2 : wrap64 (Int.tdiv (w * h) 4) = w * h / 4 := by rw [Int.tdiv_eq_ediv_of_nonneg (by omega), w64 (by omega) (by omega)]
  refine down (n := pl.length) (P := fun j => ∃ b, Ev (fun k => impl_zshot.l0 k w h pl (pl.length : Int) (j : Int)) b ∧ (b = true → ∀ r, Ev (fun k => spec_GoodClip.l0 k L (L.length : Int) (wrap64 ((i : Int) + 1)) w h L) r → Ev (fun k => spec_GoodClip.l1 k L (L.length : Int) (i : Int) pl (pl.length : Int) (j : Int) w h L) r) ∧ (b = false → Ev (fun k => spec_GoodClip.l1 k L (L.length : Int) (i : Int) pl (pl.length : Int) (j : Int) w h L) false)) ?_ ?_
  · exact ⟨true, Ev.step (fun k => rfl) (evneg (by omega) (Ev.now _)), fun _ r hr => Ev.step (fun k => rfl) (evneg (by omega) hr), fun h => by cases h⟩
  · intro j hj ⟨b, h1, h2, h3⟩
    have hm := hp2 _ (List.getElem_mem hj)
    generalize hq : pl[j] = q at hm
    have er : rd_L1 pl (j : Int) = q := by rw [rdL1n, getD_lt hj, hq]
    -- the size that this plane should have
    have one : ∀ m : Int, 0 ≤ m → (∀ r, Ev (fun k => (spec_l13In.f k q m).bind fun t => (if t = true then (spec_GoodClip.l1 k L (L.length : Int) (i : Int) pl (pl.length : Int) ((j + 1 : Nat) : Int) w h L) else (some false))) r → Ev (fun k => spec_GoodClip.l1 k L (L.length : Int) (i : Int) pl (pl.length : Int) (j : Int) w h L) r) →
        (∀ r, Ev (fun k => if (q.length : Int) = m then ((impl_zrange.f k q 0 255 m).bind fun t => (if t = true then (impl_zshot.l0 k w h pl (pl.length : Int) ((j + 1 : Nat) : Int)) else (some false))) else (some false)) r → Ev (fun k => impl_zshot.l0 k w h pl (pl.length : Int) (j : Int)) r) →
        ∃ b, Ev (fun k => impl_zshot.l0 k w h pl (pl.length : Int) (j : Int)) b ∧ (b = true → ∀ r, Ev (fun k => spec_GoodClip.l0 k L (L.length : Int) (wrap64 ((i : Int) + 1)) w h L) r → Ev (fun k => spec_GoodClip.l1 k L (L.length : Int) (i : Int) pl (pl.length : Int) (j : Int) w h L) r) ∧ (b = false → Ev (fun k => spec_GoodClip.l1 k L (L.length : Int) (i : Int) pl (pl.length : Int) (j : Int) w h L) false) := by
      intro m m0 hs hi
      by_cases c : (q.length : Int) = m
      · cases hin : inb q with
        | true =>
          refine ⟨b, hi _ (evpos c (Ev.bind (range_impl q m hm (by omega)) (by rw [hin]; exact evpos rfl h1))), fun hb r hr => ?_, fun hb => ?_⟩
          · refine hs _ (Ev.bind (in_spec q m hm) ?_)
            rw [hin, decide_eq_true c]
            exact evpos rfl (h2 hb r hr)
          · refine hs _ (Ev.bind (in_spec q m hm) ?_)
            rw [hin, decide_eq_true c]
            exact evpos rfl (h3 hb)
        | false =>
          refine ⟨false, hi _ (evpos c (Ev.bind (range_impl q m hm (by omega)) (by rw [hin]; exact evneg (by simp) (Ev.now _)))), fun hb => (by cases hb), fun _ => ?_⟩
          refine hs _ (Ev.bind (in_spec q m hm) ?_)
          rw [hin]; exact evneg (by simp) (Ev.now _)
      · refine ⟨false, hi _ (evneg c (Ev.now _)), fun hb => (by cases hb), fun _ => ?_⟩
        refine hs _ (Ev.bind (in_spec q m hm) ?_)
        rw [decide_eq_false c, Bool.and_false]; exact evneg (by simp) (Ev.now _)
    by_cases j0 : (j : Int) > 0
    · refine one (w * h / 4) (by omega) (fun r hr => ?_) (fun r hr => ?_)
      · refine Ev.step (fun k => rfl) (evpos (by omega) (evpos (by omega) (evpos (by omega) (evpos j0 ?_))))
        rw [er, e1, e2, w64s (by omega)]; exact hr
      · refine Ev.step (fun k => rfl) (evpos (by omega) (evpos (by omega) (evpos (by omega) (evpos j0 ?_))))
        rw [er, e1, e2, w64s (by omega)]; exact hr
    · refine one (w * h) (by omega) (fun r hr => ?_) (fun r hr => ?_)
      · refine Ev.step (fun k => rfl) (evpos (by omega) (evpos (by omega) (evpos (by omega) (evneg j0 ?_))))
        rw [er, e1, w64s (by omega)]; exact hr
      · refine Ev.step (fun k => rfl) (evpos (by omega) (evpos (by omega) (evpos (by omega) (evneg j0 ?_))))
        rw [er, e1, w64s (by omega)]; exact hr
theorem clip_both (w h : Int) (L : List S166) (hL : L.length ≤ 1048576 ∧ ∀ y ∈ L, (y.f0.length ≤ 1048576 ∧ ∀ z ∈ y.f0, z.length ≤ 1048576)) : ∃ r, Ev (fun k => spec_GoodClip.f k w h L) r ∧ Ev (fun k => impl_GoodClip.f k w h L) r := by
  obtain ⟨hL1, hL2⟩ := hL
  have t1 : Ev (fun k => spec_GoodClip.j0 k true w h L) false := Ev.step (f := fun _ => some false) (fun k => by simp only [spec_GoodClip.j0, if_true]) (Ev.now _)
  have t2 : Ev (fun k => impl_GoodClip.j0 k true w h L) false := Ev.step (f := fun _ => some false) (fun k => by simp only [impl_GoodClip.j0, if_true]) (Ev.now _)
  rcases sides_or w h with ⟨s, o1, o2⟩ | ⟨o1, o2⟩
  case inr => exact ⟨false, evlet o1 (evneg (by simp) t1), evlet o2 (evneg (by simp) t2)⟩
  by_cases c1 : (L.length : Int) < 1
  · exact ⟨false, evlet o1 (evpos rfl (evpos c1 t1)), evlet o2 (evpos rfl (evpos c1 t2))⟩
  by_cases c2 : (L.length : Int) > 24
  · exact ⟨false, evlet o1 (evpos rfl (evneg c1 (evpos c2 t1))), evlet o2 (evpos rfl (evneg c1 (evpos c2 t2)))⟩
  by_cases c3 : wrap64 (wrap64 ((L.length : Int) * w) * h) > 8192
  · refine ⟨false, evlet o1 (evpos rfl (evneg c1 (evneg c2 ?_))), evlet o2 (evpos rfl (evneg c1 (evneg c2 ?_)))⟩
    · rw [decide_eq_true c3]; exact t1
    · rw [decide_eq_true c3]; exact t2
  have main := down (n := L.length) (P := fun i => ∃ r, Ev (fun k => spec_GoodClip.l0 k L (L.length : Int) (i : Int) w h L) r ∧ Ev (fun k => impl_GoodClip.l0 k L (L.length : Int) (i : Int) w h L) r) ?_ ?_
  · obtain ⟨r, h1, h2⟩ := main
    refine ⟨r, evlet o1 (evpos rfl (evneg c1 (evneg c2 ?_))), evlet o2 (evpos rfl (evneg c1 (evneg c2 ?_)))⟩
    · rw [decide_eq_false c3]; exact Ev.step (f := fun k => spec_GoodClip.l0 k L (L.length : Int) 0 w h L) (fun k => by simp only [spec_GoodClip.j0, Bool.false_eq_true, if_false]) h1
    · rw [decide_eq_false c3]; exact Ev.step (f := fun k => impl_GoodClip.l0 k L (L.length : Int) 0 w h L) (fun k => by simp only [impl_GoodClip.j0, Bool.false_eq_true, if_false]) h2
  · exact ⟨true, Ev.step (fun k => rfl) (evneg (by omega) (Ev.now _)), Ev.step (fun k => rfl) (evneg (by omega) (Ev.now _))⟩
  · intro i hi ⟨r, h1, h2⟩
    have hm := hL2 _ (List.getElem_mem hi)
    have er : rd_T166 L (i : Int) = L[i] := by rw [rdT166, getD_lt hi]
    generalize hq : L[i] = q at hm er
    rw [← w64s (by omega)] at h1
    have spec_at : ∀ r, Ev (fun k => if (q.f0.length : Int) = 3 then (spec_GoodClip.l1 k L (L.length : Int) (i : Int) q.f0 (q.f0.length : Int) 0 w h L) else (some false)) r → Ev (fun k => spec_GoodClip.l0 k L (L.length : Int) (i : Int) w h L) r := by
      intro r hr
      refine Ev.step (fun k => rfl) (evpos (by omega) (evpos (by omega) (evpos (by omega) ?_)))
      rw [er]; exact hr
    have impl_at : ∀ r, Ev (fun k => (if (q.f0.length : Int) = 3 then (impl_zshot.l0 k w h q.f0 (q.f0.length : Int) 0) else (some false)).bind fun t => (if t = true then (impl_GoodClip.l0 k L (L.length : Int) ((i + 1 : Nat) : Int) w h L) else (some false))) r → Ev (fun k => impl_GoodClip.l0 k L (L.length : Int) (i : Int) w h L) r := by
      intro r hr
      refine Ev.step (fun k => rfl) (evpos (by omega) (evpos (by omega) (evpos (by omega) ?_)))
      rw [er, w64s (by omega)]; exact hr
    by_cases c : (q.f0.length : Int) = 3
    · obtain ⟨b, b1, b2, b3⟩ := shot_both w h s L i q.f0 hm
      cases b with
      | true => exact ⟨r, spec_at _ (evpos c (b2 rfl r h1)), impl_at _ (Ev.bind (evpos c b1) (evpos rfl h2))⟩
      | false => exact ⟨false, spec_at _ (evpos c (b3 rfl)), impl_at _ (Ev.bind (evpos c b1) (evneg (by simp) (Ev.now _)))⟩
    · exact ⟨false, spec_at _ (evneg c (Ev.now _)), impl_at _ (Ev.bind (a := false) (evneg c (Ev.now _)) (evneg (by simp) (Ev.now _)))⟩
theorem FnExactGoodClip : laws_FnExactGoodClip.Pure := by
  intro w h L ⟨_, _, hl, hm⟩
  refine Ev.rounds ?_
  obtain ⟨r, s0, s1, s2⟩ := szClip w h L 1048576 ⟨hl, fun y hy => ⟨(hm y hy).1, fun z hz => ((hm y hy).2 z hz).1⟩⟩ (by omega) (by omega)
  by_cases c : r < 0
  · exact Ev.bind s0 (evpos c (Ev.now _))
  have sm := s2 (by omega)
  have t := toClip w h L sm
  have sm' : (L.map cv201).length ≤ 1048576 ∧ ∀ y ∈ L.map cv201, (y.f0.length ≤ 1048576 ∧ ∀ z ∈ y.f0, z.length ≤ 1048576) := by
    refine ⟨by simpa using sm.1, fun y hy => ?_⟩
    obtain ⟨x, hx, rfl⟩ := List.mem_map.1 hy
    exact sm.2 x hx
  obtain ⟨q, h1, h2⟩ := clip_both w h (L.map cv201) sm'
  have eq := eqClip w h (L.map cv201) ⟨by omega, fun y hy => ⟨by have := (sm'.2 y hy).1; omega, fun z hz => by have := (sm'.2 y hy).2 z hz; omega⟩⟩
  exact Ev.bind s0 (evneg c (Ev.bind t (Ev.bind h1 (Ev.bind t (Ev.bind h2 (evneg (by simp) (Ev.bind t (Ev.bind eq (evpos rfl (Ev.now _))))))))))
end Go.Proofs.Ytglaedjadlappaa.Pure

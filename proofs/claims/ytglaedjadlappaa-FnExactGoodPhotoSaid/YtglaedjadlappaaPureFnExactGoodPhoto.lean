/- FnExactGoodPhoto: for every photo the program's GoodPhoto answers what the reference's answers, and writes into no argument. -/
import Derived.Test.YtglaedjadlappaaPFnExactGoodPhotox8
import Derived.Test.YtglaedjadlappaaK
namespace Go.Proofs.Ytglaedjadlappaa.Pure
open Go.RowKit Go.Proofs.Ytglaedjadlappaa.PFnExactGoodPhoto Go.Proofs.Ytglaedjadlappaa.K Go.Proofs.YtglaedjadlappaaW.PrintWords Go.Proofs.YtglaedjadlappaaW.PrintLast Go.Proofs.YtglaedjadlappaaW.PrintMore

theorem rdT217 (l : List S217) (i : Nat) : rd_T217 l (i : Int) = l.getD i z217 := by simp [rd_T217]
theorem rdT111 (l : List S111) (i : Nat) : rd_T111 l (i : Int) = l.getD i z111 := by simp [rd_T111]
theorem rdL1n (l : List (List Int)) (i : Nat) : rd_L1 l (i : Int) = l.getD i ([] : List Int) := by simp [rd_L1]
theorem rdL4n (l : List (List (List Int))) (i : Nat) : rd_L4 l (i : Int) = l.getD i ([] : List (List Int)) := by simp [rd_L4]
theorem toIntS (l : List Int) (hl : l.length ≤ 1048576) : Ev (fun k => laws_toIntS.f k l) l := by
  refine evpos (by omega) (evpos (by omega) ?_)
  have := down (n := l.length) (P := fun i => Ev (fun k => laws_toIntS.l0 k l (fl 0 l.length (fun j => l.getD j 0) i) (i : Int)) l) ?_ ?_
  · rw [fl_zero] at this; exact this
  · refine Ev.step (fun k => rfl) (evneg (by omega) ?_)
    rw [fl_all]
    have e := map_range_get l 0 id
    try simp only [id_eq, List.map_id_fun] at e
    rw [e]; exact Ev.now _
  · intro i hi h
    refine Ev.step (fun k => rfl) (evpos (by omega) (evpos (by omega) (evpos (by rw [fl_len]; omega) ?_)))
    rw [w64s (by omega), rd_nat, getD_lt hi, Int.toNat_natCast]
    rw [← fl_set, getD_lt hi] at h
    exact h
theorem eqIntS (l : List Int) (hl : l.length ≤ 4611686018427387904) : Ev (fun k => laws_eqIntS.f k l l) true := by
  refine evpos rfl ?_
  refine down (n := l.length) (P := fun i => Ev (fun k => laws_eqIntS.l0 k l l (i : Int)) true) ?_ ?_
  · exact Ev.step (fun k => rfl) (evneg (by omega) (Ev.now _))
  · intro i hi h
    refine Ev.step (fun k => rfl) (evpos (by omega) (evpos (by omega) (evpos (by omega) (evpos rfl ?_))))
    rw [w64s (by omega)]; exact h
theorem szIntS (l : List Int) (a : Int) (hl : l.length ≤ maxLen) (h0 : 0 ≤ a) (h1 : a ≤ 1048576) : laws_szIntS.f l a = some (if a < l.length then -1 else a - l.length) := by
  unfold maxLen at hl
  unfold laws_szIntS.f
  rw [w64 (by omega) (by omega)]
  split <;> split <;> first | rfl | omega
theorem szIntSS (l0 : List (List Int)) (a : Int) (hl0 : (l0.length ≤ maxLen ∧ ∀ y0 ∈ l0, y0.length ≤ maxLen)) (h0 : 0 ≤ a) (h1 : a ≤ 1048576) : ∃ r, Ev (fun k => laws_szIntSS.f k l0 a) r ∧ r ≤ a ∧ (0 ≤ r → (l0.length ≤ 1048576 ∧ ∀ y0 ∈ l0, y0.length ≤ 1048576)) := by
  obtain ⟨hl, hs⟩ := hl0
  unfold maxLen at hl
  have hw : wrap64 (a - (l0.length : Int)) = a - l0.length := w64 (by omega) (by omega)
  by_cases c : a - (l0.length : Int) < 0
  · exact ⟨-1, evpos (by rw [hw]; exact c) (Ev.now _), by omega, by omega⟩
  have main := down (n := l0.length) (P := fun i => ∀ b : Int, 0 ≤ b → b ≤ a → ∃ r, Ev (fun k => laws_szIntSS.l0 k l0 b (i : Int)) r ∧ r ≤ b ∧ (0 ≤ r → ∀ y ∈ l0.drop i, y.length ≤ 1048576)) ?_ ?_
  · obtain ⟨r, e, e1, e2⟩ := main (a - l0.length) (by omega) (by omega)
    refine ⟨r, evneg (by rw [hw]; exact c) (by rw [hw]; exact e), by omega, fun h => ⟨by omega, by simpa using e2 h⟩⟩
  · intro b b0 _
    exact ⟨b, Ev.step (fun k => rfl) (evneg (by omega) (Ev.now _)), by omega, fun _ y hy => by simp at hy⟩
  · intro i hi ih b b0 b1
    have hm := hs _ (List.getElem_mem hi)
    have hd : ∀ y ∈ l0.drop i, y = l0[i] ∨ y ∈ l0.drop (i + 1) := by
      intro y hy
      rw [List.drop_eq_getElem_cons hi] at hy
      exact List.mem_cons.1 hy
    have e0 := szIntS l0[i] b hm b0 (by omega)
    by_cases c2 : b < (l0[i].length : Int)
    · refine ⟨-1, Ev.step (fun k => rfl) (evpos (by omega) (evpos (by omega) ?_)), by omega, by omega⟩
      rw [rdL1n, getD_lt hi]
      rw [if_pos c2] at e0
      exact evlet e0 (evpos (by omega) (Ev.now _))
    · obtain ⟨r, e, e1, e2⟩ := ih (b - l0[i].length) (by omega) (by omega)
      refine ⟨r, Ev.step (fun k => rfl) (evpos (by omega) (evpos (by omega) ?_)), by omega, fun h y hy => ?_⟩
      · rw [rdL1n, getD_lt hi]
        rw [if_neg c2] at e0
        refine evlet e0 (evneg (by omega) ?_)
        rw [w64s (by omega)]; exact e
      · rcases hd y hy with rfl | hy
        · omega
        · exact e2 h y hy
theorem szPhoto (a0_0 : Int) (a0_1 : Int) (a0_2 : Int) (a0_3 : Bool) (a0_4 : Bool) (a0_5 : Int) (l0_6 : List (List Int)) (a : Int) (hl0_6 : (l0_6.length ≤ maxLen ∧ ∀ y0 ∈ l0_6, y0.length ≤ maxLen)) (h0 : 0 ≤ a) (h1 : a ≤ 1048576) : ∃ r, Ev (fun k => laws_szPhoto.f k a0_0 a0_1 a0_2 a0_3 a0_4 a0_5 l0_6 a) r ∧ r ≤ a ∧ (0 ≤ r → (l0_6.length ≤ 1048576 ∧ ∀ y0 ∈ l0_6, y0.length ≤ 1048576)) := by
  obtain ⟨q0, e0, l0, s0⟩ := szIntSS l0_6 a hl0_6 (by omega) (by omega)
  by_cases c0 : q0 < 0
  · exact ⟨-1, Ev.bind e0 (evpos c0 (Ev.now _)), by omega, by omega⟩
  exact ⟨q0, Ev.bind e0 (evneg c0 (Ev.now _)), by omega, fun _ => s0 (by omega)⟩
theorem toIntSS (l : List (List Int)) (hl : (l.length ≤ 1048576 ∧ ∀ y0 ∈ l, y0.length ≤ 1048576)) : Ev (fun k => laws_toIntSS.f k l) (l) := by
  obtain ⟨hl, hs⟩ := hl
  refine evpos (by omega) (evpos (by omega) ?_)
  have := down (n := l.length) (P := fun i => Ev (fun k => laws_toIntSS.l0 k l (fl [] l.length (fun j => (l.getD j [])) i) (i : Int)) (l)) ?_ ?_
  · rw [fl_zero] at this; exact this
  · refine Ev.step (fun k => rfl) (evneg (by omega) ?_)
    rw [fl_all]
    have e := map_range_get l [] (id)
    try simp only [id_eq, List.map_id_fun] at e
    rw [e]; exact Ev.now _
  · intro i hi h
    have hm := hs _ (List.getElem_mem hi)
    refine Ev.step (fun k => rfl) (evpos (by omega) (evpos (by omega) ?_))
    rw [rdL1n, getD_lt hi]
    refine Ev.bind (toIntS _ hm) (evpos (by rw [fl_len]; omega) ?_)
    rw [w64s (by omega), Int.toNat_natCast]
    rw [← fl_set, getD_lt hi] at h
    exact h
theorem toPhoto (a0_0 : Int) (a0_1 : Int) (a0_2 : Int) (a0_3 : Bool) (a0_4 : Bool) (a0_5 : Int) (l0_6 : List (List Int)) (hl0_6 : (l0_6.length ≤ 1048576 ∧ ∀ y0 ∈ l0_6, y0.length ≤ 1048576)) : Ev (fun k => laws_toPhoto.f k a0_0 a0_1 a0_2 a0_3 a0_4 a0_5 l0_6) (a0_0, a0_1, a0_2, a0_3, a0_4, a0_5, l0_6) :=
  Ev.bind (toIntSS l0_6 hl0_6) (Ev.now _)
theorem eqIntSS (l : List (List Int)) (hl : (l.length ≤ 4611686018427387904 ∧ ∀ y0 ∈ l, y0.length ≤ 4611686018427387904)) : Ev (fun k => laws_eqIntSS.f k l l) true := by
  obtain ⟨hl, hs⟩ := hl
  refine evpos rfl ?_
  refine down (n := l.length) (P := fun i => Ev (fun k => laws_eqIntSS.l0 k l l (i : Int)) true) ?_ ?_
  · exact Ev.step (fun k => rfl) (evneg (by omega) (Ev.now _))
  · intro i hi h
    have hm := hs _ (List.getElem_mem hi)
    refine Ev.step (fun k => rfl) (evpos (by omega) (evpos (by omega) (evpos (by omega) ?_)))
    rw [rdL1n, getD_lt hi, w64s (by omega)]
    exact Ev.bind (eqIntS _ hm) (evpos rfl h)
theorem eqPhoto (a0_0 : Int) (a0_1 : Int) (a0_2 : Int) (a0_3 : Bool) (a0_4 : Bool) (a0_5 : Int) (l0_6 : List (List Int)) (hl0_6 : (l0_6.length ≤ 4611686018427387904 ∧ ∀ y0 ∈ l0_6, y0.length ≤ 4611686018427387904)) : Ev (fun k => laws_eqPhoto.f k a0_0 a0_1 a0_2 a0_3 a0_4 a0_5 l0_6 a0_0 a0_1 a0_2 a0_3 a0_4 a0_5 l0_6) true :=
  evpos rfl (evpos rfl (evpos rfl (evneg (by simp) (evneg (by simp) (evpos rfl (Ev.bind (eqIntSS l0_6 hl0_6) (evpos rfl (Ev.now _))))))))
/-- numbers in 0..255 -/
def inb (l : List Int) : Bool := l.all fun x => decide (0 ≤ x ∧ x ≤ 255)
theorem plane_spec (l : List Int) (hl : l.length ≤ 1048576) : Ev (fun k => spec_GoodPlane.l0 k l (l.length : Int) 0) (inb l) := by
  have := down (n := l.length) (P := fun i => Ev (fun k => spec_GoodPlane.l0 k l (l.length : Int) (i : Int)) ((l.drop i).all (fun x => decide (0 ≤ x ∧ x ≤ 255)))) ?_ ?_
  · exact this
  · refine Ev.step (fun k => rfl) (evneg (by omega) ?_)
    rw [drop_end_all]; exact Ev.now _
  · intro i hi h
    refine Ev.step (fun k => rfl) (evpos (by omega) (evpos (by omega) (evpos (by omega) ?_)))
    rw [rd_nat, getD_lt hi, w64s (by omega), drop_all hi]
    by_cases h1 : l[i] < 0
    · rw [show decide (0 ≤ l[i] ∧ l[i] ≤ 255) = false from decide_eq_false (by omega)]; simp only [Bool.false_and]; exact evpos h1 (Ev.now _)
    refine evneg h1 ?_
    by_cases h2 : l[i] > 255
    · rw [show decide (0 ≤ l[i] ∧ l[i] ≤ 255) = false from decide_eq_false (by omega)]; simp only [Bool.false_and]; exact evpos h2 (Ev.now _)
    refine evneg h2 ?_
    rw [show decide (0 ≤ l[i] ∧ l[i] ≤ 255) = true from decide_eq_true (by omega), Bool.true_and]; exact h
theorem range_impl (l : List Int) (hl : l.length ≤ 1048576) : Ev (fun k => impl_inRange.f k l 255) (inb l) := by
  have := down (n := l.length) (P := fun i => Ev (fun k => impl_inRange.l0 k 255 l (l.length : Int) (i : Int)) ((l.drop i).all (fun x => decide (0 ≤ x ∧ x ≤ 255)))) ?_ ?_
  · exact this
  · refine Ev.step (fun k => rfl) (evneg (by omega) ?_)
    rw [drop_end_all]; exact Ev.now _
  · intro i hi h
    refine Ev.step (fun k => rfl) (evpos (by omega) (evpos (by omega) (evpos (by omega) ?_)))
    rw [rd_nat, getD_lt hi, w64s (by omega), drop_all hi]
    by_cases h1 : l[i] < 0
    · rw [show decide (0 ≤ l[i] ∧ l[i] ≤ 255) = false from decide_eq_false (by omega)]; simp only [Bool.false_and]; exact evpos h1 (Ev.now _)
    refine evneg h1 ?_
    by_cases h2 : l[i] > 255
    · rw [show decide (0 ≤ l[i] ∧ l[i] ≤ 255) = false from decide_eq_false (by omega)]; simp only [Bool.false_and]; exact evpos h2 (Ev.now _)
    refine evneg h2 ?_
    rw [show decide (0 ≤ l[i] ∧ l[i] ≤ 255) = true from decide_eq_true (by omega), Bool.true_and]; exact h
def sides (w h : Int) : Prop := 1 ≤ w ∧ w ≤ 512 ∧ 1 ≤ h ∧ h ≤ 512 ∧ wrap64 (w * h) ≤ 4096
theorem sides_or (w h : Int) : (sides w h ∧ spec_l7Sides.f w h = some true ∧ impl_goodSides.f w h = some true) ∨ (spec_l7Sides.f w h = some false ∧ impl_goodSides.f w h = some false) := by
  unfold spec_l7Sides.f impl_goodSides.f spec_l4Sides.f impl_goodSide.f sides
  by_cases c1 : w ≥ 1 <;> by_cases c2 : w ≤ 512 <;> by_cases c3 : h ≥ 1 <;> by_cases c4 : h ≤ 512 <;> by_cases c5 : wrap64 (w * h) ≤ 4096 <;> simp [c1, c2, c3, c4, c5] <;> omega
theorem area (w h : Int) (s : sides w h) : 1 ≤ w * h ∧ w * h ≤ 4096 ∧ wrap64 (w * h) = w * h := by
  obtain ⟨a, b, c, d, e⟩ := s
  have h1 : 1 * 1 ≤ w * h := Int.mul_le_mul a c (by omega) (by omega)
  have h2 : w * h ≤ 512 * 512 := Int.mul_le_mul b d (by omega) (by omega)
  have h3 : wrap64 (w * h) = w * h := w64 (by omega) (by omega)
  rw [h3] at e
  exact ⟨by omega, e, h3⟩
/-- a side's units, and how many blocks there are -/
def un (u w : Int) : Int := wrap64 (Int.tdiv (wrap64 (wrap64 (w + u) - 1)) u)
def blk (w h : Int) (half : Bool) (n : Int) : Int := if half = true then wrap64 (wrap64 (un 16 w * un 16 h) * 6) else wrap64 (wrap64 (un 8 w * un 8 h) * n)
theorem cut_spec (w h q : Int) (half steps : Bool) (ev : Int) (L : List (List Int)) (n : Int) (hn : n = 1 ∨ n = 3) :
    ∃ a b, Ev (fun k => spec_l9Cut.f k w h q half steps ev L n) (a, b, un (if half = true then 16 else 8) w, un (if half = true then 16 else 8) h, if half = true then 6 else n) := by
  have loop : ∀ u per : Int, u ≠ 0 → ∃ a b, Ev (fun k => spec_l9Cut.l0 k n u 1 w h q half steps ev L [w] [h] 0 0 per) (a, b, un u w, un u h, per) := by
    intro u per hu
    have := down (n := (n - 1).toNat) (P := fun i => ∀ A B : List Int, A.length = 1 + i → B.length = 1 + i → ∃ a b, Ev (fun k => spec_l9Cut.l0 k n u ((i + 1 : Nat) : Int) w h q half steps ev L A B 0 0 per) (a, b, un u w, un u h, per)) ?_ ?_
    · exact this [w] [h] rfl rfl
    · intro A B _ _
      exact ⟨A, B, Ev.step (fun k => rfl) (evneg (by omega) (evneg hu (Ev.now _)))⟩
    · intro i hi ih A B hA hB
      cases half with
      | true =>
        obtain ⟨a, b, e⟩ := ih (A ++ [wrap64 (Int.tdiv (wrap64 (w + 1)) 2)]) (B ++ [wrap64 (Int.tdiv (wrap64 (h + 1)) 2)]) (by simp; omega) (by simp; omega)
        refine ⟨a, b, Ev.step (fun k => rfl) (evpos (by omega) (evpos (c := true = true) rfl (evpos (by omega) (evpos (by omega) ?_))))⟩
        rw [w64s (by omega)]; exact e
      | false =>
        obtain ⟨a, b, e⟩ := ih (A ++ [w]) (B ++ [h]) (by simp; omega) (by simp; omega)
        refine ⟨a, b, Ev.step (f := fun k => spec_l9Cut.l0 k n u (wrap64 (((i + 1 : Nat) : Int) + 1)) w h q false steps ev L (A ++ [w]) (B ++ [h]) 0 0 per) (fun k => ?_) ?_⟩
        · simp only [spec_l9Cut.l0, Bool.false_eq_true, if_false]
          rw [if_pos (by omega), if_pos (by omega), if_pos (by omega)]
        · rw [w64s (by omega)]; exact e
  cases half with
  | true =>
    obtain ⟨a, b, e⟩ := loop 16 6 (by omega)
    exact ⟨a, b, evlet rfl (evlet rfl (evpos (c := true = true) rfl (Ev.step (fun k => rfl) e)))⟩
  | false =>
    obtain ⟨a, b, e⟩ := loop 8 n (by omega)
    refine ⟨a, b, Ev.congr (f := fun k => spec_l9Cut.j0 k n 8 w h q false steps ev L [w] [h] 0 0 n) (fun k => ?_) (Ev.step (fun k => rfl) e)⟩
    simp only [spec_l9Cut.f, Option.bind_some, Bool.false_eq_true, if_false]
theorem j1_spec (w h q : Int) (half steps : Bool) (ev : Int) (L : List (List Int)) (n : Int) (hn : n = 1 ∨ n = 3) : Ev (fun k => spec_l9Head.j1 k n false w h q half steps ev L) (decide (blk w h half n ≤ 400)) := by
  obtain ⟨a, b, e⟩ := cut_spec w h q half steps ev L n hn
  refine Ev.step (f := fun k => (spec_l9Cut.f k w h q half steps ev L n).bind fun bt133 => ((spec_l9Shape_blocks.f bt133.1 bt133.2.1 bt133.2.2.1 bt133.2.2.2.1 bt133.2.2.2.2).bind fun t142 => (some (decide (t142 ≤ 400))))) (fun k => by simp only [spec_l9Head.j1, Bool.false_eq_true, if_false]) (Ev.bind e ?_)
  refine evlet rfl ?_
  unfold blk
  cases half <;> simp only [Bool.false_eq_true, if_true, if_false] <;> exact Ev.now _
theorem spots_impl (w h q : Int) (half steps : Bool) (ev : Int) (L : List (List Int)) (n : Int) (hn : n = 1 ∨ n = 3) : ∃ l, Ev (fun k => impl_Photo_spots.f k w h q half steps ev L n) l ∧ (l.length : Int) = if half = true then 6 else n := by
  cases half with
  | true => exact ⟨_, evpos (c := true = true) rfl (Ev.now _), rfl⟩
  | false =>
    have := down (n := n.toNat) (P := fun i => ∀ A : List S217, A.length = i → ∃ l, Ev (fun k => impl_Photo_spots.l0 k A n (i : Int)) l ∧ (l.length : Int) = n) ?_ ?_
    · obtain ⟨l, e, hl⟩ := this [] rfl
      exact ⟨l, Ev.congr (f := fun k => impl_Photo_spots.l0 k [] n 0) (fun k => by simp only [impl_Photo_spots.f, Bool.false_eq_true, if_false]) e, by simpa using hl⟩
    · intro A hA
      exact ⟨A, Ev.step (fun k => rfl) (evneg (by omega) (Ev.now _)), by omega⟩
    · intro i hi ih A hA
      obtain ⟨l, e, hl⟩ := ih (A ++ [⟨(i : Int), 0, 0⟩]) (by simp; omega)
      refine ⟨l, Ev.step (fun k => rfl) (evpos (by omega) (evpos (by omega) ?_)), hl⟩
      rw [w64s (by omega)]; exact e
theorem j0_impl (w h q : Int) (half steps : Bool) (ev : Int) (L : List (List Int)) (n : Int) (hn : n = 1 ∨ n = 3) : Ev (fun k => impl_Photo_mayBe.j0 k n false w h q half steps ev L) (decide (blk w h half n ≤ 400)) := by
  obtain ⟨l, e, hl⟩ := spots_impl w h q half steps ev L n hn
  have u : impl_Photo_units.f w h q half steps ev L = some (un (if half = true then 16 else 8) w, un (if half = true then 16 else 8) h) := by
    unfold impl_Photo_units.f impl_Photo_unit.f
    cases half <;> simp [un]
  refine Ev.step (f := fun k => (impl_Photo_units.f w h q half steps ev L).bind fun bt181 => ((impl_Photo_spots.f k w h q half steps ev L n).bind fun t183 => (some (decide ((wrap64 ((wrap64 (bt181.1 * bt181.2)) * (t183.length : Int))) ≤ 400))))) (fun k => by simp only [impl_Photo_mayBe.j0, Bool.false_eq_true, if_false]) (evlet u (Ev.bind e ?_))
  rw [hl]
  unfold blk
  cases half <;> simp only [Bool.false_eq_true, if_true, if_false] <;> exact Ev.now _
theorem head_both (w h q : Int) (half steps : Bool) (ev : Int) (L : List (List Int)) (n : Int) :
    ∃ b, Ev (fun k => spec_l9Head.f k w h q half steps ev L n) b ∧ Ev (fun k => impl_Photo_mayBe.f k w h q half steps ev L n) b ∧ (b = true → sides w h) := by
  have s1 : Ev (fun k => spec_l9Head.j0 k n true w h q half steps ev L) false := Ev.step (f := fun _ => some false) (fun k => by simp only [spec_l9Head.j0, if_true]) (Ev.now _)
  have s2 : Ev (fun k => spec_l9Head.j1 k n true w h q half steps ev L) false := Ev.step (f := fun _ => some false) (fun k => by simp only [spec_l9Head.j1, if_true]) (Ev.now _)
  have i1 : Ev (fun k => impl_Photo_mayBe.j0 k n true w h q half steps ev L) false := Ev.step (f := fun _ => some false) (fun k => by simp only [impl_Photo_mayBe.j0, if_true]) (Ev.now _)
  rcases sides_or w h with ⟨s, o1, o2⟩ | ⟨o1, o2⟩
  case inr => exact ⟨false, evlet o1 (evneg (by simp) s1), evlet o2 (evneg (by simp) i1), fun h => by cases h⟩
  by_cases c1 : q < 1
  · exact ⟨false, evlet o1 (evpos rfl (evpos c1 s1)), evlet o2 (evpos rfl (evpos c1 i1)), fun h => by cases h⟩
  by_cases c2 : q > 100
  · exact ⟨false, evlet o1 (evpos rfl (evneg c1 (evpos c2 s1))), evlet o2 (evpos rfl (evneg c1 (evpos c2 i1))), fun h => by cases h⟩
  by_cases c3 : ev < 0
  · exact ⟨false, evlet o1 (evpos rfl (evneg c1 (evneg c2 (evpos c3 s1)))), evlet o2 (evpos rfl (evneg c1 (evneg c2 (evpos c3 i1)))), fun h => by cases h⟩
  by_cases c4 : ev > 1000
  · refine ⟨false, evlet o1 (evpos rfl (evneg c1 (evneg c2 (evneg c3 ?_)))), evlet o2 (evpos rfl (evneg c1 (evneg c2 (evneg c3 (evpos c4 i1))))), fun h => by cases h⟩
    rw [decide_eq_true c4]; exact s1
  -- behind the numbers: planes, Half, Steps
  have pre1 : ∀ b, Ev (fun k => spec_l9Head.j0 k n false w h q half steps ev L) b → Ev (fun k => spec_l9Head.f k w h q half steps ev L n) b := by
    intro b hb
    refine evlet o1 (evpos rfl (evneg c1 (evneg c2 (evneg c3 ?_))))
    rw [decide_eq_false c4]; exact hb
  have fin : ∀ (g1 : ∀ b, Ev (fun k => spec_l9Head.j1 k n (if steps = true then (ev != 0) else false) w h q half steps ev L) b → Ev (fun k => spec_l9Head.f k w h q half steps ev L n) b)
      (g2 : ∀ b, Ev (fun k => impl_Photo_mayBe.j0 k n (if steps = true then (ev != 0) else false) w h q half steps ev L) b → Ev (fun k => impl_Photo_mayBe.f k w h q half steps ev L n) b), (n = 1 ∨ n = 3) →
      ∃ b, Ev (fun k => spec_l9Head.f k w h q half steps ev L n) b ∧ Ev (fun k => impl_Photo_mayBe.f k w h q half steps ev L n) b ∧ (b = true → sides w h) := by
    intro g1 g2 hn
    cases hb : (if steps = true then (ev != 0) else false) with
    | true => exact ⟨false, g1 _ (by rw [hb]; exact s2), g2 _ (by rw [hb]; exact i1), fun h => by cases h⟩
    | false => exact ⟨_, g1 _ (by rw [hb]; exact j1_spec w h q half steps ev L n hn), g2 _ (by rw [hb]; exact j0_impl w h q half steps ev L n hn), fun _ => s⟩
  by_cases n1 : n = 1
  · cases half with
    | true =>
      refine ⟨false, pre1 _ (Ev.step (f := fun k => spec_l9Head.j1 k n true w h q true steps ev L) (fun k => ?_) s2), evlet o2 (evpos rfl (evneg c1 (evneg c2 (evneg c3 (evneg c4 (evpos n1 ?_)))))), fun h => by cases h⟩
      · simp only [spec_l9Head.j0, Bool.false_eq_true, if_false, if_true]
        rw [if_pos n1, if_neg (by omega)]
      · exact evpos (c := true = true) rfl (evneg (by omega) i1)
    | false =>
      refine fin (fun b hb => pre1 _ ?_) (fun b hb => evlet o2 (evpos rfl (evneg c1 (evneg c2 (evneg c3 (evneg c4 (evpos n1 ?_))))))) (.inl n1)
      · refine Ev.step (f := fun k => spec_l9Head.j1 k n (if steps = true then (ev != 0) else false) w h q false steps ev L) (fun k => ?_) hb
        simp only [spec_l9Head.j0, Bool.false_eq_true, if_false]
        rw [if_pos n1]
        cases steps <;> simp
      · refine Ev.congr (f := fun k => impl_Photo_mayBe.j0 k n (if steps = true then (ev != 0) else false) w h q false steps ev L) (fun k => ?_) hb
        cases steps <;> simp
  · by_cases n3 : n = 3
    · refine fin (fun b hb => pre1 _ ?_) (fun b hb => evlet o2 (evpos rfl (evneg c1 (evneg c2 (evneg c3 (evneg c4 (evneg n1 (evpos n3 ?_)))))))) (.inr n3)
      · refine Ev.step (f := fun k => spec_l9Head.j1 k n (if steps = true then (ev != 0) else false) w h q half steps ev L) (fun k => ?_) hb
        simp only [spec_l9Head.j0, Bool.false_eq_true, if_false]
        rw [if_neg n1, if_pos n3]
        cases steps <;> cases half <;> simp
      · refine Ev.congr (f := fun k => impl_Photo_mayBe.j0 k n (if steps = true then (ev != 0) else false) w h q half steps ev L) (fun k => ?_) hb
        cases steps <;> cases half <;> simp
    · refine ⟨false, pre1 _ (Ev.step (f := fun k => spec_l9Head.j1 k n true w h q half steps ev L) (fun k => ?_) s2), evlet o2 (evpos rfl (evneg c1 (evneg c2 (evneg c3 (evneg c4 (evneg n1 (evneg n3 i1))))))), fun h => by cases h⟩
      simp only [spec_l9Head.j0, Bool.false_eq_true, if_false]
      rw [if_neg n1, if_neg n3]
theorem photo_both (w h q : Int) (half steps : Bool) (ev : Int) (L : List (List Int)) (hL : L.length ≤ 1048576 ∧ ∀ y ∈ L, y.length ≤ 1048576) : ∃ r, Ev (fun k => spec_GoodPhoto.f k w h q half steps ev L) r ∧ Ev (fun k => impl_GoodPhoto.f k w h q half steps ev L) r := by
  obtain ⟨hL1, hL2⟩ := hL
  obtain ⟨b, b1, b2, b3⟩ := head_both w h q half steps ev L (L.length : Int)
  cases b with
  | false => exact ⟨false, Ev.bind b1 (evneg (by simp) (Ev.now _)), Ev.bind b2 (evneg (by simp) (Ev.now _))⟩
  | true =>
    have s := b3 rfl
    have ar := area w h s
    have o1 : spec_l7Sides.f w h = some true := by
      rcases sides_or w h with ⟨_, o, _⟩ | ⟨o1, o2⟩
      · exact o
      · obtain ⟨a, b, c, d, e⟩ := s
        unfold spec_l7Sides.f spec_l4Sides.f
        simp [a, b, c, d, e]
    have main := down (n := L.length) (P := fun i => ∃ r, Ev (fun k => spec_GoodPhoto.l0 k L (L.length : Int) (i : Int) w h q half steps ev L) r ∧ Ev (fun k => impl_GoodPhoto.l0 k L (L.length : Int) (i : Int) w h q half steps ev L) r) ?_ ?_
    · obtain ⟨r, h1, h2⟩ := main
      exact ⟨r, Ev.bind b1 (evpos rfl h1), Ev.bind b2 (evpos rfl h2)⟩
    · exact ⟨true, Ev.step (fun k => rfl) (evneg (by omega) (Ev.now _)), Ev.step (fun k => rfl) (evneg (by omega) (Ev.now _))⟩
    · intro i hi ⟨r, h1, h2⟩
      have hm := hL2 _ (List.getElem_mem hi)
      have er : rd_L1 L (i : Int) = L[i] := by rw [rdL1n, getD_lt hi]
      generalize hq : L[i] = p at hm er
      have spec_at : ∀ r, Ev (fun k => (spec_GoodPlane.j0 k ((p.length : Int) != (wrap64 (w * h))) w h p).bind fun t146 => (if t146 = true then (spec_GoodPhoto.l0 k L (L.length : Int) ((i + 1 : Nat) : Int) w h q half steps ev L) else (some false))) r → Ev (fun k => spec_GoodPhoto.l0 k L (L.length : Int) (i : Int) w h q half steps ev L) r := by
        intro r hr
        refine Ev.step (fun k => rfl) (evpos (by omega) (evpos (by omega) (evpos (by omega) ?_)))
        rw [er, w64s (by omega)]
        refine Ev.congr (fun k => ?_) hr
        simp only [spec_GoodPlane.f, o1, Option.bind_some, if_true]
      have impl_at : ∀ r, Ev (fun k => if (p.length : Int) = (wrap64 (w * h)) then ((impl_inRange.f k p 255).bind fun t189 => (if t189 = true then (impl_GoodPhoto.l0 k L (L.length : Int) ((i + 1 : Nat) : Int) w h q half steps ev L) else (some false))) else (some false)) r → Ev (fun k => impl_GoodPhoto.l0 k L (L.length : Int) (i : Int) w h q half steps ev L) r := by
        intro r hr
        refine Ev.step (fun k => rfl) (evpos (by omega) (evpos (by omega) (evpos (by omega) ?_)))
        rw [er, w64s (by omega)]; exact hr
      have pj : ∀ x, x = true → Ev (fun k => spec_GoodPlane.j0 k x w h p) false := fun x hx => Ev.step (f := fun _ => some false) (fun k => by rw [hx]; simp only [spec_GoodPlane.j0, if_true]) (Ev.now _)
      have pk : ∀ x, x = false → Ev (fun k => spec_GoodPlane.j0 k x w h p) (inb p) := fun x hx => Ev.step (f := fun k => spec_GoodPlane.l0 k p (p.length : Int) 0) (fun k => by rw [hx]; simp only [spec_GoodPlane.j0, Bool.false_eq_true, if_false]) (plane_spec p hm)
      by_cases c : (p.length : Int) = wrap64 (w * h)
      · cases hin : inb p with
        | true => exact ⟨r, spec_at _ (Ev.bind (pk _ (by simpa using c)) (by rw [hin]; exact evpos rfl h1)), impl_at _ (evpos c (Ev.bind (range_impl p hm) (by rw [hin]; exact evpos rfl h2)))⟩
        | false => exact ⟨false, spec_at _ (Ev.bind (pk _ (by simpa using c)) (by rw [hin]; exact evneg (by simp) (Ev.now _))), impl_at _ (evpos c (Ev.bind (range_impl p hm) (by rw [hin]; exact evneg (by simp) (Ev.now _))))⟩
      · exact ⟨false, spec_at _ (Ev.bind (pj _ (by simpa using c)) (evneg (by simp) (Ev.now _))), impl_at _ (evneg c (Ev.now _))⟩
theorem FnExactGoodPhoto : laws_FnExactGoodPhoto.Pure := by
  intro w h q half steps ev L ⟨_, _, _, _, _, _, hl, hm⟩
  refine Ev.rounds ?_
  obtain ⟨r, s0, s1, s2⟩ := szPhoto w h q half steps ev L 1048576 ⟨hl, fun y hy => (hm y hy).1⟩ (by omega) (by omega)
  by_cases c : r < 0
  · exact Ev.bind s0 (evpos c (Ev.now _))
  have sm := s2 (by omega)
  have t := toPhoto w h q half steps ev L sm
  obtain ⟨b, h1, h2⟩ := photo_both w h q half steps ev L sm
  have eq := eqPhoto w h q half steps ev L ⟨by omega, fun y hy => by have := sm.2 y hy; omega⟩
  exact Ev.bind s0 (evneg c (Ev.bind t (Ev.bind h1 (Ev.bind t (Ev.bind h2 (evneg (by simp) (Ev.bind t (Ev.bind eq (evpos rfl (Ev.now _))))))))))
end Go.Proofs.Ytglaedjadlappaa.Pure

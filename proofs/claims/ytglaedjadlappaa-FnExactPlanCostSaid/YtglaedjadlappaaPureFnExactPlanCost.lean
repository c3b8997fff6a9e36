/- FnExactPlanCost: the program's PlanCost answers as the reference at every argument. -/
import Derived.Test.YtglaedjadlappaaPFnExactPlanCostx0
import Derived.Test.YtglaedjadlappaaPFnExactPlanCostx1
import Derived.Test.YtglaedjadlappaaPFnExactPlanCostx2
import Derived.Test.YtglaedjadlappaaPFnExactPlanCostx3
import Derived.Test.YtglaedjadlappaaPFnExactPlanCostx4
import Derived.Test.YtglaedjadlappaaPFnExactPlanCostx5
import Derived.Test.YtglaedjadlappaaPFnExactPlanCostx6
import Derived.Test.YtglaedjadlappaaK
import Derived.Laws.Bits64
namespace Go.Proofs.Ytglaedjadlappaa.Pure
open Go.RowKit Go.Proofs.Ytglaedjadlappaa.PFnExactPlanCost Go.Proofs.Ytglaedjadlappaa.K Go.Proofs.YtglaedjadlappaaW.PrintWords Go.Proofs.YtglaedjadlappaaW.PrintLast Go.Proofs.YtglaedjadlappaaW.PrintMore

theorem rdT60 (l : List S60) (i : Nat) : rd_T60 l (i : Int) = l.getD i z60 := by simp [rd_T60]
theorem rdL1n (l : List (List Int)) (i : Nat) : rd_L1 l (i : Int) = l.getD i ([] : List Int) := by simp [rd_L1]
theorem toIntS (l : List Int) (hl : l.length ≤ 1048576) : Ev (fun k => laws_toIntS.f k l) l := by
  refine evpos (by omega) (evpos (by omega) ?_)
  have := down (n := l.length) (P := fun i => Ev (fun k => laws_toIntS.l0 k l (fl 0 l.length (fun j => l.getD j 0) i) (i : Int)) l) ?_ ?_
  · rw [fl_zero] at this; exact this
  · refine Ev.step (fun k => rfl) (evneg (by omega) ?_)
    rw [fl_all]
    have e := map_range_get l 0 id
    try simp only [id_eq, List.map_id_fun] at e
    rw [e]; exact Ev.now _
  · intro i hi h
    refine Ev.step (fun k => rfl) (evpos (by omega) (evpos (by omega) (evpos (by rw [fl_len]; omega) ?_)))
    rw [w64s (by omega), rd_nat, getD_lt hi, Int.toNat_natCast]
    rw [← fl_set, getD_lt hi] at h
    exact h
theorem eqIntS (l : List Int) (hl : l.length ≤ 4611686018427387904) : Ev (fun k => laws_eqIntS.f k l l) true := by
  refine evpos rfl ?_
  refine down (n := l.length) (P := fun i => Ev (fun k => laws_eqIntS.l0 k l l (i : Int)) true) ?_ ?_
  · exact Ev.step (fun k => rfl) (evneg (by omega) (Ev.now _))
  · intro i hi h
    refine Ev.step (fun k => rfl) (evpos (by omega) (evpos (by omega) (evpos (by omega) (evpos rfl ?_))))
    rw [w64s (by omega)]; exact h
theorem szIntS (l : List Int) (a : Int) (hl : l.length ≤ maxLen) (h0 : 0 ≤ a) (h1 : a ≤ 1048576) : laws_szIntS.f l a = some (if a < l.length then -1 else a - l.length) := by
  unfold maxLen at hl
  unfold laws_szIntS.f
  rw [w64 (by omega) (by omega)]
  split <;> split <;> first | rfl | omega
theorem szPlan (a0_0 : Int) (a0_1 : Int) (l0_2 : List Int) (a : Int) (hl0_2 : l0_2.length ≤ maxLen) (h0 : 0 ≤ a) (h1 : a ≤ 1048576) : ∃ r, Ev (fun _ => laws_szPlan.f a0_0 a0_1 l0_2 a) r ∧ r ≤ a ∧ (0 ≤ r → l0_2.length ≤ 1048576) := by
  have e0 := szIntS l0_2 a hl0_2 (by omega) (by omega)
  by_cases c0 : a < (l0_2.length : Int)
  · rw [if_pos c0] at e0
    exact ⟨-1, evlet e0 (evpos (by omega) (Ev.now _)), by omega, by omega⟩
  rw [if_neg c0] at e0
  exact ⟨(a - l0_2.length), evlet e0 (evneg (by omega) (Ev.now _)), by omega, fun _ => by omega⟩
theorem toPlan (a0_0 : Int) (a0_1 : Int) (l0_2 : List Int) (hl0_2 : l0_2.length ≤ 1048576) : Ev (fun k => laws_toPlan.f k a0_0 a0_1 l0_2) (a0_0, a0_1, l0_2) :=
  Ev.bind (toIntS l0_2 hl0_2) (Ev.now _)
theorem eqPlan (a0_0 : Int) (a0_1 : Int) (l0_2 : List Int) (hl0_2 : l0_2.length ≤ 4611686018427387904) : Ev (fun k => laws_eqPlan.f k a0_0 a0_1 l0_2 a0_0 a0_1 l0_2) true :=
  evpos rfl (evpos rfl (Ev.bind (eqIntS l0_2 hl0_2) (evpos rfl (Ev.now _))))
theorem uw (n : Int) (h0 : 0 ≤ n) (h1 : n < 18446744073709551616) : IntKind.u64.wrap n = n := by rw [IntKind.wrap_u64]; omega
theorem shl1 (b : Nat) (hb : b ≤ 4) : shl .i64 1 (b : Int) = ((2 ^ b : Nat) : Int) := by
  have : b = 0 ∨ b = 1 ∨ b = 2 ∨ b = 3 ∨ b = 4 := by omega
  rcases this with rfl | rfl | rfl | rfl | rfl <;> (unfold shl; rw [IntKind.wrap_i64]; rfl)
theorem shr_i (x b : Nat) (hb : b ≤ 64) : shr .i64 (x : Int) (b : Int) = ((x / 2 ^ b : Nat) : Int) := by
  unfold shr
  rw [Int.toNat_natCast, Nat.min_eq_left (show b ≤ IntKind.i64.bits from hb)]; simp
theorem shr_u (x b : Nat) (hb : b ≤ 64) : shr .u64 (x : Int) (b : Int) = ((x / 2 ^ b : Nat) : Int) := by
  unfold shr
  rw [Int.toNat_natCast, Nat.min_eq_left (show b ≤ IntKind.u64.bits from hb)]; simp
/-- A list of numbers that are no greater than a sample. -/
theorem list_both (l : List Int) (hl : l.length ≤ 1048576) : ∃ b : Bool, Ev (fun k => spec_l10List.f k l) b ∧ Ev (fun k => impl_zlist.f k l) b ∧ (b = true → l.length ≤ 4000 ∧ ∀ x ∈ l, -67108864 ≤ x ∧ x ≤ 67108863) := by
  have main := down (n := l.length) (P := fun i => ∃ q : Bool, Ev (fun k => spec_l10List.l0 k l l (l.length : Int) (i : Int)) (q && decide ((l.length : Int) ≤ 4000)) ∧ Ev (fun k => impl_zrange.l0 k (-67108864) 67108863 l (l.length : Int) (i : Int)) q ∧ (q = true → ∀ x ∈ l.drop i, -67108864 ≤ x ∧ x ≤ 67108863)) ?_ ?_
  · obtain ⟨q, h1, h2, h3⟩ := main
    by_cases c : (l.length : Int) ≤ 4000
    · rw [decide_eq_true c, Bool.and_true] at h1
      exact ⟨q, h1, Ev.bind (evneg (by omega) h2) (Ev.now _), fun h => ⟨by omega, by simpa using h3 h⟩⟩
    · rw [decide_eq_false c, Bool.and_false] at h1
      exact ⟨false, h1, Ev.bind (evpos (by omega) (Ev.now _)) (Ev.now _), fun h => by cases h⟩
  · exact ⟨true, Ev.step (fun k => rfl) (evneg (by omega) (Ev.now _)), Ev.step (fun k => rfl) (evneg (by omega) (Ev.now _)), fun _ x hx => by simp at hx⟩
  · intro i hi ⟨q, h1, h2, h3⟩
    by_cases c1 : rd l (i : Int) < -67108864
    · exact ⟨false, Ev.step (fun k => rfl) (evpos (by omega) (evpos (by omega) (evpos (by omega) (evpos c1 (Ev.now _))))), Ev.step (fun k => rfl) (evpos (by omega) (evpos (by omega) (evpos (by omega) (evpos c1 (Ev.now _))))), fun h => by cases h⟩
    by_cases c2 : rd l (i : Int) > 67108863
    · exact ⟨false, Ev.step (fun k => rfl) (evpos (by omega) (evpos (by omega) (evpos (by omega) (evneg c1 (evpos c2 (Ev.now _)))))), Ev.step (fun k => rfl) (evpos (by omega) (evpos (by omega) (evpos (by omega) (evneg c1 (evpos c2 (Ev.now _)))))), fun h => by cases h⟩
    refine ⟨q, Ev.step (fun k => rfl) (evpos (by omega) (evpos (by omega) (evpos (by omega) (evneg c1 (evneg c2 ?_))))), Ev.step (fun k => rfl) (evpos (by omega) (evpos (by omega) (evpos (by omega) (evneg c1 (evneg c2 ?_))))), ?_⟩
    · rw [w64s (by omega)]; exact h1
    · rw [w64s (by omega)]; exact h2
    · intro hq x hx
      rw [List.drop_eq_getElem_cons hi] at hx
      rw [rd_nat, getD_lt hi] at c1 c2
      rcases List.mem_cons.1 hx with rfl | hx
      · omega
      · exact h3 hq x hx
theorem same_guess (a : Int) (l : List Int) (b : Int) : spec_l10Guess.f a l b = impl_zguess.f a l b := rfl
theorem wb2 {a b : Int} (ha : -67108864 ≤ a ∧ a ≤ 67108863) (hb : -67108864 ≤ b ∧ b ≤ 67108863) : wrap64 (wrap64 (2 * a) - b) = 2 * a - b := by
  rw [w64 (n := 2 * a) (by omega) (by omega), w64 (by omega) (by omega)]
theorem wb3 {a b c : Int} (ha : -67108864 ≤ a ∧ a ≤ 67108863) (hb : -67108864 ≤ b ∧ b ≤ 67108863) (hc : -67108864 ≤ c ∧ c ≤ 67108863) : wrap64 (wrap64 (wrap64 (3 * a) - wrap64 (3 * b)) + c) = 3 * a - 3 * b + c := by
  rw [w64 (n := 3 * a) (by omega) (by omega), w64 (n := 3 * b) (by omega) (by omega), w64 (n := 3 * a - 3 * b) (by omega) (by omega), w64 (by omega) (by omega)]
theorem wb4 {a b c d : Int} (ha : -67108864 ≤ a ∧ a ≤ 67108863) (hb : -67108864 ≤ b ∧ b ≤ 67108863) (hc : -67108864 ≤ c ∧ c ≤ 67108863) (hd : -67108864 ≤ d ∧ d ≤ 67108863) :
    wrap64 (wrap64 (wrap64 (wrap64 (4 * a) - wrap64 (6 * b)) + wrap64 (4 * c)) - d) = 4 * a - 6 * b + 4 * c - d := by
  rw [w64 (n := 4 * a) (by omega) (by omega), w64 (n := 6 * b) (by omega) (by omega), w64 (n := 4 * c) (by omega) (by omega), w64 (n := 4 * a - 6 * b) (by omega) (by omega), w64 (n := 4 * a - 6 * b + 4 * c) (by omega) (by omega), w64 (by omega) (by omega)]
def Good (l : List Int) : Prop := l.length ≤ 4000 ∧ ∀ x ∈ l, -67108864 ≤ x ∧ x ≤ 67108863
theorem Good.at {l : List Int} (h : Good l) {j : Nat} (hj : j < l.length) : -67108864 ≤ rd l (j : Int) ∧ rd l (j : Int) ≤ 67108863 := by
  rw [rd_nat, getD_lt hj]; exact h.2 _ (List.getElem_mem hj)
theorem guess_ex (o i : Nat) (l : List Int) (h : Good l) (ho : o ≤ 4) (hi : o ≤ i) (hl : i < l.length) : ∃ v, spec_l10Guess.f (o : Int) l (i : Int) = some v ∧ -1006632960 ≤ v ∧ v ≤ 1006632960 := by
  have h4 := h.1
  have w : ∀ j : Nat, 1 ≤ j → j ≤ 4 → j ≤ o → wrap64 ((i : Int) - (j : Int)) = ((i - j : Nat) : Int) := by
    intro j _ _ _; rw [w64 (by omega) (by omega)]; omega
  have oc : o = 0 ∨ o = 1 ∨ o = 2 ∨ o = 3 ∨ o = 4 := by omega
  rcases oc with rfl | rfl | rfl | rfl | rfl
  · refine ⟨0, ?_, by omega, by omega⟩
    unfold spec_l10Guess.f
    rw [if_neg (by decide), if_neg (by decide), if_neg (by decide), if_neg (by decide)]
  · have w1 : wrap64 ((i : Int) - 1) = ((i - 1 : Nat) : Int) := w 1 (by omega) (by omega) (by omega)
    have a1 := h.at (show i - 1 < l.length by omega)
    refine ⟨rd l ((i - 1 : Nat) : Int), ?_, by omega, by omega⟩
    unfold spec_l10Guess.f
    rw [w1, if_pos (by decide), if_pos (by omega), if_pos (by omega)]
  · have w1 : wrap64 ((i : Int) - 1) = ((i - 1 : Nat) : Int) := w 1 (by omega) (by omega) (by omega)
    have w2 : wrap64 ((i : Int) - 2) = ((i - 2 : Nat) : Int) := w 2 (by omega) (by omega) (by omega)
    have a1 := h.at (show i - 1 < l.length by omega)
    have a2 := h.at (show i - 2 < l.length by omega)
    refine ⟨2 * rd l ((i - 1 : Nat) : Int) - rd l ((i - 2 : Nat) : Int), ?_, by omega, by omega⟩
    unfold spec_l10Guess.f
    rw [w1, w2, if_neg (by decide), if_pos (by decide), if_pos (by omega), if_pos (by omega), if_pos (by omega), if_pos (by omega), wb2 a1 a2]
  · have w1 : wrap64 ((i : Int) - 1) = ((i - 1 : Nat) : Int) := w 1 (by omega) (by omega) (by omega)
    have w2 : wrap64 ((i : Int) - 2) = ((i - 2 : Nat) : Int) := w 2 (by omega) (by omega) (by omega)
    have w3 : wrap64 ((i : Int) - 3) = ((i - 3 : Nat) : Int) := w 3 (by omega) (by omega) (by omega)
    have a1 := h.at (show i - 1 < l.length by omega)
    have a2 := h.at (show i - 2 < l.length by omega)
    have a3 := h.at (show i - 3 < l.length by omega)
    refine ⟨3 * rd l ((i - 1 : Nat) : Int) - 3 * rd l ((i - 2 : Nat) : Int) + rd l ((i - 3 : Nat) : Int), ?_, by omega, by omega⟩
    unfold spec_l10Guess.f
    rw [w1, w2, w3, if_neg (by decide), if_neg (by decide), if_pos (by decide), if_pos (by omega), if_pos (by omega), if_pos (by omega), if_pos (by omega), if_pos (by omega), if_pos (by omega), wb3 a1 a2 a3]
  · have w1 : wrap64 ((i : Int) - 1) = ((i - 1 : Nat) : Int) := w 1 (by omega) (by omega) (by omega)
    have w2 : wrap64 ((i : Int) - 2) = ((i - 2 : Nat) : Int) := w 2 (by omega) (by omega) (by omega)
    have w3 : wrap64 ((i : Int) - 3) = ((i - 3 : Nat) : Int) := w 3 (by omega) (by omega) (by omega)
    have w4 : wrap64 ((i : Int) - 4) = ((i - 4 : Nat) : Int) := w 4 (by omega) (by omega) (by omega)
    have a1 := h.at (show i - 1 < l.length by omega)
    have a2 := h.at (show i - 2 < l.length by omega)
    have a3 := h.at (show i - 3 < l.length by omega)
    have a4 := h.at (show i - 4 < l.length by omega)
    refine ⟨4 * rd l ((i - 1 : Nat) : Int) - 6 * rd l ((i - 2 : Nat) : Int) + 4 * rd l ((i - 3 : Nat) : Int) - rd l ((i - 4 : Nat) : Int), ?_, by omega, by omega⟩
    unfold spec_l10Guess.f
    rw [w1, w2, w3, w4, if_neg (by decide), if_neg (by decide), if_neg (by decide), if_pos (by decide), if_pos (by omega), if_pos (by omega), if_pos (by omega), if_pos (by omega), if_pos (by omega), if_pos (by omega), if_pos (by omega), if_pos (by omega), wb4 a1 a2 a3 a4]
def gs (o : Nat) (l : List Int) (i : Nat) : Int := (spec_l10Guess.f (o : Int) l (i : Int)).getD 0
theorem guess_some (o i : Nat) (l : List Int) (h : Good l) (ho : o ≤ 4) (hi : o ≤ i) (hl : i < l.length) : spec_l10Guess.f (o : Int) l (i : Int) = some (gs o l i) ∧ -1006632960 ≤ gs o l i ∧ gs o l i ≤ 1006632960 := by
  obtain ⟨v, e, b⟩ := guess_ex o i l h ho hi hl
  have : gs o l i = v := by unfold gs; rw [e]; rfl
  rw [this]; exact ⟨e, b⟩
def rv (o : Nat) (l : List Int) (i : Nat) : Int := if i < o then l.getD i 0 else wrap64 (l.getD i 0 - gs o l i)
def Res (o : Nat) (l : List Int) : List Int := (List.range l.length).map (rv o l)
theorem Res_len (o : Nat) (l : List Int) : (Res o l).length = l.length := by simp [Res]
theorem Res_bound (o : Nat) (l : List Int) (h : Good l) (ho : o ≤ 4) : ∀ x ∈ Res o l, -1073741824 ≤ x ∧ x ≤ 1073741824 := by
  intro x hx
  obtain ⟨i, hi, rfl⟩ := List.mem_map.1 hx
  have hi := List.mem_range.1 hi
  have b := h.at hi
  rw [rd_nat] at b
  unfold rv
  by_cases c : i < o
  · rw [if_pos c]; omega
  · obtain ⟨_, g⟩ := guess_some o i l h ho (by omega) hi
    rw [if_neg c, w64 (by omega) (by omega)]; omega
theorem res_spec (o : Nat) (l : List Int) (h : Good l) (ho : o ≤ 4) : Ev (fun k => spec_l10Residue.f k (o : Int) l) (Res o l) := by
  have h4 := h.1
  refine evpos (by omega) (evpos (by omega) ?_)
  rw [Int.toNat_natCast, ← fl_zero (0 : Int) l.length (rv o l)]
  refine down (n := l.length) (P := fun i => Ev (fun k => spec_l10Residue.l0 k (o : Int) l (fl 0 l.length (rv o l) i) (l.length : Int) (i : Int)) (Res o l)) ?_ ?_
  · refine Ev.step (fun k => rfl) (evneg (by omega) ?_)
    rw [fl_all]; exact Ev.now _
  · intro i hi ih
    have il : (i : Int) < ((fl 0 l.length (rv o l) i).length : Int) := by rw [fl_len]; omega
    refine Ev.step (fun k => rfl) (evpos (by omega) (evpos (by omega) (evpos (by omega) (evpos il (evlet rfl ?_)))))
    by_cases c : i < o
    · refine evneg (by omega) ?_
      have e : (fl 0 l.length (rv o l) i).set (i : Int).toNat (rd l (i : Int)) = fl 0 l.length (rv o l) (i + 1) := by
        rw [← fl_set, Int.toNat_natCast, rd_nat]; unfold rv; rw [if_pos c]
      rw [e, w64s (by omega)]; exact ih
    · refine evpos (by omega) (evlet (guess_some o i l h ho (by omega) hi).1 ?_)
      have e : ((fl 0 l.length (rv o l) i).set (i : Int).toNat (rd l (i : Int))).set (i : Int).toNat (wrap64 (rd ((fl 0 l.length (rv o l) i).set (i : Int).toNat (rd l (i : Int))) (i : Int) - gs o l i)) = fl 0 l.length (rv o l) (i + 1) := by
        rw [List.set_set, rd_nat, Int.toNat_natCast, set_getD (by rw [fl_len]; exact hi), ← fl_set, rd_nat]; unfold rv; rw [if_neg c]
      rw [e, w64s (by omega)]; exact ih
theorem zcopy_all (l : List Int) (hl : l.length ≤ 4000) : impl_zcopy.f l = some l := by
  unfold impl_zcopy.f
  rw [Option.bind_some, if_pos (by simp; omega)]; rfl
theorem res_impl (o : Nat) (l : List Int) (h : Good l) (ho : o ≤ 4) (hz : Ev (fun k => impl_zlist.f k l) true) : Ev (fun k => impl_Residue.f k (o : Int) l) (Res o l) := by
  have h4 := h.1
  have lp : Ev (fun k => impl_Residue.l0 k (o : Int) l l (o : Int)) (Res o l) := by
    have st : ∀ i, i ≤ o → f2 l.length (rv o l) (fun j => l.getD j 0) i = l := by
      intro i hi
      have e : f2 l.length (rv o l) (fun j => l.getD j 0) i = f2 l.length (rv o l) (fun j => l.getD j 0) 0 := by
        unfold f2
        apply List.map_congr_left
        intro j _
        by_cases c : j < i
        · rw [if_pos c, if_neg (by omega)]; unfold rv; rw [if_pos (by omega)]
        · rw [if_neg c, if_neg (by omega)]
      rw [e, f2_zero]
    by_cases c : o ≤ l.length
    · have m := down_to (n := l.length) (P := fun i => o ≤ i → Ev (fun k => impl_Residue.l0 k (o : Int) l (f2 l.length (rv o l) (fun j => l.getD j 0) i) (i : Int)) (Res o l)) ?_ ?_ o c (Nat.le_refl _)
      · rw [st o (Nat.le_refl _)] at m; exact m
      · intro _
        refine Ev.step (fun k => rfl) (evneg (by omega) ?_)
        rw [f2_all]; exact Ev.now _
      · intro i hi ih hoi
        have g := (guess_some o i l h ho hoi hi).1
        rw [same_guess] at g
        refine Ev.step (fun k => rfl) (evpos (by omega) (evpos (by omega) (evlet g (evpos (by rw [f2_len]; omega) ?_))))
        have e : (f2 l.length (rv o l) (fun j => l.getD j 0) i).set (i : Int).toNat (wrap64 (rd l (i : Int) - gs o l i)) = f2 l.length (rv o l) (fun j => l.getD j 0) (i + 1) := by
          rw [← f2_set, Int.toNat_natCast, rd_nat]; unfold rv; rw [if_neg (by omega)]
        rw [e, w64s (by omega)]; exact ih (by omega)
    · have e : Res o l = l := by
        have := st l.length (by omega)
        rw [f2_all] at this; exact this
      refine Ev.step (fun k => rfl) (evneg (by omega) ?_)
      rw [e]; exact Ev.now _
  refine Ev.bind hz (evpos rfl (evneg (by omega) ?_))
  rw [decide_eq_false (by omega)]
  exact Ev.step (fun k => rfl) (evlet (zcopy_all l h4) lp)
theorem xones (m : Nat) (h : m < 18446744073709551616) : m ^^^ 18446744073709551615 = 18446744073709551615 - m := by
  have := congrArg BitVec.toNat (BitVec.xor_allOnes (x := BitVec.ofNat 64 m))
  rw [BitVec.toNat_xor, BitVec.toNat_not, BitVec.toNat_allOnes, BitVec.toNat_ofNat, Nat.mod_eq_of_lt (by omega)] at this
  simpa using this
def fo (a : Int) : Nat := if a < 0 then (-2 * a - 1).toNat else (2 * a).toNat
theorem fold_spec (a : Int) (h0 : -1073741824 ≤ a) (h1 : a ≤ 1073741824) : spec_Fold.f a = some (fo a : Int) := by
  unfold spec_Fold.f fo
  by_cases c : a < 0
  · rw [if_pos c, if_pos c, w64 (n := a + 1) (by omega) (by omega), w64 (n := -(a + 1)) (by omega) (by omega), uw (-(a + 1)) (by omega) (by omega), uw (2 * -(a + 1)) (by omega) (by omega), uw (2 * -(a + 1) + 1) (by omega) (by omega)]
    exact congrArg some (by omega)
  · rw [if_neg c, if_neg c, uw a (by omega) (by omega), uw (2 * a) (by omega) (by omega)]
    exact congrArg some (by omega)
theorem fold_impl (a : Int) (h0 : -1073741824 ≤ a) (h1 : a ≤ 1073741824) : impl_Fold.f a = some (fo a : Int) := by
  unfold impl_Fold.f fo
  by_cases c : a < 0
  · have e1 : IntKind.u64.wrap (IntKind.u64.wrap a * 2) = ((2 * a + 18446744073709551616).toNat : Int) := by
      rw [IntKind.wrap_u64, IntKind.wrap_u64]; omega
    have e2 : IntKind.u64.wrap (a / 9223372036854775808) = ((18446744073709551615 : Nat) : Int) := by
      rw [IntKind.wrap_u64]; omega
    rw [if_pos c, e1, e2, bits_xor_u64_nat _ _ (by omega) (by omega), xones _ (by omega)]
    exact congrArg some (by omega)
  · have e1 : IntKind.u64.wrap (IntKind.u64.wrap a * 2) = ((2 * a).toNat : Int) := by
      rw [IntKind.wrap_u64, IntKind.wrap_u64]; omega
    have e2 : IntKind.u64.wrap (a / 9223372036854775808) = ((0 : Nat) : Int) := by
      rw [IntKind.wrap_u64]; omega
    rw [if_neg c, e1, e2, bits_xor_u64_nat _ _ (by omega) (by omega), Nat.xor_zero]
theorem fo_le (a : Int) (h0 : -1073741824 ≤ a) (h1 : a ≤ 1073741824) : fo a ≤ 2147483648 := by
  unfold fo; split <;> omega
/-- What a part costs by a key. -/
theorem cost_both (key : Nat) (hk : key ≤ 25) (p : List Int) (hl : p.length ≤ 4000) (hp : ∀ x ∈ p, -1073741824 ≤ x ∧ x ≤ 1073741824) :
    ∃ c : Int, Ev (fun k => spec_l10KeyCost.f k (key : Int) p) c ∧ Ev (fun k => impl_zkeyCost.f k (key : Int) p) c ∧ 0 ≤ c ∧ c ≤ 34359738368005 := by
  by_cases k25 : key = 25
  · subst k25
    have m := down (n := p.length) (P := fun i => Ev (fun k => spec_l10KeyCost.l0 k ((25 : Nat) : Int) (5 + 32 * (i : Int)) p (p.length : Int) (i : Int)) (5 + 32 * (p.length : Int))) ?_ ?_
    · refine ⟨5 + 32 * (p.length : Int), m, ?_, by omega, by omega⟩
      refine evpos (by decide) ?_
      rw [w64 (n := 32 * (p.length : Int)) (by omega) (by omega), w64 (by omega) (by omega)]; exact Ev.now _
    · exact Ev.step (fun k => rfl) (evneg (by omega) (Ev.now _))
    · intro i hi ih
      refine Ev.step (fun k => rfl) (evpos (by omega) (evpos (by omega) (evpos (by omega) (evpos (by decide) ?_))))
      rw [w64 (n := 5 + 32 * (i : Int) + 32) (by omega) (by omega), w64s (by omega), show 5 + 32 * (i : Int) + 32 = 5 + 32 * ((i + 1 : Nat) : Int) by omega]; exact ih
  · have m := down (n := p.length) (P := fun i => ∀ a : Int, 0 ≤ a → a ≤ 5 + (i : Int) * 8589934592 → ∃ c : Int, Ev (fun k => spec_l10KeyCost.l0 k (key : Int) a p (p.length : Int) (i : Int)) c ∧ Ev (fun k => impl_zkeyCost.l0 k (key : Int) a p (p.length : Int) (i : Int)) c ∧ 0 ≤ c ∧ c ≤ 34359738368005) ?_ ?_
    · obtain ⟨c, h1, h2, h3⟩ := m 5 (by omega) (by omega)
      exact ⟨c, h1, evneg (by omega) h2, h3⟩
    · intro a h0 h1
      exact ⟨a, Ev.step (fun k => rfl) (evneg (by omega) (Ev.now _)), Ev.step (fun k => rfl) (evneg (by omega) (Ev.now _)), h0, by omega⟩
    · intro i hi ih a h0 h1
      have hx := hp _ (List.getElem_mem hi)
      have er : rd p (i : Int) = p[i] := by rw [rd_nat, getD_lt hi]
      have fl := fo_le p[i] hx.1 hx.2
      have t := Nat.div_le_self (fo p[i]) (2 ^ key)
      have e2 : wrap64 (a + wrap64 (wrap64 (wrap64 ((fo p[i] / 2 ^ key : Nat) : Int) + 1) + (key : Int))) = a + (((fo p[i] / 2 ^ key : Nat) : Int) + 1 + (key : Int)) := by
        generalize fo p[i] / 2 ^ key = q at *
        rw [w64 (n := (q : Int)) (by omega) (by omega), w64 (n := (q : Int) + 1) (by omega) (by omega), w64 (n := (q : Int) + 1 + (key : Int)) (by omega) (by omega), w64 (by omega) (by omega)]
      obtain ⟨c, g1, g2, g3⟩ := ih (a + (((fo p[i] / 2 ^ key : Nat) : Int) + 1 + (key : Int))) (by clear e2; generalize fo p[i] / 2 ^ key = q at *; omega) (by clear e2; generalize fo p[i] / 2 ^ key = q at *; omega)
      refine ⟨c, Ev.step (fun k => rfl) (evpos (by omega) (evpos (by omega) (evpos (by omega) (evneg (by omega) ?_)))), Ev.step (fun k => rfl) (evpos (by omega) (evpos (by omega) (evpos (by omega) ?_))), g3⟩
      · rw [er]
        refine evlet (fold_spec _ hx.1 hx.2) ?_
        rw [uw (key : Int) (by omega) (by omega)]
        refine evpos (by omega) ?_
        rw [shr_u _ _ (by omega), e2, w64s (by omega)]; exact g1
      · rw [er]
        refine evlet (fold_impl _ hx.1 hx.2) (evpos (by omega) ?_)
        rw [shr_u _ _ (by omega), e2, w64s (by omega)]; exact g2
/-- May a list of n numbers be parted so? -/
theorem parts_both (a b : Int) (n : Nat) (_ : n ≤ 4000) : ∃ q : Bool, spec_l10Parts.f a b (n : Int) = some q ∧ impl_zfits.f a b (n : Int) = some q ∧
    (q = true → ∃ o m : Nat, a = (o : Int) ∧ b = (m : Int) ∧ o ≤ 4 ∧ m ≤ 4 ∧ o ≤ n / 2 ^ m ∧ n = n / 2 ^ m * 2 ^ m) := by
  unfold spec_l10Parts.f impl_zfits.f
  by_cases c1 : a < 0
  · exact ⟨false, by rw [if_pos c1], by rw [if_neg (by omega)], fun h => by cases h⟩
  by_cases c2 : a > 4
  · exact ⟨false, by rw [if_neg c1, if_pos c2], by rw [if_pos (by omega), if_neg (by omega)], fun h => by cases h⟩
  by_cases c3 : a > (n : Int)
  · exact ⟨false, by rw [if_neg c1, if_neg c2, if_pos c3], by rw [if_pos (by omega), if_pos (by omega), if_neg (by omega)], fun h => by cases h⟩
  by_cases c4 : b < 0
  · exact ⟨false, by rw [if_neg c1, if_neg c2, if_neg c3, if_pos c4], by rw [if_pos (by omega), if_pos (by omega), if_pos (by omega), if_neg (by omega)], fun h => by cases h⟩
  by_cases c5 : b > 4
  · exact ⟨false, by rw [if_neg c1, if_neg c2, if_neg c3, if_neg c4, if_pos c5], by rw [if_pos (by omega), if_pos (by omega), if_pos (by omega), if_pos (by omega), if_neg (by omega)], fun h => by cases h⟩
  obtain ⟨o, rfl⟩ : ∃ n : Nat, a = (n : Int) := ⟨a.toNat, by omega⟩
  obtain ⟨m, rfl⟩ : ∃ n : Nat, b = (n : Int) := ⟨b.toNat, by omega⟩
  have p0 : 0 < 2 ^ m := Nat.pos_of_ne_zero (by simp)
  have um := uw (m : Int) (by omega) (by omega)
  have f0 : (0 : Int) ≤ (m : Int) := by omega
  have f1 : ¬ ((2 ^ m : Nat) : Int) = 0 := by omega
  have g1 : (o : Int) ≥ 0 := by omega
  have g2 : (o : Int) ≤ 4 := by omega
  have g3 : (o : Int) ≤ (n : Int) := by omega
  have g4 : (m : Int) ≥ 0 := by omega
  have g5 : (m : Int) ≤ 4 := by omega
  have m4 : m ≤ 4 := by omega
  have o4 : o ≤ 4 := by omega
  have tm : Int.tmod (n : Int) ((2 ^ m : Nat) : Int) = ((n % 2 ^ m : Nat) : Int) := (Int.ofNat_tmod _ _).symm
  have sh := shr_i n m (Nat.le_trans m4 (by decide))
  have s1 := shl1 m m4
  by_cases c6 : n % 2 ^ m = 0
  · have c7 : ((n % 2 ^ m : Nat) : Int) = 0 := by rw [c6]; rfl
    refine ⟨decide (((n / 2 ^ m : Nat) : Int) ≥ (o : Int)), ?_, ?_, fun h => ?_⟩
    · rw [if_neg c1, if_neg c2, if_neg c3, if_neg c4, if_neg c5, um, if_pos f0, s1, if_neg f1, tm, if_pos c7, sh]
    · rw [if_pos g1, if_pos g2, if_pos g3, if_pos g4, if_pos g5, if_pos f0, s1, if_neg f1, tm, if_pos c7, sh]
    · have h := of_decide_eq_true h
      have d := Nat.div_add_mod n (2 ^ m)
      rw [c6, Nat.add_zero, Nat.mul_comm] at d
      exact ⟨o, m, rfl, rfl, o4, m4, Int.ofNat_le.1 h, d.symm⟩
  · have c7 : ¬ ((n % 2 ^ m : Nat) : Int) = 0 := fun h => c6 (Int.ofNat_inj.1 h)
    refine ⟨false, ?_, ?_, fun h => by cases h⟩
    · rw [if_neg c1, if_neg c2, if_neg c3, if_neg c4, if_neg c5, um, if_pos f0, s1, if_neg f1, tm, if_neg c7]
    · rw [if_pos g1, if_pos g2, if_pos g3, if_pos g4, if_pos g5, if_pos f0, s1, if_neg f1, tm, if_neg c7]
/-- A part of a residue. -/
theorem we1 (q i z : Nat) (hz : q * i = z) (h : z ≤ 4000) : wrap64 ((q : Int) * (i : Int)) = (z : Int) := by
  rw [← Int.natCast_mul, hz]; exact w64 (by omega) (by omega)
theorem we3 (z q : Nat) (h : z + q ≤ 4000) : wrap64 ((z : Int) + (q : Int)) = ((z + q : Nat) : Int) := by
  rw [← Int.natCast_add]; exact w64 (by omega) (by omega)
theorem we4 (q i z : Nat) (hz : q * i = z) (h : z + q ≤ 4000) (hi : i ≤ 16) : wrap64 (wrap64 ((i : Int) + 1) * (q : Int)) = ((z + q : Nat) : Int) := by
  rw [w64s (by omega), ← Int.natCast_mul, show (i + 1) * q = z + q by rw [Nat.succ_mul, Nat.mul_comm i q, hz]]; exact w64 (by omega) (by omega)
theorem mx_r (z o : Nat) (h : z ≤ o) : mx (z : Int) (o : Int) = (o : Int) := by unfold mx; split <;> omega
theorem mx_l (z o : Nat) (h : o ≤ z) : mx (z : Int) (o : Int) = (z : Int) := by unfold mx; split <;> omega
theorem part_at (o m i n q z : Nat) (R : List Int) (hR : R.length = n) (hn : n ≤ 4000) (hm : m ≤ 4) (i16 : i ≤ 16) (hz : q * i = z) (hzn : z + q ≤ n) (ho : o ≤ q) (hc : ¬ i = 0 → q ≤ z) (sh : shr .i64 (n : Int) (m : Int) = (q : Int)) :
    ∃ p : List Int, spec_l10Part.f R (o : Int) (m : Int) (i : Int) = some p ∧ impl_zpart.f (o : Int) (m : Int) R (i : Int) = some p ∧ p.length ≤ n ∧ ∀ x ∈ p, x ∈ R := by
  have hzq := Nat.le_trans hzn hn
  have hz4 := Nat.le_trans (Nat.le_add_right z q) hzq
  have f0 : (0 : Int) ≤ (m : Int) := Int.natCast_nonneg m
  have f1 : (0 : Int) ≤ (o : Int) := Int.natCast_nonneg o
  have f2 : (0 : Int) ≤ (z : Int) := Int.natCast_nonneg z
  have f3 : (z : Int) ≤ ((z + q : Nat) : Int) := Int.ofNat_le.2 (Nat.le_add_right z q)
  have f4 : ((z + q : Nat) : Int) ≤ (n : Int) := Int.ofNat_le.2 hzn
  have f5 : (o : Int) ≤ (q : Int) := Int.ofNat_le.2 ho
  have f6 : (q : Int) ≤ (n : Int) := Int.ofNat_le.2 (Nat.le_trans (Nat.le_add_left q z) hzn)
  have f7 : (o : Int) ≤ ((z + q : Nat) : Int) := Int.ofNat_le.2 (Nat.le_trans ho (Nat.le_add_left q z))
  have f8 : min (z + q) n - z ≤ n := Nat.le_trans (Nat.sub_le _ _) (Nat.min_le_right _ _)
  have f9 : min q n - o ≤ n := Nat.le_trans (Nat.sub_le _ _) (Nat.min_le_right _ _)
  have um := uw (m : Int) f0 (Int.lt_of_le_of_lt (Int.ofNat_le.2 hm) (by decide))
  have e1 := we1 q i z hz hz4
  have e2 : wrap64 ((i : Int) * (q : Int)) = (z : Int) := by rw [Int.mul_comm]; exact e1
  have e3 := we3 z q hzq
  have e4 := we4 q i z hz hzq i16
  by_cases c : i = 0
  · have z0 : z = 0 := by rw [← hz, c]; rfl
    have m1 := mx_r z o (z0 ▸ Nat.zero_le o)
    subst c
    refine ⟨(R.take q).drop o, ?_, ?_, ?_, ?_⟩
    · unfold spec_l10Part.f
      rw [hR, um, sh, if_pos f0, if_pos (show ((0 : Nat) : Int) = 0 from rfl), if_pos f1, if_pos f5, if_pos f6, Int.toNat_natCast, Int.toNat_natCast]
    · unfold impl_zpart.f
      rw [hR, sh, e2, e4, m1, if_pos f0, if_pos f1, if_pos f7, if_pos f4, Int.toNat_natCast, Int.toNat_natCast, z0, Nat.zero_add]
    · rw [List.length_drop, List.length_take, hR]; exact f9
    · intro x hx; exact List.mem_of_mem_take (List.mem_of_mem_drop hx)
  · have m1 := mx_l z o (Nat.le_trans ho (hc c))
    have i0 : ¬ (i : Int) = 0 := fun h => c (Int.ofNat_inj.1 h)
    refine ⟨(R.take (z + q)).drop z, ?_, ?_, ?_, ?_⟩
    · unfold spec_l10Part.f
      rw [hR, um, sh, e1, e3, if_pos f0, if_neg i0, if_pos f2, if_pos f3, if_pos f4, Int.toNat_natCast, Int.toNat_natCast]
    · unfold impl_zpart.f
      rw [hR, sh, e2, e4, m1, if_pos f0, if_pos f2, if_pos f3, if_pos f4, Int.toNat_natCast, Int.toNat_natCast]
    · rw [List.length_drop, List.length_take, hR]; exact f8
    · intro x hx; exact List.mem_of_mem_take (List.mem_of_mem_drop hx)
theorem pow_le (m : Nat) (hm : m ≤ 4) : 2 ^ m ≤ 16 := Nat.pow_le_pow_right (by omega) hm
/-- A part of a residue. -/
theorem part_both (o m i n : Nat) (R : List Int) (hR : R.length = n) (hn : n ≤ 4000) (hm : m ≤ 4) (ho : o ≤ n / 2 ^ m) (hd : n = n / 2 ^ m * 2 ^ m) (hi : i < 2 ^ m) :
    ∃ p : List Int, spec_l10Part.f R (o : Int) (m : Int) (i : Int) = some p ∧ impl_zpart.f (o : Int) (m : Int) R (i : Int) = some p ∧ p.length ≤ n ∧ ∀ x ∈ p, x ∈ R := by
  have h16 := pow_le m hm
  have hq := Nat.mul_le_mul_left (n / 2 ^ m) (Nat.succ_le_of_lt hi)
  rw [← hd, Nat.mul_succ] at hq
  refine part_at o m i n (n / 2 ^ m) (n / 2 ^ m * i) R hR hn hm (Nat.le_trans (Nat.le_of_lt hi) h16) rfl hq ho (fun c => ?_) (shr_i n m (Nat.le_trans hm (by decide)))
  have := Nat.mul_le_mul_left (n / 2 ^ m) (Nat.pos_of_ne_zero c)
  rwa [Nat.mul_one] at this
theorem keys_both (o m : Nat) (l K : List Int) (h : Good l) (o4 : o ≤ 4) (m4 : m ≤ 4) (ole : o ≤ l.length / 2 ^ m) (nd : l.length = l.length / 2 ^ m * 2 ^ m) (hK : K.length = 2 ^ m) :
    ∀ s : Int, ∃ (r : Int) (q : Bool), Ev (fun k => spec_PlanCost.l0 k (Res o l) s K (K.length : Int) 0 (o : Int) (m : Int) K) r ∧ Ev (fun k => impl_zrange.l0 k 0 25 K (K.length : Int) 0) q ∧ (q = true → Ev (fun k => impl_PlanCost.l0 k (Res o l) s K (K.length : Int) 0 (o : Int) (m : Int) K) r) ∧ (q = false → r = -1) := by
  have h4 := h.1
  have pw := pow_le m m4
  have k16 : K.length ≤ 16 := by rw [hK]; exact pw
  refine down (n := K.length) (P := fun i => ∀ s : Int, ∃ (r : Int) (q : Bool), Ev (fun k => spec_PlanCost.l0 k (Res o l) s K (K.length : Int) (i : Int) (o : Int) (m : Int) K) r ∧ Ev (fun k => impl_zrange.l0 k 0 25 K (K.length : Int) (i : Int)) q ∧ (q = true → Ev (fun k => impl_PlanCost.l0 k (Res o l) s K (K.length : Int) (i : Int) (o : Int) (m : Int) K) r) ∧ (q = false → r = -1)) ?_ ?_
  · intro s
    exact ⟨s, true, Ev.step (fun k => rfl) (evneg (by omega) (Ev.now _)), Ev.step (fun k => rfl) (evneg (by omega) (Ev.now _)), fun _ => Ev.step (fun k => rfl) (evneg (by omega) (Ev.now _)), fun h => by cases h⟩
  · intro i hi ih s
    have hi2 : i < 2 ^ m := by rw [← hK]; exact hi
    have st : Ev (fun k => spec_PlanCost.j2 k (Res o l) s (i : Int) (rd K (i : Int)) K (K.length : Int) (i : Int) true (o : Int) (m : Int) K) (-1) := Ev.step (fun k => rfl) (Ev.now _)
    by_cases c1 : rd K (i : Int) < 0
    · exact ⟨-1, false, Ev.step (fun k => rfl) (evpos (by omega) (evpos (by omega) (evpos (by omega) (evpos c1 st)))), Ev.step (fun k => rfl) (evpos (by omega) (evpos (by omega) (evpos (by omega) (evpos c1 (Ev.now _))))), (fun h => by cases h), fun _ => rfl⟩
    by_cases c2 : rd K (i : Int) > 25
    · refine ⟨-1, false, Ev.step (fun k => rfl) (evpos (by omega) (evpos (by omega) (evpos (by omega) (evneg c1 ?_)))), Ev.step (fun k => rfl) (evpos (by omega) (evpos (by omega) (evpos (by omega) (evneg c1 (evpos c2 (Ev.now _)))))), (fun h => by cases h), fun _ => rfl⟩
      rw [decide_eq_true c2]; exact st
    obtain ⟨key, hkey⟩ : ∃ n : Nat, rd K (i : Int) = (n : Int) := ⟨(rd K (i : Int)).toNat, by omega⟩
    obtain ⟨p, p1, p2, p3, p4⟩ := part_both o m i l.length (Res o l) (Res_len o l) h4 m4 ole nd hi2
    have pb : ∀ x ∈ p, -1073741824 ≤ x ∧ x ≤ 1073741824 := fun x hx => Res_bound o l h o4 x (p4 x hx)
    obtain ⟨c, k1, k2, _, _⟩ := cost_both key (by omega) p (Nat.le_trans p3 h4) pb
    obtain ⟨r, q, g1, g2, g3, g4⟩ := ih (wrap64 (s + c))
    refine ⟨r, q, Ev.step (fun k => rfl) (evpos (by omega) (evpos (by omega) (evpos (by omega) (evneg c1 ?_)))), Ev.step (fun k => rfl) (evpos (by omega) (evpos (by omega) (evpos (by omega) (evneg c1 (evneg c2 ?_))))), fun hq => Ev.step (fun k => rfl) (evpos (by omega) (evpos (by omega) (evpos (by omega) (evlet p2 ?_)))), g4⟩
    · rw [decide_eq_false c2, hkey]
      refine Ev.step (fun k => rfl) (evlet p1 (Ev.bind k1 ?_))
      rw [w64s (by omega)]; exact g1
    · rw [w64s (by omega)]; exact g2
    · rw [hkey]
      refine Ev.bind k2 ?_
      rw [w64s (by omega)]; exact g3 hq
theorem plancost_both (a b : Int) (K l : List Int) (hl : l.length ≤ 1048576) : ∃ r : Int, Ev (fun k => spec_PlanCost.f k a b K l) r ∧ Ev (fun k => impl_PlanCost.f k a b K l) r := by
  have st : Ev (fun k => spec_PlanCost.j0 k l true a b K) (-1) := Ev.step (fun k => rfl) (Ev.now _)
  have it : Ev (fun k => impl_PlanCost.j0 k l true a b K) (-1) := Ev.step (fun k => rfl) (Ev.now _)
  obtain ⟨t, h1, h2, h3⟩ := list_both l hl
  cases t with
  | false => exact ⟨-1, Ev.bind h1 (evneg (by decide) st), Ev.bind h2 (evneg (by decide) it)⟩
  | true =>
    have hg : Good l := h3 rfl
    obtain ⟨q, q1, q2, q3⟩ := parts_both a b l.length hg.1
    cases q with
    | false => exact ⟨-1, Ev.bind h1 (evpos rfl (evlet q1 (evneg (by decide) st))), Ev.bind h2 (evpos rfl (evlet q2 (evneg (by decide) it)))⟩
    | true =>
      obtain ⟨o, m, rfl, rfl, o4, m4, ole, nd⟩ := q3 rfl
      have um := uw (m : Int) (by omega) (by omega)
      have s1 := shl1 m m4
      have f0 : (0 : Int) ≤ (m : Int) := Int.natCast_nonneg m
      by_cases c : K.length = 2 ^ m
      · have c1 : (K.length : Int) = ((2 ^ m : Nat) : Int) := congrArg Int.ofNat c
        have c2 : ((K.length : Int) != ((2 ^ m : Nat) : Int)) = false := bne_eq_false_iff_eq.mpr c1
        have k16 : K.length ≤ 16 := by rw [c]; exact pow_le m m4
        obtain ⟨r, q, g1, g2, g3, g4⟩ := keys_both o m l K hg o4 m4 ole nd c (wrap64 (6 + wrap64 (26 * (o : Int))))
        have zr : Ev (fun k => impl_zrange.f k K 0 25 16) q := evneg (by clear um s1 c1; omega) g2
        refine ⟨r, Ev.bind h1 (evpos rfl (evlet q1 (evpos rfl (evpos (by rw [um]; exact f0) ?_)))), Ev.bind h2 (evpos rfl (evlet q2 (evpos rfl (evpos f0 (evpos (by rw [s1]; exact c1) (Ev.bind zr ?_))))))⟩
        · rw [um, s1, c2]
          exact Ev.step (fun k => rfl) (Ev.bind (res_spec o l hg o4) g1)
        · cases q with
          | true => exact Ev.step (fun k => rfl) (Ev.bind (res_impl o l hg o4 h2) (g3 rfl))
          | false => rw [g4 rfl]; exact it
      · have c1 : ¬ (K.length : Int) = ((2 ^ m : Nat) : Int) := fun h => c (Int.ofNat_inj.1 h)
        have c2 : ((K.length : Int) != ((2 ^ m : Nat) : Int)) = true := bne_iff_ne.mpr c1
        refine ⟨-1, Ev.bind h1 (evpos rfl (evlet q1 (evpos rfl (evpos (by rw [um]; exact f0) ?_)))), Ev.bind h2 (evpos rfl (evlet q2 (evpos rfl (evpos f0 (evneg (by rw [s1]; exact c1) it)))))⟩
        rw [um, s1, c2]; exact st
theorem FnExactPlanCost : laws_FnExactPlanCost.Pure := by
  intro a b K l ⟨_, _, hK, _⟩ _ _
  refine Ev.rounds ?_
  by_cases c : (l.length : Int) > 1048576
  · exact evpos c (Ev.now _)
  obtain ⟨z, s0, s1, s2⟩ := szPlan a b K 1048576 hK (by omega) (by omega)
  by_cases d : z < 0
  · exact evneg c (Ev.bind s0 (evpos d (Ev.now _)))
  have sk := s2 (by omega)
  have tk := toPlan a b K sk
  have tl := toIntS l (by omega)
  have el := eqIntS l (by omega)
  have ek := eqPlan a b K (by omega)
  obtain ⟨r, h1, h2⟩ := plancost_both a b K l (by omega)
  exact evneg c (Ev.bind s0 (evneg d (Ev.bind tk (Ev.bind tl (Ev.bind h1 (Ev.bind tk (Ev.bind tl (Ev.bind h2 (evpos rfl (Ev.bind tk (Ev.bind ek (evpos rfl (Ev.bind tl (Ev.bind el (evpos rfl (Ev.now _))))))))))))))))
end Go.Proofs.Ytglaedjadlappaa.Pure

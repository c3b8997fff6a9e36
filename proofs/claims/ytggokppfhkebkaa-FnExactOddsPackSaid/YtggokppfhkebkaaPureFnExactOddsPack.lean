/- The law FnExactOddsPack: for every number of places and every list of choices the program's OddsPack answers what the reference answers; no condition besides. -/
import Derived.Test.YtggokppfhkebkaaPFnExactOddsPackx0
import Derived.Test.YtggokppfhkebkaaPFnExactOddsPackx1
import Derived.Test.YtggokppfhkebkaaPFnExactOddsPackx2
import Derived.Test.YtggokppfhkebkaaPFnExactOddsPackx3
import Derived.Test.YtggokppfhkebkaaPFnExactOddsPackx4
import Derived.Test.YtggokppfhkebkaaPFnExactOddsPackx5
import Derived.Test.YtggokppfhkebkaaPFnExactOddsPackx6
import Derived.Test.YtggokppfhkebkaaTFEOPK
import Derived.Laws.Bits64b
namespace Go.Proofs.Ytggokppfhkebkaa.Pure
open Go.RowKit Go.Proofs.Ytggokppfhkebkaa.PFnExactOddsPack Go.Proofs.Ytggokppfhkebkaa.K Go.Proofs.YtggokppfhkebkaaW.PrintWords Go.Proofs.YtggokppfhkebkaaW.PrintLast Go.Proofs.YtggokppfhkebkaaW.PrintMore

theorem rdT110 (l : List S110) (i : Nat) : rd_T110 l (i : Int) = l.getD i z110 := by simp [rd_T110]
theorem rdT108 (l : List S108) (i : Nat) : rd_T108 l (i : Int) = l.getD i z108 := by simp [rd_T108]
theorem rdL4n (l : List (List S110)) (i : Nat) : rd_L4 l (i : Int) = l.getD i ([] : List S110) := by simp [rd_L4]
theorem eqByteS (l : List Int) (hl : l.length ≤ 4611686018427387904) : Ev (fun k => laws_eqByteS.f k l l) true := by
  refine evpos rfl ?_
  refine down (n := l.length) (P := fun i => Ev (fun k => laws_eqByteS.l0 k l l (i : Int)) true) ?_ ?_
  · exact Ev.step (fun k => rfl) (evneg (by omega) (Ev.now _))
  · intro i hi h
    refine Ev.step (fun k => rfl) (evpos (by omega) (evpos (by omega) (evpos (by omega) (evpos rfl ?_))))
    rw [w64s (by omega)]; exact h
theorem mhByteS (l : List Int) (a : Int) (h0 : 0 ≤ a) (h1 : a + l.length ≤ 4611686018427387904) : ∃ l' : List Int, Ev (fun k => laws_markByteS.f k l a) (a + l.length, l') ∧ Ev (fun k => laws_heldByteS.f k l' a) (a + l.length) ∧ l'.length = l.length := by
  refine ⟨(List.range l.length).map (fun (j : Nat) => (a + (j : Int)) % 256), ?_, ?_, by simp⟩
  · have := down (n := l.length) (P := fun i => Ev (fun k => laws_markByteS.l0 k (f2 l.length (fun (j : Nat) => (a + (j : Int)) % 256) (fun j => l.getD j 0) i) (a + (i : Int)) (i : Int)) (a + l.length, (List.range l.length).map (fun (j : Nat) => (a + (j : Int)) % 256))) ?_ ?_
    · rw [f2_zero] at this; rw [show a + ((0 : Nat) : Int) = a by omega] at this; exact this
    · refine Ev.step (fun k => rfl) (evneg (by rw [f2_len]; omega) ?_)
      rw [f2_all]; exact Ev.now _
    · intro i hi h
      refine Ev.step (fun k => rfl) (evpos (by rw [f2_len]; omega) (evpos (by omega) ?_))
      rw [w64s (by omega), w64 (by omega) (by omega), Int.toNat_natCast, show a + (i : Int) + 1 = a + ((i + 1 : Nat) : Int) by omega]
      rw [← f2_set] at h
      exact h
  · have := down (n := l.length) (P := fun i => Ev (fun k => laws_heldByteS.l0 k ((List.range l.length).map (fun (j : Nat) => (a + (j : Int)) % 256)) (a + (i : Int)) (i : Int)) (a + l.length)) ?_ ?_
    · rw [show a + ((0 : Nat) : Int) = a by omega] at this; exact this
    · exact Ev.step (fun k => rfl) (evneg (by simp) (Ev.now _))
    · intro i hi h
      refine Ev.step (fun k => rfl) (evpos (by simpa using hi) (evpos (by omega) (evpos (by rw [rd_nat, range_getD _ _ _ _ hi]) ?_)))
      rw [w64s (by omega), w64 (by omega) (by omega), show a + (i : Int) + 1 = a + ((i + 1 : Nat) : Int) by omega]
      exact h
def cv110 (y : S110) : S108 := ⟨y.f0, y.f1⟩
theorem toChoiceS (l : List S110) (hl : l.length ≤ 1048576) : Ev (fun k => laws_toChoiceS.f k l) (l.map cv110) := by
  refine evpos (by omega) (evpos (by omega) ?_)
  have := down (n := l.length) (P := fun i => Ev (fun k => laws_toChoiceS.l0 k l (fl z108 l.length (fun j => cv110 (l.getD j z110)) i) (i : Int)) (l.map cv110)) ?_ ?_
  · rw [fl_zero] at this; exact this
  · refine Ev.step (fun k => rfl) (evneg (by omega) ?_)
    rw [fl_all, map_range_get l z110 cv110]; exact Ev.now _
  · intro i hi h
    refine Ev.step (fun k => rfl) (evpos (by omega) (evpos (by omega) (evlet rfl (evpos (by rw [fl_len]; omega) ?_))))
    rw [w64s (by omega), rdT110, Int.toNat_natCast]
    rw [← fl_set] at h
    exact h
theorem eqChoiceS (l : List S108) (hl : l.length ≤ 4611686018427387904) : Ev (fun k => laws_eqChoiceS.f k l l) true := by
  refine evpos rfl ?_
  refine down (n := l.length) (P := fun i => Ev (fun k => laws_eqChoiceS.l0 k l l (i : Int)) true) ?_ ?_
  · exact Ev.step (fun k => rfl) (evneg (by omega) (Ev.now _))
  · intro i hi h
    refine Ev.step (fun k => rfl) (evpos (by omega) (evpos (by omega) (evpos (by omega) (evlet (a := true) ?_ (evpos rfl ?_)))))
    · simp [laws_eqChoice.f]
    rw [w64s (by omega)]; exact h
theorem szChoiceS (l : List S110) (a : Int) (hl : l.length ≤ maxLen) (h0 : 0 ≤ a) (h1 : a ≤ 1048576) : laws_szChoiceS.f l a = some (if a < l.length then -1 else a - l.length) := by
  unfold maxLen at hl
  unfold laws_szChoiceS.f
  rw [w64 (by omega) (by omega)]
  split <;> split <;> first | rfl | omega
theorem markChoiceS (l : List S108) (a : Int) (h0 : 0 ≤ a) (h1 : a + 2 * l.length ≤ 4611686018427387904) : ∃ l' : List S108, Ev (fun k => laws_markChoiceS.f k l a) (a + 2 * l.length, l') ∧ l'.length = l.length := by
  have := down (n := l.length) (P := fun i => ∀ x : List S108, x.length = l.length → ∃ l' : List S108, Ev (fun k => laws_markChoiceS.l0 k x (a + 2 * (i : Int)) (i : Int)) (a + 2 * l.length, l') ∧ l'.length = l.length) ?_ ?_
  · have h := this l rfl
    rw [show a + 2 * ((0 : Nat) : Int) = a by omega] at h; exact h
  · intro x hx
    exact ⟨x, Ev.step (fun k => rfl) (evneg (by omega) (Ev.now _)), hx⟩
  · intro i hi h x hx
    simp only [show a + 2 * ((i + 1 : Nat) : Int) = a + 2 * (i : Int) + 1 + 1 by omega] at h
    obtain ⟨l', e, hl⟩ := h (((x).set i (⟨a + 2 * (i : Int), (x.getD i z108).f1⟩ : S108)).set i (⟨(((x).set i (⟨a + 2 * (i : Int), (x.getD i z108).f1⟩ : S108)).getD i z108).f0, a + 2 * (i : Int) + 1⟩ : S108)) (by simpa using hx)
    refine ⟨l', Ev.step (f := fun k => laws_markChoiceS.l0 k (((x).set i (⟨a + 2 * (i : Int), (x.getD i z108).f1⟩ : S108)).set i (⟨(((x).set i (⟨a + 2 * (i : Int), (x.getD i z108).f1⟩ : S108)).getD i z108).f0, a + 2 * (i : Int) + 1⟩ : S108)) (a + 2 * (i : Int) + 1 + 1) ((i + 1 : Nat) : Int)) (fun k => ?_) e, hl⟩
    simp only [laws_markChoiceS.l0]
    rw [if_pos (by omega), if_pos (by omega)]
    simp only [Option.bind_some, rdT108, Int.toNat_natCast, w64s (show i ≤ 4611686018427387904 by omega), w64 (show -9223372036854775808 ≤ a + 2 * (i : Int) + 1 by omega) (by omega), w64 (show -9223372036854775808 ≤ a + 2 * (i : Int) + 1 + 1 by omega) (by omega)]
/-- a choice that may be -/
def good (a0 : Int) (c : S108) : Bool := decide (0 ≤ c.f0 ∧ c.f0 < a0 ∧ (c.f1 = 0 ∨ c.f1 = 1))
def okc (a0 : Int) (l : List S108) : Bool := decide (1 ≤ a0 ∧ a0 ≤ 512 ∧ l.length ≤ 20000) && l.all (good a0)
theorem ok_spec (a0 : Int) (l : List S108) (hl : l.length ≤ 1048576) : Ev (fun k => spec_l12Ok.f k a0 l) (okc a0 l) := by
  have := down (n := l.length) (P := fun i => Ev (fun k => spec_l12Ok.l0 k a0 l l (l.length : Int) (i : Int)) (decide (1 ≤ a0 ∧ a0 ≤ 512 ∧ l.length ≤ 20000) && (l.drop i).all (good a0))) ?_ ?_
  · exact this
  · refine Ev.step (fun k => rfl) (evneg (by omega) ?_)
    rw [drop_end_all, Bool.and_true]
    by_cases h1 : a0 ≥ 1
    · refine evpos h1 ?_
      by_cases h2 : a0 ≤ 512
      · refine evpos h2 ?_
        have : decide ((l.length : Int) ≤ 20000) = decide (1 ≤ a0 ∧ a0 ≤ 512 ∧ l.length ≤ 20000) := by rw [decide_eq_decide]; omega
        rw [this]; exact Ev.now _
      · rw [show decide (1 ≤ a0 ∧ a0 ≤ 512 ∧ l.length ≤ 20000) = false from decide_eq_false (by omega)]; exact evneg h2 (Ev.now _)
    · rw [show decide (1 ≤ a0 ∧ a0 ≤ 512 ∧ l.length ≤ 20000) = false from decide_eq_false (by omega)]; exact evneg h1 (Ev.now _)
  · intro i hi h
    refine Ev.step (fun k => rfl) (evpos (by omega) (evpos (by omega) (evpos (by omega) ?_)))
    rw [rdT108, getD_lt hi, w64s (by omega), drop_all hi]
    by_cases h1 : l[i].f0 < 0
    · rw [show good a0 l[i] = false from decide_eq_false (by omega)]; simp only [Bool.false_and, Bool.and_false]; exact evpos h1 (Ev.now _)
    refine evneg h1 ?_
    by_cases h2 : l[i].f0 ≥ a0
    · rw [show good a0 l[i] = false from decide_eq_false (by omega)]; simp only [Bool.false_and, Bool.and_false]; exact evpos h2 (Ev.now _)
    refine evneg h2 ?_
    by_cases h3 : l[i].f1 < 0
    · rw [show good a0 l[i] = false from decide_eq_false (by omega)]; simp only [Bool.false_and, Bool.and_false]; exact evpos h3 (Ev.now _)
    refine evneg h3 ?_
    by_cases h4 : l[i].f1 > 1
    · rw [show good a0 l[i] = false from decide_eq_false (by omega)]; simp only [Bool.false_and, Bool.and_false]; exact evpos h4 (Ev.now _)
    refine evneg h4 ?_
    rw [show good a0 l[i] = true from decide_eq_true (by omega), Bool.true_and]; exact h
theorem ok_impl (a0 : Int) (l : List S108) (hl : l.length ≤ 1048576) : Ev (fun k => impl_zchoices.f k a0 l) (okc a0 l) := by
  by_cases h1 : a0 < 1
  · refine evpos h1 (Ev.step (f := fun _ => some false) (fun k => by simp only [impl_zchoices.j0, if_true]) ?_)
    unfold okc; rw [decide_eq_false (by omega), Bool.false_and]; exact Ev.now _
  refine evneg h1 ?_
  by_cases h2 : a0 > 512
  · refine evpos h2 (Ev.step (f := fun _ => some false) (fun k => by simp only [impl_zchoices.j0, if_true]) ?_)
    unfold okc; rw [decide_eq_false (by omega), Bool.false_and]; exact Ev.now _
  refine evneg h2 ?_
  by_cases h3 : (l.length : Int) > 20000
  · refine Ev.step (f := fun _ => some false) (fun k => by simp only [impl_zchoices.j0, decide_eq_true h3, if_true]) ?_
    unfold okc; rw [decide_eq_false (by omega), Bool.false_and]; exact Ev.now _
  refine Ev.step (f := fun k => impl_zchoices.l0 k a0 l (l.length : Int) 0) (fun k => by simp only [impl_zchoices.j0, decide_eq_false h3, Bool.false_eq_true, if_false]) ?_
  unfold okc; rw [decide_eq_true (by omega), Bool.true_and]
  have := down (n := l.length) (P := fun i => Ev (fun k => impl_zchoices.l0 k a0 l (l.length : Int) (i : Int)) ((l.drop i).all (good a0))) ?_ ?_
  · exact this
  · refine Ev.step (fun k => rfl) (evneg (by omega) ?_)
    rw [drop_end_all]; exact Ev.now _
  · intro i hi h
    refine Ev.step (fun k => rfl) (evpos (by omega) (evpos (by omega) (evpos (by omega) ?_)))
    rw [rdT108, getD_lt hi, w64s (by omega), drop_all hi]
    by_cases h1 : l[i].f0 < 0
    · rw [show good a0 l[i] = false from decide_eq_false (by omega)]; exact evpos h1 (Ev.now _)
    refine evneg h1 ?_
    by_cases h2 : l[i].f0 ≥ a0
    · rw [show good a0 l[i] = false from decide_eq_false (by omega)]; exact evpos h2 (Ev.now _)
    refine evneg h2 ?_
    by_cases h3 : l[i].f1 = 0
    · rw [show good a0 l[i] = true from decide_eq_true (by omega), Bool.true_and]; exact evpos h3 h
    refine evneg h3 ?_
    by_cases h4 : l[i].f1 = 1
    · rw [show good a0 l[i] = true from decide_eq_true (by omega), Bool.true_and]; exact evpos h4 h
    · rw [show good a0 l[i] = false from decide_eq_false (by omega)]; exact evneg h4 (Ev.now _)
theorem odds_spec (a0 : Int) (h0 : 0 ≤ a0) (h1 : a0 ≤ 512) : Ev (fun k => spec_l12Odds.f k a0) (List.replicate a0.toNat 2048) := by
  refine evpos h0 (evpos (by omega) (evlet rfl ?_))
  have := down (n := a0.toNat) (P := fun i => Ev (fun k => spec_l12Odds.l0 k (fl 0 a0.toNat (fun _ => 2048) i) (a0.toNat : Int) (i : Int)) (List.replicate a0.toNat 2048)) ?_ ?_
  · rw [fl_zero] at this; rw [List.length_replicate]; exact this
  · refine Ev.step (fun k => rfl) (evneg (by omega) ?_)
    rw [fl_all, List.map_const', List.length_range]; exact Ev.now _
  · intro i hi h
    refine Ev.step (fun k => rfl) (evpos (by omega) (evpos (by omega) (evpos (by rw [fl_len]; omega) ?_)))
    rw [w64s (by omega), Int.toNat_natCast]
    rw [← fl_set] at h
    exact h
theorem odds_impl (a0 : Int) (h0 : 0 ≤ a0) (h1 : a0 ≤ 512) : Ev (fun k => impl_znewOdds.f k a0) (List.replicate a0.toNat 2048) := by
  refine evpos h0 (evpos (by omega) (evlet rfl ?_))
  have := down (n := a0.toNat) (P := fun i => Ev (fun k => impl_znewOdds.l0 k (fl 0 a0.toNat (fun _ => 2048) i) (a0.toNat : Int) (i : Int)) (List.replicate a0.toNat 2048)) ?_ ?_
  · rw [fl_zero] at this; rw [List.length_replicate]; exact this
  · refine Ev.step (fun k => rfl) (evneg (by omega) ?_)
    rw [fl_all, List.map_const', List.length_range]; exact Ev.now _
  · intro i hi h
    refine Ev.step (fun k => rfl) (evpos (by omega) (evpos (by omega) (evpos (by rw [fl_len]; omega) ?_)))
    rw [w64s (by omega), Int.toNat_natCast]
    rw [← fl_set] at h
    exact h
theorem uwn (n : Int) : 0 ≤ IntKind.u64.wrap n := by rw [IntKind.wrap_u64]; omega
theorem uwe {n : Int} (h0 : 0 ≤ n) (h1 : n < 18446744073709551616) : IntKind.u64.wrap n = n := by rw [IntKind.wrap_u64]; omega
/-- A byte is put, with the carry: the program's literal and the reference's method come to the same. -/
theorem shift_both (o : List Int) (lw rg : Int) (hl : o.length ≤ 1000000) (h0 : 0 ≤ lw) : ∃ (o' : List Int) (lw' : Int), o'.length = o.length + 1 ∧ 0 ≤ lw' ∧ Ev (fun k => spec_l12Out_shift.f k o lw rg) (o', lw', rg) ∧ Ev (fun k => impl_zpack_1.f k o lw) (o', lw') := by
  obtain ⟨N, hN⟩ : ∃ N, N = o.length := ⟨_, rfl⟩
  have fin : ∀ q : List Int, q.length = N → impl_zpack_1.e q lw = some (q ++ [(lw / 16777216) % 256], IntKind.u64.wrap ((Go.bits .and .u64 lw 16777215) * 256)) := by
    intro q hq
    unfold impl_zpack_1.e
    rw [if_pos (by omega)]
  have loop : ∀ (m : Nat), m ≤ N → ∀ q : List Int, q.length = N → ∃ (o' : List Int), o'.length = N + 1 ∧ Ev (fun k => spec_l12Out_shift.l0 k ((m : Int) - 1) q lw rg) (o', IntKind.u64.wrap ((Go.bits .and .u64 lw 16777215) * 256), rg) ∧ Ev (fun k => impl_zpack_1.l0 k ((m : Int) - 1) q lw) (o', IntKind.u64.wrap ((Go.bits .and .u64 lw 16777215) * 256)) := by
    intro m
    induction m with
    | zero =>
      intro _ q hq
      exact ⟨q ++ [(lw / 16777216) % 256], by simp; omega, Ev.step (fun k => rfl) (evneg (by omega) (evpos (by omega) (Ev.now _))), Ev.step (fun k => rfl) (evneg (by omega) (evsome (fin q hq)))⟩
    | succ m ih =>
      intro hm q hq
      have e1 : ((m + 1 : Nat) : Int) - 1 = (m : Int) := by omega
      rw [e1]
      obtain ⟨y, hy⟩ : ∃ y : List Int, y = q.set (m : Int).toNat (((rd q (m : Int)) + 1) % 256) := ⟨_, rfl⟩
      have yl : y.length = N := by rw [hy, List.length_set]; exact hq
      have w1 := Aside0.mk (show wrap64 ((m : Int) - 1) = (m : Int) - 1 from w64 (by omega) (by omega))
      by_cases c : rd y (m : Int) = 0
      · obtain ⟨o', g1, g2, g3⟩ := ih (by omega) y yl
        refine ⟨o', g1, Ev.step (fun k => rfl) (evpos (by omega) (evpos (by omega) (evpos (by omega) (evlet (a := y) (by rw [hy]) (evpos c (by rw [w1.out]; exact g2)))))), Ev.step (fun k => rfl) (evpos (by omega) (evpos (by omega) ?_))⟩
        rw [← hy]
        exact evpos c (by rw [w1.out]; exact g3)
      · refine ⟨y ++ [(lw / 16777216) % 256], by simp; omega, Ev.step (fun k => rfl) (evpos (by omega) (evpos (by omega) (evpos (by omega) (evlet (a := y) (by rw [hy]) (evneg c (evpos (by omega) (Ev.now _))))))), Ev.step (fun k => rfl) (evpos (by omega) (evpos (by omega) ?_))⟩
        rw [← hy]
        exact evneg c (evsome (fin y yl))
  by_cases c : lw / 4294967296 = 0
  · exact ⟨o ++ [(lw / 16777216) % 256], _, by simp, uwn _, evneg (by omega) (evpos (by omega) (Ev.now _)), evpos c (evsome (fin o hN.symm))⟩
  · obtain ⟨o', g1, g2, g3⟩ := loop N (Nat.le_refl _) o hN.symm
    have w1 : wrap64 ((o.length : Int) - 1) = (N : Int) - 1 := by rw [hN]; exact w64 (by omega) (by omega)
    refine ⟨o', IntKind.u64.wrap ((Go.bits .and .u64 lw 16777215) * 256), by omega, uwn _, evpos (by omega) ?_, evneg c ?_⟩
    · rw [w1]; exact g2
    · rw [w1]; exact g3
/-- The span is made wide again: at most one byte goes out. -/
theorem wide_both (o : List Int) (lw sp : Int) (hl : o.length ≤ 900000) (h0 : 0 ≤ lw) (s0 : 126976 ≤ sp) (s1 : sp < 4294967296) : ∃ (o' : List Int) (lw' sp' : Int), o'.length ≤ o.length + 1 ∧ 0 ≤ lw' ∧ 16777216 ≤ sp' ∧ sp' < 4294967296 ∧
    Ev (fun k => spec_l12Out_bit.j0 k o lw sp) (o', lw', sp') ∧ ∀ (l : List S108) (i : Int) (od r : List Int), Ev (fun k => impl_zpack.l0 k l (wrap64 (i + 1)) od o' lw' sp') r → Ev (fun k => impl_zpack.l2 k l i od o lw sp) r := by
  by_cases c : sp < 16777216
  · have e : IntKind.u64.wrap (sp * 256) = sp * 256 := uwe (by omega) (by omega)
    obtain ⟨o', lw', g1, g2, g3, g4⟩ := shift_both o lw (sp * 256) (by omega) h0
    refine ⟨o', lw', sp * 256, by omega, g2, by omega, by omega, Ev.step (fun k => rfl) (Ev.step (fun k => rfl) (evpos c ?_)), fun l i od r h => Ev.step (fun k => rfl) (evpos c ?_)⟩
    · rw [e]
      exact Ev.bind g3 (Ev.step (fun k => rfl) (evneg (by simp only; omega) (Ev.now _)))
    · rw [e]
      exact Ev.bind g4 (Ev.step (fun k => rfl) (evneg (by omega) h))
  · exact ⟨o, lw, sp, by omega, h0, by omega, s1, Ev.step (fun k => rfl) (Ev.step (fun k => rfl) (evneg c (Ev.now _))), fun l i od r h => Ev.step (fun k => rfl) (evneg c h)⟩
theorem part_in {rg q : Int} (r0 : 16777216 ≤ rg) (r1 : rg < 4294967296) (q0 : 31 ≤ q) (q1 : q ≤ 4065) : 126976 ≤ (rg / 4096) * q ∧ (rg / 4096) * q ≤ rg - 126976 := by
  have a0 : 4096 ≤ rg / 4096 := by omega
  have h1 : 4096 * 31 ≤ (rg / 4096) * q := Int.mul_le_mul a0 q0 (by omega) (by omega)
  have h2 : (rg / 4096) * q ≤ (rg / 4096) * 4065 := Int.mul_le_mul_of_nonneg_left q1 (by omega)
  omega
theorem four_both (o : List Int) (lw rg : Int) (hl : o.length ≤ 30000) (h0 : 0 ≤ lw) : ∃ r : List Int, r.length ≤ 40000 ∧ Ev (fun k => spec_l12Pack.l1 k 0 o lw rg) r ∧ Ev (fun k => impl_zpack.l1 k 0 o lw) r := by
  refine down (n := 4) (P := fun i => ∀ (o : List Int) (lw : Int), o.length ≤ 30000 + i → 0 ≤ lw → ∃ r : List Int, r.length ≤ 40000 ∧ Ev (fun k => spec_l12Pack.l1 k (i : Int) o lw rg) r ∧ Ev (fun k => impl_zpack.l1 k (i : Int) o lw) r) ?_ ?_ o lw (by omega) h0
  · intro o lw ho h0
    exact ⟨o, by omega, Ev.step (fun k => rfl) (evneg (by omega) (Ev.now _)), Ev.step (fun k => rfl) (evneg (by omega) (Ev.now _))⟩
  · intro i hi next o lw ho h0
    obtain ⟨o', lw', g1, g2, g3, g4⟩ := shift_both o lw rg (by omega) h0
    obtain ⟨r, hr, n1, n2⟩ := next o' lw' (by omega) g2
    have e := Aside0.mk (show wrap64 ((i : Int) + 1) = ((i + 1 : Nat) : Int) from w64s (by omega))
    exact ⟨r, hr, Ev.step (fun k => rfl) (evpos (by omega) (Ev.bind g3 (by rw [e.out]; exact n1))), Ev.step (fun k => rfl) (evpos (by omega) (Ev.bind g4 (by rw [e.out]; exact n2)))⟩
theorem pack_both (a0 : Int) (l : List S108) (hl : l.length ≤ 1048576) : ∃ r : List Int, r.length ≤ 40000 ∧ Ev (fun k => spec_OddsPack.f k a0 l) r ∧ Ev (fun k => impl_OddsPack.f k a0 l) r := by
  cases hok : okc a0 l with
  | false => exact ⟨[], by simp, Ev.bind (ok_spec a0 l hl) (by rw [hok]; exact evneg (by simp) (Ev.now _)), Ev.bind (ok_impl a0 l hl) (by rw [hok]; exact evneg (by simp) (Ev.now _))⟩
  | true =>
    have hok' := hok
    unfold okc at hok'
    rw [Bool.and_eq_true, decide_eq_true_iff, List.all_eq_true] at hok'
    obtain ⟨⟨b0, b1, b2⟩, hg⟩ := hok'
    have main := down (n := l.length) (P := fun i => ∀ (od o : List Int) (lw rg : Int), od.length = a0.toNat → (∀ j, j < od.length → 31 ≤ od.getD j 0 ∧ od.getD j 0 ≤ 4065) → o.length ≤ i → 0 ≤ lw → 16777216 ≤ rg → rg < 4294967296 → ∃ r : List Int, r.length ≤ 40000 ∧ Ev (fun k => spec_l12Pack.l0 k l (i : Int) od o lw rg) r ∧ Ev (fun k => impl_zpack.l0 k l (i : Int) od o lw rg) r) ?_ ?_
    · obtain ⟨r, hr, h1, h2⟩ := main (List.replicate a0.toNat 2048) [] 0 4294967295 (by simp) (fun j hj => by
        rw [getD_lt hj]; simp) (by simp) (by omega) (by omega) (by omega)
      refine ⟨r, hr, Ev.bind (ok_spec a0 l hl) ?_, Ev.bind (ok_impl a0 l hl) ?_⟩
      · rw [hok]; exact evpos rfl (Ev.bind (Ev.bind (odds_spec a0 (by omega) b1) h1) (Ev.now _))
      · rw [hok]; exact evpos rfl (Ev.bind (Ev.bind (odds_impl a0 (by omega) b1) h2) (Ev.now _))
    · intro od o lw rg _ _ ho h0 _ _
      obtain ⟨r, hr, n1, n2⟩ := four_both o lw rg (by omega) h0
      exact ⟨r, hr, Ev.step (fun k => rfl) (evneg (by omega) n1), Ev.step (fun k => rfl) (evneg (by omega) n2)⟩
    · intro i hi next od o lw rg hod hb ho h0 r0 r1
      have hgi := hg _ (List.getElem_mem hi)
      unfold good at hgi
      rw [decide_eq_true_iff] at hgi
      obtain ⟨g0, g1, g2⟩ := hgi
      have e : rd_T108 l (i : Int) = l[i] := by rw [rdT108, getD_lt hi]
      have hp := hb l[i].f0.toNat (by omega)
      generalize hP : od.getD l[i].f0.toNat 0 = p at hp
      have hrd : rd od l[i].f0 = p := by unfold rd; exact hP
      have nx : ∀ v : Int, 31 ≤ v → v ≤ 4065 → (od.set l[i].f0.toNat v).length = a0.toNat ∧ (∀ j, j < (od.set l[i].f0.toNat v).length → 31 ≤ (od.set l[i].f0.toNat v).getD j 0 ∧ (od.set l[i].f0.toNat v).getD j 0 ≤ 4065) := by
        intro v v0 v1
        refine ⟨by simpa using hod, fun j hj => ?_⟩
        rw [List.length_set] at hj
        rw [List.getD_eq_getElem?_getD, List.getElem?_set]
        split
        · rw [if_pos (by omega)]; exact ⟨v0, v1⟩
        · rw [← List.getD_eq_getElem?_getD]; exact hb j hj
      have pt := part_in r0 r1 hp.1 hp.2
      have up : IntKind.u64.wrap p = p := uwe (by omega) (by omega)
      have us : IntKind.u64.wrap ((rg / 4096) * p) = (rg / 4096) * p := uwe (by omega) (by omega)
      have uq : IntKind.u64.wrap (rg - (rg / 4096) * p) = rg - (rg / 4096) * p := uwe (by omega) (by omega)
      have w1 := Aside0.mk (show wrap64 ((i : Int) + 1) = ((i + 1 : Nat) : Int) from w64s (by omega))
      have lp : l[i].f0 < (od.length : Int) := by omega
      generalize hs : (rg / 4096) * p = s at pt us uq
      have US := Aside0.mk us
      have UQ := Aside0.mk uq
      have UP := Aside0.mk up
      have HS := Aside0.mk hs
      clear us uq up hs
      rcases g2 with g2 | g2
      · obtain ⟨o', lw', sp', q1, q2, q3, q4, q5, q6⟩ := wide_both o lw s (by omega) h0 (by omega) (by omega)
        have hv : 31 ≤ p + (4096 - p) / 32 ∧ p + (4096 - p) / 32 ≤ 4065 := by omega
        obtain ⟨r, hr, n1, n2⟩ := next (od.set l[i].f0.toNat (p + (4096 - p) / 32)) o' lw' sp' (nx _ hv.1 hv.2).1 (nx _ hv.1 hv.2).2 (by omega) q2 q3 q4
        refine ⟨r, hr, Ev.step (fun k => rfl) (evpos (by omega) (evpos (by omega) ?_)), Ev.step (fun k => rfl) (evpos (by omega) (evpos (by omega) ?_))⟩
        · rw [e, hrd]
          refine evpos g0 (evpos lp (Ev.bind (a := (o', lw', sp')) ?_ (evlet (a := p + (4096 - p) / 32) ?_ ?_)))
          · refine evpos g2 ?_
            rw [UP.out, HS.out, US.out]; exact q5
          · unfold spec_l12Learn.f; rw [if_pos g2, w64 (n := 4096 - p) (by omega) (by omega), w64 (by omega) (by omega)]
          · rw [w1.out]; exact n1
        · rw [e, hrd]
          refine evpos g0 (evpos lp (evpos g2 (evlet (a := od.set l[i].f0.toNat (p + (4096 - p) / 32)) ?_ ?_)))
          · unfold impl_zodds_learn.f; rw [if_pos g2, if_pos g0, if_pos lp, hrd, w64 (n := 4096 - p) (by omega) (by omega), w64 (by omega) (by omega)]
          · rw [UP.out, HS.out, US.out]
            exact q6 _ _ _ _ (by rw [w1.out]; exact n2)
      · obtain ⟨o', lw', sp', q1, q2, q3, q4, q5, q6⟩ := wide_both o (IntKind.u64.wrap (lw + s)) (rg - s) (by omega) (uwn _) (by omega) (by omega)
        have hv : 31 ≤ p - p / 32 ∧ p - p / 32 ≤ 4065 := by omega
        obtain ⟨r, hr, n1, n2⟩ := next (od.set l[i].f0.toNat (p - p / 32)) o' lw' sp' (nx _ hv.1 hv.2).1 (nx _ hv.1 hv.2).2 (by omega) q2 q3 q4
        have gn : ¬ l[i].f1 = 0 := by omega
        refine ⟨r, hr, Ev.step (fun k => rfl) (evpos (by omega) (evpos (by omega) ?_)), Ev.step (fun k => rfl) (evpos (by omega) (evpos (by omega) ?_))⟩
        · rw [e, hrd]
          refine evpos g0 (evpos lp (Ev.bind (a := (o', lw', sp')) ?_ (evlet (a := p - p / 32) ?_ ?_)))
          · refine evneg gn ?_
            rw [UP.out, HS.out, US.out, UQ.out]; exact q5
          · unfold spec_l12Learn.f; rw [if_neg gn, w64 (by omega) (by omega)]
          · rw [w1.out]; exact n1
        · rw [e, hrd]
          refine evpos g0 (evpos lp (evneg gn (evlet (a := od.set l[i].f0.toNat (p - p / 32)) ?_ ?_)))
          · unfold impl_zodds_learn.f; rw [if_neg gn, if_pos g0, if_pos lp, hrd, w64 (by omega) (by omega)]
          · rw [UP.out, HS.out, US.out, UQ.out]
            exact q6 _ _ _ _ (by rw [w1.out]; exact n2)
theorem FnExactOddsPack : laws_FnExactOddsPack.Pure := by
  intro a0 l1 _ ⟨hl, _⟩
  refine Ev.rounds ?_
  have sz := szChoiceS l1 1048576 hl (by omega) (by omega)
  refine evlet sz ?_
  by_cases c : (1048576 : Int) < l1.length
  · rw [if_pos c]; exact evpos (by omega) (Ev.now _)
  rw [if_neg c]
  refine evneg (by omega) ?_
  have t := toChoiceS l1 (by omega)
  have lc : (l1.map cv110).length ≤ 1048576 := by simp; omega
  obtain ⟨o, ho, s, p⟩ := pack_both a0 (l1.map cv110) lc
  have eo := eqByteS o (by omega)
  have ec := eqChoiceS (l1.map cv110) (by omega)
  obtain ⟨m', hm, _⟩ := markChoiceS (l1.map cv110) 1 (by omega) (by omega)
  obtain ⟨g, hg1, hg2, _⟩ := mhByteS o 1 (by omega) (by omega)
  have jn : Ev (fun k => laws_FnExactOddsPack.j0 k a0 l1 o o (!true)) true := by
    refine Ev.step (f := fun k => (laws_markByteS.f k o 1).bind fun bt186 => ((laws_heldByteS.f k bt186.2 1).bind fun t188 => (if t188 < 0 then (some false) else (if t188 = bt186.1 then ((laws_toChoiceS.f k l1).bind fun t189 => ((impl_OddsPack.f k a0 t189).bind fun t192 => ((laws_eqByteS.f k t192 o).bind fun t195 => (if t195 = true then ((laws_heldByteS.f k bt186.2 1).bind fun t196 => (if t196 < 0 then (some false) else (if t196 = bt186.1 then (some true) else (some false)))) else (some false))))) else (some false))))) (fun k => by simp only [laws_FnExactOddsPack.j0, Bool.not_true, Bool.false_eq_true, if_false]) ?_
    exact Ev.bind hg1 (Ev.bind hg2 (evneg (by omega) (evpos rfl (Ev.bind t (Ev.bind p (Ev.bind eo (evpos rfl (Ev.bind hg2 (evneg (by omega) (evpos rfl (Ev.now _)))))))))))
  refine Ev.bind t (Ev.bind s (Ev.bind t (Ev.bind p (Ev.bind eo (evpos rfl (Ev.bind t (Ev.bind ec (evpos rfl (Ev.bind hm ?_)))))))))
  exact evneg (by simp only; omega) (Ev.bind eo jn)
end Go.Proofs.Ytggokppfhkebkaa.Pure

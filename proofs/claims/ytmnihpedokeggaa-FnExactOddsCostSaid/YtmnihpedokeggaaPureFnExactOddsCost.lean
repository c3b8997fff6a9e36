/- FnExactOddsCost: for every number of places and every list of choices the program's OddsCost answers what the reference's answers, and writes into no argument. -/
import Derived.Test.YtmnihpedokeggaaPFnExactOddsCostx5
import Derived.Test.YtmnihpedokeggaaK
namespace Go.Proofs.Ytmnihpedokeggaa.Pure
open Go.RowKit Go.Proofs.Ytmnihpedokeggaa.PFnExactOddsCost Go.Proofs.Ytmnihpedokeggaa.K Go.Proofs.YtmnihpedokeggaaW.PrintWords Go.Proofs.YtmnihpedokeggaaW.PrintLast Go.Proofs.YtmnihpedokeggaaW.PrintMore

def cv (y : S90) : S85 := ⟨y.f0, y.f1⟩
theorem rdT90 (l : List S90) (i : Nat) : rd_T90 l (i : Int) = l.getD i z90 := by simp [rd_T90]
theorem rdT85 (l : List S85) (i : Nat) : rd_T85 l (i : Int) = l.getD i z85 := by simp [rd_T85]
theorem toChoiceS (l : List S90) (hl : l.length ≤ 1048576) : Ev (fun k => laws_toChoiceS.f k l) (l.map cv) := by
  refine evpos (by omega) (evpos (by omega) ?_)
  have := down (n := l.length) (P := fun i => Ev (fun k => laws_toChoiceS.l0 k l (fl z85 l.length (fun j => cv (l.getD j z90)) i) (i : Int)) (l.map cv)) ?_ ?_
  · rw [fl_zero] at this; exact this
  · refine Ev.step (fun k => rfl) (evneg (by omega) ?_)
    rw [fl_all, map_range_get l z90 cv]; exact Ev.now _
  · intro i hi h
    refine Ev.step (fun k => rfl) (evpos (by omega) (evpos (by omega) (evlet rfl (evpos (by rw [fl_len]; omega) ?_))))
    rw [w64s (by omega), rdT90, Int.toNat_natCast]
    rw [← fl_set] at h
    exact h
theorem eqChoiceS (l : List S85) (hl : l.length ≤ 1048576) : Ev (fun k => laws_eqChoiceS.f k l l) true := by
  refine evpos rfl ?_
  refine down (n := l.length) (P := fun i => Ev (fun k => laws_eqChoiceS.l0 k l l (i : Int)) true) ?_ ?_
  · exact Ev.step (fun k => rfl) (evneg (by omega) (Ev.now _))
  · intro i hi h
    refine Ev.step (fun k => rfl) (evpos (by omega) (evpos (by omega) (evpos (by omega) (evlet (a := true) ?_ (evpos rfl ?_)))))
    · unfold laws_eqChoice.f; rw [if_pos rfl, if_pos rfl]
    rw [w64s (by omega)]; exact h

/-- a choice that may be -/
def good (a0 : Int) (c : S85) : Bool := decide (0 ≤ c.f0 ∧ c.f0 < a0 ∧ (c.f1 = 0 ∨ c.f1 = 1))
def okc (a0 : Int) (l : List S85) : Bool := decide (1 ≤ a0 ∧ a0 ≤ 512 ∧ l.length ≤ 20000) && l.all (good a0)
theorem ok_spec (a0 : Int) (l : List S85) (hl : l.length ≤ 1048576) : Ev (fun k => spec_l12Ok.f k a0 l) (okc a0 l) := by
  have := down (n := l.length) (P := fun i => Ev (fun k => spec_l12Ok.l0 k a0 l l (l.length : Int) (i : Int)) (decide (1 ≤ a0 ∧ a0 ≤ 512 ∧ l.length ≤ 20000) && (l.drop i).all (good a0))) ?_ ?_
  · exact this
  · refine Ev.step (fun k => rfl) (evneg (by omega) ?_)
    rw [drop_end_all, Bool.and_true]
    by_cases h1 : a0 ≥ 1
    · refine evpos h1 ?_
      by_cases h2 : a0 ≤ 512
      · refine evpos h2 ?_
        have : decide ((l.length : Int) ≤ 20000) = decide (1 ≤ a0 ∧ a0 ≤ 512 ∧ l.length ≤ 20000) := by rw [decide_eq_decide]; omega
        rw [this]; exact Ev.now _
      · rw [show decide (1 ≤ a0 ∧ a0 ≤ 512 ∧ l.length ≤ 20000) = false from decide_eq_false (by omega)]; exact evneg h2 (Ev.now _)
    · rw [show decide (1 ≤ a0 ∧ a0 ≤ 512 ∧ l.length ≤ 20000) = false from decide_eq_false (by omega)]; exact evneg h1 (Ev.now _)
  · intro i hi h
    refine Ev.step (fun k => rfl) (evpos (by omega) (evpos (by omega) (evpos (by omega) ?_)))
    rw [rdT85, getD_lt hi, w64s (by omega), drop_all hi]
    by_cases h1 : l[i].f0 < 0
    · rw [show good a0 l[i] = false from decide_eq_false (by omega)]; simp only [Bool.false_and, Bool.and_false]; exact evpos h1 (Ev.now _)
    refine evneg h1 ?_
    by_cases h2 : l[i].f0 ≥ a0
    · rw [show good a0 l[i] = false from decide_eq_false (by omega)]; simp only [Bool.false_and, Bool.and_false]; exact evpos h2 (Ev.now _)
    refine evneg h2 ?_
    by_cases h3 : l[i].f1 < 0
    · rw [show good a0 l[i] = false from decide_eq_false (by omega)]; simp only [Bool.false_and, Bool.and_false]; exact evpos h3 (Ev.now _)
    refine evneg h3 ?_
    by_cases h4 : l[i].f1 > 1
    · rw [show good a0 l[i] = false from decide_eq_false (by omega)]; simp only [Bool.false_and, Bool.and_false]; exact evpos h4 (Ev.now _)
    refine evneg h4 ?_
    rw [show good a0 l[i] = true from decide_eq_true (by omega), Bool.true_and]; exact h
theorem ok_impl (a0 : Int) (l : List S85) (hl : l.length ≤ 1048576) : Ev (fun k => impl_zchoices.f k a0 l) (okc a0 l) := by
  by_cases h1 : a0 < 1
  · refine evpos h1 (Ev.step (f := fun _ => some false) (fun k => by simp only [impl_zchoices.j0, if_true]) ?_)
    unfold okc; rw [decide_eq_false (by omega), Bool.false_and]; exact Ev.now _
  refine evneg h1 ?_
  by_cases h2 : a0 > 512
  · refine evpos h2 (Ev.step (f := fun _ => some false) (fun k => by simp only [impl_zchoices.j0, if_true]) ?_)
    unfold okc; rw [decide_eq_false (by omega), Bool.false_and]; exact Ev.now _
  refine evneg h2 ?_
  by_cases h3 : (l.length : Int) > 20000
  · refine Ev.step (f := fun _ => some false) (fun k => by simp only [impl_zchoices.j0, decide_eq_true h3, if_true]) ?_
    unfold okc; rw [decide_eq_false (by omega), Bool.false_and]; exact Ev.now _
  refine Ev.step (f := fun k => impl_zchoices.l0 k a0 l (l.length : Int) 0) (fun k => by simp only [impl_zchoices.j0, decide_eq_false h3, Bool.false_eq_true, if_false]) ?_
  unfold okc; rw [decide_eq_true (by omega), Bool.true_and]
  have := down (n := l.length) (P := fun i => Ev (fun k => impl_zchoices.l0 k a0 l (l.length : Int) (i : Int)) ((l.drop i).all (good a0))) ?_ ?_
  · exact this
  · refine Ev.step (fun k => rfl) (evneg (by omega) ?_)
    rw [drop_end_all]; exact Ev.now _
  · intro i hi h
    refine Ev.step (fun k => rfl) (evpos (by omega) (evpos (by omega) (evpos (by omega) ?_)))
    rw [rdT85, getD_lt hi, w64s (by omega), drop_all hi]
    by_cases h1 : l[i].f0 < 0
    · rw [show good a0 l[i] = false from decide_eq_false (by omega)]; exact evpos h1 (Ev.now _)
    refine evneg h1 ?_
    by_cases h2 : l[i].f0 ≥ a0
    · rw [show good a0 l[i] = false from decide_eq_false (by omega)]; exact evpos h2 (Ev.now _)
    refine evneg h2 ?_
    by_cases h3 : l[i].f1 = 0
    · rw [show good a0 l[i] = true from decide_eq_true (by omega), Bool.true_and]; exact evpos h3 h
    refine evneg h3 ?_
    by_cases h4 : l[i].f1 = 1
    · rw [show good a0 l[i] = true from decide_eq_true (by omega), Bool.true_and]; exact evpos h4 h
    · rw [show good a0 l[i] = false from decide_eq_false (by omega)]; exact evneg h4 (Ev.now _)
theorem odds_spec (a0 : Int) (h0 : 0 ≤ a0) (h1 : a0 ≤ 512) : Ev (fun k => spec_l12Odds.f k a0) (List.replicate a0.toNat 2048) := by
  refine evpos h0 (evpos (by omega) (evlet rfl ?_))
  have := down (n := a0.toNat) (P := fun i => Ev (fun k => spec_l12Odds.l0 k (fl 0 a0.toNat (fun _ => 2048) i) (a0.toNat : Int) (i : Int)) (List.replicate a0.toNat 2048)) ?_ ?_
  · rw [fl_zero] at this; rw [List.length_replicate]; exact this
  · refine Ev.step (fun k => rfl) (evneg (by omega) ?_)
    rw [fl_all, List.map_const', List.length_range]; exact Ev.now _
  · intro i hi h
    refine Ev.step (fun k => rfl) (evpos (by omega) (evpos (by omega) (evpos (by rw [fl_len]; omega) ?_)))
    rw [w64s (by omega), Int.toNat_natCast]
    rw [← fl_set] at h
    exact h
theorem odds_impl (a0 : Int) (h0 : 0 ≤ a0) (h1 : a0 ≤ 512) : Ev (fun k => impl_znewOdds.f k a0) (List.replicate a0.toNat 2048) := by
  refine evpos h0 (evpos (by omega) (evlet rfl ?_))
  have := down (n := a0.toNat) (P := fun i => Ev (fun k => impl_znewOdds.l0 k (fl 0 a0.toNat (fun _ => 2048) i) (a0.toNat : Int) (i : Int)) (List.replicate a0.toNat 2048)) ?_ ?_
  · rw [fl_zero] at this; rw [List.length_replicate]; exact this
  · refine Ev.step (fun k => rfl) (evneg (by omega) ?_)
    rw [fl_all, List.map_const', List.length_range]; exact Ev.now _
  · intro i hi h
    refine Ev.step (fun k => rfl) (evpos (by omega) (evpos (by omega) (evpos (by rw [fl_len]; omega) ?_)))
    rw [w64s (by omega), Int.toNat_natCast]
    rw [← fl_set] at h
    exact h
theorem log_all : ∀ v : Fin 258, (spec_l12Log.f 20 (v.val : Int)).isSome = true ∧ spec_l12Log.f 20 (v.val : Int) = impl_zlog.f 20 (v.val : Int) := by decide +kernel
theorem log_both (v : Int) (h0 : 0 ≤ v) (h1 : v ≤ 257) : ∃ r, Ev (fun k => spec_l12Log.f k v) r ∧ Ev (fun k => impl_zlog.f k v) r := by
  have h := log_all ⟨v.toNat, by omega⟩
  simp only [Int.toNat_of_nonneg h0] at h
  obtain ⟨r, hr⟩ := Option.isSome_iff_exists.1 h.1
  exact ⟨r, Ev.of (spec_l12Log.mono v) hr, Ev.of (impl_zlog.mono v) (h.2 ▸ hr)⟩
theorem cost_both (a0 : Int) (l : List S85) (hl : l.length ≤ 1048576) : ∃ r, Ev (fun k => spec_OddsCost.f k a0 l) r ∧ Ev (fun k => impl_OddsCost.f k a0 l) r := by
  cases hok : okc a0 l with
  | false => exact ⟨-1, Ev.bind (ok_spec a0 l hl) (by rw [hok]; exact evneg (by simp) (Ev.now _)), Ev.bind (ok_impl a0 l hl) (by rw [hok]; exact evneg (by simp) (Ev.now _))⟩
  | true =>
    have hok' := hok
    unfold okc at hok'
    rw [Bool.and_eq_true, decide_eq_true_iff, List.all_eq_true] at hok'
    obtain ⟨⟨b0, b1, b2⟩, hg⟩ := hok'
    have main := down (n := l.length) (P := fun i => ∀ (o : List Int) (n : Int), o.length = a0.toNat → (∀ j, 0 ≤ o.getD j 0 ∧ o.getD j 0 ≤ 4096) → ∃ r, Ev (fun k => spec_OddsCost.l0 k o n l (l.length : Int) (i : Int)) r ∧ Ev (fun k => impl_OddsCost.l0 k o n l (l.length : Int) (i : Int)) r) ?_ ?_
    · obtain ⟨r, h1, h2⟩ := main (List.replicate a0.toNat 2048) 0 (by simp) (fun j => by
        by_cases hj : j < a0.toNat
        · rw [getD_lt (by simpa using hj)]; simp
        · rw [getD_ge (by simpa using hj)]; omega)
      refine ⟨r, Ev.bind (ok_spec a0 l hl) ?_, Ev.bind (ok_impl a0 l hl) ?_⟩
      · rw [hok]; exact evpos rfl (Ev.bind (odds_spec a0 (by omega) b1) h1)
      · rw [hok]; exact evpos rfl (Ev.bind (odds_impl a0 (by omega) b1) h2)
    · intro o n _ _
      exact ⟨n, Ev.step (fun k => rfl) (evneg (by omega) (Ev.now _)), Ev.step (fun k => rfl) (evneg (by omega) (Ev.now _))⟩
    · intro i hi ih o n ho hb
      have hgi := hg _ (List.getElem_mem hi)
      unfold good at hgi
      rw [decide_eq_true_iff] at hgi
      obtain ⟨g0, g1, g2⟩ := hgi
      have e : rd_T85 l (i : Int) = l[i] := by rw [rdT85, getD_lt hi]
      have hp := hb l[i].f0.toNat
      generalize hP : o.getD l[i].f0.toNat 0 = p at hp
      have hrd : rd o l[i].f0 = p := by unfold rd; exact hP
      have next : ∀ v : Int, 0 ≤ v → v ≤ 4096 → (o.set l[i].f0.toNat v).length = a0.toNat ∧ (∀ j, 0 ≤ (o.set l[i].f0.toNat v).getD j 0 ∧ (o.set l[i].f0.toNat v).getD j 0 ≤ 4096) := by
        intro v v0 v1
        refine ⟨by simpa using ho, fun j => ?_⟩
        rw [List.getD_eq_getElem?_getD, List.getElem?_set]
        split
        · split
          · simpa using ⟨v0, v1⟩
          · simp
        · rw [← List.getD_eq_getElem?_getD]; exact hb j
      rcases g2 with g2 | g2
      · obtain ⟨r0, L1, L2⟩ := log_both ((p + 8) / 16) (by omega) (by omega)
        have hv : 0 ≤ p + (4096 - p) / 32 ∧ p + (4096 - p) / 32 ≤ 4096 := by omega
        obtain ⟨r, h1, h2⟩ := ih (o.set l[i].f0.toNat (p + (4096 - p) / 32)) (wrap64 (n + r0)) (next _ hv.1 hv.2).1 (next _ hv.1 hv.2).2
        refine ⟨r, Ev.step (fun k => rfl) (evpos (by omega) (evpos (by omega) (evpos (by omega) ?_))), Ev.step (fun k => rfl) (evpos (by omega) (evpos (by omega) (evpos (by omega) ?_)))⟩
        · rw [e, hrd]
          refine evpos g0 (evpos (by omega) (evneg (by omega) ?_))
          rw [w64 (n := p + 8) (by omega) (by omega)]
          refine Ev.bind L1 (evlet (a := p + (4096 - p) / 32) ?_ ?_)
          · unfold spec_l12Learn.f; rw [if_pos g2, w64 (n := 4096 - p) (by omega) (by omega), w64 (by omega) (by omega)]
          · rw [w64s (by omega)]; exact h1
        · rw [e, hrd]
          refine evpos g0 (evpos (by omega) (evneg (by omega) ?_))
          rw [w64 (n := p + 8) (by omega) (by omega)]
          refine Ev.bind L2 (evlet (a := o.set l[i].f0.toNat (p + (4096 - p) / 32)) ?_ ?_)
          · unfold impl_zodds_learn.f; rw [if_pos g2, if_pos g0, if_pos (by omega), hrd, w64 (n := 4096 - p) (by omega) (by omega), w64 (by omega) (by omega)]
          · rw [w64s (by omega)]; exact h2
      · obtain ⟨r0, L1, L2⟩ := log_both ((4096 - p + 8) / 16) (by omega) (by omega)
        have hv : 0 ≤ p - p / 32 ∧ p - p / 32 ≤ 4096 := by omega
        obtain ⟨r, h1, h2⟩ := ih (o.set l[i].f0.toNat (p - p / 32)) (wrap64 (n + r0)) (next _ hv.1 hv.2).1 (next _ hv.1 hv.2).2
        refine ⟨r, Ev.step (fun k => rfl) (evpos (by omega) (evpos (by omega) (evpos (by omega) ?_))), Ev.step (fun k => rfl) (evpos (by omega) (evpos (by omega) (evpos (by omega) ?_)))⟩
        · rw [e, hrd]
          refine evpos g0 (evpos (by omega) (evpos g2 ?_))
          rw [w64 (n := 4096 - p) (by omega) (by omega), w64 (n := 4096 - p + 8) (by omega) (by omega)]
          refine Ev.bind L1 (evlet (a := p - p / 32) ?_ ?_)
          · unfold spec_l12Learn.f; rw [if_neg (by omega), w64 (by omega) (by omega)]
          · rw [w64s (by omega)]; exact h1
        · rw [e, hrd]
          refine evpos g0 (evpos (by omega) (evpos g2 ?_))
          rw [w64 (n := 4096 - p) (by omega) (by omega), w64 (n := 4096 - p + 8) (by omega) (by omega)]
          refine Ev.bind L2 (evlet (a := o.set l[i].f0.toNat (p - p / 32)) ?_ ?_)
          · unfold impl_zodds_learn.f; rw [if_neg (by omega), if_pos g0, if_pos (by omega), hrd, w64 (by omega) (by omega)]
          · rw [w64s (by omega)]; exact h2
theorem FnExactOddsCost : laws_FnExactOddsCost.Pure := by
  intro a0 l1 _ ⟨hl, _⟩
  refine Ev.rounds ?_
  unfold maxLen at hl
  have sz : laws_szChoiceS.f l1 1048576 = some (if 1048576 < l1.length then -1 else (1048576 - l1.length : Int)) := by
    unfold laws_szChoiceS.f
    rw [w64 (by omega) (by omega)]
    split <;> split <;> first | rfl | omega
  refine evlet sz ?_
  by_cases c : 1048576 < l1.length
  · rw [if_pos c]; exact evpos (by omega) (Ev.now _)
  rw [if_neg c]
  refine evneg (by omega) ?_
  have t := toChoiceS l1 (by omega)
  have lc : (l1.map cv).length ≤ 1048576 := by simp; omega
  obtain ⟨r, h1, h2⟩ := cost_both a0 (l1.map cv) lc
  exact Ev.bind t (Ev.bind h1 (Ev.bind t (Ev.bind h2 (evpos rfl (Ev.bind t (Ev.bind (eqChoiceS _ lc) (evpos rfl (Ev.now _))))))))
end Go.Proofs.Ytmnihpedokeggaa.Pure

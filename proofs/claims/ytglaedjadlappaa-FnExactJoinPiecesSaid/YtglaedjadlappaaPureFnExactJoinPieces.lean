/- FnExactJoinPieces: for every list of pieces the program's JoinPieces answers what the reference's answers, writes into no argument, and its answer owns its memory. -/
import Derived.Test.YtglaedjadlappaaPFnExactJoinPiecesx5
import Derived.Test.YtglaedjadlappaaPFnExactJoinPiecesx2
import Derived.Test.YtglaedjadlappaaK
namespace Go.Proofs.Ytglaedjadlappaa.Pure
open Go.RowKit Go.Proofs.Ytglaedjadlappaa.PFnExactJoinPieces Go.Proofs.Ytglaedjadlappaa.K Go.Proofs.YtglaedjadlappaaW.PrintWords Go.Proofs.YtglaedjadlappaaW.PrintLast Go.Proofs.YtglaedjadlappaaW.PrintMore

theorem rdT129 (l : List S129) (i : Nat) : rd_T129 l (i : Int) = l.getD i z129 := by simp [rd_T129]
theorem rdT126 (l : List S126) (i : Nat) : rd_T126 l (i : Int) = l.getD i z126 := by simp [rd_T126]
theorem rdL4n (l : List (List S129)) (i : Nat) : rd_L4 l (i : Int) = l.getD i ([] : List S129) := by simp [rd_L4]
theorem eqByteS (l : List Int) (hl : l.length ≤ 4611686018427387904) : Ev (fun k => laws_eqByteS.f k l l) true := by
  refine evpos rfl ?_
  refine down (n := l.length) (P := fun i => Ev (fun k => laws_eqByteS.l0 k l l (i : Int)) true) ?_ ?_
  · exact Ev.step (fun k => rfl) (evneg (by omega) (Ev.now _))
  · intro i hi h
    refine Ev.step (fun k => rfl) (evpos (by omega) (evpos (by omega) (evpos (by omega) (evpos rfl ?_))))
    rw [w64s (by omega)]; exact h
theorem mhByteS (l : List Int) (a : Int) (h0 : 0 ≤ a) (h1 : a + l.length ≤ 4611686018427387904) : ∃ l' : List Int, Ev (fun k => laws_markByteS.f k l a) (a + l.length, l') ∧ Ev (fun k => laws_heldByteS.f k l' a) (a + l.length) ∧ l'.length = l.length := by
  refine ⟨(List.range l.length).map (fun (j : Nat) => (a + (j : Int)) % 256), ?_, ?_, by simp⟩
  · have := down (n := l.length) (P := fun i => Ev (fun k => laws_markByteS.l0 k (f2 l.length (fun (j : Nat) => (a + (j : Int)) % 256) (fun j => l.getD j 0) i) (a + (i : Int)) (i : Int)) (a + l.length, (List.range l.length).map (fun (j : Nat) => (a + (j : Int)) % 256))) ?_ ?_
    · rw [f2_zero] at this; rw [show a + ((0 : Nat) : Int) = a by omega] at this; exact this
    · refine Ev.step (fun k => rfl) (evneg (by rw [f2_len]; omega) ?_)
      rw [f2_all]; exact Ev.now _
    · intro i hi h
      refine Ev.step (fun k => rfl) (evpos (by rw [f2_len]; omega) (evpos (by omega) ?_))
      rw [w64s (by omega), w64 (by omega) (by omega), Int.toNat_natCast, show a + (i : Int) + 1 = a + ((i + 1 : Nat) : Int) by omega]
      rw [← f2_set] at h
      exact h
  · have := down (n := l.length) (P := fun i => Ev (fun k => laws_heldByteS.l0 k ((List.range l.length).map (fun (j : Nat) => (a + (j : Int)) % 256)) (a + (i : Int)) (i : Int)) (a + l.length)) ?_ ?_
    · rw [show a + ((0 : Nat) : Int) = a by omega] at this; exact this
    · exact Ev.step (fun k => rfl) (evneg (by simp) (Ev.now _))
    · intro i hi h
      refine Ev.step (fun k => rfl) (evpos (by simpa using hi) (evpos (by omega) (evpos (by rw [rd_nat, range_getD _ _ _ _ hi]) ?_)))
      rw [w64s (by omega), w64 (by omega) (by omega), show a + (i : Int) + 1 = a + ((i + 1 : Nat) : Int) by omega]
      exact h
def cv129 (y : S129) : S126 := ⟨y.f0, y.f1, y.f2⟩
theorem toPieceS (l : List S129) (hl : l.length ≤ 1048576) : Ev (fun k => laws_toPieceS.f k l) (l.map cv129) := by
  refine evpos (by omega) (evpos (by omega) ?_)
  have := down (n := l.length) (P := fun i => Ev (fun k => laws_toPieceS.l0 k l (fl z126 l.length (fun j => cv129 (l.getD j z129)) i) (i : Int)) (l.map cv129)) ?_ ?_
  · rw [fl_zero] at this; exact this
  · refine Ev.step (fun k => rfl) (evneg (by omega) ?_)
    rw [fl_all, map_range_get l z129 cv129]; exact Ev.now _
  · intro i hi h
    refine Ev.step (fun k => rfl) (evpos (by omega) (evpos (by omega) (evlet rfl (evpos (by rw [fl_len]; omega) ?_))))
    rw [w64s (by omega), rdT129, Int.toNat_natCast]
    rw [← fl_set] at h
    exact h
theorem eqPieceS (l : List S126) (hl : l.length ≤ 4611686018427387904) : Ev (fun k => laws_eqPieceS.f k l l) true := by
  refine evpos rfl ?_
  refine down (n := l.length) (P := fun i => Ev (fun k => laws_eqPieceS.l0 k l l (i : Int)) true) ?_ ?_
  · exact Ev.step (fun k => rfl) (evneg (by omega) (Ev.now _))
  · intro i hi h
    refine Ev.step (fun k => rfl) (evpos (by omega) (evpos (by omega) (evpos (by omega) (evlet (a := true) ?_ (evpos rfl ?_)))))
    · simp [laws_eqPiece.f]
    rw [w64s (by omega)]; exact h
theorem szPieceS (l : List S129) (a : Int) (hl : l.length ≤ maxLen) (h0 : 0 ≤ a) (h1 : a ≤ 1048576) : laws_szPieceS.f l a = some (if a < l.length then -1 else a - l.length) := by
  unfold maxLen at hl
  unfold laws_szPieceS.f
  rw [w64 (by omega) (by omega)]
  split <;> split <;> first | rfl | omega
theorem markPieceS (l : List S126) (a : Int) (h0 : 0 ≤ a) (h1 : a + 3 * l.length ≤ 4611686018427387904) : ∃ l' : List S126, Ev (fun k => laws_markPieceS.f k l a) (a + 3 * l.length, l') ∧ l'.length = l.length := by
  have := down (n := l.length) (P := fun i => ∀ x : List S126, x.length = l.length → ∃ l' : List S126, Ev (fun k => laws_markPieceS.l0 k x (a + 3 * (i : Int)) (i : Int)) (a + 3 * l.length, l') ∧ l'.length = l.length) ?_ ?_
  · have h := this l rfl
    rw [show a + 3 * ((0 : Nat) : Int) = a by omega] at h; exact h
  · intro x hx
    exact ⟨x, Ev.step (fun k => rfl) (evneg (by omega) (Ev.now _)), hx⟩
  · intro i hi h x hx
    simp only [show a + 3 * ((i + 1 : Nat) : Int) = a + 3 * (i : Int) + 1 + 1 + 1 by omega] at h
    obtain ⟨l', e, hl⟩ := h ((((x).set i (⟨a + 3 * (i : Int), (x.getD i z126).f1, (x.getD i z126).f2⟩ : S126)).set i (⟨(((x).set i (⟨a + 3 * (i : Int), (x.getD i z126).f1, (x.getD i z126).f2⟩ : S126)).getD i z126).f0, a + 3 * (i : Int) + 1, (((x).set i (⟨a + 3 * (i : Int), (x.getD i z126).f1, (x.getD i z126).f2⟩ : S126)).getD i z126).f2⟩ : S126)).set i (⟨((((x).set i (⟨a + 3 * (i : Int), (x.getD i z126).f1, (x.getD i z126).f2⟩ : S126)).set i (⟨(((x).set i (⟨a + 3 * (i : Int), (x.getD i z126).f1, (x.getD i z126).f2⟩ : S126)).getD i z126).f0, a + 3 * (i : Int) + 1, (((x).set i (⟨a + 3 * (i : Int), (x.getD i z126).f1, (x.getD i z126).f2⟩ : S126)).getD i z126).f2⟩ : S126)).getD i z126).f0, ((((x).set i (⟨a + 3 * (i : Int), (x.getD i z126).f1, (x.getD i z126).f2⟩ : S126)).set i (⟨(((x).set i (⟨a + 3 * (i : Int), (x.getD i z126).f1, (x.getD i z126).f2⟩ : S126)).getD i z126).f0, a + 3 * (i : Int) + 1, (((x).set i (⟨a + 3 * (i : Int), (x.getD i z126).f1, (x.getD i z126).f2⟩ : S126)).getD i z126).f2⟩ : S126)).getD i z126).f1, a + 3 * (i : Int) + 1 + 1⟩ : S126)) (by simpa using hx)
    refine ⟨l', Ev.step (f := fun k => laws_markPieceS.l0 k ((((x).set i (⟨a + 3 * (i : Int), (x.getD i z126).f1, (x.getD i z126).f2⟩ : S126)).set i (⟨(((x).set i (⟨a + 3 * (i : Int), (x.getD i z126).f1, (x.getD i z126).f2⟩ : S126)).getD i z126).f0, a + 3 * (i : Int) + 1, (((x).set i (⟨a + 3 * (i : Int), (x.getD i z126).f1, (x.getD i z126).f2⟩ : S126)).getD i z126).f2⟩ : S126)).set i (⟨((((x).set i (⟨a + 3 * (i : Int), (x.getD i z126).f1, (x.getD i z126).f2⟩ : S126)).set i (⟨(((x).set i (⟨a + 3 * (i : Int), (x.getD i z126).f1, (x.getD i z126).f2⟩ : S126)).getD i z126).f0, a + 3 * (i : Int) + 1, (((x).set i (⟨a + 3 * (i : Int), (x.getD i z126).f1, (x.getD i z126).f2⟩ : S126)).getD i z126).f2⟩ : S126)).getD i z126).f0, ((((x).set i (⟨a + 3 * (i : Int), (x.getD i z126).f1, (x.getD i z126).f2⟩ : S126)).set i (⟨(((x).set i (⟨a + 3 * (i : Int), (x.getD i z126).f1, (x.getD i z126).f2⟩ : S126)).getD i z126).f0, a + 3 * (i : Int) + 1, (((x).set i (⟨a + 3 * (i : Int), (x.getD i z126).f1, (x.getD i z126).f2⟩ : S126)).getD i z126).f2⟩ : S126)).getD i z126).f1, a + 3 * (i : Int) + 1 + 1⟩ : S126)) (a + 3 * (i : Int) + 1 + 1 + 1) ((i + 1 : Nat) : Int)) (fun k => ?_) e, hl⟩
    simp only [laws_markPieceS.l0]
    rw [if_pos (by omega), if_pos (by omega)]
    simp only [Option.bind_some, rdT126, Int.toNat_natCast, w64s (show i ≤ 4611686018427387904 by omega), w64 (show -9223372036854775808 ≤ a + 3 * (i : Int) + 1 by omega) (by omega), w64 (show -9223372036854775808 ≤ a + 3 * (i : Int) + 1 + 1 by omega) (by omega), w64 (show -9223372036854775808 ≤ a + 3 * (i : Int) + 1 + 1 + 1 by omega) (by omega)]
def okp (p : S126) : Prop := (p.f1 = 0 ∧ p.f2 = 0 ∧ 0 ≤ p.f0 ∧ p.f0 ≤ 255) ∨ (p.f0 = 0 ∧ 3 ≤ p.f1 ∧ p.f1 ≤ 258 ∧ 1 ≤ p.f2 ∧ p.f2 ≤ 32768)
instance (p : S126) : Decidable (okp p) := by unfold okp; infer_instance
theorem ok_spec (p : S126) : spec_l3PieceOk.f p.f0 p.f1 p.f2 = some (decide (okp p)) := by
  unfold spec_l3PieceOk.f
  repeat' split
  all_goals (congr 1; rw [Bool.eq_iff_iff]; simp only [decide_eq_true_iff, Bool.false_eq_true, false_iff]; unfold okp; omega)
/-- what the program asks of a piece that is no literal -/
theorem bad_impl (x3 : List Int) (l : List S126) (n i f0 f1 f2 : Int) (h : ¬ (f0 = 0 ∧ 3 ≤ f1 ∧ f1 ≤ 258 ∧ 1 ≤ f2 ∧ f2 ≤ 32768)) : Ev (fun k => impl_JoinPieces.j1 k x3 l n i false f0 f1 f2) (1, [], 0) := by
  have t : ∀ a b c : Int, Ev (fun k => impl_JoinPieces.j2 k x3 l n i true a b c) (1, [], 0) := fun a b c => Ev.step (f := fun _ => some (1, [], 0)) (fun k => by simp only [impl_JoinPieces.j2, if_true]) (Ev.now _)
  refine Ev.step (f := fun k => if f0 = 0 then (if f1 < 3 then (impl_JoinPieces.j2 k x3 l n i true f0 f1 f2) else (if f1 > 258 then (impl_JoinPieces.j2 k x3 l n i true f0 f1 f2) else (if f2 < 1 then (impl_JoinPieces.j2 k x3 l n i true f0 f1 f2) else (impl_JoinPieces.j2 k x3 l n i (decide (f2 > 32768)) f0 f1 f2)))) else (impl_JoinPieces.j2 k x3 l n i true f0 f1 f2)) (fun k => by simp only [impl_JoinPieces.j1, Bool.false_eq_true, if_false]) ?_
  by_cases c0 : f0 = 0
  · refine evpos c0 ?_
    by_cases c1 : f1 < 3
    · exact evpos c1 (t _ _ _)
    refine evneg c1 ?_
    by_cases c2 : f1 > 258
    · exact evpos c2 (t _ _ _)
    refine evneg c2 ?_
    by_cases c3 : f2 < 1
    · exact evpos c3 (t _ _ _)
    refine evneg c3 ?_
    rw [decide_eq_true (by omega : f2 > 32768)]
    exact t _ _ _
  · exact evneg c0 (t _ _ _)
theorem copy_impl (x3 : List Int) (l : List S126) (n i f0 f1 f2 : Int) (h : f0 = 0 ∧ 3 ≤ f1 ∧ f1 ≤ 258 ∧ 1 ≤ f2 ∧ f2 ≤ 32768) {r : Int × List Int × Int} (hr : Ev (fun k => if f2 > (x3.length : Int) then (some (5, ([] : List Int), 0)) else (impl_JoinPieces.l1 k x3 l n i f1 0 f0 f1 f2)) r) : Ev (fun k => impl_JoinPieces.j1 k x3 l n i false f0 f1 f2) r := by
  obtain ⟨c0, c1, c2, c3, c4⟩ := h
  refine Ev.step (f := fun k => impl_JoinPieces.j2 k x3 l n i false f0 f1 f2) (fun k => ?_) (Ev.step (f := fun k => if f2 > (x3.length : Int) then (some (5, ([] : List Int), 0)) else (impl_JoinPieces.l1 k x3 l n i f1 0 f0 f1 f2)) (fun k => by simp only [impl_JoinPieces.j2, Bool.false_eq_true, if_false]) hr)
  simp only [impl_JoinPieces.j1, Bool.false_eq_true, if_false]
  rw [if_pos c0, if_neg (by omega), if_neg (by omega), if_neg (by omega), decide_eq_false (by omega : ¬ f2 > 32768)]
theorem join_both (l : List S126) (hl : l.length ≤ 1048576) : ∃ r, Ev (fun k => spec_JoinPieces.f k l) r ∧ Ev (fun k => impl_JoinPieces.f k l) r ∧ r.2.1.length ≤ 40000 := by
  by_cases c : (l.length : Int) > 40000
  · exact ⟨_, evpos c (Ev.now _), evpos c (Ev.now _), by simp⟩
  have main := down (n := l.length) (P := fun i => ∀ x : List Int, x.length ≤ 40000 → ∃ r : Int × List Int × Int, Ev (fun k => spec_JoinPieces.l0 k x l (l.length : Int) (i : Int)) r ∧ Ev (fun k => impl_JoinPieces.l0 k x l (l.length : Int) (i : Int)) r ∧ r.2.1.length ≤ 40000) ?_ ?_
  · obtain ⟨r, h1, h2, h3⟩ := main [] (by simp)
    exact ⟨r, evneg c h1, evneg c h2, h3⟩
  · intro x hx
    exact ⟨(0, x, 0), Ev.step (fun k => rfl) (evneg (by omega) (Ev.now _)), Ev.step (fun k => rfl) (evneg (by omega) (Ev.now _)), hx⟩
  · intro i hi ih x hx
    have e : rd_T126 l (i : Int) = l[i] := by rw [rdT126, getD_lt hi]
    generalize hp : l[i] = p at e
    have spec_at : ∀ r, Ev (fun k => if decide (okp p) = true then (if p.f2 > (x.length : Int) then (some (5, ([] : List Int), 0)) else (if p.f1 = 0 then (spec_JoinPieces.j1 k x 1 l (l.length : Int) (i : Int) p.f0 p.f1 p.f2) else (spec_JoinPieces.j1 k x p.f1 l (l.length : Int) (i : Int) p.f0 p.f1 p.f2))) else (some (1, ([] : List Int), 0))) r → Ev (fun k => spec_JoinPieces.l0 k x l (l.length : Int) (i : Int)) r := by
      intro r h
      refine Ev.step (fun k => rfl) (evpos (by omega) (evpos (by omega) (evpos (by omega) ?_)))
      rw [e]
      exact evlet (ok_spec p) h
    have impl_no : ∀ r, ¬ (p.f1 = 0 ∧ p.f2 = 0 ∧ 0 ≤ p.f0 ∧ p.f0 ≤ 255) → Ev (fun k => impl_JoinPieces.j1 k x l (l.length : Int) (i : Int) false p.f0 p.f1 p.f2) r → Ev (fun k => impl_JoinPieces.l0 k x l (l.length : Int) (i : Int)) r := by
      intro r hn h
      refine Ev.step (fun k => rfl) (evpos (by omega) (evpos (by omega) (evpos (by omega) ?_)))
      rw [e]
      by_cases c1 : p.f1 = 0
      · refine evpos c1 ?_
        by_cases c2 : p.f2 = 0
        · refine evpos c2 ?_
          by_cases c3 : p.f0 ≥ 0
          · refine evpos c3 ?_
            rw [decide_eq_false (by omega : ¬ p.f0 ≤ 255)]; exact h
          · exact evneg c3 h
        · exact evneg c2 h
      · exact evneg c1 h
    by_cases g1 : p.f1 = 0 ∧ p.f2 = 0 ∧ 0 ≤ p.f0 ∧ p.f0 ≤ 255
    · have gok : okp p := .inl g1
      obtain ⟨a1, a2, a3, a4⟩ := g1
      have impl_at : ∀ r, Ev (fun k => if ((x ++ [p.f0 % 256]).length : Int) > 40000 then (some (7, ([] : List Int), 0)) else (impl_JoinPieces.l0 k (x ++ [p.f0 % 256]) l (l.length : Int) ((i + 1 : Nat) : Int))) r → Ev (fun k => impl_JoinPieces.l0 k x l (l.length : Int) (i : Int)) r := by
        intro r h
        refine Ev.step (fun k => rfl) (evpos (by omega) (evpos (by omega) (evpos (by omega) ?_)))
        rw [e]
        refine evpos a1 (evpos a2 (evpos a3 ?_))
        rw [decide_eq_true a4]
        refine Ev.step (f := fun k => if ((x ++ [p.f0 % 256]).length : Int) > 40000 then (some (7, ([] : List Int), 0)) else (impl_JoinPieces.l0 k (x ++ [p.f0 % 256]) l (l.length : Int) ((i + 1 : Nat) : Int))) (fun k => ?_) h
        simp only [impl_JoinPieces.j1, if_true]
        rw [if_pos (by omega)]
        simp only [Option.bind_some, w64s (show i ≤ 4611686018427387904 by omega)]
      by_cases c2 : x.length + 1 > 40000
      · refine ⟨(7, [], 0), spec_at _ (evpos (decide_eq_true gok) (evneg (by omega) (evpos a1 (Ev.step (fun k => rfl) (evpos ?_ (Ev.now _)))))), impl_at _ (evpos (by simp; omega) (Ev.now _)), by simp⟩
        rw [w64 (by omega) (by omega)]; omega
      · obtain ⟨r, h1, h2, h3⟩ := ih (x ++ [p.f0 % 256]) (by simp; omega)
        refine ⟨r, spec_at _ (evpos (decide_eq_true gok) (evneg (by omega) (evpos a1 (Ev.step (fun k => rfl) (evneg ?_ (evpos a1 (evpos (by omega) (Ev.step (fun k => rfl) (Ev.step (fun k => rfl) (evneg (by omega) ?_)))))))))), impl_at _ (evneg (by simp; omega) h2), h3⟩
        · rw [w64 (by omega) (by omega)]; omega
        · rw [w64s (by omega)]; exact h1
    by_cases g2 : p.f0 = 0 ∧ 3 ≤ p.f1 ∧ p.f1 ≤ 258 ∧ 1 ≤ p.f2 ∧ p.f2 ≤ 32768
    · have gok : okp p := .inr g2
      have g2' := g2
      obtain ⟨b0, b1, b2, b3, b4⟩ := g2'
      by_cases c2 : p.f2 > (x.length : Int)
      · exact ⟨(5, [], 0), spec_at _ (evpos (decide_eq_true gok) (evpos c2 (Ev.now _))), impl_no _ g1 (copy_impl x l _ _ _ _ _ g2 (evpos c2 (Ev.now _))), by simp⟩
      by_cases c3 : (x.length : Int) + p.f1 > 40000
      · have loop := down (n := p.f1.toNat) (P := fun j => ∀ y : List Int, y.length = x.length + j → Ev (fun k => impl_JoinPieces.l1 k y l (l.length : Int) (i : Int) p.f1 (j : Int) p.f0 p.f1 p.f2) (7, [], 0)) ?_ ?_
        · refine ⟨(7, [], 0), spec_at _ (evpos (decide_eq_true gok) (evneg c2 (evneg (by omega) (Ev.step (fun k => rfl) (evpos ?_ (Ev.now _)))))), impl_no _ g1 (copy_impl x l _ _ _ _ _ g2 (evneg c2 (loop x rfl))), by simp⟩
          rw [w64 (by omega) (by omega)]; omega
        · intro y hy
          exact Ev.step (fun k => rfl) (evneg (by omega) (evpos (by omega) (Ev.now _)))
        · intro j hj ihj y hy
          have hw : wrap64 ((y.length : Int) - p.f2) = (y.length : Int) - p.f2 := w64 (by omega) (by omega)
          refine Ev.step (fun k => rfl) (evpos (by omega) (evpos (by omega) (evpos (by omega) (evpos (by omega) ?_))))
          rw [w64s (by omega)]
          exact ihj _ (by simp; omega)
      · have loop := down (n := p.f1.toNat) (P := fun j => ∀ y : List Int, y.length = x.length + j → ∃ r : Int × List Int × Int, Ev (fun k => spec_JoinPieces.l1 k y (j : Int) l (l.length : Int) (i : Int) p.f0 p.f1 p.f2) r ∧ Ev (fun k => impl_JoinPieces.l1 k y l (l.length : Int) (i : Int) p.f1 (j : Int) p.f0 p.f1 p.f2) r ∧ r.2.1.length ≤ 40000) ?_ ?_
        · obtain ⟨r, h1, h2, h3⟩ := loop x rfl
          refine ⟨r, spec_at _ (evpos (decide_eq_true gok) (evneg c2 (evneg (by omega) (Ev.step (fun k => rfl) (evneg ?_ (evneg (by omega) (Ev.step (fun k => rfl) h1))))))), impl_no _ g1 (copy_impl x l _ _ _ _ _ g2 (evneg c2 h2)), h3⟩
          rw [w64 (by omega) (by omega)]; omega
        · intro y hy
          obtain ⟨r, h1, h2, h3⟩ := ih y (by omega)
          refine ⟨r, Ev.step (fun k => rfl) (evneg (by omega) ?_), Ev.step (fun k => rfl) (evneg (by omega) (evneg (by omega) ?_)), h3⟩
          · rw [w64s (by omega)]; exact h1
          · rw [w64s (by omega)]; exact h2
        · intro j hj ihj y hy
          have hw : wrap64 ((y.length : Int) - p.f2) = (y.length : Int) - p.f2 := w64 (by omega) (by omega)
          obtain ⟨r, h1, h2, h3⟩ := ihj (y ++ [rd y (wrap64 ((y.length : Int) - p.f2))]) (by simp; omega)
          refine ⟨r, Ev.step (fun k => rfl) (evpos (by omega) (evpos (by omega) (evpos (by omega) (evpos (by omega) ?_)))), Ev.step (fun k => rfl) (evpos (by omega) (evpos (by omega) (evpos (by omega) (evpos (by omega) ?_)))), h3⟩
          · rw [w64s (by omega)]; exact h1
          · rw [w64s (by omega)]; exact h2
    · refine ⟨(1, [], 0), spec_at _ (evneg (by rw [decide_eq_true_iff]; unfold okp; omega) (Ev.now _)), impl_no _ g1 (bad_impl x l _ _ _ _ _ g2), by simp⟩
theorem eqPlain_same (a : Int) (l : List Int) (b : Int) (hl : l.length ≤ 4611686018427387904) : Ev (fun k => laws_eqPlain.f k a l b a l b) true :=
  evpos rfl (Ev.bind (eqByteS l hl) (evpos rfl (evpos rfl (Ev.now _))))
theorem FnExactJoinPieces : laws_FnExactJoinPieces.Pure := by
  intro l0 ⟨hl, _⟩
  refine Ev.rounds ?_
  refine evlet (szPieceS l0 1048576 hl (by omega) (by omega)) ?_
  by_cases c : (1048576 : Int) < l0.length
  · rw [if_pos c]; exact evpos (by omega) (Ev.now _)
  rw [if_neg c]
  refine evneg (by omega) ?_
  have lc : (l0.map cv129).length ≤ 1048576 := by simp; omega
  have t := toPieceS l0 (by omega)
  obtain ⟨⟨r1, r2, r3⟩, h1, h2, h3⟩ := join_both (l0.map cv129) lc
  have h3' : r2.length ≤ 40000 := h3
  obtain ⟨m1, hm1, _⟩ := markPieceS (l0.map cv129) 1 (by omega) (by omega)
  obtain ⟨g, hg1, hg2, hg3⟩ := mhByteS r2 1 (by omega) (by omega)
  have hgp : Ev (fun k => laws_heldPlain.f k r1 g r3 1) (1 + r2.length) := Ev.bind hg2 (evneg (by omega) (Ev.now _))
  refine Ev.bind t (Ev.bind h1 (Ev.bind t (Ev.bind h2 (Ev.bind (eqPlain_same r1 r2 r3 (by omega)) (evpos rfl (Ev.bind t (Ev.bind (eqPieceS _ (by omega)) (evpos rfl (Ev.bind hm1 ?_)))))))))
  refine evneg (by simp only; omega) (Ev.bind (eqPlain_same r1 r2 r3 (by omega)) ?_)
  refine Ev.step (f := fun k => (laws_markPlain.f k r1 r2 r3 1).bind fun bt181 => ((laws_heldPlain.f k r1 bt181.2 r3 1).bind fun t183 => (if t183 < 0 then (some false) else (if t183 = bt181.1 then ((laws_toPieceS.f k l0).bind fun t184 => ((impl_JoinPieces.f k t184).bind fun bt187 => ((laws_eqPlain.f k bt187.1 bt187.2.1 bt187.2.2 r1 r2 r3).bind fun t193 => (if t193 = true then ((laws_heldPlain.f k r1 bt181.2 r3 1).bind fun t194 => (if t194 < 0 then (some false) else (if t194 = bt181.1 then (some true) else (some false)))) else (some false))))) else (some false))))) (fun k => by simp only [laws_FnExactJoinPieces.j0, Bool.not_true, Bool.false_eq_true, if_false]) ?_
  refine Ev.bind (a := (1 + (r2.length : Int), g)) (Ev.bind hg1 (Ev.now _)) (Ev.bind hgp (evneg (by omega) (evpos rfl ?_)))
  exact Ev.bind t (Ev.bind h2 (Ev.bind (eqPlain_same r1 r2 r3 (by omega)) (evpos rfl (Ev.bind hgp (evneg (by omega) (evpos rfl (Ev.now _)))))))
end Go.Proofs.Ytglaedjadlappaa.Pure

/- FnExactDue: the program's Due answers as the reference at every argument. -/
import Derived.Test.YtglaedjadlappaaPFnExactDuex0
import Derived.Test.YtglaedjadlappaaPFnExactDuex1
import Derived.Test.YtglaedjadlappaaPFnExactDuex2
import Derived.Test.YtglaedjadlappaaPFnExactDuex3
import Derived.Test.YtglaedjadlappaaPFnExactDuex4
import Derived.Test.YtglaedjadlappaaPFnExactDuex5
import Derived.Test.YtglaedjadlappaaPFnExactDuex6
import Derived.Test.YtglaedjadlappaaPFnExactDuex7
import Derived.Test.YtglaedjadlappaaPFnExactDuex8
import Derived.Test.YtglaedjadlappaaPFnExactDuex9
import Derived.Test.YtglaedjadlappaaK
namespace Go.Proofs.Ytglaedjadlappaa.Pure
open Go.RowKit Go.Proofs.Ytglaedjadlappaa.PFnExactDue Go.Proofs.Ytglaedjadlappaa.K Go.Proofs.YtglaedjadlappaaW.PrintWords Go.Proofs.YtglaedjadlappaaW.PrintLast

theorem rdT180 (l : List S180) (i : Nat) : rd_T180 l (i : Int) = l.getD i z180 := by simp [rd_T180]
theorem rdT183 (l : List S183) (i : Nat) : rd_T183 l (i : Int) = l.getD i z183 := by simp [rd_T183]
theorem rdT186 (l : List S186) (i : Nat) : rd_T186 l (i : Int) = l.getD i z186 := by simp [rd_T186]
theorem rdT185 (l : List S185) (i : Nat) : rd_T185 l (i : Int) = l.getD i z185 := by simp [rd_T185]
theorem rdT70 (l : List S70) (i : Nat) : rd_T70 l (i : Int) = l.getD i z70 := by simp [rd_T70]
theorem rdL10n (l : List (List S183)) (i : Nat) : rd_L10 l (i : Int) = l.getD i ([] : List S183) := by simp [rd_L10]
theorem rdL5n (l : List (List Int)) (i : Nat) : rd_L5 l (i : Int) = l.getD i ([] : List Int) := by simp [rd_L5]
theorem rdL9n (l : List (List S180)) (i : Nat) : rd_L9 l (i : Int) = l.getD i ([] : List S180) := by simp [rd_L9]
theorem toByteS (l : List Int) (hl : l.length ≤ 1048576) : Ev (fun k => laws_toByteS.f k l) l := by
  refine evpos (by omega) (evpos (by omega) ?_)
  have := down (n := l.length) (P := fun i => Ev (fun k => laws_toByteS.l0 k l (fl 0 l.length (fun j => l.getD j 0) i) (i : Int)) l) ?_ ?_
  · rw [fl_zero] at this; exact this
  · refine Ev.step (fun k => rfl) (evneg (by omega) ?_)
    rw [fl_all]
    have e := map_range_get l 0 id
    try simp only [id_eq, List.map_id_fun] at e
    rw [e]; exact Ev.now _
  · intro i hi h
    refine Ev.step (fun k => rfl) (evpos (by omega) (evpos (by omega) (evpos (by rw [fl_len]; omega) ?_)))
    rw [w64s (by omega), rd_nat, getD_lt hi, Int.toNat_natCast]
    rw [← fl_set, getD_lt hi] at h
    exact h
theorem eqByteS (l : List Int) (hl : l.length ≤ 4611686018427387904) : Ev (fun k => laws_eqByteS.f k l l) true := by
  refine evpos rfl ?_
  refine down (n := l.length) (P := fun i => Ev (fun k => laws_eqByteS.l0 k l l (i : Int)) true) ?_ ?_
  · exact Ev.step (fun k => rfl) (evneg (by omega) (Ev.now _))
  · intro i hi h
    refine Ev.step (fun k => rfl) (evpos (by omega) (evpos (by omega) (evpos (by omega) (evpos rfl ?_))))
    rw [w64s (by omega)]; exact h
theorem szByteS (l : List Int) (a : Int) (hl : l.length ≤ maxLen) (h0 : 0 ≤ a) (h1 : a ≤ 1048576) : laws_szByteS.f l a = some (if a < l.length then -1 else a - l.length) := by
  unfold maxLen at hl
  unfold laws_szByteS.f
  rw [w64 (by omega) (by omega)]
  split <;> split <;> first | rfl | omega
def cv180 (y : S180) : S186 := ⟨y.f0, y.f1, y.f2⟩
theorem toTrackS (l : List S180) (hl : l.length ≤ 1048576) : Ev (fun k => laws_toTrackS.f k l) (l.map cv180) := by
  refine evpos (by omega) (evpos (by omega) ?_)
  have := down (n := l.length) (P := fun i => Ev (fun k => laws_toTrackS.l0 k l (fl z186 l.length (fun j => cv180 (l.getD j z180)) i) (i : Int)) (l.map cv180)) ?_ ?_
  · rw [fl_zero] at this; exact this
  · refine Ev.step (fun k => rfl) (evneg (by omega) ?_)
    rw [fl_all, map_range_get l z180 cv180]; exact Ev.now _
  · intro i hi h
    refine Ev.step (fun k => rfl) (evpos (by omega) (evpos (by omega) (evlet rfl (evpos (by rw [fl_len]; omega) ?_))))
    rw [w64s (by omega), rdT180, Int.toNat_natCast]
    rw [← fl_set] at h
    exact h
theorem eqTrackS (l : List S186) (hl : l.length ≤ 4611686018427387904) : Ev (fun k => laws_eqTrackS.f k l l) true := by
  refine evpos rfl ?_
  refine down (n := l.length) (P := fun i => Ev (fun k => laws_eqTrackS.l0 k l l (i : Int)) true) ?_ ?_
  · exact Ev.step (fun k => rfl) (evneg (by omega) (Ev.now _))
  · intro i hi h
    refine Ev.step (fun k => rfl) (evpos (by omega) (evpos (by omega) (evpos (by omega) (evlet (a := true) ?_ (evpos rfl ?_)))))
    · simp [laws_eqTrack.f]
    rw [w64s (by omega)]; exact h
theorem szTrackS (l0 : List S180) (a : Int) (hl : l0.length ≤ maxLen) (hs : ∀ y ∈ l0, y.f2.size ≤ maxLen) (h0 : 0 ≤ a) (h1 : a ≤ 1048576) : ∃ r, Ev (fun k => laws_szTrackS.f k l0 a) r ∧ r ≤ a ∧ (0 ≤ r → l0.length ≤ 1048576) := by
  unfold maxLen at hl hs
  have hw : wrap64 (a - (l0.length : Int)) = a - l0.length := w64 (by omega) (by omega)
  by_cases c : a - (l0.length : Int) < 0
  · exact ⟨-1, evpos (by rw [hw]; exact c) (Ev.now _), by omega, by omega⟩
  have main := down (n := l0.length) (P := fun i => ∀ b : Int, 0 ≤ b → b ≤ a → ∃ r, Ev (fun k => laws_szTrackS.l0 k l0 b (i : Int)) r ∧ r ≤ b) ?_ ?_
  · obtain ⟨r, e, e1⟩ := main (a - l0.length) (by omega) (by omega)
    exact ⟨r, evneg (by rw [hw]; exact c) (by rw [hw]; exact e), by omega, fun h => by omega⟩
  · intro b b0 _
    exact ⟨b, Ev.step (fun k => rfl) (evneg (by omega) (Ev.now _)), by omega⟩
  · intro i hi ih b b0 b1
    have hm := hs _ (List.getElem_mem hi)
    have hv : wrap64 (b - (l0[i].f2.size : Int)) = b - (l0[i].f2.size : Int) := w64 (by omega) (by omega)
    by_cases c2 : b - (l0[i].f2.size : Int) < 0
    · refine ⟨-1, Ev.step (fun k => rfl) (evpos (by omega) (evpos (by omega) ?_)), by omega⟩
      rw [rdT180, getD_lt hi]
      exact evlet (a := -1) (by unfold laws_szTrack.f; rw [hv, if_pos c2]) (evpos (by omega) (Ev.now _))
    · obtain ⟨r, e, e1⟩ := ih (b - (l0[i].f2.size : Int)) (by omega) (by omega)
      refine ⟨r, Ev.step (fun k => rfl) (evpos (by omega) (evpos (by omega) ?_)), by omega⟩
      rw [rdT180, getD_lt hi]
      refine evlet (a := b - (l0[i].f2.size : Int)) (by unfold laws_szTrack.f; rw [hv, if_neg c2]) (evneg c2 ?_)
      rw [w64s (by omega)]; exact e
theorem szPacket (a0_0 : Int) (a0_1 : Int) (a0_2 : Int) (a0_3 : Bool) (l0_4 : List Int) (a : Int) (hl0_4 : l0_4.length ≤ maxLen) (h0 : 0 ≤ a) (h1 : a ≤ 1048576) : ∃ r, Ev (fun _ => laws_szPacket.f a0_0 a0_1 a0_2 a0_3 l0_4 a) r ∧ r ≤ a ∧ (0 ≤ r → l0_4.length ≤ 1048576) := by
  have e0 := szByteS l0_4 a hl0_4 (by omega) (by omega)
  by_cases c0 : a < (l0_4.length : Int)
  · rw [if_pos c0] at e0
    exact ⟨-1, evlet e0 (evpos (by omega) (Ev.now _)), by omega, by omega⟩
  rw [if_neg c0] at e0
  exact ⟨(a - l0_4.length), evlet e0 (evneg (by omega) (Ev.now _)), by omega, fun _ => by omega⟩
theorem szPacketS (l0 : List (S183)) (a : Int) (hl0 : (l0.length ≤ maxLen ∧ ∀ y0 ∈ l0, y0.f4.length ≤ maxLen)) (h0 : 0 ≤ a) (h1 : a ≤ 1048576) : ∃ r, Ev (fun k => laws_szPacketS.f k l0 a) r ∧ r ≤ a ∧ (0 ≤ r → (l0.length ≤ 1048576 ∧ ∀ y0 ∈ l0, y0.f4.length ≤ 1048576)) := by
  obtain ⟨hl, hs⟩ := hl0
  unfold maxLen at hl
  have hw : wrap64 (a - (l0.length : Int)) = a - l0.length := w64 (by omega) (by omega)
  by_cases c : a - (l0.length : Int) < 0
  · exact ⟨-1, evpos (by rw [hw]; exact c) (Ev.now _), by omega, by omega⟩
  have main := down (n := l0.length) (P := fun i => ∀ b : Int, 0 ≤ b → b ≤ a → ∃ r, Ev (fun k => laws_szPacketS.l0 k l0 b (i : Int)) r ∧ r ≤ b ∧ (0 ≤ r → ∀ y ∈ l0.drop i, y.f4.length ≤ 1048576)) ?_ ?_
  · obtain ⟨r, e, e1, e2⟩ := main (a - l0.length) (by omega) (by omega)
    refine ⟨r, evneg (by rw [hw]; exact c) (by rw [hw]; exact e), by omega, fun h => ⟨by omega, by simpa using e2 h⟩⟩
  · intro b b0 _
    exact ⟨b, Ev.step (fun k => rfl) (evneg (by omega) (Ev.now _)), by omega, fun _ y hy => by simp at hy⟩
  · intro i hi ih b b0 b1
    have hm := hs _ (List.getElem_mem hi)
    have hd : ∀ y ∈ l0.drop i, y = l0[i] ∨ y ∈ l0.drop (i + 1) := by
      intro y hy
      rw [List.drop_eq_getElem_cons hi] at hy
      exact List.mem_cons.1 hy
    obtain ⟨q, q0, q1, q2⟩ := szPacket _ _ _ _ _ b hm b0 (by omega)
    by_cases c2 : q < 0
    · refine ⟨-1, Ev.step (fun k => rfl) (evpos (by omega) (evpos (by omega) ?_)), by omega, by omega⟩
      rw [rdT183, getD_lt hi]
      exact Ev.bind q0 (evpos c2 (Ev.now _))
    · obtain ⟨r, e, e1, e2⟩ := ih q (by omega) (by omega)
      refine ⟨r, Ev.step (fun k => rfl) (evpos (by omega) (evpos (by omega) ?_)), by omega, fun h y hy => ?_⟩
      · rw [rdT183, getD_lt hi]
        refine Ev.bind q0 (evneg c2 ?_)
        rw [w64s (by omega)]; exact e
      · rcases hd y hy with rfl | hy
        · exact q2 (by omega)
        · exact e2 h y hy
theorem szBox (l0_0 : List (S180)) (l0_1 : List (S183)) (a : Int) (hl0_0 : l0_0.length ≤ maxLen ∧ ∀ y ∈ l0_0, y.f2.size ≤ maxLen) (hl0_1 : (l0_1.length ≤ maxLen ∧ ∀ y0 ∈ l0_1, y0.f4.length ≤ maxLen)) (h0 : 0 ≤ a) (h1 : a ≤ 1048576) : ∃ r, Ev (fun k => laws_szBox.f k l0_0 l0_1 a) r ∧ r ≤ a ∧ (0 ≤ r → l0_0.length ≤ 1048576 ∧ (l0_1.length ≤ 1048576 ∧ ∀ y0 ∈ l0_1, y0.f4.length ≤ 1048576)) := by
  obtain ⟨q0, e0, l0, s0⟩ := szTrackS l0_0 a hl0_0.1 hl0_0.2 (by omega) (by omega)
  by_cases c0 : q0 < 0
  · exact ⟨-1, Ev.bind e0 (evpos c0 (Ev.now _)), by omega, by omega⟩
  obtain ⟨q1, e1, l1, s1⟩ := szPacketS l0_1 q0 hl0_1 (by omega) (by omega)
  by_cases c1 : q1 < 0
  · exact ⟨-1, Ev.bind e0 (evneg c0 (Ev.bind e1 (evpos c1 (Ev.now _)))), by omega, by omega⟩
  exact ⟨q1, Ev.bind e0 (evneg c0 (Ev.bind e1 (evneg c1 (Ev.now _)))), by omega, fun _ => ⟨s0 (by omega), s1 (by omega)⟩⟩
theorem toPacket (a0_0 : Int) (a0_1 : Int) (a0_2 : Int) (a0_3 : Bool) (l0_4 : List Int) (hl0_4 : l0_4.length ≤ 1048576) : Ev (fun k => laws_toPacket.f k a0_0 a0_1 a0_2 a0_3 l0_4) (a0_0, a0_1, a0_2, a0_3, l0_4) :=
  Ev.bind (toByteS l0_4 hl0_4) (Ev.now _)
def cv183 (y : S183) : S185 := (⟨y.f0, y.f1, y.f2, y.f3, y.f4⟩ : S185)
theorem toPacketS (l : List (S183)) (hl : (l.length ≤ 1048576 ∧ ∀ y0 ∈ l, y0.f4.length ≤ 1048576)) : Ev (fun k => laws_toPacketS.f k l) (l.map cv183) := by
  obtain ⟨hl, hs⟩ := hl
  refine evpos (by omega) (evpos (by omega) ?_)
  have := down (n := l.length) (P := fun i => Ev (fun k => laws_toPacketS.l0 k l (fl z185 l.length (fun j => cv183 (l.getD j z183)) i) (i : Int)) (l.map cv183)) ?_ ?_
  · rw [fl_zero] at this; exact this
  · refine Ev.step (fun k => rfl) (evneg (by omega) ?_)
    rw [fl_all]
    have e := map_range_get l z183 (cv183)
    try simp only [id_eq, List.map_id_fun] at e
    rw [e]; exact Ev.now _
  · intro i hi h
    have hm := hs _ (List.getElem_mem hi)
    refine Ev.step (fun k => rfl) (evpos (by omega) (evpos (by omega) ?_))
    rw [rdT183, getD_lt hi]
    refine Ev.bind (toPacket _ _ _ _ _ hm) (evpos (by rw [fl_len]; omega) ?_)
    rw [w64s (by omega), Int.toNat_natCast]
    rw [← fl_set, getD_lt hi] at h
    exact h
theorem toBox (l0_0 : List (S180)) (l0_1 : List (S183)) (hl0_0 : l0_0.length ≤ 1048576) (hl0_1 : (l0_1.length ≤ 1048576 ∧ ∀ y0 ∈ l0_1, y0.f4.length ≤ 1048576)) : Ev (fun k => laws_toBox.f k l0_0 l0_1) ((l0_0.map cv180), (l0_1.map cv183)) :=
  Ev.bind (toTrackS l0_0 hl0_0) (Ev.bind (toPacketS l0_1 hl0_1) (Ev.now _))
theorem eqPacket (a0_0 : Int) (a0_1 : Int) (a0_2 : Int) (a0_3 : Bool) (l0_4 : List Int) (hl0_4 : l0_4.length ≤ 4611686018427387904) : Ev (fun k => laws_eqPacket.f k a0_0 a0_1 a0_2 a0_3 l0_4 a0_0 a0_1 a0_2 a0_3 l0_4) true :=
  evpos rfl (evpos rfl (evpos rfl (evneg (by simp) (Ev.bind (eqByteS l0_4 hl0_4) (evpos rfl (Ev.now _))))))
theorem eqPacketS (l : List (S185)) (hl : (l.length ≤ 4611686018427387904 ∧ ∀ y0 ∈ l, y0.f4.length ≤ 4611686018427387904)) : Ev (fun k => laws_eqPacketS.f k l l) true := by
  obtain ⟨hl, hs⟩ := hl
  refine evpos rfl ?_
  refine down (n := l.length) (P := fun i => Ev (fun k => laws_eqPacketS.l0 k l l (i : Int)) true) ?_ ?_
  · exact Ev.step (fun k => rfl) (evneg (by omega) (Ev.now _))
  · intro i hi h
    have hm := hs _ (List.getElem_mem hi)
    refine Ev.step (fun k => rfl) (evpos (by omega) (evpos (by omega) (evpos (by omega) ?_)))
    rw [rdT185, getD_lt hi, w64s (by omega)]
    exact Ev.bind (eqPacket _ _ _ _ _ hm) (evpos rfl h)
theorem eqBox (l0_0 : List (S186)) (l0_1 : List (S185)) (hl0_0 : l0_0.length ≤ 4611686018427387904) (hl0_1 : (l0_1.length ≤ 4611686018427387904 ∧ ∀ y0 ∈ l0_1, y0.f4.length ≤ 4611686018427387904)) : Ev (fun k => laws_eqBox.f k l0_0 l0_1 l0_0 l0_1) true :=
  Ev.bind (eqTrackS l0_0 hl0_0) (evpos rfl (Ev.bind (eqPacketS l0_1 hl0_1) (evpos rfl (Ev.now _))))

/-- A track's name. -/
theorem bytes_both (s : ByteArray) (h : s.size ≤ 40) : ∃ r, Ev (fun k => spec_l15Bytes.f k s) r ∧ ∀ a b, Ev (fun k => impl_ztrack.l0 k (s.size : Int) 0 a b s) r := by
  refine down (n := s.size) (P := fun i => ∃ r, Ev (fun k => spec_l15Bytes.l0 k s (i : Int)) r ∧ ∀ a b, Ev (fun k => impl_ztrack.l0 k (s.size : Int) (i : Int) a b s) r) ?_ ?_
  · exact ⟨true, Ev.step (fun k => rfl) (evneg (by omega) (Ev.now _)), fun a b => Ev.step (fun k => rfl) (evneg (by omega) (Ev.now _))⟩
  · intro i hi ⟨r, h1, h2⟩
    by_cases c1 : bt s (i : Int) < 32
    · exact ⟨false, Ev.step (fun k => rfl) (evpos (by omega) (evpos (by omega) (evpos c1 (Ev.now _)))), fun a b => Ev.step (fun k => rfl) (evpos (by omega) (evpos (by omega) (evpos (by omega) (evpos c1 (Ev.now _)))))⟩
    by_cases c2 : bt s (i : Int) > 126
    · exact ⟨false, Ev.step (fun k => rfl) (evpos (by omega) (evpos (by omega) (evneg c1 (evpos c2 (Ev.now _))))), fun a b => Ev.step (fun k => rfl) (evpos (by omega) (evpos (by omega) (evpos (by omega) (evneg c1 (evpos c2 (Ev.now _))))))⟩
    refine ⟨r, Ev.step (fun k => rfl) (evpos (by omega) (evpos (by omega) (evneg c1 (evneg c2 ?_)))), fun a b => Ev.step (fun k => rfl) (evpos (by omega) (evpos (by omega) (evpos (by omega) (evneg c1 (evneg c2 ?_)))))⟩
    · rw [w64s (by omega)]; exact h1
    · rw [w64s (by omega)]; exact h2 a b
theorem track_both (a b : Int) (s : ByteArray) : ∃ r, Ev (fun k => spec_l16Track.f k a b s) r ∧ Ev (fun k => impl_ztrack.f k a b s) r := by
  have jt : Ev (fun k => impl_ztrack.j0 k true a b s) false := Ev.step (f := fun _ => some false) (fun k => by simp only [impl_ztrack.j0, if_true]) (Ev.now _)
  by_cases c1 : a ≥ 1
  case neg => exact ⟨false, evneg c1 (Ev.now _), evpos (by omega) jt⟩
  by_cases c2 : a ≤ 6
  case neg => exact ⟨false, evpos c1 (evneg c2 (Ev.now _)), evneg (by omega) (evpos (by omega) jt)⟩
  by_cases c3 : b ≥ 1
  case neg => exact ⟨false, evpos c1 (evpos c2 (evneg c3 (Ev.now _))), evneg (by omega) (evneg (by omega) (evpos (by omega) jt))⟩
  by_cases c4 : b ≤ 1000000
  case neg => exact ⟨false, evpos c1 (evpos c2 (evpos c3 (evneg c4 (Ev.now _)))), evneg (by omega) (evneg (by omega) (evneg (by omega) (evpos (by omega) jt)))⟩
  by_cases c5 : (s.size : Int) ≤ 40
  case neg =>
    refine ⟨false, evpos c1 (evpos c2 (evpos c3 (evpos c4 (evneg c5 (Ev.now _))))), evneg (by omega) (evneg (by omega) (evneg (by omega) (evneg (by omega) ?_)))⟩
    rw [decide_eq_true (by omega : (s.size : Int) > 40)]; exact jt
  obtain ⟨r, h1, h2⟩ := bytes_both s (by omega)
  refine ⟨r, evpos c1 (evpos c2 (evpos c3 (evpos c4 (evpos c5 (Ev.bind h1 (Ev.now _)))))), evneg (by omega) (evneg (by omega) (evneg (by omega) (evneg (by omega) ?_)))⟩
  rw [decide_eq_false (by omega : ¬ (s.size : Int) > 40)]
  exact Ev.step (f := fun k => impl_ztrack.l0 k (s.size : Int) 0 a b s) (fun k => by simp only [impl_ztrack.j0, Bool.false_eq_true, if_false]) (h2 a b)
/-- The rows 'last' before the packets. -/
def la (n : Nat) : List Int := fl (0 : Int) n (fun _ => -1) n
theorem fill_spec (T : List S186) (P : List S185) (hT : T.length ≤ 8) (r : Bool) (h : Ev (fun k => spec_l16Right.l1 k (la T.length) 0 P (P.length : Int) 0 T P) r) : Ev (fun k => spec_l16Right.j0 k false T P) r := by
  have := down (n := T.length) (P := fun i => Ev (fun k => spec_l16Right.l0 k (fl 0 T.length (fun _ => -1) i) (T.length : Int) (i : Int) T P) r) (Ev.step (fun k => rfl) (evneg (by omega) h)) (fun i hi ih => by
    refine Ev.step (fun k => rfl) (evpos (by omega) (evpos (by omega) (evpos (by rw [fl_len]; omega) ?_)))
    rw [w64s (by omega), Int.toNat_natCast, fl_set 0 T.length (fun _ => -1) i]; exact ih)
  refine Ev.step (f := fun k => spec_l16Right.l0 k (fl 0 T.length (fun _ => -1) 0) (T.length : Int) 0 T P) (fun k => ?_) this
  simp only [spec_l16Right.j0, Bool.false_eq_true, if_false, Int.toNat_natCast, Option.bind_some, fl_zero, List.length_replicate]
  rw [if_pos (by omega), if_pos (by omega)]
theorem fill_impl (T : List S186) (P : List S185) (hT : T.length ≤ 8) (r : Bool) (h : Ev (fun k => impl_zright.l2 k 0 (la T.length) P (P.length : Int) 0 T P) r) : Ev (fun k => impl_zright.l0 k T (T.length : Int) (T.length : Int) T P) r := by
  have := down (n := T.length) (P := fun i => Ev (fun k => impl_zright.l1 k 0 (fl 0 T.length (fun _ => -1) i) (T.length : Int) (i : Int) T P) r) (Ev.step (fun k => rfl) (evneg (by omega) h)) (fun i hi ih => by
    refine Ev.step (fun k => rfl) (evpos (by omega) (evpos (by omega) (evpos (by rw [fl_len]; omega) ?_)))
    rw [w64s (by omega), Int.toNat_natCast, fl_set 0 T.length (fun _ => -1) i]; exact ih)
  refine Ev.step (f := fun k => impl_zright.l1 k 0 (fl 0 T.length (fun _ => -1) 0) (T.length : Int) 0 T P) (fun k => ?_) this
  simp only [impl_zright.l0, Int.toNat_natCast, Option.bind_some, fl_zero, List.length_replicate]
  rw [if_neg (by omega), if_pos (by omega), if_pos (by omega)]
theorem ticks (a : Int) : ∃ b, spec_l16Ticks.f a = some b ∧ impl_zticks.f a = some b := by
  unfold spec_l16Ticks.f impl_zticks.f
  by_cases c : a ≥ 0
  · exact ⟨_, by rw [if_pos c], by rw [if_pos c]⟩
  · exact ⟨false, by rw [if_neg c], by rw [if_neg c]⟩
theorem tr_step (P : List S185) (n : Int) (i : Nat) (hi : i < P.length) (r : Bool) (h0 : 0 ≤ P[i].f0 ∧ P[i].f0 < n) (h : r = true → ∀ j, (h : j < P.length) → i + 1 ≤ j → 0 ≤ P[j].f0 ∧ P[j].f0 < n) :
    r = true → ∀ j, (h : j < P.length) → i ≤ j → 0 ≤ P[j].f0 ∧ P[j].f0 < n := by
  intro hr j hj hij
  by_cases e : j = i
  · subst e; exact h0
  · exact h hr j hj (by omega)
theorem packets_both (T : List S186) (P : List S185) (_ : T.length ≤ 8) (hP : P.length ≤ 400) (hq : ∀ y ∈ P, y.f4.length ≤ 1048576) :
    ∃ r : Bool, (∀ _ : Int, Ev (fun k => impl_zright.l2 k 0 (la T.length) P (P.length : Int) 0 T P) r ∧ Ev (fun k => spec_l16Right.l1 k (la T.length) 0 P (P.length : Int) 0 T P) r) ∧
      (r = true → ∀ y ∈ P, 0 ≤ y.f0 ∧ y.f0 < (T.length : Int)) := by
  have := down (n := P.length) (P := fun i => ∀ (n : Int) (L : List Int), L.length = T.length → 0 ≤ n → n ≤ (i : Int) * 1048576 → ∃ r : Bool, Ev (fun k => impl_zright.l2 k n L P (P.length : Int) (i : Int) T P) r ∧
      (n ≤ 60000 → Ev (fun k => spec_l16Right.l1 k L n P (P.length : Int) (i : Int) T P) r) ∧ (n > 60000 → r = false) ∧ (r = true → ∀ j, (h : j < P.length) → i ≤ j → 0 ≤ P[j].f0 ∧ P[j].f0 < (T.length : Int))) ?_ ?_
  · obtain ⟨r, h1, h2, _, h3⟩ := this 0 (la T.length) (fl_len _ _ _ _) (by omega) (by omega)
    refine ⟨r, fun _ => ⟨h1, h2 (by omega)⟩, fun hr y hy => ?_⟩
    obtain ⟨j, hj, rfl⟩ := List.getElem_of_mem hy
    exact h3 hr j hj (by omega)
  · intro n L hL h0 hn
    refine ⟨decide (n ≤ 60000), Ev.step (fun k => rfl) (evneg (by omega) (Ev.now _)), fun h => ?_, fun h => decide_eq_false (by omega), fun _ j h hj => by omega⟩
    rw [decide_eq_true h]
    exact Ev.step (fun k => rfl) (evneg (by omega) (Ev.now _))
  · intro i hi ih n L hL h0 hn
    have hm := hq _ (List.getElem_mem hi)
    have er : rd_T185 P (i : Int) = P[i] := by rw [rdT185, getD_lt hi]
    have out : ∀ (h : ∀ j, (h : j < P.length) → i ≤ j → 0 ≤ P[j].f0 ∧ P[j].f0 < (T.length : Int) → False ∨ True), True := fun _ => trivial
    clear out
    have im : ∀ r, Ev (fun k => if P[i].f0 < 0 then some false else if P[i].f0 ≥ (T.length : Int) then some false else (impl_zticks.f P[i].f1).bind fun t193 => if t193 = true then (impl_zticks.f P[i].f2).bind fun t194 => if t194 = true then
        (if 0 ≤ P[i].f0 then if P[i].f0 < (L.length : Int) then if P[i].f1 < rd L P[i].f0 then some false else if rd L P[i].f0 < 0 then if P[i].f3 = true then impl_zright.l2 k (wrap64 (n + (P[i].f4.length : Int))) (L.set P[i].f0.toNat P[i].f1) P (P.length : Int) ((i + 1 : Nat) : Int) T P else some false
        else impl_zright.l2 k (wrap64 (n + (P[i].f4.length : Int))) (L.set P[i].f0.toNat P[i].f1) P (P.length : Int) ((i + 1 : Nat) : Int) T P else none else none) else some false else some false) r → Ev (fun k => impl_zright.l2 k n L P (P.length : Int) (i : Int) T P) r := by
      intro r hr
      refine Ev.step (fun k => rfl) (evpos (by omega) (evpos (by omega) (evpos (by omega) ?_)))
      rw [er, w64s (by omega)]; exact hr
    have sp : ∀ r, Ev (fun k => if P[i].f0 < 0 then spec_l16Right.j3 k L n P (P.length : Int) (i : Int) true T P P[i].f0 P[i].f1 P[i].f2 P[i].f3 P[i].f4 else if P[i].f0 ≥ (T.length : Int) then spec_l16Right.j3 k L n P (P.length : Int) (i : Int) true T P P[i].f0 P[i].f1 P[i].f2 P[i].f3 P[i].f4 else (spec_l16Ticks.f P[i].f1).bind fun t193 => if t193 = true then (spec_l16Ticks.f P[i].f2).bind fun t194 =>
        spec_l16Right.j3 k L n P (P.length : Int) (i : Int) (!t194) T P P[i].f0 P[i].f1 P[i].f2 P[i].f3 P[i].f4 else spec_l16Right.j3 k L n P (P.length : Int) (i : Int) true T P P[i].f0 P[i].f1 P[i].f2 P[i].f3 P[i].f4) r → Ev (fun k => spec_l16Right.l1 k L n P (P.length : Int) (i : Int) T P) r := by
      intro r hr
      refine Ev.step (fun k => rfl) (evpos (by omega) (evpos (by omega) (evpos (by omega) ?_)))
      rw [er]; exact hr
    have j3t : Ev (fun k => spec_l16Right.j3 k L n P (P.length : Int) (i : Int) true T P P[i].f0 P[i].f1 P[i].f2 P[i].f3 P[i].f4) false := Ev.step (f := fun _ => some false) (fun k => by simp only [spec_l16Right.j3, if_true]) (Ev.now _)
    have j4t : Ev (fun k => spec_l16Right.j4 k L n P (P.length : Int) (i : Int) true T P P[i].f0 P[i].f1 P[i].f2 P[i].f3 P[i].f4) false := Ev.step (f := fun _ => some false) (fun k => by simp only [spec_l16Right.j4, if_true]) (Ev.now _)
    by_cases c1 : P[i].f0 < 0
    · exact ⟨false, im _ (evpos c1 (Ev.now _)), fun _ => sp _ (evpos c1 j3t), fun _ => rfl, fun h => (by cases h)⟩
    by_cases c2 : P[i].f0 ≥ (T.length : Int)
    · exact ⟨false, im _ (evneg c1 (evpos c2 (Ev.now _))), fun _ => sp _ (evneg c1 (evpos c2 j3t)), fun _ => rfl, fun h => (by cases h)⟩
    obtain ⟨b1, s1, i1⟩ := ticks P[i].f1
    cases b1 with
    | false => exact ⟨false, im _ (evneg c1 (evneg c2 (evlet i1 (evneg (by simp) (Ev.now _))))), fun _ => sp _ (evneg c1 (evneg c2 (evlet s1 (evneg (by simp) j3t)))), fun _ => rfl, fun h => (by cases h)⟩
    | true =>
      obtain ⟨b2, s2, i2⟩ := ticks P[i].f2
      cases b2 with
      | false => exact ⟨false, im _ (evneg c1 (evneg c2 (evlet i1 (evpos rfl (evlet i2 (evneg (by simp) (Ev.now _))))))), fun _ => sp _ (evneg c1 (evneg c2 (evlet s1 (evpos rfl (evlet s2 j3t))))), fun _ => rfl, fun h => (by cases h)⟩
      | true =>
        have im2 : ∀ r, _ → Ev (fun k => impl_zright.l2 k n L P (P.length : Int) (i : Int) T P) r := fun r hr => im r (evneg c1 (evneg c2 (evlet i1 (evpos rfl (evlet i2 (evpos rfl (evpos (by omega) (evpos (by omega) hr))))))))
        have sp2 : ∀ r, Ev (fun k => if P[i].f1 < rd L P[i].f0 then spec_l16Right.j4 k L n P (P.length : Int) (i : Int) true T P P[i].f0 P[i].f1 P[i].f2 P[i].f3 P[i].f4 else if rd L P[i].f0 < 0 then spec_l16Right.j4 k L n P (P.length : Int) (i : Int) (!P[i].f3) T P P[i].f0 P[i].f1 P[i].f2 P[i].f3 P[i].f4 else spec_l16Right.j4 k L n P (P.length : Int) (i : Int) false T P P[i].f0 P[i].f1 P[i].f2 P[i].f3 P[i].f4) r →
            Ev (fun k => spec_l16Right.l1 k L n P (P.length : Int) (i : Int) T P) r := by
          intro r hr
          refine sp r (evneg c1 (evneg c2 (evlet s1 (evpos rfl (evlet s2 (Ev.step (fun k => ?_) hr))))))
          simp only [spec_l16Right.j3, Bool.not_true, Bool.false_eq_true, if_false]
          rw [if_pos (by omega), if_pos (by omega)]
        by_cases c3 : P[i].f1 < rd L P[i].f0
        · exact ⟨false, im2 _ (evpos c3 (Ev.now _)), fun _ => sp2 _ (evpos c3 j4t), fun _ => rfl, fun h => (by cases h)⟩
        have wn : wrap64 (n + (P[i].f4.length : Int)) = n + (P[i].f4.length : Int) := w64 (by omega) (by omega)
        obtain ⟨r, h1, h2, h3, h4⟩ := ih (n + (P[i].f4.length : Int)) (L.set P[i].f0.toNat P[i].f1) (by rw [List.length_set]; exact hL) (by omega) (by omega)
        have im3 : Ev (fun k => impl_zright.l2 k (wrap64 (n + (P[i].f4.length : Int))) (L.set P[i].f0.toNat P[i].f1) P (P.length : Int) ((i + 1 : Nat) : Int) T P) r := by rw [wn]; exact h1
        have sp3 : n ≤ 60000 → Ev (fun k => spec_l16Right.j4 k L n P (P.length : Int) (i : Int) false T P P[i].f0 P[i].f1 P[i].f2 P[i].f3 P[i].f4) r := by
          intro hn6
          refine Ev.step (f := fun k => if n + (P[i].f4.length : Int) > 60000 then some false else spec_l16Right.l1 k (L.set P[i].f0.toNat P[i].f1) (n + (P[i].f4.length : Int)) P (P.length : Int) ((i + 1 : Nat) : Int) T P) (fun k => ?_) ?_
          · simp only [spec_l16Right.j4, Bool.false_eq_true, if_false]
            rw [if_pos (by omega), if_pos (by omega), wn, w64s (by omega)]
          · by_cases c6 : n + (P[i].f4.length : Int) > 60000
            · rw [h3 c6]; exact evpos c6 (Ev.now _)
            · exact evneg c6 (h2 (by omega))
        have tr := tr_step P (T.length : Int) i hi r ⟨Int.not_lt.1 c1, Int.not_le.1 c2⟩ h4
        by_cases c4 : rd L P[i].f0 < 0
        · cases e3 : P[i].f3 with
          | true => exact ⟨r, im2 _ (evneg c3 (evpos c4 (evpos e3 im3))), fun hn6 => sp2 _ (evneg c3 (evpos c4 (by have := sp3 hn6; rw [e3] at this ⊢; exact this))), fun h => h3 (by omega), tr⟩
          | false => exact ⟨false, im2 _ (evneg c3 (evpos c4 (evneg (by simp [e3]) (Ev.now _)))), fun _ => sp2 _ (evneg c3 (evpos c4 (by have := j4t; rw [e3] at this ⊢; exact this))), fun _ => rfl, fun h => (by cases h)⟩
        · exact ⟨r, im2 _ (evneg c3 (evneg c4 im3)), fun hn6 => sp2 _ (evneg c3 (evneg c4 (sp3 hn6))), fun h => h3 (by omega), tr⟩
theorem right_both (T : List S186) (P : List S185) (hT : T.length ≤ 1048576) (hP : P.length ≤ 1048576 ∧ ∀ y ∈ P, y.f4.length ≤ 1048576) :
    ∃ r : Bool, Ev (fun k => spec_l16Right.f k T P) r ∧ Ev (fun k => impl_zright.f k T P) r ∧ (r = true → T.length ≤ 8 ∧ P.length ≤ 400 ∧ ∀ y ∈ P, 0 ≤ y.f0 ∧ y.f0 < (T.length : Int)) := by
  obtain ⟨hP, hq⟩ := hP
  have jt : Ev (fun k => impl_zright.j0 k true T P) false := Ev.step (f := fun _ => some false) (fun k => by simp only [impl_zright.j0, if_true]) (Ev.now _)
  have st : Ev (fun k => spec_l16Right.j0 k true T P) false := Ev.step (f := fun _ => some false) (fun k => by simp only [spec_l16Right.j0, if_true]) (Ev.now _)
  have im0 : (T.length : Int) ≥ 1 → (T.length : Int) ≤ 8 → (P.length : Int) ≤ 400 → ∀ r, Ev (fun k => impl_zright.l0 k T (T.length : Int) ((0 : Nat) : Int) T P) r → Ev (fun k => impl_zright.f k T P) r := by
    intro a b c r hr
    refine evneg (by omega) (evneg (by omega) ?_)
    rw [decide_eq_false (by omega : ¬ (P.length : Int) > 400)]
    exact Ev.step (fun k => by simp only [impl_zright.j0, Bool.false_eq_true, if_false]; rfl) hr
  -- the tracks
  have tr := down (n := T.length) (P := fun i => ∃ b : Bool, Ev (fun k => spec_l16Tracks.l0 k T T (T.length : Int) (i : Int)) (if b = true then (if (T.length : Int) ≥ 1 then decide ((T.length : Int) ≤ 8) else false) else false) ∧
      (∀ r, (b = true → Ev (fun k => impl_zright.l0 k T (T.length : Int) (T.length : Int) T P) r) → (b = false → r = false) → Ev (fun k => impl_zright.l0 k T (T.length : Int) (i : Int) T P) r)) ?_ ?_
  · obtain ⟨b, h1, h2⟩ := tr
    cases b with
    | false =>
      refine ⟨false, Ev.bind h1 (evneg (by simp) st), ?_, fun h => (by cases h)⟩
      by_cases a : (T.length : Int) ≥ 1
      case neg => exact evpos (by omega) jt
      by_cases b : (T.length : Int) ≤ 8
      case neg => exact evneg (by omega) (evpos (by omega) jt)
      by_cases c : (P.length : Int) ≤ 400
      case neg => exact evneg (by omega) (evneg (by omega) (by rw [decide_eq_true (by omega : (P.length : Int) > 400)]; exact jt))
      exact im0 a b c _ (h2 false (fun h => by cases h) (fun _ => rfl))
    | true =>
      rw [if_pos rfl] at h1
      by_cases a : (T.length : Int) ≥ 1
      case neg =>
        rw [if_neg a] at h1
        exact ⟨false, Ev.bind h1 (evneg (by simp) st), evpos (by omega) jt, fun h => (by cases h)⟩
      rw [if_pos a] at h1
      by_cases b : (T.length : Int) ≤ 8
      case neg =>
        rw [decide_eq_false b] at h1
        exact ⟨false, Ev.bind h1 (evneg (by simp) st), evneg (by omega) (evpos (by omega) jt), fun h => (by cases h)⟩
      rw [decide_eq_true b] at h1
      by_cases c : (P.length : Int) ≤ 400
      case neg =>
        refine ⟨false, Ev.bind h1 (evpos rfl ?_), evneg (by omega) (evneg (by omega) (by rw [decide_eq_true (by omega : (P.length : Int) > 400)]; exact jt)), fun h => (by cases h)⟩
        rw [decide_eq_true (by omega : (P.length : Int) > 400)]; exact st
      obtain ⟨r, hr, ht⟩ := packets_both T P (by omega) (by omega) hq
      refine ⟨r, Ev.bind h1 (evpos rfl ?_), im0 a b c _ (h2 r (fun _ => fill_impl T P (by omega) r (hr 0).1) (fun h => by cases h)), fun h => ⟨by omega, by omega, ht h⟩⟩
      rw [decide_eq_false (by omega : ¬ (P.length : Int) > 400)]
      exact fill_spec T P (by omega) r (hr 0).2
  · refine ⟨true, ?_, fun r h _ => h rfl⟩
    refine Ev.step (fun k => rfl) (evneg (by omega) ?_)
    rw [if_pos rfl]
    exact evval
  · intro i hi ⟨b, h1, h2⟩
    have er : rd_T186 T (i : Int) = T[i] := by rw [rdT186, getD_lt hi]
    obtain ⟨q, t1, t2⟩ := track_both T[i].f0 T[i].f1 T[i].f2
    cases q with
    | false =>
      refine ⟨false, ?_, fun r _ h => ?_⟩
      · refine Ev.step (fun k => rfl) (evpos (by omega) (evpos (by omega) (evpos (by omega) ?_)))
        rw [er]; exact Ev.bind t1 (evneg (by simp) (Ev.now _))
      · refine Ev.step (fun k => rfl) (evpos (by omega) (evpos (by omega) (evpos (by omega) ?_)))
        rw [er, h rfl]; exact Ev.bind t2 (evneg (by simp) (Ev.now _))
    | true =>
      refine ⟨b, ?_, fun r ha hb => ?_⟩
      · refine Ev.step (fun k => rfl) (evpos (by omega) (evpos (by omega) (evpos (by omega) ?_)))
        rw [er, w64s (by omega)]; exact Ev.bind t1 (evpos rfl h1)
      · refine Ev.step (fun k => rfl) (evpos (by omega) (evpos (by omega) (evpos (by omega) ?_)))
        rw [er, w64s (by omega)]; exact Ev.bind t2 (evpos rfl (h2 r ha hb))
def er (X Y s t a b : Int) : Bool := if X = Y then (if s = t then decide (a < b) else decide (s < t)) else decide (X < Y)
theorem er_flip (X Y s t a b : Int) (h : a ≠ b) : er Y X t s b a = !(er X Y s t a b) := by
  unfold er
  by_cases c : X = Y
  · rw [if_pos c, if_pos c.symm]
    by_cases d : s = t
    · rw [if_pos d, if_pos d.symm]
      by_cases e : a < b
      · rw [decide_eq_true e, decide_eq_false (by omega)]; rfl
      · rw [decide_eq_false e, decide_eq_true (by omega)]; rfl
    · rw [if_neg d, if_neg (fun h => d h.symm)]
      by_cases e : s < t
      · rw [decide_eq_true e, decide_eq_false (by omega)]; rfl
      · rw [decide_eq_false e, decide_eq_true (by omega)]; rfl
  · rw [if_neg c, if_neg (fun h => c h.symm)]
    by_cases e : X < Y
    · rw [decide_eq_true e, decide_eq_false (by omega)]; rfl
    · rw [decide_eq_false e, decide_eq_true (by omega)]; rfl
theorem same_earlier (T : List S186) (P : List S185) (a b : Int) : spec_l16Earlier.f T P a b = impl_zearlier.f T P a b := rfl
theorem earlier_val (T : List S186) (P : List S185) (i j : Nat) (h : ∀ y ∈ P, 0 ≤ y.f0 ∧ y.f0 < (T.length : Int)) (hi : i < P.length) (hj : j < P.length) :
    impl_zearlier.f T P (i : Int) (j : Int) = some (er (wrap64 (P[i].f1 * (rd_T186 T P[j].f0).f1)) (wrap64 (P[j].f1 * (rd_T186 T P[i].f0).f1)) P[i].f0 P[j].f0 (i : Int) (j : Int)) := by
  have ti := h _ (List.getElem_mem hi)
  have tj := h _ (List.getElem_mem hj)
  unfold impl_zearlier.f er
  rw [if_pos (by omega), if_pos (by omega), if_pos (by omega), if_pos (by omega), rdT185, rdT185, getD_lt hi, getD_lt hj, if_pos tj.1, if_pos tj.2, if_pos ti.1, if_pos ti.2]
  split
  · split <;> rfl
  · rfl
theorem order_both (T : List S186) (P : List S185) (h : ∀ y ∈ P, 0 ≤ y.f0 ∧ y.f0 < (T.length : Int)) (hP : P.length ≤ 1048576) :
    ∃ r : Bool, Ev (fun k => spec_GoodBox.l0 k 1 T P) r ∧ Ev (fun k => impl_GoodBox.l0 k 1 T P) r := by
  by_cases c : P.length = 0
  · exact ⟨true, Ev.step (fun k => rfl) (evneg (by omega) (Ev.now _)), Ev.step (fun k => rfl) (evneg (by omega) (Ev.now _))⟩
  have main := down_to (n := P.length) (P := fun i => 1 ≤ i → ∃ r : Bool, Ev (fun k => spec_GoodBox.l0 k (i : Int) T P) r ∧ Ev (fun k => impl_GoodBox.l0 k (i : Int) T P) r) ?_ ?_ 1 (by omega) (by omega)
  · exact main
  · intro _
    exact ⟨true, Ev.step (fun k => rfl) (evneg (by omega) (Ev.now _)), Ev.step (fun k => rfl) (evneg (by omega) (Ev.now _))⟩
  · intro i hi ih h1
    obtain ⟨r, g1, g2⟩ := ih (by omega)
    have w : wrap64 ((i : Int) - 1) = ((i - 1 : Nat) : Int) := by rw [w64 (by omega) (by omega)]; omega
    have v1 := earlier_val T P (i - 1) i h (by omega) hi
    have v2 := earlier_val T P i (i - 1) h hi (by omega)
    rw [er_flip _ _ _ _ _ _ (by omega)] at v2
    rw [← same_earlier] at v1
    generalize er (wrap64 (P[i - 1].f1 * (rd_T186 T P[i].f0).f1)) _ _ _ _ _ = b at v1 v2
    cases b with
    | true =>
      refine ⟨r, Ev.step (fun k => rfl) (evpos (by omega) ?_), Ev.step (fun k => rfl) (evpos (by omega) ?_)⟩
      · rw [w, w64s (by omega)]; exact evlet v1 (evpos rfl g1)
      · rw [w, w64s (by omega)]; exact evlet v2 (evneg (by simp) g2)
    | false =>
      refine ⟨false, Ev.step (fun k => rfl) (evpos (by omega) ?_), Ev.step (fun k => rfl) (evpos (by omega) ?_)⟩
      · rw [w]; exact evlet v1 (evneg (by simp) (Ev.now _))
      · rw [w]; exact evlet v2 (evpos rfl (Ev.now _))
theorem track_scale (a b : Int) (s : ByteArray) (h : Ev (fun k => spec_l16Track.f k a b s) true) : 1 ≤ b := by
  by_cases c3 : b ≥ 1
  · exact c3
  have f : Ev (fun k => spec_l16Track.f k a b s) false := by
    by_cases c1 : a ≥ 1
    case neg => exact evneg c1 (Ev.now _)
    by_cases c2 : a ≤ 6
    case neg => exact evpos c1 (evneg c2 (Ev.now _))
    exact evpos c1 (evpos c2 (evneg c3 (Ev.now _)))
  exact absurd (ev_one h f) (by decide)
theorem tracks_some (T : List S186) (hT : T.length ≤ 1048576) : ∃ b : Bool, Ev (fun k => spec_l16Tracks.l0 k T T (T.length : Int) 0) b ∧ (b = true → ∀ t ∈ T, 1 ≤ t.f1) := by
  have m := down (n := T.length) (P := fun i => ∃ b : Bool, Ev (fun k => spec_l16Tracks.l0 k T T (T.length : Int) (i : Int)) b ∧ (b = true → ∀ t ∈ T.drop i, 1 ≤ t.f1)) ?_ ?_
  · obtain ⟨b, h1, h2⟩ := m
    exact ⟨b, h1, fun h => by simpa using h2 h⟩
  · exact ⟨_, Ev.step (fun k => rfl) (evneg (by omega) evval), fun _ t ht => by simp at ht⟩
  · intro i hi ⟨b, h1, h2⟩
    have er : rd_T186 T (i : Int) = T[i] := by rw [rdT186, getD_lt hi]
    obtain ⟨q, t1, _⟩ := track_both T[i].f0 T[i].f1 T[i].f2
    cases q with
    | false =>
      refine ⟨false, ?_, fun h => by cases h⟩
      refine Ev.step (fun k => rfl) (evpos (by omega) (evpos (by omega) (evpos (by omega) ?_)))
      rw [er]; exact Ev.bind t1 (evneg (by simp) (Ev.now _))
    | true =>
      refine ⟨b, ?_, fun h t ht => ?_⟩
      · refine Ev.step (fun k => rfl) (evpos (by omega) (evpos (by omega) (evpos (by omega) ?_)))
        rw [er, w64s (by omega)]; exact Ev.bind t1 (evpos rfl h1)
      · rw [List.drop_eq_getElem_cons hi] at ht
        rcases List.mem_cons.1 ht with rfl | ht
        · exact track_scale _ _ _ t1
        · exact h2 h t ht
theorem scales (T : List S186) (P : List S185) (hT : T.length ≤ 1048576) (h : Ev (fun k => spec_l16Right.f k T P) true) : ∀ t ∈ T, 1 ≤ t.f1 := by
  obtain ⟨b, h1, h2⟩ := tracks_some T hT
  cases b with
  | true => exact h2 rfl
  | false =>
    have st : Ev (fun k => spec_l16Right.j0 k true T P) false := Ev.step (f := fun _ => some false) (fun k => by simp only [spec_l16Right.j0, if_true]) (Ev.now _)
    have f : Ev (fun k => spec_l16Right.f k T P) false := Ev.bind h1 (evneg (by simp) st)
    exact absurd (ev_one h f) (by decide)
theorem box_both2 (T : List S186) (P : List S185) (hT : T.length ≤ 1048576) (hP : P.length ≤ 1048576 ∧ ∀ y ∈ P, y.f4.length ≤ 1048576) :
    ∃ r : Bool, Ev (fun k => spec_GoodBox.f k T P) r ∧ Ev (fun k => impl_GoodBox.f k T P) r ∧ (r = true → (∀ y ∈ P, 0 ≤ y.f0 ∧ y.f0 < (T.length : Int)) ∧ ∀ t ∈ T, 1 ≤ t.f1) := by
  obtain ⟨q, h1, h2, h3⟩ := right_both T P hT hP
  cases q with
  | false => exact ⟨false, Ev.bind h1 (evneg (by simp) (Ev.now _)), Ev.bind h2 (evneg (by simp) (Ev.now _)), fun h => by cases h⟩
  | true =>
    obtain ⟨_, _, h3⟩ := h3 rfl
    obtain ⟨r, g1, g2⟩ := order_both T P h3 hP.1
    exact ⟨r, Ev.bind h1 (evpos rfl g1), Ev.bind h2 (evpos rfl g2), fun _ => ⟨h3, scales T P hT h1⟩⟩
theorem same_due (T : List S186) (P : List S185) (a : Int) : spec_l17Due.f T P a = impl_zdue.f T P a := rfl
theorem due_total (T : List S186) (P : List S185) (a : Int) (h : ∀ y ∈ P, 0 ≤ y.f0 ∧ y.f0 < (T.length : Int)) (hs : ∀ t ∈ T, 1 ≤ t.f1) (a0 : 0 ≤ a) (a1 : a < (P.length : Int)) : ∃ r, impl_zdue.f T P a = some r := by
  obtain ⟨i, rfl⟩ : ∃ i : Nat, a = (i : Int) := ⟨a.toNat, by omega⟩
  have hi := h _ (List.getElem_mem (by omega : i < P.length))
  have ht := hs (rd_T186 T (P[i]'(by omega)).f0) (by
    obtain ⟨j, hj⟩ : ∃ j : Nat, (P[i]'(by omega)).f0 = (j : Int) := ⟨(P[i]'(by omega)).f0.toNat, by omega⟩
    rw [hj, rdT186, getD_lt (by omega)]; exact List.getElem_mem _)
  unfold impl_zdue.f
  rw [if_pos a0, if_pos a1, rdT185, getD_lt (by omega), if_pos hi.1, if_pos hi.2, if_neg (by omega)]
  exact ⟨_, rfl⟩
theorem due_both (T : List S186) (P : List S185) (a : Int) (hT : T.length ≤ 1048576) (hP : P.length ≤ 1048576 ∧ ∀ y ∈ P, y.f4.length ≤ 1048576) :
    ∃ r : Int, Ev (fun k => spec_Due.f k T P a) r ∧ Ev (fun k => impl_Due.f k T P a) r := by
  obtain ⟨q, h1, h2, h3⟩ := box_both2 T P hT hP
  cases q with
  | false => exact ⟨-1, Ev.bind h1 (evneg (by simp) (Ev.now _)), Ev.bind h2 (evneg (by simp) (Ev.now _))⟩
  | true =>
    obtain ⟨h3, h4⟩ := h3 rfl
    by_cases c1 : a < 0
    · exact ⟨-1, Ev.bind h1 (evpos rfl (evpos c1 (Ev.now _))), Ev.bind h2 (evpos rfl (evpos c1 (Ev.now _)))⟩
    by_cases c2 : a ≥ (P.length : Int)
    · exact ⟨-1, Ev.bind h1 (evpos rfl (evneg c1 (evpos c2 (Ev.now _)))), Ev.bind h2 (evpos rfl (evneg c1 (evpos c2 (Ev.now _))))⟩
    obtain ⟨r, hr⟩ := due_total T P a h3 h4 (by omega) (by omega)
    exact ⟨r, Ev.bind h1 (evpos rfl (evneg c1 (evneg c2 (evlet (by rw [same_due]; exact hr) (Ev.now _))))), Ev.bind h2 (evpos rfl (evneg c1 (evneg c2 (evlet hr (Ev.now _)))))⟩
theorem FnExactDue : laws_FnExactDue.Pure := by
  intro T P a ⟨⟨hT, hn⟩, hP, hq⟩ _
  refine Ev.rounds ?_
  obtain ⟨r, s0, s1, s2⟩ := szBox T P 1048576 ⟨hT, fun y hy => (hn y hy).2.2⟩ ⟨hP, fun y hy => (hq y hy).2.2.2.2.1⟩ (by omega) (by omega)
  by_cases c : r < 0
  · exact Ev.bind s0 (evpos c (Ev.now _))
  obtain ⟨m1, m2⟩ := s2 (by omega)
  have t := toBox T P m1 m2
  have n1 : (T.map cv180).length ≤ 1048576 := by rw [List.length_map]; exact m1
  have n2 : (P.map cv183).length ≤ 1048576 ∧ ∀ y ∈ P.map cv183, y.f4.length ≤ 1048576 := by
    refine ⟨by rw [List.length_map]; exact m2.1, fun y hy => ?_⟩
    obtain ⟨z, hz, rfl⟩ := List.mem_map.1 hy
    exact m2.2 z hz
  obtain ⟨q, h1, h2⟩ := due_both (T.map cv180) (P.map cv183) a n1 n2
  have eq := eqBox (T.map cv180) (P.map cv183) (by omega) ⟨by omega, fun y hy => by have := n2.2 y hy; omega⟩
  exact Ev.bind s0 (evneg c (Ev.bind t (Ev.bind h1 (Ev.bind t (Ev.bind h2 (evpos rfl (Ev.bind t (Ev.bind eq (evpos rfl (Ev.now _))))))))))
end Go.Proofs.Ytglaedjadlappaa.Pure

/- The plain law of GoodMoving. -/
import Derived.Test.YtggokppfhkebkaaPFnExactGoodMovingx0
import Derived.Test.YtggokppfhkebkaaPFnExactGoodMovingx1
import Derived.Test.YtggokppfhkebkaaPFnExactGoodMovingx2
import Derived.Test.YtggokppfhkebkaaPFnExactGoodMovingx3
import Derived.Test.YtggokppfhkebkaaPFnExactGoodMovingx4
import Derived.Test.YtggokppfhkebkaaPFnExactGoodMovingx5
import Derived.Test.YtggokppfhkebkaaPFnExactGoodMovingx6
import Derived.Test.YtggokppfhkebkaaK
namespace Go.Proofs.Ytggokppfhkebkaa.Pure
open Go.RowKit Go.Proofs.Ytggokppfhkebkaa.PFnExactGoodMoving Go.Proofs.Ytggokppfhkebkaa.K Go.Proofs.YtggokppfhkebkaaW.PrintWords Go.Proofs.YtggokppfhkebkaaW.PrintLast Go.Proofs.YtggokppfhkebkaaW.PrintMore

theorem rdT157 (l : List S157) (i : Nat) : rd_T157 l (i : Int) = l.getD i z157 := by simp [rd_T157]
theorem rdT115 (l : List S115) (i : Nat) : rd_T115 l (i : Int) = l.getD i z115 := by simp [rd_T115]
theorem rdT56 (l : List S56) (i : Nat) : rd_T56 l (i : Int) = l.getD i z56 := by simp [rd_T56]
theorem rdL1n (l : List (List Int)) (i : Nat) : rd_L1 l (i : Int) = l.getD i ([] : List Int) := by simp [rd_L1]
theorem rdL4n (l : List (List S157)) (i : Nat) : rd_L4 l (i : Int) = l.getD i ([] : List S157) := by simp [rd_L4]
theorem toIntS (l : List Int) (hl : l.length ≤ 1048576) : Ev (fun k => laws_toIntS.f k l) l := by
  refine evpos (by omega) (evpos (by omega) ?_)
  have := down (n := l.length) (P := fun i => Ev (fun k => laws_toIntS.l0 k l (fl 0 l.length (fun j => l.getD j 0) i) (i : Int)) l) ?_ ?_
  · rw [fl_zero] at this; exact this
  · refine Ev.step (fun k => rfl) (evneg (by omega) ?_)
    rw [fl_all]
    have e := map_range_get l 0 id
    try simp only [id_eq, List.map_id_fun] at e
    rw [e]; exact Ev.now _
  · intro i hi h
    refine Ev.step (fun k => rfl) (evpos (by omega) (evpos (by omega) (evpos (by rw [fl_len]; omega) ?_)))
    rw [w64s (by omega), rd_nat, getD_lt hi, Int.toNat_natCast]
    rw [← fl_set, getD_lt hi] at h
    exact h
theorem eqIntS (l : List Int) (hl : l.length ≤ 4611686018427387904) : Ev (fun k => laws_eqIntS.f k l l) true := by
  refine evpos rfl ?_
  refine down (n := l.length) (P := fun i => Ev (fun k => laws_eqIntS.l0 k l l (i : Int)) true) ?_ ?_
  · exact Ev.step (fun k => rfl) (evneg (by omega) (Ev.now _))
  · intro i hi h
    refine Ev.step (fun k => rfl) (evpos (by omega) (evpos (by omega) (evpos (by omega) (evpos rfl ?_))))
    rw [w64s (by omega)]; exact h
theorem szIntS (l : List Int) (a : Int) (hl : l.length ≤ maxLen) (h0 : 0 ≤ a) (h1 : a ≤ 1048576) : laws_szIntS.f l a = some (if a < l.length then -1 else a - l.length) := by
  unfold maxLen at hl
  unfold laws_szIntS.f
  rw [w64 (by omega) (by omega)]
  split <;> split <;> first | rfl | omega
theorem szFrame (a0_0 : Int) (a0_1 : Int) (a0_2 : Int) (a0_3 : Int) (a0_4 : Int) (a0_5 : Int) (a0_6 : Int) (l0_7 : List Int) (a : Int) (hl0_7 : l0_7.length ≤ maxLen) (h0 : 0 ≤ a) (h1 : a ≤ 1048576) : ∃ r, Ev (fun _ => laws_szFrame.f a0_0 a0_1 a0_2 a0_3 a0_4 a0_5 a0_6 l0_7 a) r ∧ r ≤ a ∧ (0 ≤ r → l0_7.length ≤ 1048576) := by
  have e0 := szIntS l0_7 a hl0_7 (by omega) (by omega)
  by_cases c0 : a < (l0_7.length : Int)
  · rw [if_pos c0] at e0
    exact ⟨-1, evlet e0 (evpos (by omega) (Ev.now _)), by omega, by omega⟩
  rw [if_neg c0] at e0
  exact ⟨(a - l0_7.length), evlet e0 (evneg (by omega) (Ev.now _)), by omega, fun _ => by omega⟩
theorem szFrameS (l0 : List (S157)) (a : Int) (hl0 : (l0.length ≤ maxLen ∧ ∀ y0 ∈ l0, y0.f7.length ≤ maxLen)) (h0 : 0 ≤ a) (h1 : a ≤ 1048576) : ∃ r, Ev (fun k => laws_szFrameS.f k l0 a) r ∧ r ≤ a ∧ (0 ≤ r → (l0.length ≤ 1048576 ∧ ∀ y0 ∈ l0, y0.f7.length ≤ 1048576)) := by
  obtain ⟨hl, hs⟩ := hl0
  unfold maxLen at hl
  have hw : wrap64 (a - (l0.length : Int)) = a - l0.length := w64 (by omega) (by omega)
  by_cases c : a - (l0.length : Int) < 0
  · exact ⟨-1, evpos (by rw [hw]; exact c) (Ev.now _), by omega, by omega⟩
  have main := down (n := l0.length) (P := fun i => ∀ b : Int, 0 ≤ b → b ≤ a → ∃ r, Ev (fun k => laws_szFrameS.l0 k l0 b (i : Int)) r ∧ r ≤ b ∧ (0 ≤ r → ∀ y ∈ l0.drop i, y.f7.length ≤ 1048576)) ?_ ?_
  · obtain ⟨r, e, e1, e2⟩ := main (a - l0.length) (by omega) (by omega)
    refine ⟨r, evneg (by rw [hw]; exact c) (by rw [hw]; exact e), by omega, fun h => ⟨by omega, by simpa using e2 h⟩⟩
  · intro b b0 _
    exact ⟨b, Ev.step (fun k => rfl) (evneg (by omega) (Ev.now _)), by omega, fun _ y hy => by simp at hy⟩
  · intro i hi ih b b0 b1
    have hm := hs _ (List.getElem_mem hi)
    have hd : ∀ y ∈ l0.drop i, y = l0[i] ∨ y ∈ l0.drop (i + 1) := by
      intro y hy
      rw [List.drop_eq_getElem_cons hi] at hy
      exact List.mem_cons.1 hy
    obtain ⟨q, q0, q1, q2⟩ := szFrame _ _ _ _ _ _ _ _ b hm b0 (by omega)
    by_cases c2 : q < 0
    · refine ⟨-1, Ev.step (fun k => rfl) (evpos (by omega) (evpos (by omega) ?_)), by omega, by omega⟩
      rw [rdT157, getD_lt hi]
      exact Ev.bind q0 (evpos c2 (Ev.now _))
    · obtain ⟨r, e, e1, e2⟩ := ih q (by omega) (by omega)
      refine ⟨r, Ev.step (fun k => rfl) (evpos (by omega) (evpos (by omega) ?_)), by omega, fun h y hy => ?_⟩
      · rw [rdT157, getD_lt hi]
        refine Ev.bind q0 (evneg c2 ?_)
        rw [w64s (by omega)]; exact e
      · rcases hd y hy with rfl | hy
        · exact q2 (by omega)
        · exact e2 h y hy
theorem szMoving (a0_0 : Int) (a0_1 : Int) (l0_2 : List Int) (a0_3 : Int) (l0_4 : List (S157)) (a : Int) (hl0_2 : l0_2.length ≤ maxLen) (hl0_4 : (l0_4.length ≤ maxLen ∧ ∀ y0 ∈ l0_4, y0.f7.length ≤ maxLen)) (h0 : 0 ≤ a) (h1 : a ≤ 1048576) : ∃ r, Ev (fun k => laws_szMoving.f k a0_0 a0_1 l0_2 a0_3 l0_4 a) r ∧ r ≤ a ∧ (0 ≤ r → l0_2.length ≤ 1048576 ∧ (l0_4.length ≤ 1048576 ∧ ∀ y0 ∈ l0_4, y0.f7.length ≤ 1048576)) := by
  have e0 := szIntS l0_2 a hl0_2 (by omega) (by omega)
  by_cases c0 : a < (l0_2.length : Int)
  · rw [if_pos c0] at e0
    exact ⟨-1, evlet e0 (evpos (by omega) (Ev.now _)), by omega, by omega⟩
  rw [if_neg c0] at e0
  obtain ⟨q1, e1, l1, s1⟩ := szFrameS l0_4 (a - l0_2.length) hl0_4 (by omega) (by omega)
  by_cases c1 : q1 < 0
  · exact ⟨-1, evlet e0 (evneg (by omega) (Ev.bind e1 (evpos c1 (Ev.now _)))), by omega, by omega⟩
  exact ⟨q1, evlet e0 (evneg (by omega) (Ev.bind e1 (evneg c1 (Ev.now _)))), by omega, fun _ => ⟨by omega, s1 (by omega)⟩⟩
theorem toFrame (a0_0 : Int) (a0_1 : Int) (a0_2 : Int) (a0_3 : Int) (a0_4 : Int) (a0_5 : Int) (a0_6 : Int) (l0_7 : List Int) (hl0_7 : l0_7.length ≤ 1048576) : Ev (fun k => laws_toFrame.f k a0_0 a0_1 a0_2 a0_3 a0_4 a0_5 a0_6 l0_7) (a0_0, a0_1, a0_2, a0_3, a0_4, a0_5, a0_6, l0_7) :=
  Ev.bind (toIntS l0_7 hl0_7) (Ev.now _)
def cv157 (y : S157) : S115 := (⟨y.f0, y.f1, y.f2, y.f3, y.f4, y.f5, y.f6, y.f7⟩ : S115)
theorem toFrameS (l : List (S157)) (hl : (l.length ≤ 1048576 ∧ ∀ y0 ∈ l, y0.f7.length ≤ 1048576)) : Ev (fun k => laws_toFrameS.f k l) (l.map cv157) := by
  obtain ⟨hl, hs⟩ := hl
  refine evpos (by omega) (evpos (by omega) ?_)
  have := down (n := l.length) (P := fun i => Ev (fun k => laws_toFrameS.l0 k l (fl z115 l.length (fun j => cv157 (l.getD j z157)) i) (i : Int)) (l.map cv157)) ?_ ?_
  · rw [fl_zero] at this; exact this
  · refine Ev.step (fun k => rfl) (evneg (by omega) ?_)
    rw [fl_all]
    have e := map_range_get l z157 (cv157)
    try simp only [id_eq, List.map_id_fun] at e
    rw [e]; exact Ev.now _
  · intro i hi h
    have hm := hs _ (List.getElem_mem hi)
    refine Ev.step (fun k => rfl) (evpos (by omega) (evpos (by omega) ?_))
    rw [rdT157, getD_lt hi]
    refine Ev.bind (toFrame _ _ _ _ _ _ _ _ hm) (evpos (by rw [fl_len]; omega) ?_)
    rw [w64s (by omega), Int.toNat_natCast]
    rw [← fl_set, getD_lt hi] at h
    exact h
theorem toMoving (a0_0 : Int) (a0_1 : Int) (l0_2 : List Int) (a0_3 : Int) (l0_4 : List (S157)) (hl0_2 : l0_2.length ≤ 1048576) (hl0_4 : (l0_4.length ≤ 1048576 ∧ ∀ y0 ∈ l0_4, y0.f7.length ≤ 1048576)) : Ev (fun k => laws_toMoving.f k a0_0 a0_1 l0_2 a0_3 l0_4) (a0_0, a0_1, l0_2, a0_3, (l0_4.map cv157)) :=
  Ev.bind (toIntS l0_2 hl0_2) (Ev.bind (toFrameS l0_4 hl0_4) (Ev.now _))
theorem eqFrame (a0_0 : Int) (a0_1 : Int) (a0_2 : Int) (a0_3 : Int) (a0_4 : Int) (a0_5 : Int) (a0_6 : Int) (l0_7 : List Int) (hl0_7 : l0_7.length ≤ 4611686018427387904) : Ev (fun k => laws_eqFrame.f k a0_0 a0_1 a0_2 a0_3 a0_4 a0_5 a0_6 l0_7 a0_0 a0_1 a0_2 a0_3 a0_4 a0_5 a0_6 l0_7) true :=
  evpos rfl (evpos rfl (evpos rfl (evpos rfl (evpos rfl (evpos rfl (evpos rfl (Ev.bind (eqIntS l0_7 hl0_7) (evpos rfl (Ev.now _)))))))))
theorem eqFrameS (l : List (S115)) (hl : (l.length ≤ 4611686018427387904 ∧ ∀ y0 ∈ l, y0.f7.length ≤ 4611686018427387904)) : Ev (fun k => laws_eqFrameS.f k l l) true := by
  obtain ⟨hl, hs⟩ := hl
  refine evpos rfl ?_
  refine down (n := l.length) (P := fun i => Ev (fun k => laws_eqFrameS.l0 k l l (i : Int)) true) ?_ ?_
  · exact Ev.step (fun k => rfl) (evneg (by omega) (Ev.now _))
  · intro i hi h
    have hm := hs _ (List.getElem_mem hi)
    refine Ev.step (fun k => rfl) (evpos (by omega) (evpos (by omega) (evpos (by omega) ?_)))
    rw [rdT115, getD_lt hi, w64s (by omega)]
    exact Ev.bind (eqFrame _ _ _ _ _ _ _ _ hm) (evpos rfl h)
theorem eqMoving (a0_0 : Int) (a0_1 : Int) (l0_2 : List Int) (a0_3 : Int) (l0_4 : List (S115)) (hl0_2 : l0_2.length ≤ 4611686018427387904) (hl0_4 : (l0_4.length ≤ 4611686018427387904 ∧ ∀ y0 ∈ l0_4, y0.f7.length ≤ 4611686018427387904)) : Ev (fun k => laws_eqMoving.f k a0_0 a0_1 l0_2 a0_3 l0_4 a0_0 a0_1 l0_2 a0_3 l0_4) true :=
  evpos rfl (evpos rfl (Ev.bind (eqIntS l0_2 hl0_2) (evpos rfl (evpos rfl (Ev.bind (eqFrameS l0_4 hl0_4) (evpos rfl (Ev.now _)))))))
def pow2 (n : Int) : Prop := n = 2 ∨ n = 4 ∨ n = 8 ∨ n = 16 ∨ n = 32 ∨ n = 64 ∨ n = 128 ∨ n = 256
instance (n : Int) : Decidable (pow2 n) := by unfold pow2; infer_instance
theorem log_at (n i c j : Int) (hi : i ≤ 8) (h0 : 0 ≤ IntKind.u64.wrap i) (hs : shl .i64 1 (IntKind.u64.wrap i) = c) (hj : wrap64 (i + 1) = j) (r : Int) (h : Ev (fun k => spec_l6Log.l0 k n j) r) : Ev (fun k => spec_l6Log.l0 k n i) (if n = c then i else r) := by
  refine Ev.step (fun k => rfl) (evpos hi (evpos h0 ?_))
  rw [hs, hj]
  by_cases e : n = c
  · rw [if_pos e]; exact evpos e (Ev.now _)
  · rw [if_neg e]; exact evneg e h
theorem log_is (n : Int) : Ev (fun k => spec_l6Log.f k n) (if n = 2 then 1 else if n = 4 then 2 else if n = 8 then 3 else if n = 16 then 4 else if n = 32 then 5 else if n = 64 then 6 else if n = 128 then 7 else if n = 256 then 8 else 0) := by
  have e : Ev (fun k => spec_l6Log.l0 k n 9) 0 := Ev.step (fun k => rfl) (evneg (by omega) (Ev.now _))
  have e := log_at n 8 256 9 (by omega) (by decide +kernel) (by decide +kernel) (by decide +kernel) _ e
  have e := log_at n 7 128 8 (by omega) (by decide +kernel) (by decide +kernel) (by decide +kernel) _ e
  have e := log_at n 6 64 7 (by omega) (by decide +kernel) (by decide +kernel) (by decide +kernel) _ e
  have e := log_at n 5 32 6 (by omega) (by decide +kernel) (by decide +kernel) (by decide +kernel) _ e
  have e := log_at n 4 16 5 (by omega) (by decide +kernel) (by decide +kernel) (by decide +kernel) _ e
  have e := log_at n 3 8 4 (by omega) (by decide +kernel) (by decide +kernel) (by decide +kernel) _ e
  have e := log_at n 2 4 3 (by omega) (by decide +kernel) (by decide +kernel) (by decide +kernel) _ e
  exact log_at n 1 2 2 (by omega) (by decide +kernel) (by decide +kernel) (by decide +kernel) _ e
theorem log_or (n : Int) : ∃ r, Ev (fun k => spec_l6Log.f k n) r ∧ (r > 0 ↔ pow2 n) := by
  refine ⟨_, log_is n, ?_⟩
  unfold pow2
  repeat' split
  all_goals omega
theorem and_all : ∀ m : Fin 257, 2 ≤ m.val → (decide (Go.bits .and .i64 (m.val : Int) (wrap64 ((m.val : Int) - 1)) = 0) = decide (pow2 (m.val : Int))) := by decide +kernel
theorem and_pow (n : Int) (h1 : 2 ≤ n) (h2 : n ≤ 256) : Go.bits .and .i64 n (wrap64 (n - 1)) = 0 ↔ pow2 n := by
  have h := and_all ⟨n.toNat, by omega⟩ (by show 2 ≤ n.toNat; omega)
  have e : ((n.toNat : Nat) : Int) = n := by omega
  simp only [e] at h
  constructor
  · intro a; rw [decide_eq_true a] at h; exact of_decide_eq_true h.symm
  · intro a; rw [decide_eq_true a] at h; exact of_decide_eq_true h
theorem colours_both (l : List Int) (hl : l.length ≤ 1048576) : ∃ b : Bool, Ev (fun k => spec_l5Colours.f k l) (if b = true then decide ((l.length : Int) ≤ 256) else false) ∧ Ev (fun k => impl_inRange.f k l 16777215) b := by
  refine down (n := l.length) (P := fun i => ∃ b : Bool, Ev (fun k => spec_l5Colours.l0 k l l (l.length : Int) (i : Int)) (if b = true then decide ((l.length : Int) ≤ 256) else false) ∧ Ev (fun k => impl_inRange.l0 k 16777215 l (l.length : Int) (i : Int)) b) ?_ ?_
  · exact ⟨true, Ev.step (fun k => rfl) (evneg (by omega) (by rw [if_pos rfl]; exact Ev.now _)), Ev.step (fun k => rfl) (evneg (by omega) (Ev.now _))⟩
  · intro i hi ⟨b, h1, h2⟩
    by_cases c1 : rd l (i : Int) < 0
    · exact ⟨false, Ev.step (fun k => rfl) (evpos (by omega) (evpos (by omega) (evpos (by omega) (evpos c1 (Ev.now _))))), Ev.step (fun k => rfl) (evpos (by omega) (evpos (by omega) (evpos (by omega) (evpos c1 (Ev.now _)))))⟩
    by_cases c2 : rd l (i : Int) > 16777215
    · exact ⟨false, Ev.step (fun k => rfl) (evpos (by omega) (evpos (by omega) (evpos (by omega) (evneg c1 (evpos c2 (Ev.now _)))))), Ev.step (fun k => rfl) (evpos (by omega) (evpos (by omega) (evpos (by omega) (evneg c1 (evpos c2 (Ev.now _))))))⟩
    refine ⟨b, Ev.step (fun k => rfl) (evpos (by omega) (evpos (by omega) (evpos (by omega) (evneg c1 (evneg c2 ?_))))), Ev.step (fun k => rfl) (evpos (by omega) (evpos (by omega) (evpos (by omega) (evneg c1 (evneg c2 ?_)))))⟩
    · rw [w64s (by omega)]; exact h1
    · rw [w64s (by omega)]; exact h2
theorem pixels_both (l : List Int) (hl : l.length ≤ 1048576) (a b : Int) (p : List Int) (c : Int) (F : List S115) : ∃ q : Bool, Ev (fun k => spec_l6Pixels.f k a b p c F l) q ∧ Ev (fun k => impl_inRange.f k l ((p.length : Int) - 1)) q := by
  refine down (n := l.length) (P := fun i => ∃ q : Bool, Ev (fun k => spec_l6Pixels.l0 k l (l.length : Int) (i : Int) a b p c F) q ∧ Ev (fun k => impl_inRange.l0 k ((p.length : Int) - 1) l (l.length : Int) (i : Int)) q) ?_ ?_
  · exact ⟨true, Ev.step (fun k => rfl) (evneg (by omega) (Ev.now _)), Ev.step (fun k => rfl) (evneg (by omega) (Ev.now _))⟩
  · intro i hi ⟨q, h1, h2⟩
    by_cases c1 : rd l (i : Int) < 0
    · exact ⟨false, Ev.step (fun k => rfl) (evpos (by omega) (evpos (by omega) (evpos (by omega) (evpos c1 (Ev.now _))))), Ev.step (fun k => rfl) (evpos (by omega) (evpos (by omega) (evpos (by omega) (evpos c1 (Ev.now _)))))⟩
    by_cases c2 : rd l (i : Int) > (p.length : Int) - 1
    · exact ⟨false, Ev.step (fun k => rfl) (evpos (by omega) (evpos (by omega) (evpos (by omega) (evneg c1 (evpos (by omega) (Ev.now _)))))), Ev.step (fun k => rfl) (evpos (by omega) (evpos (by omega) (evpos (by omega) (evneg c1 (evpos c2 (Ev.now _))))))⟩
    refine ⟨q, Ev.step (fun k => rfl) (evpos (by omega) (evpos (by omega) (evpos (by omega) (evneg c1 (evneg (by omega) ?_))))), Ev.step (fun k => rfl) (evpos (by omega) (evpos (by omega) (evpos (by omega) (evneg c1 (evneg c2 ?_)))))⟩
    · rw [w64s (by omega)]; exact h1
    · rw [w64s (by omega)]; exact h2
theorem frame_both (W H : Int) (p : List Int) (c : Int) (F : List S115) (x y w h d m o : Int) (l : List Int) (sw : 1 ≤ W ∧ W ≤ 512) (sh : 1 ≤ H ∧ H ≤ 512)
    (ww : w ≤ 9223372036854775807) (wh : h ≤ 9223372036854775807) :
    ∃ b, spec_l6Frame.f W H p c F x y w h d m o l = some b ∧ impl_goodFrame.f W H p c F x y w h d m o l = some b := by
  refine ⟨decide (x ≥ 0 ∧ y ≥ 0 ∧ w ≥ 1 ∧ h ≥ 1 ∧ w ≤ W - x ∧ h ≤ H - y ∧ d ≥ 0 ∧ d ≤ 65535 ∧ m ≥ 0 ∧ m ≤ 2 ∧ o ≥ -1 ∧ o < (p.length : Int)), ?_, ?_⟩
  · unfold spec_l6Frame.f
    by_cases c1 : x < 0
    · rw [if_pos c1, decide_eq_false (by omega)]
    rw [if_neg c1]
    by_cases c2 : y < 0
    · rw [if_pos c2, decide_eq_false (by omega)]
    rw [if_neg c2]
    by_cases c3 : w < 1
    · rw [if_pos c3, decide_eq_false (by omega)]
    rw [if_neg c3]
    by_cases c4 : h < 1
    · rw [if_pos c4, decide_eq_false (by omega)]
    rw [if_neg c4]
    by_cases c5 : x > W
    · rw [if_pos c5, decide_eq_false (by omega)]
    rw [if_neg c5]
    by_cases c6 : y > H
    · rw [if_pos c6, decide_eq_false (by omega)]
    rw [if_neg c6, w64 (by omega) (by omega), w64 (by omega) (by omega)]
    repeat' split
    all_goals first | (rw [decide_eq_false (by omega)]; done) | exact congrArg some (decide_eq_decide.2 (by omega))
  · unfold impl_goodFrame.f
    by_cases c1 : x ≥ 0
    case neg => rw [if_neg c1, decide_eq_false (by omega)]
    rw [if_pos c1]
    by_cases c2 : y ≥ 0
    case neg => rw [if_neg c2, decide_eq_false (by omega)]
    rw [if_pos c2]
    by_cases c3 : w ≥ 1
    case neg => rw [if_neg c3, decide_eq_false (by omega)]
    rw [if_pos c3]
    by_cases c4 : h ≥ 1
    case neg => rw [if_neg c4, decide_eq_false (by omega)]
    rw [if_pos c4, w64 (by omega) (by omega), w64 (by omega) (by omega)]
    repeat' split
    all_goals first | (rw [decide_eq_false (by omega)]; done) | exact congrArg some (decide_eq_decide.2 (by omega))
theorem frames_both (W H : Int) (p : List Int) (c : Int) (F : List S115) (sw : 1 ≤ W ∧ W ≤ 512) (sh : 1 ≤ H ∧ H ≤ 512) (hp : p.length ≤ 256) (hF : F.length ≤ 40) (hs : ∀ y ∈ F, y.f7.length ≤ 1048576 ∧ y.f2 ≤ 9223372036854775807 ∧ y.f3 ≤ 9223372036854775807) :
    ∃ r : Bool, Ev (fun k => spec_GoodMoving.l0 k 0 F (F.length : Int) 0 W H p c F) r ∧ Ev (fun k => impl_GoodMoving.l0 k (p.length : Int) 0 F (F.length : Int) 0 W H p c F) r := by
  refine down (n := F.length) (P := fun i => ∀ s : Int, 0 ≤ s → s ≤ (i : Int) * 1048576 → ∃ r : Bool, Ev (fun k => spec_GoodMoving.l0 k s F (F.length : Int) (i : Int) W H p c F) r ∧ Ev (fun k => impl_GoodMoving.l0 k (p.length : Int) s F (F.length : Int) (i : Int) W H p c F) r) ?_ ?_ 0 (by omega) (by omega)
  · intro s _ _
    exact ⟨decide (s ≤ 16384), Ev.step (fun k => rfl) (evneg (by omega) (Ev.now _)), Ev.step (fun k => rfl) (evneg (by omega) (Ev.now _))⟩
  · intro i hi ih s h0 h1
    obtain ⟨m1, m2, m3⟩ := hs _ (List.getElem_mem hi)
    have er : rd_T115 F (i : Int) = F[i] := by rw [rdT115, getD_lt hi]
    generalize F[i] = y at m1 m2 m3 er
    have sp : ∀ r, Ev (fun k => (spec_l6Frame.f W H p c F y.f0 y.f1 y.f2 y.f3 y.f4 y.f5 y.f6 y.f7).bind fun t121 => if t121 = true then (if (y.f7.length : Int) = wrap64 (y.f2 * y.f3) then (spec_l6Pixels.f k W H p c F y.f7).bind fun t122 => if t122 = true then spec_GoodMoving.l0 k (wrap64 (s + (y.f7.length : Int))) F (F.length : Int) ((i + 1 : Nat) : Int) W H p c F else some false else some false) else some false) r →
        Ev (fun k => spec_GoodMoving.l0 k s F (F.length : Int) (i : Int) W H p c F) r := by
      intro r hr
      refine Ev.step (fun k => rfl) (evpos (by omega) (evpos (by omega) (evpos (by omega) ?_)))
      rw [er, w64s (by omega)]; exact hr
    have im : ∀ r, Ev (fun k => (impl_goodFrame.f W H p c F y.f0 y.f1 y.f2 y.f3 y.f4 y.f5 y.f6 y.f7).bind fun t121 => if t121 = true then (if (y.f7.length : Int) = wrap64 (y.f2 * y.f3) then (impl_inRange.f k y.f7 (wrap64 ((p.length : Int) - 1))).bind fun t122 => if t122 = true then impl_GoodMoving.l0 k (p.length : Int) (wrap64 (s + (y.f7.length : Int))) F (F.length : Int) ((i + 1 : Nat) : Int) W H p c F else some false else some false) else some false) r →
        Ev (fun k => impl_GoodMoving.l0 k (p.length : Int) s F (F.length : Int) (i : Int) W H p c F) r := by
      intro r hr
      refine Ev.step (fun k => rfl) (evpos (by omega) (evpos (by omega) (evpos (by omega) ?_)))
      rw [er, w64s (by omega)]; exact hr
    obtain ⟨b, f1, f2⟩ := frame_both W H p c F y.f0 y.f1 y.f2 y.f3 y.f4 y.f5 y.f6 y.f7 sw sh m2 m3
    cases b with
    | false => exact ⟨false, sp _ (evlet f1 (evneg (by simp) (Ev.now _))), im _ (evlet f2 (evneg (by simp) (Ev.now _)))⟩
    | true =>
      by_cases c1 : (y.f7.length : Int) = wrap64 (y.f2 * y.f3)
      case neg => exact ⟨false, sp _ (evlet f1 (evpos rfl (evneg c1 (Ev.now _)))), im _ (evlet f2 (evpos rfl (evneg c1 (Ev.now _))))⟩
      obtain ⟨q, p1, p2⟩ := pixels_both y.f7 m1 W H p c F
      rw [← w64 (n := (p.length : Int) - 1) (by omega) (by omega)] at p2
      cases q with
      | false => exact ⟨false, sp _ (evlet f1 (evpos rfl (evpos c1 (Ev.bind p1 (evneg (by simp) (Ev.now _)))))), im _ (evlet f2 (evpos rfl (evpos c1 (Ev.bind p2 (evneg (by simp) (Ev.now _))))))⟩
      | true =>
        obtain ⟨r, h2, h3⟩ := ih (s + (y.f7.length : Int)) (by omega) (by omega)
        rw [← w64 (n := s + (y.f7.length : Int)) (by omega) (by omega)] at h2 h3
        exact ⟨r, sp _ (evlet f1 (evpos rfl (evpos c1 (Ev.bind p1 (evpos rfl h2))))), im _ (evlet f2 (evpos rfl (evpos c1 (Ev.bind p2 (evpos rfl h3)))))⟩
theorem sides_spec (a b : Int) : spec_l4Sides.f a b = some (decide ((1 ≤ a ∧ a ≤ 512) ∧ 1 ≤ b ∧ b ≤ 512)) := by
  unfold spec_l4Sides.f
  repeat' split
  all_goals first | (rw [decide_eq_false (by omega)]; done) | exact congrArg some (decide_eq_decide.2 (by omega))
theorem sides_impl (a b : Int) : impl_goodSides.f a b = some (decide (((1 ≤ a ∧ a ≤ 512) ∧ 1 ≤ b ∧ b ≤ 512) ∧ wrap64 (a * b) ≤ 4096)) := by
  have g : ∀ a, impl_goodSide.f a = some (decide (1 ≤ a ∧ a ≤ 512)) := by
    intro a
    unfold impl_goodSide.f
    split
    · exact congrArg some (decide_eq_decide.2 (by omega))
    · rw [decide_eq_false (by omega)]
  unfold impl_goodSides.f
  rw [g, g, Option.bind_some, Option.bind_some]
  by_cases c1 : 1 ≤ a ∧ a ≤ 512
  · rw [decide_eq_true c1, if_pos rfl]
    by_cases c2 : 1 ≤ b ∧ b ≤ 512
    · rw [decide_eq_true c2, if_pos rfl]
      exact congrArg some (decide_eq_decide.2 (by omega))
    · rw [decide_eq_false c2, if_neg (by simp), decide_eq_false (by omega)]
  · rw [decide_eq_false c1, if_neg (by simp), decide_eq_false (by omega)]
theorem moving_both (W H : Int) (p : List Int) (c : Int) (F : List S115) (hp : p.length ≤ 1048576) (hF : F.length ≤ 1048576) (hs : ∀ y ∈ F, y.f7.length ≤ 1048576 ∧ y.f2 ≤ 9223372036854775807 ∧ y.f3 ≤ 9223372036854775807) :
    ∃ r : Bool, Ev (fun k => spec_GoodMoving.f k W H p c F) r ∧ Ev (fun k => impl_GoodMoving.f k W H p c F) r := by
  have jt : Ev (fun k => impl_GoodMoving.j0 k (p.length : Int) true W H p c F) false := Ev.step (f := fun _ => some false) (fun k => by simp only [impl_GoodMoving.j0, if_true]) (Ev.now _)
  have st : Ev (fun k => spec_GoodMoving.j0 k true W H p c F) false := Ev.step (f := fun _ => some false) (fun k => by simp only [spec_GoodMoving.j0, if_true]) (Ev.now _)
  have bad : Ev (fun k => spec_l6Head.f k W H p c F) false → Ev (fun k => spec_GoodMoving.f k W H p c F) false := fun h => Ev.bind h (evneg (by simp) st)
  have s1 := sides_spec W H
  have s2 := sides_impl W H
  by_cases a1 : (1 ≤ W ∧ W ≤ 512) ∧ 1 ≤ H ∧ H ≤ 512
  case neg =>
    rw [decide_eq_false a1] at s1
    rw [decide_eq_false (fun h => a1 h.1)] at s2
    exact ⟨false, bad (evlet s1 (evneg (by simp) (Ev.now _))), evlet s2 (evneg (by simp) jt)⟩
  rw [decide_eq_true a1] at s1
  by_cases a2 : wrap64 (W * H) ≤ 4096
  case neg =>
    rw [decide_eq_false (fun h => a2 h.2)] at s2
    exact ⟨false, bad (evlet s1 (evpos rfl (evneg a2 (Ev.now _)))), evlet s2 (evneg (by simp) jt)⟩
  rw [decide_eq_true ⟨a1, a2⟩] at s2
  obtain ⟨g, l1, l2⟩ := log_or (p.length : Int)
  have im : ∀ r, Ev (fun k => if (p.length : Int) < 2 then impl_GoodMoving.j0 k (p.length : Int) true W H p c F else if (p.length : Int) > 256 then impl_GoodMoving.j0 k (p.length : Int) true W H p c F else if Go.bits .and .i64 (p.length : Int) (wrap64 ((p.length : Int) - 1)) = 0 then ((impl_inRange.f k p 16777215).bind fun t165 => if t165 = true then (if c < 0 then impl_GoodMoving.j0 k (p.length : Int) true W H p c F else if c > 65535 then impl_GoodMoving.j0 k (p.length : Int) true W H p c F else if (F.length : Int) < 1 then impl_GoodMoving.j0 k (p.length : Int) true W H p c F else impl_GoodMoving.j0 k (p.length : Int) (decide ((F.length : Int) > 40)) W H p c F) else impl_GoodMoving.j0 k (p.length : Int) true W H p c F) else impl_GoodMoving.j0 k (p.length : Int) true W H p c F) r → Ev (fun k => impl_GoodMoving.f k W H p c F) r := fun r hr => evlet s2 (evpos rfl hr)
  by_cases a3 : pow2 (p.length : Int)
  case neg =>
    have hg : ¬ g > 0 := fun h => a3 (l2.1 h)
    refine ⟨false, bad (evlet s1 (evpos rfl (evpos a2 (Ev.bind l1 (evneg hg (Ev.now _)))))), im _ ?_⟩
    by_cases b1 : (p.length : Int) < 2
    · exact evpos b1 jt
    by_cases b2 : (p.length : Int) > 256
    · exact evneg b1 (evpos b2 jt)
    exact evneg b1 (evneg b2 (evneg (fun h => a3 ((and_pow _ (by omega) (by omega)).1 h)) jt))
  have hg := l2.2 a3
  have n1 : 2 ≤ (p.length : Int) ∧ (p.length : Int) ≤ 256 := by unfold pow2 at a3; omega
  have ha := (and_pow (p.length : Int) n1.1 n1.2).2 a3
  obtain ⟨b, k1, k2⟩ := colours_both p hp
  rw [decide_eq_true n1.2] at k1
  cases b with
  | false =>
    rw [if_neg (by simp)] at k1
    exact ⟨false, bad (evlet s1 (evpos rfl (evpos a2 (Ev.bind l1 (evpos hg (Ev.bind k1 (evneg (by simp) (Ev.now _)))))))), im _ (evneg (by omega) (evneg (by omega) (evpos ha (Ev.bind k2 (evneg (by simp) jt)))))⟩
  | true =>
    rw [if_pos rfl] at k1
    by_cases a4 : c ≥ 0
    case neg => exact ⟨false, bad (evlet s1 (evpos rfl (evpos a2 (Ev.bind l1 (evpos hg (Ev.bind k1 (evpos rfl (evneg a4 (Ev.now _))))))))), im _ (evneg (by omega) (evneg (by omega) (evpos ha (Ev.bind k2 (evpos rfl (evpos (by omega) jt))))))⟩
    have hd : Ev (fun k => spec_l6Head.f k W H p c F) (decide (c ≤ 65535)) := evlet s1 (evpos rfl (evpos a2 (Ev.bind l1 (evpos hg (Ev.bind k1 (evpos rfl (evpos a4 (Ev.now _))))))))
    have im2 : ∀ r, _ → Ev (fun k => impl_GoodMoving.f k W H p c F) r := fun r hr => im r (evneg (by omega) (evneg (by omega) (evpos ha (Ev.bind k2 (evpos rfl (evneg (by omega) hr))))))
    by_cases a5 : c ≤ 65535
    case neg =>
      rw [decide_eq_false a5] at hd
      exact ⟨false, bad hd, im2 _ (evpos (by omega) jt)⟩
    rw [decide_eq_true a5] at hd
    by_cases a6 : (F.length : Int) < 1
    · exact ⟨false, Ev.bind hd (evpos rfl (evpos a6 st)), im2 _ (evneg (by omega) (evpos a6 jt))⟩
    by_cases a7 : (F.length : Int) > 40
    · refine ⟨false, Ev.bind hd (evpos rfl (evneg a6 ?_)), im2 _ (evneg (by omega) (evneg a6 ?_))⟩
      · rw [decide_eq_true a7]; exact st
      · rw [decide_eq_true a7]; exact jt
    obtain ⟨r, r1, r2⟩ := frames_both W H p c F a1.1 a1.2 (by omega) (by omega) hs
    refine ⟨r, Ev.bind hd (evpos rfl (evneg a6 ?_)), im2 _ (evneg (by omega) (evneg a6 ?_))⟩
    · rw [decide_eq_false a7]
      exact Ev.step (f := fun k => spec_GoodMoving.l0 k 0 F (F.length : Int) 0 W H p c F) (fun k => by simp only [spec_GoodMoving.j0, Bool.false_eq_true, if_false]) r1
    · rw [decide_eq_false a7]
      exact Ev.step (f := fun k => impl_GoodMoving.l0 k (p.length : Int) 0 F (F.length : Int) 0 W H p c F) (fun k => by simp only [impl_GoodMoving.j0, Bool.false_eq_true, if_false]) r2
theorem FnExactGoodMoving : laws_FnExactGoodMoving.Pure := by
  intro W H p c F ⟨_, _, ⟨hp, _⟩, _, hF, hq⟩
  refine Ev.rounds ?_
  obtain ⟨r, s0, s1, s2⟩ := szMoving W H p c F 1048576 hp ⟨hF, fun y hy => (hq y hy).2.2.2.2.2.2.2.1⟩ (by omega) (by omega)
  by_cases g : r < 0
  · exact Ev.bind s0 (evpos g (Ev.now _))
  obtain ⟨m1, m2⟩ := s2 (by omega)
  have t := toMoving W H p c F m1 m2
  have n2 : (F.map cv157).length ≤ 1048576 ∧ ∀ y ∈ F.map cv157, y.f7.length ≤ 1048576 ∧ y.f2 ≤ 9223372036854775807 ∧ y.f3 ≤ 9223372036854775807 := by
    refine ⟨by rw [List.length_map]; exact m2.1, fun y hy => ?_⟩
    obtain ⟨z, hz, rfl⟩ := List.mem_map.1 hy
    have w := hq z hz
    exact ⟨m2.2 z hz, (wfi w.2.2.1).2, (wfi w.2.2.2.1).2⟩
  obtain ⟨q, h1, h2⟩ := moving_both W H p c (F.map cv157) m1 n2.1 n2.2
  have eq := eqMoving W H p c (F.map cv157) (by omega) ⟨by omega, fun y hy => by have := (n2.2 y hy).1; omega⟩
  exact Ev.bind s0 (evneg g (Ev.bind t (Ev.bind h1 (Ev.bind t (Ev.bind h2 (evneg (by simp) (Ev.bind t (Ev.bind eq (evpos rfl (Ev.now _))))))))))
end Go.Proofs.Ytggokppfhkebkaa.Pure

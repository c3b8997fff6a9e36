/- What is proved: SoundOf of the program answers as the reference's, for all arguments that can be read; each loop by its own lemma. -/
import Derived.Test.YtidblealnaicpaaDoorPFnExactSoundOfx0
import Derived.Test.YtidblealnaicpaaDoorPFnExactSoundOfx1
import Derived.Test.YtidblealnaicpaaDoorPFnExactSoundOfx2
import Derived.Test.YtidblealnaicpaaDoorPFnExactSoundOfx3
import Derived.Test.YtidblealnaicpaaDoorPFnExactSoundOfx4
import Derived.Test.YtidblealnaicpaaDoorPFnExactSoundOfx5
import Derived.Test.YtidblealnaicpaaDoorPFnExactSoundOfx6
import Derived.Test.YtidblealnaicpaaDoorPFnExactSoundOfx7
import Derived.Test.YtidblealnaicpaaDoorPFnExactSoundOfx8
import Derived.Test.YtidblealnaicpaaDoorPFnExactSoundOfx9
import Derived.Test.YtidblealnaicpaaDoorM
import Derived.Test.YtidblealnaicpaaDoorK
import Derived.Laws.Bits64b
namespace Go.Proofs.YtidblealnaicpaaDoor.Pure
open Go.RowKit Go.Proofs.YtidblealnaicpaaDoor.PFnExactSoundOf Go.Proofs.YtidblealnaicpaaDoor.K Go.Proofs.YtidblealnaicpaaDoorW.PrintWords Go.Proofs.YtidblealnaicpaaDoorW.PrintLast Go.Proofs.YtidblealnaicpaaDoorW.PrintMore

theorem rdT33 (l : List S33) (i : Nat) : rd_T33 l (i : Int) = l.getD i z33 := by simp [rd_T33]
theorem rdT36 (l : List S36) (i : Nat) : rd_T36 l (i : Int) = l.getD i z36 := by simp [rd_T36]
theorem rdL1n (l : List (List Int)) (i : Nat) : rd_L1 l (i : Int) = l.getD i ([] : List Int) := by simp [rd_L1]
theorem rdL2n (l : List (List (List Int))) (i : Nat) : rd_L2 l (i : Int) = l.getD i ([] : List (List Int)) := by simp [rd_L2]
theorem toIntS (l : List Int) (hl : l.length ≤ 1048576) : Ev (fun k => laws_toIntS.f k l) l := by
  refine evpos (by omega) (evpos (by omega) ?_)
  have := down (n := l.length) (P := fun i => Ev (fun k => laws_toIntS.l0 k l (fl 0 l.length (fun j => l.getD j 0) i) (i : Int)) l) ?_ ?_
  · rw [fl_zero] at this; exact this
  · refine Ev.step (fun k => rfl) (evneg (by omega) ?_)
    rw [fl_all]
    have e := map_range_get l 0 id
    try simp only [id_eq, List.map_id_fun] at e
    rw [e]; exact Ev.now _
  · intro i hi h
    refine Ev.step (fun k => rfl) (evpos (by omega) (evpos (by omega) (evpos (by rw [fl_len]; omega) ?_)))
    rw [w64s (by omega), rd_nat, getD_lt hi, Int.toNat_natCast]
    rw [← fl_set, getD_lt hi] at h
    exact h
theorem eqIntS (l : List Int) (hl : l.length ≤ 4611686018427387904) : Ev (fun k => laws_eqIntS.f k l l) true := by
  refine evpos rfl ?_
  refine down (n := l.length) (P := fun i => Ev (fun k => laws_eqIntS.l0 k l l (i : Int)) true) ?_ ?_
  · exact Ev.step (fun k => rfl) (evneg (by omega) (Ev.now _))
  · intro i hi h
    refine Ev.step (fun k => rfl) (evpos (by omega) (evpos (by omega) (evpos (by omega) (evpos rfl ?_))))
    rw [w64s (by omega)]; exact h
theorem szIntS (l : List Int) (a : Int) (hl : l.length ≤ maxLen) (h0 : 0 ≤ a) (h1 : a ≤ 1048576) : laws_szIntS.f l a = some (if a < l.length then -1 else a - l.length) := by
  unfold maxLen at hl
  unfold laws_szIntS.f
  rw [w64 (by omega) (by omega)]
  split <;> split <;> first | rfl | omega
theorem mhIntS (l : List Int) (a : Int) (h0 : 0 ≤ a) (h1 : a + l.length ≤ 4611686018427387904) : ∃ l' : List Int, Ev (fun k => laws_markIntS.f k l a) (a + l.length, l') ∧ Ev (fun k => laws_heldIntS.f k l' a) (a + l.length) ∧ l'.length = l.length := by
  refine ⟨(List.range l.length).map (fun (j : Nat) => a + (j : Int)), ?_, ?_, by simp⟩
  · have := down (n := l.length) (P := fun i => Ev (fun k => laws_markIntS.l0 k (f2 l.length (fun (j : Nat) => a + (j : Int)) (fun j => l.getD j 0) i) (a + (i : Int)) (i : Int)) (a + l.length, (List.range l.length).map (fun (j : Nat) => a + (j : Int)))) ?_ ?_
    · rw [f2_zero] at this; rw [show a + ((0 : Nat) : Int) = a by omega] at this; exact this
    · refine Ev.step (fun k => rfl) (evneg (by rw [f2_len]; omega) ?_)
      rw [f2_all]; exact Ev.now _
    · intro i hi h
      refine Ev.step (fun k => rfl) (evpos (by rw [f2_len]; omega) (evpos (by omega) ?_))
      rw [w64s (by omega), w64 (by omega) (by omega), Int.toNat_natCast, show a + (i : Int) + 1 = a + ((i + 1 : Nat) : Int) by omega]
      rw [← f2_set] at h
      exact h
  · have := down (n := l.length) (P := fun i => Ev (fun k => laws_heldIntS.l0 k ((List.range l.length).map (fun (j : Nat) => a + (j : Int))) (a + (i : Int)) (i : Int)) (a + l.length)) ?_ ?_
    · rw [show a + ((0 : Nat) : Int) = a by omega] at this; exact this
    · exact Ev.step (fun k => rfl) (evneg (by simp) (Ev.now _))
    · intro i hi h
      refine Ev.step (fun k => rfl) (evpos (by simpa using hi) (evpos (by omega) (evpos (by rw [rd_nat, range_getD _ _ _ _ hi]) ?_)))
      rw [w64s (by omega), w64 (by omega) (by omega), show a + (i : Int) + 1 = a + ((i + 1 : Nat) : Int) by omega]
      exact h
theorem szIntSS (l0 : List (List Int)) (a : Int) (hl0 : (l0.length ≤ maxLen ∧ ∀ y0 ∈ l0, y0.length ≤ maxLen)) (h0 : 0 ≤ a) (h1 : a ≤ 1048576) : ∃ r, Ev (fun k => laws_szIntSS.f k l0 a) r ∧ r ≤ a ∧ (0 ≤ r → (l0.length ≤ 1048576 ∧ ∀ y0 ∈ l0, y0.length ≤ 1048576)) := by
  obtain ⟨hl, hs⟩ := hl0
  unfold maxLen at hl
  have hw : wrap64 (a - (l0.length : Int)) = a - l0.length := w64 (by omega) (by omega)
  by_cases c : a - (l0.length : Int) < 0
  · exact ⟨-1, evpos (by rw [hw]; exact c) (Ev.now _), by omega, by omega⟩
  have main := down (n := l0.length) (P := fun i => ∀ b : Int, 0 ≤ b → b ≤ a → ∃ r, Ev (fun k => laws_szIntSS.l0 k l0 b (i : Int)) r ∧ r ≤ b ∧ (0 ≤ r → ∀ y ∈ l0.drop i, y.length ≤ 1048576)) ?_ ?_
  · obtain ⟨r, e, e1, e2⟩ := main (a - l0.length) (by omega) (by omega)
    refine ⟨r, evneg (by rw [hw]; exact c) (by rw [hw]; exact e), by omega, fun h => ⟨by omega, by simpa using e2 h⟩⟩
  · intro b b0 _
    exact ⟨b, Ev.step (fun k => rfl) (evneg (by omega) (Ev.now _)), by omega, fun _ y hy => by simp at hy⟩
  · intro i hi ih b b0 b1
    have hm := hs _ (List.getElem_mem hi)
    have hd : ∀ y ∈ l0.drop i, y = l0[i] ∨ y ∈ l0.drop (i + 1) := by
      intro y hy
      rw [List.drop_eq_getElem_cons hi] at hy
      exact List.mem_cons.1 hy
    have e0 := szIntS l0[i] b hm b0 (by omega)
    by_cases c2 : b < (l0[i].length : Int)
    · refine ⟨-1, Ev.step (fun k => rfl) (evpos (by omega) (evpos (by omega) ?_)), by omega, by omega⟩
      rw [rdL1n, getD_lt hi]
      rw [if_pos c2] at e0
      exact evlet e0 (evpos (by omega) (Ev.now _))
    · obtain ⟨r, e, e1, e2⟩ := ih (b - l0[i].length) (by omega) (by omega)
      refine ⟨r, Ev.step (fun k => rfl) (evpos (by omega) (evpos (by omega) ?_)), by omega, fun h y hy => ?_⟩
      · rw [rdL1n, getD_lt hi]
        rw [if_neg c2] at e0
        refine evlet e0 (evneg (by omega) ?_)
        rw [w64s (by omega)]; exact e
      · rcases hd y hy with rfl | hy
        · omega
        · exact e2 h y hy
theorem szTones (a0_0 : Int) (a0_1 : Int) (a0_2 : Int) (l0_3 : List (List Int)) (l0_4 : List (List Int)) (a : Int) (hl0_3 : (l0_3.length ≤ maxLen ∧ ∀ y0 ∈ l0_3, y0.length ≤ maxLen)) (hl0_4 : (l0_4.length ≤ maxLen ∧ ∀ y0 ∈ l0_4, y0.length ≤ maxLen)) (h0 : 0 ≤ a) (h1 : a ≤ 1048576) : ∃ r, Ev (fun k => laws_szTones.f k a0_0 a0_1 a0_2 l0_3 l0_4 a) r ∧ r ≤ a ∧ (0 ≤ r → (l0_3.length ≤ 1048576 ∧ ∀ y0 ∈ l0_3, y0.length ≤ 1048576) ∧ (l0_4.length ≤ 1048576 ∧ ∀ y0 ∈ l0_4, y0.length ≤ 1048576)) := by
  obtain ⟨q0, e0, l0, s0⟩ := szIntSS l0_3 a hl0_3 (by omega) (by omega)
  by_cases c0 : q0 < 0
  · exact ⟨-1, Ev.bind e0 (evpos c0 (Ev.now _)), by omega, by omega⟩
  obtain ⟨q1, e1, l1, s1⟩ := szIntSS l0_4 q0 hl0_4 (by omega) (by omega)
  by_cases c1 : q1 < 0
  · exact ⟨-1, Ev.bind e0 (evneg c0 (Ev.bind e1 (evpos c1 (Ev.now _)))), by omega, by omega⟩
  exact ⟨q1, Ev.bind e0 (evneg c0 (Ev.bind e1 (evneg c1 (Ev.now _)))), by omega, fun _ => ⟨s0 (by omega), s1 (by omega)⟩⟩
theorem toIntSS (l : List (List Int)) (hl : (l.length ≤ 1048576 ∧ ∀ y0 ∈ l, y0.length ≤ 1048576)) : Ev (fun k => laws_toIntSS.f k l) (l) := by
  obtain ⟨hl, hs⟩ := hl
  refine evpos (by omega) (evpos (by omega) ?_)
  have := down (n := l.length) (P := fun i => Ev (fun k => laws_toIntSS.l0 k l (fl [] l.length (fun j => (l.getD j [])) i) (i : Int)) (l)) ?_ ?_
  · rw [fl_zero] at this; exact this
  · refine Ev.step (fun k => rfl) (evneg (by omega) ?_)
    rw [fl_all]
    have e := map_range_get l [] (id)
    try simp only [id_eq, List.map_id_fun] at e
    rw [e]; exact Ev.now _
  · intro i hi h
    have hm := hs _ (List.getElem_mem hi)
    refine Ev.step (fun k => rfl) (evpos (by omega) (evpos (by omega) ?_))
    rw [rdL1n, getD_lt hi]
    refine Ev.bind (toIntS _ hm) (evpos (by rw [fl_len]; omega) ?_)
    rw [w64s (by omega), Int.toNat_natCast]
    rw [← fl_set, getD_lt hi] at h
    exact h
theorem toTones (a0_0 : Int) (a0_1 : Int) (a0_2 : Int) (l0_3 : List (List Int)) (l0_4 : List (List Int)) (hl0_3 : (l0_3.length ≤ 1048576 ∧ ∀ y0 ∈ l0_3, y0.length ≤ 1048576)) (hl0_4 : (l0_4.length ≤ 1048576 ∧ ∀ y0 ∈ l0_4, y0.length ≤ 1048576)) : Ev (fun k => laws_toTones.f k a0_0 a0_1 a0_2 l0_3 l0_4) (a0_0, a0_1, a0_2, l0_3, l0_4) :=
  Ev.bind (toIntSS l0_3 hl0_3) (Ev.bind (toIntSS l0_4 hl0_4) (Ev.now _))
theorem eqIntSS (l : List (List Int)) (hl : (l.length ≤ 4611686018427387904 ∧ ∀ y0 ∈ l, y0.length ≤ 4611686018427387904)) : Ev (fun k => laws_eqIntSS.f k l l) true := by
  obtain ⟨hl, hs⟩ := hl
  refine evpos rfl ?_
  refine down (n := l.length) (P := fun i => Ev (fun k => laws_eqIntSS.l0 k l l (i : Int)) true) ?_ ?_
  · exact Ev.step (fun k => rfl) (evneg (by omega) (Ev.now _))
  · intro i hi h
    have hm := hs _ (List.getElem_mem hi)
    refine Ev.step (fun k => rfl) (evpos (by omega) (evpos (by omega) (evpos (by omega) ?_)))
    rw [rdL1n, getD_lt hi, w64s (by omega)]
    exact Ev.bind (eqIntS _ hm) (evpos rfl h)
theorem eqTones (a0_0 : Int) (a0_1 : Int) (a0_2 : Int) (l0_3 : List (List Int)) (l0_4 : List (List Int)) (hl0_3 : (l0_3.length ≤ 4611686018427387904 ∧ ∀ y0 ∈ l0_3, y0.length ≤ 4611686018427387904)) (hl0_4 : (l0_4.length ≤ 4611686018427387904 ∧ ∀ y0 ∈ l0_4, y0.length ≤ 4611686018427387904)) : Ev (fun k => laws_eqTones.f k a0_0 a0_1 a0_2 l0_3 l0_4 a0_0 a0_1 a0_2 l0_3 l0_4) true :=
  evpos rfl (evpos rfl (evpos rfl (Ev.bind (eqIntSS l0_3 hl0_3) (evpos rfl (Ev.bind (eqIntSS l0_4 hl0_4) (evpos rfl (Ev.now _)))))))
/-! The table. -/
theorem zc_eq (a : Int) : impl_zc.f a = spec_l11C.f zkL a := by
  unfold impl_zc.f spec_l11C.f
  rw [show ((zkL.length : Nat) : Int) = 33 from rfl]
theorem and127 (x : Int) : 0 ≤ Go.bits .and .i64 x 127 ∧ Go.bits .and .i64 x 127 ≤ 127 := by
  have e : Go.bits .and .i64 x 127 = IntKind.i64.wrap ((BitVec.ofInt 64 x &&& BitVec.ofInt 64 127).toNat : Int) := rfl
  have h : (BitVec.ofInt 64 x &&& BitVec.ofInt 64 127).toNat ≤ 127 := by
    rw [BitVec.toNat_and]; exact Nat.and_le_right
  rw [e, i64_w, w64 (by omega) (by omega)]
  omega
theorem zk_bd : ∀ i : Nat, i < 33 → 0 ≤ zkL.getD i 0 ∧ zkL.getD i 0 ≤ 16384 := by decide
theorem zk_rd {i : Int} (h0 : 0 ≤ i) (h1 : i < 33) : 0 ≤ rd zkL i ∧ rd zkL i ≤ 16384 := zk_bd i.toNat (by omega)
theorem zc_some (a : Int) : ∃ v, impl_zc.f a = some v ∧ -16384 ≤ v ∧ v ≤ 16384 := by
  obtain ⟨h0, h1⟩ := and127 a
  unfold impl_zc.f
  generalize Go.bits .and .i64 a 127 = m at h0 h1
  by_cases c1 : m ≤ 32
  · rw [if_pos c1, if_pos h0, if_pos (by omega)]
    have := zk_rd h0 (show m < 33 by omega)
    exact ⟨_, rfl, by omega, by omega⟩
  rw [if_neg c1]
  by_cases c2 : m ≤ 64
  · rw [if_pos c2, w64 (n := 64 - m) (by omega) (by omega), if_pos (by omega), if_pos (by omega)]
    have := zk_rd (i := 64 - m) (by omega) (by omega)
    exact ⟨_, rfl, by rw [w64 (by omega) (by omega)]; omega, by rw [w64 (by omega) (by omega)]; omega⟩
  rw [if_neg c2]
  by_cases c3 : m ≤ 96
  · rw [if_pos c3, w64 (n := m - 64) (by omega) (by omega), if_pos (by omega), if_pos (by omega)]
    have := zk_rd (i := m - 64) (by omega) (by omega)
    exact ⟨_, rfl, by rw [w64 (by omega) (by omega)]; omega, by rw [w64 (by omega) (by omega)]; omega⟩
  rw [if_neg c3, w64 (n := 128 - m) (by omega) (by omega), if_pos (by omega), if_pos (by omega)]
  have := zk_rd (i := 128 - m) (by omega) (by omega)
  exact ⟨_, rfl, by omega, by omega⟩
def zcv (a : Int) : Int := (impl_zc.f a).getD 0
theorem zc_v (a : Int) : impl_zc.f a = some (zcv a) := by
  obtain ⟨v, h, _⟩ := zc_some a
  unfold zcv; rw [h]; rfl
theorem sc_v (a : Int) : spec_l11C.f zkL a = some (zcv a) := by rw [← zc_eq]; exact zc_v a
theorem table : spec_l11Table.f = some zkL := rfl
/-! The window. -/
def wv (i : Nat) : Int := zcv (wrap64 (31 - wrap64 (2 * (i : Int))))
def wl : List Int := (List.range 32).map wv
theorem wl_len : wl.length = 32 := by simp [wl]
theorem win_spec : Ev (fun k => spec_Window.f k) wl := by
  have main := down (n := 32) (P := fun i => Ev (fun k => spec_Window.l0 k zkL (fl 0 32 wv i) ((32 : Nat) : Int) (i : Int)) wl) ?_ ?_
  · refine evlet table (evpos (by omega) (evlet rfl ?_))
    rw [fl_zero] at main
    rw [List.length_replicate]
    exact main
  · generalize hN : ((32 : Nat) : Int) = N
    refine Ev.step (fun k => rfl) (evneg (by omega) ?_)
    rw [fl_all]; exact Ev.now _
  · intro i hi h
    have hc : (i : Int) < ((32 : Nat) : Int) := Int.ofNat_lt.2 hi
    generalize ((32 : Nat) : Int) = N at hc h
    refine Ev.step (fun k => rfl) (evpos hc (evlet (sc_v _) (evpos (by omega) (evpos (by rw [fl_len]; omega) ?_))))
    rw [w64s (by omega), Int.toNat_natCast]
    rw [← fl_set] at h
    exact h
theorem win_impl : Ev (fun k => impl_Window.f k) wl := by
  have main := down (n := 32) (P := fun i => Ev (fun k => impl_Window.l0 k ((List.range i).map wv) (i : Int)) wl) ?_ ?_
  · exact main
  · generalize hN : ((32 : Nat) : Int) = N
    exact Ev.step (fun k => rfl) (evneg (by omega) (Ev.now _))
  · intro i hi h
    refine Ev.step (fun k => rfl) (evpos (by omega) (evlet (zc_v _) (evpos (by simp; omega) ?_)))
    rw [w64s (by omega)]
    rw [List.range_succ, List.map_append] at h
    exact h
/-! Marks of rows of rows. -/
theorem markSS (n : Nat) (hn : n ≤ 1048576) (C : Int) (hC : C ≤ 1125899906842624) (r : Nat) : ∀ (i : Nat) (m : List (List Int)) (a : Int), i + r = n → m.length = n → (∀ y ∈ m, y.length ≤ 1048576) → 0 ≤ a → a ≤ C + 1048576 * (i : Int) →
    ∃ b l', Ev (fun k => laws_markIntSS.l0 k m a (i : Int)) (b, l') ∧ a ≤ b ∧ b ≤ C + 1048576 * (n : Int) := by
  induction r with
  | zero =>
    intro i m a hi hm _ h0 h1
    refine ⟨a, m, Ev.step (fun k => rfl) (evneg (by omega) (Ev.now _)), by omega, ?_⟩
    have : i = n := by omega
    omega
  | succ r ih =>
    intro i m a hi hm hy h0 h1
    have hil : i < m.length := by omega
    have hb := hy _ (List.getElem_mem hil)
    obtain ⟨l1, e1, _, e3⟩ := mhIntS m[i] a h0 (by omega)
    obtain ⟨b, l', e, e4, e5⟩ := ih (i + 1) (m.set i l1) (a + m[i].length) (by omega) (by rw [List.length_set]; exact hm) (fun y hy' => by
      rcases List.mem_or_eq_of_mem_set hy' with h | h
      · exact hy y h
      · rw [h, e3]; exact hb) (by omega) (by omega)
    refine ⟨b, l', Ev.step (fun k => rfl) (evpos (by omega) (evpos (by omega) ?_)), by omega, e5⟩
    rw [w64s (by omega)]
    simp only [Int.toNat_natCast]
    rw [getD_lt hil]
    exact Ev.bind e1 e
theorem mkTones (A B : List (List Int)) (hA : (A.length ≤ 1048576 ∧ ∀ y0 ∈ A, y0.length ≤ 1048576)) (hB : (B.length ≤ 1048576 ∧ ∀ y0 ∈ B, y0.length ≤ 1048576)) : ∃ b, 0 ≤ b ∧ Ev (fun k => laws_markTones.f k A B 1) b := by
  obtain ⟨b, l1, e1, h1, h2⟩ := markSS A.length hA.1 1 (by omega) A.length 0 A 1 (by omega) rfl hA.2 (by omega) (by omega)
  have : (1048576 : Int) * (A.length : Int) ≤ 1048576 * 1048576 := by omega
  obtain ⟨c, l2, e2, h3, h4⟩ := markSS B.length hB.1 (1 + 1048576 * 1048576) (by omega) B.length 0 B b (by omega) rfl hB.2 (by omega) (by omega)
  exact ⟨c, by omega, Ev.bind e1 (Ev.bind e2 (Ev.now _))⟩
/-! The unlapped block. -/
def acu (g : Nat → Int) : Nat → Int
  | 0 => 65536
  | j + 1 => wrap64 (acu g j + wrap64 (g j))
def ug (x : List Int) (i j : Nat) : Int := rd x (j : Int) * zcv (wrap64 (wrap64 (wrap64 (2 * (i : Int)) + 17) * wrap64 (wrap64 (2 * (j : Int)) + 1)))
def ul (x : List Int) (i : Nat) : Int := (wrap64 (wrap64 (acu (ug x i) x.length / 131072 * rd wl (i : Int)) + 8192)) / 16384
def unl (x : List Int) : List Int := (List.range 32).map (ul x)
theorem unl_len (x : List Int) : (unl x).length = 32 := by simp [unl]
theorem ui_in (x o : List Int) (i : Nat) (hx : x.length = 16) (y : Int) (r : List Int) (h : Ev (fun k => if 0 ≤ (i : Int) then (if (i : Int) < (wl.length : Int) then (if o.length < 17592186044416 then (impl_zunlap.l0 k x wl (o ++ [ul x i]) (wrap64 (y + 1))) else (none)) else (none)) else (none)) r) :
    Ev (fun k => impl_zunlap.l1 k x wl o (i : Int) 65536 y x (x.length : Int) 0) r := by
  refine down (n := x.length) (P := fun j => Ev (fun k => impl_zunlap.l1 k x wl o (i : Int) (acu (ug x i) j) y x (x.length : Int) (j : Int)) r) ?_ ?_
  · exact Ev.step (fun k => rfl) (evneg (by omega) h)
  · intro j hj ih
    refine Ev.step (fun k => rfl) (evpos (by omega) (evpos (by omega) (evpos (by omega) (evlet (zc_v _) ?_))))
    rw [w64s (by omega)]
    exact ih
theorem ui (x : List Int) (hx : x.length = 16) : Ev (fun k => impl_zunlap.f k x) (unl x) := by
  refine Ev.bind win_impl ?_
  have main := down (n := 32) (P := fun i => Ev (fun k => impl_zunlap.l0 k x wl ((List.range i).map (ul x)) (i : Int)) (unl x)) ?_ ?_
  · exact main
  · generalize hN : ((32 : Nat) : Int) = N
    exact Ev.step (fun k => rfl) (evneg (by omega) (Ev.now _))
  · intro i hi ih
    refine Ev.step (fun k => rfl) (evpos (by omega) ?_)
    have hw : (i : Int) < (wl.length : Int) := by rw [wl_len]; omega
    refine ui_in x _ i hx (i : Int) _ (evpos (by omega) (evpos hw (evpos (by simp; omega) ?_)))
    rw [w64s (by omega)]
    rw [List.range_succ, List.map_append] at ih
    exact ih
theorem us_in (x o : List Int) (i : Nat) (hx : x.length = 16) (z y : Int) (r : List Int) (h : Ev (fun k => if 0 ≤ (i : Int) then (if (i : Int) < (wl.length : Int) then (if (i : Int) < (o.length : Int) then (spec_l11Unlap.l0 k x zkL wl (o.set (i : Int).toNat (ul x i)) z (wrap64 (y + 1))) else (none)) else (none)) else (none)) r) :
    Ev (fun k => spec_l11Unlap.l1 k x zkL wl o (i : Int) 65536 z y (x.length : Int) 0) r := by
  refine down (n := x.length) (P := fun j => Ev (fun k => spec_l11Unlap.l1 k x zkL wl o (i : Int) (acu (ug x i) j) z y (x.length : Int) (j : Int)) r) ?_ ?_
  · exact Ev.step (fun k => rfl) (evneg (by omega) h)
  · intro j hj ih
    refine Ev.step (fun k => rfl) (evpos (by omega) (evpos (by omega) (evpos (by omega) (evlet (sc_v _) ?_))))
    rw [w64s (by omega)]
    exact ih
theorem us (x : List Int) (hx : x.length = 16) : Ev (fun k => spec_l11Unlap.f k x) (unl x) := by
  refine evlet table (Ev.bind win_spec (evpos (by omega) (evlet rfl ?_)))
  have main := down (n := 32) (P := fun i => Ev (fun k => spec_l11Unlap.l0 k x zkL wl (fl 0 32 (ul x) i) ((32 : Nat) : Int) (i : Int)) (unl x)) ?_ ?_
  · rw [fl_zero] at main
    rw [List.length_replicate]
    exact main
  · generalize hN : ((32 : Nat) : Int) = N
    refine Ev.step (fun k => rfl) (evneg (by omega) ?_)
    rw [fl_all]; exact Ev.now _
  · intro i hi ih
    have hc : (i : Int) < ((32 : Nat) : Int) := Int.ofNat_lt.2 hi
    generalize ((32 : Nat) : Int) = N at hc ih
    have hw : (i : Int) < (wl.length : Int) := by rw [wl_len]; omega
    refine Ev.step (fun k => rfl) (evpos hc (us_in x _ i hx N (i : Int) _ (evpos (by omega) (evpos hw (evpos (by rw [fl_len]; omega) ?_)))))
    rw [w64s (by omega), Int.toNat_natCast]
    rw [← fl_set] at ih
    exact ih
/-! What is good. -/
def okr (l : List Int) (lo hi : Int) : Prop := ∀ i : Nat, i < l.length → lo ≤ rd l (i : Int) ∧ rd l (i : Int) ≤ hi
theorem ranges (l : List Int) (hl : l.length ≤ 1048576) (lb ub N : Int) : ∃ q : Bool, Ev (fun k => spec_l11All.f k l N lb ub) (q && ((l.length : Int) == N)) ∧ (¬ (l.length : Int) > N → Ev (fun k => impl_zrange.f k l lb ub N) q) ∧ (q = true → okr l lb ub) := by
  have main := down (n := l.length) (P := fun i => ∃ q : Bool, Ev (fun k => spec_l11All.l0 k l N lb ub l (l.length : Int) (i : Int)) (q && ((l.length : Int) == N)) ∧ Ev (fun k => impl_zrange.l0 k lb ub l (l.length : Int) (i : Int)) q ∧ (q = true → ∀ j, i ≤ j → j < l.length → lb ≤ rd l (j : Int) ∧ rd l (j : Int) ≤ ub)) ?_ ?_
  · obtain ⟨q, h1, h2, h3⟩ := main
    exact ⟨q, h1, fun h => evneg h h2, fun h i hi => h3 h i (by omega) hi⟩
  · exact ⟨true, Ev.step (fun k => rfl) (evneg (by omega) (by rw [Bool.true_and]; exact Ev.now _)), Ev.step (fun k => rfl) (evneg (by omega) (Ev.now _)), fun _ j h1 h2 => by omega⟩
  · intro i hi ⟨q, h1, h2, h3⟩
    generalize er : rd l (i : Int) = v
    by_cases c : v < lb
    · refine ⟨false, Ev.step (fun k => rfl) (evpos (by omega) (evpos (by omega) (evpos (by omega) ?_))), Ev.step (fun k => rfl) (evpos (by omega) (evpos (by omega) (evpos (by omega) ?_))), (fun h => by cases h)⟩
      · rw [er]; exact evpos c (Ev.now _)
      · rw [er]; exact evpos c (Ev.now _)
    by_cases d : v > ub
    · refine ⟨false, Ev.step (fun k => rfl) (evpos (by omega) (evpos (by omega) (evpos (by omega) ?_))), Ev.step (fun k => rfl) (evpos (by omega) (evpos (by omega) (evpos (by omega) ?_))), (fun h => by cases h)⟩
      · rw [er]; exact evneg c (evpos d (Ev.now _))
      · rw [er]; exact evneg c (evpos d (Ev.now _))
    refine ⟨q, Ev.step (fun k => rfl) (evpos (by omega) (evpos (by omega) (evpos (by omega) ?_))), Ev.step (fun k => rfl) (evpos (by omega) (evpos (by omega) (evpos (by omega) ?_))), fun h j hj1 hj2 => ?_⟩
    · rw [er, w64s (by omega)]; exact evneg c (evneg d h1)
    · rw [er, w64s (by omega)]; exact evneg c (evneg d h2)
    · by_cases e : j = i
      · subst e; rw [er]; omega
      · exact h3 h j (by omega) hj2
def row (S : List (List Int)) (j : Nat) : List Int := S.getD j []
def goodAt (S G : List (List Int)) (j : Nat) : Prop := (row S j).length = 16 ∧ (row G j).length = 8 ∧ okr (row G j) 0 12
theorem good_loop (S G : List (List Int)) (hS : S.length ≤ 1048576 ∧ ∀ y ∈ S, y.length ≤ 1048576) (hG : ∀ y ∈ G, y.length ≤ 1048576) (hl : G.length = S.length) (a b c : Int) : ∃ q : Bool, Ev (fun k => spec_GoodTones.l0 k (S.length : Int) 0 a b c S G) q ∧ Ev (fun k => impl_GoodTones.l0 k (S.length : Int) 0 a b c S G) q ∧ (q = true → ∀ j, j < S.length → goodAt S G j) := by
  have main := down (n := S.length) (P := fun i => ∃ q : Bool, Ev (fun k => spec_GoodTones.l0 k (S.length : Int) (i : Int) a b c S G) q ∧ Ev (fun k => impl_GoodTones.l0 k (S.length : Int) (i : Int) a b c S G) q ∧ (q = true → ∀ j, i ≤ j → j < S.length → goodAt S G j)) ?_ ?_
  · obtain ⟨q, h1, h2, h3⟩ := main
    exact ⟨q, h1, h2, fun h j hj => h3 h j (by omega) hj⟩
  · exact ⟨true, Ev.step (fun k => rfl) (evneg (by omega) (Ev.now _)), Ev.step (fun k => rfl) (evneg (by omega) (Ev.now _)), fun _ j h1 h2 => by omega⟩
  · intro i hi ⟨q, h1, h2, h3⟩
    have hgi : i < G.length := by omega
    have eS : rd_L1 S (i : Int) = row S i := rdL1n S i
    have eG : rd_L1 G (i : Int) = row G i := rdL1n G i
    have bS : (row S i).length ≤ 1048576 := by unfold row; rw [getD_lt hi]; exact hS.2 _ (List.getElem_mem hi)
    have bG : (row G i).length ≤ 1048576 := by unfold row; rw [getD_lt hgi]; exact hG _ (List.getElem_mem hgi)
    generalize hs : row S i = s at eS bS
    generalize hg : row G i = g at eG bG
    obtain ⟨N16, hN16⟩ : ∃ N : Int, N = 16 := ⟨_, rfl⟩
    obtain ⟨N8, hN8⟩ : ∃ N : Int, N = 8 := ⟨_, rfl⟩
    obtain ⟨q1, a1, a2, a3⟩ := ranges s bS (-1048576) 1048575 N16
    obtain ⟨q2, b1, b2, b3⟩ := ranges g bG 0 12 N8
    have fin : ∀ x y : Bool, (x = true ∧ y = true → False) → ∀ r : Bool, r = false → r = true → ∀ j, i ≤ j → j < S.length → goodAt S G j := fun _ _ _ r h1 h2 => by rw [h1] at h2; cases h2
    by_cases c1 : (s.length : Int) = N16
    · have e1 : ((s.length : Int) == N16) = true := beq_iff_eq.2 c1
      rw [e1, Bool.and_true] at a1
      have a2' := a2 (by omega)
      cases q1 with
      | false =>
        refine ⟨false, Ev.step (fun k => rfl) (evpos (by omega) (evpos (by omega) (evpos (by omega) ?_))), Ev.step (fun k => rfl) (evpos (by omega) (evpos (by omega) (evpos (by omega) ?_))), (fun h => by cases h)⟩
        · rw [eS, ← hN16]; exact Ev.bind a1 (evneg (by simp) (Ev.now _))
        · rw [eS, ← hN16]; exact evpos c1 (Ev.bind a2' (evneg (by simp) (Ev.now _)))
      | true =>
        by_cases c2 : (g.length : Int) = N8
        · have e2 : ((g.length : Int) == N8) = true := beq_iff_eq.2 c2
          rw [e2, Bool.and_true] at b1
          have b2' := b2 (by omega)
          cases q2 with
          | false =>
            refine ⟨false, Ev.step (fun k => rfl) (evpos (by omega) (evpos (by omega) (evpos (by omega) ?_))), Ev.step (fun k => rfl) (evpos (by omega) (evpos (by omega) (evpos (by omega) ?_))), (fun h => by cases h)⟩
            · rw [eS, eG, ← hN16, ← hN8]; exact Ev.bind a1 (evpos rfl (evpos (by omega) (Ev.bind b1 (evneg (by simp) (Ev.now _)))))
            · rw [eS, eG, ← hN16, ← hN8]; exact evpos c1 (Ev.bind a2' (evpos rfl (evpos (by omega) (evpos c2 (Ev.bind b2' (evneg (by simp) (Ev.now _)))))))
          | true =>
            refine ⟨q, Ev.step (fun k => rfl) (evpos (by omega) (evpos (by omega) (evpos (by omega) ?_))), Ev.step (fun k => rfl) (evpos (by omega) (evpos (by omega) (evpos (by omega) ?_))), fun h j hj1 hj2 => ?_⟩
            · rw [eS, eG, ← hN16, ← hN8, w64s (by omega)]; exact Ev.bind a1 (evpos rfl (evpos (by omega) (Ev.bind b1 (evpos rfl h1))))
            · rw [eS, eG, ← hN16, ← hN8, w64s (by omega)]; exact evpos c1 (Ev.bind a2' (evpos rfl (evpos (by omega) (evpos c2 (Ev.bind b2' (evpos rfl h2))))))
            · by_cases e : j = i
              · subst e
                refine ⟨?_, ?_, ?_⟩
                · rw [hs]; omega
                · rw [hg]; omega
                · rw [hg]; exact b3 rfl
              · exact h3 h j (by omega) hj2
        · have e2 : ((g.length : Int) == N8) = false := beq_eq_false_iff_ne.2 c2
          rw [e2, Bool.and_false] at b1
          refine ⟨false, Ev.step (fun k => rfl) (evpos (by omega) (evpos (by omega) (evpos (by omega) ?_))), Ev.step (fun k => rfl) (evpos (by omega) (evpos (by omega) (evpos (by omega) ?_))), (fun h => by cases h)⟩
          · rw [eS, eG, ← hN16, ← hN8]; exact Ev.bind a1 (evpos rfl (evpos (by omega) (Ev.bind b1 (evneg (by simp) (Ev.now _)))))
          · rw [eS, eG, ← hN16, ← hN8]; exact evpos c1 (Ev.bind a2' (evpos rfl (evpos (by omega) (evneg c2 (Ev.now _)))))
    · have e1 : ((s.length : Int) == N16) = false := beq_eq_false_iff_ne.2 c1
      rw [e1, Bool.and_false] at a1
      refine ⟨false, Ev.step (fun k => rfl) (evpos (by omega) (evpos (by omega) (evpos (by omega) ?_))), Ev.step (fun k => rfl) (evpos (by omega) (evpos (by omega) (evpos (by omega) ?_))), (fun h => by cases h)⟩
      · rw [eS, ← hN16]; exact Ev.bind a1 (evneg (by simp) (Ev.now _))
      · rw [eS, ← hN16]; exact evneg c1 (Ev.now _)
theorem good_both (a b c : Int) (S G : List (List Int)) (hS : S.length ≤ 1048576 ∧ ∀ y ∈ S, y.length ≤ 1048576) (hG : G.length ≤ 1048576 ∧ ∀ y ∈ G, y.length ≤ 1048576) : ∃ q : Bool, Ev (fun k => spec_GoodTones.f k a b c S G) q ∧ Ev (fun k => impl_GoodTones.f k a b c S G) q ∧ (q = true → 0 ≤ c ∧ c ≤ 4000 ∧ (S.length : Int) = (c + 15) / 16 + 1 ∧ G.length = S.length ∧ ∀ j, j < S.length → goodAt S G j) := by
  have st : Ev (fun k => spec_GoodTones.j0 k true a b c S G) false := Ev.step (f := fun _ => some false) (fun k => by simp only [spec_GoodTones.j0, if_true]) (Ev.now _)
  have it : Ev (fun k => impl_GoodTones.j0 k true a b c S G) false := Ev.step (f := fun _ => some false) (fun k => by simp only [impl_GoodTones.j0, if_true]) (Ev.now _)
  have no : ∀ P : Prop, (false = true) → P := fun P h => by cases h
  by_cases c1 : a < 1
  · exact ⟨false, evlet (a := false) (by unfold spec_l11Head.f; rw [if_neg (by omega)]) (evneg (by simp) st), evpos c1 it, no _⟩
  by_cases c2 : a > 1000000
  · exact ⟨false, evlet (a := false) (by unfold spec_l11Head.f; rw [if_pos (by omega), if_neg (by omega)]) (evneg (by simp) st), evneg c1 (evpos c2 it), no _⟩
  by_cases c3 : b < 0
  · exact ⟨false, evlet (a := false) (by unfold spec_l11Head.f; rw [if_pos (by omega), if_pos (by omega), if_neg (by omega)]) (evneg (by simp) st), evneg c1 (evneg c2 (evpos c3 it)), no _⟩
  by_cases c4 : b > 15
  · exact ⟨false, evlet (a := false) (by unfold spec_l11Head.f; rw [if_pos (by omega), if_pos (by omega), if_pos (by omega), if_neg (by omega)]) (evneg (by simp) st), evneg c1 (evneg c2 (evneg c3 (evpos c4 it))), no _⟩
  by_cases c5 : c < 0
  · exact ⟨false, evlet (a := false) (by unfold spec_l11Head.f; rw [if_pos (by omega), if_pos (by omega), if_pos (by omega), if_pos (by omega), if_neg (by omega)]) (evneg (by simp) st), evneg c1 (evneg c2 (evneg c3 (evneg c4 (evpos c5 it)))), no _⟩
  by_cases c6 : c > 4000
  · exact ⟨false, evlet (a := false) (by unfold spec_l11Head.f; rw [if_pos (by omega), if_pos (by omega), if_pos (by omega), if_pos (by omega), if_pos (by omega), decide_eq_false (by omega)]) (evneg (by simp) st), evneg c1 (evneg c2 (evneg c3 (evneg c4 (evneg c5 (evpos c6 it))))), no _⟩
  have hd : spec_l11Head.f a b c = some true := by unfold spec_l11Head.f; rw [if_pos (by omega), if_pos (by omega), if_pos (by omega), if_pos (by omega), if_pos (by omega), decide_eq_true (by omega)]
  have hw : wrap64 ((wrap64 (Int.tdiv (wrap64 (c + 15)) 16)) + 1) = (c + 15) / 16 + 1 := by
    rw [w64 (n := c + 15) (by omega) (by omega), Int.tdiv_eq_ediv_of_nonneg (by omega), w64 (n := (c + 15) / 16) (by omega) (by omega), w64 (by omega) (by omega)]
  have hsl : spec_l11Slots.f c = some ((c + 15) / 16 + 1) := by unfold spec_l11Slots.f; rw [hw]
  have hI : ∀ {r : Bool}, Ev (fun k => if (S.length : Int) = ((c + 15) / 16 + 1) then (impl_GoodTones.j0 k ((G.length : Int) != ((c + 15) / 16 + 1)) a b c S G) else (impl_GoodTones.j0 k true a b c S G)) r → Ev (fun k => impl_GoodTones.f k a b c S G) r := fun h => evneg c1 (evneg c2 (evneg c3 (evneg c4 (evneg c5 (evneg c6 (by rw [hw]; exact h))))))
  by_cases c7 : (S.length : Int) = (c + 15) / 16 + 1
  · by_cases c8 : G.length = S.length
    · obtain ⟨q, h1, h2, h3⟩ := good_loop S G hS hG.2 c8 a b c
      refine ⟨q, evlet hd (evpos rfl (evlet hsl (evpos c7 ?_))), hI (evpos c7 ?_), fun h => ⟨by omega, by omega, c7, c8, h3 h⟩⟩
      · rw [show ((G.length : Int) != (S.length : Int)) = false by rw [c8]; simp]
        exact Ev.step (f := fun k => spec_GoodTones.l0 k (S.length : Int) 0 a b c S G) (fun k => by simp only [spec_GoodTones.j0, Bool.false_eq_true, if_false]) h1
      · rw [show ((G.length : Int) != ((c + 15) / 16 + 1)) = false by rw [c8, c7]; simp]
        exact Ev.step (f := fun k => impl_GoodTones.l0 k (S.length : Int) 0 a b c S G) (fun k => by simp only [impl_GoodTones.j0, Bool.false_eq_true, if_false]) h2
    · refine ⟨false, evlet hd (evpos rfl (evlet hsl (evpos c7 ?_))), hI (evpos c7 ?_), no _⟩
      · rw [show ((G.length : Int) != (S.length : Int)) = true by simp; omega]; exact st
      · rw [show ((G.length : Int) != ((c + 15) / 16 + 1)) = true by rw [← c7]; simp; omega]; exact it
  · exact ⟨false, evlet hd (evpos rfl (evlet hsl (evneg c7 st))), hI (evneg c7 it), no _⟩
/-! The sound. -/
def wvl (S G : List (List Int)) (j i : Nat) : Int := shl .i64 (rd (row S j) (i : Int)) (rd (row G j) ((i / 2 : Nat) : Int))
def wb (S G : List (List Int)) (j : Nat) : List Int := (List.range 16).map (wvl S G j)
def lastS (S G : List (List Int)) : Nat → List Int
  | 0 => []
  | j + 1 => unl (wb S G j)
def clip (s : Int) : Int := mn (mx s (-32768)) 32767
theorem clip_lo {z : Int} (h : z < -32768) : clip z = -32768 := by unfold clip mx mn; (repeat' split) <;> omega
theorem clip_hi {z : Int} (h : z > 32767) : clip z = 32767 := by unfold clip mx mn; (repeat' split) <;> omega
theorem clip_in {z : Int} (h : ¬ z < -32768) (k : ¬ z > 32767) : clip z = z := by unfold clip mx mn; (repeat' split) <;> omega
def sv (S G : List (List Int)) (j i : Nat) : Int := clip (wrap64 (rd (lastS S G j) (((16 + i : Nat)) : Int) + rd (unl (wb S G j)) (i : Int)))
def outS (S G : List (List Int)) : Nat → List Int
  | 0 => []
  | j + 1 => outS S G j ++ (if j = 0 then [] else (List.range 16).map (sv S G j))
theorem outS_len (S G : List (List Int)) : ∀ j, (outS S G j).length = 16 * (j - 1)
  | 0 => rfl
  | j + 1 => by
    show (outS S G j ++ _).length = _
    rw [List.length_append, outS_len S G j]
    by_cases h : j = 0
    · subst h; rfl
    · rw [if_neg h]; simp; omega
theorem lastS_len (S G : List (List Int)) (j : Nat) (h : 0 < j) : (lastS S G j).length = 32 := by
  obtain ⟨m, rfl⟩ : ∃ m, j = m + 1 := ⟨j - 1, by omega⟩
  exact unl_len _
theorem half (i : Nat) (h : i < 16) : wrap64 (Int.tdiv (i : Int) 2) = ((i / 2 : Nat) : Int) := by
  rw [Int.tdiv_eq_ediv_of_nonneg (by omega), w64 (by omega) (by omega)]; omega
theorem w16 (i : Nat) (h : i < 16) : wrap64 (16 + (i : Int)) = ((16 + i : Nat) : Int) := by rw [w64 (by omega) (by omega)]; omega
variable (S G : List (List Int)) (a b c : Int)
theorem spec_w (j : Nat) (hj : j < S.length) (hl : G.length = S.length) (hg : goodAt S G j) (o l : List Int) (X Y : Int) (r : List Int)
    (h : Ev (fun k => (spec_l11Unlap.f k (wb S G j)).bind fun t158 => (spec_SoundOf.l2 k o l (j : Int) t158 0 X Y a b c S G)) r) :
    Ev (fun k => spec_SoundOf.l1 k o l (j : Int) (List.replicate 16 0) X Y (row S j) ((row S j).length : Int) 0 a b c S G) r := by
  obtain ⟨h1, h2, h3⟩ := hg
  have eG : rd_L1 G (j : Int) = row G j := rdL1n G j
  have main := down (n := 16) (P := fun i => Ev (fun k => spec_SoundOf.l1 k o l (j : Int) (fl 0 16 (wvl S G j) i) X Y (row S j) ((row S j).length : Int) (i : Int) a b c S G) r) ?_ ?_
  · rw [fl_zero] at main; exact main
  · rw [h1]
    generalize hN : ((16 : Nat) : Int) = N
    refine Ev.step (fun k => rfl) (evneg (by omega) ?_)
    rw [fl_all]; exact h
  · intro i hi ih
    have gb := h3 (i / 2) (by omega)
    have eu : IntKind.u64.wrap (rd (row G j) ((i / 2 : Nat) : Int)) = rd (row G j) ((i / 2 : Nat) : Int) := by
      generalize rd (row G j) ((i / 2 : Nat) : Int) = z at gb
      simp [IntKind.wrap, IntKind.signed, IntKind.bits]; omega
    refine Ev.step (fun k => rfl) (evpos (by omega) (evpos (by omega) (evpos (by omega) (evpos (by omega) (evpos (by omega) (evpos ?_ (evpos ?_ (evpos ?_ (evpos ?_ ?_)))))))))
    · rw [half i hi]; omega
    · rw [half i hi, eG]; omega
    · rw [half i hi, eG, eu]; exact gb.1
    · rw [fl_len]; omega
    · rw [half i hi, eG, eu, w64s (by omega), Int.toNat_natCast]
      rw [← fl_set] at ih
      exact ih
theorem impl_w (j : Nat) (hj : j < S.length) (hl : G.length = S.length) (hg : goodAt S G j) (o l : List Int) (X Y : Int) (r : List Int)
    (h : Ev (fun k => (impl_zunlap.f k (wb S G j)).bind fun t225 => (if (j : Int) > 0 then (impl_SoundOf.l2 k o l t225 S X Y 0 a b c S G) else (impl_SoundOf.l0 k o t225 S X (wrap64 (Y + 1)) a b c S G))) r) :
    Ev (fun k => impl_SoundOf.l1 k o l (j : Int) (row S j) S X Y ((row S j).length : Int) 0 a b c S G) r := by
  obtain ⟨h1, h2, h3⟩ := hg
  have eG : rd_L1 G (j : Int) = row G j := rdL1n G j
  have main := down (n := 16) (P := fun i => Ev (fun k => impl_SoundOf.l1 k o l (j : Int) (f2 (row S j).length (wvl S G j) (fun m => (row S j).getD m 0) i) S X Y ((row S j).length : Int) (i : Int) a b c S G) r) ?_ ?_
  · rw [f2_zero] at main; exact main
  · have e := f2_all (row S j).length (wvl S G j) (fun m => (row S j).getD m 0)
    rw [h1] at e
    rw [h1]
    generalize hN : ((16 : Nat) : Int) = N
    refine Ev.step (fun k => rfl) (evneg (by omega) ?_)
    rw [e]; exact h
  · intro i hi ih
    have gb := h3 (i / 2) (by omega)
    have e : rd (f2 (row S j).length (wvl S G j) (fun m => (row S j).getD m 0) i) (i : Int) = rd (row S j) (i : Int) := by
      rw [rd_nat, rd_nat]
      unfold f2
      rw [range_getD _ _ _ _ (by omega), if_neg (by omega)]
    refine Ev.step (fun k => rfl) (evpos (by omega) (evpos (by omega) (evpos (by rw [f2_len]; omega) (evpos (by omega) (evpos (by omega) (evpos ?_ (evpos ?_ (evpos ?_ ?_))))))))
    · rw [half i hi]; omega
    · rw [half i hi, eG]; omega
    · rw [half i hi, eG]; exact gb.1
    · rw [half i hi, eG, e, w64s (by omega), Int.toNat_natCast]
      rw [← f2_set] at ih
      exact ih
theorem spec_row (j : Nat) (h0 : 0 < j) (hj : j < S.length) (hb : S.length ≤ 1048576) (X : Int) (r : List Int)
    (h : Ev (fun k => spec_SoundOf.l0 k (outS S G (j + 1)) (lastS S G (j + 1)) X (wrap64 ((j : Int) + 1)) a b c S G) r) :
    Ev (fun k => spec_SoundOf.l2 k (outS S G j) (lastS S G j) (j : Int) (unl (wb S G j)) 0 X (j : Int) a b c S G) r := by
  have main := down (n := 16) (P := fun i => Ev (fun k => spec_SoundOf.l2 k (outS S G j ++ (List.range i).map (sv S G j)) (lastS S G j) (j : Int) (unl (wb S G j)) (i : Int) X (j : Int) a b c S G) r) ?_ ?_
  · rw [show (List.range 0).map (sv S G j) = [] from rfl, List.append_nil] at main; exact main
  · generalize hN : ((16 : Nat) : Int) = N
    refine Ev.step (fun k => rfl) (evneg (by omega) (Ev.step (f := fun k => spec_SoundOf.l0 k (outS S G j ++ (List.range 16).map (sv S G j)) (unl (wb S G j)) X (wrap64 ((j : Int) + 1)) a b c S G) (fun k => by simp only [spec_SoundOf.j3, Bool.false_eq_true, if_false]) ?_))
    have e : outS S G (j + 1) = outS S G j ++ (List.range 16).map (sv S G j) := by
      show outS S G j ++ _ = _
      rw [if_neg (by omega)]
    rw [e] at h
    exact h
  · intro i hi ih
    have hd : decide ((j : Int) > 0) = true := decide_eq_true (by omega)
    have hl := lastS_len S G j h0
    have hu := unl_len (wb S G j)
    have ho := outS_len S G j
    have lim : (outS S G j ++ (List.range i).map (sv S G j)).length < 17592186044416 := by rw [List.length_append, ho]; simp; omega
    rw [List.range_succ, List.map_append, ← List.append_assoc] at ih
    have es : sv S G j i = clip (wrap64 (rd (lastS S G j) ((16 + i : Nat) : Int) + rd (unl (wb S G j)) (i : Int))) := rfl
    generalize outS S G j ++ (List.range i).map (sv S G j) = o at lim ih
    have e0 : [sv S G j i] = (List.map (sv S G j) [i]) := rfl
    rw [← e0, es] at ih
    refine Ev.step (fun k => rfl) (evpos (by omega) ?_)
    rw [hd]
    refine Ev.step (f := fun k => if 0 ≤ (wrap64 (16 + (i : Int))) then (if (wrap64 (16 + (i : Int))) < ((lastS S G j).length : Int) then (if 0 ≤ (i : Int) then (if (i : Int) < ((unl (wb S G j)).length : Int) then (if (wrap64 ((rd (lastS S G j) (wrap64 (16 + (i : Int)))) + (rd (unl (wb S G j)) (i : Int)))) < (-32768) then (if o.length < 17592186044416 then (spec_SoundOf.l2 k (o ++ [(-32768)]) (lastS S G j) (j : Int) (unl (wb S G j)) (wrap64 ((i : Int) + 1)) X (j : Int) a b c S G) else (none)) else (if (wrap64 ((rd (lastS S G j) (wrap64 (16 + (i : Int)))) + (rd (unl (wb S G j)) (i : Int)))) > 32767 then (if o.length < 17592186044416 then (spec_SoundOf.l2 k (o ++ [32767]) (lastS S G j) (j : Int) (unl (wb S G j)) (wrap64 ((i : Int) + 1)) X (j : Int) a b c S G) else (none)) else (if o.length < 17592186044416 then (spec_SoundOf.l2 k (o ++ [wrap64 ((rd (lastS S G j) (wrap64 (16 + (i : Int)))) + (rd (unl (wb S G j)) (i : Int)))]) (lastS S G j) (j : Int) (unl (wb S G j)) (wrap64 ((i : Int) + 1)) X (j : Int) a b c S G) else (none)))) else (none)) else (none)) else (none)) else (none)) (fun k => by simp only [spec_SoundOf.j3, if_true]) ?_
    rw [w16 i hi]
    refine evpos (by omega) (evpos (by omega) (evpos (by omega) (evpos (by omega) ?_)))
    rw [w64s (by omega)]
    generalize wrap64 (rd (lastS S G j) ((16 + i : Nat) : Int) + rd (unl (wb S G j)) (i : Int)) = z at ih ⊢
    by_cases c1 : z < -32768
    · rw [clip_lo c1] at ih
      exact evpos c1 (evpos lim ih)
    by_cases c2 : z > 32767
    · rw [clip_hi c2] at ih
      exact evneg c1 (evpos c2 (evpos lim ih))
    rw [clip_in c1 c2] at ih
    exact evneg c1 (evneg c2 (evpos lim ih))
theorem spec_row0 (X : Int) (r : List Int) (u : List Int)
    (h : Ev (fun k => spec_SoundOf.l0 k [] u X (wrap64 (((0 : Nat) : Int) + 1)) a b c S G) r) :
    Ev (fun k => spec_SoundOf.l2 k [] [] ((0 : Nat) : Int) u 0 X ((0 : Nat) : Int) a b c S G) r := by
  refine Ev.step (f := fun k => spec_SoundOf.j3 k [] [] ((0 : Nat) : Int) u 0 X ((0 : Nat) : Int) (decide (((0 : Nat) : Int) > 0)) a b c S G) (fun k => by simp only [spec_SoundOf.l2]; rw [if_pos (by decide)]) ?_
  rw [show decide (((0 : Nat) : Int) > 0) = false from rfl]
  exact Ev.step (f := fun k => spec_SoundOf.l0 k [] u X (wrap64 (((0 : Nat) : Int) + 1)) a b c S G) (fun k => by simp only [spec_SoundOf.j3, Bool.false_eq_true, if_false]) h
theorem impl_row (j : Nat) (h0 : 0 < j) (hj : j < S.length) (hb : S.length ≤ 1048576) (X : Int) (r : List Int)
    (h : Ev (fun k => impl_SoundOf.l0 k (outS S G (j + 1)) (lastS S G (j + 1)) S X (wrap64 ((j : Int) + 1)) a b c S G) r) :
    Ev (fun k => impl_SoundOf.l2 k (outS S G j) (lastS S G j) (unl (wb S G j)) S X (j : Int) 0 a b c S G) r := by
  have main := down (n := 16) (P := fun i => Ev (fun k => impl_SoundOf.l2 k (outS S G j ++ (List.range i).map (sv S G j)) (lastS S G j) (unl (wb S G j)) S X (j : Int) (i : Int) a b c S G) r) ?_ ?_
  · rw [show (List.range 0).map (sv S G j) = [] from rfl, List.append_nil] at main; exact main
  · generalize hN : ((16 : Nat) : Int) = N
    refine Ev.step (fun k => rfl) (evneg (by omega) ?_)
    have e : outS S G (j + 1) = outS S G j ++ (List.range 16).map (sv S G j) := by
      show outS S G j ++ _ = _
      rw [if_neg (by omega)]
    rw [e] at h
    exact h
  · intro i hi ih
    have hl := lastS_len S G j h0
    have hu := unl_len (wb S G j)
    have ho := outS_len S G j
    have lim : (outS S G j ++ (List.range i).map (sv S G j)).length < 17592186044416 := by rw [List.length_append, ho]; simp; omega
    rw [List.range_succ, List.map_append, ← List.append_assoc] at ih
    refine Ev.step (fun k => rfl) (evpos (by omega) ?_)
    rw [w16 i hi, w64s (by omega)]
    exact evpos (by omega) (evpos (by omega) (evpos (by omega) (evpos (by omega) (evpos lim ih))))
theorem sound_both (hS : S.length ≤ 1048576) (h0 : 0 ≤ c) (h1 : c ≤ 4000) (hh : (S.length : Int) = (c + 15) / 16 + 1) (hl : G.length = S.length) (hg : ∀ j, j < S.length → goodAt S G j) :
    ∃ r, r.length ≤ 1048576 ∧ Ev (fun k => spec_SoundOf.l0 k [] [] (S.length : Int) 0 a b c S G) r ∧ Ev (fun k => impl_SoundOf.l0 k [] [] S (S.length : Int) 0 a b c S G) r := by
  have hlen := outS_len S G S.length
  refine ⟨(outS S G S.length).take c.toNat, by rw [List.length_take]; omega, ?_, ?_⟩
  · have main := down (n := S.length) (P := fun j => Ev (fun k => spec_SoundOf.l0 k (outS S G j) (lastS S G j) (S.length : Int) (j : Int) a b c S G) ((outS S G S.length).take c.toNat)) ?_ ?_
    · exact main
    · exact Ev.step (fun k => rfl) (evneg (by omega) (evpos h0 (evpos (by omega) (Ev.now _))))
    · intro j hj ih
      have eS : rd_L1 S (j : Int) = row S j := rdL1n S j
      refine Ev.step (fun k => rfl) (evpos (by omega) (evpos (by omega) (evpos (by omega) (evpos (by omega) ?_))))
      rw [eS]
      refine spec_w S G a b c j hj hl (hg j hj) _ _ _ _ _ (Ev.bind (us _ (by simp [wb])) ?_)
      rw [← w64s (by omega)] at ih
      by_cases z : j = 0
      · subst z
        exact spec_row0 S G a b c _ _ _ ih
      · exact spec_row S G a b c j (by omega) hj hS _ _ ih
  · have main := down (n := S.length) (P := fun j => Ev (fun k => impl_SoundOf.l0 k (outS S G j) (lastS S G j) S (S.length : Int) (j : Int) a b c S G) ((outS S G S.length).take c.toNat)) ?_ ?_
    · exact main
    · have em : mn c ((outS S G S.length).length : Int) = c := by unfold mn; split <;> omega
      refine Ev.step (fun k => rfl) (evneg (by omega) ?_)
      rw [em]
      exact evpos h0 (evpos (by omega) (Ev.now _))
    · intro j hj ih
      have eS : rd_L1 S (j : Int) = row S j := rdL1n S j
      have zc : impl_zcopy.f (row S j) = some (row S j) := by
        unfold impl_zcopy.f
        rw [Option.bind_some, if_pos (by have := (hg j hj).1; simp; omega), List.nil_append]
      refine Ev.step (fun k => rfl) (evpos (by omega) (evpos (by omega) (evpos (by omega) ?_)))
      rw [eS]
      refine evlet zc (impl_w S G a b c j hj hl (hg j hj) _ _ _ _ _ (Ev.bind (ui _ (by simp [wb])) ?_))
      rw [← w64s (by omega)] at ih
      by_cases z : j = 0
      · subst z
        exact evneg (by omega) ih
      · exact evpos (by omega) (impl_row S G a b c j (by omega) hj hS _ _ ih)
theorem FnExactSoundOf : laws_FnExactSoundOf.Pure := by
  intro a b c S G hwf
  obtain ⟨_, _, _, ⟨s1, s2⟩, ⟨g1, g2⟩⟩ := hwf
  obtain ⟨s, es, _, hs⟩ := szTones a b c S G 1048576 ⟨s1, fun y hy => (s2 y hy).1⟩ ⟨g1, fun y hy => (g2 y hy).1⟩ (by omega) (by omega)
  by_cases cs : s < 0
  · obtain ⟨K, h⟩ := es
    exact ⟨K, s, h K (Nat.le_refl _), .inl cs⟩
  obtain ⟨bS, bG⟩ := hs (by omega)
  have et := toTones a b c S G bS bG
  have eq := eqTones a b c S G ⟨by omega, fun y hy => by have := bS.2 y hy; omega⟩ ⟨by omega, fun y hy => by have := bG.2 y hy; omega⟩
  obtain ⟨ka, hka, em⟩ := mkTones S G bS bG
  obtain ⟨r, hr, e1, e2⟩ : ∃ r, r.length ≤ 1048576 ∧ Ev (fun k => spec_SoundOf.f k a b c S G) r ∧ Ev (fun k => impl_SoundOf.f k a b c S G) r := by
    obtain ⟨q, h1, h2, h3⟩ := good_both a b c S G bS bG
    cases q with
    | false => exact ⟨[], by simp, Ev.bind h1 (evneg (by simp) (Ev.now _)), Ev.bind h2 (evneg (by simp) (Ev.now _))⟩
    | true =>
      obtain ⟨c0, c1, c2, c3, c4⟩ := h3 rfl
      obtain ⟨r, hr, e1, e2⟩ := sound_both S G a b c bS.1 c0 c1 c2 c3 c4
      exact ⟨r, hr, Ev.bind h1 (evpos rfl e1), Ev.bind h2 (evpos rfl e2)⟩
  have er := eqIntS r (by omega)
  obtain ⟨r', m1, m2, _⟩ := mhIntS r 1 (by omega) (by omega)
  obtain ⟨K0, f0⟩ := es
  obtain ⟨K1, f1⟩ := et
  obtain ⟨K2, f2'⟩ := eq
  obtain ⟨K3, f3⟩ := em
  obtain ⟨K4, f4⟩ := e1
  obtain ⟨K5, f5⟩ := e2
  obtain ⟨K6, f6⟩ := er
  obtain ⟨K7, f7⟩ := m1
  obtain ⟨K8, f8⟩ := m2
  refine ⟨K0 + K1 + K2 + K3 + K4 + K5 + K6 + K7 + K8, s, f0 _ (by omega), .inr ⟨by omega, r, ka, 1 + r.length, r', f1 _ (by omega), f4 _ (by omega), f5 _ (by omega), f6 _ (by omega), f2' _ (by omega), f3 _ (by omega), hka, f7 _ (by omega), by omega, f8 _ (by omega)⟩⟩
end Go.Proofs.YtidblealnaicpaaDoor.Pure

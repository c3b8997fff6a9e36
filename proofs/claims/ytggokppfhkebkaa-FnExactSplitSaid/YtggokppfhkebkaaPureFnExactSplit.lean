/- What is proved: Split of the program answers as the reference's, for every image that can be read. -/
import Derived.Test.YtggokppfhkebkaaPFnExactSplitx0
import Derived.Test.YtggokppfhkebkaaPFnExactSplitx1
import Derived.Test.YtggokppfhkebkaaPFnExactSplitx2
import Derived.Test.YtggokppfhkebkaaPFnExactSplitx3
import Derived.Test.YtggokppfhkebkaaPFnExactSplitx4
import Derived.Test.YtggokppfhkebkaaPFnExactSplitx5
import Derived.Test.YtggokppfhkebkaaPFnExactSplitx6
import Derived.Test.YtggokppfhkebkaaPFnExactSplitx7
import Derived.Test.YtggokppfhkebkaaPFnExactSplitx8
import Derived.Test.YtggokppfhkebkaaK
import Derived.Laws.Bits64b
namespace Go.Proofs.Ytggokppfhkebkaa.Pure
open Go.RowKit Go.Proofs.Ytggokppfhkebkaa.PFnExactSplit Go.Proofs.Ytggokppfhkebkaa.K Go.Proofs.YtggokppfhkebkaaW.PrintWords Go.Proofs.YtggokppfhkebkaaW.PrintLast Go.Proofs.YtggokppfhkebkaaW.PrintMore

theorem rdT39 (l : List S39) (i : Nat) : rd_T39 l (i : Int) = l.getD i z39 := by simp [rd_T39]
theorem rdT31 (l : List S31) (i : Nat) : rd_T31 l (i : Int) = l.getD i z31 := by simp [rd_T31]
theorem rdT76 (l : List S76) (i : Nat) : rd_T76 l (i : Int) = l.getD i z76 := by simp [rd_T76]
theorem rdL2n (l : List (List Int)) (i : Nat) : rd_L2 l (i : Int) = l.getD i ([] : List Int) := by simp [rd_L2]
theorem toIntS (l : List Int) (hl : l.length ≤ 1048576) : Ev (fun k => laws_toIntS.f k l) l := by
  refine evpos (by omega) (evpos (by omega) ?_)
  have := down (n := l.length) (P := fun i => Ev (fun k => laws_toIntS.l0 k l (fl 0 l.length (fun j => l.getD j 0) i) (i : Int)) l) ?_ ?_
  · rw [fl_zero] at this; exact this
  · refine Ev.step (fun k => rfl) (evneg (by omega) ?_)
    rw [fl_all]
    have e := map_range_get l 0 id
    try simp only [id_eq, List.map_id_fun] at e
    rw [e]; exact Ev.now _
  · intro i hi h
    refine Ev.step (fun k => rfl) (evpos (by omega) (evpos (by omega) (evpos (by rw [fl_len]; omega) ?_)))
    rw [w64s (by omega), rd_nat, getD_lt hi, Int.toNat_natCast]
    rw [← fl_set, getD_lt hi] at h
    exact h
theorem eqIntS (l : List Int) (hl : l.length ≤ 4611686018427387904) : Ev (fun k => laws_eqIntS.f k l l) true := by
  refine evpos rfl ?_
  refine down (n := l.length) (P := fun i => Ev (fun k => laws_eqIntS.l0 k l l (i : Int)) true) ?_ ?_
  · exact Ev.step (fun k => rfl) (evneg (by omega) (Ev.now _))
  · intro i hi h
    refine Ev.step (fun k => rfl) (evpos (by omega) (evpos (by omega) (evpos (by omega) (evpos rfl ?_))))
    rw [w64s (by omega)]; exact h
theorem szIntS (l : List Int) (a : Int) (hl : l.length ≤ maxLen) (h0 : 0 ≤ a) (h1 : a ≤ 1048576) : laws_szIntS.f l a = some (if a < l.length then -1 else a - l.length) := by
  unfold maxLen at hl
  unfold laws_szIntS.f
  rw [w64 (by omega) (by omega)]
  split <;> split <;> first | rfl | omega
theorem mhIntS (l : List Int) (a : Int) (h0 : 0 ≤ a) (h1 : a + l.length ≤ 4611686018427387904) : ∃ l' : List Int, Ev (fun k => laws_markIntS.f k l a) (a + l.length, l') ∧ Ev (fun k => laws_heldIntS.f k l' a) (a + l.length) ∧ l'.length = l.length := by
  refine ⟨(List.range l.length).map (fun (j : Nat) => a + (j : Int)), ?_, ?_, by simp⟩
  · have := down (n := l.length) (P := fun i => Ev (fun k => laws_markIntS.l0 k (f2 l.length (fun (j : Nat) => a + (j : Int)) (fun j => l.getD j 0) i) (a + (i : Int)) (i : Int)) (a + l.length, (List.range l.length).map (fun (j : Nat) => a + (j : Int)))) ?_ ?_
    · rw [f2_zero] at this; rw [show a + ((0 : Nat) : Int) = a by omega] at this; exact this
    · refine Ev.step (fun k => rfl) (evneg (by rw [f2_len]; omega) ?_)
      rw [f2_all]; exact Ev.now _
    · intro i hi h
      refine Ev.step (fun k => rfl) (evpos (by rw [f2_len]; omega) (evpos (by omega) ?_))
      rw [w64s (by omega), w64 (by omega) (by omega), Int.toNat_natCast, show a + (i : Int) + 1 = a + ((i + 1 : Nat) : Int) by omega]
      rw [← f2_set] at h
      exact h
  · have := down (n := l.length) (P := fun i => Ev (fun k => laws_heldIntS.l0 k ((List.range l.length).map (fun (j : Nat) => a + (j : Int))) (a + (i : Int)) (i : Int)) (a + l.length)) ?_ ?_
    · rw [show a + ((0 : Nat) : Int) = a by omega] at this; exact this
    · exact Ev.step (fun k => rfl) (evneg (by simp) (Ev.now _))
    · intro i hi h
      refine Ev.step (fun k => rfl) (evpos (by simpa using hi) (evpos (by omega) (evpos (by rw [rd_nat, range_getD _ _ _ _ hi]) ?_)))
      rw [w64s (by omega), w64 (by omega) (by omega), show a + (i : Int) + 1 = a + ((i + 1 : Nat) : Int) by omega]
      exact h
theorem szImage (a0_0 : Int) (a0_1 : Int) (a0_2 : Int) (a0_3 : Int) (l0_4 : List Int) (a : Int) (hl0_4 : l0_4.length ≤ maxLen) (h0 : 0 ≤ a) (h1 : a ≤ 1048576) : ∃ r, Ev (fun _ => laws_szImage.f a0_0 a0_1 a0_2 a0_3 l0_4 a) r ∧ r ≤ a ∧ (0 ≤ r → l0_4.length ≤ 1048576) := by
  have e0 := szIntS l0_4 a hl0_4 (by omega) (by omega)
  by_cases c0 : a < (l0_4.length : Int)
  · rw [if_pos c0] at e0
    exact ⟨-1, evlet e0 (evpos (by omega) (Ev.now _)), by omega, by omega⟩
  rw [if_neg c0] at e0
  exact ⟨(a - l0_4.length), evlet e0 (evneg (by omega) (Ev.now _)), by omega, fun _ => by omega⟩
theorem toImage (a0_0 : Int) (a0_1 : Int) (a0_2 : Int) (a0_3 : Int) (l0_4 : List Int) (hl0_4 : l0_4.length ≤ 1048576) : Ev (fun k => laws_toImage.f k a0_0 a0_1 a0_2 a0_3 l0_4) (a0_0, a0_1, a0_2, a0_3, l0_4) :=
  Ev.bind (toIntS l0_4 hl0_4) (Ev.now _)
theorem eqImage (a0_0 : Int) (a0_1 : Int) (a0_2 : Int) (a0_3 : Int) (l0_4 : List Int) (hl0_4 : l0_4.length ≤ 4611686018427387904) : Ev (fun k => laws_eqImage.f k a0_0 a0_1 a0_2 a0_3 l0_4 a0_0 a0_1 a0_2 a0_3 l0_4) true :=
  evpos rfl (evpos rfl (evpos rfl (evpos rfl (Ev.bind (eqIntS l0_4 hl0_4) (evpos rfl (Ev.now _))))))
theorem eqImageS (l : List (S31)) (hl : (l.length ≤ 4611686018427387904 ∧ ∀ y0 ∈ l, y0.f4.length ≤ 4611686018427387904)) : Ev (fun k => laws_eqImageS.f k l l) true := by
  obtain ⟨hl, hs⟩ := hl
  refine evpos rfl ?_
  refine down (n := l.length) (P := fun i => Ev (fun k => laws_eqImageS.l0 k l l (i : Int)) true) ?_ ?_
  · exact Ev.step (fun k => rfl) (evneg (by omega) (Ev.now _))
  · intro i hi h
    have hm := hs _ (List.getElem_mem hi)
    refine Ev.step (fun k => rfl) (evpos (by omega) (evpos (by omega) (evpos (by omega) ?_)))
    rw [rdT31, getD_lt hi, w64s (by omega)]
    exact Ev.bind (eqImage _ _ _ _ _ hm) (evpos rfl h)
/-! Marks of rows of images, and what is held of them. -/
theorem mhIS (n : Nat) (hn : n ≤ 1048576) (r : Nat) : ∀ (i : Nat) (m : List S31) (a : Int), i + r = n → m.length = n → (∀ y ∈ m, y.f4.length ≤ 1048576) → 0 ≤ a → a ≤ 1 + 2097152 * (i : Int) →
    ∃ b l', Ev (fun k => laws_markImageS.l0 k m a (i : Int)) (b, l') ∧ l'.length = n ∧ (∀ j, j < i → l'.getD j z31 = m.getD j z31) ∧ Ev (fun k => laws_heldImageS.l0 k l' a (i : Int)) b ∧ a ≤ b ∧ b ≤ 1 + 2097152 * (n : Int) := by
  induction r with
  | zero =>
    intro i m a hi hm _ h0 h1
    have : i = n := by omega
    exact ⟨a, m, Ev.step (fun k => rfl) (evneg (by omega) (Ev.now _)), hm, fun _ _ => rfl, Ev.step (fun k => rfl) (evneg (by omega) (Ev.now _)), by omega, by omega⟩
  | succ r ih =>
    intro i m a hi hm hy h0 h1
    have hil : i < m.length := by omega
    have hb := hy _ (List.getElem_mem hil)
    generalize he : m[i] = e at hb
    obtain ⟨l1, e1, e2, e3⟩ := mhIntS e.f4 (a + 1 + 1 + 1 + 1) (by omega) (by omega)
    have w1 : wrap64 (a + 1) = a + 1 := w64 (by omega) (by omega)
    have w2 : wrap64 (a + 1 + 1) = a + 1 + 1 := w64 (by omega) (by omega)
    have w3 : wrap64 (a + 1 + 1 + 1) = a + 1 + 1 + 1 := w64 (by omega) (by omega)
    have w4 : wrap64 (a + 1 + 1 + 1 + 1) = a + 1 + 1 + 1 + 1 := w64 (by omega) (by omega)
    have er : rd_T31 m (i : Int) = e := by rw [rdT31, getD_lt hil, he]
    obtain ⟨b, l', f1, f2, f3, f4, f5, f6⟩ := ih (i + 1) (m.set i (⟨a, a + 1, a + 1 + 1, a + 1 + 1 + 1, l1⟩ : S31)) (a + 1 + 1 + 1 + 1 + e.f4.length) (by omega) (by rw [List.length_set]; exact hm) (fun y hy' => by
      rcases List.mem_or_eq_of_mem_set hy' with h | h
      · exact hy y h
      · rw [h]; show l1.length ≤ _; rw [e3]; exact hb) (by omega) (by omega)
    have el : rd_T31 l' (i : Int) = (⟨a, a + 1, a + 1 + 1, a + 1 + 1 + 1, l1⟩ : S31) := by
      rw [rdT31, f3 i (by omega), set_getD hil]
    refine ⟨b, l', Ev.step (fun k => rfl) (evpos (by omega) (evpos (by omega) ?_)), f2, fun j hj => ?_, Ev.step (fun k => rfl) (evpos (by omega) (evpos (by omega) ?_)), by omega, f6⟩
    · rw [w64s (by omega), er]
      simp only [Int.toNat_natCast, w1, w2, w3, w4]
      exact Ev.bind e1 f1
    · rw [f3 j (by omega), List.getD_eq_getElem?_getD, List.getD_eq_getElem?_getD, List.getElem?_set_ne (by omega)]
    · rw [w64s (by omega), el]
      simp only [w1, w2, w3, w4]
      exact evpos (by trivial) (evpos (by trivial) (evpos (by trivial) (evpos (by trivial) (Ev.bind e2 (evneg (by omega) f4)))))
theorem mhImageS (l : List S31) (hl : l.length ≤ 1048576) (hy : ∀ y ∈ l, y.f4.length ≤ 1048576) : ∃ b l', Ev (fun k => laws_markImageS.f k l 1) (b, l') ∧ Ev (fun k => laws_heldImageS.f k l' 1) b ∧ 0 ≤ b := by
  obtain ⟨b, l', h1, _, _, h2, h3, _⟩ := mhIS l.length hl l.length 0 l 1 (by omega) rfl hy (by omega) (by omega)
  exact ⟨b, l', h1, h2, by omega⟩
/-! The passes. -/
def PL : List S39 := [(⟨0, 0, 8, 8, 0, 0⟩ : S39), (⟨4, 0, 8, 8, 0, 0⟩ : S39), (⟨0, 4, 4, 8, 0, 0⟩ : S39), (⟨2, 0, 4, 4, 0, 0⟩ : S39), (⟨0, 2, 2, 4, 0, 0⟩ : S39), (⟨1, 0, 2, 2, 0, 0⟩ : S39), (⟨0, 1, 1, 2, 0, 0⟩ : S39)]
def cnt (w x s : Int) : Int := if w ≤ x then 0 else (w - x + s - 1) / s
def psz (w h : Int) (e : S39) : S39 := ⟨e.f0, e.f1, e.f2, e.f3, cnt w e.f0 e.f2, cnt h e.f1 e.f3⟩
def accP (w h : Int) : Nat → List S39
  | 0 => []
  | i + 1 => if 0 < cnt w (PL.getD i z39).f0 (PL.getD i z39).f2 ∧ 0 < cnt h (PL.getD i z39).f1 (PL.getD i z39).f3 then accP w h i ++ [psz w h (PL.getD i z39)] else accP w h i
theorem accP_len (w h : Int) : ∀ i, (accP w h i).length ≤ i
  | 0 => Nat.le_refl _
  | i + 1 => by
    have := accP_len w h i
    unfold accP
    split
    · rw [List.length_append]; simp; omega
    · omega
/-- Where the columns (or rows) of a pass lie. -/
def inP (n x s c : Int) : Prop := 1 ≤ c ∧ c ≤ n ∧ ∀ j : Int, 0 ≤ j → j < c → 0 ≤ j * s ∧ j * s ≤ 1024 ∧ 0 ≤ x + j * s ∧ x + j * s < n
theorem cnt_in {n x s : Int} (hx : 0 ≤ x) (hx4 : x ≤ 4) (hn : n ≤ 512) (hs : 1 ≤ s) (hc : 0 < cnt n x s) : inP n x s (cnt n x s) := by
  unfold cnt at hc ⊢
  by_cases h : n ≤ x
  · rw [if_pos h] at hc; omega
  rw [if_neg h] at hc ⊢
  have hd : (n - x + s - 1) / s * s ≤ n - x + s - 1 := Int.ediv_mul_le _ (by omega)
  generalize (n - x + s - 1) / s = q at hc hd
  have hq : q ≤ n - x := by
    have h1 : q * 1 ≤ q * s := Int.mul_le_mul_of_nonneg_left hs (by omega)
    by_cases hq1 : q = 1
    · omega
    · have h2 : (q - 1) * 1 ≤ (q - 1) * s := Int.mul_le_mul_of_nonneg_left hs (by omega)
      have e2 : (q - 1) * s = q * s - s := by rw [Int.sub_mul, Int.one_mul]
      omega
  refine ⟨by omega, by omega, fun j h0 h1 => ?_⟩
  have h2 : j * s ≤ (q - 1) * s := Int.mul_le_mul_of_nonneg_right (by omega) (by omega)
  have h3 : 0 ≤ j * s := Int.mul_nonneg h0 (by omega)
  rw [Int.sub_mul] at h2
  omega
theorem PL_ok : ∀ i : Nat, i < 7 → 0 ≤ (PL.getD i z39).f0 ∧ (PL.getD i z39).f0 ≤ 4 ∧ 0 ≤ (PL.getD i z39).f1 ∧ (PL.getD i z39).f1 ≤ 4 ∧ 1 ≤ (PL.getD i z39).f2 ∧ (PL.getD i z39).f2 ≤ 8 ∧ 1 ≤ (PL.getD i z39).f3 ∧ (PL.getD i z39).f3 ≤ 8 ∧ (PL.getD i z39).f0 < (PL.getD i z39).f2 + 1 ∧ (PL.getD i z39).f1 < (PL.getD i z39).f3 + 1 := by decide
structure PassOk (w h : Int) (p : S39) : Prop where
  x : inP w p.f0 p.f2 p.f4
  y : inP h p.f1 p.f3 p.f5
  b : 0 ≤ p.f0 ∧ p.f0 ≤ 4 ∧ 0 ≤ p.f1 ∧ p.f1 ≤ 4 ∧ 1 ≤ p.f2 ∧ p.f2 ≤ 8 ∧ 1 ≤ p.f3 ∧ p.f3 ≤ 8
theorem accP_ok (w h : Int) (hw : w ≤ 512) (hh : h ≤ 512) : ∀ i, i ≤ 7 → ∀ p ∈ accP w h i, PassOk w h p
  | 0, _ => fun p hp => by simp [accP] at hp
  | i + 1, hi => fun p hp => by
    have ih := accP_ok w h hw hh i (by omega)
    have o := PL_ok i (by omega)
    unfold accP at hp
    generalize PL.getD i z39 = e at hp o
    split at hp
    · rename_i c
      rcases List.mem_append.1 hp with hp | hp
      · exact ih p hp
      · rw [List.mem_singleton.1 hp]
        exact ⟨show inP w e.f0 e.f2 (cnt w e.f0 e.f2) from cnt_in (by omega) (by omega) hw (by omega) c.1, show inP h e.f1 e.f3 (cnt h e.f1 e.f3) from cnt_in (by omega) (by omega) hh (by omega) c.2, by show 0 ≤ e.f0 ∧ e.f0 ≤ 4 ∧ 0 ≤ e.f1 ∧ e.f1 ≤ 4 ∧ 1 ≤ e.f2 ∧ e.f2 ≤ 8 ∧ 1 ≤ e.f3 ∧ e.f3 ≤ 8; omega⟩
    · exact ih p hp
theorem cnt_impl {n x s : Int} (hn : 1 ≤ n) (hn2 : n ≤ 512) (hx : 0 ≤ x) (hx4 : x ≤ 4) (hs : 1 ≤ s) (hs8 : s ≤ 8) (hxs : x < s + 1) :
    ∃ v, wrap64 (Int.tdiv (wrap64 ((wrap64 ((wrap64 (n - x)) + s)) - 1)) s) = v ∧ (v > 0 ↔ 0 < cnt n x s) ∧ (0 < cnt n x s → v = cnt n x s) := by
  have hq0 : 0 ≤ (n - x + s - 1) / s := Int.ediv_nonneg (by omega) (by omega)
  have hq1 : (n - x + s - 1) / s ≤ n - x + s - 1 := Int.ediv_le_self _ (by omega)
  refine ⟨(n - x + s - 1) / s, ?_, ?_, ?_⟩
  · rw [w64 (n := n - x) (by omega) (by omega), w64 (n := n - x + s) (by omega) (by omega), w64 (n := n - x + s - 1) (by omega) (by omega), Int.tdiv_eq_ediv_of_nonneg (by omega), w64 (by omega) (by omega)]
  · unfold cnt
    split
    · rename_i h
      have : (n - x + s - 1) / s < 1 := Int.ediv_lt_of_lt_mul (by omega) (by omega)
      omega
    · omega
  · unfold cnt
    split
    · intro h; omega
    · intro _; rfl
theorem cnt_spec {n x s : Int} (hn : 1 ≤ n) (hn2 : n ≤ 512) (hx : 0 ≤ x) (hx4 : x ≤ 4) (hs : 1 ≤ s) (hs8 : s ≤ 8) : spec_l4Count.f n x s = some (cnt n x s) := by
  unfold spec_l4Count.f cnt
  by_cases h : n ≤ x
  · rw [if_pos h, if_pos h]
  · have hq0 : 0 ≤ (n - x + s - 1) / s := Int.ediv_nonneg (by omega) (by omega)
    have hq1 : (n - x + s - 1) / s ≤ n - x + s - 1 := Int.ediv_le_self _ (by omega)
    rw [if_neg h, if_neg h, if_neg (by omega), w64 (n := n - x) (by omega) (by omega), w64 (n := n - x + s) (by omega) (by omega), w64 (n := n - x + s - 1) (by omega) (by omega), Int.tdiv_eq_ediv_of_nonneg (by omega), w64 (by omega) (by omega)]
theorem passes_impl (w h : Int) (hw : 1 ≤ w ∧ w ≤ 512) (hh : 1 ≤ h ∧ h ≤ 512) : Ev (fun k => impl_Passes.f k w h) (accP w h 7) := by
  have gs : ∀ n : Int, 1 ≤ n ∧ n ≤ 512 → impl_goodSide.f n = some true := fun n hn => by
    unfold impl_goodSide.f; rw [if_pos (by omega), decide_eq_true (by omega)]
  have main := down (n := 7) (P := fun i => Ev (fun k => impl_Passes.l0 k w h (accP w h i) PL ((7 : Nat) : Int) (i : Int)) (accP w h 7)) ?_ ?_
  · refine evlet (gs w hw) (evpos rfl (evlet (gs h hh) ?_))
    exact Ev.step (f := fun k => impl_Passes.l0 k w h [] PL ((7 : Nat) : Int) 0) (fun k => by simp only [impl_Passes.j0, Bool.not_true, Bool.false_eq_true, if_false]; rfl) main
  · generalize ((7 : Nat) : Int) = N
    refine Ev.step (fun k => rfl) (evneg (by omega) (Ev.now _))
  · intro i hi ih
    have hc : (i : Int) < ((7 : Nat) : Int) := Int.ofNat_lt.2 hi
    generalize ((7 : Nat) : Int) = N at hc ih
    have o := PL_ok i hi
    have hl := accP_len w h i
    have e0 : rd_T39 PL (i : Int) = PL.getD i z39 := rdT39 PL i
    have hPL : PL.length = 7 := rfl
    have ea : accP w h (i + 1) = if 0 < cnt w (PL.getD i z39).f0 (PL.getD i z39).f2 ∧ 0 < cnt h (PL.getD i z39).f1 (PL.getD i z39).f3 then accP w h i ++ [psz w h (PL.getD i z39)] else accP w h i := rfl
    rw [ea] at ih
    generalize PL.getD i z39 = e at e0 o ih
    obtain ⟨v1, a1, a2, a3⟩ := cnt_impl (n := w) (x := e.f0) (s := e.f2) (by omega) (by omega) (by omega) (by omega) (by omega) (by omega) (by omega)
    obtain ⟨v2, b1, b2, b3⟩ := cnt_impl (n := h) (x := e.f1) (s := e.f3) (by omega) (by omega) (by omega) (by omega) (by omega) (by omega) (by omega)
    refine Ev.step (fun k => rfl) (evpos hc (evpos (by omega) (evpos (by omega) ?_)))
    rw [e0, a1, b1, w64s (by omega)]
    refine evneg (by omega) (evneg (by omega) ?_)
    by_cases c1 : 0 < cnt w e.f0 e.f2
    · by_cases c2 : 0 < cnt h e.f1 e.f3
      · rw [if_pos ⟨c1, c2⟩] at ih
        refine evpos (a2.2 c1) (evpos (b2.2 c2) (evpos (by omega) ?_))
        rw [a3 c1, b3 c2]
        exact ih
      · rw [if_neg (fun z => c2 z.2)] at ih
        exact evpos (a2.2 c1) (evneg (fun z => c2 (b2.1 z)) ih)
    · rw [if_neg (fun z => c1 z.1)] at ih
      exact evneg (fun z => c1 (a2.1 z)) ih
theorem tab : ∀ i : Nat, i < 7 → ([0, 0, 8, 8, 4, 0, 8, 8, 0, 4, 4, 8, 2, 0, 4, 4, 0, 2, 2, 4, 1, 0, 2, 2, 0, 1, 1, 2] : List Int).getD (4 * i) 0 = (PL.getD i z39).f0 ∧ ([0, 0, 8, 8, 4, 0, 8, 8, 0, 4, 4, 8, 2, 0, 4, 4, 0, 2, 2, 4, 1, 0, 2, 2, 0, 1, 1, 2] : List Int).getD (4 * i + 1) 0 = (PL.getD i z39).f1 ∧ ([0, 0, 8, 8, 4, 0, 8, 8, 0, 4, 4, 8, 2, 0, 4, 4, 0, 2, 2, 4, 1, 0, 2, 2, 0, 1, 1, 2] : List Int).getD (4 * i + 2) 0 = (PL.getD i z39).f2 ∧ ([0, 0, 8, 8, 4, 0, 8, 8, 0, 4, 4, 8, 2, 0, 4, 4, 0, 2, 2, 4, 1, 0, 2, 2, 0, 1, 1, 2] : List Int).getD (4 * i + 3) 0 = (PL.getD i z39).f3 := by decide
theorem passes_spec (w h : Int) (hw : 1 ≤ w ∧ w ≤ 512) (hh : 1 ≤ h ∧ h ≤ 512) : Ev (fun k => spec_l4Passes.f k w h) (accP w h 7) := by
  have hT := tab
  have hTl : ([0, 0, 8, 8, 4, 0, 8, 8, 0, 4, 4, 8, 2, 0, 4, 4, 0, 2, 2, 4, 1, 0, 2, 2, 0, 1, 1, 2] : List Int).length = 28 := rfl
  unfold spec_l4Passes.f
  generalize ([0, 0, 8, 8, 4, 0, 8, 8, 0, 4, 4, 8, 2, 0, 4, 4, 0, 2, 2, 4, 1, 0, 2, 2, 0, 1, 1, 2] : List Int) = L at hT hTl
  have main := down (n := 7) (P := fun i => Ev (fun k => spec_l4Passes.l0 k w h L (accP w h i) ((4 * i : Nat) : Int)) (accP w h 7)) ?_ ?_
  · exact main
  · generalize hN : ((4 * 7 : Nat) : Int) = N
    exact Ev.step (fun k => rfl) (evneg (by omega) (Ev.now _))
  · intro i hi ih
    obtain ⟨t0, t1, t2, t3⟩ := hT i hi
    have o := PL_ok i hi
    have hl := accP_len w h i
    have ea : accP w h (i + 1) = if 0 < cnt w (PL.getD i z39).f0 (PL.getD i z39).f2 ∧ 0 < cnt h (PL.getD i z39).f1 (PL.getD i z39).f3 then accP w h i ++ [psz w h (PL.getD i z39)] else accP w h i := rfl
    rw [ea] at ih
    generalize PL.getD i z39 = e at t0 t1 t2 t3 o ih
    have x0 : rd L ((4 * i : Nat) : Int) = e.f0 := by rw [rd_nat, t0]
    have x1 : rd L ((4 * i + 1 : Nat) : Int) = e.f1 := by rw [rd_nat, t1]
    have x2 : rd L ((4 * i + 2 : Nat) : Int) = e.f2 := by rw [rd_nat, t2]
    have x3 : rd L ((4 * i + 3 : Nat) : Int) = e.f3 := by rw [rd_nat, t3]
    have y1 : wrap64 (((4 * i : Nat) : Int) + 1) = ((4 * i + 1 : Nat) : Int) := by rw [w64 (by omega) (by omega)]; omega
    have y2 : wrap64 (((4 * i : Nat) : Int) + 2) = ((4 * i + 2 : Nat) : Int) := by rw [w64 (by omega) (by omega)]; omega
    have y3 : wrap64 (((4 * i : Nat) : Int) + 3) = ((4 * i + 3 : Nat) : Int) := by rw [w64 (by omega) (by omega)]; omega
    have y4 : wrap64 (((4 * i : Nat) : Int) + 4) = ((4 * (i + 1) : Nat) : Int) := by rw [w64 (by omega) (by omega)]; omega
    refine Ev.step (fun k => rfl) (evpos (by omega) (evpos (by omega) (evpos (by rw [y1]; omega) (evpos (by rw [y1]; omega) (evpos (by rw [y2]; omega) (evpos (by rw [y2]; omega) (evpos (by rw [y3]; omega) (evpos (by rw [y3]; omega) ?_))))))))
    rw [y1, y2, y3, y4, x0, x1, x2, x3]
    refine evlet (cnt_spec (by omega) (by omega) (by omega) (by omega) (by omega) (by omega)) (evlet (cnt_spec (by omega) (by omega) (by omega) (by omega) (by omega) (by omega)) ?_)
    by_cases c1 : 0 < cnt w e.f0 e.f2
    · by_cases c2 : 0 < cnt h e.f1 e.f3
      · rw [if_pos ⟨c1, c2⟩] at ih
        exact evpos c1 (evpos c2 (evpos (by omega) ih))
      · rw [if_neg (fun z => c2 z.2)] at ih
        exact evpos c1 (evneg c2 ih)
    · rw [if_neg (fun z => c1 z.1)] at ih
      exact evneg c1 ih
/-! What a good image is. -/
structure ImgOk (W H PL : Int) (l : List Int) : Prop where
  w : 1 ≤ W ∧ W ≤ 512
  h : 1 ≤ H ∧ H ≤ 512
  wh : W * H ≤ 4096
  pl : 1 ≤ PL ∧ PL ≤ 4
  len : (l.length : Int) = W * H * PL
theorem depth_shl {d : Int} (h : d = 1 ∨ d = 2 ∨ d = 4 ∨ d = 8 ∨ d = 16) : ∃ m : Int, shl .i64 1 d = m ∧ shl .i64 1 (IntKind.u64.wrap d) = m ∧ 1 ≤ m ∧ m ≤ 65536 ∧ 0 ≤ IntKind.u64.wrap d := by
  rcases h with rfl | rfl | rfl | rfl | rfl
  · exact ⟨2, rfl, rfl, by decide, by decide, by decide⟩
  · exact ⟨4, rfl, rfl, by decide, by decide, by decide⟩
  · exact ⟨16, rfl, rfl, by decide, by decide, by decide⟩
  · exact ⟨256, rfl, rfl, by decide, by decide, by decide⟩
  · exact ⟨65536, rfl, rfl, by decide, by decide, by decide⟩
theorem rng_both (l : List Int) (hl : l.length ≤ 1048576) (w h pl d m : Int) (h1 : shl .i64 1 (IntKind.u64.wrap d) = m) (h2 : 0 ≤ IntKind.u64.wrap d) (h3 : 1 ≤ m ∧ m ≤ 65536) : ∃ q : Bool, Ev (fun k => spec_GoodImage.l0 k l (l.length : Int) 0 w h pl d l) q ∧ Ev (fun k => impl_inRange.f k l (wrap64 (m - 1))) q := by
  have hw : wrap64 (m - 1) = m - 1 := w64 (by omega) (by omega)
  rw [hw]
  have main := down (n := l.length) (P := fun i => ∃ q : Bool, Ev (fun k => spec_GoodImage.l0 k l (l.length : Int) (i : Int) w h pl d l) q ∧ Ev (fun k => impl_inRange.l0 k (m - 1) l (l.length : Int) (i : Int)) q) ?_ ?_
  · exact main
  · exact ⟨true, Ev.step (fun k => rfl) (evneg (by omega) (Ev.now _)), Ev.step (fun k => rfl) (evneg (by omega) (Ev.now _))⟩
  · intro i hi ⟨q, a1, a2⟩
    generalize er : rd l (i : Int) = v
    by_cases c1 : v < 0
    · refine ⟨false, Ev.step (fun k => rfl) (evpos (by omega) (evpos (by omega) (evpos (by omega) ?_))), Ev.step (fun k => rfl) (evpos (by omega) (evpos (by omega) (evpos (by omega) ?_)))⟩
      · rw [er]; exact evpos c1 (Ev.now _)
      · rw [er]; exact evpos c1 (Ev.now _)
    by_cases c2 : v ≥ m
    · refine ⟨false, Ev.step (fun k => rfl) (evpos (by omega) (evpos (by omega) (evpos (by omega) ?_))), Ev.step (fun k => rfl) (evpos (by omega) (evpos (by omega) (evpos (by omega) ?_)))⟩
      · rw [er, h1]; exact evneg c1 (evpos h2 (evpos c2 (Ev.now _)))
      · rw [er]; exact evneg c1 (evpos (by omega) (Ev.now _))
    refine ⟨q, Ev.step (fun k => rfl) (evpos (by omega) (evpos (by omega) (evpos (by omega) ?_))), Ev.step (fun k => rfl) (evpos (by omega) (evpos (by omega) (evpos (by omega) ?_)))⟩
    · rw [er, h1, w64s (by omega)]; exact evneg c1 (evpos h2 (evneg c2 a1))
    · rw [er, w64s (by omega)]; exact evneg c1 (evneg (by omega) a2)
theorem goodSide_eq (n : Int) : impl_goodSide.f n = some (decide (1 ≤ n ∧ n ≤ 512)) := by
  unfold impl_goodSide.f
  by_cases c : n ≥ 1
  · rw [if_pos c]
    congr 1
    by_cases e : n ≤ 512
    · rw [decide_eq_true e, decide_eq_true ⟨by omega, e⟩]
    · rw [decide_eq_false e, decide_eq_false (fun z => e z.2)]
  · rw [if_neg c, decide_eq_false (fun z => c z.1)]
theorem depths (d : Int) : ∃ q : Bool, impl_goodDepth.f d = some q ∧ spec_l4Depth.f d = some q ∧ (q = true → d = 1 ∨ d = 2 ∨ d = 4 ∨ d = 8 ∨ d = 16) := by
  unfold impl_goodDepth.f spec_l4Depth.f
  by_cases c1 : d = 1
  · exact ⟨true, by rw [if_pos c1], by rw [if_pos c1], fun _ => by omega⟩
  by_cases c2 : d = 2
  · exact ⟨true, by rw [if_neg c1, if_pos c2], by rw [if_neg c1, if_pos c2], fun _ => by omega⟩
  by_cases c3 : d = 4
  · exact ⟨true, by rw [if_neg c1, if_neg c2, if_pos c3], by rw [if_neg c1, if_neg c2, if_pos c3], fun _ => by omega⟩
  by_cases c4 : d = 8
  · exact ⟨true, by rw [if_neg c1, if_neg c2, if_neg c3, if_pos c4], by rw [if_neg c1, if_neg c2, if_neg c3, if_pos c4], fun _ => by omega⟩
  exact ⟨d == 16, by rw [if_neg c1, if_neg c2, if_neg c3, if_neg c4], by rw [if_neg c1, if_neg c2, if_neg c3, if_neg c4], fun h => by have := beq_iff_eq.1 h; omega⟩
/-- Of a shape that is good: what the program says of the samples. -/
theorem shape_bad {w h pl d : Int} (l : List Int) (hs : impl_goodShape.f w h pl d = some false) : Ev (fun k => impl_GoodImage.f k w h pl d l) false := evlet hs (evneg (by simp) (Ev.now _))
theorem sides_false {w h : Int} (c : ¬ (1 ≤ w ∧ w ≤ 512 ∧ 1 ≤ h ∧ h ≤ 512)) : impl_goodSides.f w h = some false ∧ spec_l4Sides.f w h = some false := by
  unfold impl_goodSides.f spec_l4Sides.f
  rw [goodSide_eq, goodSide_eq]
  simp only [Option.bind_some]
  by_cases c1 : 1 ≤ w ∧ w ≤ 512
  · have c2 : ¬ (1 ≤ h ∧ h ≤ 512) := fun z => c ⟨c1.1, c1.2, z.1, z.2⟩
    rw [decide_eq_true c1, decide_eq_false c2]
    refine ⟨rfl, ?_⟩
    rw [if_pos (by omega), if_pos (by omega)]
    by_cases e : h ≥ 1
    · rw [if_pos e, decide_eq_false (by omega)]
    · rw [if_neg e]
  · rw [decide_eq_false c1]
    refine ⟨rfl, ?_⟩
    by_cases e : w ≥ 1
    · rw [if_pos e, if_neg (by omega)]
    · rw [if_neg e]
theorem good_img (w h pl d : Int) (l : List Int) (hl : l.length ≤ 1048576) : ∃ q : Bool, Ev (fun k => spec_GoodImage.f k w h pl d l) q ∧ Ev (fun k => impl_GoodImage.f k w h pl d l) q ∧ (q = true → ImgOk w h pl l) := by
  have j0t : Ev (fun k => spec_GoodImage.j0 k true w h pl d l) false := Ev.step (f := fun _ => some false) (fun k => by simp only [spec_GoodImage.j0, if_true]) (Ev.now _)
  have j1t : Ev (fun k => spec_GoodImage.j1 k true w h pl d l) false := Ev.step (f := fun _ => some false) (fun k => by simp only [spec_GoodImage.j1, if_true]) (Ev.now _)
  have no : ∀ {P : Prop}, (false = true) → P := fun h => by cases h
  by_cases cs : 1 ≤ w ∧ w ≤ 512 ∧ 1 ≤ h ∧ h ≤ 512
  rotate_left
  · obtain ⟨s1, s2⟩ := sides_false cs
    refine ⟨false, evlet s2 (evneg (by simp) j0t), shape_bad l ?_, no⟩
    unfold impl_goodShape.f; rw [s1]; rfl
  obtain ⟨w1, w2, h1, h2⟩ := cs
  have s2 : spec_l4Sides.f w h = some true := by
    unfold spec_l4Sides.f; rw [if_pos (by omega), if_pos (by omega), if_pos (by omega), decide_eq_true (by omega)]
  have wh0 : 1 ≤ w * h := by have := Int.mul_le_mul_of_nonneg_left h1 (show 0 ≤ w by omega); omega
  have wh1 : w * h ≤ 512 * 512 := by
    have a := Int.mul_le_mul_of_nonneg_right w2 (show 0 ≤ h by omega)
    omega
  have hw : wrap64 (w * h) = w * h := w64 (by omega) (by omega)
  have gs : impl_goodSides.f w h = some (decide (w * h ≤ 4096)) := by
    unfold impl_goodSides.f
    rw [goodSide_eq, goodSide_eq, decide_eq_true ⟨w1, w2⟩, decide_eq_true ⟨h1, h2⟩]
    simp only [Option.bind_some, if_true]
    rw [hw]
  have shp : ∀ q, (if decide (w * h ≤ 4096) = true then (if pl ≥ 1 then (if pl ≤ 4 then ((impl_goodDepth.f d).bind fun t114 => (if t114 = true then (if pl = 1 then (some true) else (some (decide (d ≥ 8)))) else (some false))) else (some false)) else (some false)) else (some false)) = some q → impl_goodShape.f w h pl d = some q := fun q hq => by
    unfold impl_goodShape.f; rw [gs]; exact hq
  by_cases c1 : w * h > 4096
  · exact ⟨false, evlet s2 (evpos rfl (evpos (by rw [hw]; exact c1) j0t)), shape_bad l (shp _ (by rw [decide_eq_false (by omega)]; rfl)), no⟩
  by_cases c2 : pl < 1
  · exact ⟨false, evlet s2 (evpos rfl (evneg (by rw [hw]; exact c1) (evpos c2 j0t))), shape_bad l (shp _ (by rw [if_pos (decide_eq_true (by omega)), if_neg (by omega)])), no⟩
  by_cases c3 : pl > 4
  · exact ⟨false, evlet s2 (evpos rfl (evneg (by rw [hw]; exact c1) (evneg c2 (evpos c3 j0t)))), shape_bad l (shp _ (by rw [if_pos (decide_eq_true (by omega)), if_pos (by omega), if_neg (by omega)])), no⟩
  obtain ⟨qd, d1, d2, d3⟩ := depths d
  have toj : ∀ {q : Bool}, Ev (fun k => spec_GoodImage.j0 k (!qd) w h pl d l) q → Ev (fun k => spec_GoodImage.f k w h pl d l) q := fun h => evlet s2 (evpos rfl (evneg (by rw [hw]; exact c1) (evneg c2 (evneg c3 (evlet d2 h)))))
  have shp2 : ∀ q, (if qd = true then (if pl = 1 then (some true) else (some (decide (d ≥ 8)))) else (some false)) = some q → impl_goodShape.f w h pl d = some q := fun q hq => shp q (by
    rw [if_pos (decide_eq_true (by omega)), if_pos (by omega), if_pos (by omega), d1]; exact hq)
  cases qd with
  | false => exact ⟨false, toj j0t, shape_bad l (shp2 _ rfl), no⟩
  | true =>
    have dd := d3 rfl
    have wp : w * h * pl ≤ 4096 * 4 := by
      have a := Int.mul_le_mul_of_nonneg_right (show w * h ≤ 4096 by omega) (show 0 ≤ pl by omega)
      omega
    have wp0 : 0 ≤ w * h * pl := Int.mul_nonneg (by omega) (by omega)
    have hwp : wrap64 (wrap64 (w * h) * pl) = w * h * pl := by rw [hw, w64 (by omega) (by omega)]
    obtain ⟨m, m1, m2, m3, m4, m5⟩ := depth_shl dd
    obtain ⟨q, r1, r2⟩ := rng_both l hl w h pl d m m2 m5 ⟨m3, m4⟩
    have jf : ∀ {f : Nat → Option Bool} {q : Bool}, (∀ k, spec_GoodImage.j0 (k + 1) false w h pl d l = f k) → Ev f q → Ev (fun k => spec_GoodImage.j0 k (!true) w h pl d l) q := fun hf he => Ev.step hf he
    by_cases c4 : pl > 1 ∧ d < 8
    · refine ⟨false, toj (jf (f := fun k => spec_GoodImage.j1 k true w h pl d l) (fun k => by simp only [spec_GoodImage.j0, Bool.false_eq_true, if_false]; rw [if_pos c4.1, if_pos c4.2]) j1t), shape_bad l (shp2 _ ?_), no⟩
      rw [if_pos rfl, if_neg (by omega), decide_eq_false (by omega)]
    have hj0 : ∀ {q : Bool}, Ev (fun k => spec_GoodImage.j1 k ((l.length : Int) != w * h * pl) w h pl d l) q → Ev (fun k => spec_GoodImage.f k w h pl d l) q := fun he => toj (jf (f := fun k => spec_GoodImage.j1 k ((l.length : Int) != w * h * pl) w h pl d l) (fun k => by
      simp only [spec_GoodImage.j0, Bool.false_eq_true, if_false]
      rw [hwp]
      by_cases c5 : pl > 1
      · rw [if_pos c5, if_neg (by omega)]
      · rw [if_neg c5]) he)
    have hsh : impl_goodShape.f w h pl d = some true := shp2 _ (by
      rw [if_pos rfl]
      by_cases c5 : pl = 1
      · rw [if_pos c5]
      · rw [if_neg c5, decide_eq_true (by omega)])
    by_cases c6 : (l.length : Int) = w * h * pl
    · refine ⟨q, hj0 ?_, evlet hsh (evpos rfl (evpos (by rw [hwp]; exact c6) (evpos (by omega) ?_))), fun _ => ⟨⟨w1, w2⟩, ⟨h1, h2⟩, by omega, by omega, c6⟩⟩
      · rw [show ((l.length : Int) != w * h * pl) = false by rw [c6]; simp]
        exact Ev.step (f := fun k => spec_GoodImage.l0 k l (l.length : Int) 0 w h pl d l) (fun k => by simp only [spec_GoodImage.j1, Bool.false_eq_true, if_false]) r1
      · rw [m1]
        exact Ev.bind r2 (Ev.now _)
    · refine ⟨false, hj0 ?_, evlet hsh (evpos rfl (evneg (by rw [hwp]; exact c6) (Ev.now _))), no⟩
      rw [show ((l.length : Int) != w * h * pl) = true by simp; exact c6]
      exact j1t
/-! The pictures. -/
/-- Where the pixel i of row j of a pass begins, as both have it. -/
def at_ (W pl : Int) (p : S39) (j i : Int) : Int := wrap64 ((wrap64 ((wrap64 ((wrap64 ((wrap64 (p.f1 + (wrap64 (j * p.f3)))) * W)) + p.f0)) + (wrap64 (i * p.f2)))) * pl)
theorem at_in {W H pl : Int} {l : List Int} {p : S39} (ho : ImgOk W H pl l) (hp : PassOk W H p) {j i : Int} (j0 : 0 ≤ j) (j1 : j < p.f5) (i0 : 0 ≤ i) (i1 : i < p.f4) :
    at_ W pl p j i = ((p.f1 + j * p.f3) * W + (p.f0 + i * p.f2)) * pl ∧ 0 ≤ at_ W pl p j i ∧ at_ W pl p j i + pl ≤ l.length := by
  obtain ⟨w1, w2⟩ := ho.w
  obtain ⟨h1, h2⟩ := ho.h
  obtain ⟨p1, p2⟩ := ho.pl
  obtain ⟨a0, a1, a2, a3⟩ := hp.y.2.2 j j0 j1
  obtain ⟨b0, b1, b2, b3⟩ := hp.x.2.2 i i0 i1
  obtain ⟨o0, o1, o2, o3, _⟩ := hp.b
  have hwh := ho.wh
  have hlen := ho.len
  unfold at_
  generalize hu : p.f1 + j * p.f3 = u at a2 a3
  have m1 : u * W ≤ (H - 1) * W := Int.mul_le_mul_of_nonneg_right (by omega) (by omega)
  have m0 : 0 ≤ u * W := Int.mul_nonneg a2 (by omega)
  rw [Int.sub_mul, Int.one_mul, Int.mul_comm H W] at m1
  rw [w64 (n := j * p.f3) (by omega) (by omega), w64 (n := p.f1 + j * p.f3) (by omega) (by omega), hu, w64 (n := u * W) (by omega) (by omega), w64 (n := u * W + p.f0) (by omega) (by omega), w64 (n := i * p.f2) (by omega) (by omega), w64 (n := u * W + p.f0 + i * p.f2) (by omega) (by omega)]
  rw [show u * W + p.f0 + i * p.f2 = u * W + (p.f0 + i * p.f2) by omega]
  generalize hv : u * W + (p.f0 + i * p.f2) = v
  have v0 : 0 ≤ v := by omega
  have v1 : v + 1 ≤ W * H := by omega
  have n0 : 0 ≤ v * pl := Int.mul_nonneg v0 (by omega)
  have n1 : (v + 1) * pl ≤ W * H * pl := Int.mul_le_mul_of_nonneg_right v1 (by omega)
  rw [Int.add_mul, Int.one_mul] at n1
  have n2 : W * H * pl ≤ 4096 * pl := Int.mul_le_mul_of_nonneg_right hwh (by omega)
  rw [w64 (by omega) (by omega)]
  omega
def pc (W pl : Int) (l : List Int) (p : S39) (j i : Nat) : List Int := (l.take ((wrap64 (at_ W pl p (j : Int) (i : Int) + pl)) : Int).toNat).drop (at_ W pl p (j : Int) (i : Int)).toNat
def rowS (W pl : Int) (l : List Int) (p : S39) (j : Nat) : Nat → List Int
  | 0 => []
  | i + 1 => rowS W pl l p j i ++ pc W pl l p j i
def colS (W pl : Int) (l : List Int) (p : S39) : Nat → List Int
  | 0 => []
  | j + 1 => colS W pl l p j ++ rowS W pl l p j p.f4.toNat
theorem pc_len {W H pl : Int} {l : List Int} {p : S39} (ho : ImgOk W H pl l) (hp : PassOk W H p) (j i : Nat) (hj : (j : Int) < p.f5) (hi : (i : Int) < p.f4) : ((pc W pl l p j i).length : Int) = pl := by
  obtain ⟨e, h0, h1⟩ := at_in ho hp (Int.natCast_nonneg j) hj (Int.natCast_nonneg i) hi
  have p1 := ho.pl
  have hl : (l.length : Int) ≤ 16384 := by
    rw [ho.len]
    have a := Int.mul_le_mul_of_nonneg_right ho.wh (show 0 ≤ pl by omega)
    omega
  unfold pc
  rw [w64 (by omega) (by omega), List.length_drop, List.length_take]
  omega
theorem rowS_len {W H pl : Int} {l : List Int} {p : S39} (ho : ImgOk W H pl l) (hp : PassOk W H p) (j : Nat) (hj : (j : Int) < p.f5) : ∀ i : Nat, (i : Int) ≤ p.f4 → ((rowS W pl l p j i).length : Int) = pl * i
  | 0, _ => by show ((0 : Nat) : Int) = _; simp
  | i + 1, h => by
    show ((rowS W pl l p j i ++ pc W pl l p j i).length : Int) = _
    have a := rowS_len ho hp j hj i (by omega)
    have b := pc_len ho hp j i hj (by omega)
    rw [List.length_append, Int.natCast_add, a, b, Int.natCast_add, Int.mul_add]; simp
theorem colS_len {W H pl : Int} {l : List Int} {p : S39} (ho : ImgOk W H pl l) (hp : PassOk W H p) : ∀ j : Nat, (j : Int) ≤ p.f5 → ((colS W pl l p j).length : Int) = pl * p.f4 * j
  | 0, _ => by show ((0 : Nat) : Int) = _; simp
  | j + 1, h => by
    show ((colS W pl l p j ++ rowS W pl l p j p.f4.toNat).length : Int) = _
    have x1 := hp.x.1
    have a := colS_len ho hp j (by omega)
    have b := rowS_len ho hp j (by omega) p.f4.toNat (by omega)
    rw [List.length_append, Int.natCast_add, a, b, Int.natCast_add, Int.mul_add, Int.toNat_of_nonneg (by omega)]; simp
theorem colS_le {W H pl : Int} {l : List Int} {p : S39} (ho : ImgOk W H pl l) (hp : PassOk W H p) (j : Nat) (hj : (j : Int) ≤ p.f5) : (colS W pl l p j).length ≤ 1048576 := by
  have e := colS_len ho hp j hj
  have p1 := ho.pl
  have x1 := hp.x.1
  have x2 := hp.x.2.1
  have y2 := hp.y.2.1
  have w2 := ho.w
  have h2 := ho.h
  have a : pl * p.f4 ≤ 4 * p.f4 := Int.mul_le_mul_of_nonneg_right (by omega) (by omega)
  have b : pl * p.f4 * (j : Int) ≤ 2048 * (j : Int) := Int.mul_le_mul_of_nonneg_right (by omega) (by omega)
  omega
def pict (W pl d : Int) (l : List Int) (p : S39) : S31 := ⟨p.f4, p.f5, pl, d, colS W pl l p p.f5.toNat⟩
def splitS (W H pl d : Int) (l : List Int) : List S31 := (accP W H 7).map (pict W pl d l)
section
variable {W H pl d : Int} {l : List Int}
theorem impl_split (ho : ImgOk W H pl l) : Ev (fun k => impl_Split.l0 k ([] : List (S31)) (accP W H 7) ((accP W H 7).length : Int) 0 W H pl d l) (splitS W H pl d l) := by
  have hok := accP_ok W H ho.w.2 ho.h.2 7 (by omega)
  have hlen := accP_len W H 7
  unfold splitS
  generalize accP W H 7 = P at hok hlen
  have p1 := ho.pl
  have main := down (n := P.length) (P := fun i => Ev (fun k => impl_Split.l0 k ((P.take i).map (pict W pl d l)) P (P.length : Int) (i : Int) W H pl d l) (P.map (pict W pl d l))) ?_ ?_
  · exact main
  · refine Ev.step (fun k => rfl) (evneg (by omega) ?_)
    rw [List.take_length]; exact Ev.now _
  · intro n hn ih
    have hp := hok _ (List.getElem_mem hn)
    have er : rd_T39 P (n : Int) = P[n] := by rw [rdT39, getD_lt hn]
    have et : (P.take (n + 1)).map (pict W pl d l) = (P.take n).map (pict W pl d l) ++ [pict W pl d l P[n]] := by
      rw [List.take_succ_eq_append_getElem hn, List.map_append]; rfl
    rw [et] at ih
    have ht : ((P.take n).map (pict W pl d l)).length ≤ 7 := by rw [List.length_map, List.length_take]; omega
    generalize (P.take n).map (pict W pl d l) = acc at ih ht
    refine Ev.step (fun k => rfl) (evpos (by omega) (evpos (by omega) (evpos (by omega) ?_)))
    rw [er]
    generalize P[n] = p at hp ih
    have x1 := hp.x.1
    have y1 := hp.y.1
    have x2 := hp.x.2.1
    have y2 := hp.y.2.1
    have w2 := ho.w
    have h2 := ho.h
    have rows := down (n := p.f5.toNat) (P := fun j => Ev (fun k => impl_Split.l1 k acc P (P.length : Int) (n : Int) p.f5 (j : Int) W H pl d l p.f0 p.f1 p.f2 p.f3 p.f4 p.f5 p.f4 p.f5 pl d (colS W pl l p j)) (P.map (pict W pl d l))) ?_ ?_
    · exact rows
    · refine Ev.step (fun k => rfl) (evneg (by omega) (evpos (by omega) ?_))
      rw [w64s (by omega)]
      exact ih
    · intro j hj jh
      have hj5 : (j : Int) < p.f5 := by omega
      refine Ev.step (fun k => rfl) (evpos (by omega) ?_)
      have cols := down (n := p.f4.toNat) (P := fun i => Ev (fun k => impl_Split.l2 k acc (j : Int) P (P.length : Int) (n : Int) p.f5 (j : Int) p.f4 (i : Int) W H pl d l p.f0 p.f1 p.f2 p.f3 p.f4 p.f5 p.f4 p.f5 pl d (colS W pl l p j ++ rowS W pl l p j i)) (P.map (pict W pl d l))) ?_ ?_
      · rw [show rowS W pl l p j 0 = [] from rfl, List.append_nil] at cols; exact cols
      · refine Ev.step (fun k => rfl) (evneg (by omega) ?_)
        rw [w64s (by omega)]
        exact jh
      · intro i hi jh2
        have hi4 : (i : Int) < p.f4 := by omega
        obtain ⟨_, a0, a1⟩ := at_in ho hp (Int.natCast_nonneg j) hj5 (Int.natCast_nonneg i) hi4
        have hl : (l.length : Int) ≤ 16384 := by
          rw [ho.len]
          have a := Int.mul_le_mul_of_nonneg_right ho.wh (show 0 ≤ pl by omega)
          omega
        have hwp : wrap64 (at_ W pl p (j : Int) (i : Int) + pl) = at_ W pl p (j : Int) (i : Int) + pl := w64 (by omega) (by omega)
        have lc := colS_le ho hp j (by omega)
        have lr := rowS_len ho hp j hj5 i (by omega)
        have lp := pc_len ho hp j i hj5 hi4
        have lr2 : pl * (i : Int) ≤ 4 * (i : Int) := Int.mul_le_mul_of_nonneg_right (by omega) (by omega)
        rw [show rowS W pl l p j (i + 1) = rowS W pl l p j i ++ pc W pl l p j i from rfl, ← List.append_assoc] at jh2
        have lim : (colS W pl l p j ++ rowS W pl l p j i).length + (pc W pl l p j i).length < 17592186044416 := by rw [List.length_append]; omega
        have c1 : at_ W pl p (j : Int) (i : Int) ≤ wrap64 (at_ W pl p (j : Int) (i : Int) + pl) := by omega
        have c2 : wrap64 (at_ W pl p (j : Int) (i : Int) + pl) ≤ (l.length : Int) := by omega
        refine Ev.step (fun k => rfl) (evpos (by omega) (evpos a0 (evpos c1 (evpos c2 (evpos lim ?_)))))
        rw [w64s (by omega)]
        exact jh2
theorem spec_split (ho : ImgOk W H pl l) : Ev (fun k => spec_l4Split.l0 k ([] : List (S31)) (accP W H 7) ((accP W H 7).length : Int) 0 W H pl d l) (splitS W H pl d l) := by
  have hok := accP_ok W H ho.w.2 ho.h.2 7 (by omega)
  have hlen := accP_len W H 7
  unfold splitS
  generalize accP W H 7 = P at hok hlen
  have p1 := ho.pl
  have main := down (n := P.length) (P := fun i => Ev (fun k => spec_l4Split.l0 k ((P.take i).map (pict W pl d l)) P (P.length : Int) (i : Int) W H pl d l) (P.map (pict W pl d l))) ?_ ?_
  · exact main
  · refine Ev.step (fun k => rfl) (evneg (by omega) ?_)
    rw [List.take_length]; exact Ev.now _
  · intro n hn ih
    have hp := hok _ (List.getElem_mem hn)
    have er : rd_T39 P (n : Int) = P[n] := by rw [rdT39, getD_lt hn]
    have et : (P.take (n + 1)).map (pict W pl d l) = (P.take n).map (pict W pl d l) ++ [pict W pl d l P[n]] := by
      rw [List.take_succ_eq_append_getElem hn, List.map_append]; rfl
    rw [et] at ih
    have ht : ((P.take n).map (pict W pl d l)).length ≤ 7 := by rw [List.length_map, List.length_take]; omega
    generalize (P.take n).map (pict W pl d l) = acc at ih ht
    refine Ev.step (fun k => rfl) (evpos (by omega) (evpos (by omega) (evpos (by omega) ?_)))
    rw [er]
    generalize P[n] = p at hp ih
    have x1 := hp.x.1
    have y1 := hp.y.1
    have x2 := hp.x.2.1
    have y2 := hp.y.2.1
    have w2 := ho.w
    have h2 := ho.h
    have rows := down (n := p.f5.toNat) (P := fun j => Ev (fun k => spec_l4Split.l1 k acc (j : Int) P (P.length : Int) (n : Int) W H pl d l p.f0 p.f1 p.f2 p.f3 p.f4 p.f5 p.f4 p.f5 pl d (colS W pl l p j)) (P.map (pict W pl d l))) ?_ ?_
    · exact rows
    · refine Ev.step (fun k => rfl) (evneg (by omega) (evpos (by omega) ?_))
      rw [w64s (by omega)]
      exact ih
    · intro j hj jh
      have hj5 : (j : Int) < p.f5 := by omega
      refine Ev.step (fun k => rfl) (evpos (by omega) ?_)
      have cols := down (n := p.f4.toNat) (P := fun i => Ev (fun k => spec_l4Split.l2 k acc (j : Int) (i : Int) P (P.length : Int) (n : Int) W H pl d l p.f0 p.f1 p.f2 p.f3 p.f4 p.f5 p.f4 p.f5 pl d (colS W pl l p j ++ rowS W pl l p j i)) (P.map (pict W pl d l))) ?_ ?_
      · rw [show rowS W pl l p j 0 = [] from rfl, List.append_nil] at cols; exact cols
      · refine Ev.step (fun k => rfl) (evneg (by omega) ?_)
        rw [w64s (by omega)]
        exact jh
      · intro i hi jh2
        have hi4 : (i : Int) < p.f4 := by omega
        obtain ⟨_, a0, a1⟩ := at_in ho hp (Int.natCast_nonneg j) hj5 (Int.natCast_nonneg i) hi4
        have hl : (l.length : Int) ≤ 16384 := by
          rw [ho.len]
          have a := Int.mul_le_mul_of_nonneg_right ho.wh (show 0 ≤ pl by omega)
          omega
        have hwp : wrap64 (at_ W pl p (j : Int) (i : Int) + pl) = at_ W pl p (j : Int) (i : Int) + pl := w64 (by omega) (by omega)
        have lc := colS_le ho hp j (by omega)
        have lr := rowS_len ho hp j hj5 i (by omega)
        have lp := pc_len ho hp j i hj5 hi4
        have lr2 : pl * (i : Int) ≤ 4 * (i : Int) := Int.mul_le_mul_of_nonneg_right (by omega) (by omega)
        rw [show rowS W pl l p j (i + 1) = rowS W pl l p j i ++ pc W pl l p j i from rfl, ← List.append_assoc] at jh2
        have lim : (colS W pl l p j ++ rowS W pl l p j i).length + (pc W pl l p j i).length < 17592186044416 := by rw [List.length_append]; omega
        have c1 : at_ W pl p (j : Int) (i : Int) ≤ wrap64 (at_ W pl p (j : Int) (i : Int) + pl) := by omega
        have c2 : wrap64 (at_ W pl p (j : Int) (i : Int) + pl) ≤ (l.length : Int) := by omega
        refine Ev.step (fun k => rfl) (evpos (by omega) (evpos a0 (evpos c1 (evpos c2 (evpos lim ?_)))))
        rw [w64s (by omega)]
        exact jh2
end
theorem splitS_ok {W H pl d : Int} {l : List Int} (ho : ImgOk W H pl l) : (splitS W H pl d l).length ≤ 7 ∧ ∀ y ∈ splitS W H pl d l, y.f4.length ≤ 1048576 := by
  have hok := accP_ok W H ho.w.2 ho.h.2 7 (by omega)
  refine ⟨by unfold splitS; rw [List.length_map]; exact accP_len W H 7, fun y hy => ?_⟩
  obtain ⟨p, hp, rfl⟩ := List.mem_map.1 hy
  have y1 := (hok p hp).y.1
  exact colS_le ho (hok p hp) p.f5.toNat (by omega)
theorem FnExactSplit : laws_FnExactSplit.Pure := by
  intro a b c d l hwf
  obtain ⟨_, _, _, _, s1, _⟩ := hwf
  obtain ⟨s, es, _, hs⟩ := szImage a b c d l 1048576 s1 (by omega) (by omega)
  obtain ⟨K0, f0⟩ := es
  by_cases cs : s < 0
  · exact ⟨K0, s, f0 K0 (Nat.le_refl _), .inl cs⟩
  have bl := hs (by omega)
  have et := toImage a b c d l bl
  have eq := eqImage a b c d l (by omega)
  obtain ⟨x', em, _, _⟩ := mhIntS l 1 (by omega) (by omega)
  have em' : Ev (fun k => laws_markImage.f k a b c d l 1) (1 + l.length, x') := Ev.bind em (Ev.now _)
  obtain ⟨r, hr, hy, e1, e2⟩ : ∃ r : List S31, r.length ≤ 7 ∧ (∀ y ∈ r, y.f4.length ≤ 1048576) ∧ Ev (fun k => spec_Split.f k a b c d l) r ∧ Ev (fun k => impl_Split.f k a b c d l) r := by
    obtain ⟨q, h1, h2, h3⟩ := good_img a b c d l bl
    cases q with
    | false => exact ⟨[], by simp, by simp, Ev.bind h1 (evneg (by simp) (Ev.now _)), Ev.bind h2 (evneg (by simp) (Ev.now _))⟩
    | true =>
      have ho := h3 rfl
      obtain ⟨o1, o2⟩ := splitS_ok (d := d) ho
      exact ⟨_, o1, o2, Ev.bind h1 (evpos rfl (Ev.bind (Ev.bind (passes_spec a b ho.w ho.h) (spec_split ho)) (Ev.now _))), Ev.bind h2 (evpos rfl (Ev.bind (passes_impl a b ho.w ho.h) (impl_split ho)))⟩
  have er := eqImageS r ⟨by omega, fun y hy' => by have := hy y hy'; omega⟩
  obtain ⟨m, r', m1, m2, hm⟩ := mhImageS r (by omega) hy
  obtain ⟨K1, f1⟩ := et
  obtain ⟨K2, f2'⟩ := eq
  obtain ⟨K3, f3⟩ := em'
  obtain ⟨K4, f4⟩ := e1
  obtain ⟨K5, f5⟩ := e2
  obtain ⟨K6, f6⟩ := er
  obtain ⟨K7, f7⟩ := m1
  obtain ⟨K8, f8⟩ := m2
  refine ⟨K0 + K1 + K2 + K3 + K4 + K5 + K6 + K7 + K8, s, f0 (K0 + K1 + K2 + K3 + K4 + K5 + K6 + K7 + K8) (by omega), .inr ⟨by omega, r, 1 + l.length, m, x', r', f1 _ (by omega), f4 _ (by omega), f5 _ (by omega), f6 _ (by omega), f2' _ (by omega), f3 _ (by omega), by omega, f7 _ (by omega), hm, f8 _ (by omega)⟩⟩
end Go.Proofs.Ytggokppfhkebkaa.Pure

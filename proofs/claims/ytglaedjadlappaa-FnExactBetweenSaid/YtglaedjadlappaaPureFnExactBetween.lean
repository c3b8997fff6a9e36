/- FnExactBetween: the program's Between answers as the reference at every argument. -/
import Derived.Test.YtglaedjadlappaaPFnExactBetweenx0
import Derived.Test.YtglaedjadlappaaPFnExactBetweenx1
import Derived.Test.YtglaedjadlappaaPFnExactBetweenx2
import Derived.Test.YtglaedjadlappaaPFnExactBetweenx3
import Derived.Test.YtglaedjadlappaaPFnExactBetweenx4
import Derived.Test.YtglaedjadlappaaPFnExactBetweenx5
import Derived.Test.YtglaedjadlappaaPFnExactBetweenx6
import Derived.Test.YtglaedjadlappaaK
namespace Go.Proofs.Ytglaedjadlappaa.Pure
open Go.RowKit Go.Proofs.Ytglaedjadlappaa.PFnExactBetween Go.Proofs.Ytglaedjadlappaa.K Go.Proofs.YtglaedjadlappaaW.PrintWords Go.Proofs.YtglaedjadlappaaW.PrintLast Go.Proofs.YtglaedjadlappaaW.PrintMore

theorem toIntS (l : List Int) (hl : l.length ≤ 1048576) : Ev (fun k => laws_toIntS.f k l) l := by
  refine evpos (by omega) (evpos (by omega) ?_)
  have := down (n := l.length) (P := fun i => Ev (fun k => laws_toIntS.l0 k l (fl 0 l.length (fun j => l.getD j 0) i) (i : Int)) l) ?_ ?_
  · rw [fl_zero] at this; exact this
  · refine Ev.step (fun k => rfl) (evneg (by omega) ?_)
    rw [fl_all]
    have e := map_range_get l 0 id
    try simp only [id_eq, List.map_id_fun] at e
    rw [e]; exact Ev.now _
  · intro i hi h
    refine Ev.step (fun k => rfl) (evpos (by omega) (evpos (by omega) (evpos (by rw [fl_len]; omega) ?_)))
    rw [w64s (by omega), rd_nat, getD_lt hi, Int.toNat_natCast]
    rw [← fl_set, getD_lt hi] at h
    exact h
theorem eqIntS (l : List Int) (hl : l.length ≤ 4611686018427387904) : Ev (fun k => laws_eqIntS.f k l l) true := by
  refine evpos rfl ?_
  refine down (n := l.length) (P := fun i => Ev (fun k => laws_eqIntS.l0 k l l (i : Int)) true) ?_ ?_
  · exact Ev.step (fun k => rfl) (evneg (by omega) (Ev.now _))
  · intro i hi h
    refine Ev.step (fun k => rfl) (evpos (by omega) (evpos (by omega) (evpos (by omega) (evpos rfl ?_))))
    rw [w64s (by omega)]; exact h
theorem mhIntS (l : List Int) (a : Int) (h0 : 0 ≤ a) (h1 : a + l.length ≤ 4611686018427387904) : ∃ l' : List Int, Ev (fun k => laws_markIntS.f k l a) (a + l.length, l') ∧ Ev (fun k => laws_heldIntS.f k l' a) (a + l.length) ∧ l'.length = l.length := by
  refine ⟨(List.range l.length).map (fun (j : Nat) => a + (j : Int)), ?_, ?_, by simp⟩
  · have := down (n := l.length) (P := fun i => Ev (fun k => laws_markIntS.l0 k (f2 l.length (fun (j : Nat) => a + (j : Int)) (fun j => l.getD j 0) i) (a + (i : Int)) (i : Int)) (a + l.length, (List.range l.length).map (fun (j : Nat) => a + (j : Int)))) ?_ ?_
    · rw [f2_zero] at this; rw [show a + ((0 : Nat) : Int) = a by omega] at this; exact this
    · refine Ev.step (fun k => rfl) (evneg (by rw [f2_len]; omega) ?_)
      rw [f2_all]; exact Ev.now _
    · intro i hi h
      refine Ev.step (fun k => rfl) (evpos (by rw [f2_len]; omega) (evpos (by omega) ?_))
      rw [w64s (by omega), w64 (by omega) (by omega), Int.toNat_natCast, show a + (i : Int) + 1 = a + ((i + 1 : Nat) : Int) by omega]
      rw [← f2_set] at h
      exact h
  · have := down (n := l.length) (P := fun i => Ev (fun k => laws_heldIntS.l0 k ((List.range l.length).map (fun (j : Nat) => a + (j : Int))) (a + (i : Int)) (i : Int)) (a + l.length)) ?_ ?_
    · rw [show a + ((0 : Nat) : Int) = a by omega] at this; exact this
    · exact Ev.step (fun k => rfl) (evneg (by simp) (Ev.now _))
    · intro i hi h
      refine Ev.step (fun k => rfl) (evpos (by simpa using hi) (evpos (by omega) (evpos (by rw [rd_nat, range_getD _ _ _ _ hi]) ?_)))
      rw [w64s (by omega), w64 (by omega) (by omega), show a + (i : Int) + 1 = a + ((i + 1 : Nat) : Int) by omega]
      exact h
theorem eqFrame (a0_0 : Int) (a0_1 : Int) (a0_2 : Int) (a0_3 : Int) (a0_4 : Int) (a0_5 : Int) (a0_6 : Int) (l0_7 : List Int) (hl0_7 : l0_7.length ≤ 4611686018427387904) : Ev (fun k => laws_eqFrame.f k a0_0 a0_1 a0_2 a0_3 a0_4 a0_5 a0_6 l0_7 a0_0 a0_1 a0_2 a0_3 a0_4 a0_5 a0_6 l0_7) true :=
  evpos rfl (evpos rfl (evpos rfl (evpos rfl (evpos rfl (evpos rfl (evpos rfl (Ev.bind (eqIntS l0_7 hl0_7) (evpos rfl (Ev.now _)))))))))
abbrev FT := Int × Int × Int × Int × Int × Int × Int × List Int
def Bo (f g : Nat → Option FT) : Prop := ∃ r : FT, r.2.2.2.2.2.2.2.length ≤ 262144 ∧ Ev f r ∧ Ev g r
theorem Bo.step {f f' g g' : Nat → Option FT} (h : Bo f g) (hf : ∀ r, Ev f r → Ev f' r) (hg : ∀ r, Ev g r → Ev g' r) : Bo f' g' := by
  obtain ⟨r, h0, h1, h2⟩ := h
  exact ⟨r, h0, hf r h1, hg r h2⟩
/-! ### the guards -/
theorem side1 (a : Int) : impl_goodSide.f a = some (decide (1 ≤ a ∧ a ≤ 512)) := by
  unfold impl_goodSide.f
  by_cases c : a ≥ 1
  · rw [if_pos c]; simp [show 1 ≤ a from c]
  · rw [if_neg c]; simp [show ¬ 1 ≤ a from c]
theorem impl_sides (w h : Int) : impl_goodSides.f w h = some (decide ((1 ≤ w ∧ w ≤ 512) ∧ (1 ≤ h ∧ h ≤ 512) ∧ wrap64 (w * h) ≤ 4096)) := by
  unfold impl_goodSides.f
  rw [side1, side1, Option.bind_some, Option.bind_some]
  by_cases c : 1 ≤ w ∧ w ≤ 512
  · by_cases d : 1 ≤ h ∧ h ≤ 512
    · simp [c, d]
    · simp [c, d]
  · simp [c]
theorem spec_sides (w h : Int) : spec_l4Sides.f w h = some (decide ((1 ≤ w ∧ w ≤ 512) ∧ (1 ≤ h ∧ h ≤ 512))) := by
  unfold spec_l4Sides.f
  by_cases c : w ≥ 1
  · rw [if_pos c]
    by_cases d : w ≤ 512
    · rw [if_pos d]
      by_cases e : h ≥ 1
      · rw [if_pos e]; simp [show 1 ≤ w from c, d, show 1 ≤ h from e]
      · rw [if_neg e]; simp [show ¬ 1 ≤ h from e]
    · rw [if_neg d]; simp [d]
  · rw [if_neg c]; simp [show ¬ 1 ≤ w from c]
theorem screen (l : List Int) (n : Int) (hl : l.length ≤ 1048576) : ∃ q : Bool, Ev (fun k => impl_goodScreen.f k l n) q ∧ Ev (fun k => spec_l6Screen.f k n l) q ∧ (q = true → (∀ y ∈ l, -1 ≤ y ∧ y ≤ 255) ∧ (l.length : Int) = n) := by
  have main := down (n := l.length) (P := fun i => ∃ q : Bool, Ev (fun k => impl_goodScreen.l0 k l n l (l.length : Int) (i : Int)) q ∧ Ev (fun k => spec_l6Screen.l0 k n l l (l.length : Int) (i : Int)) q ∧ (q = true → (∀ y ∈ l.drop i, -1 ≤ y ∧ y ≤ 255) ∧ (l.length : Int) = n)) ?_ ?_
  · obtain ⟨q, h1, h2, h3⟩ := main
    exact ⟨q, h1, h2, h3⟩
  · refine ⟨(l.length : Int) == n, Ev.step (fun _ => rfl) (evneg (by omega) (Ev.now _)), Ev.step (fun _ => rfl) (evneg (by omega) (Ev.now _)), fun h => ⟨?_, beq_iff_eq.1 h⟩⟩
    rw [List.drop_length]
    exact fun y hy => by cases hy
  · intro i hi ⟨q, h1, h2, h3⟩
    have er : rd l (i : Int) = l[i] := by rw [rd_nat, getD_lt hi]
    by_cases c : l[i] < -1
    · refine ⟨false, Ev.step (fun _ => rfl) (evpos (by omega) (evpos (by omega) (evpos (by omega) ?_))), Ev.step (fun _ => rfl) (evpos (by omega) (evpos (by omega) (evpos (by omega) ?_))), (fun h => by cases h)⟩
      · rw [er]; exact evpos c (Ev.now _)
      · rw [er]; exact evpos c (Ev.now _)
    · by_cases d : l[i] > 255
      · refine ⟨false, Ev.step (fun _ => rfl) (evpos (by omega) (evpos (by omega) (evpos (by omega) ?_))), Ev.step (fun _ => rfl) (evpos (by omega) (evpos (by omega) (evpos (by omega) ?_))), (fun h => by cases h)⟩
        · rw [er]; exact evneg c (evpos d (Ev.now _))
        · rw [er]; exact evneg c (evpos d (Ev.now _))
      · refine ⟨q, Ev.step (fun _ => rfl) (evpos (by omega) (evpos (by omega) (evpos (by omega) ?_))), Ev.step (fun _ => rfl) (evpos (by omega) (evpos (by omega) (evpos (by omega) ?_))), fun h => ⟨?_, (h3 h).2⟩⟩
        · rw [er, w64s (by omega)]; exact evneg c (evneg d h1)
        · rw [er, w64s (by omega)]; exact evneg c (evneg d h2)
        · rw [List.drop_eq_getElem_cons hi]
          intro y hy
          rcases List.mem_cons.1 hy with rfl | hy
          · omega
          · exact (h3 h).1 y hy
/-! ### the colour that stands for nothing -/
def fd (u : List Bool) : Nat → Int → Int
  | 0, h => h
  | n + 1, h => fd u n (if u.getD n false = true then h else (n : Int))
theorem fd_all (u : List Bool) : ∀ (n : Nat) (h : Int), (∀ i, i < n → u.getD i false = true) → fd u n h = h
  | 0, _, _ => rfl
  | n + 1, h, ha => by
    show fd u n _ = h
    rw [if_pos (ha n (by omega))]
    exact fd_all u n h (fun i hi => ha i (by omega))
theorem fd_at (u : List Bool) (c : Nat) (hc : ¬ u.getD c false = true) (ha : ∀ i, i < c → u.getD i false = true) : ∀ (n : Nat) (h : Int), c < n → fd u n h = (c : Int)
  | 0, _, hn => absurd hn (by omega)
  | n + 1, h, hn => by
    show fd u n _ = _
    by_cases e : n = c
    · subst e
      rw [if_neg hc]
      exact fd_all u n _ ha
    · exact fd_at u c hc ha n _ (by omega)
theorem rdB (u : List Bool) (i : Nat) : rdOf false u (i : Int) = u.getD i false := by simp [rdOf]
theorem s3 {u : List Bool} (hu : u.length = 256) {f0 f1 f2 f3 f4 f5 : Int} {p : List Int} {r : FT} : ∀ (n : Nat) (h : Int), n ≤ 256 → Ev (fun k => spec_Between.l4 k (p.length : Int) 0 f0 f1 f2 f3 f4 f5 (fd u n h) p) r → Ev (fun k => spec_Between.l3 k u ((n : Int) - 1) f0 f1 f2 f3 f4 f5 h p) r
  | 0, _, _, e => Ev.step (fun _ => rfl) (evneg (by omega) e)
  | n + 1, h, hn, e => by
    have e' : Ev (fun k => spec_Between.l4 k (p.length : Int) 0 f0 f1 f2 f3 f4 f5 (fd u n (if u.getD n false = true then h else (n : Int))) p) r := e
    rw [show ((n + 1 : Nat) : Int) - 1 = (n : Int) by omega]
    have ew : wrap64 ((n : Int) - 1) = (n : Int) - 1 := w64 (by omega) (by omega)
    refine Ev.step (fun _ => rfl) (evpos (by omega) (evpos (by omega) (evpos (by omega) ?_)))
    rw [rdB, ew]
    by_cases c : u.getD n false = true
    · rw [if_pos c] at e'
      exact evpos c (s3 hu n _ (by omega) e')
    · rw [if_neg c] at e'
      exact evneg c (s3 hu n _ (by omega) e')
theorem i3 {u : List Bool} {b : Bool} {f0 f1 f2 f3 f4 f5 : Int} {p : List Int} {r : FT} (h : Ev (fun k => impl_Between.j6 k f0 f1 f2 f3 f4 f5 (fd u 256 (-1)) p) r) : Ev (fun k => impl_Between.l3 k (b :: u) 0 f0 f1 f2 f3 f4 f5 (-1) p) r := by
  have main := down (n := 256) (P := fun c => (∀ i, i < c → u.getD i false = true) → Ev (fun k => impl_Between.l3 k (b :: u) (c : Int) f0 f1 f2 f3 f4 f5 (-1) p) r) ?_ ?_
  · exact main (fun i hi => absurd hi (by omega))
  · intro ha
    rw [fd_all u 256 _ ha] at h
    generalize hN : ((256 : Nat) : Int) = N
    exact Ev.step (fun _ => rfl) (evneg (by omega) h)
  · intro c hc ih ha
    have ew : wrap64 ((c : Int) + 1) = ((c + 1 : Nat) : Int) := w64s (by omega)
    have eg : (b :: u).getD (c + 1) false = u.getD c false := by simp
    refine Ev.step (fun _ => rfl) (evpos (by omega) (evpos (by rw [ew]; omega) (evpos (by rw [ew]; omega) ?_)))
    rw [ew, rdB, eg]
    by_cases d : u.getD c false = true
    · refine evpos d (ih fun i hi => ?_)
      by_cases e : i = c
      · subst e; exact d
      · exact ha i (by omega)
    · rw [fd_at u c d ha 256 _ hc] at h
      exact evneg d h
theorem l4_both (f0 f1 f2 f3 f4 f5 f6 : Int) (p : List Int) (hp : p.length ≤ 262144) : Bo (fun k => spec_Between.l4 k (p.length : Int) 0 f0 f1 f2 f3 f4 f5 f6 p) (fun k => impl_Between.l4 k (p.length : Int) 0 f0 f1 f2 f3 f4 f5 f6 p) := by
  have main := down (n := p.length) (P := fun i => ∀ q : List Int, q.length = p.length → Bo (fun k => spec_Between.l4 k (p.length : Int) (i : Int) f0 f1 f2 f3 f4 f5 f6 q) (fun k => impl_Between.l4 k (p.length : Int) (i : Int) f0 f1 f2 f3 f4 f5 f6 q)) ?_ ?_
  · exact main p rfl
  · intro q hq
    exact ⟨(f0, f1, f2, f3, f4, f5, f6, q), (by show q.length ≤ _; omega), Ev.step (fun _ => rfl) (evneg (by omega) (Ev.now _)), Ev.step (fun _ => rfl) (evneg (by omega) (Ev.now _))⟩
  · intro i hi ih q hq
    have ew : wrap64 ((i : Int) + 1) = ((i + 1 : Nat) : Int) := w64s (by omega)
    by_cases c : rd q (i : Int) < 0
    · refine (ih (q.set (i : Int).toNat f6) (by rw [List.length_set]; exact hq)).step (fun r e => Ev.step (fun _ => rfl) (evpos (by omega) (evpos (by omega) (evpos (by omega) (evpos c ?_))))) (fun r e => Ev.step (fun _ => rfl) (evpos (by omega) (evpos (by omega) (evpos (by omega) (evpos c ?_)))))
      · rw [ew]; exact e
      · rw [ew]; exact e
    · refine (ih q hq).step (fun r e => Ev.step (fun _ => rfl) (evpos (by omega) (evpos (by omega) (evpos (by omega) (evneg c ?_))))) (fun r e => Ev.step (fun _ => rfl) (evpos (by omega) (evpos (by omega) (evpos (by omega) (evneg c ?_)))))
      · rw [ew]; exact e
      · rw [ew]; exact e
theorem fin_both {w x0 x1 y1 y f0 f1 f2 f3 f4 f5 : Int} {A p : List Int} {u : List Bool} (b : Bool) (hy : ¬ y ≤ y1) (hu : u.length = 256) (hp : p.length ≤ 262144) :
    Bo (fun k => spec_Between.l1 k w A x0 x1 y1 u b y f0 f1 f2 f3 f4 f5 (-1) p) (fun k => impl_Between.l1 k w A x0 x1 y1 (b :: u) y f0 f1 f2 f3 f4 f5 (-1) p) := by
  by_cases hb : b = true
  · refine (l4_both f0 f1 f2 f3 f4 f5 (fd u 256 (-1)) p hp).step (fun r e => Ev.step (fun _ => rfl) (evneg hy (evpos hb (s3 hu 256 (-1) (Nat.le_refl _) e)))) (fun r e => Ev.step (fun _ => rfl) (evneg hy ?_))
    exact evpos (by decide) (evpos hb (i3 (Ev.step (fun _ => rfl) e)))
  · exact ⟨(f0, f1, f2, f3, f4, f5, -1, p), hp, Ev.step (fun _ => rfl) (evneg hy (evneg hb (Ev.now _))), Ev.step (fun _ => rfl) (evneg hy (evpos (by decide) (evneg hb (Ev.now _))))⟩
/-! ### the rows -/
theorem idx {w h y x : Int} (hw : 1 ≤ w) (hN : w * h ≤ 4096) (hy : 0 ≤ y) (hy1 : y ≤ h - 1) (hx : 0 ≤ x) (hx1 : x ≤ w - 1) : wrap64 (wrap64 (y * w) + x) = y * w + x ∧ 0 ≤ y * w + x ∧ y * w + x < w * h := by
  have a : 0 ≤ y * w := Int.mul_nonneg hy (by omega)
  have b : y * w ≤ (h - 1) * w := Int.mul_le_mul_of_nonneg_right hy1 (by omega)
  have c : (h - 1) * w = w * h - w := by rw [Int.sub_mul, Int.one_mul, Int.mul_comm]
  rw [c] at b
  have e : wrap64 (y * w) = y * w := w64 (by omega) (by omega)
  rw [e]
  exact ⟨w64 (by omega) (by omega), by omega, by omega⟩
theorem rows_both {w h : Int} (hw : 1 ≤ w ∧ w ≤ 512) (hh : h ≤ 512) (hN : w * h ≤ 4096) {A : List Int} (hA : (A.length : Int) = w * h) (hv : ∀ y ∈ A, -1 ≤ y ∧ y ≤ 255) {x0 x1 y1 f0 f1 f2 f3 f4 f5 : Int} (hx0 : 0 ≤ x0) (hx1 : x1 ≤ w - 1) (hy1 : y1 ≤ h - 1) :
    ∀ (m : Nat) (y : Int) (u : List Bool) (b : Bool) (p : List Int), y1 - y + 1 ≤ m → 0 ≤ y → p.length + 512 * m ≤ 262144 → u.length = 256 → Bo (fun k => spec_Between.l1 k w A x0 x1 y1 u b y f0 f1 f2 f3 f4 f5 (-1) p) (fun k => impl_Between.l1 k w A x0 x1 y1 (b :: u) y f0 f1 f2 f3 f4 f5 (-1) p) := by
  intro m
  induction m with
  | zero => intro y u b p hm _ hp hu; exact fin_both b (by omega) hu (by omega)
  | succ m ih =>
    intro y u b p hm hy hp hu
    by_cases c : y ≤ y1
    · have inner : ∀ (j : Nat) (x : Int) (u : List Bool) (b : Bool) (p : List Int), x1 - x + 1 ≤ j → 0 ≤ x → p.length + j + 512 * m ≤ 262144 → u.length = 256 → Bo (fun k => spec_Between.l2 k w A x0 x1 y1 u b y x f0 f1 f2 f3 f4 f5 (-1) p) (fun k => impl_Between.l2 k w A x0 x1 y1 (b :: u) y x f0 f1 f2 f3 f4 f5 (-1) p) := by
        have ey : wrap64 (y + 1) = y + 1 := w64 (by omega) (by omega)
        have done : ∀ (x : Int) (u : List Bool) (b : Bool) (p : List Int), ¬ x ≤ x1 → p.length + 512 * m ≤ 262144 → u.length = 256 → Bo (fun k => spec_Between.l2 k w A x0 x1 y1 u b y x f0 f1 f2 f3 f4 f5 (-1) p) (fun k => impl_Between.l2 k w A x0 x1 y1 (b :: u) y x f0 f1 f2 f3 f4 f5 (-1) p) := by
          intro x u b p hx hp hu
          refine (ih (y + 1) u b p (by omega) (by omega) hp hu).step (fun r e => Ev.step (fun _ => rfl) (evneg hx ?_)) (fun r e => Ev.step (fun _ => rfl) (evneg hx ?_))
          · rw [ey]; exact e
          · rw [ey]; exact e
        intro j
        induction j with
        | zero => intro x u b p hj _ hp hu; exact done x u b p (by omega) (by omega) hu
        | succ j jh =>
          intro x u b p hj hx hp hu
          by_cases d : x ≤ x1
          · obtain ⟨e1, e2, e3⟩ := idx (x := x) hw.1 hN hy (by omega) hx (by omega)
            have ex : wrap64 (x + 1) = x + 1 := w64 (by omega) (by omega)
            obtain ⟨n, hn⟩ : ∃ n : Nat, y * w + x = (n : Int) := ⟨(y * w + x).toNat, by omega⟩
            rw [hn] at e1 e2 e3
            have hnA : n < A.length := by omega
            have er : rd A (n : Int) = A[n] := by rw [rd_nat, getD_lt hnA]
            have hb := hv _ (List.getElem_mem hnA)
            generalize A[n] = v at er hb
            have hap : (p ++ [v]).length = p.length + 1 := by rw [List.length_append]; rfl
            have ew : wrap64 (v + 1) = v + 1 := w64 (by omega) (by omega)
            by_cases f : v < 0
            · have hv1 : v = -1 := by omega
              refine (jh (x + 1) u true (p ++ [v]) (by omega) (by omega) (by omega) hu).step (fun r e => Ev.step (fun _ => rfl) (evpos d ?_)) (fun r e => Ev.step (fun _ => rfl) (evpos d ?_))
              · rw [e1, er, ex]
                exact evpos e2 (evpos (by omega) (evpos f (evpos (by omega) e)))
              · rw [e1, er, ex, ew]
                refine evpos e2 (evpos (by omega) (evpos (by omega) (evpos (by omega) (evpos (by omega) ?_))))
                rw [show (v + 1).toNat = 0 by omega]
                exact e
            · obtain ⟨q, hq⟩ : ∃ q : Nat, v = (q : Int) := ⟨v.toNat, by omega⟩
              refine (jh (x + 1) (u.set q true) b (p ++ [v]) (by omega) (by omega) (by omega) (by rw [List.length_set]; exact hu)).step (fun r e => Ev.step (fun _ => rfl) (evpos d ?_)) (fun r e => Ev.step (fun _ => rfl) (evpos d ?_))
              · rw [e1, er, ex]
                refine evpos e2 (evpos (by omega) (evneg f (evpos (by omega) (evpos (by omega) (evpos (by omega) ?_)))))
                rw [show v.toNat = q by omega]
                exact e
              · rw [e1, er, ex, ew]
                refine evpos e2 (evpos (by omega) (evpos (by omega) (evpos (by omega) (evpos (by omega) ?_))))
                rw [show (v + 1).toNat = q + 1 by omega]
                exact e
          · exact done x u b p d (by omega) hu
      exact (inner 512 x0 u b p (by omega) hx0 (by omega) hu).step (fun r e => Ev.step (fun _ => rfl) (evpos c e)) (fun r e => Ev.step (fun _ => rfl) (evpos c e))
    · exact fin_both b c hu (by omega)
theorem box_both {w h : Int} (hw : 1 ≤ w ∧ w ≤ 512) (hh : h ≤ 512) (hN : w * h ≤ 4096) {A : List Int} (hA : (A.length : Int) = w * h) (hv : ∀ y ∈ A, -1 ≤ y ∧ y ≤ 255) {x0 y0 x1 y1 : Int} (hx0 : 0 ≤ x0) (hy0 : 0 ≤ y0) (hx1 : x1 ≤ w - 1) (hy1 : y1 ≤ h - 1) :
    Bo (fun k => spec_Between.j4 k w A x0 y0 x1 y1) (fun k => impl_Between.j2 k w A x0 y0 x1 y1) := by
  have er : List.replicate 257 false = false :: List.replicate 256 false := List.replicate_succ
  have hk : 256 ≤ 281474976710656 := by omega
  refine (rows_both (f0 := x0) (f1 := y0) (f2 := wrap64 (wrap64 (x1 - x0) + 1)) (f3 := wrap64 (wrap64 (y1 - y0) + 1)) (f4 := 0) (f5 := 0) hw hh hN hA hv hx0 hx1 hy1 512 y0 (List.replicate 256 false) false [] (by omega) hy0 (Nat.le_refl _) List.length_replicate).step (fun r e => ?_) (fun r e => ?_)
  · exact Ev.step (fun k => by first | (simp only [spec_Between.j4]; done) | (simp only [spec_Between.j4]; exact if_pos hk)) e
  · rw [← er] at e
    exact Ev.step (fun _ => rfl) e
/-! ### the scan -/
theorem s_j3 {w x9 x10 x11 x12 u n i : Int} {B A : List Int} {r : FT} (h : Ev (fun k => spec_Between.l0 k w B A x9 (mn x10 u) x11 (mx x12 u) n (wrap64 (i + 1))) r) : Ev (fun k => spec_Between.j3 k w B A x9 x10 x11 x12 u n i) r := by
  by_cases c : u < x10
  · rw [show mn x10 u = u from if_pos c] at h
    by_cases d : u > x12
    · rw [show mx x12 u = u from if_pos d] at h
      exact Ev.step (fun _ => rfl) (evpos c (evpos d h))
    · rw [show mx x12 u = x12 from if_neg d] at h
      exact Ev.step (fun _ => rfl) (evpos c (evneg d h))
  · rw [show mn x10 u = x10 from if_neg c] at h
    by_cases d : u > x12
    · rw [show mx x12 u = u from if_pos d] at h
      exact Ev.step (fun _ => rfl) (evneg c (evpos d h))
    · rw [show mx x12 u = x12 from if_neg d] at h
      exact Ev.step (fun _ => rfl) (evneg c (evneg d h))
theorem s_j2 {w x9 x10 x11 x12 t u n i : Int} {B A : List Int} {r : FT} (h : Ev (fun k => spec_Between.l0 k w B A x9 (mn x10 u) (mx x11 t) (mx x12 u) n (wrap64 (i + 1))) r) : Ev (fun k => spec_Between.j2 k w B A x9 x10 x11 x12 t u n i) r := by
  by_cases c : t > x11
  · rw [show mx x11 t = t from if_pos c] at h
    exact Ev.step (fun _ => rfl) (evpos c (s_j3 h))
  · rw [show mx x11 t = x11 from if_neg c] at h
    exact Ev.step (fun _ => rfl) (evneg c (s_j3 h))
theorem mn_le {a b lo : Int} (h1 : lo ≤ a) (h2 : lo ≤ b) : lo ≤ mn a b := by unfold mn; split <;> assumption
theorem mx_le {a b hi : Int} (h1 : a ≤ hi) (h2 : b ≤ hi) : mx a b ≤ hi := by unfold mx; split <;> assumption
theorem tq {w h : Int} {i : Nat} (hw : 1 ≤ w) (hh : h ≤ 512) (hi : (i : Int) < w * h) : (0 ≤ Int.tmod (i : Int) w ∧ Int.tmod (i : Int) w ≤ w - 1) ∧ (0 ≤ wrap64 (Int.tdiv (i : Int) w) ∧ wrap64 (Int.tdiv (i : Int) w) ≤ h - 1) := by
  obtain ⟨wn, rfl⟩ : ∃ wn : Nat, w = (wn : Int) := ⟨w.toNat, by omega⟩
  have h0 : 0 < wn := by omega
  have hp : 0 ≤ h := by
    rcases Int.lt_or_le h 0 with q | q
    · have := Int.mul_nonpos_of_nonneg_of_nonpos (Int.natCast_nonneg wn) (Int.le_of_lt q)
      exact absurd hi (Int.not_lt.2 (Int.le_trans this (Int.natCast_nonneg i)))
    · exact q
  obtain ⟨hn, rfl⟩ : ∃ hn : Nat, h = (hn : Int) := ⟨h.toNat, by omega⟩
  have hlt : i < wn * hn := by exact_mod_cast hi
  clear hi
  have hm := Nat.mod_lt i h0
  have hd : i / wn < hn := Nat.div_lt_of_lt_mul hlt
  clear hlt
  rw [← Int.ofNat_tmod, ← Int.ofNat_tdiv]
  generalize i % wn = a at hm
  generalize i / wn = b at hd
  rw [w64 (by omega) (by omega)]
  omega
theorem scan_both {w h : Int} (hw : 1 ≤ w ∧ w ≤ 512) (hh : 1 ≤ h ∧ h ≤ 512) (hN : w * h ≤ 4096) {A B : List Int} (hA : (A.length : Int) = w * h) (hB : (B.length : Int) = w * h) (hv : ∀ y ∈ A, -1 ≤ y ∧ y ≤ 255) :
    Bo (fun k => spec_Between.l0 k w B A w h (-1) (-1) (B.length : Int) 0) (fun k => impl_Between.l0 k w B A w h (-1) (-1) (B.length : Int) 0) := by
  have main := down (n := B.length) (P := fun i => ∀ x0 y0 x1 y1 : Int, 0 ≤ x0 → 0 ≤ y0 → x1 ≤ w - 1 → y1 ≤ h - 1 → Bo (fun k => spec_Between.l0 k w B A x0 y0 x1 y1 (B.length : Int) (i : Int)) (fun k => impl_Between.l0 k w B A x0 y0 x1 y1 (B.length : Int) (i : Int))) ?_ ?_
  · exact main w h (-1) (-1) (by omega) (by omega) (by omega) (by omega)
  · intro x0 y0 x1 y1 h1 h2 h3 h4
    by_cases c : x1 < 0
    · exact (box_both hw hh.2 hN hA hv (Int.le_refl 0) (Int.le_refl 0) (by omega) (by omega)).step (fun r e => Ev.step (fun _ => rfl) (evneg (by omega) (evpos c e))) (fun r e => Ev.step (fun _ => rfl) (evneg (by omega) (evpos c e)))
    · exact (box_both hw hh.2 hN hA hv h1 h2 h3 h4).step (fun r e => Ev.step (fun _ => rfl) (evneg (by omega) (evneg c e))) (fun r e => Ev.step (fun _ => rfl) (evneg (by omega) (evneg c e)))
  · intro i hi ih x0 y0 x1 y1 h1 h2 h3 h4
    have ei : wrap64 ((i : Int) + 1) = ((i + 1 : Nat) : Int) := w64s (by omega)
    have hiA : (i : Int) < (A.length : Int) := by rw [hA, ← hB]; exact Int.ofNat_lt.2 hi
    by_cases c : rd B (i : Int) = rd A (i : Int)
    · refine (ih x0 y0 x1 y1 h1 h2 h3 h4).step (fun r e => Ev.step (fun _ => rfl) (evpos (Int.ofNat_lt.2 hi) (evpos (Int.natCast_nonneg i) (evpos (Int.ofNat_lt.2 hi) (evpos hiA (evpos c ?_)))))) (fun r e => Ev.step (fun _ => rfl) (evpos (Int.ofNat_lt.2 hi) (evpos (Int.natCast_nonneg i) (evpos (Int.ofNat_lt.2 hi) (evpos hiA (evpos c ?_))))))
      · rw [ei]; exact e
      · rw [ei]; exact e
    · obtain ⟨ht, hu⟩ := tq hw.1 hh.2 (show (i : Int) < w * h by rw [← hB]; exact Int.ofNat_lt.2 hi)
      obtain ⟨t, et⟩ : ∃ t, Int.tmod (i : Int) w = t := ⟨_, rfl⟩
      obtain ⟨u, eu⟩ : ∃ u, wrap64 (Int.tdiv (i : Int) w) = u := ⟨_, rfl⟩
      rw [et] at ht
      rw [eu] at hu
      have hw0 : ¬ w = 0 := fun z => absurd hw.1 (by rw [z]; decide)
      refine (ih (mn x0 t) (mn y0 u) (mx x1 t) (mx y1 u) (mn_le h1 ht.1) (mn_le h2 hu.1) (mx_le h3 ht.2) (mx_le h4 hu.2)).step (fun r e => Ev.step (fun _ => rfl) (evpos (Int.ofNat_lt.2 hi) (evpos (Int.natCast_nonneg i) (evpos (Int.ofNat_lt.2 hi) (evpos hiA (evneg c (evneg hw0 ?_))))))) (fun r e => Ev.step (fun _ => rfl) (evpos (Int.ofNat_lt.2 hi) (evpos (Int.natCast_nonneg i) (evpos (Int.ofNat_lt.2 hi) (evpos hiA (evneg c (evneg hw0 ?_)))))))
      · rw [et, eu]
        by_cases d : t < x0
        · rw [show mn x0 t = t from if_pos d] at e
          exact evpos d (s_j2 (by rw [ei]; exact e))
        · rw [show mn x0 t = x0 from if_neg d] at e
          exact evneg d (s_j2 (by rw [ei]; exact e))
      · rw [et, eu, ei]; exact e
theorem s_t {b : Bool} (hb : b = true) (w h : Int) (B A : List Int) : Ev (fun k => spec_Between.j0 k w h B A b) ((0, 0, 0, 0, 0, 0, 0, []) : FT) := Ev.step (fun _ => rfl) (evpos hb (Ev.now _))
theorem i_t {b : Bool} (hb : b = true) (w h : Int) (B A : List Int) : Ev (fun k => impl_Between.j0 k w h B A b) ((0, 0, 0, 0, 0, 0, 0, []) : FT) := Ev.step (fun _ => rfl) (evpos hb (Ev.now _))
theorem s_f {b : Bool} (hb : ¬ b = true) {w h : Int} {B A : List Int} {r : FT} (e : Ev (fun k => spec_Between.l0 k w B A w h (-1) (-1) (B.length : Int) 0) r) : Ev (fun k => spec_Between.j0 k w h B A b) r := Ev.step (fun _ => rfl) (evneg hb e)
theorem i_f {b : Bool} (hb : ¬ b = true) {w h : Int} {B A : List Int} {r : FT} (e : Ev (fun k => impl_Between.l0 k w B A w h (-1) (-1) (B.length : Int) 0) r) : Ev (fun k => impl_Between.j0 k w h B A b) r := Ev.step (fun _ => rfl) (evneg hb e)
theorem between_both (w h : Int) (B A : List Int) (hB : B.length ≤ 1048576) (hA : A.length ≤ 1048576) : Bo (fun k => spec_Between.f k w h B A) (fun k => impl_Between.f k w h B A) := by
  by_cases c1 : (1 ≤ w ∧ w ≤ 512) ∧ (1 ≤ h ∧ h ≤ 512)
  · have es : spec_l4Sides.f w h = some true := by rw [spec_sides, decide_eq_true c1]
    by_cases c2 : wrap64 (w * h) ≤ 4096
    · have ei : impl_goodSides.f w h = some true := by rw [impl_sides, decide_eq_true ⟨c1.1, c1.2, c2⟩]
      have hm : w * h ≤ 512 * 512 := Int.mul_le_mul c1.1.2 c1.2.2 (by omega) (by omega)
      have hm0 : 0 ≤ w * h := Int.mul_nonneg (by omega) (by omega)
      have ew : wrap64 (w * h) = w * h := w64 (by omega) (by omega)
      have hN : w * h ≤ 4096 := by rw [ew] at c2; exact c2
      have c2' : ¬ wrap64 (w * h) > 4096 := by omega
      obtain ⟨q1, a1, a2, a3⟩ := screen B (wrap64 (w * h)) hB
      obtain ⟨q2, b1, b2, b3⟩ := screen A (wrap64 (w * h)) hA
      by_cases d1 : q1 = true
      · by_cases d2 : q2 = true
        · have hb1 := a3 d1
          have hb2 := b3 d2
          have dn : ¬ (!q2) = true := by rw [d2]; decide
          rw [ew] at hb1 hb2
          exact (scan_both c1.1 c1.2 hN hb2.2 hb1.2 hb2.1).step (fun r e => evlet es (evpos rfl (evneg c2' (Ev.bind a2 (evpos d1 (Ev.bind b2 (s_f dn e))))))) (fun r e => evlet ei (evpos rfl (Ev.bind a1 (evpos d1 (Ev.bind b1 (i_f dn e))))))
        · have dn : (!q2) = true := by cases q2; rfl; exact absurd rfl d2
          exact ⟨_, by decide, evlet es (evpos rfl (evneg c2' (Ev.bind a2 (evpos d1 (Ev.bind b2 (s_t dn w h B A)))))), evlet ei (evpos rfl (Ev.bind a1 (evpos d1 (Ev.bind b1 (i_t dn w h B A)))))⟩
      · exact ⟨_, by decide, evlet es (evpos rfl (evneg c2' (Ev.bind a2 (evneg d1 (s_t rfl w h B A))))), evlet ei (evpos rfl (Ev.bind a1 (evneg d1 (i_t rfl w h B A))))⟩
    · have ei : impl_goodSides.f w h = some false := by rw [impl_sides, decide_eq_false (fun z => c2 z.2.2)]
      exact ⟨_, by decide, evlet es (evpos rfl (evpos (by omega) (s_t rfl w h B A))), evlet ei (evneg (by decide) (i_t rfl w h B A))⟩
  · have es : spec_l4Sides.f w h = some false := by rw [spec_sides, decide_eq_false c1]
    have ei : impl_goodSides.f w h = some false := by rw [impl_sides, decide_eq_false (fun z => c1 ⟨z.1, z.2.1⟩)]
    exact ⟨_, by decide, evlet es (evneg (by decide) (s_t rfl w h B A)), evlet ei (evneg (by decide) (i_t rfl w h B A))⟩
theorem FnExactBetween : laws_FnExactBetween.Pure := by
  intro w h B A _ _ _ _ _ _ _ _
  refine Ev.rounds ?_
  by_cases c1 : (B.length : Int) > 1048576
  · exact evpos c1 (Ev.now _)
  by_cases c2 : (A.length : Int) > 1048576
  · exact evneg c1 (evpos c2 (Ev.now _))
  have tB := toIntS B (by omega)
  have tA := toIntS A (by omega)
  obtain ⟨⟨g0, g1, g2, g3, g4, g5, g6, l⟩, hr, h1, h2⟩ := between_both w h B A (by omega) (by omega)
  have hl : l.length ≤ 262144 := hr
  have eB := eqIntS B (by omega)
  have eA := eqIntS A (by omega)
  have eF := eqFrame g0 g1 g2 g3 g4 g5 g6 l (by omega)
  obtain ⟨mb, hmb, _, _⟩ := mhIntS B 1 (by omega) (by omega)
  obtain ⟨ma, hma, _, _⟩ := mhIntS A (1 + B.length) (by omega) (by omega)
  obtain ⟨ml, hml, hhl, _⟩ := mhIntS l 1 (by omega) (by omega)
  have mF : Ev (fun k => laws_markFrame.f k g0 g1 g2 g3 g4 g5 g6 l 1) (1 + (l.length : Int), ml) := Ev.bind hml (Ev.now _)
  have hF : Ev (fun k => laws_heldFrame.f k g0 g1 g2 g3 g4 g5 g6 ml 1) (1 + (l.length : Int)) := Ev.bind hhl (evneg (by omega) (Ev.now _))
  have jn : ∀ b : Bool, ¬ b = true → Ev (fun k => laws_FnExactBetween.j0 k w h B A b g0 g1 g2 g3 g4 g5 g6 l g0 g1 g2 g3 g4 g5 g6 l) true := fun b hb =>
    Ev.step (fun _ => rfl) (evneg hb (Ev.bind mF (Ev.bind hF (evneg (by omega) (evpos rfl (Ev.bind tB (Ev.bind tA (Ev.bind h2 (Ev.bind eF (evpos rfl (Ev.bind hF (evneg (by omega) (evpos rfl (Ev.now _))))))))))))))
  exact evneg c1 (evneg c2 (Ev.bind tB (Ev.bind tA (Ev.bind h1 (Ev.bind tB (Ev.bind tA (Ev.bind h2 (Ev.bind eF (evpos rfl (Ev.bind tB (Ev.bind eB (evpos rfl (Ev.bind tA (Ev.bind eA (evpos rfl (Ev.bind hmb (Ev.bind hma (evneg (by simp only; omega) (Ev.bind eF (jn _ (by decide)))))))))))))))))))))
end Go.Proofs.Ytglaedjadlappaa.Pure

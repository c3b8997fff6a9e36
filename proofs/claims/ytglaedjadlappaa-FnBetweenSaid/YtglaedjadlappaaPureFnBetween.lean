/- FnBetween: the plain law. -/
import Derived.Test.YtglaedjadlappaaPFnBetweenx0
import Derived.Test.YtglaedjadlappaaPFnBetweenx1
import Derived.Test.YtglaedjadlappaaPFnBetweenx2
import Derived.Test.YtglaedjadlappaaPFnBetweenx3
import Derived.Test.YtglaedjadlappaaPFnBetweenx4
import Derived.Test.YtglaedjadlappaaPFnBetweenx5
import Derived.Test.YtglaedjadlappaaPFnBetweenx6
import Derived.Test.YtglaedjadlappaaK
import Derived.Laws.Bits64b
namespace Go.Proofs.Ytglaedjadlappaa.Pure
open Go.RowKit Go.Proofs.Ytglaedjadlappaa.PFnBetween Go.Proofs.Ytglaedjadlappaa.K Go.Proofs.YtglaedjadlappaaW.PrintWords Go.Proofs.YtglaedjadlappaaW.PrintLast Go.Proofs.YtglaedjadlappaaW.PrintMore

/-- The bytes that a cursor reads. -/
structure ByteL (l : List Int) : Prop where
  len : l.length ≤ 1048576
  bd : ∀ x ∈ l, 0 ≤ x ∧ x ≤ 255
theorem bytel {l : List Int} (h : ∀ x ∈ l, (Lit.int .u8 x).wf = true) (hl : ¬ (l.length : Int) > 1048576) : ByteL l := ⟨by omega, fun x hx => wfb (h x hx)⟩
theorem rd_byte {l : List Int} (h : ByteL l) {i : Int} (h0 : 0 ≤ i) (h1 : i < l.length) : 0 ≤ rd l i ∧ rd l i ≤ 255 := by
  obtain ⟨j, rfl⟩ : ∃ j : Nat, i = (j : Int) := ⟨i.toNat, by omega⟩
  rw [rd_nat, getD_lt (show j < l.length by omega)]
  exact h.bd _ (List.getElem_mem _)
theorem and255 (x : Int) : 0 ≤ Go.bits .and .u64 x 255 ∧ Go.bits .and .u64 x 255 ≤ 255 := by
  have e : Go.bits .and .u64 x 255 = IntKind.u64.wrap ((BitVec.ofInt 64 x &&& BitVec.ofInt 64 255).toNat : Int) := rfl
  have h : (BitVec.ofInt 64 x &&& BitVec.ofInt 64 255).toNat ≤ 255 := by
    rw [BitVec.toNat_and]; exact Nat.and_le_right
  rw [e, IntKind.wrap_u64]
  omega
theorem w255 {x : Int} (h : 0 ≤ x ∧ x ≤ 255) : wrap64 x = x := w64 (by omega) (by omega)
theorem next_t {l : List Int} (hl : ByteL l) (a s : Int) (h0 : 0 ≤ a) (h1 : a ≤ 2000000000000) : ∃ v s', spec_l1Cur_next.f l a s = some (v, a + 1, s') ∧ 0 ≤ v ∧ v ≤ 255 := by
  unfold spec_l1Cur_next.f
  rw [show wrap64 (a + 1) = a + 1 from w64 (by omega) (by omega)]
  by_cases c : a < (l.length : Int)
  · rw [if_pos c, if_pos h0, if_pos (by omega)]
    have := rd_byte hl h0 c
    exact ⟨_, _, rfl, by rw [w255 this]; exact this.1, by rw [w255 this]; exact this.2⟩
  · rw [if_neg c, if_neg (by omega)]
    refine ⟨_, _, rfl, ?_, ?_⟩
    · rw [w255 (and255 _)]; exact (and255 _).1
    · rw [w255 (and255 _)]; exact (and255 _).2
theorem pick_t {l : List Int} (hl : ByteL l) (a s n : Int) (hn : 1 ≤ n) (h0 : 0 ≤ a) (h1 : a ≤ 1000000000000) : ∃ r a' s', spec_l1Cur_pick.f l a s n = some (r, a', s') ∧ 0 ≤ r ∧ r < n ∧ a ≤ a' ∧ a' ≤ a + 3 := by
  unfold spec_l1Cur_pick.f
  by_cases c : n ≤ 1
  · rw [if_pos c]
    exact ⟨0, a, s, rfl, by omega, by omega, by omega, by omega⟩
  rw [if_neg c]
  have nz : ¬ n = 0 := by omega
  obtain ⟨v, s1, e1, v0, v1⟩ := next_t hl a s h0 (by omega)
  rw [e1, Option.bind_some]
  have fin : ∀ x : Int, 0 ≤ x → 0 ≤ Int.tmod x n ∧ Int.tmod x n < n := fun x hx => ⟨Int.tmod_nonneg _ hx, Int.tmod_lt_of_pos _ (by omega)⟩
  by_cases c2 : n > 200
  · rw [if_pos c2]
    obtain ⟨u, s2, e2, u0, u1⟩ := next_t hl (a + 1) s1 (by omega) (by omega)
    simp only [e2, Option.bind_some]
    rw [w64 (n := v * 256) (by omega) (by omega), w64 (n := v * 256 + u) (by omega) (by omega)]
    by_cases c3 : n > 50000
    · rw [if_pos c3]
      obtain ⟨t, s3, e3, t0, t1⟩ := next_t hl (a + 1 + 1) s2 (by omega) (by omega)
      simp only [e3, Option.bind_some]
      rw [if_neg nz, w64 (n := (v * 256 + u) * 256) (by omega) (by omega), w64 (n := (v * 256 + u) * 256 + t) (by omega) (by omega)]
      exact ⟨_, _, _, rfl, (fin _ (by omega)).1, (fin _ (by omega)).2, by omega, by omega⟩
    · rw [if_neg c3, if_neg nz]
      exact ⟨_, _, _, rfl, (fin _ (by omega)).1, (fin _ (by omega)).2, by omega, by omega⟩
  · rw [if_neg c2, if_neg (by omega), if_neg nz]
    exact ⟨_, a + 1, s1, rfl, (fin _ (by omega)).1, (fin _ (by omega)).2, by omega, by omega⟩
abbrev FT := Int × Int × Int × Int × Int × Int × Int × List Int
def BoP (F : FT → Prop) (f g : Nat → Option FT) : Prop := ∃ r : FT, F r ∧ Ev f r ∧ Ev g r
theorem BoP.step {F G : FT → Prop} {f f' g g' : Nat → Option FT} (h : BoP F f g) (hF : ∀ r, F r → G r) (hf : ∀ r, Ev f r → Ev f' r) (hg : ∀ r, Ev g r → Ev g' r) : BoP G f' g' := by
  obtain ⟨r, h0, h1, h2⟩ := h
  exact ⟨r, hF r h0, hf r h1, hg r h2⟩
/-! ### the guards -/
theorem side1 (a : Int) : impl_goodSide.f a = some (decide (1 ≤ a ∧ a ≤ 512)) := by
  unfold impl_goodSide.f
  by_cases c : a ≥ 1
  · rw [if_pos c]; simp [show 1 ≤ a from c]
  · rw [if_neg c]; simp [show ¬ 1 ≤ a from c]
theorem impl_sides (w h : Int) : impl_goodSides.f w h = some (decide ((1 ≤ w ∧ w ≤ 512) ∧ (1 ≤ h ∧ h ≤ 512) ∧ wrap64 (w * h) ≤ 4096)) := by
  unfold impl_goodSides.f
  rw [side1, side1, Option.bind_some, Option.bind_some]
  by_cases c : 1 ≤ w ∧ w ≤ 512
  · by_cases d : 1 ≤ h ∧ h ≤ 512
    · simp [c, d]
    · simp [c, d]
  · simp [c]
theorem spec_sides (w h : Int) : spec_l4Sides.f w h = some (decide ((1 ≤ w ∧ w ≤ 512) ∧ (1 ≤ h ∧ h ≤ 512))) := by
  unfold spec_l4Sides.f
  by_cases c : w ≥ 1
  · rw [if_pos c]
    by_cases d : w ≤ 512
    · rw [if_pos d]
      by_cases e : h ≥ 1
      · rw [if_pos e]; simp [show 1 ≤ w from c, d, show 1 ≤ h from e]
      · rw [if_neg e]; simp [show ¬ 1 ≤ h from e]
    · rw [if_neg d]; simp [d]
  · rw [if_neg c]; simp [show ¬ 1 ≤ w from c]
theorem screen (l : List Int) (n : Int) (hl : l.length ≤ 1048576) : ∃ q : Bool, Ev (fun k => impl_goodScreen.f k l n) q ∧ Ev (fun k => spec_l6Screen.f k n l) q ∧ (q = true → (∀ y ∈ l, -1 ≤ y ∧ y ≤ 255) ∧ (l.length : Int) = n) := by
  have main := down (n := l.length) (P := fun i => ∃ q : Bool, Ev (fun k => impl_goodScreen.l0 k l n l (l.length : Int) (i : Int)) q ∧ Ev (fun k => spec_l6Screen.l0 k n l l (l.length : Int) (i : Int)) q ∧ (q = true → (∀ y ∈ l.drop i, -1 ≤ y ∧ y ≤ 255) ∧ (l.length : Int) = n)) ?_ ?_
  · obtain ⟨q, h1, h2, h3⟩ := main
    exact ⟨q, h1, h2, h3⟩
  · refine ⟨(l.length : Int) == n, Ev.step (fun _ => rfl) (evneg (by omega) (Ev.now _)), Ev.step (fun _ => rfl) (evneg (by omega) (Ev.now _)), fun h => ⟨?_, beq_iff_eq.1 h⟩⟩
    rw [List.drop_length]
    exact fun y hy => by cases hy
  · intro i hi ⟨q, h1, h2, h3⟩
    have er : rd l (i : Int) = l[i] := by rw [rd_nat, getD_lt hi]
    by_cases c : l[i] < -1
    · refine ⟨false, Ev.step (fun _ => rfl) (evpos (by omega) (evpos (by omega) (evpos (by omega) ?_))), Ev.step (fun _ => rfl) (evpos (by omega) (evpos (by omega) (evpos (by omega) ?_))), (fun h => by cases h)⟩
      · rw [er]; exact evpos c (Ev.now _)
      · rw [er]; exact evpos c (Ev.now _)
    · by_cases d : l[i] > 255
      · refine ⟨false, Ev.step (fun _ => rfl) (evpos (by omega) (evpos (by omega) (evpos (by omega) ?_))), Ev.step (fun _ => rfl) (evpos (by omega) (evpos (by omega) (evpos (by omega) ?_))), (fun h => by cases h)⟩
        · rw [er]; exact evneg c (evpos d (Ev.now _))
        · rw [er]; exact evneg c (evpos d (Ev.now _))
      · refine ⟨q, Ev.step (fun _ => rfl) (evpos (by omega) (evpos (by omega) (evpos (by omega) ?_))), Ev.step (fun _ => rfl) (evpos (by omega) (evpos (by omega) (evpos (by omega) ?_))), fun h => ⟨?_, (h3 h).2⟩⟩
        · rw [er, w64s (by omega)]; exact evneg c (evneg d h1)
        · rw [er, w64s (by omega)]; exact evneg c (evneg d h2)
        · rw [List.drop_eq_getElem_cons hi]
          intro y hy
          rcases List.mem_cons.1 hy with rfl | hy
          · omega
          · exact (h3 h).1 y hy
/-! ### the colour that stands for nothing -/
def fd (u : List Bool) : Nat → Int → Int
  | 0, h => h
  | n + 1, h => fd u n (if u.getD n false = true then h else (n : Int))
theorem fd_all (u : List Bool) : ∀ (n : Nat) (h : Int), (∀ i, i < n → u.getD i false = true) → fd u n h = h
  | 0, _, _ => rfl
  | n + 1, h, ha => by
    show fd u n _ = h
    rw [if_pos (ha n (by omega))]
    exact fd_all u n h (fun i hi => ha i (by omega))
theorem fd_at (u : List Bool) (c : Nat) (hc : ¬ u.getD c false = true) (ha : ∀ i, i < c → u.getD i false = true) : ∀ (n : Nat) (h : Int), c < n → fd u n h = (c : Int)
  | 0, _, hn => absurd hn (by omega)
  | n + 1, h, hn => by
    show fd u n _ = _
    by_cases e : n = c
    · subst e
      rw [if_neg hc]
      exact fd_all u n _ ha
    · exact fd_at u c hc ha n _ (by omega)
theorem rdB (u : List Bool) (i : Nat) : rdOf false u (i : Int) = u.getD i false := by simp [rdOf]
theorem s3 {u : List Bool} (hu : u.length = 256) {f0 f1 f2 f3 f4 f5 : Int} {p : List Int} {r : FT} : ∀ (n : Nat) (h : Int), n ≤ 256 → Ev (fun k => spec_Between.l4 k (p.length : Int) 0 f0 f1 f2 f3 f4 f5 (fd u n h) p) r → Ev (fun k => spec_Between.l3 k u ((n : Int) - 1) f0 f1 f2 f3 f4 f5 h p) r
  | 0, _, _, e => Ev.step (fun _ => rfl) (evneg (by omega) e)
  | n + 1, h, hn, e => by
    have e' : Ev (fun k => spec_Between.l4 k (p.length : Int) 0 f0 f1 f2 f3 f4 f5 (fd u n (if u.getD n false = true then h else (n : Int))) p) r := e
    rw [show ((n + 1 : Nat) : Int) - 1 = (n : Int) by omega]
    have ew : wrap64 ((n : Int) - 1) = (n : Int) - 1 := w64 (by omega) (by omega)
    refine Ev.step (fun _ => rfl) (evpos (by omega) (evpos (by omega) (evpos (by omega) ?_)))
    rw [rdB, ew]
    by_cases c : u.getD n false = true
    · rw [if_pos c] at e'
      exact evpos c (s3 hu n _ (by omega) e')
    · rw [if_neg c] at e'
      exact evneg c (s3 hu n _ (by omega) e')
theorem i3 {u : List Bool} {b : Bool} {f0 f1 f2 f3 f4 f5 : Int} {p : List Int} {r : FT} (h : Ev (fun k => impl_Between.j6 k f0 f1 f2 f3 f4 f5 (fd u 256 (-1)) p) r) : Ev (fun k => impl_Between.l3 k (b :: u) 0 f0 f1 f2 f3 f4 f5 (-1) p) r := by
  have main := down (n := 256) (P := fun c => (∀ i, i < c → u.getD i false = true) → Ev (fun k => impl_Between.l3 k (b :: u) (c : Int) f0 f1 f2 f3 f4 f5 (-1) p) r) ?_ ?_
  · exact main (fun i hi => absurd hi (by omega))
  · intro ha
    rw [fd_all u 256 _ ha] at h
    generalize hN : ((256 : Nat) : Int) = N
    exact Ev.step (fun _ => rfl) (evneg (by omega) h)
  · intro c hc ih ha
    have ew : wrap64 ((c : Int) + 1) = ((c + 1 : Nat) : Int) := w64s (by omega)
    have eg : (b :: u).getD (c + 1) false = u.getD c false := by simp
    refine Ev.step (fun _ => rfl) (evpos (by omega) (evpos (by rw [ew]; omega) (evpos (by rw [ew]; omega) ?_)))
    rw [ew, rdB, eg]
    by_cases d : u.getD c false = true
    · refine evpos d (ih fun i hi => ?_)
      by_cases e : i = c
      · subst e; exact d
      · exact ha i (by omega)
    · rw [fd_at u c d ha 256 _ hc] at h
      exact evneg d h
theorem fd_not (u : List Bool) : ∀ (n : Nat) (h : Int), fd u n h = h ∨ ∃ c : Nat, fd u n h = (c : Int) ∧ ¬ u.getD c false = true
  | 0, _ => Or.inl rfl
  | n + 1, h => by
    show fd u n _ = h ∨ ∃ c : Nat, fd u n _ = (c : Int) ∧ ¬ u.getD c false = true
    by_cases e : u.getD n false = true
    · rw [if_pos e]; exact fd_not u n h
    · rw [if_neg e]
      rcases fd_not u n (n : Int) with q | q
      · exact Or.inr ⟨n, q, e⟩
      · exact Or.inr q
theorem rd_set_ne (q : List Int) {i j : Nat} (v : Int) (h : i ≠ j) : rd (q.set i v) (j : Int) = rd q (j : Int) := by
  rw [rd_nat, rd_nat]; simp [List.getD_eq_getElem?_getD, List.getElem?_set_ne h]
theorem rd_set_eq (q : List Int) {i : Nat} (v : Int) (h : i < q.length) : rd (q.set i v) (i : Int) = v := by
  rw [rd_nat, set_getD h]
theorem rd_app_l (p : List Int) (v : Int) {j : Nat} (h : j < p.length) : rd (p ++ [v]) (j : Int) = rd p (j : Int) := by
  rw [rd_nat, rd_nat]; simp [List.getD_eq_getElem?_getD, List.getElem?_append_left h]
theorem rd_app_r (p : List Int) (v : Int) : rd (p ++ [v]) (p.length : Int) = v := by
  rw [rd_nat]; simp [List.getD_eq_getElem?_getD]
theorem rd_mem (p : List Int) {j : Nat} (h : j < p.length) : rd p (j : Int) ∈ p := by
  rw [rd_nat, getD_lt h]; exact List.getElem_mem h
/-- What the end makes of the copied cells: the hole's colour stands in the place of those that stand for nothing, and nowhere else. -/
def Fin (f0 f1 f2 f3 : Int) (p : List Int) (r : FT) : Prop :=
  r.1 = f0 ∧ r.2.1 = f1 ∧ r.2.2.1 = f2 ∧ r.2.2.2.1 = f3 ∧ r.2.2.2.2.2.2.2.length = p.length ∧ ∀ j : Nat, j < p.length → 0 ≤ rd p (j : Int) → rd r.2.2.2.2.2.2.2 (j : Int) = rd p (j : Int) ∧ rd p (j : Int) ≠ r.2.2.2.2.2.2.1
def PI (u : List Bool) (b : Bool) (p : List Int) : Prop := ∀ y ∈ p, (0 ≤ y → u.getD y.toNat false = true) ∧ (b = false → 0 ≤ y)
def ix (W w x0 y0 : Int) (j : Nat) : Int := (y0 + (j : Int) / W) * w + x0 + (j : Int) % W
def PA (W w x0 y0 : Int) (A p : List Int) : Prop := ∀ j : Nat, j < p.length → rd p (j : Int) = rd A (ix W w x0 y0 j)
def G (w x0 y0 W H : Int) (A : List Int) (r : FT) : Prop := ∃ p : List Int, Fin x0 y0 W H p r ∧ (p.length : Int) = H * W ∧ p.length ≤ 262144 ∧ PA W w x0 y0 A p
theorem ix_at {W w x0 y0 s t : Int} {n : Nat} (h0 : 0 ≤ t) (h1 : t < W) (hn : (n : Int) = s * W + t) : ix W w x0 y0 n = (y0 + s) * w + x0 + t := by
  have := (Int.ediv_emod_unique (a := (n : Int)) (b := W) (r := t) (q := s) (by omega)).2 ⟨by rw [hn, Int.mul_comm W s, Int.add_comm], h0, h1⟩
  unfold ix
  rw [this.1, this.2]
theorem l4_both (f0 f1 f2 f3 f4 f5 f6 : Int) (p : List Int) (hp : p.length ≤ 262144) (hh : ∀ j : Nat, j < p.length → 0 ≤ rd p (j : Int) → rd p (j : Int) ≠ f6) : BoP (Fin f0 f1 f2 f3 p) (fun k => spec_Between.l4 k (p.length : Int) 0 f0 f1 f2 f3 f4 f5 f6 p) (fun k => impl_Between.l4 k (p.length : Int) 0 f0 f1 f2 f3 f4 f5 f6 p) := by
  have main := down (n := p.length) (P := fun i => ∀ q : List Int, q.length = p.length → (∀ j : Nat, j < p.length → 0 ≤ rd p (j : Int) → rd q (j : Int) = rd p (j : Int)) → BoP (Fin f0 f1 f2 f3 p) (fun k => spec_Between.l4 k (p.length : Int) (i : Int) f0 f1 f2 f3 f4 f5 f6 q) (fun k => impl_Between.l4 k (p.length : Int) (i : Int) f0 f1 f2 f3 f4 f5 f6 q)) ?_ ?_
  · exact main p rfl (fun _ _ _ => rfl)
  · intro q hq hk
    exact ⟨(f0, f1, f2, f3, f4, f5, f6, q), ⟨rfl, rfl, rfl, rfl, hq, fun j hj h0 => ⟨hk j hj h0, hh j hj h0⟩⟩, Ev.step (fun _ => rfl) (evneg (by omega) (Ev.now _)), Ev.step (fun _ => rfl) (evneg (by omega) (Ev.now _))⟩
  · intro i hi ih q hq hk
    have ew : wrap64 ((i : Int) + 1) = ((i + 1 : Nat) : Int) := w64s (by omega)
    by_cases c : rd q (i : Int) < 0
    · refine (ih (q.set (i : Int).toNat f6) (by rw [List.length_set]; exact hq) (fun j hj h0 => ?_)).step (fun _ h => h) (fun r e => Ev.step (fun _ => rfl) (evpos (by omega) (evpos (by omega) (evpos (by omega) (evpos c ?_))))) (fun r e => Ev.step (fun _ => rfl) (evpos (by omega) (evpos (by omega) (evpos (by omega) (evpos c ?_)))))
      · rw [Int.toNat_natCast, rd_set_ne q f6 (fun h => ?_)]
        · exact hk j hj h0
        · subst h
          rw [hk i hj h0] at c
          omega
      · rw [ew]; exact e
      · rw [ew]; exact e
    · refine (ih q hq hk).step (fun _ h => h) (fun r e => Ev.step (fun _ => rfl) (evpos (by omega) (evpos (by omega) (evpos (by omega) (evneg c ?_))))) (fun r e => Ev.step (fun _ => rfl) (evpos (by omega) (evpos (by omega) (evpos (by omega) (evneg c ?_)))))
      · rw [ew]; exact e
      · rw [ew]; exact e
theorem fin_both {w x0 x1 y1 y f0 f1 f2 f3 f4 f5 : Int} {A p : List Int} {u : List Bool} (b : Bool) (hy : ¬ y ≤ y1) (hu : u.length = 256) (hp : p.length ≤ 262144) (hI : PI u b p) :
    BoP (Fin f0 f1 f2 f3 p) (fun k => spec_Between.l1 k w A x0 x1 y1 u b y f0 f1 f2 f3 f4 f5 (-1) p) (fun k => impl_Between.l1 k w A x0 x1 y1 (b :: u) y f0 f1 f2 f3 f4 f5 (-1) p) := by
  by_cases hb : b = true
  · refine (l4_both f0 f1 f2 f3 f4 f5 (fd u 256 (-1)) p hp ?_).step (fun _ h => h) (fun r e => Ev.step (fun _ => rfl) (evneg hy (evpos hb (s3 hu 256 (-1) (Nat.le_refl _) e)))) (fun r e => Ev.step (fun _ => rfl) (evneg hy ?_))
    · intro j hj h0 he
      have h1 := (hI _ (rd_mem p hj)).1 h0
      rcases fd_not u 256 (-1) with q | ⟨c, q, hc⟩
      · omega
      · rw [he, q, Int.toNat_natCast] at h1
        exact hc h1
    · exact evpos (show rdOf false (b :: u) 0 = true by simpa [rdOf] using hb) (i3 (Ev.step (fun _ => rfl) e))
  · have hb' : b = false := by cases b <;> simp_all
    exact ⟨(f0, f1, f2, f3, f4, f5, -1, p), ⟨rfl, rfl, rfl, rfl, rfl, fun j hj h0 => ⟨rfl, fun h => by have : rd p (j : Int) = -1 := h
                                                                                                       omega⟩⟩, Ev.step (fun _ => rfl) (evneg hy (evneg hb (Ev.now _))), Ev.step (fun _ => rfl) (evneg hy (evneg (show ¬ rdOf false (b :: u) 0 = true by simpa [rdOf] using hb) (Ev.now _)))⟩
theorem PI_neg {u : List Bool} {b : Bool} {p : List Int} {v : Int} (h : PI u b p) (hv : v < 0) : PI u true (p ++ [v]) := by
  intro y hy
  refine ⟨fun h0 => ?_, fun h => by cases h⟩
  rcases List.mem_append.1 hy with hy | hy
  · exact (h y hy).1 h0
  · obtain rfl := List.mem_singleton.1 hy
    omega
theorem PI_pos {u : List Bool} {b : Bool} {p : List Int} {q : Nat} (h : PI u b p) (hq : q < u.length) : PI (u.set q true) b (p ++ [(q : Int)]) := by
  have mono : ∀ t : Nat, u.getD t false = true → (u.set q true).getD t false = true := by
    intro t ht
    by_cases e : q = t
    · subst e; rw [set_getD hq]
    · simpa [List.getD_eq_getElem?_getD, List.getElem?_set_ne e] using ht
  intro y hy
  rcases List.mem_append.1 hy with hy | hy
  · exact ⟨fun h0 => mono _ ((h y hy).1 h0), (h y hy).2⟩
  · obtain rfl := List.mem_singleton.1 hy
    refine ⟨fun _ => ?_, fun _ => by omega⟩
    rw [Int.toNat_natCast, set_getD hq]
theorem PA_app {W w x0 y0 : Int} {A p : List Int} {v : Int} (h : PA W w x0 y0 A p) (hv : v = rd A (ix W w x0 y0 p.length)) : PA W w x0 y0 A (p ++ [v]) := by
  intro j hj
  rw [List.length_append] at hj
  by_cases e : j = p.length
  · subst e; rw [rd_app_r]; exact hv
  · have hj' : j < p.length := by
      simp only [List.length_cons, List.length_nil] at hj
      omega
    rw [rd_app_l p v hj']; exact h j hj'
/-! ### the rows -/
theorem idx {w h y x : Int} (hw : 1 ≤ w) (hN : w * h ≤ 4096) (hy : 0 ≤ y) (hy1 : y ≤ h - 1) (hx : 0 ≤ x) (hx1 : x ≤ w - 1) : wrap64 (wrap64 (y * w) + x) = y * w + x ∧ 0 ≤ y * w + x ∧ y * w + x < w * h := by
  have a : 0 ≤ y * w := Int.mul_nonneg hy (by omega)
  have b : y * w ≤ (h - 1) * w := Int.mul_le_mul_of_nonneg_right hy1 (by omega)
  have c : (h - 1) * w = w * h - w := by rw [Int.sub_mul, Int.one_mul, Int.mul_comm]
  rw [c] at b
  have e : wrap64 (y * w) = y * w := w64 (by omega) (by omega)
  rw [e]
  exact ⟨w64 (by omega) (by omega), by omega, by omega⟩
theorem rows_both {w h : Int} (hw : 1 ≤ w ∧ w ≤ 512) (hh : h ≤ 512) (hN : w * h ≤ 4096) {A : List Int} (hA : (A.length : Int) = w * h) (hv : ∀ y ∈ A, -1 ≤ y ∧ y ≤ 255) {x0 y0 x1 y1 W H f4 f5 : Int} (hx0 : 0 ≤ x0) (hxx : x0 ≤ x1) (hy0 : 0 ≤ y0) (hx1 : x1 ≤ w - 1) (hy1 : y1 ≤ h - 1) (hW : W = x1 - x0 + 1) (hH : H = y1 - y0 + 1) :
    ∀ (m : Nat) (y : Int) (u : List Bool) (b : Bool) (p : List Int), y1 - y + 1 ≤ m → y0 ≤ y → y ≤ y1 + 1 → p.length + 512 * m ≤ 262144 → u.length = 256 → (p.length : Int) = (y - y0) * W → PA W w x0 y0 A p → PI u b p → BoP (G w x0 y0 W H A) (fun k => spec_Between.l1 k w A x0 x1 y1 u b y x0 y0 W H f4 f5 (-1) p) (fun k => impl_Between.l1 k w A x0 x1 y1 (b :: u) y x0 y0 W H f4 f5 (-1) p) := by
  intro m
  have last : ∀ (y : Int) (u : List Bool) (b : Bool) (p : List Int), ¬ y ≤ y1 → y ≤ y1 + 1 → p.length ≤ 262144 → u.length = 256 → (p.length : Int) = (y - y0) * W → PA W w x0 y0 A p → PI u b p → BoP (G w x0 y0 W H A) (fun k => spec_Between.l1 k w A x0 x1 y1 u b y x0 y0 W H f4 f5 (-1) p) (fun k => impl_Between.l1 k w A x0 x1 y1 (b :: u) y x0 y0 W H f4 f5 (-1) p) := by
    intro y u b p hy hy' hp hu hl hP hI
    refine (fin_both b hy hu hp hI).step (fun r hF => ⟨p, hF, ?_, hp, hP⟩) (fun _ e => e) (fun _ e => e)
    rw [hl, show y - y0 = H by omega]
  induction m with
  | zero => intro y u b p hm hy0' hy' hp hu hl hP hI; exact last y u b p (by omega) hy' (by omega) hu hl hP hI
  | succ m ih =>
    intro y u b p hm hy hy' hp hu hl hP hI
    by_cases c : y ≤ y1
    · have inner : ∀ (j : Nat) (x : Int) (u : List Bool) (b : Bool) (p : List Int), x1 - x + 1 ≤ j → x0 ≤ x → x ≤ x1 + 1 → p.length + j + 512 * m ≤ 262144 → u.length = 256 → (p.length : Int) = (y - y0) * W + (x - x0) → PA W w x0 y0 A p → PI u b p → BoP (G w x0 y0 W H A) (fun k => spec_Between.l2 k w A x0 x1 y1 u b y x x0 y0 W H f4 f5 (-1) p) (fun k => impl_Between.l2 k w A x0 x1 y1 (b :: u) y x x0 y0 W H f4 f5 (-1) p) := by
        have ey : wrap64 (y + 1) = y + 1 := w64 (by omega) (by omega)
        have done : ∀ (x : Int) (u : List Bool) (b : Bool) (p : List Int), ¬ x ≤ x1 → x ≤ x1 + 1 → p.length + 512 * m ≤ 262144 → u.length = 256 → (p.length : Int) = (y - y0) * W + (x - x0) → PA W w x0 y0 A p → PI u b p → BoP (G w x0 y0 W H A) (fun k => spec_Between.l2 k w A x0 x1 y1 u b y x x0 y0 W H f4 f5 (-1) p) (fun k => impl_Between.l2 k w A x0 x1 y1 (b :: u) y x x0 y0 W H f4 f5 (-1) p) := by
          intro x u b p hx hx' hp hu hl hP hI
          refine (ih (y + 1) u b p (by omega) (by omega) (by omega) hp hu ?_ hP hI).step (fun _ h => h) (fun r e => Ev.step (fun _ => rfl) (evneg hx ?_)) (fun r e => Ev.step (fun _ => rfl) (evneg hx ?_))
          · rw [hl, show y + 1 - y0 = (y - y0) + 1 by omega, Int.add_mul, Int.one_mul, show x - x0 = W by omega]
          · rw [ey]; exact e
          · rw [ey]; exact e
        intro j
        induction j with
        | zero => intro x u b p hj hx hx' hp hu hl hP hI; exact done x u b p (by omega) hx' (by omega) hu hl hP hI
        | succ j jh =>
          intro x u b p hj hx hx' hp hu hl hP hI
          by_cases d : x ≤ x1
          · obtain ⟨e1, e2, e3⟩ := idx (x := x) hw.1 hN (show 0 ≤ y by omega) (by omega) (show 0 ≤ x by omega) (by omega)
            have ex : wrap64 (x + 1) = x + 1 := w64 (by omega) (by omega)
            have hix : ix W w x0 y0 p.length = y * w + x := by
              rw [ix_at (s := y - y0) (t := x - x0) (by omega) (by omega) hl, show y0 + (y - y0) = y by omega]
              omega
            obtain ⟨n, hn⟩ : ∃ n : Nat, y * w + x = (n : Int) := ⟨(y * w + x).toNat, by omega⟩
            rw [hn] at e1 e2 e3 hix
            have hnA : n < A.length := by omega
            have er : rd A (n : Int) = A[n] := by rw [rd_nat, getD_lt hnA]
            have hb := hv _ (List.getElem_mem hnA)
            generalize A[n] = v at er hb
            have hap : (p ++ [v]).length = p.length + 1 := by rw [List.length_append]; rfl
            have hl' : ((p ++ [v]).length : Int) = (y - y0) * W + (x + 1 - x0) := by rw [hap]; generalize (y - y0) * W = z at hl; omega
            have hP' : PA W w x0 y0 A (p ++ [v]) := PA_app hP (by rw [hix]; exact er.symm)
            have ew : wrap64 (v + 1) = v + 1 := w64 (by omega) (by omega)
            by_cases f : v < 0
            · have hv1 : v = -1 := by omega
              refine (jh (x + 1) u true (p ++ [v]) (by omega) (by omega) (by omega) (by omega) hu hl' hP' (PI_neg hI f)).step (fun _ h => h) (fun r e => Ev.step (fun _ => rfl) (evpos d ?_)) (fun r e => Ev.step (fun _ => rfl) (evpos d ?_))
              · rw [e1, er, ex]
                exact evpos e2 (evpos (by omega) (evpos f (evpos (by omega) e)))
              · rw [e1, er, ex, ew]
                refine evpos e2 (evpos (by omega) (evpos (by omega) (evpos (by omega) (evpos (by omega) ?_))))
                rw [show (v + 1).toNat = 0 by omega]
                exact e
            · obtain ⟨q, hq⟩ : ∃ q : Nat, v = (q : Int) := ⟨v.toNat, by omega⟩
              have hI' : PI (u.set q true) b (p ++ [v]) := by rw [hq]; exact PI_pos hI (by omega)
              refine (jh (x + 1) (u.set q true) b (p ++ [v]) (by omega) (by omega) (by omega) (by omega) (by rw [List.length_set]; exact hu) hl' hP' hI').step (fun _ h => h) (fun r e => Ev.step (fun _ => rfl) (evpos d ?_)) (fun r e => Ev.step (fun _ => rfl) (evpos d ?_))
              · rw [e1, er, ex]
                refine evpos e2 (evpos (by omega) (evneg f (evpos (by omega) (evpos (by omega) (evpos (by omega) ?_)))))
                rw [show v.toNat = q by omega]
                exact e
              · rw [e1, er, ex, ew]
                refine evpos e2 (evpos (by omega) (evpos (by omega) (evpos (by omega) (evpos (by omega) ?_))))
                rw [show (v + 1).toNat = q + 1 by omega]
                exact e
          · exact done x u b p d hx' (by omega) hu hl hP hI
      exact (inner 512 x0 u b p (by omega) (Int.le_refl _) (by omega) (by omega) hu (by rw [hl]; omega) hP hI).step (fun _ h => h) (fun r e => Ev.step (fun _ => rfl) (evpos c e)) (fun r e => Ev.step (fun _ => rfl) (evpos c e))
    · exact last y u b p c hy' (by omega) hu hl hP hI
theorem box_both {w h : Int} (hw : 1 ≤ w ∧ w ≤ 512) (hh : h ≤ 512) (hN : w * h ≤ 4096) {A : List Int} (hA : (A.length : Int) = w * h) (hv : ∀ y ∈ A, -1 ≤ y ∧ y ≤ 255) {x0 y0 x1 y1 : Int} (hx0 : 0 ≤ x0) (hxx : x0 ≤ x1) (hy0 : 0 ≤ y0) (hyy : y0 ≤ y1) (hx1 : x1 ≤ w - 1) (hy1 : y1 ≤ h - 1) :
    BoP (G w x0 y0 (x1 - x0 + 1) (y1 - y0 + 1) A) (fun k => spec_Between.j4 k w A x0 y0 x1 y1) (fun k => impl_Between.j2 k w A x0 y0 x1 y1) := by
  have er : List.replicate 257 false = false :: List.replicate 256 false := List.replicate_succ
  have hk : 256 ≤ 281474976710656 := by omega
  have eW : wrap64 (wrap64 (x1 - x0) + 1) = x1 - x0 + 1 := by rw [w64 (n := x1 - x0) (by omega) (by omega), w64 (by omega) (by omega)]
  have eH : wrap64 (wrap64 (y1 - y0) + 1) = y1 - y0 + 1 := by rw [w64 (n := y1 - y0) (by omega) (by omega), w64 (by omega) (by omega)]
  refine (rows_both (f4 := 0) (f5 := 0) hw hh hN hA hv hx0 hxx hy0 hx1 hy1 rfl rfl 512 y0 (List.replicate 256 false) false [] (by omega) (Int.le_refl _) (by omega) (Nat.le_refl _) List.length_replicate (by rw [Int.sub_self, Int.zero_mul]; rfl) (fun j hj => absurd hj (Nat.not_lt_zero j)) (fun y hy => by cases hy)).step (fun _ h => h) (fun r e => ?_) (fun r e => ?_)
  · rw [← eW, ← eH] at e
    exact Ev.step (fun k => by first | (simp only [spec_Between.j4]; done) | (simp only [spec_Between.j4]; exact if_pos hk)) e
  · rw [← er, ← eW, ← eH] at e
    exact Ev.step (fun _ => rfl) e
/-! ### the scan -/
theorem s_j3 {w x9 x10 x11 x12 u n i : Int} {B A : List Int} {r : FT} (h : Ev (fun k => spec_Between.l0 k w B A x9 (mn x10 u) x11 (mx x12 u) n (wrap64 (i + 1))) r) : Ev (fun k => spec_Between.j3 k w B A x9 x10 x11 x12 u n i) r := by
  by_cases c : u < x10
  · rw [show mn x10 u = u from if_pos c] at h
    by_cases d : u > x12
    · rw [show mx x12 u = u from if_pos d] at h
      exact Ev.step (fun _ => rfl) (evpos c (evpos d h))
    · rw [show mx x12 u = x12 from if_neg d] at h
      exact Ev.step (fun _ => rfl) (evpos c (evneg d h))
  · rw [show mn x10 u = x10 from if_neg c] at h
    by_cases d : u > x12
    · rw [show mx x12 u = u from if_pos d] at h
      exact Ev.step (fun _ => rfl) (evneg c (evpos d h))
    · rw [show mx x12 u = x12 from if_neg d] at h
      exact Ev.step (fun _ => rfl) (evneg c (evneg d h))
theorem s_j2 {w x9 x10 x11 x12 t u n i : Int} {B A : List Int} {r : FT} (h : Ev (fun k => spec_Between.l0 k w B A x9 (mn x10 u) (mx x11 t) (mx x12 u) n (wrap64 (i + 1))) r) : Ev (fun k => spec_Between.j2 k w B A x9 x10 x11 x12 t u n i) r := by
  by_cases c : t > x11
  · rw [show mx x11 t = t from if_pos c] at h
    exact Ev.step (fun _ => rfl) (evpos c (s_j3 h))
  · rw [show mx x11 t = x11 from if_neg c] at h
    exact Ev.step (fun _ => rfl) (evneg c (s_j3 h))
theorem mn_le {a b lo : Int} (h1 : lo ≤ a) (h2 : lo ≤ b) : lo ≤ mn a b := by unfold mn; split <;> assumption
theorem mx_le {a b hi : Int} (h1 : a ≤ hi) (h2 : b ≤ hi) : mx a b ≤ hi := by unfold mx; split <;> assumption
theorem tq {w h : Int} {i : Nat} (hw : 1 ≤ w) (hh : h ≤ 512) (hi : (i : Int) < w * h) : (0 ≤ Int.tmod (i : Int) w ∧ Int.tmod (i : Int) w ≤ w - 1) ∧ (0 ≤ wrap64 (Int.tdiv (i : Int) w) ∧ wrap64 (Int.tdiv (i : Int) w) ≤ h - 1) := by
  obtain ⟨wn, rfl⟩ : ∃ wn : Nat, w = (wn : Int) := ⟨w.toNat, by omega⟩
  have h0 : 0 < wn := by omega
  have hp : 0 ≤ h := by
    rcases Int.lt_or_le h 0 with q | q
    · have := Int.mul_nonpos_of_nonneg_of_nonpos (Int.natCast_nonneg wn) (Int.le_of_lt q)
      exact absurd hi (Int.not_lt.2 (Int.le_trans this (Int.natCast_nonneg i)))
    · exact q
  obtain ⟨hn, rfl⟩ : ∃ hn : Nat, h = (hn : Int) := ⟨h.toNat, by omega⟩
  have hlt : i < wn * hn := by exact_mod_cast hi
  clear hi
  have hm := Nat.mod_lt i h0
  have hd : i / wn < hn := Nat.div_lt_of_lt_mul hlt
  clear hlt
  rw [← Int.ofNat_tmod, ← Int.ofNat_tdiv]
  generalize i % wn = a at hm
  generalize i / wn = b at hd
  rw [w64 (by omega) (by omega)]
  omega
theorem mn_l (a b : Int) : mn a b ≤ a ∧ mn a b ≤ b := by unfold mn; split <;> omega
theorem mx_l (a b : Int) : a ≤ mx a b ∧ b ≤ mx a b := by unfold mx; split <;> omega
/-- Every place where the screens differ lies in the box. -/
def In (w x0 y0 x1 y1 : Int) (i : Nat) : Prop := x0 ≤ (i : Int) % w ∧ (i : Int) % w ≤ x1 ∧ y0 ≤ (i : Int) / w ∧ (i : Int) / w ≤ y1
def KF (w h : Int) (B A : List Int) (r : FT) : Prop := ∃ x0 y0 x1 y1 : Int, 0 ≤ x0 ∧ x0 ≤ x1 ∧ x1 ≤ w - 1 ∧ 0 ≤ y0 ∧ y0 ≤ y1 ∧ y1 ≤ h - 1 ∧ G w x0 y0 (x1 - x0 + 1) (y1 - y0 + 1) A r ∧ ∀ i : Nat, i < B.length → rd B (i : Int) ≠ rd A (i : Int) → In w x0 y0 x1 y1 i
theorem scan_both {w h : Int} (hw : 1 ≤ w ∧ w ≤ 512) (hh : 1 ≤ h ∧ h ≤ 512) (hN : w * h ≤ 4096) {A B : List Int} (hA : (A.length : Int) = w * h) (hB : (B.length : Int) = w * h) (hv : ∀ y ∈ A, -1 ≤ y ∧ y ≤ 255) :
    BoP (KF w h B A) (fun k => spec_Between.l0 k w B A w h (-1) (-1) (B.length : Int) 0) (fun k => impl_Between.l0 k w B A w h (-1) (-1) (B.length : Int) 0) := by
  have main := down (n := B.length) (P := fun i => ∀ x0 y0 x1 y1 : Int, 0 ≤ x0 → 0 ≤ y0 → x1 ≤ w - 1 → y1 ≤ h - 1 → (0 ≤ x1 → x0 ≤ x1 ∧ y0 ≤ y1) → (∀ j : Nat, j < i → rd B (j : Int) ≠ rd A (j : Int) → In w x0 y0 x1 y1 j) → BoP (KF w h B A) (fun k => spec_Between.l0 k w B A x0 y0 x1 y1 (B.length : Int) (i : Int)) (fun k => impl_Between.l0 k w B A x0 y0 x1 y1 (B.length : Int) (i : Int))) ?_ ?_
  · exact main w h (-1) (-1) (by omega) (by omega) (by omega) (by omega) (by omega) (fun j hj => absurd hj (Nat.not_lt_zero j))
  · intro x0 y0 x1 y1 h1 h2 h3 h4 h5 h6
    by_cases c : x1 < 0
    · refine (box_both hw hh.2 hN hA hv (Int.le_refl 0) (Int.le_refl 0) (Int.le_refl 0) (Int.le_refl 0) (by omega) (by omega)).step (fun r hr => ⟨0, 0, 0, 0, by omega, by omega, by omega, by omega, by omega, by omega, hr, fun i hi hd => ?_⟩) (fun r e => Ev.step (fun _ => rfl) (evneg (by omega) (evpos c e))) (fun r e => Ev.step (fun _ => rfl) (evneg (by omega) (evpos c e)))
      have := h6 i hi hd
      unfold In at this
      omega
    · have h7 := h5 (by omega)
      exact (box_both hw hh.2 hN hA hv h1 h7.1 h2 h7.2 h3 h4).step (fun r hr => ⟨x0, y0, x1, y1, h1, h7.1, h3, h2, h7.2, h4, hr, h6⟩) (fun r e => Ev.step (fun _ => rfl) (evneg (by omega) (evneg c e))) (fun r e => Ev.step (fun _ => rfl) (evneg (by omega) (evneg c e)))
  · intro i hi ih x0 y0 x1 y1 h1 h2 h3 h4 h5 h6
    have ei : wrap64 ((i : Int) + 1) = ((i + 1 : Nat) : Int) := w64s (by omega)
    have hiA : (i : Int) < (A.length : Int) := by rw [hA, ← hB]; exact Int.ofNat_lt.2 hi
    by_cases c : rd B (i : Int) = rd A (i : Int)
    · refine (ih x0 y0 x1 y1 h1 h2 h3 h4 h5 (fun j hj hd => ?_)).step (fun _ h => h) (fun r e => Ev.step (fun _ => rfl) (evpos (Int.ofNat_lt.2 hi) (evpos (Int.natCast_nonneg i) (evpos (Int.ofNat_lt.2 hi) (evpos hiA (evpos c ?_)))))) (fun r e => Ev.step (fun _ => rfl) (evpos (Int.ofNat_lt.2 hi) (evpos (Int.natCast_nonneg i) (evpos (Int.ofNat_lt.2 hi) (evpos hiA (evpos c ?_))))))
      · by_cases e : j = i
        · subst e; exact absurd c hd
        · exact h6 j (Nat.lt_of_le_of_ne (Nat.le_of_lt_succ hj) e) hd
      · rw [ei]; exact e
      · rw [ei]; exact e
    · obtain ⟨ht, hu⟩ := tq hw.1 hh.2 (show (i : Int) < w * h by rw [← hB]; exact Int.ofNat_lt.2 hi)
      have hi0 : (0 : Int) ≤ (i : Int) := Int.natCast_nonneg i
      have tm : Int.tmod (i : Int) w = (i : Int) % w := Int.tmod_eq_emod_of_nonneg hi0
      have hi4 : (i : Int) < 4096 := Int.lt_of_lt_of_le (Int.ofNat_lt.2 hi) (by rw [hB]; exact hN)
      have td : wrap64 (Int.tdiv (i : Int) w) = (i : Int) / w := by
        rw [Int.tdiv_eq_ediv_of_nonneg hi0]
        have d0 : 0 ≤ (i : Int) / w := Int.ediv_nonneg hi0 (Int.le_trans (by decide) hw.1)
        have d1 : (i : Int) / w ≤ (i : Int) := Int.ediv_le_self w hi0
        exact w64 (Int.le_trans (by decide) d0) (Int.le_trans d1 (Int.le_trans (Int.le_of_lt hi4) (by decide)))
      obtain ⟨t, et⟩ : ∃ t, Int.tmod (i : Int) w = t := ⟨_, rfl⟩
      obtain ⟨u, eu⟩ : ∃ u, wrap64 (Int.tdiv (i : Int) w) = u := ⟨_, rfl⟩
      rw [et] at ht tm
      rw [eu] at hu td
      have hw0 : ¬ w = 0 := fun z => absurd hw.1 (by rw [z]; decide)
      have m1 := mn_l x0 t
      have m2 := mn_l y0 u
      have m3 := mx_l x1 t
      have m4 := mx_l y1 u
      refine (ih (mn x0 t) (mn y0 u) (mx x1 t) (mx y1 u) (mn_le h1 ht.1) (mn_le h2 hu.1) (mx_le h3 ht.2) (mx_le h4 hu.2) (fun _ => ⟨Int.le_trans m1.2 m3.2, Int.le_trans m2.2 m4.2⟩) (fun j hj hd => ?_)).step (fun _ h => h) (fun r e => Ev.step (fun _ => rfl) (evpos (Int.ofNat_lt.2 hi) (evpos (Int.natCast_nonneg i) (evpos (Int.ofNat_lt.2 hi) (evpos hiA (evneg c (evneg hw0 ?_))))))) (fun r e => Ev.step (fun _ => rfl) (evpos (Int.ofNat_lt.2 hi) (evpos (Int.natCast_nonneg i) (evpos (Int.ofNat_lt.2 hi) (evpos hiA (evneg c (evneg hw0 ?_)))))))
      · by_cases e : j = i
        · subst e
          unfold In
          rw [← tm, ← td]
          exact ⟨m1.2, m3.2, m2.2, m4.2⟩
        · have := h6 j (Nat.lt_of_le_of_ne (Nat.le_of_lt_succ hj) e) hd
          exact ⟨Int.le_trans m1.1 this.1, Int.le_trans this.2.1 m3.1, Int.le_trans m2.1 this.2.2.1, Int.le_trans this.2.2.2 m4.1⟩
      · rw [et, eu]
        by_cases d : t < x0
        · rw [show mn x0 t = t from if_pos d] at e
          exact evpos d (s_j2 (by rw [ei]; exact e))
        · rw [show mn x0 t = x0 from if_neg d] at e
          exact evneg d (s_j2 (by rw [ei]; exact e))
      · rw [et, eu, ei]; exact e
theorem s_t {b : Bool} (hb : b = true) (w h : Int) (B A : List Int) : Ev (fun k => spec_Between.j0 k w h B A b) ((0, 0, 0, 0, 0, 0, 0, []) : FT) := Ev.step (fun _ => rfl) (evpos hb (Ev.now _))
theorem i_t {b : Bool} (hb : b = true) (w h : Int) (B A : List Int) : Ev (fun k => impl_Between.j0 k w h B A b) ((0, 0, 0, 0, 0, 0, 0, []) : FT) := Ev.step (fun _ => rfl) (evpos hb (Ev.now _))
theorem s_f {b : Bool} (hb : ¬ b = true) {w h : Int} {B A : List Int} {r : FT} (e : Ev (fun k => spec_Between.l0 k w B A w h (-1) (-1) (B.length : Int) 0) r) : Ev (fun k => spec_Between.j0 k w h B A b) r := Ev.step (fun _ => rfl) (evneg hb e)
theorem i_f {b : Bool} (hb : ¬ b = true) {w h : Int} {B A : List Int} {r : FT} (e : Ev (fun k => impl_Between.l0 k w B A w h (-1) (-1) (B.length : Int) 0) r) : Ev (fun k => impl_Between.j0 k w h B A b) r := Ev.step (fun _ => rfl) (evneg hb e)
def ZF (w h : Int) (B A : List Int) (r : FT) : Prop := (r.2.2.1 = 0 ∧ r.2.2.2.2.2.2.2 = []) ∨ ((1 ≤ w ∧ w ≤ 512) ∧ (1 ≤ h ∧ h ≤ 512) ∧ w * h ≤ 4096 ∧ (B.length : Int) = w * h ∧ (A.length : Int) = w * h ∧ KF w h B A r)
theorem between_both (w h : Int) (B A : List Int) (hB : B.length ≤ 1048576) (hA : A.length ≤ 1048576) : BoP (ZF w h B A) (fun k => spec_Between.f k w h B A) (fun k => impl_Between.f k w h B A) := by
  by_cases c1 : (1 ≤ w ∧ w ≤ 512) ∧ (1 ≤ h ∧ h ≤ 512)
  · have es : spec_l4Sides.f w h = some true := by rw [spec_sides, decide_eq_true c1]
    by_cases c2 : wrap64 (w * h) ≤ 4096
    · have ei : impl_goodSides.f w h = some true := by rw [impl_sides, decide_eq_true ⟨c1.1, c1.2, c2⟩]
      have hm : w * h ≤ 512 * 512 := Int.mul_le_mul c1.1.2 c1.2.2 (by omega) (by omega)
      have hm0 : 0 ≤ w * h := Int.mul_nonneg (by omega) (by omega)
      have ew : wrap64 (w * h) = w * h := w64 (by omega) (by omega)
      have hN : w * h ≤ 4096 := by rw [ew] at c2; exact c2
      have c2' : ¬ wrap64 (w * h) > 4096 := by omega
      obtain ⟨q1, a1, a2, a3⟩ := screen B (wrap64 (w * h)) hB
      obtain ⟨q2, b1, b2, b3⟩ := screen A (wrap64 (w * h)) hA
      by_cases d1 : q1 = true
      · by_cases d2 : q2 = true
        · have hb1 := a3 d1
          have hb2 := b3 d2
          have dn : ¬ (!q2) = true := by rw [d2]; decide
          rw [ew] at hb1 hb2
          exact (scan_both c1.1 c1.2 hN hb2.2 hb1.2 hb2.1).step (fun r hr => Or.inr ⟨c1.1, c1.2, hN, hb1.2, hb2.2, hr⟩) (fun r e => evlet es (evpos rfl (evneg c2' (Ev.bind a2 (evpos d1 (Ev.bind b2 (s_f dn e))))))) (fun r e => evlet ei (evpos rfl (Ev.bind a1 (evpos d1 (Ev.bind b1 (i_f dn e))))))
        · have dn : (!q2) = true := by cases q2; rfl; exact absurd rfl d2
          exact ⟨_, Or.inl ⟨rfl, rfl⟩, evlet es (evpos rfl (evneg c2' (Ev.bind a2 (evpos d1 (Ev.bind b2 (s_t dn w h B A)))))), evlet ei (evpos rfl (Ev.bind a1 (evpos d1 (Ev.bind b1 (i_t dn w h B A)))))⟩
      · exact ⟨_, Or.inl ⟨rfl, rfl⟩, evlet es (evpos rfl (evneg c2' (Ev.bind a2 (evneg d1 (s_t rfl w h B A))))), evlet ei (evpos rfl (Ev.bind a1 (evneg d1 (i_t rfl w h B A))))⟩
    · have ei : impl_goodSides.f w h = some false := by rw [impl_sides, decide_eq_false (fun z => c2 z.2.2)]
      exact ⟨_, Or.inl ⟨rfl, rfl⟩, evlet es (evpos rfl (evpos (by omega) (s_t rfl w h B A))), evlet ei (evneg (by decide) (i_t rfl w h B A))⟩
  · have es : spec_l4Sides.f w h = some false := by rw [spec_sides, decide_eq_false c1]
    have ei : impl_goodSides.f w h = some false := by rw [impl_sides, decide_eq_false (fun z => c1 ⟨z.1, z.2.1⟩)]
    exact ⟨_, Or.inl ⟨rfl, rfl⟩, evlet es (evneg (by decide) (s_t rfl w h B A)), evlet ei (evneg (by decide) (i_t rfl w h B A))⟩
/-! ### the law's own loops -/
theorem same_ints (l : List Int) (hl : l.length ≤ 4611686018427387904) : Ev (fun k => laws_wInts.f k l l) true := by
  refine evpos rfl ?_
  refine down (n := l.length) (P := fun i => Ev (fun k => laws_wInts.l0 k l l (l.length : Int) (i : Int)) true) ?_ ?_
  · exact Ev.step (fun k => rfl) (evneg (by omega) (Ev.now _))
  · intro i hi h
    refine Ev.step (fun k => rfl) (evpos (by omega) (evpos (by omega) (evpos (by omega) (evpos (by omega) (evpos rfl ?_)))))
    rw [w64s (by omega)]; exact h
theorem look (A g : List Int) (hl : g.length ≤ 1048576) (hA : A.length = g.length) (hg : ∀ i : Nat, i < g.length → 0 ≤ rd A (i : Int) → rd g (i : Int) = rd A (i : Int)) : Ev (fun k => laws_FnBetween.l1 k A g (g.length : Int) 0) true := by
  refine down (n := g.length) (P := fun i => Ev (fun k => laws_FnBetween.l1 k A g (g.length : Int) (i : Int)) true) ?_ ?_
  · exact Ev.step (fun k => rfl) (evneg (by omega) (Ev.now _))
  · intro i hi h
    have h' : Ev (fun k => laws_FnBetween.l1 k A g (g.length : Int) (wrap64 ((i : Int) + 1))) true := by rw [w64s (by omega)]; exact h
    refine Ev.step (fun k => rfl) (evpos (by omega) (evpos (by omega) (evpos (by omega) (evpos (by omega) ?_))))
    by_cases c : rd g (i : Int) = rd A (i : Int)
    · exact evpos c h'
    · exact evneg c (evneg (fun h0 => c (hg i hi h0)) h')
theorem ixc {w h W x0 y0 x1 y1 : Int} (hw : 1 ≤ w ∧ w ≤ 512) (hh : 1 ≤ h ∧ h ≤ 512) (hN : w * h ≤ 4096) (hx0 : 0 ≤ x0) (hx1 : x1 ≤ w - 1) (hy0 : 0 ≤ y0) (hy1 : y1 ≤ h - 1) (hW : W = x1 - x0 + 1) (hW1 : 1 ≤ W) {j : Nat} (hj : (j : Int) < (y1 - y0 + 1) * W) (_ : j ≤ 262144) :
    wrap64 (wrap64 (wrap64 (wrap64 (y0 + wrap64 (Int.tdiv (j : Int) W)) * w) + x0) + Int.tmod (j : Int) W) = ix W w x0 y0 j ∧ 0 ≤ ix W w x0 y0 j ∧ ix W w x0 y0 j < w * h := by
  have hj0 : (0 : Int) ≤ (j : Int) := Int.natCast_nonneg j
  have W0 : (0 : Int) < W := hW1
  rw [Int.tmod_eq_emod_of_nonneg hj0, Int.tdiv_eq_ediv_of_nonneg hj0]
  have q0 : 0 ≤ (j : Int) / W := Int.ediv_nonneg hj0 (Int.le_of_lt W0)
  have q1 : (j : Int) / W < y1 - y0 + 1 := Int.ediv_lt_of_lt_mul W0 hj
  have t0 : 0 ≤ (j : Int) % W := Int.emod_nonneg _ (by omega)
  have t1 : (j : Int) % W < W := Int.emod_lt_of_pos _ W0
  unfold ix
  clear hj
  generalize (j : Int) / W = q at q0 q1
  generalize (j : Int) % W = t at t0 t1
  obtain ⟨e1, e2, e3⟩ := idx (y := y0 + q) (x := x0 + t) hw.1 hN (by omega) (by omega) (by omega) (by omega)
  have b0 : 0 ≤ (y0 + q) * w := Int.mul_nonneg (by omega) (by omega)
  rw [w64 (n := q) (by omega) (by omega), w64 (n := y0 + q) (by omega) (by omega)]
  generalize (y0 + q) * w = z at e1 e2 e3 b0
  generalize w * h = n at e3 hN
  rw [w64 (n := z) (by omega) (by omega), w64 (n := z + x0) (by omega) (by omega), w64 (by omega) (by omega)]
  omega
set_option maxHeartbeats 400000 in
theorem draw {l : List Int} (hl : ByteL l) : ∃ w h B A, Ev (fun k => spec_DrawBetween.f k l) (w, h, B, A) ∧ B.length ≤ 1048576 ∧ A.length ≤ 1048576 := by
  obtain ⟨r1, a1, s1, e1, p1, q1, u1, v1⟩ := pick_t hl 0 0 7 (by omega) (by omega) (by omega)
  obtain ⟨r2, a2, s2, e2, p2, q2, u2, v2⟩ := pick_t hl a1 s1 7 (by omega) (by omega) (by omega)
  obtain ⟨W, hW⟩ : ∃ W : Nat, 1 + r1 = (W : Int) := ⟨(1 + r1).toNat, by omega⟩
  obtain ⟨H, hH⟩ : ∃ H : Nat, 1 + r2 = (H : Int) := ⟨(1 + r2).toNat, by omega⟩
  have m1 : W * H ≤ 7 * 7 := Nat.mul_le_mul (by omega) (by omega)
  have m0 : 1 * 1 ≤ W * H := Nat.mul_le_mul (by omega) (by omega)
  obtain ⟨n, hn⟩ : ∃ n, W * H = n := ⟨_, rfl⟩
  rw [hn] at m1 m0
  have ends : ∀ (Z : Int), ¬ Z > 0 → ∀ (B A : List Int) (a s : Int), B.length = n → A.length = n → 0 ≤ a → a ≤ 900000000000 → ∃ w' h' B' A', Ev (fun k => spec_DrawBetween.l1 k (W : Int) (H : Int) B A Z l a s) (w', h', B', A') ∧ B'.length = n ∧ A'.length = n := by
    intro Z hZ B A a s hB hA h0 h1
    have hpos : (0 : Int) < (A.length : Int) := by rw [hA]; exact Int.ofNat_lt.2 m0
    obtain ⟨r, a', s', e, p, q, u, v⟩ := pick_t hl a s 12 (by omega) h0 (by omega)
    by_cases c : r = 0
    · exact ⟨_, _, _, _, Ev.step (fun k => rfl) (evneg hZ (evlet e (evpos c (Ev.now _)))), hB, hA⟩
    · by_cases d : r = 1
      · exact ⟨_, _, _, _, Ev.step (fun k => rfl) (evneg hZ (evlet e (evneg c (evpos d (evpos hpos (Ev.now _)))))), hB, by rw [List.length_set]; exact hA⟩
      · exact ⟨_, _, _, _, Ev.step (fun k => rfl) (evneg hZ (evlet e (evneg c (evneg d (Ev.now _))))), hB, hA⟩
  have eW : Aside0 (wrap64 (1 + r1) = (W : Int)) := ⟨by rw [w64 (by omega) (by omega)]; exact hW⟩
  have eH : Aside0 (wrap64 (1 + r2) = (H : Int)) := ⟨by rw [w64 (by omega) (by omega)]; exact hH⟩
  have eN : Aside0 (wrap64 ((W : Int) * (H : Int)) = (n : Int)) := by
    refine ⟨?_⟩
    rw [show (W : Int) * (H : Int) = (n : Int) by rw [← hn]; push_cast; rfl]
    exact w64 (by omega) (by omega)
  clear hn
  have hurts : ∀ (m : Nat) (B A : List Int) (a s : Int), m ≤ 10 → B.length = n → A.length = n → 0 ≤ a → a ≤ 800000000000 - 6 * m → ∃ w' h' B' A', Ev (fun k => spec_DrawBetween.l1 k (W : Int) (H : Int) B A (m : Int) l a s) (w', h', B', A') ∧ B'.length = n ∧ A'.length = n := by
    intro m
    induction m with
    | zero => intro B A a s _ hB hA h0 h1; exact ends _ (by omega) B A a s hB hA h0 (by omega)
    | succ m ih =>
      intro B A a s hm hB hA h0 h1
      obtain ⟨r, a', s', e, p, q, u, v⟩ := pick_t hl a s (n : Int) (by omega) h0 (by omega)
      obtain ⟨r', a'', s'', e', p', q', u', v'⟩ := pick_t hl a' s' 7 (by omega) (by omega) (by omega)
      obtain ⟨w', h', B', A', g, g1, g2⟩ := ih B (A.set r.toNat (wrap64 (r' - 1))) a'' s'' (by omega) hB (by rw [List.length_set]; exact hA) (by omega) (by omega)
      refine ⟨w', h', B', A', Ev.step (fun k => rfl) (evpos (by omega) ?_), g1, g2⟩
      rw [eN.out]
      refine evlet e (evlet e' (evpos p (evpos (by omega) ?_)))
      rw [show wrap64 (((m + 1 : Nat) : Int) - 1) = (m : Int) by rw [w64 (by omega) (by omega)]; omega]
      exact g
  have fill := down (n := n) (P := fun i => ∀ (B A : List Int) (a s : Int), B.length = n → A.length = n → 0 ≤ a → a ≤ 1000 + 3 * i → ∃ w' h' B' A', Ev (fun k => spec_DrawBetween.l0 k (W : Int) (H : Int) B A (n : Int) (i : Int) l a s) (w', h', B', A') ∧ B'.length = n ∧ A'.length = n) ?_ ?_
  · obtain ⟨w', h', B', A', g, g1, g2⟩ := fill (List.replicate n 0) (List.replicate n 0) a2 s2 List.length_replicate List.length_replicate (by omega) (by omega)
    refine ⟨w', h', B', A', evlet e1 (evlet e2 ?_), by omega, by omega⟩
    simp only [eW.out, eH.out, eN.out, Int.toNat_natCast, List.length_replicate, Option.bind_some]
    exact evpos (by omega) (evpos (by omega) g)
  · intro B A a s hB hA h0 h1
    obtain ⟨r, a', s', e, p, q, u, v⟩ := pick_t hl a s 4 (by omega) h0 (by omega)
    obtain ⟨m, rfl⟩ : ∃ m : Nat, r = (m : Int) := ⟨r.toNat, by omega⟩
    obtain ⟨w', h', B', A', g, g1, g2⟩ := hurts m B A a' s' (by omega) hB hA (by omega) (by omega)
    exact ⟨w', h', B', A', Ev.step (fun k => rfl) (evneg (by omega) (evlet e g)), g1, g2⟩
  · intro i hi ih B A a s hB hA h0 h1
    obtain ⟨r, a', s', e, p, q, u, v⟩ := pick_t hl a s 6 (by omega) h0 (by omega)
    obtain ⟨w', h', B', A', g, g1, g2⟩ := ih (B.set i (wrap64 (r - 1))) (A.set i (rd (B.set i (wrap64 (r - 1))) (i : Int))) a' s' (by rw [List.length_set]; exact hB) (by rw [List.length_set]; exact hA) (by omega) (by omega)
    refine ⟨w', h', B', A', Ev.step (fun k => rfl) (evpos (by omega) (evlet e (evpos (by omega) (evpos (by omega) (evlet rfl (evpos (by omega) ?_)))))), g1, g2⟩
    rw [w64s (by omega), Int.toNat_natCast]
    exact g
set_option maxHeartbeats 400000 in
theorem told {w h : Int} {B A : List Int} (hw : 1 ≤ w ∧ w ≤ 512) (hh : 1 ≤ h ∧ h ≤ 512) (hN : w * h ≤ 4096) (hB : (B.length : Int) = w * h) (hA : (A.length : Int) = w * h) {x0 y0 x1 y1 W r3 r4 r5 r6 : Int} {p q : List Int}
    (hx0 : 0 ≤ x0) (hxx : x0 ≤ x1) (hx1 : x1 ≤ w - 1) (hy0 : 0 ≤ y0) (_ : y0 ≤ y1) (hy1 : y1 ≤ h - 1) (hW : x1 - x0 + 1 = W) (hp : (p.length : Int) = (y1 - y0 + 1) * W) (hp2 : p.length ≤ 262144) (hP : PA W w x0 y0 A p) (hD : ∀ i : Nat, i < B.length → rd B (i : Int) ≠ rd A (i : Int) → In w x0 y0 x1 y1 i)
    (el : q.length = p.length) (ef : ∀ j : Nat, j < p.length → 0 ≤ rd p (j : Int) → rd q (j : Int) = rd p (j : Int) ∧ rd p (j : Int) ≠ r6) :
    Ev (fun k => laws_FnBetween.j0 k w B A false x0 y0 W r3 r4 r5 r6 q) true := by
  have hW1 : 1 ≤ W := by omega
  have hBl : B.length ≤ 4096 := by rw [← hB] at hN; omega
  have hAB : A.length = B.length := by rw [← hB] at hA; omega
  have main := down (n := q.length) (P := fun i => ∀ g : List Int, g.length = B.length → (∀ c : Nat, c < B.length → 0 ≤ rd A (c : Int) → rd g (c : Int) = rd A (c : Int) ∨ (rd g (c : Int) = rd B (c : Int) ∧ ∀ j : Nat, j < i → ix W w x0 y0 j ≠ (c : Int))) → Ev (fun k => laws_FnBetween.l0 k w A g (q.length : Int) (i : Int) x0 y0 W r3 r4 r5 r6 q) true) ?_ ?_
  · refine Ev.step (f := fun k => laws_FnBetween.l0 k w A B (q.length : Int) 0 x0 y0 W r3 r4 r5 r6 q) (fun k => ?_) (main B rfl (fun c _ _ => Or.inr ⟨rfl, fun j hj => absurd hj (Nat.not_lt_zero j)⟩))
    simp only [laws_FnBetween.j0, Bool.false_eq_true, if_false, Option.bind_some, List.nil_append, List.length_nil]
    rw [if_neg (by omega), if_pos (by omega)]
  · intro g hg hI
    refine Ev.step (fun k => rfl) (evneg (by omega) ?_)
    refine look A g (by omega) (by omega) (fun c hc h0 => ?_)
    rcases hI c (by omega) h0 with h | ⟨h, hn⟩
    · exact h
    · by_cases hd : rd B (c : Int) = rd A (c : Int)
      · rw [h, hd]
      · obtain ⟨i1, i2, i3, i4⟩ := hD c (by omega) hd
        exfalso
        have hwc : w * ((c : Int) / w) + (c : Int) % w = (c : Int) := Int.mul_ediv_add_emod _ _
        generalize (c : Int) / w = yy at i3 i4 hwc
        generalize (c : Int) % w = xx at i1 i2 hwc
        have z0 : 0 ≤ (yy - y0) * W := Int.mul_nonneg (by omega) (by omega)
        have z1 : (yy - y0) * W ≤ (y1 - y0) * W := Int.mul_le_mul_of_nonneg_right (by omega) (by omega)
        have z2 : (y1 - y0 + 1) * W = (y1 - y0) * W + W := by rw [Int.add_mul, Int.one_mul]
        obtain ⟨j, hj⟩ : ∃ j : Nat, (yy - y0) * W + (xx - x0) = (j : Int) := ⟨((yy - y0) * W + (xx - x0)).toNat, by omega⟩
        have hjl : j < q.length := by
          rw [z2] at hp
          omega
        refine hn j hjl ?_
        rw [ix_at (s := yy - y0) (t := xx - x0) (by omega) (by omega) hj.symm, show y0 + (yy - y0) = yy by omega, Int.mul_comm yy w]
        omega
  · intro j hj ih g hg hI
    have ew : Aside0 (wrap64 ((j : Int) + 1) = ((j + 1 : Nat) : Int)) := ⟨w64s (by omega)⟩
    have hjp : j < p.length := by rw [← el]; exact hj
    have hj' : (j : Int) < (y1 - y0 + 1) * W := by rw [← hp]; exact Int.ofNat_lt.2 hjp
    obtain ⟨c1, c2, c3⟩ := ixc hw hh hN hx0 hx1 hy0 hy1 hW.symm hW1 hj' (Nat.le_trans (Nat.le_of_lt hjp) hp2)
    obtain ⟨n, hn⟩ : ∃ n : Nat, ix W w x0 y0 j = (n : Int) := ⟨(ix W w x0 y0 j).toNat, (Int.toNat_of_nonneg c2).symm⟩
    have pa : rd p (j : Int) = rd A (n : Int) := by rw [hP j hjp, hn]
    rw [hn] at c1 c2 c3
    have c1 := Aside0.mk c1
    have hnB : n < B.length := by rw [← hB] at c3; exact Int.ofNat_lt.1 c3
    have hjq : (j : Int) < (q.length : Int) := Int.ofNat_lt.2 hj
    have hj0 : (0 : Int) ≤ (j : Int) := Int.natCast_nonneg j
    have hr2 : ¬ W = 0 := fun z => by rw [z] at hW1; exact absurd hW1 (by decide)
    have hng : (n : Int) < (g.length : Int) := by rw [hg]; exact Int.ofNat_lt.2 hnB
    by_cases c : rd q (j : Int) = r6
    · refine Ev.step (fun k => rfl) (evpos hjq (evpos hj0 (evpos hjq (evpos c ?_))))
      rw [ew.out]
      refine ih g hg (fun i hi h0 => ?_)
      rcases hI i hi h0 with h | ⟨h, hno⟩
      · exact Or.inl h
      · refine Or.inr ⟨h, fun j' hj' he => ?_⟩
        by_cases e : j' = j
        · subst e
          rw [hn] at he
          have : n = i := Int.ofNat.inj he
          subst this
          have := ef j' hjp (by rw [pa]; exact h0)
          exact this.2 (this.1 ▸ c)
        · exact hno j' (Nat.lt_of_le_of_ne (Nat.le_of_lt_succ hj') e) he
    · refine Ev.step (fun k => rfl) (evpos hjq (evpos hj0 (evpos hjq (evneg c (evneg hr2 ?_)))))
      rw [c1.out, ew.out, Int.toNat_natCast]
      refine evpos c2 (evpos hng (ih (g.set n (rd q (j : Int))) (by rw [List.length_set]; exact hg) (fun i hi h0 => ?_)))
      by_cases e : n = i
      · subst e
        rw [rd_set_eq g _ (by rw [hg]; exact hnB)]
        have := ef j hjp (by rw [pa]; exact h0)
        exact Or.inl (this.1.trans pa)
      · rw [rd_set_ne g _ e]
        rcases hI i hi h0 with h | ⟨h, hno⟩
        · exact Or.inl h
        · refine Or.inr ⟨h, fun j' hj' he => ?_⟩
          by_cases e' : j' = j
          · subst e'
            rw [hn] at he
            exact e (Int.ofNat.inj he)
          · exact hno j' (Nat.lt_of_le_of_ne (Nat.le_of_lt_succ hj') e') he
theorem zero_t {w : Int} {B A q : List Int} {b : Bool} (hb : ¬ b = true) {r0 r1 r2 r3 r4 r5 r6 : Int} (z : r2 = 0) : Ev (fun k => laws_FnBetween.j0 k w B A b r0 r1 r2 r3 r4 r5 r6 q) true := Ev.step (fun _ => rfl) (evneg hb (evpos z (Ev.now _)))
theorem FnBetween : laws_FnBetween.Pure := by
  intro l _ _ hb
  refine Ev.rounds ?_
  by_cases c : (l.length : Int) > 1048576
  · exact evpos c (Ev.now _)
  refine evneg c ?_
  obtain ⟨w, h, B, A, e, hB, hA⟩ := draw (bytel hb c)
  obtain ⟨⟨r0, r1, r2, r3, r4, r5, r6, q⟩, hZ, h1, h2⟩ := between_both w h B A hB hA
  refine Ev.bind e (Ev.bind h2 (Ev.bind h1 (evpos rfl ?_)))
  rcases hZ with ⟨z, zq⟩ | ⟨g1, g2, g3, g4, g5, g6⟩
  · have z : r2 = 0 := z
    have zq : q = [] := zq
    subst zq
    refine Ev.bind (same_ints [] (by simp)) ?_
    exact zero_t (by decide) z
  · obtain ⟨x0, y0, x1, y1, hx0, hxx, hx1, hy0, hyy, hy1, ⟨p, ⟨e0, e1, e2, e3, el, ef⟩, hp, hp2, hP⟩, hD⟩ := g6
    have e0 : r0 = x0 := e0
    have e1 : r1 = y0 := e1
    have e2 : r2 = x1 - x0 + 1 := e2
    have el : q.length = p.length := el
    have t := told (r3 := r3) (r4 := r4) (r5 := r5) g1 g2 g3 g4 g5 hx0 hxx hx1 hy0 hyy hy1 rfl hp hp2 hP hD el ef
    rw [← e2, ← e0, ← e1] at t
    exact Ev.bind (same_ints q (by rw [el]; exact Nat.le_trans hp2 (by decide))) t
end Go.Proofs.Ytglaedjadlappaa.Pure

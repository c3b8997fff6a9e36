/- The plain law of Shrink. -/
import Derived.Test.YtmnihpedokeggaaPFnExactShrinkx0
import Derived.Test.YtmnihpedokeggaaPFnExactShrinkx1
import Derived.Test.YtmnihpedokeggaaPFnExactShrinkx2
import Derived.Test.YtmnihpedokeggaaPFnExactShrinkx3
import Derived.Test.YtmnihpedokeggaaPFnExactShrinkx4
import Derived.Test.YtmnihpedokeggaaPFnExactShrinkx5
import Derived.Test.YtmnihpedokeggaaPFnExactShrinkx6
import Derived.Test.YtmnihpedokeggaaK
namespace Go.Proofs.Ytmnihpedokeggaa.Pure
open Go.RowKit Go.Proofs.Ytmnihpedokeggaa.PFnExactShrink Go.Proofs.Ytmnihpedokeggaa.K Go.Proofs.YtmnihpedokeggaaW.PrintWords Go.Proofs.YtmnihpedokeggaaW.PrintLast Go.Proofs.YtmnihpedokeggaaW.PrintMore

theorem rdT48 (l : List S48) (i : Nat) : rd_T48 l (i : Int) = l.getD i z48 := by simp [rd_T48]
theorem rdL1n (l : List (List Int)) (i : Nat) : rd_L1 l (i : Int) = l.getD i ([] : List Int) := by simp [rd_L1]
theorem toIntS (l : List Int) (hl : l.length ≤ 1048576) : Ev (fun k => laws_toIntS.f k l) l := by
  refine evpos (by omega) (evpos (by omega) ?_)
  have := down (n := l.length) (P := fun i => Ev (fun k => laws_toIntS.l0 k l (fl 0 l.length (fun j => l.getD j 0) i) (i : Int)) l) ?_ ?_
  · rw [fl_zero] at this; exact this
  · refine Ev.step (fun k => rfl) (evneg (by omega) ?_)
    rw [fl_all]
    have e := map_range_get l 0 id
    try simp only [id_eq, List.map_id_fun] at e
    rw [e]; exact Ev.now _
  · intro i hi h
    refine Ev.step (fun k => rfl) (evpos (by omega) (evpos (by omega) (evpos (by rw [fl_len]; omega) ?_)))
    rw [w64s (by omega), rd_nat, getD_lt hi, Int.toNat_natCast]
    rw [← fl_set, getD_lt hi] at h
    exact h
theorem eqIntS (l : List Int) (hl : l.length ≤ 4611686018427387904) : Ev (fun k => laws_eqIntS.f k l l) true := by
  refine evpos rfl ?_
  refine down (n := l.length) (P := fun i => Ev (fun k => laws_eqIntS.l0 k l l (i : Int)) true) ?_ ?_
  · exact Ev.step (fun k => rfl) (evneg (by omega) (Ev.now _))
  · intro i hi h
    refine Ev.step (fun k => rfl) (evpos (by omega) (evpos (by omega) (evpos (by omega) (evpos rfl ?_))))
    rw [w64s (by omega)]; exact h
theorem szIntS (l : List Int) (a : Int) (hl : l.length ≤ maxLen) (h0 : 0 ≤ a) (h1 : a ≤ 1048576) : laws_szIntS.f l a = some (if a < l.length then -1 else a - l.length) := by
  unfold maxLen at hl
  unfold laws_szIntS.f
  rw [w64 (by omega) (by omega)]
  split <;> split <;> first | rfl | omega
theorem mhIntS (l : List Int) (a : Int) (h0 : 0 ≤ a) (h1 : a + l.length ≤ 4611686018427387904) : ∃ l' : List Int, Ev (fun k => laws_markIntS.f k l a) (a + l.length, l') ∧ Ev (fun k => laws_heldIntS.f k l' a) (a + l.length) ∧ l'.length = l.length := by
  refine ⟨(List.range l.length).map (fun (j : Nat) => a + (j : Int)), ?_, ?_, by simp⟩
  · have := down (n := l.length) (P := fun i => Ev (fun k => laws_markIntS.l0 k (f2 l.length (fun (j : Nat) => a + (j : Int)) (fun j => l.getD j 0) i) (a + (i : Int)) (i : Int)) (a + l.length, (List.range l.length).map (fun (j : Nat) => a + (j : Int)))) ?_ ?_
    · rw [f2_zero] at this; rw [show a + ((0 : Nat) : Int) = a by omega] at this; exact this
    · refine Ev.step (fun k => rfl) (evneg (by rw [f2_len]; omega) ?_)
      rw [f2_all]; exact Ev.now _
    · intro i hi h
      refine Ev.step (fun k => rfl) (evpos (by rw [f2_len]; omega) (evpos (by omega) ?_))
      rw [w64s (by omega), w64 (by omega) (by omega), Int.toNat_natCast, show a + (i : Int) + 1 = a + ((i + 1 : Nat) : Int) by omega]
      rw [← f2_set] at h
      exact h
  · have := down (n := l.length) (P := fun i => Ev (fun k => laws_heldIntS.l0 k ((List.range l.length).map (fun (j : Nat) => a + (j : Int))) (a + (i : Int)) (i : Int)) (a + l.length)) ?_ ?_
    · rw [show a + ((0 : Nat) : Int) = a by omega] at this; exact this
    · exact Ev.step (fun k => rfl) (evneg (by simp) (Ev.now _))
    · intro i hi h
      refine Ev.step (fun k => rfl) (evpos (by simpa using hi) (evpos (by omega) (evpos (by rw [rd_nat, range_getD _ _ _ _ hi]) ?_)))
      rw [w64s (by omega), w64 (by omega) (by omega), show a + (i : Int) + 1 = a + ((i + 1 : Nat) : Int) by omega]
      exact h
theorem szPlane (a0_0 : Int) (a0_1 : Int) (l0_2 : List Int) (a : Int) (hl0_2 : l0_2.length ≤ maxLen) (h0 : 0 ≤ a) (h1 : a ≤ 1048576) : ∃ r, Ev (fun _ => laws_szPlane.f a0_0 a0_1 l0_2 a) r ∧ r ≤ a ∧ (0 ≤ r → l0_2.length ≤ 1048576) := by
  have e0 := szIntS l0_2 a hl0_2 (by omega) (by omega)
  by_cases c0 : a < (l0_2.length : Int)
  · rw [if_pos c0] at e0
    exact ⟨-1, evlet e0 (evpos (by omega) (Ev.now _)), by omega, by omega⟩
  rw [if_neg c0] at e0
  exact ⟨(a - l0_2.length), evlet e0 (evneg (by omega) (Ev.now _)), by omega, fun _ => by omega⟩
theorem toPlane (a0_0 : Int) (a0_1 : Int) (l0_2 : List Int) (hl0_2 : l0_2.length ≤ 1048576) : Ev (fun k => laws_toPlane.f k a0_0 a0_1 l0_2) (a0_0, a0_1, l0_2) :=
  Ev.bind (toIntS l0_2 hl0_2) (Ev.now _)
theorem eqPlane (a0_0 : Int) (a0_1 : Int) (l0_2 : List Int) (hl0_2 : l0_2.length ≤ 4611686018427387904) : Ev (fun k => laws_eqPlane.f k a0_0 a0_1 l0_2 a0_0 a0_1 l0_2) true :=
  evpos rfl (evpos rfl (Ev.bind (eqIntS l0_2 hl0_2) (evpos rfl (Ev.now _))))
theorem mn_of (a b : Int) : mn a b = min a b := by unfold mn; omega
structure Ok (b W H : Int) (S : List Int) : Prop where
  b : b = 2 ∨ b = 4
  w : 1 ≤ W ∧ W ≤ 512
  h : 1 ≤ H ∧ H ≤ 512
  s : (S.length : Int) = W * H
theorem at_in {b W H : Int} {S : List Int} (o : Ok b W H S) {i j : Nat} (hi : (i : Int) < W) (hj : (j : Int) < H) : 0 ≤ wrap64 (wrap64 ((j : Int) * W) + i) ∧ wrap64 (wrap64 ((j : Int) * W) + i) < (S.length : Int) := by
  obtain ⟨_, hw, hh, hs⟩ := o
  have m1 : (j : Int) * W ≤ (H - 1) * W := Int.mul_le_mul_of_nonneg_right (by omega) (by omega)
  have m0 : 0 ≤ (j : Int) * W := Int.mul_nonneg (by omega) (by omega)
  have m2 : (H - 1) * W = W * H - W := by rw [Int.sub_mul, Int.one_mul, Int.mul_comm]
  have m3 : W * H ≤ 512 * 512 := by
    have := Int.mul_le_mul hw.2 hh.2 (by omega) (by omega)
    omega
  rw [w64 (n := (j : Int) * W) (by omega) (by omega), w64 (by omega) (by omega)]
  omega
theorem l3_both {b W H : Int} {S : List Int} (o : Ok b W H S) (OW OH : Int) (out : List Int) (y x j e : Nat) (hj : (j : Int) < H) (hx : (x : Int) * b < W) (he : (e : Int) = min W ((x : Int) * b + b)) (i : Nat) (hi : i ≤ e) :
    ∀ s n : Int, 0 ≤ n → n ≤ 100000 + i → ∃ s', (∀ r, Ev (fun k => spec_l7Shrink.l2 k b (y : Int) (x : Int) s' (n + (e : Int) - (i : Int)) ((j + 1 : Nat) : Int) W H S OW OH out) r → Ev (fun k => spec_l7Shrink.l3 k b (y : Int) (x : Int) s n (j : Int) (i : Int) W H S OW OH out) r) ∧
      (∀ r, Ev (fun k => impl_Shrink.l2 k b (y : Int) (x : Int) s' (n + (e : Int) - (i : Int)) ((j + 1 : Nat) : Int) OH (y : Int) OW (x : Int) W H S OW OH out) r → Ev (fun k => impl_Shrink.l3 k b (y : Int) (x : Int) s n (j : Int) (i : Int) OH (y : Int) OW (x : Int) W H S OW OH out) r) := by
  have hw := o.w
  have hh := o.h
  have x0 : 0 ≤ (x : Int) * b := by rcases o.b with rfl | rfl <;> omega
  have xs : (x : Int) ≤ 512 := by rcases o.b with rfl | rfl <;> omega
  have e1 : wrap64 (wrap64 ((x : Int) * b) + b) = (x : Int) * b + b := by
    rw [w64 (n := (x : Int) * b) (by omega) (by omega), w64 (by rcases o.b with rfl | rfl <;> omega) (by rcases o.b with rfl | rfl <;> omega)]
  have e2 : mn W (wrap64 (wrap64 ((x : Int) + 1) * b)) = (e : Int) := by
    rw [w64 (n := (x : Int) + 1) (by omega) (by omega), Int.add_mul, Int.one_mul, w64 (by rcases o.b with rfl | rfl <;> omega) (by rcases o.b with rfl | rfl <;> omega), mn_of, he]
  refine down_to (n := e) (P := fun i => ∀ s n : Int, 0 ≤ n → n ≤ 100000 + i → ∃ s', (∀ r, Ev (fun k => spec_l7Shrink.l2 k b (y : Int) (x : Int) s' (n + (e : Int) - (i : Int)) ((j + 1 : Nat) : Int) W H S OW OH out) r → Ev (fun k => spec_l7Shrink.l3 k b (y : Int) (x : Int) s n (j : Int) (i : Int) W H S OW OH out) r) ∧
      (∀ r, Ev (fun k => impl_Shrink.l2 k b (y : Int) (x : Int) s' (n + (e : Int) - (i : Int)) ((j + 1 : Nat) : Int) OH (y : Int) OW (x : Int) W H S OW OH out) r → Ev (fun k => impl_Shrink.l3 k b (y : Int) (x : Int) s n (j : Int) (i : Int) OH (y : Int) OW (x : Int) W H S OW OH out) r)) ?_ ?_ i hi
  · intro s n h0 h1
    refine ⟨s, fun r h => ?_, fun r h => ?_⟩
    · rw [Int.add_sub_cancel] at h
      refine Ev.step (fun k => rfl) ?_
      simp only [spec_l7Shrink.l3]
      rw [e1, w64s (i := j) (by omega)]
      by_cases c : (e : Int) < (x : Int) * b + b
      · exact evpos c (evneg (by omega) h)
      · exact evneg c h
    · rw [Int.add_sub_cancel] at h
      refine Ev.step (fun k => rfl) ?_
      simp only [impl_Shrink.l3]
      rw [e2, w64s (i := j) (by omega)]
      exact evneg (by omega) h
  · intro i hi ih s n h0 h1
    have ai := at_in o (i := i) (j := j) (by omega) hj
    obtain ⟨s', g1, g2⟩ := ih (wrap64 (s + rd S (wrap64 (wrap64 ((j : Int) * W) + i)))) (n + 1) (by omega) (by omega)
    rw [show n + 1 + (e : Int) - ((i + 1 : Nat) : Int) = n + (e : Int) - (i : Int) by omega] at g1 g2
    refine ⟨s', fun r h => ?_, fun r h => ?_⟩
    · refine Ev.step (fun k => rfl) ?_
      simp only [spec_l7Shrink.l3]
      rw [e1]
      refine evpos (by omega) (evpos (by omega) (evpos ai.1 (evpos ai.2 ?_)))
      rw [w64s (by omega), w64 (n := n + 1) (by omega) (by omega)]
      exact g1 r h
    · refine Ev.step (fun k => rfl) ?_
      simp only [impl_Shrink.l3]
      rw [e2]
      refine evpos (by omega) (evpos ai.1 (evpos ai.2 ?_))
      rw [w64s (by omega), w64 (n := n + 1) (by omega) (by omega)]
      exact g2 r h
theorem l2_both {b W H : Int} {S : List Int} (o : Ok b W H S) (OW OH : Int) (out : List Int) (y x f : Nat) (hy : (y : Int) * b < H) (hx : (x : Int) * b < W) (hf : (f : Int) = min H ((y : Int) * b + b)) (ho : out.length < 1000000) :
    ∃ v, (∀ r, Ev (fun k => spec_l7Shrink.l1 k b (y : Int) ((x + 1 : Nat) : Int) W H S OW OH (out ++ [v])) r → Ev (fun k => spec_l7Shrink.l2 k b (y : Int) (x : Int) 0 0 ((y : Int) * b) W H S OW OH out) r) ∧
      (∀ r, Ev (fun k => impl_Shrink.l1 k b (y : Int) OH (y : Int) OW ((x + 1 : Nat) : Int) W H S OW OH (out ++ [v])) r → Ev (fun k => impl_Shrink.l2 k b (y : Int) (x : Int) 0 0 ((y : Int) * b) OH (y : Int) OW (x : Int) W H S OW OH out) r) := by
  have hw := o.w
  have hh := o.h
  have y0 : 0 ≤ (y : Int) * b := by rcases o.b with rfl | rfl <;> omega
  have ys : (y : Int) ≤ 512 := by rcases o.b with rfl | rfl <;> omega
  have x0 : 0 ≤ (x : Int) * b := by rcases o.b with rfl | rfl <;> omega
  have xs : (x : Int) ≤ 512 := by rcases o.b with rfl | rfl <;> omega
  have b0 : 2 ≤ b ∧ b ≤ 4 := by rcases o.b with rfl | rfl <;> omega
  obtain ⟨e, he⟩ : ∃ e : Nat, (e : Int) = min W ((x : Int) * b + b) := ⟨(min W ((x : Int) * b + b)).toNat, by omega⟩
  obtain ⟨xb, hxb⟩ : ∃ q : Nat, (q : Int) = (x : Int) * b := ⟨((x : Int) * b).toNat, by omega⟩
  obtain ⟨yb, hyb⟩ : ∃ q : Nat, (q : Int) = (y : Int) * b := ⟨((y : Int) * b).toNat, by omega⟩
  have e1 : wrap64 (wrap64 ((y : Int) * b) + b) = (y : Int) * b + b := by
    rw [w64 (n := (y : Int) * b) (by omega) (by omega), w64 (by omega) (by omega)]
  have e2 : mn H (wrap64 (wrap64 ((y : Int) + 1) * b)) = (f : Int) := by
    rw [w64 (n := (y : Int) + 1) (by omega) (by omega), Int.add_mul, Int.one_mul, w64 (by omega) (by omega), mn_of, hf]
  have e3 : wrap64 ((x : Int) * b) = (xb : Int) := by rw [w64 (by omega) (by omega), hxb]
  have main := down_to (n := f) (P := fun j => ∀ s n : Int, 0 ≤ n → n ≤ (j : Int) * 16 → (n ≥ 1 ∨ j < f) → ∃ v, (∀ r, Ev (fun k => spec_l7Shrink.l1 k b (y : Int) ((x + 1 : Nat) : Int) W H S OW OH (out ++ [v])) r → Ev (fun k => spec_l7Shrink.l2 k b (y : Int) (x : Int) s n (j : Int) W H S OW OH out) r) ∧
      (∀ r, Ev (fun k => impl_Shrink.l1 k b (y : Int) OH (y : Int) OW ((x + 1 : Nat) : Int) W H S OW OH (out ++ [v])) r → Ev (fun k => impl_Shrink.l2 k b (y : Int) (x : Int) s n (j : Int) OH (y : Int) OW (x : Int) W H S OW OH out) r)) ?_ ?_ yb (by omega) 0 0 (by omega) (by omega) (.inr (by omega))
  · rw [← hyb]; exact main
  · intro s n h0 h1 h2
    have hn : ¬ n = 0 := by omega
    refine ⟨wrap64 (Int.tdiv (wrap64 (s + wrap64 (Int.tdiv n 2))) n), fun r h => ?_, fun r h => ?_⟩
    · have j3 : Ev (fun k => spec_l7Shrink.j3 k b (y : Int) (x : Int) s n (f : Int) false W H S OW OH out) r := by
        refine Ev.step (f := fun k => if n = 0 then none else if out.length < 17592186044416 then spec_l7Shrink.l1 k b (y : Int) (wrap64 ((x : Int) + 1)) W H S OW OH (out ++ [wrap64 (Int.tdiv (wrap64 (s + wrap64 (Int.tdiv n 2))) n)]) else none) (fun k => by simp only [spec_l7Shrink.j3, Bool.false_eq_true, if_false]) (evneg hn (evpos (by omega) ?_))
        rw [w64s (by omega)]; exact h
      refine Ev.step (fun k => rfl) ?_
      simp only [spec_l7Shrink.l2]
      rw [e1]
      by_cases c : (f : Int) < (y : Int) * b + b
      · refine evpos c ?_
        rw [decide_eq_false (by omega)]; exact j3
      · exact evneg c j3
    · refine Ev.step (fun k => rfl) ?_
      simp only [impl_Shrink.l2]
      rw [e2]
      refine evneg (by omega) (evneg hn (evpos (by omega) ?_))
      rw [w64s (by omega)]; exact h
  · intro j hj ih s n h0 h1 _
    obtain ⟨s', g1, g2⟩ := l3_both o OW OH out y x j e (by omega) hx he xb (by omega) s n h0 (by omega)
    obtain ⟨v, k1, k2⟩ := ih s' (n + (e : Int) - (xb : Int)) (by omega) (by omega) (.inl (by omega))
    refine ⟨v, fun r h => ?_, fun r h => ?_⟩
    · refine Ev.step (fun k => rfl) ?_
      simp only [spec_l7Shrink.l2]
      rw [e1]
      refine evpos (by omega) ?_
      rw [decide_eq_true (by omega)]
      refine Ev.step (f := fun k => spec_l7Shrink.l3 k b (y : Int) (x : Int) s n (j : Int) (xb : Int) W H S OW OH out) (fun k => ?_) (g1 r (k1 r h))
      simp only [spec_l7Shrink.j3, if_true, e3]
    · refine Ev.step (fun k => rfl) ?_
      simp only [impl_Shrink.l2]
      rw [e2]
      refine evpos (by omega) ?_
      rw [e3]
      exact g2 r (k2 r h)
theorem shrink_both {b W H : Int} {S : List Int} (o : Ok b W H S) : ∃ (OW OH : Int) (out : List Int), out.length ≤ 1000000 ∧ Ev (fun k => spec_l7Shrink.f k W H S b) (OW, OH, out) ∧ Ev (fun k => impl_Shrink.j0 k b false W H S) (OW, OH, out) := by
  have hw := o.w
  have hh := o.h
  have b0 : 2 ≤ b ∧ b ≤ 4 := by rcases o.b with rfl | rfl <;> omega
  have dv : ∀ X : Int, 1 ≤ X → X ≤ 512 → ∃ q : Nat, wrap64 (Int.tdiv (wrap64 (wrap64 (X + b) - 1)) b) = (q : Int) ∧ (q : Int) ≤ 512 ∧ ∀ z : Nat, z < q → (z : Int) * b < X := by
    intro X h1 h2
    rw [w64 (n := X + b) (by omega) (by omega), w64 (n := X + b - 1) (by omega) (by omega), Int.tdiv_eq_ediv_of_nonneg (by omega)]
    rcases o.b with rfl | rfl
    · exact ⟨((X + 2 - 1) / 2).toNat, by rw [w64 (by omega) (by omega)]; omega, by omega, fun z hz => by omega⟩
    · exact ⟨((X + 4 - 1) / 4).toNat, by rw [w64 (by omega) (by omega)]; omega, by omega, fun z hz => by omega⟩
  obtain ⟨ow, w1, w2, w3⟩ := dv W hw.1 hw.2
  obtain ⟨oh, h1, h2, h3⟩ := dv H hh.1 hh.2
  have main := down (n := oh) (P := fun y => ∀ out : List Int, out.length = y * ow → ∃ out' : List Int, out'.length = oh * ow ∧ Ev (fun k => spec_l7Shrink.l0 k b (y : Int) W H S (ow : Int) (oh : Int) out) ((ow : Int), (oh : Int), out') ∧
      Ev (fun k => impl_Shrink.l0 k b (oh : Int) (y : Int) W H S (ow : Int) (oh : Int) out) ((ow : Int), (oh : Int), out')) ?_ ?_ [] (by simp)
  · obtain ⟨out, hl, g1, g2⟩ := main
    have hm : oh * ow ≤ 512 * 512 := Nat.mul_le_mul (by omega) (by omega)
    refine ⟨(ow : Int), (oh : Int), out, by omega, evneg (by omega) ?_, ?_⟩
    · rw [w1, h1]; exact g1
    · refine Ev.step (f := fun k => impl_Shrink.l0 k b (oh : Int) 0 W H S (ow : Int) (oh : Int) []) (fun k => ?_) g2
      simp only [impl_Shrink.j0, Bool.false_eq_true, if_false, w1, h1]
      rw [if_neg (by omega)]
  · intro out hl
    exact ⟨out, hl, Ev.step (fun k => rfl) (evneg (by omega) (Ev.now _)), Ev.step (fun k => rfl) (evneg (by omega) (Ev.now _))⟩
  · intro y hy ih out hl
    obtain ⟨f, hf⟩ : ∃ f : Nat, (f : Int) = min H ((y : Int) * b + b) := ⟨(min H ((y : Int) * b + b)).toNat, by have := h3 y hy; rcases o.b with rfl | rfl <;> omega⟩
    have hyo : y * ow + ow ≤ 512 * 512 := by
      have : (y + 1) * ow ≤ 512 * 512 := Nat.mul_le_mul (by omega) (by omega)
      rw [Nat.add_mul, Nat.one_mul] at this
      exact this
    have yb0 : wrap64 ((y : Int) * b) = (y : Int) * b := by
      have := h3 y hy
      rw [w64 (by rcases o.b with rfl | rfl <;> omega) (by omega)]
    have row := down (n := ow) (P := fun x => ∀ out : List Int, out.length = y * ow + x → ∃ out' : List Int, out'.length = oh * ow ∧ Ev (fun k => spec_l7Shrink.l1 k b (y : Int) (x : Int) W H S (ow : Int) (oh : Int) out) ((ow : Int), (oh : Int), out') ∧
      Ev (fun k => impl_Shrink.l1 k b (y : Int) (oh : Int) (y : Int) (ow : Int) (x : Int) W H S (ow : Int) (oh : Int) out) ((ow : Int), (oh : Int), out')) ?_ ?_ out (by omega)
    · obtain ⟨out', hl', g1, g2⟩ := row
      refine ⟨out', hl', Ev.step (fun k => rfl) (evpos (by omega) g1), Ev.step (fun k => rfl) (evpos (by omega) g2)⟩
    · intro out hl
      obtain ⟨out', hl', g1, g2⟩ := ih out (by rw [hl, Nat.add_mul, Nat.one_mul])
      refine ⟨out', hl', Ev.step (fun k => rfl) (evneg (by omega) ?_), Ev.step (fun k => rfl) (evneg (by omega) ?_)⟩
      · rw [w64s (by omega)]; exact g1
      · rw [w64s (by omega)]; exact g2
    · intro x hx ih2 out hl
      obtain ⟨v, g1, g2⟩ := l2_both o (ow : Int) (oh : Int) out y x f (h3 y hy) (w3 x hx) hf (by omega)
      obtain ⟨out', hl', k1, k2⟩ := ih2 (out ++ [v]) (by rw [List.length_append, hl]; rfl)
      refine ⟨out', hl', Ev.step (fun k => rfl) (evpos (by omega) ?_), Ev.step (fun k => rfl) (evpos (by omega) ?_)⟩
      · rw [yb0]; exact g1 _ k1
      · rw [yb0]; exact g2 _ k2
theorem plane_both (W H : Int) (S : List Int) (hS : S.length ≤ 1048576) : ∃ q : Bool, Ev (fun k => spec_GoodPlane.f k W H S) q ∧ Ev (fun k => impl_GoodPlane.f k W H S) q ∧ (q = true → (1 ≤ W ∧ W ≤ 512) ∧ (1 ≤ H ∧ H ≤ 512) ∧ (S.length : Int) = W * H) := by
  have sp : spec_l7Sides.f W H = some (decide (((1 ≤ W ∧ W ≤ 512) ∧ 1 ≤ H ∧ H ≤ 512) ∧ wrap64 (W * H) ≤ 4096)) := by
    have g : spec_l4Sides.f W H = some (decide ((1 ≤ W ∧ W ≤ 512) ∧ 1 ≤ H ∧ H ≤ 512)) := by
      unfold spec_l4Sides.f
      repeat' split
      all_goals first | (rw [decide_eq_false (by omega)]; done) | exact congrArg some (decide_eq_decide.2 (by omega))
    unfold spec_l7Sides.f
    rw [g, Option.bind_some]
    by_cases c : (1 ≤ W ∧ W ≤ 512) ∧ 1 ≤ H ∧ H ≤ 512
    · rw [decide_eq_true c, if_pos rfl]
      exact congrArg some (decide_eq_decide.2 (by omega))
    · rw [decide_eq_false c, if_neg (by simp), decide_eq_false (by omega)]
  have im : impl_goodSides.f W H = some (decide (((1 ≤ W ∧ W ≤ 512) ∧ 1 ≤ H ∧ H ≤ 512) ∧ wrap64 (W * H) ≤ 4096)) := by
    have g : ∀ a, impl_goodSide.f a = some (decide (1 ≤ a ∧ a ≤ 512)) := by
      intro a
      unfold impl_goodSide.f
      split
      · exact congrArg some (decide_eq_decide.2 (by omega))
      · rw [decide_eq_false (by omega)]
    unfold impl_goodSides.f
    rw [g, g, Option.bind_some, Option.bind_some]
    by_cases c1 : 1 ≤ W ∧ W ≤ 512
    · rw [decide_eq_true c1, if_pos rfl]
      by_cases c2 : 1 ≤ H ∧ H ≤ 512
      · rw [decide_eq_true c2, if_pos rfl]
        exact congrArg some (decide_eq_decide.2 (by omega))
      · rw [decide_eq_false c2, if_neg (by simp), decide_eq_false (by omega)]
    · rw [decide_eq_false c1, if_neg (by simp), decide_eq_false (by omega)]
  have st : Ev (fun k => spec_GoodPlane.j0 k true W H S) false := Ev.step (f := fun _ => some false) (fun k => by simp only [spec_GoodPlane.j0, if_true]) (Ev.now _)
  by_cases c : ((1 ≤ W ∧ W ≤ 512) ∧ 1 ≤ H ∧ H ≤ 512) ∧ wrap64 (W * H) ≤ 4096
  case neg =>
    rw [decide_eq_false c] at sp im
    exact ⟨false, evlet sp (evneg (by simp) st), evlet im (evneg (by simp) (Ev.now _)), fun h => (by cases h)⟩
  rw [decide_eq_true c] at sp im
  have wm : wrap64 (W * H) = W * H := by
    have := Int.mul_le_mul c.1.1.2 c.1.2.2 (by omega) (by omega)
    have := Int.mul_nonneg (show 0 ≤ W by omega) (show 0 ≤ H by omega)
    exact w64 (by omega) (by omega)
  by_cases e : (S.length : Int) = wrap64 (W * H)
  case neg =>
    refine ⟨false, evlet sp (evpos rfl ?_), evlet im (evpos rfl (evneg e (Ev.now _))), fun h => (by cases h)⟩
    rw [bne_iff_ne.mpr e]; exact st
  have main := down (n := S.length) (P := fun i => ∃ q : Bool, Ev (fun k => spec_GoodPlane.l0 k S (S.length : Int) (i : Int)) q ∧ Ev (fun k => impl_inRange.l0 k 255 S (S.length : Int) (i : Int)) q) ?_ ?_
  · obtain ⟨q, g1, g2⟩ := main
    refine ⟨q, evlet sp (evpos rfl ?_), evlet im (evpos rfl (evpos e (Ev.bind g2 (Ev.now _)))), fun _ => ⟨c.1.1, c.1.2, by rw [e, wm]⟩⟩
    rw [bne_eq_false_iff_eq.mpr e]
    exact Ev.step (f := fun k => spec_GoodPlane.l0 k S (S.length : Int) 0) (fun k => by simp only [spec_GoodPlane.j0, Bool.false_eq_true, if_false]) g1
  · exact ⟨true, Ev.step (fun k => rfl) (evneg (by omega) (Ev.now _)), Ev.step (fun k => rfl) (evneg (by omega) (Ev.now _))⟩
  · intro i hi ⟨b, h1, h2⟩
    by_cases c1 : rd S (i : Int) < 0
    · exact ⟨false, Ev.step (fun k => rfl) (evpos (by omega) (evpos (by omega) (evpos (by omega) (evpos c1 (Ev.now _))))), Ev.step (fun k => rfl) (evpos (by omega) (evpos (by omega) (evpos (by omega) (evpos c1 (Ev.now _)))))⟩
    by_cases c2 : rd S (i : Int) > 255
    · exact ⟨false, Ev.step (fun k => rfl) (evpos (by omega) (evpos (by omega) (evpos (by omega) (evneg c1 (evpos c2 (Ev.now _)))))), Ev.step (fun k => rfl) (evpos (by omega) (evpos (by omega) (evpos (by omega) (evneg c1 (evpos c2 (Ev.now _))))))⟩
    refine ⟨b, Ev.step (fun k => rfl) (evpos (by omega) (evpos (by omega) (evpos (by omega) (evneg c1 (evneg c2 ?_))))), Ev.step (fun k => rfl) (evpos (by omega) (evpos (by omega) (evpos (by omega) (evneg c1 (evneg c2 ?_)))))⟩
    · rw [w64s (by omega)]; exact h1
    · rw [w64s (by omega)]; exact h2
theorem whole_both (W H b : Int) (S : List Int) (hS : S.length ≤ 1048576) : ∃ (OW OH : Int) (out : List Int), out.length ≤ 1000000 ∧ Ev (fun k => spec_Shrink.f k W H S b) (OW, OH, out) ∧ Ev (fun k => impl_Shrink.f k W H S b) (OW, OH, out) := by
  obtain ⟨q, p1, p2, p3⟩ := plane_both W H S hS
  have jt : Ev (fun k => impl_Shrink.j0 k b true W H S) (0, 0, []) := Ev.step (f := fun _ => some (0, 0, [])) (fun k => by simp only [impl_Shrink.j0, if_true]) (Ev.now _)
  cases q with
  | false => exact ⟨0, 0, [], by simp, Ev.bind p1 (evneg (by simp) (Ev.now _)), Ev.bind p2 (evneg (by simp) jt)⟩
  | true =>
    obtain ⟨hw, hh, hs⟩ := p3 rfl
    by_cases c2 : b = 2
    · obtain ⟨OW, OH, out, hl, g1, g2⟩ := shrink_both (b := b) ⟨.inl c2, hw, hh, hs⟩
      exact ⟨OW, OH, out, hl, Ev.bind p1 (evpos rfl (evpos c2 (Ev.bind g1 (Ev.now _)))), Ev.bind p2 (evpos rfl (evpos c2 g2))⟩
    by_cases c4 : b = 4
    · obtain ⟨OW, OH, out, hl, g1, g2⟩ := shrink_both (b := b) ⟨.inr c4, hw, hh, hs⟩
      refine ⟨OW, OH, out, hl, Ev.bind p1 (evpos rfl (evneg c2 (evpos c4 (Ev.bind g1 (Ev.now _))))), Ev.bind p2 (evpos rfl (evneg c2 ?_))⟩
      rw [bne_eq_false_iff_eq.mpr c4]; exact g2
    · refine ⟨0, 0, [], by simp, Ev.bind p1 (evpos rfl (evneg c2 (evneg c4 (Ev.now _)))), Ev.bind p2 (evpos rfl (evneg c2 ?_))⟩
      rw [bne_iff_ne.mpr c4]; exact jt
theorem FnExactShrink : laws_FnExactShrink.Pure := by
  intro W H S b ⟨_, _, hS, _⟩ _
  refine Ev.rounds ?_
  obtain ⟨r, s0, s1, s2⟩ := szPlane W H S 1048576 hS (by omega) (by omega)
  by_cases c : r < 0
  · exact Ev.bind s0 (evpos c (Ev.now _))
  have sl := s2 (by omega)
  have t := toPlane W H S sl
  obtain ⟨OW, OH, out, hl, h1, h2⟩ := whole_both W H b S sl
  have eo := eqPlane OW OH out (by omega)
  have es := eqPlane W H S (by omega)
  obtain ⟨m, hm, _⟩ := mhIntS S 1 (by omega) (by omega)
  obtain ⟨g, hg1, hg2, hg3⟩ := mhIntS out 1 (by omega) (by omega)
  have hgp : Ev (fun k => laws_heldPlane.f k OW OH g 1) (1 + out.length) := Ev.bind hg2 (evneg (by omega) (Ev.now _))
  refine Ev.bind s0 (evneg c (Ev.bind t (Ev.bind h1 (Ev.bind t (Ev.bind h2 (Ev.bind eo (evpos rfl (Ev.bind t (Ev.bind es (evpos rfl (Ev.bind (a := (1 + (S.length : Int), m)) (Ev.bind hm (Ev.now _)) ?_)))))))))))
  refine evneg (by simp only; omega) (Ev.bind eo ?_)
  refine Ev.step (f := fun k => (laws_markPlane.f k OW OH out 1).bind fun bt199 => ((laws_heldPlane.f k OW OH bt199.2 1).bind fun t201 => (if t201 < 0 then (some false) else (if t201 = bt199.1 then ((laws_toPlane.f k W H S).bind fun bt202 => ((impl_Shrink.f k bt202.1 bt202.2.1 bt202.2.2 b).bind fun bt207 => ((laws_eqPlane.f k bt207.1 bt207.2.1 bt207.2.2 OW OH out).bind fun t213 => (if t213 = true then ((laws_heldPlane.f k OW OH bt199.2 1).bind fun t214 => (if t214 < 0 then (some false) else (if t214 = bt199.1 then (some true) else (some false)))) else (some false))))) else (some false))))) (fun k => by simp only [laws_FnExactShrink.j0, Bool.not_true, Bool.false_eq_true, if_false]) ?_
  refine Ev.bind (a := (1 + (out.length : Int), g)) (Ev.bind hg1 (Ev.now _)) (Ev.bind hgp (evneg (by omega) (evpos rfl ?_)))
  exact Ev.bind t (Ev.bind h2 (Ev.bind eo (evpos rfl (Ev.bind hgp (evneg (by omega) (evpos rfl (Ev.now _)))))))
end Go.Proofs.Ytmnihpedokeggaa.Pure

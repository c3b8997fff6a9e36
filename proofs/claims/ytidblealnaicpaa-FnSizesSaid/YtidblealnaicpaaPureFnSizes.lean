/- FnSizes: Shrink, Grow and Resize of a drawn good plane: sides as told, no sample beyond those that there are, Resize to its own sides is the plane; no condition. -/
import Derived.Test.YtidblealnaicpaaPFnSizesx0
import Derived.Test.YtidblealnaicpaaPFnSizesx1
import Derived.Test.YtidblealnaicpaaPFnSizesx2
import Derived.Test.YtidblealnaicpaaPFnSizesx3
import Derived.Test.YtidblealnaicpaaPFnSizesx4
import Derived.Test.YtidblealnaicpaaPFnSizesx5
import Derived.Test.YtidblealnaicpaaPFnSizesx6
import Derived.Test.YtidblealnaicpaaPFnSizesx7
import Derived.Test.YtidblealnaicpaaPFnSizesx8
import Derived.Test.YtidblealnaicpaaPFnSizesx9
import Derived.Test.YtidblealnaicpaaPFnSizesx10
import Derived.Test.YtidblealnaicpaaPFnSizesx11
import Derived.Test.YtidblealnaicpaaPFnSizesx12
import Derived.Test.YtidblealnaicpaaPFnSizesx13
import Derived.Test.YtidblealnaicpaaPFnSizesx14
import Derived.Test.YtidblealnaicpaaPFnSizesx15
import Derived.Test.YtidblealnaicpaaTFSK
import Derived.Laws.Bits64b

namespace Go.Proofs.Ytidblealnaicpaa.Pure
open Go.RowKit Go.Proofs.Ytidblealnaicpaa.PFnSizes Go.Proofs.Ytidblealnaicpaa.K Go.Proofs.YtidblealnaicpaaW.PrintWords Go.Proofs.YtidblealnaicpaaW.PrintLast Go.Proofs.YtidblealnaicpaaW.PrintMore

/-- The bytes that a cursor reads. -/
structure ByteL (l : List Int) : Prop where
  len : l.length ≤ 1048576
  bd : ∀ x ∈ l, 0 ≤ x ∧ x ≤ 255
theorem bytel {l : List Int} (h : ∀ x ∈ l, (Lit.int .u8 x).wf = true) (hl : ¬ (l.length : Int) > 1048576) : ByteL l := ⟨by omega, fun x hx => wfb (h x hx)⟩
theorem rd_byte {l : List Int} (h : ByteL l) {i : Int} (h0 : 0 ≤ i) (h1 : i < l.length) : 0 ≤ rd l i ∧ rd l i ≤ 255 := by
  obtain ⟨j, rfl⟩ : ∃ j : Nat, i = (j : Int) := ⟨i.toNat, by omega⟩
  rw [rd_nat, getD_lt (show j < l.length by omega)]
  exact h.bd _ (List.getElem_mem _)
theorem and255 (x : Int) : 0 ≤ Go.bits .and .u64 x 255 ∧ Go.bits .and .u64 x 255 ≤ 255 := by
  have e : Go.bits .and .u64 x 255 = IntKind.u64.wrap ((BitVec.ofInt 64 x &&& BitVec.ofInt 64 255).toNat : Int) := rfl
  have h : (BitVec.ofInt 64 x &&& BitVec.ofInt 64 255).toNat ≤ 255 := by
    rw [BitVec.toNat_and]; exact Nat.and_le_right
  rw [e, IntKind.wrap_u64]
  omega
theorem w255 {x : Int} (h : 0 ≤ x ∧ x ≤ 255) : wrap64 x = x := w64 (by omega) (by omega)
theorem next_t {l : List Int} (hl : ByteL l) (a s : Int) (h0 : 0 ≤ a) (h1 : a ≤ 2000000000000) : ∃ v s', spec_l1Cur_next.f l a s = some (v, a + 1, s') ∧ 0 ≤ v ∧ v ≤ 255 := by
  unfold spec_l1Cur_next.f
  rw [show wrap64 (a + 1) = a + 1 from w64 (by omega) (by omega)]
  by_cases c : a < (l.length : Int)
  · rw [if_pos c, if_pos h0, if_pos (by omega)]
    have := rd_byte hl h0 c
    exact ⟨_, _, rfl, by rw [w255 this]; exact this.1, by rw [w255 this]; exact this.2⟩
  · rw [if_neg c, if_neg (by omega)]
    refine ⟨_, _, rfl, ?_, ?_⟩
    · rw [w255 (and255 _)]; exact (and255 _).1
    · rw [w255 (and255 _)]; exact (and255 _).2
theorem pick_t {l : List Int} (hl : ByteL l) (a s n : Int) (hn : 1 ≤ n) (h0 : 0 ≤ a) (h1 : a ≤ 1000000000000) : ∃ r a' s', spec_l1Cur_pick.f l a s n = some (r, a', s') ∧ 0 ≤ r ∧ r < n ∧ a ≤ a' ∧ a' ≤ a + 3 := by
  unfold spec_l1Cur_pick.f
  by_cases c : n ≤ 1
  · rw [if_pos c]
    exact ⟨0, a, s, rfl, by omega, by omega, by omega, by omega⟩
  rw [if_neg c]
  have nz : ¬ n = 0 := by omega
  obtain ⟨v, s1, e1, v0, v1⟩ := next_t hl a s h0 (by omega)
  rw [e1, Option.bind_some]
  have fin : ∀ x : Int, 0 ≤ x → 0 ≤ Int.tmod x n ∧ Int.tmod x n < n := fun x hx => ⟨Int.tmod_nonneg _ hx, Int.tmod_lt_of_pos _ (by omega)⟩
  by_cases c2 : n > 200
  · rw [if_pos c2]
    obtain ⟨u, s2, e2, u0, u1⟩ := next_t hl (a + 1) s1 (by omega) (by omega)
    simp only [e2, Option.bind_some]
    rw [w64 (n := v * 256) (by omega) (by omega), w64 (n := v * 256 + u) (by omega) (by omega)]
    by_cases c3 : n > 50000
    · rw [if_pos c3]
      obtain ⟨t, s3, e3, t0, t1⟩ := next_t hl (a + 1 + 1) s2 (by omega) (by omega)
      simp only [e3, Option.bind_some]
      rw [if_neg nz, w64 (n := (v * 256 + u) * 256) (by omega) (by omega), w64 (n := (v * 256 + u) * 256 + t) (by omega) (by omega)]
      exact ⟨_, _, _, rfl, (fin _ (by omega)).1, (fin _ (by omega)).2, by omega, by omega⟩
    · rw [if_neg c3, if_neg nz]
      exact ⟨_, _, _, rfl, (fin _ (by omega)).1, (fin _ (by omega)).2, by omega, by omega⟩
  · rw [if_neg c2, if_neg (by omega), if_neg nz]
    exact ⟨_, a + 1, s1, rfl, (fin _ (by omega)).1, (fin _ (by omega)).2, by omega, by omega⟩
theorem one_t {l : List Int} (hl : ByteL l) (a s n : Int) (hn : 1 ≤ n) (h0 : 0 ≤ a) (h1 : a ≤ 1000000000000) : ∃ (b : Bool) (a' s' : Int), spec_l1Cur_one.f l a s n = some (b, a', s') ∧ a ≤ a' ∧ a' ≤ a + 3 := by
  obtain ⟨r, a', s', e, _, _, h2, h3⟩ := pick_t hl a s n hn h0 h1
  unfold spec_l1Cur_one.f
  rw [e]
  exact ⟨_, _, _, rfl, h2, h3⟩
theorem set_bd {o : List Int} {i : Nat} {v m : Int} (hb : ∀ x ∈ o, 0 ≤ x ∧ x ≤ m) (h0 : 0 ≤ v) (h1 : v ≤ m) : ∀ x ∈ o.set i v, 0 ≤ x ∧ x ≤ m := by
  intro x hx
  rcases List.mem_or_eq_of_mem_set hx with hx | rfl
  · exact hb x hx
  · exact ⟨h0, h1⟩
theorem samples_loop {l : List Int} (hl : ByteL l) (W P top dx dy base noise : Int) (hW : ¬ W = 0) (hP : ¬ P = 0) (ht0 : 1 ≤ top) (ht1 : top ≤ 65535) (n : Nat) (hn : n ≤ 1000000) :
    ∀ (o : List Int) (a s : Int), o.length = n → (∀ x ∈ o, 0 ≤ x ∧ x ≤ top) → 0 ≤ a → a ≤ 200000000000 → ∃ (o' : List Int) (a' s' : Int), Ev (fun k => spec_l1Cur_samples.l0 k W P top o dx dy base noise (n : Int) ((0 : Nat) : Int) l a s) (o', a', s') ∧ o'.length = n ∧ (∀ x ∈ o', 0 ≤ x ∧ x ≤ top) ∧ a ≤ a' ∧ a' ≤ a + 6 * n := by
  have main := down (n := n) (P := fun i => ∀ (o : List Int) (a s : Int), o.length = n → (∀ x ∈ o, 0 ≤ x ∧ x ≤ top) → 0 ≤ a → a ≤ 200000000000 + 6 * i → ∃ (o' : List Int) (a' s' : Int), Ev (fun k => spec_l1Cur_samples.l0 k W P top o dx dy base noise (n : Int) (i : Int) l a s) (o', a', s') ∧ o'.length = n ∧ (∀ x ∈ o', 0 ≤ x ∧ x ≤ top) ∧ a ≤ a' ∧ a' ≤ a + 6 * (n - i : Int)) ?_ ?_
  · intro o a s ho hb h0 h1
    obtain ⟨o', a', s', e, h2, h3, h4, h5⟩ := main o a s ho hb h0 (by omega)
    exact ⟨o', a', s', e, h2, h3, h4, by omega⟩
  · intro o a s ho hb h0 h1
    exact ⟨o, a, s, Ev.step (fun k => rfl) (evneg (by omega) (Ev.now _)), ho, hb, by omega, by omega⟩
  · intro i hi ih o a s ho hb h0 h1
    have f0 : (0 : Int) ≤ (i : Int) := by omega
    have f1 : (i : Int) < (o.length : Int) := by omega
    have tn : ((i : Int)).toNat = i := Int.toNat_natCast i
    have j4 : ∀ (y a s : Int), 0 ≤ a → a ≤ 200000000000 + 6 * (i + 1) → ∃ (o' : List Int) (a' s' : Int), Ev (fun k => spec_l1Cur_samples.j4 k W P top o dx dy base noise (i : Int) y (n : Int) (i : Int) l a s) (o', a', s') ∧ o'.length = n ∧ (∀ x ∈ o', 0 ≤ x ∧ x ≤ top) ∧ a ≤ a' ∧ a' ≤ a + 6 * (n - i - 1 : Int) := by
      intro y a s h0 h1
      have st : ∀ v : Int, 0 ≤ v → v ≤ top → ∃ (o' : List Int) (a' s' : Int), Ev (fun k => spec_l1Cur_samples.l0 k W P top (o.set (i : Int).toNat v) dx dy base noise (n : Int) (wrap64 ((i : Int) + 1)) l a s) (o', a', s') ∧ o'.length = n ∧ (∀ x ∈ o', 0 ≤ x ∧ x ≤ top) ∧ a ≤ a' ∧ a' ≤ a + 6 * (n - i - 1 : Int) := by
        intro v v0 v1
        obtain ⟨o', a', s', e, h2, h3, h4, h5⟩ := ih (o.set i v) a s (by simpa using ho) (set_bd hb v0 v1) h0 (by omega)
        refine ⟨o', a', s', ?_, h2, h3, h4, by omega⟩
        rw [w64s (by omega), tn]; exact e
      by_cases c1 : y < 0
      · by_cases c2 : 0 > top
        · omega
        · obtain ⟨o', a', s', e, h⟩ := st 0 (by omega) (by omega)
          exact ⟨o', a', s', Ev.step (fun k => rfl) (evpos c1 (evneg c2 (evpos f0 (evpos f1 e)))), h⟩
      · by_cases c2 : y > top
        · obtain ⟨o', a', s', e, h⟩ := st top (by omega) (by omega)
          exact ⟨o', a', s', Ev.step (fun k => rfl) (evneg c1 (evpos c2 (evpos f0 (evpos f1 e)))), h⟩
        · obtain ⟨o', a', s', e, h⟩ := st y (by omega) (by omega)
          exact ⟨o', a', s', Ev.step (fun k => rfl) (evneg c1 (evneg c2 (evpos f0 (evpos f1 e)))), h⟩
    have j3 : ∀ (y a s : Int), 0 ≤ a → a ≤ 200000000000 + 6 * i + 3 → ∃ (o' : List Int) (a' s' : Int), Ev (fun k => spec_l1Cur_samples.j3 k W P top o dx dy base noise (i : Int) y (n : Int) (i : Int) l a s) (o', a', s') ∧ o'.length = n ∧ (∀ x ∈ o', 0 ≤ x ∧ x ≤ top) ∧ a ≤ a' ∧ a' ≤ a + 6 * (n - i - 1 : Int) + 3 := by
      intro y a s h0 h1
      by_cases c1 : noise = 3
      · obtain ⟨r, a1, s1, e1, r0, r1, p0, p1⟩ := pick_t hl a s (top + 1) (by omega) h0 (by omega)
        obtain ⟨o', a', s', e, h2, h3, h4, h5⟩ := j4 r a1 s1 (by omega) (by omega)
        refine ⟨o', a', s', Ev.step (fun k => rfl) (evpos c1 ?_), h2, h3, by omega, by omega⟩
        rw [show wrap64 (top + 1) = top + 1 from w64 (by omega) (by omega)]
        exact evlet e1 e
      · obtain ⟨o', a', s', e, h2, h3, h4, h5⟩ := j4 y a s h0 (by omega)
        exact ⟨o', a', s', Ev.step (fun k => rfl) (evneg c1 e), h2, h3, by omega, by omega⟩
    have j1 : ∀ (u y a s : Int), 0 ≤ a → a ≤ 200000000000 + 6 * i + 3 → ∃ (o' : List Int) (a' s' : Int), Ev (fun k => spec_l1Cur_samples.j1 k W P top o dx dy base noise (i : Int) u y (n : Int) (i : Int) l a s) (o', a', s') ∧ o'.length = n ∧ (∀ x ∈ o', 0 ≤ x ∧ x ≤ top) ∧ a ≤ a' ∧ a' ≤ a + 6 * (n - i - 1 : Int) + 3 := by
      intro u y a s h0 h1
      have j2 : ∀ b : Bool, ∃ (o' : List Int) (a' s' : Int), Ev (fun k => spec_l1Cur_samples.j2 k W P top o dx dy base noise (i : Int) y (n : Int) (i : Int) b l a s) (o', a', s') ∧ o'.length = n ∧ (∀ x ∈ o', 0 ≤ x ∧ x ≤ top) ∧ a ≤ a' ∧ a' ≤ a + 6 * (n - i - 1 : Int) + 3 := by
        intro b
        cases b with
        | true =>
          obtain ⟨o', a', s', e, h⟩ := j3 (wrap64 (top - y)) a s h0 h1
          exact ⟨o', a', s', Ev.step (fun k => rfl) e, h⟩
        | false =>
          obtain ⟨o', a', s', e, h⟩ := j3 y a s h0 h1
          exact ⟨o', a', s', Ev.step (fun k => rfl) e, h⟩
      by_cases c1 : noise = 2
      · obtain ⟨o', a', s', e, h⟩ := j2 (decide (u > wrap64 (Int.tdiv W 2)))
        exact ⟨o', a', s', Ev.step (fun k => rfl) (evpos c1 e), h⟩
      · obtain ⟨o', a', s', e, h⟩ := j2 false
        exact ⟨o', a', s', Ev.step (fun k => rfl) (evneg c1 e), h⟩
    by_cases c1 : noise = 1
    · obtain ⟨r, a1, s1, e1, r0, r1, p0, p1⟩ := pick_t hl a s 9 (by omega) h0 (by omega)
      obtain ⟨o', a', s', e, h2, h3, h4, h5⟩ := j1 (Int.tmod (wrap64 (Int.tdiv (i : Int) P)) W) (wrap64 ((wrap64 ((wrap64 ((wrap64 (base + (wrap64 ((Int.tmod (wrap64 (Int.tdiv (i : Int) P)) W) * dx)))) + (wrap64 ((wrap64 (Int.tdiv (wrap64 (Int.tdiv (i : Int) P)) W)) * dy)))) + (wrap64 ((Int.tmod (i : Int) P) * 20)))) + r)) a1 s1 (by omega) (by omega)
      exact ⟨o', a', s', Ev.step (fun k => rfl) (evpos (by omega) (evneg hP (evneg hW (evpos c1 (evlet e1 e))))), h2, h3, by omega, by omega⟩
    · obtain ⟨o', a', s', e, h2, h3, h4, h5⟩ := j1 (Int.tmod (wrap64 (Int.tdiv (i : Int) P)) W) (wrap64 ((wrap64 ((wrap64 (base + (wrap64 ((Int.tmod (wrap64 (Int.tdiv (i : Int) P)) W) * dx)))) + (wrap64 ((wrap64 (Int.tdiv (wrap64 (Int.tdiv (i : Int) P)) W)) * dy)))) + (wrap64 ((Int.tmod (i : Int) P) * 20)))) a s (by omega) (by omega)
      exact ⟨o', a', s', Ev.step (fun k => rfl) (evpos (by omega) (evneg hP (evneg hW (evneg c1 e)))), h2, h3, by omega, by omega⟩
theorem samples_t {l : List Int} (hl : ByteL l) (a s d T : Int) (W H P : Nat) (hT : shl .i64 1 (IntKind.u64.wrap d) = T) (hd : 0 ≤ IntKind.u64.wrap d) (hT0 : 2 ≤ T) (hT1 : T ≤ 65536) (hP : 1 ≤ P) (hwh : W * H * P ≤ 1000000) (h0 : 0 ≤ a) (h1 : a ≤ 100000000000) :
    ∃ (o : List Int) (a' s' : Int), Ev (fun k => spec_l1Cur_samples.f k l a s (W : Int) (H : Int) (P : Int) d) (o, a', s') ∧ o.length = W * H * P ∧ (∀ x ∈ o, 0 ≤ x ∧ x ≤ T - 1) ∧ a ≤ a' ∧ a' ≤ a + 12 + 6 * (W * H * P : Nat) := by
  have hwh2 : W * H ≤ 1000000 := Nat.le_trans (Nat.le_mul_of_pos_right _ hP) hwh
  have en : wrap64 (wrap64 ((W : Int) * (H : Int)) * (P : Int)) = ((W * H * P : Nat) : Int) := by
    rw [show (W : Int) * (H : Int) = ((W * H : Nat) : Int) by push_cast; rfl, w64 (n := ((W * H : Nat) : Int)) (by omega) (by omega), show ((W * H : Nat) : Int) * (P : Int) = ((W * H * P : Nat) : Int) by push_cast; rfl, w64 (by omega) (by omega)]
  obtain ⟨r1, a1, s1, e1, _, _, p1, q1⟩ := pick_t hl a s 30 (by omega) h0 (by omega)
  obtain ⟨r2, a2, s2, e2, _, _, p2, q2⟩ := pick_t hl a1 s1 30 (by omega) (by omega) (by omega)
  obtain ⟨r3, a3, s3, e3, _, _, p3, q3⟩ := pick_t hl a2 s2 T (by omega) (by omega) (by omega)
  obtain ⟨r4, a4, s4, e4, _, _, p4, q4⟩ := pick_t hl a3 s3 4 (by omega) (by omega) (by omega)
  have top : wrap64 (T - 1) = T - 1 := w64 (by omega) (by omega)
  have top1 : wrap64 (T - 1 + 1) = T := by rw [w64 (by omega) (by omega)]; omega
  have hlen : (List.replicate (W * H * P) (0 : Int)).length = W * H * P := by simp
  have hz : ∀ x ∈ List.replicate (W * H * P) (0 : Int), 0 ≤ x ∧ x ≤ T - 1 := fun x hx => by rw [List.eq_of_mem_replicate hx]; omega
  suffices hs : ∃ (o : List Int) (a' s' : Int), Ev (fun k => spec_l1Cur_samples.l0 k (W : Int) (P : Int) (T - 1) (List.replicate (W * H * P) 0) (wrap64 (r1 - 15)) (wrap64 (r2 - 15)) r3 r4 ((W * H * P : Nat) : Int) ((0 : Nat) : Int) l a4 s4) (o, a', s') ∧ o.length = W * H * P ∧ (∀ x ∈ o, 0 ≤ x ∧ x ≤ T - 1) ∧ a4 ≤ a' ∧ a' ≤ a4 + 6 * (W * H * P : Nat) by
    obtain ⟨o, a', s', e, h2, h3, h4, h5⟩ := hs
    refine ⟨o, a', s', ?_, h2, h3, by omega, by omega⟩
    unfold spec_l1Cur_samples.f
    rw [hT, en, top, top1, Int.toNat_natCast]
    refine evpos hd (evpos (by omega) (evpos (by omega) (evlet rfl (evlet e1 (evlet e2 (evlet e3 (evlet e4 ?_)))))))
    simp only [hlen]
    exact e
  by_cases c : W * H * P = 0
  · refine ⟨List.replicate (W * H * P) 0, a4, s4, Ev.step (fun k => rfl) (evneg (by omega) (Ev.now _)), hlen, hz, by omega, by omega⟩
  · exact samples_loop hl (W : Int) (P : Int) (T - 1) _ _ _ _ (by rintro h; obtain rfl : W = 0 := by omega
                                                                  simp at c) (by omega) (by omega) (by omega) (W * H * P) hwh _ a4 s4 hlen hz (by omega) (by omega)
/-- A good plane, in numbers. -/
structure Pl (W H : Int) (S : List Int) : Prop where
  w : 1 ≤ W ∧ W ≤ 512
  h : 1 ≤ H ∧ H ≤ 512
  wh : W * H ≤ 4096
  len : (S.length : Int) = W * H
  v : ∀ j : Nat, j < S.length → 0 ≤ rd S (j : Int) ∧ rd S (j : Int) ≤ 255
theorem plane_both (W H : Int) (S : List Int) (hS : S.length ≤ 1048576) : ∃ q : Bool, Ev (fun k => spec_GoodPlane.f k W H S) q ∧ Ev (fun k => impl_GoodPlane.f k W H S) q ∧ (q = true → Pl W H S) := by
  have sp : spec_l7Sides.f W H = some (decide (((1 ≤ W ∧ W ≤ 512) ∧ 1 ≤ H ∧ H ≤ 512) ∧ wrap64 (W * H) ≤ 4096)) := by
    have g : spec_l4Sides.f W H = some (decide ((1 ≤ W ∧ W ≤ 512) ∧ 1 ≤ H ∧ H ≤ 512)) := by
      unfold spec_l4Sides.f
      repeat' split
      all_goals first | (rw [decide_eq_false (by omega)]; done) | exact congrArg some (decide_eq_decide.2 (by omega))
    unfold spec_l7Sides.f
    rw [g, Option.bind_some]
    by_cases c : (1 ≤ W ∧ W ≤ 512) ∧ 1 ≤ H ∧ H ≤ 512
    · rw [decide_eq_true c, if_pos rfl]
      exact congrArg some (decide_eq_decide.2 (by omega))
    · rw [decide_eq_false c, if_neg (by simp), decide_eq_false (by omega)]
  have im : impl_goodSides.f W H = some (decide (((1 ≤ W ∧ W ≤ 512) ∧ 1 ≤ H ∧ H ≤ 512) ∧ wrap64 (W * H) ≤ 4096)) := by
    have g : ∀ a, impl_goodSide.f a = some (decide (1 ≤ a ∧ a ≤ 512)) := by
      intro a
      unfold impl_goodSide.f
      split
      · exact congrArg some (decide_eq_decide.2 (by omega))
      · rw [decide_eq_false (by omega)]
    unfold impl_goodSides.f
    rw [g, g, Option.bind_some, Option.bind_some]
    by_cases c1 : 1 ≤ W ∧ W ≤ 512
    · rw [decide_eq_true c1, if_pos rfl]
      by_cases c2 : 1 ≤ H ∧ H ≤ 512
      · rw [decide_eq_true c2, if_pos rfl]
        exact congrArg some (decide_eq_decide.2 (by omega))
      · rw [decide_eq_false c2, if_neg (by simp), decide_eq_false (by omega)]
    · rw [decide_eq_false c1, if_neg (by simp), decide_eq_false (by omega)]
  have st : Ev (fun k => spec_GoodPlane.j0 k true W H S) false := Ev.step (f := fun _ => some false) (fun k => by simp only [spec_GoodPlane.j0, if_true]) (Ev.now _)
  by_cases c : ((1 ≤ W ∧ W ≤ 512) ∧ 1 ≤ H ∧ H ≤ 512) ∧ wrap64 (W * H) ≤ 4096
  case neg =>
    rw [decide_eq_false c] at sp im
    exact ⟨false, evlet sp (evneg (by simp) st), evlet im (evneg (by simp) (Ev.now _)), fun h => (by cases h)⟩
  rw [decide_eq_true c] at sp im
  have wm : wrap64 (W * H) = W * H := by
    have := Int.mul_le_mul c.1.1.2 c.1.2.2 (by omega) (by omega)
    have := Int.mul_nonneg (show 0 ≤ W by omega) (show 0 ≤ H by omega)
    exact w64 (by omega) (by omega)
  by_cases e : (S.length : Int) = wrap64 (W * H)
  case neg =>
    refine ⟨false, evlet sp (evpos rfl ?_), evlet im (evpos rfl (evneg e (Ev.now _))), fun h => (by cases h)⟩
    rw [bne_iff_ne.mpr e]; exact st
  have main := down (n := S.length) (P := fun i => ∃ q : Bool, Ev (fun k => spec_GoodPlane.l0 k S (S.length : Int) (i : Int)) q ∧ Ev (fun k => impl_inRange.l0 k 255 S (S.length : Int) (i : Int)) q ∧ (q = true → ∀ j : Nat, i ≤ j → j < S.length → 0 ≤ rd S (j : Int) ∧ rd S (j : Int) ≤ 255)) ?_ ?_
  · obtain ⟨q, g1, g2, g3⟩ := main
    refine ⟨q, evlet sp (evpos rfl ?_), evlet im (evpos rfl (evpos e (Ev.bind g2 (Ev.now _)))), fun hq => ⟨c.1.1, c.1.2, by rw [← wm]; exact c.2, by rw [e, wm], fun j hj => g3 hq j (Nat.zero_le _) hj⟩⟩
    rw [bne_eq_false_iff_eq.mpr e]
    exact Ev.step (f := fun k => spec_GoodPlane.l0 k S (S.length : Int) 0) (fun k => by simp only [spec_GoodPlane.j0, Bool.false_eq_true, if_false]) g1
  · exact ⟨true, Ev.step (fun k => rfl) (evneg (by omega) (Ev.now _)), Ev.step (fun k => rfl) (evneg (by omega) (Ev.now _)), fun _ j h1 h2 => absurd h2 (by omega)⟩
  · intro i hi ⟨b, h1, h2, h3⟩
    by_cases c1 : rd S (i : Int) < 0
    · exact ⟨false, Ev.step (fun k => rfl) (evpos (by omega) (evpos (by omega) (evpos (by omega) (evpos c1 (Ev.now _))))), Ev.step (fun k => rfl) (evpos (by omega) (evpos (by omega) (evpos (by omega) (evpos c1 (Ev.now _))))), fun h => (by cases h)⟩
    by_cases c2 : rd S (i : Int) > 255
    · exact ⟨false, Ev.step (fun k => rfl) (evpos (by omega) (evpos (by omega) (evpos (by omega) (evneg c1 (evpos c2 (Ev.now _)))))), Ev.step (fun k => rfl) (evpos (by omega) (evpos (by omega) (evpos (by omega) (evneg c1 (evpos c2 (Ev.now _)))))), fun h => (by cases h)⟩
    refine ⟨b, Ev.step (fun k => rfl) (evpos (by omega) (evpos (by omega) (evpos (by omega) (evneg c1 (evneg c2 ?_))))), Ev.step (fun k => rfl) (evpos (by omega) (evpos (by omega) (evpos (by omega) (evneg c1 (evneg c2 ?_))))), fun hb j j1 j2 => ?_⟩
    · rw [w64s (by omega)]; exact h1
    · rw [w64s (by omega)]; exact h2
    · rcases Nat.lt_or_ge i j with c | c
      · exact h3 hb j (by omega) j2
      · rw [show j = i by omega]; omega
theorem mn_of (a b : Int) : mn a b = min a b := by unfold mn; omega
structure Ok (b W H : Int) (S : List Int) : Prop where
  b : b = 2 ∨ b = 4
  w : 1 ≤ W ∧ W ≤ 512
  h : 1 ≤ H ∧ H ≤ 512
  s : (S.length : Int) = W * H
theorem at_in {b W H : Int} {S : List Int} (o : Ok b W H S) {i j : Nat} (hi : (i : Int) < W) (hj : (j : Int) < H) : 0 ≤ wrap64 (wrap64 ((j : Int) * W) + i) ∧ wrap64 (wrap64 ((j : Int) * W) + i) < (S.length : Int) := by
  obtain ⟨_, hw, hh, hs⟩ := o
  have m1 : (j : Int) * W ≤ (H - 1) * W := Int.mul_le_mul_of_nonneg_right (by omega) (by omega)
  have m0 : 0 ≤ (j : Int) * W := Int.mul_nonneg (by omega) (by omega)
  have m2 : (H - 1) * W = W * H - W := by rw [Int.sub_mul, Int.one_mul, Int.mul_comm]
  have m3 : W * H ≤ 512 * 512 := by
    have := Int.mul_le_mul hw.2 hh.2 (by omega) (by omega)
    omega
  rw [w64 (n := (j : Int) * W) (by omega) (by omega), w64 (by omega) (by omega)]
  omega
/-- All samples lie between two numbers. -/
structure Bd (lo hi : Int) (S : List Int) : Prop where
  lo0 : 0 ≤ lo
  hi1 : hi ≤ 255
  v : ∀ j : Nat, j < S.length → lo ≤ rd S (j : Int) ∧ rd S (j : Int) ≤ hi
theorem Bd.at_ {lo hi : Int} {S : List Int} (h : Bd lo hi S) {z : Int} (h0 : 0 ≤ z) (h1 : z < (S.length : Int)) : lo ≤ rd S z ∧ rd S z ≤ hi := by
  have := h.v z.toNat (by omega)
  rw [show ((z.toNat : Nat) : Int) = z by omega] at this
  exact this
/-- A sum of n such samples. -/
def G (lo hi n s : Int) : Prop := n * lo ≤ s ∧ s ≤ n * hi
theorem G.range {lo hi n s : Int} (h : G lo hi n s) (h0 : 0 ≤ lo) (h1 : hi ≤ 255) (hn : 0 ≤ n) : 0 ≤ s ∧ s ≤ 255 * n := by
  have a := Int.mul_nonneg hn h0
  have b := Int.mul_le_mul_of_nonneg_left h1 hn
  obtain ⟨c, d⟩ := h
  omega
theorem G.step {lo hi n s v : Int} (h : G lo hi n s) (h0 : lo ≤ v) (h1 : v ≤ hi) : G lo hi (n + 1) (s + v) := by
  obtain ⟨c, d⟩ := h
  exact ⟨by rw [Int.add_mul, Int.one_mul]; omega, by rw [Int.add_mul, Int.one_mul]; omega⟩
theorem G.mean {lo hi n s : Int} (h : G lo hi n s) (h0 : 0 ≤ lo) (h1 : hi ≤ 255) (hn : 1 ≤ n) (hn2 : n ≤ 1000000) : lo ≤ wrap64 (Int.tdiv (wrap64 (s + wrap64 (Int.tdiv n 2))) n) ∧ wrap64 (Int.tdiv (wrap64 (s + wrap64 (Int.tdiv n 2))) n) ≤ hi := by
  obtain ⟨r0, r1⟩ := h.range h0 h1 (by omega)
  obtain ⟨c, d⟩ := h
  have e1 : wrap64 (Int.tdiv n 2) = n / 2 := by rw [Int.tdiv_eq_ediv_of_nonneg (by omega)]; exact w64 (by omega) (by omega)
  have e2 : wrap64 (s + n / 2) = s + n / 2 := w64 (by omega) (by omega)
  rw [e1, e2, Int.tdiv_eq_ediv_of_nonneg (by omega)]
  have a1 : lo ≤ (s + n / 2) / n := Int.le_ediv_of_mul_le (by omega) (by rw [Int.mul_comm]; omega)
  have a2 : (s + n / 2) / n < hi + 1 := Int.ediv_lt_of_lt_mul (by omega) (by rw [Int.add_mul, Int.one_mul, Int.mul_comm]; omega)
  clear e1 e2 c d
  rw [w64 (by omega) (by omega)]
  omega
theorem l3_both {lo hi : Int} {b W H : Int} {S : List Int} (q : Bd lo hi S) (o : Ok b W H S) (OW OH : Int) (out : List Int) (y x j e : Nat) (hj : (j : Int) < H) (hx : (x : Int) * b < W) (he : (e : Int) = min W ((x : Int) * b + b)) (i : Nat) (hie : i ≤ e) :
    ∀ s n : Int, 0 ≤ n → n ≤ 100000 + i → G lo hi n s → ∃ s', G lo hi (n + (e : Int) - (i : Int)) s' ∧ (∀ r, Ev (fun k => spec_l7Shrink.l2 k b (y : Int) (x : Int) s' (n + (e : Int) - (i : Int)) ((j + 1 : Nat) : Int) W H S OW OH out) r → Ev (fun k => spec_l7Shrink.l3 k b (y : Int) (x : Int) s n (j : Int) (i : Int) W H S OW OH out) r) ∧
      (∀ r, Ev (fun k => impl_Shrink.l2 k b (y : Int) (x : Int) s' (n + (e : Int) - (i : Int)) ((j + 1 : Nat) : Int) OH (y : Int) OW (x : Int) W H S OW OH out) r → Ev (fun k => impl_Shrink.l3 k b (y : Int) (x : Int) s n (j : Int) (i : Int) OH (y : Int) OW (x : Int) W H S OW OH out) r) := by
  have hw := o.w
  have hh := o.h
  have x0 : 0 ≤ (x : Int) * b := by rcases o.b with rfl | rfl <;> omega
  have xs : (x : Int) ≤ 512 := by rcases o.b with rfl | rfl <;> omega
  have e1 : wrap64 (wrap64 ((x : Int) * b) + b) = (x : Int) * b + b := by
    rw [w64 (n := (x : Int) * b) (by omega) (by omega), w64 (by rcases o.b with rfl | rfl <;> omega) (by rcases o.b with rfl | rfl <;> omega)]
  have e2 : mn W (wrap64 (wrap64 ((x : Int) + 1) * b)) = (e : Int) := by
    rw [w64 (n := (x : Int) + 1) (by omega) (by omega), Int.add_mul, Int.one_mul, w64 (by rcases o.b with rfl | rfl <;> omega) (by rcases o.b with rfl | rfl <;> omega), mn_of, he]
  refine down_to (n := e) (P := fun i => ∀ s n : Int, 0 ≤ n → n ≤ 100000 + i → G lo hi n s → ∃ s', G lo hi (n + (e : Int) - (i : Int)) s' ∧ (∀ r, Ev (fun k => spec_l7Shrink.l2 k b (y : Int) (x : Int) s' (n + (e : Int) - (i : Int)) ((j + 1 : Nat) : Int) W H S OW OH out) r → Ev (fun k => spec_l7Shrink.l3 k b (y : Int) (x : Int) s n (j : Int) (i : Int) W H S OW OH out) r) ∧
      (∀ r, Ev (fun k => impl_Shrink.l2 k b (y : Int) (x : Int) s' (n + (e : Int) - (i : Int)) ((j + 1 : Nat) : Int) OH (y : Int) OW (x : Int) W H S OW OH out) r → Ev (fun k => impl_Shrink.l3 k b (y : Int) (x : Int) s n (j : Int) (i : Int) OH (y : Int) OW (x : Int) W H S OW OH out) r)) ?_ ?_ i hie
  · intro s n h0 h1 hg
    refine ⟨s, by rw [Int.add_sub_cancel]; exact hg, fun r h => ?_, fun r h => ?_⟩
    · rw [Int.add_sub_cancel] at h
      refine Ev.step (fun k => rfl) ?_
      simp only [spec_l7Shrink.l3]
      rw [e1, w64s (i := j) (by omega)]
      by_cases c : (e : Int) < (x : Int) * b + b
      · exact evpos c (evneg (by omega) h)
      · exact evneg c h
    · rw [Int.add_sub_cancel] at h
      refine Ev.step (fun k => rfl) ?_
      simp only [impl_Shrink.l3]
      rw [e2, w64s (i := j) (by omega)]
      exact evneg (by omega) h
  · intro i hil ih s n h0 h1 hg
    have ai := at_in o (i := i) (j := j) (by omega) hj
    have av := q.at_ ai.1 ai.2
    have hr := hg.range q.lo0 q.hi1 h0
    have q0 := q.lo0
    have q1 := q.hi1
    obtain ⟨s', gg, g1, g2⟩ := ih (wrap64 (s + rd S (wrap64 (wrap64 ((j : Int) * W) + i)))) (n + 1) (by omega) (by omega) (by rw [w64 (n := s + rd S (wrap64 (wrap64 ((j : Int) * W) + i))) (by omega) (by omega)]; exact hg.step av.1 av.2)
    rw [show n + 1 + (e : Int) - ((i + 1 : Nat) : Int) = n + (e : Int) - (i : Int) by omega] at gg g1 g2
    refine ⟨s', gg, fun r h => ?_, fun r h => ?_⟩
    · refine Ev.step (fun k => rfl) ?_
      simp only [spec_l7Shrink.l3]
      rw [e1]
      refine evpos (by omega) (evpos (by omega) (evpos ai.1 (evpos ai.2 ?_)))
      rw [w64s (by omega), w64 (n := n + 1) (by omega) (by omega)]
      exact g1 r h
    · refine Ev.step (fun k => rfl) ?_
      simp only [impl_Shrink.l3]
      rw [e2]
      refine evpos (by omega) (evpos ai.1 (evpos ai.2 ?_))
      rw [w64s (by omega), w64 (n := n + 1) (by omega) (by omega)]
      exact g2 r h
theorem l2_both {lo hi : Int} {b W H : Int} {S : List Int} (q : Bd lo hi S) (o : Ok b W H S) (OW OH : Int) (out : List Int) (y x f : Nat) (hy : (y : Int) * b < H) (hx : (x : Int) * b < W) (hf : (f : Int) = min H ((y : Int) * b + b)) (ho : out.length < 1000000) :
    ∃ v, (lo ≤ v ∧ v ≤ hi) ∧ (∀ r, Ev (fun k => spec_l7Shrink.l1 k b (y : Int) ((x + 1 : Nat) : Int) W H S OW OH (out ++ [v])) r → Ev (fun k => spec_l7Shrink.l2 k b (y : Int) (x : Int) 0 0 ((y : Int) * b) W H S OW OH out) r) ∧
      (∀ r, Ev (fun k => impl_Shrink.l1 k b (y : Int) OH (y : Int) OW ((x + 1 : Nat) : Int) W H S OW OH (out ++ [v])) r → Ev (fun k => impl_Shrink.l2 k b (y : Int) (x : Int) 0 0 ((y : Int) * b) OH (y : Int) OW (x : Int) W H S OW OH out) r) := by
  have hw := o.w
  have hh := o.h
  have y0 : 0 ≤ (y : Int) * b := by rcases o.b with rfl | rfl <;> omega
  have ys : (y : Int) ≤ 512 := by rcases o.b with rfl | rfl <;> omega
  have x0 : 0 ≤ (x : Int) * b := by rcases o.b with rfl | rfl <;> omega
  have xs : (x : Int) ≤ 512 := by rcases o.b with rfl | rfl <;> omega
  have b0 : 2 ≤ b ∧ b ≤ 4 := by rcases o.b with rfl | rfl <;> omega
  obtain ⟨e, he⟩ : ∃ e : Nat, (e : Int) = min W ((x : Int) * b + b) := ⟨(min W ((x : Int) * b + b)).toNat, by omega⟩
  obtain ⟨xb, hxb⟩ : ∃ q : Nat, (q : Int) = (x : Int) * b := ⟨((x : Int) * b).toNat, by omega⟩
  obtain ⟨yb, hyb⟩ : ∃ q : Nat, (q : Int) = (y : Int) * b := ⟨((y : Int) * b).toNat, by omega⟩
  have e1 : wrap64 (wrap64 ((y : Int) * b) + b) = (y : Int) * b + b := by
    rw [w64 (n := (y : Int) * b) (by omega) (by omega), w64 (by omega) (by omega)]
  have e2 : mn H (wrap64 (wrap64 ((y : Int) + 1) * b)) = (f : Int) := by
    rw [w64 (n := (y : Int) + 1) (by omega) (by omega), Int.add_mul, Int.one_mul, w64 (by omega) (by omega), mn_of, hf]
  have e3 : wrap64 ((x : Int) * b) = (xb : Int) := by rw [w64 (by omega) (by omega), hxb]
  have main := down_to (n := f) (P := fun j => ∀ s n : Int, 0 ≤ n → n ≤ (j : Int) * 16 → (n ≥ 1 ∨ j < f) → G lo hi n s → ∃ v, (lo ≤ v ∧ v ≤ hi) ∧ (∀ r, Ev (fun k => spec_l7Shrink.l1 k b (y : Int) ((x + 1 : Nat) : Int) W H S OW OH (out ++ [v])) r → Ev (fun k => spec_l7Shrink.l2 k b (y : Int) (x : Int) s n (j : Int) W H S OW OH out) r) ∧
      (∀ r, Ev (fun k => impl_Shrink.l1 k b (y : Int) OH (y : Int) OW ((x + 1 : Nat) : Int) W H S OW OH (out ++ [v])) r → Ev (fun k => impl_Shrink.l2 k b (y : Int) (x : Int) s n (j : Int) OH (y : Int) OW (x : Int) W H S OW OH out) r)) ?_ ?_ yb (by omega) 0 0 (by omega) (by omega) (.inr (by omega)) ⟨by omega, by omega⟩
  · rw [← hyb]; exact main
  · intro s n h0 h1 h2 hg
    have hn : ¬ n = 0 := by omega
    refine ⟨wrap64 (Int.tdiv (wrap64 (s + wrap64 (Int.tdiv n 2))) n), hg.mean q.lo0 q.hi1 (by omega) (by omega), fun r h => ?_, fun r h => ?_⟩
    · have j3 : Ev (fun k => spec_l7Shrink.j3 k b (y : Int) (x : Int) s n (f : Int) false W H S OW OH out) r := by
        refine Ev.step (f := fun k => if n = 0 then none else if out.length < 17592186044416 then spec_l7Shrink.l1 k b (y : Int) (wrap64 ((x : Int) + 1)) W H S OW OH (out ++ [wrap64 (Int.tdiv (wrap64 (s + wrap64 (Int.tdiv n 2))) n)]) else none) (fun k => by simp only [spec_l7Shrink.j3, Bool.false_eq_true, if_false]) (evneg hn (evpos (by omega) ?_))
        rw [w64s (by omega)]; exact h
      refine Ev.step (fun k => rfl) ?_
      simp only [spec_l7Shrink.l2]
      rw [e1]
      by_cases c : (f : Int) < (y : Int) * b + b
      · refine evpos c ?_
        rw [decide_eq_false (by omega)]; exact j3
      · exact evneg c j3
    · refine Ev.step (fun k => rfl) ?_
      simp only [impl_Shrink.l2]
      rw [e2]
      refine evneg (by omega) (evneg hn (evpos (by omega) ?_))
      rw [w64s (by omega)]; exact h
  · intro j hj ih s n h0 h1 _ hg
    obtain ⟨s', gg, g1, g2⟩ := l3_both q o OW OH out y x j e (by omega) hx he xb (by omega) s n h0 (by omega) hg
    obtain ⟨v, kb, k1, k2⟩ := ih s' (n + (e : Int) - (xb : Int)) (by omega) (by omega) (.inl (by omega)) gg
    refine ⟨v, kb, fun r h => ?_, fun r h => ?_⟩
    · refine Ev.step (fun k => rfl) ?_
      simp only [spec_l7Shrink.l2]
      rw [e1]
      refine evpos (by omega) ?_
      rw [decide_eq_true (by omega)]
      refine Ev.step (f := fun k => spec_l7Shrink.l3 k b (y : Int) (x : Int) s n (j : Int) (xb : Int) W H S OW OH out) (fun k => ?_) (g1 r (k1 r h))
      simp only [spec_l7Shrink.j3, if_true, e3]
    · refine Ev.step (fun k => rfl) ?_
      simp only [impl_Shrink.l2]
      rw [e2]
      refine evpos (by omega) ?_
      rw [e3]
      exact g2 r (k2 r h)
theorem shrink_both {lo hi : Int} {b W H : Int} {S : List Int} (q : Bd lo hi S) (o : Ok b W H S) : ∃ (OW OH : Int) (out : List Int), (out.length ≤ 1000000 ∧ ∀ v ∈ out, lo ≤ v ∧ v ≤ hi) ∧ Ev (fun k => spec_l7Shrink.f k W H S b) (OW, OH, out) ∧ Ev (fun k => impl_Shrink.j0 k b false W H S) (OW, OH, out) := by
  have hw := o.w
  have hh := o.h
  have b0 : 2 ≤ b ∧ b ≤ 4 := by rcases o.b with rfl | rfl <;> omega
  have dv : ∀ X : Int, 1 ≤ X → X ≤ 512 → ∃ q : Nat, wrap64 (Int.tdiv (wrap64 (wrap64 (X + b) - 1)) b) = (q : Int) ∧ (q : Int) ≤ 512 ∧ ∀ z : Nat, z < q → (z : Int) * b < X := by
    intro X h1 h2
    rw [w64 (n := X + b) (by omega) (by omega), w64 (n := X + b - 1) (by omega) (by omega), Int.tdiv_eq_ediv_of_nonneg (by omega)]
    rcases o.b with rfl | rfl
    · exact ⟨((X + 2 - 1) / 2).toNat, by rw [w64 (by omega) (by omega)]; omega, by omega, fun z hz => by omega⟩
    · exact ⟨((X + 4 - 1) / 4).toNat, by rw [w64 (by omega) (by omega)]; omega, by omega, fun z hz => by omega⟩
  obtain ⟨ow, w1, w2, w3⟩ := dv W hw.1 hw.2
  obtain ⟨oh, h1, h2, h3⟩ := dv H hh.1 hh.2
  have main := down (n := oh) (P := fun y => ∀ out : List Int, out.length = y * ow → (∀ v ∈ out, lo ≤ v ∧ v ≤ hi) → ∃ out' : List Int, (out'.length = oh * ow ∧ ∀ v ∈ out', lo ≤ v ∧ v ≤ hi) ∧ Ev (fun k => spec_l7Shrink.l0 k b (y : Int) W H S (ow : Int) (oh : Int) out) ((ow : Int), (oh : Int), out') ∧
      Ev (fun k => impl_Shrink.l0 k b (oh : Int) (y : Int) W H S (ow : Int) (oh : Int) out) ((ow : Int), (oh : Int), out')) ?_ ?_ [] (by simp) (fun v hv => by cases hv)
  · obtain ⟨out, ⟨hl, ho⟩, g1, g2⟩ := main
    have hm : oh * ow ≤ 512 * 512 := Nat.mul_le_mul (by omega) (by omega)
    refine ⟨(ow : Int), (oh : Int), out, ⟨by omega, ho⟩, evneg (by omega) ?_, ?_⟩
    · rw [w1, h1]; exact g1
    · refine Ev.step (f := fun k => impl_Shrink.l0 k b (oh : Int) 0 W H S (ow : Int) (oh : Int) []) (fun k => ?_) g2
      simp only [impl_Shrink.j0, Bool.false_eq_true, if_false, w1, h1]
      rw [if_neg (by omega)]
  · intro out hl ho
    exact ⟨out, ⟨hl, ho⟩, Ev.step (fun k => rfl) (evneg (by omega) (Ev.now _)), Ev.step (fun k => rfl) (evneg (by omega) (Ev.now _))⟩
  · intro y hy ih out hl ho
    obtain ⟨f, hf⟩ : ∃ f : Nat, (f : Int) = min H ((y : Int) * b + b) := ⟨(min H ((y : Int) * b + b)).toNat, by have := h3 y hy; rcases o.b with rfl | rfl <;> omega⟩
    have hyo : y * ow + ow ≤ 512 * 512 := by
      have : (y + 1) * ow ≤ 512 * 512 := Nat.mul_le_mul (by omega) (by omega)
      rw [Nat.add_mul, Nat.one_mul] at this
      exact this
    have yb0 : wrap64 ((y : Int) * b) = (y : Int) * b := by
      have := h3 y hy
      rw [w64 (by rcases o.b with rfl | rfl <;> omega) (by omega)]
    have row := down (n := ow) (P := fun x => ∀ out : List Int, out.length = y * ow + x → (∀ v ∈ out, lo ≤ v ∧ v ≤ hi) → ∃ out' : List Int, (out'.length = oh * ow ∧ ∀ v ∈ out', lo ≤ v ∧ v ≤ hi) ∧ Ev (fun k => spec_l7Shrink.l1 k b (y : Int) (x : Int) W H S (ow : Int) (oh : Int) out) ((ow : Int), (oh : Int), out') ∧
      Ev (fun k => impl_Shrink.l1 k b (y : Int) (oh : Int) (y : Int) (ow : Int) (x : Int) W H S (ow : Int) (oh : Int) out) ((ow : Int), (oh : Int), out')) ?_ ?_ out (by omega) ho
    · obtain ⟨out', hl', g1, g2⟩ := row
      refine ⟨out', hl', Ev.step (fun k => rfl) (evpos (by omega) g1), Ev.step (fun k => rfl) (evpos (by omega) g2)⟩
    · intro out hl ho
      obtain ⟨out', hl', g1, g2⟩ := ih out (by rw [hl, Nat.add_mul, Nat.one_mul]) ho
      refine ⟨out', hl', Ev.step (fun k => rfl) (evneg (by omega) ?_), Ev.step (fun k => rfl) (evneg (by omega) ?_)⟩
      · rw [w64s (by omega)]; exact g1
      · rw [w64s (by omega)]; exact g2
    · intro x hx ih2 out hl ho
      obtain ⟨v, vb, g1, g2⟩ := l2_both q o (ow : Int) (oh : Int) out y x f (h3 y hy) (w3 x hx) hf (by omega)
      obtain ⟨out', hl', k1, k2⟩ := ih2 (out ++ [v]) (by rw [List.length_append, hl]; rfl) (fun u hu => by
        rcases List.mem_append.1 hu with h | h
        · exact ho u h
        · rw [List.mem_singleton] at h
          rw [h]; exact vb)
      refine ⟨out', hl', Ev.step (fun k => rfl) (evpos (by omega) ?_), Ev.step (fun k => rfl) (evpos (by omega) ?_)⟩
      · rw [yb0]; exact g1 _ k1
      · rw [yb0]; exact g2 _ k2
def F (x o n : Nat) : Nat := (2 * x + 1) * o * 256 / (2 * n) - 128
theorem D_eq (x o n : Nat) (hx : x < n) (ho : o ≤ 512) (hn : n ≤ 512) :
    wrap64 (wrap64 (Int.tdiv (wrap64 (wrap64 (wrap64 (wrap64 (2 * (x : Int)) + 1) * (o : Int)) * 256)) (wrap64 (2 * (n : Int)))) - 128) = (((2 * x + 1) * o * 256 / (2 * n) : Nat) : Int) - 128 ∧ wrap64 (2 * (n : Int)) = ((2 * n : Nat) : Int) := by
  have e0 : wrap64 (wrap64 (2 * (x : Int)) + 1) = ((2 * x + 1 : Nat) : Int) := by
    rw [w64 (n := 2 * (x : Int)) (by omega) (by omega), w64 (by omega) (by omega)]; omega
  have hb : (2 * x + 1) * o ≤ 1025 * 512 := Nat.mul_le_mul (by omega) ho
  have e1 : wrap64 (((2 * x + 1 : Nat) : Int) * (o : Int)) = (((2 * x + 1) * o : Nat) : Int) := by
    rw [← Int.natCast_mul]; exact w64 (by omega) (by omega)
  rw [e0, e1]
  generalize (2 * x + 1) * o = m at hb
  have e2 : wrap64 ((m : Int) * 256) = ((m * 256 : Nat) : Int) := by rw [w64 (by omega) (by omega)]; omega
  have e3 : wrap64 (2 * (n : Int)) = ((2 * n : Nat) : Int) := by rw [w64 (by omega) (by omega)]; omega
  refine ⟨?_, e3⟩
  rw [e2, e3, show Int.tdiv ((m * 256 : Nat) : Int) ((2 * n : Nat) : Int) = ((m * 256 / (2 * n) : Nat) : Int) from (Int.ofNat_tdiv _ _).symm]
  have hq : m * 256 / (2 * n) ≤ m * 256 := Nat.div_le_self _ _
  generalize m * 256 / (2 * n) = q at hq
  rw [w64 (n := (q : Int)) (by omega) (by omega), w64 (by omega) (by omega)]
theorem F_lt (x o n : Nat) (ho : o ≤ 512) (hx : x < n) (hn : n ≤ 512) : F x o n ≤ 134348800 := by
  have hb : (2 * x + 1) * o ≤ 1025 * 512 := Nat.mul_le_mul (by omega) ho
  unfold F
  generalize (2 * x + 1) * o = m at hb
  have hq : m * 256 / (2 * n) ≤ m * 256 := Nat.div_le_self _ _
  omega
theorem from_spec (x o n : Nat) (hx : x < n) (ho : o ≤ 512) (hn : n ≤ 512) : spec_l7From.f (x : Int) (o : Int) (n : Int) = some (F x o n : Int) := by
  obtain ⟨d1, d2⟩ := D_eq x o n hx ho hn
  unfold spec_l7From.f
  rw [d1, d2, if_neg (by omega)]
  unfold F
  generalize (2 * x + 1) * o * 256 / (2 * n) = q
  by_cases c : (q : Int) - 128 < 0
  · rw [if_pos c]; exact congrArg some (by omega)
  · rw [if_neg c]; exact congrArg some (by omega)
def I (x o n : Nat) : Nat := min (F x o n / 256) (o - 1)
def K (x o n : Nat) : Nat := min (I x o n + 1) (o - 1)
theorem place_impl (x o n : Nat) (hx : x < n) (ho : o ≤ 512) (ho1 : 1 ≤ o) (hn : n ≤ 512) : impl_place.f (x : Int) (o : Int) (n : Int) = some ((I x o n : Int), (K x o n : Int), Go.bits .and .i64 (F x o n : Int) 255) := by
  obtain ⟨d1, d2⟩ := D_eq x o n hx ho hn
  have fl := F_lt x o n ho hx hn
  unfold impl_place.f
  rw [d1, d2, if_neg (by omega)]
  have e1 : mx 0 ((((2 * x + 1) * o * 256 / (2 * n) : Nat) : Int) - 128) = (F x o n : Int) := by
    unfold mx F
    generalize (2 * x + 1) * o * 256 / (2 * n) = q
    split <;> omega
  have e2 : wrap64 ((o : Int) - 1) = ((o - 1 : Nat) : Int) := by rw [w64 (by omega) (by omega)]; omega
  have e3 : mn ((F x o n : Int) / 256) ((o - 1 : Nat) : Int) = (I x o n : Int) := by
    unfold mn I
    generalize F x o n = f
    split <;> omega
  have e4 : wrap64 ((I x o n : Int) + 1) = ((I x o n + 1 : Nat) : Int) := by
    have : I x o n ≤ F x o n := by unfold I; omega
    rw [w64 (by omega) (by omega)]; omega
  have e5 : mn ((I x o n + 1 : Nat) : Int) ((o - 1 : Nat) : Int) = (K x o n : Int) := by
    unfold mn K
    generalize I x o n = f
    split <;> omega
  rw [e1, e2, e3, e4, e5]
theorem at_lt {W H i j : Nat} (hi : i < W) (hj : j < H) : j * W + i < W * H := by
  have := Nat.mul_le_mul_right W (show j + 1 ≤ H by omega)
  rw [Nat.succ_mul, Nat.mul_comm H W] at this
  omega
theorem at_w {W H i j : Nat} (hi : i < W) (hj : j < H) (hl : W * H ≤ 4096) : wrap64 (wrap64 ((j : Int) * (W : Int)) + (i : Int)) = ((j * W + i : Nat) : Int) := by
  have := at_lt hi hj
  rw [← Int.natCast_mul]
  generalize j * W = m at *
  rw [w64 (n := (m : Int)) (by omega) (by omega), w64 (by omega) (by omega)]; omega
/-- The sample at a place, or the nearest one. -/
def px (W H : Nat) (S : List Int) (a b : Nat) : Int := S.getD (min b (H - 1) * W + min a (W - 1)) 0
theorem at_impl (W H : Nat) (S : List Int) (hS : S.length = W * H) (hl : W * H ≤ 4096) (i j : Nat) (hi : i < W) (hj : j < H) : impl_Resize_1.f (i : Int) (j : Int) (W : Int) (H : Int) S = some (S.getD (j * W + i) 0) := by
  have := at_lt hi hj
  unfold impl_Resize_1.f
  rw [at_w hi hj hl, if_pos (by omega), if_pos (by omega), rd_nat]
theorem at_spec (W H : Nat) (S : List Int) (hS : S.length = W * H) (hl : W * H ≤ 4096) (hW : 1 ≤ W) (hH : 1 ≤ H) (hW2 : W ≤ 512) (hH2 : H ≤ 512) (a b : Nat) : Ev (fun k => spec_l7At.f k (W : Int) (H : Int) S (a : Int) (b : Int)) (px W H S a b) := by
  have j1 : ∀ c : Nat, c < W → Ev (fun k => spec_l7At.j1 k (c : Int) (b : Int) (W : Int) (H : Int) S) (S.getD (min b (H - 1) * W + c) 0) := by
    intro c hc
    have fin : ∀ d : Nat, d < H → Ev (fun _ => if 0 ≤ wrap64 (wrap64 ((d : Int) * (W : Int)) + (c : Int)) then (if wrap64 (wrap64 ((d : Int) * (W : Int)) + (c : Int)) < (S.length : Int) then some (rd S (wrap64 (wrap64 ((d : Int) * (W : Int)) + (c : Int)))) else none) else none) (S.getD (d * W + c) 0) := by
      intro d hd
      have := at_lt hc hd
      rw [at_w hc hd hl]
      refine evpos (by omega) (evpos (by omega) ?_)
      rw [rd_nat]; exact Ev.now _
    by_cases cb : (b : Int) ≥ (H : Int)
    · have := fin (H - 1) (by omega)
      have e2 : wrap64 ((H : Int) - 1) = ((H - 1 : Nat) : Int) := by rw [w64 (by omega) (by omega)]; omega
      refine Ev.step (fun k => rfl) ?_
      simp only [spec_l7At.j1]
      refine evneg (by omega) (evpos cb ?_)
      rw [e2, show min b (H - 1) = H - 1 by omega]; exact this
    · have := fin b (by omega)
      refine Ev.step (fun k => rfl) ?_
      simp only [spec_l7At.j1]
      refine evneg (by omega) (evneg cb ?_)
      rw [show min b (H - 1) = b by omega]; exact this
  unfold px
  refine evneg (by omega) ?_
  by_cases ca : (a : Int) ≥ (W : Int)
  · have := j1 (W - 1) (by omega)
    have e2 : wrap64 ((W : Int) - 1) = ((W - 1 : Nat) : Int) := by rw [w64 (by omega) (by omega)]; omega
    refine Ev.step (fun k => rfl) (evpos ca ?_)
    rw [e2, show min a (W - 1) = W - 1 by omega]; exact this
  · refine Ev.step (fun k => rfl) (evneg ca ?_)
    rw [show min a (W - 1) = a by omega]; exact j1 a (by omega)
theorem px_I (W H : Nat) (S : List Int) (hW : 1 ≤ W) (hH : 1 ≤ H) (x n y m : Nat) :
    px W H S (F x W n / 256) (F y H m / 256) = S.getD (I y H m * W + I x W n) 0 ∧ px W H S (F x W n / 256 + 1) (F y H m / 256) = S.getD (I y H m * W + K x W n) 0 ∧
    px W H S (F x W n / 256) (F y H m / 256 + 1) = S.getD (K y H m * W + I x W n) 0 ∧ px W H S (F x W n / 256 + 1) (F y H m / 256 + 1) = S.getD (K y H m * W + K x W n) 0 := by
  unfold px K I
  generalize F x W n / 256 = f
  generalize F y H m / 256 = g
  rw [show min (f + 1) (W - 1) = min (min f (W - 1) + 1) (W - 1) by omega, show min (g + 1) (H - 1) = min (min g (H - 1) + 1) (H - 1) by omega]
  exact ⟨rfl, rfl, rfl, rfl⟩
def blend (f g p q r s : Int) : Int := (wrap64 ((wrap64 ((wrap64 ((wrap64 (256 - g)) * (wrap64 ((wrap64 ((wrap64 (256 - f)) * p)) + (wrap64 (f * q)))))) + (wrap64 (g * (wrap64 ((wrap64 ((wrap64 (256 - f)) * r)) + (wrap64 (f * s)))))))) + 32768)) / 65536
theorem mix {f p q lo hi : Int} (f0 : 0 ≤ f) (f1 : f ≤ 256) (p0 : lo ≤ p) (p1 : p ≤ hi) (q0 : lo ≤ q) (q1 : q ≤ hi) : 256 * lo ≤ (256 - f) * p + f * q ∧ (256 - f) * p + f * q ≤ 256 * hi := by
  have a1 := Int.mul_le_mul_of_nonneg_left p0 (show 0 ≤ 256 - f by omega)
  have a2 := Int.mul_le_mul_of_nonneg_left p1 (show 0 ≤ 256 - f by omega)
  have b1 := Int.mul_le_mul_of_nonneg_left q0 f0
  have b2 := Int.mul_le_mul_of_nonneg_left q1 f0
  rw [Int.sub_mul] at a1 a2
  rw [Int.sub_mul] at a1 a2
  rw [Int.sub_mul]
  omega
theorem part64 {f p lo hi : Int} (f0 : 0 ≤ f) (f1 : f ≤ 256) (p0 : lo ≤ p) (p1 : p ≤ hi) (h0 : 0 ≤ lo) (h1 : hi ≤ 16777216) : 0 ≤ f * p ∧ f * p ≤ 4294967296 := by
  have a1 := Int.mul_nonneg f0 (show 0 ≤ p by omega)
  have a2 := Int.mul_le_mul f1 (show p ≤ 16777216 by omega) (by omega) (by omega)
  exact ⟨a1, by omega⟩
theorem mix64 {f p q lo hi : Int} (f0 : 0 ≤ f) (f1 : f ≤ 255) (p0 : lo ≤ p) (p1 : p ≤ hi) (q0 : lo ≤ q) (q1 : q ≤ hi) (h0 : 0 ≤ lo) (h1 : hi ≤ 16777216) : wrap64 ((wrap64 ((wrap64 (256 - f)) * p)) + (wrap64 (f * q))) = (256 - f) * p + f * q := by
  have e1 : wrap64 (256 - f) = 256 - f := w64 (by omega) (by omega)
  obtain ⟨a1, a2⟩ := part64 (f := 256 - f) (by omega) (by omega) p0 p1 h0 h1
  obtain ⟨b1, b2⟩ := part64 (f := f) f0 (by omega) q0 q1 h0 h1
  rw [e1, w64 (n := (256 - f) * p) (by omega) (by omega), w64 (n := f * q) (by omega) (by omega)]
  exact w64 (by omega) (by omega)
theorem blend_bd {f g p q r s lo hi : Int} (f0 : 0 ≤ f) (f1 : f ≤ 255) (g0 : 0 ≤ g) (g1 : g ≤ 255) (h0 : 0 ≤ lo) (h1 : hi ≤ 255) (p0 : lo ≤ p ∧ p ≤ hi) (q0 : lo ≤ q ∧ q ≤ hi) (r0 : lo ≤ r ∧ r ≤ hi) (s0 : lo ≤ s ∧ s ≤ hi) :
    lo ≤ blend f g p q r s ∧ blend f g p q r s ≤ hi := by
  unfold blend
  rw [mix64 f0 f1 p0.1 p0.2 q0.1 q0.2 h0 (by omega), mix64 f0 f1 r0.1 r0.2 s0.1 s0.2 h0 (by omega)]
  have m1 := mix f0 (show f ≤ 256 by omega) p0.1 p0.2 q0.1 q0.2
  have m2 := mix f0 (show f ≤ 256 by omega) r0.1 r0.2 s0.1 s0.2
  generalize (256 - f) * p + f * q = u at m1
  generalize (256 - f) * r + f * s = v at m2
  rw [mix64 g0 g1 m1.1 m1.2 m2.1 m2.2 (by omega) (by omega)]
  have m3 := mix g0 (show g ≤ 256 by omega) m1.1 m1.2 m2.1 m2.2
  generalize (256 - g) * u + g * v = x at m3
  rw [w64 (by omega) (by omega)]
  omega
theorem and255i (n : Nat) (h : n < 4294967296) : Go.bits .and .i64 (n : Int) 255 = ((n % 256 : Nat) : Int) := by
  have e := (bits_nat .i64 32 (by decide) (fun n h0 h1 => (i64_w n).trans (w64 (by omega) (by omega))) n 255 h (by decide)).1
  have e2 : Go.bits .and .i64 (n : Int) 255 = ((n &&& 255 : Nat) : Int) := e
  rw [e2]
  exact congrArg (fun z : Nat => (z : Int)) (Nat.and_two_pow_sub_one_eq_mod n 8)
theorem loops_both {lo hi : Int} (W H w h : Nat) (S : List Int) (bd : Bd lo hi S) (hS : S.length = W * H) (hl : W * H ≤ 4096) (hW : 1 ≤ W) (hH : 1 ≤ H) (hW2 : W ≤ 512) (hH2 : H ≤ 512) (hw : 1 ≤ w) (hh : 1 ≤ h) (hw2 : w ≤ 512) (hh2 : h ≤ 512) :
    ∃ r : List Int, Ev (fun k => spec_Resize.l0 k (w : Int) (h : Int) 0 (W : Int) (H : Int) S (w : Int) (h : Int) []) ((w : Int), (h : Int), r) ∧ Ev (fun k => impl_Resize.l0 k (w : Int) (h : Int) (h : Int) 0 (W : Int) (H : Int) S (w : Int) (h : Int) []) ((w : Int), (h : Int), r) ∧ r.length ≤ 262144 ∧ ∀ v ∈ r, lo ≤ v ∧ v ≤ hi := by
  have main := down (n := h) (P := fun y => ∀ acc : List Int, acc.length ≤ y * w → (∀ v ∈ acc, lo ≤ v ∧ v ≤ hi) → ∃ r : List Int, Ev (fun k => spec_Resize.l0 k (w : Int) (h : Int) (y : Int) (W : Int) (H : Int) S (w : Int) (h : Int) acc) ((w : Int), (h : Int), r) ∧ Ev (fun k => impl_Resize.l0 k (w : Int) (h : Int) (h : Int) (y : Int) (W : Int) (H : Int) S (w : Int) (h : Int) acc) ((w : Int), (h : Int), r) ∧ r.length ≤ 262144 ∧ ∀ v ∈ r, lo ≤ v ∧ v ≤ hi) ?_ ?_
  · exact main [] (by simp) (fun v hv => by cases hv)
  · intro acc ha hq
    have := Nat.mul_le_mul hh2 hw2
    exact ⟨acc, Ev.step (fun k => rfl) (evneg (by omega) (Ev.now _)), Ev.step (fun k => rfl) (evneg (by omega) (Ev.now _)), by omega, hq⟩
  · intro y hy ih acc ha hq
    have inn := down (n := w) (P := fun x => ∀ acc : List Int, acc.length ≤ y * w + x → (∀ v ∈ acc, lo ≤ v ∧ v ≤ hi) → ∃ r : List Int, Ev (fun k => spec_Resize.l1 k (w : Int) (h : Int) (y : Int) (F y H h : Int) (x : Int) (W : Int) (H : Int) S (w : Int) (h : Int) acc) ((w : Int), (h : Int), r) ∧ Ev (fun k => impl_Resize.l1 k (w : Int) (h : Int) (I y H h : Int) (K y H h : Int) (Go.bits .and .i64 (F y H h : Int) 255) (h : Int) (y : Int) (w : Int) (x : Int) (W : Int) (H : Int) S (w : Int) (h : Int) acc) ((w : Int), (h : Int), r) ∧ r.length ≤ 262144 ∧ ∀ v ∈ r, lo ≤ v ∧ v ≤ hi) ?_ ?_
    · obtain ⟨r, g1, g2, g3⟩ := inn acc (by omega) hq
      exact ⟨r, Ev.step (fun k => rfl) (evpos (by omega) (evlet (from_spec y H h hy hH2 hh2) g1)), Ev.step (fun k => rfl) (evpos (by omega) (evlet (place_impl y H h hy hH2 hH hh2) g2)), g3⟩
    · intro acc ha hq
      obtain ⟨r, g1, g2, g3⟩ := ih acc (by rw [Nat.succ_mul]; exact ha) hq
      refine ⟨r, Ev.step (fun k => rfl) (evneg (by omega) ?_), Ev.step (fun k => rfl) (evneg (by omega) ?_), g3⟩
      · rw [w64s (by omega)]; exact g1
      · rw [w64s (by omega)]; exact g2
    · intro x hx ihx acc ha hq
      have hb := Nat.mul_le_mul (show y ≤ 512 by omega) hw2
      have ln : acc.length < 17592186044416 := by omega
      have fx := F_lt x W w hW2 hx hw2
      have fy := F_lt y H h hH2 hy hh2
      obtain ⟨p1, p2, p3, p4⟩ := px_I W H S hW hH x w y h
      have iW : I x W w < W := by unfold I; omega
      have kW : K x W w < W := by unfold K; omega
      have iH : I y H h < H := by unfold I; omega
      have kH : K y H h < H := by unfold K; omega
      have gd : ∀ i j : Nat, i < W → j < H → lo ≤ S.getD (j * W + i) 0 ∧ S.getD (j * W + i) 0 ≤ hi := fun i j hi' hj' => by
        have := bd.v (j * W + i) (by rw [hS]; exact at_lt hi' hj')
        rwa [rd_nat] at this
      have hbl := Aside0.mk (show lo ≤ blend (Go.bits .and .i64 (F x W w : Int) 255) (Go.bits .and .i64 (F y H h : Int) 255) (S.getD (I y H h * W + I x W w) 0) (S.getD (I y H h * W + K x W w) 0) (S.getD (K y H h * W + I x W w) 0) (S.getD (K y H h * W + K x W w) 0) ∧ blend (Go.bits .and .i64 (F x W w : Int) 255) (Go.bits .and .i64 (F y H h : Int) 255) (S.getD (I y H h * W + I x W w) 0) (S.getD (I y H h * W + K x W w) 0) (S.getD (K y H h * W + I x W w) 0) (S.getD (K y H h * W + K x W w) 0) ≤ hi from by
        rw [and255i _ (by omega), and255i _ (by omega)]
        exact blend_bd (by omega) (by omega) (by omega) (by omega) bd.lo0 bd.hi1 (gd _ _ iW iH) (gd _ _ kW iH) (gd _ _ iW kH) (gd _ _ kW kH))
      clear gd
      have d1 : (F x W w : Int) / 256 = ((F x W w / 256 : Nat) : Int) := rfl
      have d2 : (F y H h : Int) / 256 = ((F y H h / 256 : Nat) : Int) := rfl
      have d3 : wrap64 (((F x W w / 256 : Nat) : Int) + 1) = ((F x W w / 256 + 1 : Nat) : Int) := w64s (by omega)
      have d4 : wrap64 (((F y H h / 256 : Nat) : Int) + 1) = ((F y H h / 256 + 1 : Nat) : Int) := w64s (by omega)
      have go := at_spec W H S hS hl hW hH hW2 hH2
      have im := at_impl W H S hS hl
      obtain ⟨r, g1, g2, g3⟩ := ihx (acc ++ [blend (Go.bits .and .i64 (F x W w : Int) 255) (Go.bits .and .i64 (F y H h : Int) 255) (S.getD (I y H h * W + I x W w) 0) (S.getD (I y H h * W + K x W w) 0) (S.getD (K y H h * W + I x W w) 0) (S.getD (K y H h * W + K x W w) 0)]) (by rw [List.length_append, List.length_singleton]; omega) (fun v hv => by
        rcases List.mem_append.1 hv with hm | hm
        · exact hq v hm
        · rw [List.mem_singleton] at hm
          rw [hm]; exact hbl.out)
      refine ⟨r, Ev.step (fun k => rfl) (evpos (by omega) (evlet (from_spec x W w hx hW2 hw2) ?_)), Ev.step (fun k => rfl) (evpos (by omega) (evlet (place_impl x W w hx hW2 hW hw2) (evlet (im _ _ iW iH) (evlet (im _ _ kW iH) (evlet (im _ _ iW kH) (evlet (im _ _ kW kH) (evpos ln ?_))))))), g3⟩
      · rw [d1, d2, d3, d4]
        refine Ev.bind (go _ _) (Ev.bind (go _ _) (Ev.bind (go _ _) (Ev.bind (go _ _) (evpos ln ?_))))
        rw [p1, p2, p3, p4, w64s (by omega)]; exact g1
      · rw [w64s (by omega)]; exact g2
/-! ### the two ends -/
theorem ends_t (S : List Int) (hn : S.length ≤ 1048576) : ∃ lo hi : Int, Ev (fun k => spec_Ends.f k S) (lo, hi) ∧ ∀ j : Nat, j < S.length → lo ≤ rd S (j : Int) ∧ rd S (j : Int) ≤ hi := by
  have main := down (n := S.length) (P := fun i => ∀ lo hi : Int, (∀ j : Nat, j < i → lo ≤ rd S (j : Int) ∧ rd S (j : Int) ≤ hi) → (1 ≤ i → lo ≤ hi) → ∃ lo' hi' : Int, Ev (fun k => spec_Ends.l0 k lo hi S (S.length : Int) (i : Int)) (lo', hi') ∧ ∀ j : Nat, j < S.length → lo' ≤ rd S (j : Int) ∧ rd S (j : Int) ≤ hi') ?_ ?_
  · obtain ⟨lo, hi, h1, h2⟩ := main 0 0 (fun j hj => by omega) (fun _ => by omega)
    exact ⟨lo, hi, h1, h2⟩
  · intro lo hi h _
    exact ⟨lo, hi, Ev.step (fun k => rfl) (evneg (by omega) (Ev.now _)), h⟩
  · intro i hi_ ih lo hi h hle
    have wi := Aside0.mk (w64s (i := i) (by omega))
    obtain ⟨v, hv⟩ : ∃ v, rd S (i : Int) = v := ⟨_, rfl⟩
    have nx : ∀ lo2 hi2 : Int, lo2 ≤ v → v ≤ hi2 → (1 ≤ i → lo2 ≤ lo ∧ hi ≤ hi2) → ∃ lo' hi' : Int, Ev (fun k => spec_Ends.l0 k lo2 hi2 S (S.length : Int) (wrap64 ((i : Int) + 1))) (lo', hi') ∧ ∀ j : Nat, j < S.length → lo' ≤ rd S (j : Int) ∧ rd S (j : Int) ≤ hi' := by
      intro lo2 hi2 h1 h2 h3
      rw [wi.out]
      refine ih lo2 hi2 (fun j hj => ?_) (fun _ => by omega)
      by_cases e : j = i
      · rw [e, hv]; exact ⟨h1, h2⟩
      · have a := h j (by omega)
        have b := h3 (by omega)
        omega
    have jt : ∀ b : Bool, (b = true → (i = 0 ∨ v < lo)) → (b = false → (i ≠ 0 ∧ lo ≤ v)) → ∃ lo' hi' : Int, Ev (fun k => spec_Ends.j1 k lo hi (i : Int) v S (S.length : Int) (i : Int) b) (lo', hi') ∧ ∀ j : Nat, j < S.length → lo' ≤ rd S (j : Int) ∧ rd S (j : Int) ≤ hi' := by
      intro b b1 b2
      by_cases cb : b = true
      · have b3 := b1 cb
        by_cases c0 : (i : Int) = 0
        · obtain ⟨x, y, e1, e2⟩ := nx v v (by omega) (by omega) (fun h => by omega)
          exact ⟨x, y, Ev.step (fun k => rfl) (evpos cb (evpos c0 e1)), e2⟩
        · have := hle (by omega)
          by_cases c1 : v > hi
          · omega
          · obtain ⟨x, y, e1, e2⟩ := nx v hi (by omega) (by omega) (fun h => by omega)
            exact ⟨x, y, Ev.step (fun k => rfl) (evpos cb (evneg c0 (evneg c1 e1))), e2⟩
      · have b3 := b2 (by simpa using cb)
        have := hle (by omega)
        by_cases c1 : v > hi
        · obtain ⟨x, y, e1, e2⟩ := nx lo v (by omega) (by omega) (fun h => by omega)
          exact ⟨x, y, Ev.step (fun k => rfl) (evneg cb (evneg (by omega) (evpos c1 e1))), e2⟩
        · obtain ⟨x, y, e1, e2⟩ := nx lo hi (by omega) (by omega) (fun h => by omega)
          exact ⟨x, y, Ev.step (fun k => rfl) (evneg cb (evneg (by omega) (evneg c1 e1))), e2⟩
    by_cases c0 : (i : Int) = 0
    · obtain ⟨x, y, e1, e2⟩ := jt true (fun _ => .inl (by omega)) (fun h => by cases h)
      refine ⟨x, y, Ev.step (fun k => rfl) (evpos (by omega) (evpos (by omega) (evpos (by omega) (evpos c0 ?_)))), e2⟩
      rw [hv]; exact e1
    · obtain ⟨x, y, e1, e2⟩ := jt (decide (v < lo)) (fun h => .inr (of_decide_eq_true h)) (fun h => ⟨by omega, by have := of_decide_eq_false h; omega⟩)
      refine ⟨x, y, Ev.step (fun k => rfl) (evpos (by omega) (evpos (by omega) (evpos (by omega) (evneg c0 ?_)))), e2⟩
      rw [hv]; exact e1
/-! ### Resize to the own sides -/
theorem F_own (x n : Nat) (hx : x < n) : F x n n = 256 * x := by
  unfold F
  have e : (2 * x + 1) * n * 256 = (2 * x + 1) * 128 * (2 * n) := by
    rw [Nat.mul_assoc, Nat.mul_assoc (2 * x + 1) 128, show n * 256 = 128 * (2 * n) by omega]
  rw [e, Nat.mul_div_cancel _ (show 0 < 2 * n by omega)]
  omega
theorem own_side (W H : Nat) (S : List Int) (hS : S.length = W * H) (hl : W * H ≤ 4096) (hW : 1 ≤ W) (hH : 1 ≤ H) (hW2 : W ≤ 512) (hH2 : H ≤ 512) (hv : ∀ j : Nat, j < S.length → 0 ≤ rd S (j : Int) ∧ rd S (j : Int) ≤ 255) :
    Ev (fun k => impl_Resize.l0 k (W : Int) (H : Int) (H : Int) 0 (W : Int) (H : Int) S (W : Int) (H : Int) []) ((W : Int), (H : Int), S) := by
  have sq : ∀ x n : Nat, x < n → n ≤ 512 → 1 ≤ n → impl_place.f (x : Int) (n : Int) (n : Int) = some ((x : Int), ((min (x + 1) (n - 1) : Nat) : Int), 0) := by
    intro x n hx hn h1
    rw [place_impl x n n hx hn h1 hn]
    unfold K I
    rw [F_own x n hx, and255i _ (by omega), Nat.mul_div_cancel_left x (by decide), show min x (n - 1) = x by omega, Nat.mul_mod_right]
    rfl
  have main := down (n := H) (P := fun y => Ev (fun k => impl_Resize.l0 k (W : Int) (H : Int) (H : Int) (y : Int) (W : Int) (H : Int) S (W : Int) (H : Int) (S.take (y * W))) ((W : Int), (H : Int), S)) ?_ ?_
  · rw [Nat.zero_mul] at main; exact main
  · refine Ev.step (fun k => rfl) (evneg (by omega) ?_)
    rw [List.take_of_length_le (by rw [hS, Nat.mul_comm]; exact Nat.le_refl _)]
    exact Ev.now _
  · intro y hy ih
    have inn := down (n := W) (P := fun x => Ev (fun k => impl_Resize.l1 k (W : Int) (H : Int) (y : Int) ((min (y + 1) (H - 1) : Nat) : Int) 0 (H : Int) (y : Int) (W : Int) (x : Int) (W : Int) (H : Int) S (W : Int) (H : Int) (S.take (y * W + x))) ((W : Int), (H : Int), S)) ?_ ?_
    · exact Ev.step (fun k => rfl) (evpos (by omega) (evlet (sq y H hy hH2 hH) inn))
    · refine Ev.step (fun k => rfl) (evneg (by omega) ?_)
      rw [w64s (by omega), ← Nat.succ_mul]; exact ih
    · intro x hx ihx
      have hlt := at_lt hx hy
      have im := at_impl W H S hS hl
      have ln : (S.take (y * W + x)).length < 17592186044416 := by rw [List.length_take]; omega
      have hp := hv (y * W + x) (by omega)
      rw [rd_nat] at hp
      have hb : ∀ q r s : Int, 0 ≤ q → q ≤ 255 → 0 ≤ r → r ≤ 255 → 0 ≤ s → s ≤ 255 → blend 0 0 (S.getD (y * W + x) 0) q r s = S.getD (y * W + x) 0 := by
        intro q r s q0 q1 r0 r1 s0 s1
        unfold blend
        generalize S.getD (y * W + x) 0 = p at hp
        rw [mix64 (lo := 0) (hi := 255) (by omega) (by omega) hp.1 hp.2 q0 q1 (by omega) (by omega), mix64 (lo := 0) (hi := 255) (by omega) (by omega) r0 r1 s0 s1 (by omega) (by omega)]
        rw [show (256 - 0) * p + 0 * q = 256 * p by omega, show (256 - 0) * r + 0 * s = 256 * r by omega]
        rw [mix64 (lo := 0) (hi := 65280) (by omega) (by omega) (by omega) (by omega) (by omega) (by omega) (by omega) (by omega)]
        rw [show (256 - 0) * (256 * p) + 0 * (256 * r) = 65536 * p by omega, w64 (by omega) (by omega)]
        omega
      have gd : ∀ i j : Nat, i < W → j < H → 0 ≤ S.getD (j * W + i) 0 ∧ S.getD (j * W + i) 0 ≤ 255 := fun i j hi' hj' => by
        have := hv (j * W + i) (by rw [hS]; exact at_lt hi' hj')
        rwa [rd_nat] at this
      have kW : min (x + 1) (W - 1) < W := by omega
      have kH : min (y + 1) (H - 1) < H := by omega
      have b1 := gd _ _ kW hy
      have b2 := gd _ _ hx kH
      have b3 := gd _ _ kW kH
      have hb := Aside0.mk (hb _ _ _ b1.1 b1.2 b2.1 b2.2 b3.1 b3.2)
      clear b1 b2 b3 gd
      refine Ev.step (fun k => rfl) (evpos (by omega) (evlet (sq x W hx hW2 hW) (evlet (im _ _ hx hy) (evlet (im _ _ kW hy) (evlet (im _ _ hx kH) (evlet (im _ _ kW kH) (evpos ln ?_)))))))
      rw [w64s (by omega)]
      have e : S.take (y * W + x) ++ [blend 0 0 (S.getD (y * W + x) 0) (S.getD (y * W + min (x + 1) (W - 1)) 0) (S.getD (min (y + 1) (H - 1) * W + x) 0) (S.getD (min (y + 1) (H - 1) * W + min (x + 1) (W - 1)) 0)] = S.take (y * W + (x + 1)) := by
        rw [hb.out, ← Nat.add_assoc, List.take_add_one, getD_lt (by omega), List.getElem?_eq_getElem (by omega)]
        rfl
      rw [← e] at ihx
      exact ihx
/-! ### Grow -/
def cl (c : Int) (n : Nat) : Nat := (min (max c 0) ((n : Int) - 1)).toNat
theorem cl_lt (c : Int) {n : Nat} (h : 1 ≤ n) : cl c n < n := by unfold cl; omega
theorem at_grow (W H : Nat) (S : List Int) (hS : S.length = W * H) (hl : W * H ≤ 4096) (hW : 1 ≤ W) (hH : 1 ≤ H) (hW2 : W ≤ 512) (hH2 : H ≤ 512) (a b : Int) : Ev (fun k => spec_l7At.f k (W : Int) (H : Int) S a b) (S.getD (cl b H * W + cl a W) 0) := by
  have e2 := Aside0.mk (show wrap64 ((H : Int) - 1) = ((H - 1 : Nat) : Int) from (w64 (by omega) (by omega)).trans (by omega))
  have e1 := Aside0.mk (show wrap64 ((W : Int) - 1) = ((W - 1 : Nat) : Int) from (w64 (by omega) (by omega)).trans (by omega))
  have j1 : ∀ c : Nat, c < W → Ev (fun k => spec_l7At.j1 k (c : Int) b (W : Int) (H : Int) S) (S.getD (cl b H * W + c) 0) := by
    intro c hc
    have fin : ∀ d : Nat, d < H → Ev (fun _ => if 0 ≤ wrap64 (wrap64 ((d : Int) * (W : Int)) + (c : Int)) then (if wrap64 (wrap64 ((d : Int) * (W : Int)) + (c : Int)) < (S.length : Int) then some (rd S (wrap64 (wrap64 ((d : Int) * (W : Int)) + (c : Int)))) else none) else none) (S.getD (d * W + c) 0) := by
      intro d hd
      have := at_lt hc hd
      rw [at_w hc hd hl]
      refine evpos (by omega) (evpos (by omega) ?_)
      rw [rd_nat]; exact Ev.now _
    by_cases c0 : b < 0
    · have := fin 0 (by omega)
      refine Ev.step (fun k => rfl) ?_
      simp only [spec_l7At.j1]
      refine evpos c0 (evneg (by omega) ?_)
      rw [show cl b H = 0 by unfold cl; omega]; exact this
    by_cases cb : b ≥ (H : Int)
    · have := fin (H - 1) (by omega)
      refine Ev.step (fun k => rfl) ?_
      simp only [spec_l7At.j1]
      refine evneg c0 (evpos cb ?_)
      rw [e2.out, show cl b H = H - 1 by unfold cl; omega]; exact this
    · obtain ⟨d, rfl⟩ : ∃ d : Nat, b = (d : Int) := ⟨b.toNat, by omega⟩
      have := fin d (by omega)
      refine Ev.step (fun k => rfl) ?_
      simp only [spec_l7At.j1]
      refine evneg c0 (evneg cb ?_)
      rw [show cl (d : Int) H = d by unfold cl; omega]; exact this
  have j0 : ∀ c : Int, 0 ≤ c → cl c W = cl a W → Ev (fun k => spec_l7At.j0 k c b (W : Int) (H : Int) S) (S.getD (cl b H * W + cl a W) 0) := by
    intro c hc he
    rw [← he]
    by_cases ca : c ≥ (W : Int)
    · have := j1 (W - 1) (by omega)
      refine Ev.step (fun k => rfl) (evpos ca ?_)
      rw [e1.out, show cl c W = W - 1 by unfold cl; omega]; exact this
    · obtain ⟨d, rfl⟩ : ∃ d : Nat, c = (d : Int) := ⟨c.toNat, by omega⟩
      refine Ev.step (fun k => rfl) (evneg ca ?_)
      rw [show cl (d : Int) W = d by unfold cl; omega]; exact j1 d (by omega)
  by_cases ca : a < 0
  · exact evpos ca (j0 0 (by omega) (by unfold cl; omega))
  · exact evneg ca (j0 a (by omega) rfl)
theorem at_implG (W H : Nat) (S : List Int) (hS : S.length = W * H) (hl : W * H ≤ 4096) (i j : Nat) (hi : i < W) (hj : j < H) : impl_Grow_1.f (i : Int) (j : Int) (W : Int) (H : Int) S = some (S.getD (j * W + i) 0) := by
  have := at_lt hi hj
  unfold impl_Grow_1.f
  rw [at_w hi hj hl, if_pos (by omega), if_pos (by omega), rd_nat]
theorem half (x : Nat) (h : x ≤ 2000) : wrap64 (Int.tdiv (x : Int) 2) = ((x / 2 : Nat) : Int) := by
  rw [show Int.tdiv (x : Int) 2 = ((x / 2 : Nat) : Int) from rfl]
  exact w64 (by omega) (by omega)
/-- The neighbour's place, by both. -/
theorem near_both (x n : Nat) (hx : x < 2 * n) (hn : n ≤ 512) : impl_near.f (x : Int) (n : Int) = some ((cl (wrap64 (wrap64 (wrap64 (Int.tdiv (x : Int) 2) - 1) + wrap64 (Int.tmod (x : Int) 2 * 2))) n : Nat) : Int) ∧ cl (wrap64 (Int.tdiv (x : Int) 2)) n = x / 2 := by
  have hm : Int.tmod (x : Int) 2 = ((x % 2 : Nat) : Int) := rfl
  have h1 : wrap64 (((x / 2 : Nat) : Int) - 1) = ((x / 2 : Nat) : Int) - 1 := w64 (by omega) (by omega)
  have h2 : wrap64 (((x % 2 : Nat) : Int) * 2) = ((x % 2 : Nat) : Int) * 2 := w64 (by omega) (by omega)
  have h3 : wrap64 (((x / 2 : Nat) : Int) - 1 + ((x % 2 : Nat) : Int) * 2) = ((x / 2 : Nat) : Int) - 1 + ((x % 2 : Nat) : Int) * 2 := w64 (by omega) (by omega)
  have h4 : wrap64 (((x / 2 : Nat) : Int) + 1) = ((x / 2 : Nat) : Int) + 1 := w64 (by omega) (by omega)
  have h5 : wrap64 ((n : Int) - 1) = (n : Int) - 1 := w64 (by omega) (by omega)
  rw [half x (by omega), hm, h1, h2, h3]
  refine ⟨?_, by clear hm h1 h2 h3 h4 h5; unfold cl; omega⟩
  unfold impl_near.f
  rw [hm, half x (by omega), h1, h4, h5]
  clear hm h1 h2 h3 h4 h5
  by_cases c : ((x % 2 : Nat) : Int) = 0
  · rw [if_pos c]
    refine congrArg some ?_
    unfold mx cl
    split <;> omega
  · rw [if_neg c]
    refine congrArg some ?_
    unfold mn cl
    split <;> omega
def soft (p q r s : Int) : Int := (wrap64 ((wrap64 ((wrap64 ((wrap64 ((wrap64 (9 * p)) + (wrap64 (3 * q)))) + (wrap64 (3 * r)))) + s)) + 8)) / 16
theorem soft_bd {p q r s lo hi : Int} (h0 : 0 ≤ lo) (h1 : hi ≤ 255) (p0 : lo ≤ p ∧ p ≤ hi) (q0 : lo ≤ q ∧ q ≤ hi) (r0 : lo ≤ r ∧ r ≤ hi) (s0 : lo ≤ s ∧ s ≤ hi) : lo ≤ soft p q r s ∧ soft p q r s ≤ hi := by
  unfold soft
  rw [w64 (n := 9 * p) (by omega) (by omega), w64 (n := 3 * q) (by omega) (by omega), w64 (n := 9 * p + 3 * q) (by omega) (by omega), w64 (n := 3 * r) (by omega) (by omega), w64 (n := 9 * p + 3 * q + 3 * r) (by omega) (by omega), w64 (n := 9 * p + 3 * q + 3 * r + s) (by omega) (by omega), w64 (by omega) (by omega)]
  omega
theorem grow_loops {lo hi : Int} (W H w h : Nat) (S : List Int) (bd : Bd lo hi S) (hS : S.length = W * H) (hl : W * H ≤ 4096) (hW : 1 ≤ W) (hH : 1 ≤ H) (hW2 : W ≤ 512) (hH2 : H ≤ 512) (hw : w ≤ 2 * W) (hh : h ≤ 2 * H) :
    ∃ r : List Int, Ev (fun k => spec_l7Grow.l0 k (w : Int) (h : Int) 0 (W : Int) (H : Int) S (w : Int) (h : Int) []) ((w : Int), (h : Int), r) ∧ Ev (fun k => impl_Grow.l0 k (w : Int) (h : Int) 0 (W : Int) (H : Int) S (w : Int) (h : Int) []) ((w : Int), (h : Int), r) ∧ r.length ≤ 1048576 ∧ ∀ v ∈ r, lo ≤ v ∧ v ≤ hi := by
  have main := down (n := h) (P := fun y => ∀ acc : List Int, acc.length ≤ y * w → (∀ v ∈ acc, lo ≤ v ∧ v ≤ hi) → ∃ r : List Int, Ev (fun k => spec_l7Grow.l0 k (w : Int) (h : Int) (y : Int) (W : Int) (H : Int) S (w : Int) (h : Int) acc) ((w : Int), (h : Int), r) ∧ Ev (fun k => impl_Grow.l0 k (w : Int) (h : Int) (y : Int) (W : Int) (H : Int) S (w : Int) (h : Int) acc) ((w : Int), (h : Int), r) ∧ r.length ≤ 1048576 ∧ ∀ v ∈ r, lo ≤ v ∧ v ≤ hi) ?_ ?_
  · exact main [] (by simp) (fun v hv => by cases hv)
  · intro acc ha hq
    have := Nat.mul_le_mul (show h ≤ 1024 by omega) (show w ≤ 1024 by omega)
    exact ⟨acc, Ev.step (fun k => rfl) (evneg (by omega) (Ev.now _)), Ev.step (fun k => rfl) (evneg (by omega) (Ev.now _)), by omega, hq⟩
  · intro y hy ih acc ha hq
    have inn := down (n := w) (P := fun x => ∀ acc : List Int, acc.length ≤ y * w + x → (∀ v ∈ acc, lo ≤ v ∧ v ≤ hi) → ∃ r : List Int, Ev (fun k => spec_l7Grow.l1 k (w : Int) (h : Int) (y : Int) (x : Int) (W : Int) (H : Int) S (w : Int) (h : Int) acc) ((w : Int), (h : Int), r) ∧ Ev (fun k => impl_Grow.l1 k (w : Int) (y : Int) (h : Int) (y : Int) (w : Int) (x : Int) (W : Int) (H : Int) S (w : Int) (h : Int) acc) ((w : Int), (h : Int), r) ∧ r.length ≤ 1048576 ∧ ∀ v ∈ r, lo ≤ v ∧ v ≤ hi) ?_ ?_
    · obtain ⟨r, g1, g2, g3⟩ := inn acc (by omega) hq
      exact ⟨r, Ev.step (fun k => rfl) (evpos (by omega) g1), Ev.step (fun k => rfl) (evpos (by omega) g2), g3⟩
    · intro acc ha hq
      obtain ⟨r, g1, g2, g3⟩ := ih acc (by rw [Nat.succ_mul]; exact ha) hq
      refine ⟨r, Ev.step (fun k => rfl) (evneg (by omega) ?_), Ev.step (fun k => rfl) (evneg (by omega) ?_), g3⟩
      · rw [w64s (by omega)]; exact g1
      · rw [w64s (by omega)]; exact g2
    · intro x hx ihx acc ha hq
      have hb := Nat.mul_le_mul (show y ≤ 1024 by omega) (show w ≤ 1024 by omega)
      have ln : acc.length < 17592186044416 := by omega
      obtain ⟨nx, cx⟩ := near_both x W (by omega) hW2
      obtain ⟨ny, cy⟩ := near_both y H (by omega) hH2
      have hx2 : x / 2 < W := by omega
      have hy2 : y / 2 < H := by omega
      have go := at_grow W H S hS hl hW hH hW2 hH2
      have im := at_implG W H S hS hl
      have hX := Aside0.mk (half x (by omega))
      have hY := Aside0.mk (half y (by omega))
      obtain ⟨a, ha2⟩ : ∃ a, wrap64 (wrap64 (wrap64 (Int.tdiv (x : Int) 2) - 1) + wrap64 (Int.tmod (x : Int) 2 * 2)) = a := ⟨_, rfl⟩
      obtain ⟨b, hb2⟩ : ∃ b, wrap64 (wrap64 (wrap64 (Int.tdiv (y : Int) 2) - 1) + wrap64 (Int.tmod (y : Int) 2 * 2)) = b := ⟨_, rfl⟩
      have HA := Aside0.mk ha2
      have HB := Aside0.mk hb2
      rw [ha2] at nx
      rw [hb2] at ny
      rw [hX.out] at cx
      rw [hY.out] at cy
      clear ha2 hb2
      have la := cl_lt a hW
      have lb := cl_lt b hH
      have gd : ∀ i j : Nat, i < W → j < H → lo ≤ S.getD (j * W + i) 0 ∧ S.getD (j * W + i) 0 ≤ hi := fun i j hi' hj' => by
        have := bd.v (j * W + i) (by rw [hS]; exact at_lt hi' hj')
        rwa [rd_nat] at this
      have hbl := Aside0.mk (soft_bd bd.lo0 bd.hi1 (gd _ _ hx2 hy2) (gd _ _ la hy2) (gd _ _ hx2 lb) (gd _ _ la lb))
      clear gd
      obtain ⟨r, g1, g2, g3⟩ := ihx (acc ++ [soft (S.getD (y / 2 * W + x / 2) 0) (S.getD (y / 2 * W + cl a W) 0) (S.getD (cl b H * W + x / 2) 0) (S.getD (cl b H * W + cl a W) 0)]) (by rw [List.length_append, List.length_singleton]; omega) (fun v hv => by
        rcases List.mem_append.1 hv with hm | hm
        · exact hq v hm
        · rw [List.mem_singleton] at hm
          rw [hm]; exact hbl.out)
      have p1 := go ((x / 2 : Nat) : Int) ((y / 2 : Nat) : Int)
      have p2 := go a ((y / 2 : Nat) : Int)
      have p3 := go ((x / 2 : Nat) : Int) b
      have p4 := go a b
      rw [cx, cy] at p1
      rw [cy] at p2
      rw [cx] at p3
      refine ⟨r, Ev.step (fun k => rfl) (evpos (by omega) ?_), Ev.step (fun k => rfl) (evpos (by omega) (evlet nx (evlet ny ?_))), g3⟩
      · rw [HA.out, HB.out, hX.out, hY.out]
        refine Ev.bind p1 (Ev.bind p2 (Ev.bind p3 (Ev.bind p4 (evpos ln ?_))))
        rw [w64s (by omega)]; exact g1
      · rw [hX.out, hY.out]
        refine evlet (im _ _ hx2 hy2) (evlet (im _ _ la hy2) (evlet (im _ _ hx2 lb) (evlet (im _ _ la lb) (evpos ln ?_))))
        rw [w64s (by omega)]; exact g2
/-! ### the drawn plane -/
theorem wn1 (n : Nat) (h : n ≤ 100000) : wrap64 (1 + (n : Int)) = ((n + 1 : Nat) : Int) := by
  rw [w64 (by omega) (by omega)]; omega
theorem size_t {l : List Int} (hl : ByteL l) : ∃ n : Nat, spec_l1Size.f l 10 30 = some (n : Int) ∧ n ≤ 30 := by
  have h := hl.len
  unfold spec_l1Size.f
  rw [if_neg (by omega), w64 (by omega) (by omega)]
  split
  · exact ⟨30, rfl, by omega⟩
  · exact ⟨((l.length : Int) / 10).toNat, by rw [Int.toNat_of_nonneg (by omega)], by omega⟩
theorem plane_t {l : List Int} (hl : ByteL l) (a s : Int) (n : Nat) (hn : 1 ≤ n) (hn2 : n ≤ 31) (h0 : 0 ≤ a) (h1 : a ≤ 100000) : ∃ (W H : Int) (S : List Int) (a' s' : Int), Ev (fun k => spec_l1Cur_plane.f k l a s (n : Int)) (W, H, S, a', s') ∧ 1 ≤ S.length ∧ S.length ≤ 1024 ∧ (1 ≤ W ∧ W ≤ 100 ∧ H ≤ 100) ∧ a ≤ a' ∧ a' ≤ a + 10000 := by
  obtain ⟨r1, a1, s1, e1, x1, y1, p1, q1⟩ := pick_t hl a s n (by omega) h0 (by omega)
  obtain ⟨r2, a2, s2, e2, x2, y2, p2, q2⟩ := pick_t hl a1 s1 n (by omega) (by omega) (by omega)
  obtain ⟨w, rfl⟩ : ∃ w : Nat, r1 = (w : Int) := ⟨r1.toNat, by omega⟩
  obtain ⟨h, rfl⟩ : ∃ h : Nat, r2 = (h : Int) := ⟨r2.toNat, by omega⟩
  have m : (w + 1) * (h + 1) * 1 ≤ 1024 := by
    have := Nat.mul_le_mul (show w + 1 ≤ 32 by omega) (show h + 1 ≤ 32 by omega)
    omega
  have m1 : 1 ≤ (w + 1) * (h + 1) * 1 := by
    have := Nat.mul_le_mul (show 1 ≤ w + 1 by omega) (show 1 ≤ h + 1 by omega)
    omega
  obtain ⟨o, a3, s3, e3, l3, _, p3, q3⟩ := samples_t hl a2 s2 8 256 (w + 1) (h + 1) 1 (by decide +kernel) (by decide) (by omega) (by omega) (by omega) (by omega) (by omega) (by omega)
  refine ⟨((w + 1 : Nat) : Int), ((h + 1 : Nat) : Int), o, a3, s3, evlet e1 (evlet e2 ?_), by omega, by omega, by omega, by omega, by omega⟩
  simp only
  rw [wn1 w (by omega), wn1 h (by omega)]
  exact Ev.bind e3 (Ev.now _)
theorem l7_t {l : List Int} (hl : ByteL l) : ∃ (W H : Int) (S : List Int) (a' s' : Int), Ev (fun k => spec_l7Plane.f k l l 0 0) (W, H, S, a', s') ∧ S.length ≤ 1024 ∧ (W ≤ 200 ∧ H ≤ 200) ∧ 0 ≤ a' ∧ a' ≤ 30000 := by
  obtain ⟨W, H, S, a1, s1, e1, x1, y1, z1, p1, q1⟩ := plane_t hl 0 0 9 (by omega) (by omega) (by omega) (by omega)
  obtain ⟨b, a2, s2, e2, p2, q2⟩ := one_t hl a1 s1 3 (by omega) (by omega) (by omega)
  have tail : ∀ (W H : Int) (S : List Int) (a s : Int), 1 ≤ S.length → S.length ≤ 1024 → (1 ≤ W ∧ W ≤ 100 ∧ H ≤ 100) → 0 ≤ a → a ≤ 29000 → ∃ (W' H' : Int) (S' : List Int) (a' s' : Int), Ev (fun k => spec_l7Plane.j0 k l a s W H S) (W', H', S', a', s') ∧ S'.length ≤ 1024 ∧ (W' ≤ 200 ∧ H' ≤ 200) ∧ 0 ≤ a' ∧ a' ≤ 30000 := by
    intro W H S a s S1 S2 hwh h0 h1
    obtain ⟨r, a3, s3, e3, x3, y3, p3, q3⟩ := pick_t hl a s 16 (by omega) h0 (by omega)
    by_cases c0 : r = 0
    · obtain ⟨r4, a4, s4, e4, x4, y4, p4, q4⟩ := pick_t hl a3 s3 3 (by omega) (by omega) (by omega)
      refine ⟨_, H, S, a4, s4, Ev.step (fun k => rfl) (evlet e3 (evpos c0 (evlet e4 (Ev.now _)))), S2, ?_, by omega, by omega⟩
      dsimp only
      rw [w64 (n := r4 - 1) (by omega) (by omega), w64 (by omega) (by omega)]
      omega
    by_cases c1 : r = 1
    · obtain ⟨r4, a4, s4, e4, x4, y4, p4, q4⟩ := pick_t hl a3 s3 2 (by omega) (by omega) (by omega)
      exact ⟨W, H, _, a4, s4, Ev.step (fun k => rfl) (evlet e3 (evneg c0 (evpos c1 (evlet rfl (evlet e4 (evpos x4 (evpos (by simpa using y4) (evpos (by omega) (Ev.now _))))))))), by rw [List.length_set]; exact S2, by omega, by omega, by omega⟩
    · exact ⟨W, H, S, a3, s3, Ev.step (fun k => rfl) (evlet e3 (evneg c0 (evneg c1 (Ev.now _)))), S2, by omega, by omega, by omega⟩
  cases b with
  | false =>
    obtain ⟨W', H', S', a', s', e, g1, g2, g3, g4⟩ := tail W H S a2 s2 x1 y1 z1 (by omega) (by omega)
    exact ⟨W', H', S', a', s', Ev.bind e1 (evlet e2 (evneg Bool.false_ne_true e)), g1, g2, g3, g4⟩
  | true =>
    obtain ⟨n, en, hn⟩ := size_t hl
    obtain ⟨W2, H2, S2, a3, s3, e3, x3, y3, z3, p3, q3⟩ := plane_t hl a2 s2 (n + 1) (by omega) (by omega) (by omega) (by omega)
    obtain ⟨W', H', S', a', s', e, g1, g2, g3, g4⟩ := tail W2 H2 S2 a3 s3 x3 y3 z3 (by omega) (by omega)
    refine ⟨W', H', S', a', s', Ev.bind e1 (evlet e2 (evpos rfl (evlet en ?_))), g1, g2, g3, g4⟩
    rw [wn1 n (by omega)]
    exact Ev.bind e3 e
theorem draw_t {l : List Int} (hl : ByteL l) : ∃ (W H : Int) (S : List Int) (a b : Int), Ev (fun k => spec_DrawResize.f k l) (W, H, S, a, b) ∧ S.length ≤ 1024 ∧ (W ≤ 200 ∧ H ≤ 200) := by
  obtain ⟨W, H, S, a, s, e, hS, hwh, g0, g1⟩ := l7_t hl
  obtain ⟨r1, a1, s1, e1, x1, y1, p1, q1⟩ := pick_t hl a s 20 (by omega) (by omega) (by omega)
  obtain ⟨r2, a2, s2, e2, x2, y2, p2, q2⟩ := pick_t hl a1 s1 20 (by omega) (by omega) (by omega)
  obtain ⟨r3, a3, s3, e3, x3, y3, p3, q3⟩ := pick_t hl a2 s2 14 (by omega) (by omega) (by omega)
  obtain ⟨r4, a4, s4, e4, x4, y4, p4, q4⟩ := pick_t hl a3 s3 2 (by omega) (by omega) (by omega)
  obtain ⟨r5, a5, s5, e5, x5, y5, p5, q5⟩ := pick_t hl a4 s4 9 (by omega) (by omega) (by omega)
  by_cases c0 : r3 = 0
  · exact ⟨W, H, S, _, _, Ev.bind e (evlet e1 (evlet e2 (evlet e3 (evpos c0 (evlet e4 (evlet e5 (Ev.now _))))))), hS, hwh⟩
  by_cases c1 : r3 = 1
  · exact ⟨W, H, S, _, _, Ev.bind e (evlet e1 (evlet e2 (evlet e3 (evneg c0 (evpos c1 (evlet e4 (Ev.now _))))))), hS, hwh⟩
  · exact ⟨W, H, S, _, _, Ev.bind e (evlet e1 (evlet e2 (evlet e3 (evneg c0 (evneg c1 (Ev.now _)))))), hS, hwh⟩
theorem wInts_t (l : List Int) (hl : l.length ≤ 1048576) : Ev (fun k => laws_wInts.f k l l) true := by
  refine evpos rfl ?_
  refine down (n := l.length) (P := fun i => Ev (fun k => laws_wInts.l0 k l l (l.length : Int) (i : Int)) true) ?_ ?_
  · exact Ev.step (fun k => rfl) (evneg (by omega) (Ev.now _))
  · intro i hi h
    refine Ev.step (fun k => rfl) (evpos (by omega) (evpos (by omega) (evpos (by omega) (evpos (by omega) (evpos rfl ?_)))))
    rw [w64s (by omega)]; exact h
/-! ### whole functions, of a good plane -/
def In (lo hi : Int) (r : Int × Int × List Int) : Prop := r.2.2.length ≤ 1048576 ∧ ∀ v ∈ r.2.2, lo ≤ v ∧ v ≤ hi
theorem in_none (lo hi a b : Int) : In lo hi (a, b, []) := ⟨by show (0 : Nat) ≤ _; omega, fun v hv => by cases hv⟩
theorem sides_both (W H : Int) : ∃ q : Bool, spec_l7Sides.f W H = some q ∧ impl_goodSides.f W H = some q ∧ (q = true ↔ (1 ≤ W ∧ W ≤ 512) ∧ (1 ≤ H ∧ H ≤ 512) ∧ wrap64 (W * H) ≤ 4096) := by
  have sp : spec_l7Sides.f W H = some (decide (((1 ≤ W ∧ W ≤ 512) ∧ 1 ≤ H ∧ H ≤ 512) ∧ wrap64 (W * H) ≤ 4096)) := by
    have g : spec_l4Sides.f W H = some (decide ((1 ≤ W ∧ W ≤ 512) ∧ 1 ≤ H ∧ H ≤ 512)) := by
      unfold spec_l4Sides.f
      repeat' split
      all_goals first | (rw [decide_eq_false (by omega)]; done) | exact congrArg some (decide_eq_decide.2 (by omega))
    unfold spec_l7Sides.f
    rw [g, Option.bind_some]
    by_cases c : (1 ≤ W ∧ W ≤ 512) ∧ 1 ≤ H ∧ H ≤ 512
    · rw [decide_eq_true c, if_pos rfl]
      exact congrArg some (decide_eq_decide.2 (by omega))
    · rw [decide_eq_false c, if_neg (by simp), decide_eq_false (by omega)]
  have im : impl_goodSides.f W H = some (decide (((1 ≤ W ∧ W ≤ 512) ∧ 1 ≤ H ∧ H ≤ 512) ∧ wrap64 (W * H) ≤ 4096)) := by
    have g : ∀ a, impl_goodSide.f a = some (decide (1 ≤ a ∧ a ≤ 512)) := by
      intro a
      unfold impl_goodSide.f
      split
      · exact congrArg some (decide_eq_decide.2 (by omega))
      · rw [decide_eq_false (by omega)]
    unfold impl_goodSides.f
    rw [g, g, Option.bind_some, Option.bind_some]
    by_cases c1 : 1 ≤ W ∧ W ≤ 512
    · rw [decide_eq_true c1, if_pos rfl]
      by_cases c2 : 1 ≤ H ∧ H ≤ 512
      · rw [decide_eq_true c2, if_pos rfl]
        exact congrArg some (decide_eq_decide.2 (by omega))
      · rw [decide_eq_false c2, if_neg (by simp), decide_eq_false (by omega)]
    · rw [decide_eq_false c1, if_neg (by simp), decide_eq_false (by omega)]
  refine ⟨_, sp, im, ?_⟩
  rw [decide_eq_true_iff]
  omega
section
variable {lo hi : Int} {W H : Int} {S : List Int} (bd : Bd lo hi S) (pl : Pl W H S) (p1 : Ev (fun k => spec_GoodPlane.f k W H S) true) (p2 : Ev (fun k => impl_GoodPlane.f k W H S) true)
include bd pl p1 p2
theorem whole_shrink (b : Int) (hb : b = 2 ∨ b = 4) : ∃ r : Int × Int × List Int, In lo hi r ∧ Ev (fun k => spec_Shrink.f k W H S b) r ∧ Ev (fun k => impl_Shrink.f k W H S b) r := by
  obtain ⟨OW, OH, out, ⟨o1, o2⟩, g1, g2⟩ := shrink_both bd ⟨hb, pl.w, pl.h, pl.len⟩
  refine ⟨(OW, OH, out), ⟨by show out.length ≤ _; omega, o2⟩, Ev.bind p1 (evpos rfl ?_), Ev.bind p2 (evpos rfl ?_)⟩
  · rcases hb with rfl | rfl
    · exact evpos rfl (Ev.bind g1 (Ev.now _))
    · exact evneg (by decide) (evpos rfl (Ev.bind g1 (Ev.now _)))
  · rcases hb with rfl | rfl
    · exact evpos rfl g2
    · exact evneg (by decide) g2
theorem whole_resize (a b : Int) : ∃ r : Int × Int × List Int, In lo hi r ∧ Ev (fun k => spec_Resize.f k W H S a b) r ∧ Ev (fun k => impl_Resize.f k W H S a b) r := by
  have it : Ev (fun k => impl_Resize.j0 k a b true W H S) (0, 0, []) := Ev.step (fun k => rfl) (Ev.now _)
  have st : Ev (fun k => spec_Resize.j0 k a b true W H S) (0, 0, []) := Ev.step (fun k => rfl) (Ev.now _)
  obtain ⟨q, s1, s2, s3⟩ := sides_both a b
  cases q with
  | false => exact ⟨(0, 0, []), in_none _ _ _ _, Ev.bind p1 (evpos rfl (evlet s1 st)), Ev.bind p2 (evpos rfl (evlet s2 it))⟩
  | true =>
    obtain ⟨ha, hb, -⟩ := s3.1 rfl
    clear s3
    have hw := pl.w
    have hh := pl.h
    have hs := pl.len
    have hl := pl.wh
    obtain ⟨W, rfl⟩ : ∃ n : Nat, W = (n : Int) := ⟨W.toNat, by omega⟩
    obtain ⟨H, rfl⟩ : ∃ n : Nat, H = (n : Int) := ⟨H.toNat, by omega⟩
    obtain ⟨a, rfl⟩ : ∃ n : Nat, a = (n : Int) := ⟨a.toNat, by omega⟩
    obtain ⟨b, rfl⟩ : ∃ n : Nat, b = (n : Int) := ⟨b.toNat, by omega⟩
    rw [← Int.natCast_mul] at hs hl
    obtain ⟨r, g1, g2, g3, g4⟩ := loops_both W H a b S bd (by omega) (by omega) (by omega) (by omega) (by omega) (by omega) (by omega) (by omega) (by omega) (by omega)
    exact ⟨(_, _, r), ⟨by show r.length ≤ _; omega, g4⟩, Ev.bind p1 (evpos rfl (evlet s1 (Ev.step (fun k => rfl) g1))), Ev.bind p2 (evpos rfl (evlet s2 (Ev.step (fun k => rfl) g2)))⟩
omit bd in
theorem whole_own : Ev (fun k => impl_Resize.f k W H S W H) (W, H, S) := by
  obtain ⟨q, s1, s2, s3'⟩ := sides_both W H
  have s3 := Aside0.mk s3'
  clear s3'
  have hw := pl.w
  have hh := pl.h
  have hs := pl.len
  have hl := pl.wh
  have hv := pl.v
  have h0 := Int.mul_nonneg (show 0 ≤ W by omega) (show 0 ≤ H by omega)
  have hq : q = true := s3.out.2 ⟨hw, hh, by rw [w64 (by omega) (by omega)]; exact hl⟩
  subst hq
  clear s3 h0
  obtain ⟨W, rfl⟩ : ∃ n : Nat, W = (n : Int) := ⟨W.toNat, by omega⟩
  obtain ⟨H, rfl⟩ : ∃ n : Nat, H = (n : Int) := ⟨H.toNat, by omega⟩
  rw [← Int.natCast_mul] at hs hl
  exact Ev.bind p2 (evpos rfl (evlet s2 (Ev.step (fun k => rfl) (own_side W H S (by omega) (by omega) (by omega) (by omega) (by omega) (by omega) hv))))
theorem whole_grow (hW : W ≤ 200) (hH : H ≤ 200) : ∃ r : Int × Int × List Int, In lo hi r ∧ Ev (fun k => spec_Grow.f k W H S (wrap64 (wrap64 (2 * W) - 1)) (wrap64 (2 * H))) r ∧ Ev (fun k => impl_Grow.f k W H S (wrap64 (wrap64 (2 * W) - 1)) (wrap64 (2 * H))) r := by
  have hw := pl.w
  have hh := pl.h
  have hs := pl.len
  have hl := pl.wh
  have w1 := Aside0.mk (show wrap64 (2 * W) = 2 * W from w64 (by omega) (by omega))
  have w2 := Aside0.mk (show wrap64 (2 * W - 1) = 2 * W - 1 from w64 (by omega) (by omega))
  have w3 := Aside0.mk (show wrap64 (2 * H) = 2 * H from w64 (by omega) (by omega))
  obtain ⟨q, s1, s2, s3'⟩ := sides_both (2 * W - 1) (2 * H)
  have s3 := Aside0.mk s3'
  clear s3'
  have c1 : ¬ 2 * W - 1 = 2 * W := by omega
  have it : Ev (fun k => impl_Grow.j0 k (2 * W - 1) (2 * H) true W H S) (0, 0, []) := Ev.step (fun k => rfl) (Ev.now _)
  obtain ⟨w', hw'⟩ : ∃ n : Nat, 2 * W - 1 = (n : Int) := ⟨(2 * W - 1).toNat, by omega⟩
  obtain ⟨h', hh'⟩ : ∃ n : Nat, 2 * H = (n : Int) := ⟨(2 * H).toNat, by omega⟩
  have gs : ∀ r, Ev (fun k => if q = true then ((spec_l7Grow.f k W H S (2 * W - 1) (2 * H)).bind fun bt => some (bt.1, bt.2.1, bt.2.2)) else some (0, 0, [])) r → Ev (fun k => spec_Grow.f k W H S (wrap64 (wrap64 (2 * W) - 1)) (wrap64 (2 * H))) r := by
    intro r h
    unfold spec_Grow.f
    rw [w1.out, w2.out, w3.out]
    exact Ev.bind p1 (evpos rfl (evneg c1 (evpos rfl (evpos rfl (evlet s1 h)))))
  have gi : ∀ r, Ev (fun k => impl_Grow.j0 k (2 * W - 1) (2 * H) (decide (wrap64 ((2 * W - 1) * (2 * H)) > 4096)) W H S) r → Ev (fun k => impl_Grow.f k W H S (wrap64 (wrap64 (2 * W) - 1)) (wrap64 (2 * H))) r := by
    intro r h
    unfold impl_Grow.f
    rw [w1.out, w2.out, w3.out]
    exact Ev.bind p2 (evpos rfl (evneg c1 (evpos rfl (evpos rfl h))))
  clear w1 w2 w3
  by_cases cq : q = true
  · rw [decide_eq_false (Int.not_lt.2 (s3.out.1 cq).2.2)] at gi
    clear s3
    obtain ⟨W, rfl⟩ : ∃ n : Nat, W = (n : Int) := ⟨W.toNat, by omega⟩
    obtain ⟨H, rfl⟩ : ∃ n : Nat, H = (n : Int) := ⟨H.toNat, by omega⟩
    rw [← Int.natCast_mul] at hs hl
    obtain ⟨r, g1, g2, g3, g4⟩ := grow_loops W H w' h' S bd (by omega) (by omega) (by omega) (by omega) (by omega) (by omega) (by omega) (by omega)
    rw [← hw', ← hh'] at g1 g2
    exact ⟨(_, _, r), ⟨g3, g4⟩, gs _ (evpos cq (Ev.bind g1 (Ev.now _))), gi _ (Ev.step (fun k => rfl) g2)⟩
  · have c4 := Aside0.mk (show wrap64 ((2 * W - 1) * (2 * H)) > 4096 from by
      refine Int.not_le.1 fun h => cq (s3.out.2 ⟨?_, ?_, h⟩)
      · omega
      · omega)
    clear s3
    rw [decide_eq_true c4.out] at gi
    exact ⟨(0, 0, []), in_none _ _ _ _, gs _ (evneg cq (Ev.now _)), gi _ it⟩
end
/-! ### the law -/
theorem inner_t (lo hi : Int) (want list : List S82) (m i W H : Int) (S L : List Int) (hL : ∀ v ∈ L, lo ≤ v ∧ v ≤ hi) (hl : L.length ≤ 1048576) (h : Ev (fun k => laws_FnSizes.l0 k lo hi want list m (wrap64 (i + 1)) W H S) true) :
    Ev (fun k => laws_FnSizes.l1 k lo hi want list m i L (L.length : Int) 0 W H S) true := by
  refine down (n := L.length) (P := fun j => Ev (fun k => laws_FnSizes.l1 k lo hi want list m i L (L.length : Int) (j : Int) W H S) true) ?_ ?_
  · exact Ev.step (fun k => rfl) (evneg (by omega) h)
  · intro j hj ih
    have := hL _ (List.getElem_mem hj)
    have e : rd L (j : Int) = L[j] := by rw [rd_nat, getD_lt hj]
    refine Ev.step (fun k => rfl) (evpos (by omega) (evpos (by omega) (evpos (by omega) (evneg (by omega) (evneg (by omega) ?_)))))
    rw [w64s (by omega)]; exact ih
theorem rounds_t (lo hi W H : Int) (S : List Int) (rs : List S82) (hr : rs.length ≤ 1000) (hin : ∀ r ∈ rs, r.f2.length ≤ 1048576 ∧ ∀ v ∈ r.f2, lo ≤ v ∧ v ≤ hi) (own : Ev (fun k => impl_Resize.f k W H S W H) (W, H, S)) (hS : S.length ≤ 1048576) :
    Ev (fun k => laws_FnSizes.l0 k lo hi rs rs (rs.length : Int) 0 W H S) true := by
  refine down (n := rs.length) (P := fun i => Ev (fun k => laws_FnSizes.l0 k lo hi rs rs (rs.length : Int) (i : Int) W H S) true) ?_ ?_
  · exact Ev.step (fun k => rfl) (evneg (by omega) (Ev.bind own (Ev.bind (wInts_t S hS) (Ev.now _))))
  · intro i hi' ih
    have hm := hin _ (List.getElem_mem hi')
    have e : rd_T82 rs (i : Int) = rs[i] := by simp [rd_T82, List.getD_eq_getElem?_getD, hi']
    refine Ev.step (fun k => rfl) (evpos (by omega) (evpos (by omega) (evpos (by omega) (evpos (by omega) (evpos rfl (evpos rfl ?_))))))
    rw [e]
    refine Ev.bind (wInts_t _ hm.1) (evpos rfl (inner_t lo hi rs rs _ _ W H S _ hm.2 hm.1 ?_))
    rw [w64s (by omega)]; exact ih
theorem FnSizes : laws_FnSizes.Pure := by
  intro l _ _ hw
  refine Ev.rounds ?_
  by_cases cl : (l.length : Int) > 1048576
  · exact evpos cl (Ev.now _)
  have hl : ByteL l := bytel hw cl
  obtain ⟨W, H, S, a, b, e, hS, hwh⟩ := draw_t hl
  obtain ⟨q, p1, p2, p3⟩ := plane_both W H S (by omega)
  refine evneg cl (Ev.bind e (Ev.bind p1 ?_))
  cases q with
  | false =>
    have s0 : Ev (fun k => impl_Shrink.f k W H S 2) (0, 0, []) := Ev.bind p2 (evneg Bool.false_ne_true (Ev.step (fun k => rfl) (Ev.now _)))
    have r0 : Ev (fun k => impl_Resize.f k W H S a b) (0, 0, []) := Ev.bind p2 (evneg Bool.false_ne_true (Ev.step (fun k => rfl) (Ev.now _)))
    exact evneg Bool.false_ne_true (Ev.bind s0 (evpos rfl (Ev.bind r0 (Ev.now _))))
  | true =>
    have pl := p3 rfl
    obtain ⟨lo, hi, en, hv⟩ := ends_t S (by omega)
    have h1 : 1 ≤ S.length := by
      have h0 := Int.mul_le_mul (show (1 : Int) ≤ W from pl.w.1) (show (1 : Int) ≤ H from pl.h.1) (by omega) (by have := pl.w.1; omega)
      have := pl.len
      omega
    have bd : Bd (max lo 0) (min hi 255) S := ⟨by omega, by omega, fun j hj => by have := hv j hj; have := pl.v j hj; omega⟩
    have wide : ∀ r : Int × Int × List Int, In (max lo 0) (min hi 255) r → r.2.2.length ≤ 1048576 ∧ ∀ v ∈ r.2.2, lo ≤ v ∧ v ≤ hi := fun r h => ⟨h.1, fun v hv' => by have := h.2 v hv'; omega⟩
    obtain ⟨r1, i1, a1, b1⟩ := whole_shrink bd pl p1 p2 2 (.inl rfl)
    obtain ⟨r2, i2, a2, b2⟩ := whole_shrink bd pl p1 p2 4 (.inr rfl)
    obtain ⟨r3, i3, a3, b3⟩ := whole_resize bd pl p1 p2 a b
    obtain ⟨r4, i4, a4, b4⟩ := whole_grow bd pl p1 p2 hwh.1 hwh.2
    have own := whole_own pl p1 p2
    refine evpos rfl (Ev.bind en (Ev.bind b1 (Ev.bind b2 (Ev.bind b3 (Ev.bind b4 (evlet rfl (Ev.bind a1 (Ev.bind a2 (Ev.bind a3 (Ev.bind a4 ?_))))))))))
    refine rounds_t lo hi W H S [⟨r1.1, r1.2.1, r1.2.2⟩, ⟨r2.1, r2.2.1, r2.2.2⟩, ⟨r3.1, r3.2.1, r3.2.2⟩, ⟨r4.1, r4.2.1, r4.2.2⟩] (by simp only [List.length_cons, List.length_nil]; omega) (fun r hr => ?_) own (by omega)
    simp only [List.mem_cons, List.not_mem_nil, or_false] at hr
    rcases hr with rfl | rfl | rfl | rfl
    · exact wide _ i1
    · exact wide _ i2
    · exact wide _ i3
    · exact wide _ i4
end Go.Proofs.Ytidblealnaicpaa.Pure

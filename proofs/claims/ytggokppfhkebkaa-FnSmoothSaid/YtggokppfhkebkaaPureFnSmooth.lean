/- The law FnSmooth: for every code the drawn plane, smoothed, is as the reference has it, and only samples next to edges of four change, each by at most the bound; no condition besides. -/
import Derived.Test.YtggokppfhkebkaaPFnSmoothx0
import Derived.Test.YtggokppfhkebkaaPFnSmoothx1
import Derived.Test.YtggokppfhkebkaaPFnSmoothx2
import Derived.Test.YtggokppfhkebkaaPFnSmoothx3
import Derived.Test.YtggokppfhkebkaaPFnSmoothx4
import Derived.Test.YtggokppfhkebkaaPFnSmoothx5
import Derived.Test.YtggokppfhkebkaaPFnSmoothx6
import Derived.Test.YtggokppfhkebkaaPFnSmoothx7
import Derived.Test.YtggokppfhkebkaaPFnSmoothx8
import Derived.Test.YtggokppfhkebkaaPFnSmoothx9
import Derived.Test.YtggokppfhkebkaaTFSK
import Derived.Laws.Bits64b
namespace Go.Proofs.Ytggokppfhkebkaa.Pure
open Go.RowKit Go.Proofs.Ytggokppfhkebkaa.PFnSmooth Go.Proofs.Ytggokppfhkebkaa.K Go.Proofs.YtggokppfhkebkaaW.PrintWords Go.Proofs.YtggokppfhkebkaaW.PrintLast Go.Proofs.YtggokppfhkebkaaW.PrintMore

/-- The bytes that a cursor reads. -/
structure ByteL (l : List Int) : Prop where
  len : l.length ≤ 1048576
  bd : ∀ x ∈ l, 0 ≤ x ∧ x ≤ 255
theorem bytel {l : List Int} (h : ∀ x ∈ l, (Lit.int .u8 x).wf = true) (hl : ¬ (l.length : Int) > 1048576) : ByteL l := ⟨by omega, fun x hx => wfb (h x hx)⟩
theorem rd_byte {l : List Int} (h : ByteL l) {i : Int} (h0 : 0 ≤ i) (h1 : i < l.length) : 0 ≤ rd l i ∧ rd l i ≤ 255 := by
  obtain ⟨j, rfl⟩ : ∃ j : Nat, i = (j : Int) := ⟨i.toNat, by omega⟩
  rw [rd_nat, getD_lt (show j < l.length by omega)]
  exact h.bd _ (List.getElem_mem _)
theorem and255 (x : Int) : 0 ≤ Go.bits .and .u64 x 255 ∧ Go.bits .and .u64 x 255 ≤ 255 := by
  have e : Go.bits .and .u64 x 255 = IntKind.u64.wrap ((BitVec.ofInt 64 x &&& BitVec.ofInt 64 255).toNat : Int) := rfl
  have h : (BitVec.ofInt 64 x &&& BitVec.ofInt 64 255).toNat ≤ 255 := by
    rw [BitVec.toNat_and]; exact Nat.and_le_right
  rw [e, IntKind.wrap_u64]
  omega
theorem w255 {x : Int} (h : 0 ≤ x ∧ x ≤ 255) : wrap64 x = x := w64 (by omega) (by omega)
theorem next_t {l : List Int} (hl : ByteL l) (a s : Int) (h0 : 0 ≤ a) (h1 : a ≤ 2000000000000) : ∃ v s', spec_l1Cur_next.f l a s = some (v, a + 1, s') ∧ 0 ≤ v ∧ v ≤ 255 := by
  unfold spec_l1Cur_next.f
  rw [show wrap64 (a + 1) = a + 1 from w64 (by omega) (by omega)]
  by_cases c : a < (l.length : Int)
  · rw [if_pos c, if_pos h0, if_pos (by omega)]
    have := rd_byte hl h0 c
    exact ⟨_, _, rfl, by rw [w255 this]; exact this.1, by rw [w255 this]; exact this.2⟩
  · rw [if_neg c, if_neg (by omega)]
    refine ⟨_, _, rfl, ?_, ?_⟩
    · rw [w255 (and255 _)]; exact (and255 _).1
    · rw [w255 (and255 _)]; exact (and255 _).2
theorem pick_t {l : List Int} (hl : ByteL l) (a s n : Int) (hn : 1 ≤ n) (h0 : 0 ≤ a) (h1 : a ≤ 1000000000000) : ∃ r a' s', spec_l1Cur_pick.f l a s n = some (r, a', s') ∧ 0 ≤ r ∧ r < n ∧ a ≤ a' ∧ a' ≤ a + 3 := by
  unfold spec_l1Cur_pick.f
  by_cases c : n ≤ 1
  · rw [if_pos c]
    exact ⟨0, a, s, rfl, by omega, by omega, by omega, by omega⟩
  rw [if_neg c]
  have nz : ¬ n = 0 := by omega
  obtain ⟨v, s1, e1, v0, v1⟩ := next_t hl a s h0 (by omega)
  rw [e1, Option.bind_some]
  have fin : ∀ x : Int, 0 ≤ x → 0 ≤ Int.tmod x n ∧ Int.tmod x n < n := fun x hx => ⟨Int.tmod_nonneg _ hx, Int.tmod_lt_of_pos _ (by omega)⟩
  by_cases c2 : n > 200
  · rw [if_pos c2]
    obtain ⟨u, s2, e2, u0, u1⟩ := next_t hl (a + 1) s1 (by omega) (by omega)
    simp only [e2, Option.bind_some]
    rw [w64 (n := v * 256) (by omega) (by omega), w64 (n := v * 256 + u) (by omega) (by omega)]
    by_cases c3 : n > 50000
    · rw [if_pos c3]
      obtain ⟨t, s3, e3, t0, t1⟩ := next_t hl (a + 1 + 1) s2 (by omega) (by omega)
      simp only [e3, Option.bind_some]
      rw [if_neg nz, w64 (n := (v * 256 + u) * 256) (by omega) (by omega), w64 (n := (v * 256 + u) * 256 + t) (by omega) (by omega)]
      exact ⟨_, _, _, rfl, (fin _ (by omega)).1, (fin _ (by omega)).2, by omega, by omega⟩
    · rw [if_neg c3, if_neg nz]
      exact ⟨_, _, _, rfl, (fin _ (by omega)).1, (fin _ (by omega)).2, by omega, by omega⟩
  · rw [if_neg c2, if_neg (by omega), if_neg nz]
    exact ⟨_, a + 1, s1, rfl, (fin _ (by omega)).1, (fin _ (by omega)).2, by omega, by omega⟩
theorem one_t {l : List Int} (hl : ByteL l) (a s n : Int) (hn : 1 ≤ n) (h0 : 0 ≤ a) (h1 : a ≤ 1000000000000) : ∃ (b : Bool) (a' s' : Int), spec_l1Cur_one.f l a s n = some (b, a', s') ∧ a ≤ a' ∧ a' ≤ a + 3 := by
  obtain ⟨r, a', s', e, _, _, h2, h3⟩ := pick_t hl a s n hn h0 h1
  unfold spec_l1Cur_one.f
  rw [e]
  exact ⟨_, _, _, rfl, h2, h3⟩
theorem set_bd {o : List Int} {i : Nat} {v m : Int} (hb : ∀ x ∈ o, 0 ≤ x ∧ x ≤ m) (h0 : 0 ≤ v) (h1 : v ≤ m) : ∀ x ∈ o.set i v, 0 ≤ x ∧ x ≤ m := by
  intro x hx
  rcases List.mem_or_eq_of_mem_set hx with hx | rfl
  · exact hb x hx
  · exact ⟨h0, h1⟩
theorem samples_loop {l : List Int} (hl : ByteL l) (W P top dx dy base noise : Int) (hW : ¬ W = 0) (hP : ¬ P = 0) (ht0 : 1 ≤ top) (ht1 : top ≤ 65535) (n : Nat) (hn : n ≤ 1000000) :
    ∀ (o : List Int) (a s : Int), o.length = n → (∀ x ∈ o, 0 ≤ x ∧ x ≤ top) → 0 ≤ a → a ≤ 200000000000 → ∃ (o' : List Int) (a' s' : Int), Ev (fun k => spec_l1Cur_samples.l0 k W P top o dx dy base noise (n : Int) ((0 : Nat) : Int) l a s) (o', a', s') ∧ o'.length = n ∧ (∀ x ∈ o', 0 ≤ x ∧ x ≤ top) ∧ a ≤ a' ∧ a' ≤ a + 6 * n := by
  have main := down (n := n) (P := fun i => ∀ (o : List Int) (a s : Int), o.length = n → (∀ x ∈ o, 0 ≤ x ∧ x ≤ top) → 0 ≤ a → a ≤ 200000000000 + 6 * i → ∃ (o' : List Int) (a' s' : Int), Ev (fun k => spec_l1Cur_samples.l0 k W P top o dx dy base noise (n : Int) (i : Int) l a s) (o', a', s') ∧ o'.length = n ∧ (∀ x ∈ o', 0 ≤ x ∧ x ≤ top) ∧ a ≤ a' ∧ a' ≤ a + 6 * (n - i : Int)) ?_ ?_
  · intro o a s ho hb h0 h1
    obtain ⟨o', a', s', e, h2, h3, h4, h5⟩ := main o a s ho hb h0 (by omega)
    exact ⟨o', a', s', e, h2, h3, h4, by omega⟩
  · intro o a s ho hb h0 h1
    exact ⟨o, a, s, Ev.step (fun k => rfl) (evneg (by omega) (Ev.now _)), ho, hb, by omega, by omega⟩
  · intro i hi ih o a s ho hb h0 h1
    have f0 : (0 : Int) ≤ (i : Int) := by omega
    have f1 : (i : Int) < (o.length : Int) := by omega
    have tn : ((i : Int)).toNat = i := Int.toNat_natCast i
    have j4 : ∀ (y a s : Int), 0 ≤ a → a ≤ 200000000000 + 6 * (i + 1) → ∃ (o' : List Int) (a' s' : Int), Ev (fun k => spec_l1Cur_samples.j4 k W P top o dx dy base noise (i : Int) y (n : Int) (i : Int) l a s) (o', a', s') ∧ o'.length = n ∧ (∀ x ∈ o', 0 ≤ x ∧ x ≤ top) ∧ a ≤ a' ∧ a' ≤ a + 6 * (n - i - 1 : Int) := by
      intro y a s h0 h1
      have st : ∀ v : Int, 0 ≤ v → v ≤ top → ∃ (o' : List Int) (a' s' : Int), Ev (fun k => spec_l1Cur_samples.l0 k W P top (o.set (i : Int).toNat v) dx dy base noise (n : Int) (wrap64 ((i : Int) + 1)) l a s) (o', a', s') ∧ o'.length = n ∧ (∀ x ∈ o', 0 ≤ x ∧ x ≤ top) ∧ a ≤ a' ∧ a' ≤ a + 6 * (n - i - 1 : Int) := by
        intro v v0 v1
        obtain ⟨o', a', s', e, h2, h3, h4, h5⟩ := ih (o.set i v) a s (by simpa using ho) (set_bd hb v0 v1) h0 (by omega)
        refine ⟨o', a', s', ?_, h2, h3, h4, by omega⟩
        rw [w64s (by omega), tn]; exact e
      by_cases c1 : y < 0
      · by_cases c2 : 0 > top
        · omega
        · obtain ⟨o', a', s', e, h⟩ := st 0 (by omega) (by omega)
          exact ⟨o', a', s', Ev.step (fun k => rfl) (evpos c1 (evneg c2 (evpos f0 (evpos f1 e)))), h⟩
      · by_cases c2 : y > top
        · obtain ⟨o', a', s', e, h⟩ := st top (by omega) (by omega)
          exact ⟨o', a', s', Ev.step (fun k => rfl) (evneg c1 (evpos c2 (evpos f0 (evpos f1 e)))), h⟩
        · obtain ⟨o', a', s', e, h⟩ := st y (by omega) (by omega)
          exact ⟨o', a', s', Ev.step (fun k => rfl) (evneg c1 (evneg c2 (evpos f0 (evpos f1 e)))), h⟩
    have j3 : ∀ (y a s : Int), 0 ≤ a → a ≤ 200000000000 + 6 * i + 3 → ∃ (o' : List Int) (a' s' : Int), Ev (fun k => spec_l1Cur_samples.j3 k W P top o dx dy base noise (i : Int) y (n : Int) (i : Int) l a s) (o', a', s') ∧ o'.length = n ∧ (∀ x ∈ o', 0 ≤ x ∧ x ≤ top) ∧ a ≤ a' ∧ a' ≤ a + 6 * (n - i - 1 : Int) + 3 := by
      intro y a s h0 h1
      by_cases c1 : noise = 3
      · obtain ⟨r, a1, s1, e1, r0, r1, p0, p1⟩ := pick_t hl a s (top + 1) (by omega) h0 (by omega)
        obtain ⟨o', a', s', e, h2, h3, h4, h5⟩ := j4 r a1 s1 (by omega) (by omega)
        refine ⟨o', a', s', Ev.step (fun k => rfl) (evpos c1 ?_), h2, h3, by omega, by omega⟩
        rw [show wrap64 (top + 1) = top + 1 from w64 (by omega) (by omega)]
        exact evlet e1 e
      · obtain ⟨o', a', s', e, h2, h3, h4, h5⟩ := j4 y a s h0 (by omega)
        exact ⟨o', a', s', Ev.step (fun k => rfl) (evneg c1 e), h2, h3, by omega, by omega⟩
    have j1 : ∀ (u y a s : Int), 0 ≤ a → a ≤ 200000000000 + 6 * i + 3 → ∃ (o' : List Int) (a' s' : Int), Ev (fun k => spec_l1Cur_samples.j1 k W P top o dx dy base noise (i : Int) u y (n : Int) (i : Int) l a s) (o', a', s') ∧ o'.length = n ∧ (∀ x ∈ o', 0 ≤ x ∧ x ≤ top) ∧ a ≤ a' ∧ a' ≤ a + 6 * (n - i - 1 : Int) + 3 := by
      intro u y a s h0 h1
      have j2 : ∀ b : Bool, ∃ (o' : List Int) (a' s' : Int), Ev (fun k => spec_l1Cur_samples.j2 k W P top o dx dy base noise (i : Int) y (n : Int) (i : Int) b l a s) (o', a', s') ∧ o'.length = n ∧ (∀ x ∈ o', 0 ≤ x ∧ x ≤ top) ∧ a ≤ a' ∧ a' ≤ a + 6 * (n - i - 1 : Int) + 3 := by
        intro b
        cases b with
        | true =>
          obtain ⟨o', a', s', e, h⟩ := j3 (wrap64 (top - y)) a s h0 h1
          exact ⟨o', a', s', Ev.step (fun k => rfl) e, h⟩
        | false =>
          obtain ⟨o', a', s', e, h⟩ := j3 y a s h0 h1
          exact ⟨o', a', s', Ev.step (fun k => rfl) e, h⟩
      by_cases c1 : noise = 2
      · obtain ⟨o', a', s', e, h⟩ := j2 (decide (u > wrap64 (Int.tdiv W 2)))
        exact ⟨o', a', s', Ev.step (fun k => rfl) (evpos c1 e), h⟩
      · obtain ⟨o', a', s', e, h⟩ := j2 false
        exact ⟨o', a', s', Ev.step (fun k => rfl) (evneg c1 e), h⟩
    by_cases c1 : noise = 1
    · obtain ⟨r, a1, s1, e1, r0, r1, p0, p1⟩ := pick_t hl a s 9 (by omega) h0 (by omega)
      obtain ⟨o', a', s', e, h2, h3, h4, h5⟩ := j1 (Int.tmod (wrap64 (Int.tdiv (i : Int) P)) W) (wrap64 ((wrap64 ((wrap64 ((wrap64 (base + (wrap64 ((Int.tmod (wrap64 (Int.tdiv (i : Int) P)) W) * dx)))) + (wrap64 ((wrap64 (Int.tdiv (wrap64 (Int.tdiv (i : Int) P)) W)) * dy)))) + (wrap64 ((Int.tmod (i : Int) P) * 20)))) + r)) a1 s1 (by omega) (by omega)
      exact ⟨o', a', s', Ev.step (fun k => rfl) (evpos (by omega) (evneg hP (evneg hW (evpos c1 (evlet e1 e))))), h2, h3, by omega, by omega⟩
    · obtain ⟨o', a', s', e, h2, h3, h4, h5⟩ := j1 (Int.tmod (wrap64 (Int.tdiv (i : Int) P)) W) (wrap64 ((wrap64 ((wrap64 (base + (wrap64 ((Int.tmod (wrap64 (Int.tdiv (i : Int) P)) W) * dx)))) + (wrap64 ((wrap64 (Int.tdiv (wrap64 (Int.tdiv (i : Int) P)) W)) * dy)))) + (wrap64 ((Int.tmod (i : Int) P) * 20)))) a s (by omega) (by omega)
      exact ⟨o', a', s', Ev.step (fun k => rfl) (evpos (by omega) (evneg hP (evneg hW (evneg c1 e)))), h2, h3, by omega, by omega⟩
theorem samples_t {l : List Int} (hl : ByteL l) (a s d T : Int) (W H P : Nat) (hT : shl .i64 1 (IntKind.u64.wrap d) = T) (hd : 0 ≤ IntKind.u64.wrap d) (hT0 : 2 ≤ T) (hT1 : T ≤ 65536) (hP : 1 ≤ P) (hwh : W * H * P ≤ 1000000) (h0 : 0 ≤ a) (h1 : a ≤ 100000000000) :
    ∃ (o : List Int) (a' s' : Int), Ev (fun k => spec_l1Cur_samples.f k l a s (W : Int) (H : Int) (P : Int) d) (o, a', s') ∧ o.length = W * H * P ∧ (∀ x ∈ o, 0 ≤ x ∧ x ≤ T - 1) ∧ a ≤ a' ∧ a' ≤ a + 12 + 6 * (W * H * P : Nat) := by
  have hwh2 : W * H ≤ 1000000 := Nat.le_trans (Nat.le_mul_of_pos_right _ hP) hwh
  have en : wrap64 (wrap64 ((W : Int) * (H : Int)) * (P : Int)) = ((W * H * P : Nat) : Int) := by
    rw [show (W : Int) * (H : Int) = ((W * H : Nat) : Int) by push_cast; rfl, w64 (n := ((W * H : Nat) : Int)) (by omega) (by omega), show ((W * H : Nat) : Int) * (P : Int) = ((W * H * P : Nat) : Int) by push_cast; rfl, w64 (by omega) (by omega)]
  obtain ⟨r1, a1, s1, e1, _, _, p1, q1⟩ := pick_t hl a s 30 (by omega) h0 (by omega)
  obtain ⟨r2, a2, s2, e2, _, _, p2, q2⟩ := pick_t hl a1 s1 30 (by omega) (by omega) (by omega)
  obtain ⟨r3, a3, s3, e3, _, _, p3, q3⟩ := pick_t hl a2 s2 T (by omega) (by omega) (by omega)
  obtain ⟨r4, a4, s4, e4, _, _, p4, q4⟩ := pick_t hl a3 s3 4 (by omega) (by omega) (by omega)
  have top : wrap64 (T - 1) = T - 1 := w64 (by omega) (by omega)
  have top1 : wrap64 (T - 1 + 1) = T := by rw [w64 (by omega) (by omega)]; omega
  have hlen : (List.replicate (W * H * P) (0 : Int)).length = W * H * P := by simp
  have hz : ∀ x ∈ List.replicate (W * H * P) (0 : Int), 0 ≤ x ∧ x ≤ T - 1 := fun x hx => by rw [List.eq_of_mem_replicate hx]; omega
  suffices hs : ∃ (o : List Int) (a' s' : Int), Ev (fun k => spec_l1Cur_samples.l0 k (W : Int) (P : Int) (T - 1) (List.replicate (W * H * P) 0) (wrap64 (r1 - 15)) (wrap64 (r2 - 15)) r3 r4 ((W * H * P : Nat) : Int) ((0 : Nat) : Int) l a4 s4) (o, a', s') ∧ o.length = W * H * P ∧ (∀ x ∈ o, 0 ≤ x ∧ x ≤ T - 1) ∧ a4 ≤ a' ∧ a' ≤ a4 + 6 * (W * H * P : Nat) by
    obtain ⟨o, a', s', e, h2, h3, h4, h5⟩ := hs
    refine ⟨o, a', s', ?_, h2, h3, by omega, by omega⟩
    unfold spec_l1Cur_samples.f
    rw [hT, en, top, top1, Int.toNat_natCast]
    refine evpos hd (evpos (by omega) (evpos (by omega) (evlet rfl (evlet e1 (evlet e2 (evlet e3 (evlet e4 ?_)))))))
    simp only [hlen]
    exact e
  by_cases c : W * H * P = 0
  · refine ⟨List.replicate (W * H * P) 0, a4, s4, Ev.step (fun k => rfl) (evneg (by omega) (Ev.now _)), hlen, hz, by omega, by omega⟩
  · exact samples_loop hl (W : Int) (P : Int) (T - 1) _ _ _ _ (by rintro h; obtain rfl : W = 0 := by omega
                                                                  simp at c) (by omega) (by omega) (by omega) (W * H * P) hwh _ a4 s4 hlen hz (by omega) (by omega)
/-- A good plane, in numbers. -/
structure Pl (W H : Int) (S : List Int) : Prop where
  w : 1 ≤ W ∧ W ≤ 512
  h : 1 ≤ H ∧ H ≤ 512
  wh : W * H ≤ 4096
  len : (S.length : Int) = W * H
  v : ∀ j : Nat, j < S.length → 0 ≤ rd S (j : Int) ∧ rd S (j : Int) ≤ 255
theorem plane_both (W H : Int) (S : List Int) (hS : S.length ≤ 1048576) : ∃ q : Bool, Ev (fun k => spec_GoodPlane.f k W H S) q ∧ Ev (fun k => impl_GoodPlane.f k W H S) q ∧ (q = true → Pl W H S) := by
  have sp : spec_l7Sides.f W H = some (decide (((1 ≤ W ∧ W ≤ 512) ∧ 1 ≤ H ∧ H ≤ 512) ∧ wrap64 (W * H) ≤ 4096)) := by
    have g : spec_l4Sides.f W H = some (decide ((1 ≤ W ∧ W ≤ 512) ∧ 1 ≤ H ∧ H ≤ 512)) := by
      unfold spec_l4Sides.f
      repeat' split
      all_goals first | (rw [decide_eq_false (by omega)]; done) | exact congrArg some (decide_eq_decide.2 (by omega))
    unfold spec_l7Sides.f
    rw [g, Option.bind_some]
    by_cases c : (1 ≤ W ∧ W ≤ 512) ∧ 1 ≤ H ∧ H ≤ 512
    · rw [decide_eq_true c, if_pos rfl]
      exact congrArg some (decide_eq_decide.2 (by omega))
    · rw [decide_eq_false c, if_neg (by simp), decide_eq_false (by omega)]
  have im : impl_goodSides.f W H = some (decide (((1 ≤ W ∧ W ≤ 512) ∧ 1 ≤ H ∧ H ≤ 512) ∧ wrap64 (W * H) ≤ 4096)) := by
    have g : ∀ a, impl_goodSide.f a = some (decide (1 ≤ a ∧ a ≤ 512)) := by
      intro a
      unfold impl_goodSide.f
      split
      · exact congrArg some (decide_eq_decide.2 (by omega))
      · rw [decide_eq_false (by omega)]
    unfold impl_goodSides.f
    rw [g, g, Option.bind_some, Option.bind_some]
    by_cases c1 : 1 ≤ W ∧ W ≤ 512
    · rw [decide_eq_true c1, if_pos rfl]
      by_cases c2 : 1 ≤ H ∧ H ≤ 512
      · rw [decide_eq_true c2, if_pos rfl]
        exact congrArg some (decide_eq_decide.2 (by omega))
      · rw [decide_eq_false c2, if_neg (by simp), decide_eq_false (by omega)]
    · rw [decide_eq_false c1, if_neg (by simp), decide_eq_false (by omega)]
  have st : Ev (fun k => spec_GoodPlane.j0 k true W H S) false := Ev.step (f := fun _ => some false) (fun k => by simp only [spec_GoodPlane.j0, if_true]) (Ev.now _)
  by_cases c : ((1 ≤ W ∧ W ≤ 512) ∧ 1 ≤ H ∧ H ≤ 512) ∧ wrap64 (W * H) ≤ 4096
  case neg =>
    rw [decide_eq_false c] at sp im
    exact ⟨false, evlet sp (evneg (by simp) st), evlet im (evneg (by simp) (Ev.now _)), fun h => (by cases h)⟩
  rw [decide_eq_true c] at sp im
  have wm : wrap64 (W * H) = W * H := by
    have := Int.mul_le_mul c.1.1.2 c.1.2.2 (by omega) (by omega)
    have := Int.mul_nonneg (show 0 ≤ W by omega) (show 0 ≤ H by omega)
    exact w64 (by omega) (by omega)
  by_cases e : (S.length : Int) = wrap64 (W * H)
  case neg =>
    refine ⟨false, evlet sp (evpos rfl ?_), evlet im (evpos rfl (evneg e (Ev.now _))), fun h => (by cases h)⟩
    rw [bne_iff_ne.mpr e]; exact st
  have main := down (n := S.length) (P := fun i => ∃ q : Bool, Ev (fun k => spec_GoodPlane.l0 k S (S.length : Int) (i : Int)) q ∧ Ev (fun k => impl_inRange.l0 k 255 S (S.length : Int) (i : Int)) q ∧ (q = true → ∀ j : Nat, i ≤ j → j < S.length → 0 ≤ rd S (j : Int) ∧ rd S (j : Int) ≤ 255)) ?_ ?_
  · obtain ⟨q, g1, g2, g3⟩ := main
    refine ⟨q, evlet sp (evpos rfl ?_), evlet im (evpos rfl (evpos e (Ev.bind g2 (Ev.now _)))), fun hq => ⟨c.1.1, c.1.2, by rw [← wm]; exact c.2, by rw [e, wm], fun j hj => g3 hq j (Nat.zero_le _) hj⟩⟩
    rw [bne_eq_false_iff_eq.mpr e]
    exact Ev.step (f := fun k => spec_GoodPlane.l0 k S (S.length : Int) 0) (fun k => by simp only [spec_GoodPlane.j0, Bool.false_eq_true, if_false]) g1
  · exact ⟨true, Ev.step (fun k => rfl) (evneg (by omega) (Ev.now _)), Ev.step (fun k => rfl) (evneg (by omega) (Ev.now _)), fun _ j h1 h2 => absurd h2 (by omega)⟩
  · intro i hi ⟨b, h1, h2, h3⟩
    by_cases c1 : rd S (i : Int) < 0
    · exact ⟨false, Ev.step (fun k => rfl) (evpos (by omega) (evpos (by omega) (evpos (by omega) (evpos c1 (Ev.now _))))), Ev.step (fun k => rfl) (evpos (by omega) (evpos (by omega) (evpos (by omega) (evpos c1 (Ev.now _))))), fun h => (by cases h)⟩
    by_cases c2 : rd S (i : Int) > 255
    · exact ⟨false, Ev.step (fun k => rfl) (evpos (by omega) (evpos (by omega) (evpos (by omega) (evneg c1 (evpos c2 (Ev.now _)))))), Ev.step (fun k => rfl) (evpos (by omega) (evpos (by omega) (evpos (by omega) (evneg c1 (evpos c2 (Ev.now _)))))), fun h => (by cases h)⟩
    refine ⟨b, Ev.step (fun k => rfl) (evpos (by omega) (evpos (by omega) (evpos (by omega) (evneg c1 (evneg c2 ?_))))), Ev.step (fun k => rfl) (evpos (by omega) (evpos (by omega) (evpos (by omega) (evneg c1 (evneg c2 ?_))))), fun hb j j1 j2 => ?_⟩
    · rw [w64s (by omega)]; exact h1
    · rw [w64s (by omega)]; exact h2
    · rcases Nat.lt_or_ge i j with c | c
      · exact h3 hb j (by omega) j2
      · rw [show j = i by omega]; omega
theorem set_same (l : List Int) (i : Nat) : l.set i (rd l (i : Int)) = l := by
  refine List.ext_getElem? fun j => ?_
  rw [List.getElem?_set]
  by_cases e : i = j
  · subst e
    rw [if_pos rfl]
    split
    · rename_i h
      rw [rd_nat, List.getD_eq_getElem?_getD, List.getElem?_eq_getElem h]; rfl
    · rename_i h
      rw [List.getElem?_eq_none (by omega)]
  · rw [if_neg e]
theorem rd_set (l : List Int) (i j : Nat) (v : Int) : rd (l.set i v) (j : Int) = if i = j ∧ j < l.length then v else rd l (j : Int) := by
  rw [rd_nat, rd_nat, List.getD_eq_getElem?_getD, List.getD_eq_getElem?_getD, List.getElem?_set]
  by_cases e : i = j
  · subst e
    rw [if_pos rfl]
    by_cases h : i < l.length
    · rw [if_pos h, if_pos ⟨rfl, h⟩]; rfl
    · rw [if_neg h, if_neg (by omega), List.getElem?_eq_none (by omega)]
  · rw [if_neg e, if_neg (by omega)]
/-! The numbers that a step gives. -/
def bigOf (st : Int) : Int := wrap64 (st + wrap64 (Int.tdiv (wrap64 (st * st)) 16))
def smlOf (st : Int) : Int := wrap64 (Int.tdiv st 2)
def mstOf (st : Int) : Int := wrap64 (wrap64 (Int.tdiv st 4) + 1)
theorem mst_eq {st : Int} (h0 : 0 ≤ st) (h1 : st ≤ 40) : mstOf st = st / 4 + 1 := by
  unfold mstOf
  rw [Int.tdiv_eq_ediv_of_nonneg h0, w64 (n := st / 4) (by omega) (by omega), w64 (by omega) (by omega)]
/-- How much the samples b and c are moved. -/
def mvX (a b c d : Int) : Int := wrap64 (wrap64 (wrap64 (4 * wrap64 (c - b)) + wrap64 (a - d)) + 4) / 8
def mvK (st a b c d : Int) : Int := mn (mx (mvX a b c d) (wrap64 (-mstOf st))) (mstOf st)
def cp (n : Int) : Int := mn (mx n 0) 255
theorem cp_in (n : Int) : 0 ≤ cp n ∧ cp n ≤ 255 := by
  unfold cp mn mx
  (repeat' split) <;> omega
theorem cp_near {b k m : Int} (h0 : 0 ≤ b) (h1 : b ≤ 255) (k0 : -m ≤ k) (k1 : k ≤ m) : -m ≤ cp (b + k) - b ∧ cp (b + k) - b ≤ m := by
  unfold cp mn mx
  (repeat' split) <;> omega
def mab (x : Int) : Int := mx x (wrap64 (-x))
def onE (st a b c d : Int) : Bool := decide (mab (wrap64 (c - b)) < bigOf st) && decide (mab (wrap64 (b - a)) < smlOf st) && decide (mab (wrap64 (d - c)) < smlOf st)
def edgB (st a b c d : Int) : Int := if onE st a b c d = true then cp (b + mvK st a b c d) else b
def edgC (st a b c d : Int) : Int := if onE st a b c d = true then cp (c - mvK st a b c d) else c
structure S8 (x : Int) : Prop where
  lo : 0 ≤ x
  hi : x ≤ 255
theorem mab_s {x : Int} (h0 : -255 ≤ x) (h1 : x ≤ 255) : spec_l4Abs.f (wrap64 x) = some (mab (wrap64 x)) := by
  rw [w64 (n := x) (by omega) (by omega)]
  unfold spec_l4Abs.f mab mx
  rw [w64 (n := -x) (by omega) (by omega)]
  (repeat' split) <;> first | rfl | omega | exact congrArg some (by omega)
theorem zclip_i (n : Int) : impl_zclip.f n = some (cp n) := rfl
theorem clip_s (n : Int) : spec_l7Clip.f n = some (cp n) := by
  unfold spec_l7Clip.f cp mn mx
  (repeat' split) <;> first | rfl | omega | exact congrArg some (by omega)
theorem mvK_in {st a b c d : Int} (h0 : 0 ≤ st) (h1 : st ≤ 40) : -(st / 4 + 1) ≤ mvK st a b c d ∧ mvK st a b c d ≤ st / 4 + 1 := by
  unfold mvK
  rw [mst_eq h0 h1, w64 (n := -(st / 4 + 1)) (by omega) (by omega)]
  generalize mvX a b c d = x
  unfold mn mx
  (repeat' split) <;> omega
theorem edgB_in {st a b c d : Int} (h0 : 8 ≤ st) (h1 : st ≤ 40) (_ha : S8 a) (hb : S8 b) (_hc : S8 c) (_hd : S8 d) : S8 (edgB st a b c d) ∧ -(st / 4 + 1) ≤ edgB st a b c d - b ∧ edgB st a b c d - b ≤ st / 4 + 1 := by
  unfold edgB
  split
  · have k := mvK_in (st := st) (a := a) (b := b) (c := c) (d := d) (by omega) h1
    exact ⟨⟨(cp_in _).1, (cp_in _).2⟩, cp_near hb.lo hb.hi k.1 k.2⟩
  · exact ⟨hb, by omega, by omega⟩
theorem edgC_in {st a b c d : Int} (h0 : 8 ≤ st) (h1 : st ≤ 40) (_ha : S8 a) (_hb : S8 b) (hc : S8 c) (_hd : S8 d) : S8 (edgC st a b c d) ∧ -(st / 4 + 1) ≤ edgC st a b c d - c ∧ edgC st a b c d - c ≤ st / 4 + 1 := by
  unfold edgC
  split
  · have k := mvK_in (st := st) (a := a) (b := b) (c := c) (d := d) (by omega) h1
    have := cp_near (m := st / 4 + 1) (k := -mvK st a b c d) hc.lo hc.hi (by omega) (by omega)
    exact ⟨⟨(cp_in _).1, (cp_in _).2⟩, this⟩
  · exact ⟨hc, by omega, by omega⟩
section
variable {st a b c d : Int} (h0 : 8 ≤ st) (h1 : st ≤ 40) (ha : S8 a) (hb : S8 b) (hc : S8 c) (hd : S8 d)
include h0 h1 ha hb hc hd
theorem edge_s : Ev (fun k => spec_l13Edge.f k a b c d st) (edgB st a b c d, edgC st a b c d) := by
  obtain ⟨a0, a1⟩ := ha
  obtain ⟨b0, b1⟩ := hb
  obtain ⟨c0, c1⟩ := hc
  obtain ⟨d0, d1⟩ := hd
  have k := mvK_in (st := st) (a := a) (b := b) (c := c) (d := d) (by omega) h1
  have m1 := mab_s (x := c - b) (by omega) (by omega)
  have m2 := mab_s (x := b - a) (by omega) (by omega)
  have m3 := mab_s (x := d - c) (by omega) (by omega)
  have no : ∀ (h : onE st a b c d = false) , Ev (fun k => spec_l13Edge.j0 k a b c d st true) (edgB st a b c d, edgC st a b c d) := by
    intro h
    unfold edgB edgC
    rw [h, if_neg (by simp), if_neg (by simp)]
    exact Ev.step (f := fun _ => some (b, c)) (fun k => by simp only [spec_l13Edge.j0, if_true]) (Ev.now _)
  refine evlet m1 ?_
  by_cases c1 : mab (wrap64 (c - b)) ≥ wrap64 (st + wrap64 (Int.tdiv (wrap64 (st * st)) 16))
  · exact evpos c1 (no (by unfold onE bigOf; rw [decide_eq_false (by omega)]; rfl))
  refine evneg c1 (evlet m2 ?_)
  by_cases c2 : mab (wrap64 (b - a)) ≥ wrap64 (Int.tdiv st 2)
  · exact evpos c2 (no (by unfold onE smlOf; rw [decide_eq_false (p := mab (wrap64 (b - a)) < wrap64 (Int.tdiv st 2)) (by omega), Bool.and_false, Bool.false_and]))
  refine evneg c2 (evlet m3 ?_)
  by_cases c3 : mab (wrap64 (d - c)) ≥ wrap64 (Int.tdiv st 2)
  · rw [decide_eq_true c3]
    exact no (by unfold onE smlOf; rw [decide_eq_false (p := mab (wrap64 (d - c)) < wrap64 (Int.tdiv st 2)) (by omega), Bool.and_false])
  rw [decide_eq_false c3]
  have on : onE st a b c d = true := by
    unfold onE smlOf bigOf
    rw [decide_eq_true (by omega), decide_eq_true (by omega), decide_eq_true (by omega)]; rfl
  unfold edgB edgC
  rw [if_pos on, if_pos on]
  have fin : ∀ x : Int, x = mvK st a b c d → Ev (fun _ : Nat => (spec_l7Clip.f (wrap64 (b + x))).bind fun t => (spec_l7Clip.f (wrap64 (c - x))).bind fun u => some (t, u)) (cp (b + mvK st a b c d), cp (c - mvK st a b c d)) := by
    rintro x rfl
    rw [w64 (n := b + _) (by omega) (by omega), w64 (n := c - _) (by omega) (by omega)]
    exact evlet (clip_s _) (evlet (clip_s _) (Ev.now _))
  have two : ∀ x : Int, x = mx (mvX a b c d) (wrap64 (-mstOf st)) → Ev (fun k => spec_l13Edge.j1 k b c (mstOf st) x) (cp (b + mvK st a b c d), cp (c - mvK st a b c d)) := by
    intro x hx
    refine Ev.step (fun k => rfl) ?_
    have e : mvK st a b c d = mn x (mstOf st) := by rw [hx]; rfl
    unfold mn at e
    by_cases c4 : x > mstOf st
    · exact evpos c4 (fin _ (by rw [e]; split <;> omega))
    · exact evneg c4 (fin _ (by rw [e]; split <;> omega))
  refine Ev.step (f := fun k => if mvX a b c d < wrap64 (-mstOf st) then spec_l13Edge.j1 k b c (mstOf st) (wrap64 (-mstOf st)) else spec_l13Edge.j1 k b c (mstOf st) (mvX a b c d)) (fun k => by simp only [spec_l13Edge.j0, Bool.false_eq_true, if_false]; rfl) ?_
  by_cases c5 : mvX a b c d < wrap64 (-mstOf st)
  · exact evpos c5 (two _ (by unfold mx; split <;> omega))
  · exact evneg c5 (two _ (by unfold mx; split <;> omega))
end
/-- What one edge leaves of the samples: i the place behind it, n the way to the next. -/
def edg (st : Int) (s : List Int) (i n : Nat) : List Int :=
  (s.set (i - n) (edgB st (rd s ((i - 2 * n : Nat) : Int)) (rd s ((i - n : Nat) : Int)) (rd s (i : Int)) (rd s ((i + n : Nat) : Int)))).set i (edgC st (rd s ((i - 2 * n : Nat) : Int)) (rd s ((i - n : Nat) : Int)) (rd s (i : Int)) (rd s ((i + n : Nat) : Int)))
structure Ok (N : Nat) (s : List Int) : Prop where
  len : s.length = N
  v : ∀ j : Nat, j < N → S8 (rd s (j : Int))
theorem edg_ok {N : Nat} {st : Int} {s : List Int} {i n : Nat} (h0 : 8 ≤ st) (h1 : st ≤ 40) (ho : Ok N s) (hi : i + n < N) (hn : 2 * n ≤ i) : Ok N (edg st s i n) := by
  have g := edgB_in h0 h1 (ho.v (i - 2 * n) (by omega)) (ho.v (i - n) (by omega)) (ho.v i (by omega)) (ho.v (i + n) hi)
  have g' := edgC_in h0 h1 (ho.v (i - 2 * n) (by omega)) (ho.v (i - n) (by omega)) (ho.v i (by omega)) (ho.v (i + n) hi)
  refine ⟨by unfold edg; rw [List.length_set, List.length_set, ho.len], fun j hj => ?_⟩
  unfold edg
  rw [rd_set]
  split
  · exact g'.1
  · rw [rd_set]
    split
    · exact g.1
    · exact ho.v j hj
section
variable {N : Nat} {st : Int} {s : List Int} {i n : Nat} (h0 : 8 ≤ st) (h1 : st ≤ 40) (ho : Ok N s) (hi : i + n < N) (hn : 2 * n ≤ i) (hN : N ≤ 4096)
include h0 h1 ho hi hn hN
theorem edge_i : Ev (fun k => impl_Smooth_2.f k (i : Int) (n : Int) s (bigOf st) (smlOf st) (mstOf st)) (edg st s i n) := by
  have hl := ho.len
  have A := ho.v (i - 2 * n) (by omega)
  have B := ho.v (i - n) (by omega)
  have C := ho.v i (by omega)
  have D := ho.v (i + n) hi
  have k := mvK_in (st := st) (a := rd s ((i - 2 * n : Nat) : Int)) (b := rd s ((i - n : Nat) : Int)) (c := rd s (i : Int)) (d := rd s ((i + n : Nat) : Int)) (by omega) h1
  have e1 : wrap64 ((i : Int) - wrap64 (2 * (n : Int))) = ((i - 2 * n : Nat) : Int) := by rw [w64 (n := 2 * (n : Int)) (by omega) (by omega), w64 (by omega) (by omega)]; omega
  have e2 : wrap64 ((i : Int) - (n : Int)) = ((i - n : Nat) : Int) := by rw [w64 (by omega) (by omega)]; omega
  have e3 : wrap64 ((i : Int) + (n : Int)) = ((i + n : Nat) : Int) := by rw [w64 (by omega) (by omega)]; omega
  unfold impl_Smooth_2.f
  rw [e1, e2, e3]
  have E2 := Aside0.mk e2
  clear e1 e2 e3
  refine evpos (by omega) (evpos (by omega) (evpos (by omega) (evpos (by omega) (evpos (by omega) (evpos (by omega) (evpos (by omega) (evpos (by omega) ?_)))))))
  unfold edg
  generalize ha : rd s ((i - 2 * n : Nat) : Int) = a at *
  generalize hb : rd s ((i - n : Nat) : Int) = b at *
  generalize hc : rd s (i : Int) = c at *
  generalize hd : rd s ((i + n : Nat) : Int) = d at *
  have no : ∀ (h : onE st a b c d = false), Ev (fun k => impl_Smooth_2.j0 k (i : Int) (n : Int) s (mstOf st) a b c d false) ((s.set (i - n) (edgB st a b c d)).set i (edgC st a b c d)) := by
    intro h
    unfold edgB edgC
    rw [h, if_neg (by simp), if_neg (by simp), ← hb, set_same, ← hc, set_same]
    exact Ev.step (f := fun _ => some s) (fun k => by simp only [impl_Smooth_2.j0, Bool.false_eq_true, if_false]) (Ev.now _)
  refine evlet (a := mab (wrap64 (c - b))) rfl ?_
  by_cases c1 : mab (wrap64 (c - b)) < bigOf st
  case neg => exact evneg c1 (no (by unfold onE; rw [decide_eq_false c1]; rfl))
  refine evpos c1 (evlet (a := mab (wrap64 (b - a))) rfl ?_)
  by_cases c2 : mab (wrap64 (b - a)) < smlOf st
  case neg => exact evneg c2 (no (by unfold onE; rw [decide_eq_false c2, Bool.and_false, Bool.false_and]))
  refine evpos c2 (evlet (a := mab (wrap64 (d - c))) rfl ?_)
  by_cases c3 : mab (wrap64 (d - c)) < smlOf st
  case neg =>
    rw [decide_eq_false c3]
    exact no (by unfold onE; rw [decide_eq_false c3, Bool.and_false])
  rw [decide_eq_true c3]
  have on : onE st a b c d = true := by
    unfold onE
    rw [decide_eq_true c1, decide_eq_true c2, decide_eq_true c3]; rfl
  unfold edgB edgC
  rw [if_pos on, if_pos on]
  refine Ev.step (f := fun _ => (impl_zclip.f (wrap64 (b + mvK st a b c d))).bind fun t => (impl_zclip.f (wrap64 (c - mvK st a b c d))).bind fun u => if 0 ≤ wrap64 ((i : Int) - (n : Int)) then (if wrap64 ((i : Int) - (n : Int)) < (s.length : Int) then (if 0 ≤ (i : Int) then (if (i : Int) < (s.length : Int) then some ((s.set (wrap64 ((i : Int) - (n : Int))).toNat t).set (i : Int).toNat u) else none) else none) else none) else none) (fun k => by simp only [impl_Smooth_2.j0, if_true]; rfl) ?_
  obtain ⟨b0, b1⟩ := B
  obtain ⟨c0, c1'⟩ := C
  rw [w64 (n := b + _) (by omega) (by omega), w64 (n := c - _) (by omega) (by omega), E2.out]
  refine evlet (zclip_i _) (evlet (zclip_i _) (evpos (by omega) (evpos (by omega) (evpos (by omega) (evpos (by omega) ?_)))))
  rw [Int.toNat_natCast, Int.toNat_natCast]
  exact Ev.now _
end
/-! How far the samples are moved. -/
def near1 (W j : Nat) : Nat := if j % W % 4 = 0 ∨ j % W % 4 = 3 then 1 else 0
def near2 (W j : Nat) : Nat := if j / W % 4 = 0 ∨ j / W % 4 = 3 then 1 else 0
/-- The samples s are, where nr says so, at most M away from p; those that are fresh are as they were. -/
structure Tr (N : Nat) (M : Int) (nr : Nat → Nat) (fresh : Nat → Prop) (p s : List Int) : Prop where
  d : ∀ j : Nat, j < N → (nr j = 0 → rd s (j : Int) = rd p (j : Int)) ∧ -M ≤ rd s (j : Int) - rd p (j : Int) ∧ rd s (j : Int) - rd p (j : Int) ≤ M
  f : ∀ j : Nat, j < N → fresh j → rd s (j : Int) = rd p (j : Int)
theorem Tr.start (N : Nat) {M : Int} (hM : 0 ≤ M) (nr : Nat → Nat) (fresh : Nat → Prop) (p : List Int) : Tr N M nr fresh p p := ⟨fun j _ => ⟨fun _ => rfl, by omega, by omega⟩, fun _ _ _ => rfl⟩
theorem Tr.mono {N : Nat} {M : Int} {nr : Nat → Nat} {fresh fresh' : Nat → Prop} {p s : List Int} (h : Tr N M nr fresh p s) (hf : ∀ j, j < N → fresh' j → fresh j) : Tr N M nr fresh' p s := ⟨h.d, fun j hj hp => h.f j hj (hf j hj hp)⟩
theorem Tr.edg {N : Nat} {st : Int} {nr : Nat → Nat} {fresh fresh' : Nat → Prop} {p s : List Int} {i n : Nat} (h0 : 8 ≤ st) (h1 : st ≤ 40) (ho : Ok N s) (hi : i + n < N) (hn : 2 * n ≤ i) (h : Tr N (st / 4 + 1) nr fresh p s)
    (f1 : fresh (i - n)) (f2 : fresh i) (n1 : nr (i - n) = 1) (n2 : nr i = 1) (hf : ∀ j, j < N → fresh' j → fresh j ∧ j ≠ i - n ∧ j ≠ i) : Tr N (st / 4 + 1) nr fresh' p (edg st s i n) := by
  have g := edgB_in h0 h1 (ho.v (i - 2 * n) (by omega)) (ho.v (i - n) (by omega)) (ho.v i (by omega)) (ho.v (i + n) hi)
  have g' := edgC_in h0 h1 (ho.v (i - 2 * n) (by omega)) (ho.v (i - n) (by omega)) (ho.v i (by omega)) (ho.v (i + n) hi)
  have hl := ho.len
  have e1 := h.f (i - n) (by omega) f1
  have e2 := h.f i (by omega) f2
  have val : ∀ j : Nat, j < N → rd (Pure.edg st s i n) (j : Int) = if i = j then edgC st (rd s ((i - 2 * n : Nat) : Int)) (rd s ((i - n : Nat) : Int)) (rd s (i : Int)) (rd s ((i + n : Nat) : Int)) else if i - n = j then edgB st (rd s ((i - 2 * n : Nat) : Int)) (rd s ((i - n : Nat) : Int)) (rd s (i : Int)) (rd s ((i + n : Nat) : Int)) else rd s (j : Int) := by
    intro j hj
    unfold Pure.edg
    rw [rd_set, rd_set, List.length_set]
    by_cases c : i = j
    · rw [if_pos ⟨c, by omega⟩, if_pos c]
    · rw [if_neg (fun e => c e.1), if_neg c]
      by_cases c2 : i - n = j
      · rw [if_pos ⟨c2, by omega⟩, if_pos c2]
      · rw [if_neg (fun e => c2 e.1), if_neg c2]
  refine ⟨fun j hj => ?_, fun j hj hp => ?_⟩
  · rw [val j hj]
    by_cases c : i = j
    · subst c
      rw [if_pos rfl, ← e2]
      exact ⟨fun hz => (by rw [n2] at hz; cases hz), g'.2⟩
    · rw [if_neg c]
      by_cases c2 : i - n = j
      · subst c2
        rw [if_pos rfl, ← e1]
        exact ⟨fun hz => (by rw [n1] at hz; cases hz), g.2⟩
      · rw [if_neg c2]
        exact h.d j hj
  · obtain ⟨k1, k2, k3⟩ := hf j hj hp
    rw [val j hj, if_neg (fun e => k3 e.symm), if_neg (fun e => k2 e.symm)]
    exact h.f j hj k1
/-! The two ways of a plane. -/
section
variable {W H : Nat} {S : List Int} {st : Int} (h0 : 8 ≤ st) (h1 : st ≤ 40) (hW : W ≤ 512) (hH : H ≤ 512) (hN : W * H ≤ 4096)
include h0 h1 hW hH hN
theorem cols_both (p : List Int) (x : Nat) (hx : x ≤ W) : ∀ s, Ok (W * H) s → Tr (W * H) (st / 4 + 1) (near2 W) (fun j => x ≤ j % W) p s → ∃ r, Ok (W * H) r ∧ Tr (W * H) (st / 4 + 1) (near2 W) (fun _ => False) p r ∧ Ev (fun k => spec_l13Smooth.l2 k st (x : Int) (W : Int) (H : Int) S (W : Int) (H : Int) s) ((W : Int), (H : Int), r) ∧
    Ev (fun k => impl_Smooth.l2 k (bigOf st) (smlOf st) (mstOf st) (W : Int) (x : Int) (W : Int) (H : Int) S (W : Int) (H : Int) s) ((W : Int), (H : Int), r) := by
  refine down_to (n := W) (P := fun x => ∀ s, Ok (W * H) s → Tr (W * H) (st / 4 + 1) (near2 W) (fun j => x ≤ j % W) p s → ∃ r, Ok (W * H) r ∧ Tr (W * H) (st / 4 + 1) (near2 W) (fun _ => False) p r ∧ Ev (fun k => spec_l13Smooth.l2 k st (x : Int) (W : Int) (H : Int) S (W : Int) (H : Int) s) ((W : Int), (H : Int), r) ∧
    Ev (fun k => impl_Smooth.l2 k (bigOf st) (smlOf st) (mstOf st) (W : Int) (x : Int) (W : Int) (H : Int) S (W : Int) (H : Int) s) ((W : Int), (H : Int), r)) ?_ ?_ x hx
  · intro s ho ht
    exact ⟨s, ho, ht.mono (fun _ _ h => h.elim), Ev.step (fun k => rfl) (evneg (by omega) (Ev.now _)), Ev.step (fun k => rfl) (evneg (by omega) (Ev.now _))⟩
  intro x hx next s ho ht
  have inner : ∀ (m y : Nat), H ≤ y + m → 4 ≤ y → y ≤ H + 4 → y % 4 = 0 → ∀ s, Ok (W * H) s → Tr (W * H) (st / 4 + 1) (near2 W) (fun j => x < j % W ∨ (j % W = x ∧ y ≤ j / W + 1)) p s → ∃ r, Ok (W * H) r ∧ Tr (W * H) (st / 4 + 1) (near2 W) (fun _ => False) p r ∧ Ev (fun k => spec_l13Smooth.l3 k st (x : Int) (y : Int) (W : Int) (H : Int) S (W : Int) (H : Int) s) ((W : Int), (H : Int), r) ∧
      Ev (fun k => impl_Smooth.l3 k (bigOf st) (smlOf st) (mstOf st) (x : Int) (y : Int) (W : Int) (x : Int) (W : Int) (H : Int) S (W : Int) (H : Int) s) ((W : Int), (H : Int), r) := by
    intro m
    induction m with
    | zero =>
      intro y hy y4 yH ym s ho ht
      obtain ⟨r, hr, tr, n1, n2⟩ := next s ho (ht.mono (fun j _ h => Or.inl (by omega)))
      refine ⟨r, hr, tr, Ev.step (fun k => rfl) (evneg (by rw [w64 (by omega) (by omega)]; omega) ?_), Ev.step (fun k => rfl) (evneg (by rw [w64 (by omega) (by omega)]; omega) ?_)⟩
      · rw [w64s (by omega)]; exact n1
      · rw [w64s (by omega)]; exact n2
    | succ m ih =>
      intro y hy y4 yH ym s ho ht
      by_cases c : y + 1 < H
      case neg =>
        obtain ⟨r, hr, tr, n1, n2⟩ := next s ho (ht.mono (fun j _ h => Or.inl (by omega)))
        refine ⟨r, hr, tr, Ev.step (fun k => rfl) (evneg (by rw [w64 (by omega) (by omega)]; omega) ?_), Ev.step (fun k => rfl) (evneg (by rw [w64 (by omega) (by omega)]; omega) ?_)⟩
        · rw [w64s (by omega)]; exact n1
        · rw [w64s (by omega)]; exact n2
      obtain ⟨i, hi⟩ : ∃ i, i = y * W + x := ⟨_, rfl⟩
      have b1 : i + W < W * H := by
        have := Nat.mul_le_mul_left W (show y + 2 ≤ H by omega)
        rw [Nat.mul_add] at this
        have := Nat.mul_comm y W
        omega
      have b2 : 2 * W ≤ i := by
        have := Nat.mul_le_mul_right W (show 2 ≤ y by omega)
        omega
      have hyw : ((y : Int) * (W : Int)) = ((y * W : Nat) : Int) := by rw [Int.natCast_mul]
      have e0 := Aside0.mk (show wrap64 (wrap64 ((y : Int) * (W : Int)) + (x : Int)) = (i : Int) from by rw [hyw, w64 (n := ((y * W : Nat) : Int)) (by omega) (by omega), w64 (by omega) (by omega)]; omega)
      have e1 := Aside0.mk (show wrap64 ((i : Int) - wrap64 (2 * (W : Int))) = ((i - 2 * W : Nat) : Int) from by rw [w64 (n := 2 * (W : Int)) (by omega) (by omega), w64 (by omega) (by omega)]; omega)
      have e2 := Aside0.mk (show wrap64 ((i : Int) - (W : Int)) = ((i - W : Nat) : Int) from by rw [w64 (by omega) (by omega)]; omega)
      have e3 := Aside0.mk (show wrap64 ((i : Int) + (W : Int)) = ((i + W : Nat) : Int) from by rw [w64 (by omega) (by omega)]; omega)
      have e4 := Aside0.mk (show wrap64 ((y : Int) + 4) = ((y + 4 : Nat) : Int) from by rw [w64 (by omega) (by omega)]; omega)
      have hl := ho.len
      have W0 : 0 < W := by omega
      have q1 : i % W = x := by rw [hi, Nat.mul_comm, Nat.mul_add_mod, Nat.mod_eq_of_lt hx]
      have q2 : i / W = y := by rw [hi, Nat.mul_comm, Nat.mul_add_div W0, Nat.div_eq_of_lt hx, Nat.add_zero]
      have iw : i - W = W * (y - 1) + x := by
        have : W * y = W * (y - 1) + W := by rw [← Nat.mul_succ]; congr 1; omega
        have := Nat.mul_comm y W
        omega
      have q3 : (i - W) % W = x := by rw [iw, Nat.mul_add_mod, Nat.mod_eq_of_lt hx]
      have q4 : (i - W) / W = y - 1 := by rw [iw, Nat.mul_add_div W0, Nat.div_eq_of_lt hx, Nat.add_zero]
      have t2 : Tr (W * H) (st / 4 + 1) (near2 W) (fun j => x < j % W ∨ (j % W = x ∧ y + 4 ≤ j / W + 1)) p (edg st s i W) := Tr.edg h0 h1 ho b1 b2 ht (Or.inr ⟨q3, by omega⟩) (Or.inr ⟨q1, by omega⟩) (by unfold near2; rw [q4, if_pos (by omega)]) (by unfold near2; rw [q2, if_pos (by omega)]) (fun j hj h => ⟨by omega, by
        rintro rfl
        rw [q3, q4] at h
        omega, by
        rintro rfl
        rw [q1, q2] at h
        omega⟩)
      obtain ⟨r, hr, tr, n1, n2⟩ := ih (y + 4) (by omega) (by omega) (by omega) (by omega) (edg st s i W) (edg_ok h0 h1 ho b1 b2) t2
      refine ⟨r, hr, tr, Ev.step (fun k => rfl) (evpos (by rw [w64 (by omega) (by omega)]; omega) ?_), Ev.step (fun k => rfl) (evpos (by rw [w64 (by omega) (by omega)]; omega) ?_)⟩
      · rw [e0.out, e1.out, e2.out, e3.out, e4.out]
        refine evpos (by omega) (evpos (by omega) (evpos (by omega) (evpos (by omega) (evpos (by omega) (evpos (by omega) (evpos (by omega) (evpos (by omega) ?_)))))))
        refine Ev.bind (edge_s h0 h1 (ho.v (i - 2 * W) (by omega)) (ho.v (i - W) (by omega)) (ho.v i (by omega)) (ho.v (i + W) b1)) ?_
        rw [Int.toNat_natCast, Int.toNat_natCast]
        exact n1
      · rw [e0.out, e4.out]
        exact Ev.bind (edge_i h0 h1 ho b1 b2 hN) n2
  obtain ⟨r, hr, tr, n1, n2⟩ := inner H 4 (by omega) (by omega) (by omega) (by omega) s ho (ht.mono (fun j _ h => by omega))
  exact ⟨r, hr, tr, Ev.step (fun k => rfl) (evpos (by omega) n1), Ev.step (fun k => rfl) (evpos (by omega) n2)⟩
theorem rows_both (p : List Int) (y : Nat) (hy : y ≤ H) : ∀ s, Ok (W * H) s → Tr (W * H) (st / 4 + 1) (near1 W) (fun j => y * W ≤ j) p s → ∃ r, Ok (W * H) r ∧ (∃ s1, Tr (W * H) (st / 4 + 1) (near1 W) (fun _ => False) p s1 ∧ Tr (W * H) (st / 4 + 1) (near2 W) (fun _ => False) s1 r) ∧ Ev (fun k => spec_l13Smooth.l0 k st (y : Int) (W : Int) (H : Int) S (W : Int) (H : Int) s) ((W : Int), (H : Int), r) ∧
    Ev (fun k => impl_Smooth.l0 k (bigOf st) (smlOf st) (mstOf st) (H : Int) (y : Int) (W : Int) (H : Int) S (W : Int) (H : Int) s) ((W : Int), (H : Int), r) := by
  refine down_to (n := H) (P := fun y => ∀ s, Ok (W * H) s → Tr (W * H) (st / 4 + 1) (near1 W) (fun j => y * W ≤ j) p s → ∃ r, Ok (W * H) r ∧ (∃ s1, Tr (W * H) (st / 4 + 1) (near1 W) (fun _ => False) p s1 ∧ Tr (W * H) (st / 4 + 1) (near2 W) (fun _ => False) s1 r) ∧ Ev (fun k => spec_l13Smooth.l0 k st (y : Int) (W : Int) (H : Int) S (W : Int) (H : Int) s) ((W : Int), (H : Int), r) ∧
    Ev (fun k => impl_Smooth.l0 k (bigOf st) (smlOf st) (mstOf st) (H : Int) (y : Int) (W : Int) (H : Int) S (W : Int) (H : Int) s) ((W : Int), (H : Int), r)) ?_ ?_ y hy
  · intro s ho ht
    obtain ⟨r, hr, tr, n1, n2⟩ := cols_both (S := S) h0 h1 hW hH hN s 0 (by omega) s ho (Tr.start _ (by omega) _ _ _)
    exact ⟨r, hr, ⟨s, ht.mono (fun _ _ h => h.elim), tr⟩, Ev.step (fun k => rfl) (evneg (by omega) n1), Ev.step (fun k => rfl) (evneg (by omega) n2)⟩
  intro y hy next s ho ht
  have inner : ∀ (m x : Nat), W ≤ x + m → 4 ≤ x → x ≤ W + 4 → x % 4 = 0 → ∀ s, Ok (W * H) s → Tr (W * H) (st / 4 + 1) (near1 W) (fun j => y * W + x ≤ j + 1 ∨ y * W + W ≤ j) p s → ∃ r, Ok (W * H) r ∧ (∃ s1, Tr (W * H) (st / 4 + 1) (near1 W) (fun _ => False) p s1 ∧ Tr (W * H) (st / 4 + 1) (near2 W) (fun _ => False) s1 r) ∧ Ev (fun k => spec_l13Smooth.l1 k st (y : Int) (x : Int) (W : Int) (H : Int) S (W : Int) (H : Int) s) ((W : Int), (H : Int), r) ∧
      Ev (fun k => impl_Smooth.l1 k (bigOf st) (smlOf st) (mstOf st) (y : Int) (x : Int) (H : Int) (y : Int) (W : Int) (H : Int) S (W : Int) (H : Int) s) ((W : Int), (H : Int), r) := by
    intro m
    induction m with
    | zero =>
      intro x hx x4 xW xm s ho ht
      obtain ⟨r, hr, tr, n1, n2⟩ := next s ho (ht.mono (fun j _ h => Or.inr (by rw [Nat.add_mul] at h; omega)))
      refine ⟨r, hr, tr, Ev.step (fun k => rfl) (evneg (by rw [w64 (by omega) (by omega)]; omega) ?_), Ev.step (fun k => rfl) (evneg (by rw [w64 (by omega) (by omega)]; omega) ?_)⟩
      · rw [w64s (by omega)]; exact n1
      · rw [w64s (by omega)]; exact n2
    | succ m ih =>
      intro x hx x4 xW xm s ho ht
      by_cases c : x + 1 < W
      case neg =>
        obtain ⟨r, hr, tr, n1, n2⟩ := next s ho (ht.mono (fun j _ h => Or.inr (by rw [Nat.add_mul] at h; omega)))
        refine ⟨r, hr, tr, Ev.step (fun k => rfl) (evneg (by rw [w64 (by omega) (by omega)]; omega) ?_), Ev.step (fun k => rfl) (evneg (by rw [w64 (by omega) (by omega)]; omega) ?_)⟩
        · rw [w64s (by omega)]; exact n1
        · rw [w64s (by omega)]; exact n2
      obtain ⟨i, hi⟩ : ∃ i, i = y * W + x := ⟨_, rfl⟩
      have b1 : i + 1 < W * H := by
        have := Nat.mul_le_mul_left W (show y + 1 ≤ H by omega)
        rw [Nat.mul_add] at this
        have := Nat.mul_comm y W
        omega
      have b2 : 2 * 1 ≤ i := by omega
      have hyw : ((y : Int) * (W : Int)) = ((y * W : Nat) : Int) := by rw [Int.natCast_mul]
      have e0 := Aside0.mk (show wrap64 (wrap64 ((y : Int) * (W : Int)) + (x : Int)) = (i : Int) from by rw [hyw, w64 (n := ((y * W : Nat) : Int)) (by omega) (by omega), w64 (by omega) (by omega)]; omega)
      have e1 := Aside0.mk (show wrap64 ((i : Int) - 2) = ((i - 2 * 1 : Nat) : Int) from by rw [w64 (by omega) (by omega)]; omega)
      have e2 := Aside0.mk (show wrap64 ((i : Int) - 1) = ((i - 1 : Nat) : Int) from by rw [w64 (by omega) (by omega)]; omega)
      have e3 := Aside0.mk (show wrap64 ((i : Int) + 1) = ((i + 1 : Nat) : Int) from w64s (by omega))
      have e4 := Aside0.mk (show wrap64 ((x : Int) + 4) = ((x + 4 : Nat) : Int) from by rw [w64 (by omega) (by omega)]; omega)
      have hl := ho.len
      have hxW : x < W := by omega
      have q1 : i % W = x := by rw [hi, Nat.mul_comm, Nat.mul_add_mod, Nat.mod_eq_of_lt hxW]
      have q3 : (i - 1) % W = x - 1 := by rw [show i - 1 = W * y + (x - 1) by rw [hi, Nat.mul_comm]; omega, Nat.mul_add_mod, Nat.mod_eq_of_lt (by omega)]
      have t2 : Tr (W * H) (st / 4 + 1) (near1 W) (fun j => y * W + (x + 4) ≤ j + 1 ∨ y * W + W ≤ j) p (edg st s i 1) := Tr.edg h0 h1 ho b1 b2 ht (Or.inl (by omega)) (Or.inl (by omega)) (by unfold near1; rw [q3, if_pos (by omega)]) (by unfold near1; rw [q1, if_pos (by omega)]) (fun j hj h => ⟨by omega, by omega, by omega⟩)
      obtain ⟨r, hr, tr, n1, n2⟩ := ih (x + 4) (by omega) (by omega) (by omega) (by omega) (edg st s i 1) (edg_ok h0 h1 ho b1 b2) t2
      refine ⟨r, hr, tr, Ev.step (fun k => rfl) (evpos (by rw [w64 (by omega) (by omega)]; omega) ?_), Ev.step (fun k => rfl) (evpos (by rw [w64 (by omega) (by omega)]; omega) ?_)⟩
      · rw [e0.out, e1.out, e2.out, e3.out, e4.out]
        refine evpos (by omega) (evpos (by omega) (evpos (by omega) (evpos (by omega) (evpos (by omega) (evpos (by omega) (evpos (by omega) (evpos (by omega) ?_)))))))
        refine Ev.bind (edge_s h0 h1 (ho.v (i - 2 * 1) (by omega)) (ho.v (i - 1) (by omega)) (ho.v i (by omega)) (ho.v (i + 1) b1)) ?_
        rw [Int.toNat_natCast, Int.toNat_natCast]
        exact n1
      · rw [e0.out, e4.out]
        exact Ev.bind (edge_i h0 h1 ho b1 b2 hN) n2
  obtain ⟨r, hr, tr, n1, n2⟩ := inner W 4 (by omega) (by omega) (by omega) (by omega) s ho (ht.mono (fun j _ h => by omega))
  exact ⟨r, hr, tr, Ev.step (fun k => rfl) (evpos (by omega) n1), Ev.step (fun k => rfl) (evpos (by omega) n2)⟩
end
theorem smooth_both (W H : Int) (S : List Int) (st : Int) (hS : S.length ≤ 1048576) : ∃ (w' h' : Int) (r : List Int), r.length ≤ 1048576 ∧ (r = [] ∨ ∃ w : Nat, W = (w : Int) ∧ 0 < w ∧ w ≤ 512 ∧ r.length = S.length ∧ S.length ≤ 4096 ∧ 0 ≤ st ∧ st ≤ 40 ∧ ∀ j : Nat, j < S.length → (st < 8 → rd r (j : Int) = rd S (j : Int)) ∧ -(((near1 w j + near2 w j : Nat) : Int) * (st / 4 + 1)) ≤ rd r (j : Int) - rd S (j : Int) ∧ rd r (j : Int) - rd S (j : Int) ≤ ((near1 w j + near2 w j : Nat) : Int) * (st / 4 + 1)) ∧ Ev (fun k => spec_Smooth.f k W H S st) (w', h', r) ∧ Ev (fun k => impl_Smooth.f k W H S st) (w', h', r) := by
  obtain ⟨q, p1, p2, p3⟩ := plane_both W H S hS
  have out : Ev (fun k => impl_Smooth.j0 k st true W H S) (0, 0, []) := Ev.step (f := fun _ => some (0, 0, [])) (fun k => by simp only [impl_Smooth.j0, if_true]) (Ev.now _)
  cases q with
  | false => exact ⟨0, 0, [], by simp, .inl rfl, Ev.bind p1 (evneg (by decide) (Ev.now _)), Ev.bind p2 (evneg (by decide) out)⟩
  | true =>
    have ho := p3 rfl
    by_cases c1 : st < 0
    · exact ⟨0, 0, [], by simp, .inl rfl, Ev.bind p1 (evpos rfl (evpos c1 (Ev.now _))), Ev.bind p2 (evpos rfl (evpos c1 out))⟩
    by_cases c2 : st > 40
    · refine ⟨0, 0, [], by simp, .inl rfl, Ev.bind p1 (evpos rfl (evneg c1 (evpos c2 (Ev.now _)))), Ev.bind p2 (evpos rfl (evneg c1 ?_))⟩
      rw [decide_eq_true c2]; exact out
    obtain ⟨w, rfl⟩ : ∃ w : Nat, W = (w : Int) := ⟨W.toNat, by have := ho.w; omega⟩
    obtain ⟨h, rfl⟩ : ∃ h : Nat, H = (h : Int) := ⟨H.toNat, by have := ho.h; omega⟩
    have hl : S.length = w * h := by have := ho.len; rw [← Int.natCast_mul] at this; omega
    have hwh : w * h ≤ 4096 := by have := ho.wh; rw [← Int.natCast_mul] at this; omega
    have hw := ho.w
    have hh := ho.h
    have oS : Ok (w * h) S := ⟨hl, fun j hj => ⟨(ho.v j (by omega)).1, (ho.v j (by omega)).2⟩⟩
    have zc : impl_zcopy.f S = some S := by
      unfold impl_zcopy.f
      rw [Option.bind_some, if_pos (by simp only [List.length_nil]; omega), List.nil_append]
    have im : ∀ r, Ev (fun k => (impl_zcopy.f S).bind fun t186 => (if st < 8 then (some ((w : Int), (h : Int), t186)) else (impl_Smooth.l0 k (bigOf st) (smlOf st) (mstOf st) (h : Int) 0 (w : Int) (h : Int) S (w : Int) (h : Int) t186))) r → Ev (fun k => impl_Smooth.f k (w : Int) (h : Int) S st) r := by
      intro r hr
      refine Ev.bind p2 (evpos rfl (evneg c1 ?_))
      rw [decide_eq_false c2]
      exact Ev.step (fun k => by simp only [impl_Smooth.j0, Bool.false_eq_true, if_false]; rfl) hr
    have sp : ∀ r, Ev (fun k => if st < 8 then some ((w : Int), (h : Int), S) else spec_l13Smooth.l0 k st 0 (w : Int) (h : Int) S (w : Int) (h : Int) S) r → Ev (fun k => spec_Smooth.f k (w : Int) (h : Int) S st) r := by
      intro r hr
      refine Ev.bind p1 (evpos rfl (evneg c1 (evneg c2 ?_)))
      refine Ev.bind (a := r) ?_ (Ev.now _)
      unfold spec_l13Smooth.f
      refine evpos (by simp only [List.length_nil]; omega) (evlet (a := S) rfl ?_)
      exact hr
    by_cases c3 : st < 8
    · exact ⟨w, h, S, hS, .inr ⟨w, rfl, by omega, by omega, rfl, by omega, by omega, by omega, fun j _ => by
      have := Int.mul_nonneg (show (0 : Int) ≤ ((near1 w j + near2 w j : Nat) : Int) by omega) (show 0 ≤ st / 4 + 1 by omega)
      exact ⟨fun _ => rfl, by omega, by omega⟩⟩, sp _ (evpos c3 (Ev.now _)), im _ (evlet zc (evpos c3 (Ev.now _)))⟩
    obtain ⟨r, hr, ⟨s1, t1, t2⟩, n1, n2⟩ := rows_both (S := S) (W := w) (H := h) (st := st) (by omega) (by omega) (by omega) (by omega) hwh S 0 (by omega) S oS (Tr.start _ (by omega) _ _ _)
    exact ⟨w, h, r, by have := hr.len; omega, .inr ⟨w, rfl, by omega, by omega, by rw [hr.len, hl], by omega, by omega, by omega, fun j hj => ⟨fun hlt => absurd hlt c3, by
      have d1 := t1.d j (by omega)
      have d2 := t2.d j (by omega)
      have e1 : near1 w j = 0 ∨ near1 w j = 1 := by unfold near1; split <;> simp
      have e2 : near2 w j = 0 ∨ near2 w j = 1 := by unfold near2; split <;> simp
      rcases e1 with e1 | e1 <;> rcases e2 with e2 | e2 <;> rw [e1, e2]
      · have := d1.1 e1
        have := d2.1 e2
        omega
      · have := d1.1 e1
        omega
      · have := d2.1 e2
        omega
      · omega⟩⟩, sp _ (evneg c3 n1), im _ (evlet zc (evneg c3 n2))⟩
theorem size_t {l : List Int} (hl : ByteL l) : ∃ n : Nat, spec_l1Size.f l 10 30 = some (n : Int) ∧ n ≤ 30 := by
  have h := hl.len
  unfold spec_l1Size.f
  rw [if_neg (by omega), w64 (by omega) (by omega)]
  split
  · exact ⟨30, rfl, by omega⟩
  · exact ⟨((l.length : Int) / 10).toNat, by rw [Int.toNat_of_nonneg (by omega)], by omega⟩
theorem plane_t {l : List Int} (hl : ByteL l) (a s : Int) (n : Nat) (hn : 1 ≤ n) (hn2 : n ≤ 31) (h0 : 0 ≤ a) (h1 : a ≤ 100000) : ∃ (W H : Int) (S : List Int) (a' s' : Int), Ev (fun k => spec_l1Cur_plane.f k l a s (n : Int)) (W, H, S, a', s') ∧ 1 ≤ S.length ∧ S.length ≤ 1024 ∧ a ≤ a' ∧ a' ≤ a + 10000 := by
  obtain ⟨r1, a1, s1, e1, x1, y1, p1, q1⟩ := pick_t hl a s n (by omega) h0 (by omega)
  obtain ⟨r2, a2, s2, e2, x2, y2, p2, q2⟩ := pick_t hl a1 s1 n (by omega) (by omega) (by omega)
  obtain ⟨w, rfl⟩ : ∃ w : Nat, r1 = (w : Int) := ⟨r1.toNat, by omega⟩
  obtain ⟨h, rfl⟩ : ∃ h : Nat, r2 = (h : Int) := ⟨r2.toNat, by omega⟩
  have m : (w + 1) * (h + 1) * 1 ≤ 1024 := by
    have := Nat.mul_le_mul (show w + 1 ≤ 32 by omega) (show h + 1 ≤ 32 by omega)
    omega
  have m1 : 1 ≤ (w + 1) * (h + 1) * 1 := by
    have := Nat.mul_le_mul (show 1 ≤ w + 1 by omega) (show 1 ≤ h + 1 by omega)
    omega
  obtain ⟨o, a3, s3, e3, l3, _, p3, q3⟩ := samples_t hl a2 s2 8 256 (w + 1) (h + 1) 1 (by decide +kernel) (by decide) (by omega) (by omega) (by omega) (by omega) (by omega) (by omega)
  have w1 : wrap64 (1 + (w : Int)) = ((w + 1 : Nat) : Int) := by rw [w64 (by omega) (by omega)]; omega
  have h1' : wrap64 (1 + (h : Int)) = ((h + 1 : Nat) : Int) := by rw [w64 (by omega) (by omega)]; omega
  refine ⟨((w + 1 : Nat) : Int), ((h + 1 : Nat) : Int), o, a3, s3, evlet e1 (evlet e2 ?_), by omega, by omega, by omega, by omega⟩
  simp only
  rw [w1, h1']
  exact Ev.bind e3 (Ev.now _)
theorem l7_t {l : List Int} (hl : ByteL l) : ∃ (W H : Int) (S : List Int) (a' s' : Int), Ev (fun k => spec_l7Plane.f k l l 0 0) (W, H, S, a', s') ∧ S.length ≤ 1024 ∧ 0 ≤ a' ∧ a' ≤ 30000 := by
  obtain ⟨W, H, S, a1, s1, e1, x1, y1, p1, q1⟩ := plane_t hl 0 0 9 (by omega) (by omega) (by omega) (by omega)
  obtain ⟨b, a2, s2, e2, p2, q2⟩ := one_t hl a1 s1 3 (by omega) (by omega) (by omega)
  have tail : ∀ (W H : Int) (S : List Int) (a s : Int), 1 ≤ S.length → S.length ≤ 1024 → 0 ≤ a → a ≤ 29000 → ∃ (W' H' : Int) (S' : List Int) (a' s' : Int), Ev (fun k => spec_l7Plane.j0 k l a s W H S) (W', H', S', a', s') ∧ S'.length ≤ 1024 ∧ 0 ≤ a' ∧ a' ≤ 30000 := by
    intro W H S a s S1 S2 h0 h1
    obtain ⟨r, a3, s3, e3, x3, y3, p3, q3⟩ := pick_t hl a s 16 (by omega) h0 (by omega)
    by_cases c0 : r = 0
    · obtain ⟨r4, a4, s4, e4, x4, y4, p4, q4⟩ := pick_t hl a3 s3 3 (by omega) (by omega) (by omega)
      exact ⟨_, H, S, a4, s4, Ev.step (fun k => rfl) (evlet e3 (evpos c0 (evlet e4 (Ev.now _)))), S2, by omega, by omega⟩
    by_cases c1 : r = 1
    · obtain ⟨r4, a4, s4, e4, x4, y4, p4, q4⟩ := pick_t hl a3 s3 2 (by omega) (by omega) (by omega)
      exact ⟨W, H, _, a4, s4, Ev.step (fun k => rfl) (evlet e3 (evneg c0 (evpos c1 (evlet rfl (evlet e4 (evpos x4 (evpos (by simpa using y4) (evpos (by omega) (Ev.now _))))))))), by rw [List.length_set]; exact S2, by omega, by omega⟩
    · exact ⟨W, H, S, a3, s3, Ev.step (fun k => rfl) (evlet e3 (evneg c0 (evneg c1 (Ev.now _)))), S2, by omega, by omega⟩
  cases b with
  | false =>
    obtain ⟨W', H', S', a', s', e, g1, g2, g3⟩ := tail W H S a2 s2 x1 y1 (by omega) (by omega)
    exact ⟨W', H', S', a', s', Ev.bind e1 (evlet e2 (evneg Bool.false_ne_true e)), g1, g2, g3⟩
  | true =>
    obtain ⟨n, en, hn⟩ := size_t hl
    have wn : wrap64 (1 + (n : Int)) = ((n + 1 : Nat) : Int) := by rw [w64 (by omega) (by omega)]; omega
    obtain ⟨W2, H2, S2, a3, s3, e3, x3, y3, p3, q3⟩ := plane_t hl a2 s2 (n + 1) (by omega) (by omega) (by omega) (by omega)
    obtain ⟨W', H', S', a', s', e, g1, g2, g3⟩ := tail W2 H2 S2 a3 s3 x3 y3 (by omega) (by omega)
    refine ⟨W', H', S', a', s', Ev.bind e1 (evlet e2 (evpos rfl (evlet en ?_))), g1, g2, g3⟩
    rw [wn]
    exact Ev.bind e3 e
theorem draw_t {l : List Int} (hl : ByteL l) : ∃ (W H : Int) (S : List Int) (st : Int), Ev (fun k => spec_DrawSmooth.f k l) (W, H, S, st) ∧ S.length ≤ 1024 := by
  obtain ⟨W, H, S, a, s, e, hS, g0, g1⟩ := l7_t hl
  obtain ⟨b, a2, s2, e2, p2, q2⟩ := one_t hl a s 2 (by omega) (by omega) (by omega)
  cases b with
  | false =>
    obtain ⟨r, a3, s3, e3, _, _, _, _⟩ := pick_t hl a2 s2 42 (by omega) (by omega) (by omega)
    exact ⟨W, H, S, r, Ev.bind e (evlet e2 (evneg Bool.false_ne_true (evlet e3 (Ev.now _)))), hS⟩
  | true =>
    have main := down (n := S.length) (P := fun i => ∀ (o : List Int) (a s : Int), o.length = S.length → 0 ≤ a → a ≤ 100000 + 6 * i → ∃ (o' : List Int) (t : Int), Ev (fun k => spec_DrawSmooth.l0 k (S.length : Int) (i : Int) l a s W H o) (W, H, o', t) ∧ o'.length = S.length) ?_ ?_
    · obtain ⟨o, t, e3, hl3⟩ := main S a2 s2 rfl (by omega) (by omega)
      exact ⟨W, H, o, t, Ev.bind e (evlet e2 (evpos rfl e3)), by omega⟩
    · intro o a s ho h0 h1
      obtain ⟨r, a3, s3, e3, _, _, _, _⟩ := pick_t hl a s 42 (by omega) (by omega) (by omega)
      exact ⟨o, r, Ev.step (fun k => rfl) (evneg (by omega) (evlet e3 (Ev.now _))), ho⟩
    · intro i hi ih o a s ho h0 h1
      obtain ⟨b, a3, s3, e3, p3, q3⟩ := one_t hl a s 2 (by omega) (by omega) (by omega)
      have nx := fun (o : List Int) (a s : Int) (ho : o.length = S.length) (h0 : 0 ≤ a) (h1 : a ≤ 100000 + 6 * (i + 1 : Nat)) => ih o a s ho h0 (by omega)
      have w1 : wrap64 ((i : Int) + 1) = ((i + 1 : Nat) : Int) := w64s (by omega)
      cases b with
      | false =>
        obtain ⟨o', t, e4, h4⟩ := nx o a3 s3 ho (by omega) (by omega)
        refine ⟨o', t, Ev.step (fun k => rfl) (evpos (by omega) (evlet e3 (evneg Bool.false_ne_true ?_))), h4⟩
        simp only
        rw [w1]; exact e4
      | true =>
        by_cases c : rd o (i : Int) > 120
        · obtain ⟨r, a4, s4, e5, _, _, p5, q5⟩ := pick_t hl a3 s3 12 (by omega) (by omega) (by omega)
          obtain ⟨o', t, e4, h4⟩ := nx (o.set i (wrap64 (118 + r))) a4 s4 (by rw [List.length_set]; exact ho) (by omega) (by omega)
          refine ⟨o', t, Ev.step (fun k => rfl) (evpos (by omega) (evlet e3 (evpos rfl (evpos (by omega) (evpos (by omega) (evpos c (evlet e5 ?_))))))), h4⟩
          simp only
          rw [w1, Int.toNat_natCast]; exact e4
        · obtain ⟨o', t, e4, h4⟩ := nx o a3 s3 ho (by omega) (by omega)
          refine ⟨o', t, Ev.step (fun k => rfl) (evpos (by omega) (evlet e3 (evpos rfl (evpos (by omega) (evpos (by omega) (evneg c ?_)))))), h4⟩
          simp only
          rw [w1]; exact e4
theorem wInts_t (l : List Int) (hl : l.length ≤ 1048576) : Ev (fun k => laws_wInts.f k l l) true := by
  refine evpos rfl ?_
  refine down (n := l.length) (P := fun i => Ev (fun k => laws_wInts.l0 k l l (l.length : Int) (i : Int)) true) ?_ ?_
  · exact Ev.step (fun k => rfl) (evneg (by omega) (Ev.now _))
  · intro i hi h
    refine Ev.step (fun k => rfl) (evpos (by omega) (evpos (by omega) (evpos (by omega) (evpos (by omega) (evpos rfl ?_)))))
    rw [w64s (by omega)]; exact h
theorem law_loop (W H w' h' st : Int) (S r : List Int) (w : Nat) (hw : W = (w : Int)) (w0 : 0 < w) (w1 : w ≤ 512) (hr : r.length = S.length) (hS : S.length ≤ 4096) (s0 : 0 ≤ st) (s1 : st ≤ 40)
    (hd : ∀ j : Nat, j < S.length → (st < 8 → rd r (j : Int) = rd S (j : Int)) ∧ -(((near1 w j + near2 w j : Nat) : Int) * (st / 4 + 1)) ≤ rd r (j : Int) - rd S (j : Int) ∧ rd r (j : Int) - rd S (j : Int) ≤ ((near1 w j + near2 w j : Nat) : Int) * (st / 4 + 1)) :
    Ev (fun k => laws_FnSmooth.l0 k st (r.length : Int) 0 W H S w' h' r) true := by
  refine down (n := S.length) (P := fun i => Ev (fun k => laws_FnSmooth.l0 k st (r.length : Int) (i : Int) W H S w' h' r) true) ?_ ?_
  · exact Ev.step (fun k => rfl) (evneg (by omega) (Ev.now _))
  intro i hi next
  obtain ⟨d1, d2, d3⟩ := hd i hi
  have n1 : near1 w i = 0 ∨ near1 w i = 1 := by unfold near1; split <;> simp
  have n2 : near2 w i = 0 ∨ near2 w i = 1 := by unfold near2; split <;> simp
  have big : -82 ≤ rd r (i : Int) - rd S (i : Int) ∧ rd r (i : Int) - rd S (i : Int) ≤ 82 := by
    rcases n1 with e1 | e1 <;> rcases n2 with e2 | e2 <;> rw [e1, e2] at d2 d3 <;> simp at d2 d3 <;> omega
  have m1 : Int.tmod (i : Int) W = ((i % w : Nat) : Int) := by rw [hw]; rfl
  have m2 : Int.tmod ((i % w : Nat) : Int) 4 = ((i % w % 4 : Nat) : Int) := rfl
  have m3 : wrap64 (Int.tdiv (i : Int) W) = ((i / w : Nat) : Int) := by
    rw [hw, show Int.tdiv (i : Int) (w : Int) = ((i / w : Nat) : Int) from rfl]
    have q : ∀ q : Nat, q ≤ i → wrap64 (q : Int) = (q : Int) := fun q hq => w64 (by omega) (by omega)
    exact q _ (Nat.div_le_self i w)
  have m4 : Int.tmod ((i / w : Nat) : Int) 4 = ((i / w % 4 : Nat) : Int) := rfl
  have m5 : wrap64 (wrap64 (Int.tdiv st 4) + 1) = st / 4 + 1 := by rw [Int.tdiv_eq_ediv_of_nonneg s0, w64 (n := st / 4) (by omega) (by omega), w64 (by omega) (by omega)]
  have fin : ∀ n : Nat, n = near1 w i + near2 w i → Ev (fun k => laws_FnSmooth.j5 k st (rd r (i : Int) - rd S (i : Int)) (n : Int) (r.length : Int) (i : Int) W H S w' h' r) true := by
    rintro n rfl
    generalize hX : ((near1 w i + near2 w i : Nat) : Int) * (st / 4 + 1) = X at d2 d3
    have hX2 : wrap64 (((near1 w i + near2 w i : Nat) : Int) * wrap64 (wrap64 (Int.tdiv st 4) + 1)) = X := by
      rw [m5, hX]
      have : 0 ≤ X ∧ X ≤ 22 := by
        rw [← hX]
        rcases n1 with e1 | e1 <;> rcases n2 with e2 | e2 <;> rw [e1, e2] <;> simp <;> omega
      exact w64 (by omega) (by omega)
    have nm : wrap64 (-(rd r (i : Int) - rd S (i : Int))) = -(rd r (i : Int) - rd S (i : Int)) := w64 (by omega) (by omega)
    have nx : wrap64 ((i : Int) + 1) = ((i + 1 : Nat) : Int) := w64s (by omega)
    have key : Ev (fun k => if rd r (i : Int) - rd S (i : Int) < 0 then (if -(rd r (i : Int) - rd S (i : Int)) > X then some false else (if -(rd r (i : Int) - rd S (i : Int)) > 0 then (if st < 8 then some false else laws_FnSmooth.l0 k st (r.length : Int) ((i + 1 : Nat) : Int) W H S w' h' r) else laws_FnSmooth.l0 k st (r.length : Int) ((i + 1 : Nat) : Int) W H S w' h' r)) else (if rd r (i : Int) - rd S (i : Int) > X then some false else (if rd r (i : Int) - rd S (i : Int) > 0 then (if st < 8 then some false else laws_FnSmooth.l0 k st (r.length : Int) ((i + 1 : Nat) : Int) W H S w' h' r) else laws_FnSmooth.l0 k st (r.length : Int) ((i + 1 : Nat) : Int) W H S w' h' r))) true := by
      have HN := Aside0.mk nm
      have HX := Aside0.mk nx
      clear nm nx hX2 m1 m2 m3 m4 m5
      by_cases c : rd r (i : Int) - rd S (i : Int) < 0
      · exact evpos c (evneg (by omega) (evpos (by omega) (evneg (fun h => by have := d1 h; omega) next)))
      · refine evneg c (evneg (by omega) ?_)
        by_cases c2 : rd r (i : Int) - rd S (i : Int) > 0
        · exact evpos c2 (evneg (fun h => by have := d1 h; omega) next)
        · exact evneg c2 next
    refine Ev.step (fun k => rfl) ?_
    simp only [laws_FnSmooth.j5]
    rw [hX2, nm, nx]
    exact key
  have j4 : ∀ n : Nat, n = near1 w i → Ev (fun k => laws_FnSmooth.j3 k st (rd r (i : Int) - rd S (i : Int)) ((i / w % 4 : Nat) : Int) (n : Int) (r.length : Int) (i : Int) W H S w' h' r) true := by
    rintro n rfl
    have one : wrap64 ((near1 w i : Int) + 1) = ((near1 w i + 1 : Nat) : Int) := w64s (by omega)
    have go : ∀ b : Bool, (b = true ↔ (i / w % 4 = 0 ∨ i / w % 4 = 3)) → Ev (fun k => laws_FnSmooth.j4 k st (rd r (i : Int) - rd S (i : Int)) (near1 w i : Int) (r.length : Int) (i : Int) b W H S w' h' r) true := by
      intro b hb
      cases b with
      | true =>
        refine Ev.step (f := fun k => laws_FnSmooth.j5 k st (rd r (i : Int) - rd S (i : Int)) (wrap64 ((near1 w i : Int) + 1)) (r.length : Int) (i : Int) W H S w' h' r) (fun k => by simp only [laws_FnSmooth.j4, if_true]) ?_
        rw [one]
        exact fin _ (by unfold near2; rw [if_pos (hb.1 rfl)])
      | false =>
        refine Ev.step (f := fun k => laws_FnSmooth.j5 k st (rd r (i : Int) - rd S (i : Int)) (near1 w i : Int) (r.length : Int) (i : Int) W H S w' h' r) (fun k => by simp only [laws_FnSmooth.j4, Bool.false_eq_true, if_false]) ?_
        exact fin _ (by unfold near2; rw [if_neg (fun h => Bool.false_ne_true (hb.2 h))]; rfl)
    refine Ev.step (fun k => rfl) ?_
    by_cases c : ((i / w % 4 : Nat) : Int) = 0
    · exact evpos c (go true ⟨fun _ => by omega, fun _ => rfl⟩)
    · refine evneg c (go _ ⟨fun h => ?_, fun h => ?_⟩)
      · have := beq_iff_eq.1 h
        omega
      · exact beq_iff_eq.2 (by omega)
  have go : ∀ b : Bool, (b = true ↔ (i % w % 4 = 0 ∨ i % w % 4 = 3)) → Ev (fun k => laws_FnSmooth.j2 k st (rd r (i : Int) - rd S (i : Int)) ((i / w % 4 : Nat) : Int) 0 (r.length : Int) (i : Int) b W H S w' h' r) true := by
    intro b hb
    cases b with
    | true =>
      refine Ev.step (f := fun k => laws_FnSmooth.j3 k st (rd r (i : Int) - rd S (i : Int)) ((i / w % 4 : Nat) : Int) (wrap64 (0 + 1)) (r.length : Int) (i : Int) W H S w' h' r) (fun k => by simp only [laws_FnSmooth.j2, if_true]) ?_
      rw [show wrap64 (0 + 1) = ((1 : Nat) : Int) by rw [w64 (by omega) (by omega)]; rfl]
      exact j4 1 (by unfold near1; rw [if_pos (hb.1 rfl)])
    | false =>
      refine Ev.step (f := fun k => laws_FnSmooth.j3 k st (rd r (i : Int) - rd S (i : Int)) ((i / w % 4 : Nat) : Int) 0 (r.length : Int) (i : Int) W H S w' h' r) (fun k => by simp only [laws_FnSmooth.j2, Bool.false_eq_true, if_false]) ?_
      exact j4 0 (by unfold near1; rw [if_neg (fun h => Bool.false_ne_true (hb.2 h))])
  have wd : wrap64 (rd r (i : Int) - rd S (i : Int)) = rd r (i : Int) - rd S (i : Int) := w64 (by omega) (by omega)
  have D := Aside0.mk wd
  have M1 := Aside0.mk m1
  have M2 := Aside0.mk m2
  have M3 := Aside0.mk m3
  have M4 := Aside0.mk m4
  clear wd m1 m2 m3 m4 m5
  refine Ev.step (fun k => rfl) (evpos (by omega) (evpos (by omega) (evpos (by omega) (evpos (by omega) (evneg (by omega) ?_)))))
  rw [D.out, M1.out, M2.out, M3.out, M4.out]
  by_cases c : ((i % w % 4 : Nat) : Int) = 0
  · exact evpos c (go true ⟨fun _ => by omega, fun _ => rfl⟩)
  · refine evneg c (go _ ⟨fun h => ?_, fun h => ?_⟩)
    · have := beq_iff_eq.1 h
      omega
    · exact beq_iff_eq.2 (by omega)
theorem FnSmooth : laws_FnSmooth.Pure := by
  intro l _ _ hb
  refine Ev.rounds ?_
  by_cases c : (l.length : Int) > 1048576
  · exact evpos c (Ev.now _)
  obtain ⟨W, H, S, st, e, hS⟩ := draw_t (bytel hb c)
  obtain ⟨w', h', r, hl, hx, h1, h2⟩ := smooth_both W H S st (by omega)
  have ew := wInts_t r hl
  have jn : Ev (fun k => laws_FnSmooth.j0 k st (!true) W H S w' h' r) true := by
    refine Ev.step (f := fun k => laws_FnSmooth.l0 k st (r.length : Int) 0 W H S w' h' r) (fun k => by simp only [laws_FnSmooth.j0, Bool.not_true, Bool.false_eq_true, if_false]) ?_
    rcases hx with rfl | ⟨w, hw, w0, w1, hr, hs, s0, s1, hd⟩
    · refine Ev.step (f := fun _ => some true) (fun k => ?_) (Ev.now _)
      simp only [laws_FnSmooth.l0]
      rw [if_neg (by decide)]
    · exact law_loop W H w' h' st S r w hw w0 w1 hr hs s0 s1 hd
  exact evneg c (Ev.bind e (Ev.bind h2 (Ev.bind h1 (evpos rfl (Ev.bind ew jn)))))
end Go.Proofs.Ytggokppfhkebkaa.Pure

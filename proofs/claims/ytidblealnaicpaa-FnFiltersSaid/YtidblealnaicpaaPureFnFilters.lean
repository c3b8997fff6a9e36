/- FnFilters: for every list of bytes that the draws are made of (at most 1048576 bytes, else the law is true at once), the row that is drawn, filtered in each of the five ways, is told as the reference tells it and is the row again behind the way back; BestKind answers as the reference. -/
import Derived.Test.YtidblealnaicpaaPFnFiltersx0
import Derived.Test.YtidblealnaicpaaPFnFiltersx1
import Derived.Test.YtidblealnaicpaaPFnFiltersx2
import Derived.Test.YtidblealnaicpaaPFnFiltersx3
import Derived.Test.YtidblealnaicpaaPFnFiltersx4
import Derived.Test.YtidblealnaicpaaPFnFiltersx5
import Derived.Test.YtidblealnaicpaaPFnFiltersx6
import Derived.Test.YtidblealnaicpaaPFnFiltersx7
import Derived.Test.YtidblealnaicpaaPFnFiltersx8
import Derived.Test.YtidblealnaicpaaK
import Derived.Laws.Bits64b
namespace Go.Proofs.Ytidblealnaicpaa.Pure
open Go.RowKit Go.Proofs.Ytidblealnaicpaa.PFnFilters Go.Proofs.Ytidblealnaicpaa.K Go.Proofs.YtidblealnaicpaaW.PrintWords Go.Proofs.YtidblealnaicpaaW.PrintLast Go.Proofs.YtidblealnaicpaaW.PrintMore

/-- The bytes that a cursor reads. -/
structure ByteL (l : List Int) : Prop where
  len : l.length ≤ 1048576
  bd : ∀ x ∈ l, 0 ≤ x ∧ x ≤ 255
theorem bytel {l : List Int} (h : ∀ x ∈ l, (Lit.int .u8 x).wf = true) (hl : ¬ (l.length : Int) > 1048576) : ByteL l := ⟨by omega, fun x hx => wfb (h x hx)⟩
theorem rd_byte {l : List Int} (h : ByteL l) {i : Int} (h0 : 0 ≤ i) (h1 : i < l.length) : 0 ≤ rd l i ∧ rd l i ≤ 255 := by
  obtain ⟨j, rfl⟩ : ∃ j : Nat, i = (j : Int) := ⟨i.toNat, by omega⟩
  rw [rd_nat, getD_lt (show j < l.length by omega)]
  exact h.bd _ (List.getElem_mem _)
theorem and255 (x : Int) : 0 ≤ Go.bits .and .u64 x 255 ∧ Go.bits .and .u64 x 255 ≤ 255 := by
  have e : Go.bits .and .u64 x 255 = IntKind.u64.wrap ((BitVec.ofInt 64 x &&& BitVec.ofInt 64 255).toNat : Int) := rfl
  have h : (BitVec.ofInt 64 x &&& BitVec.ofInt 64 255).toNat ≤ 255 := by
    rw [BitVec.toNat_and]; exact Nat.and_le_right
  rw [e, IntKind.wrap_u64]
  omega
theorem w255 {x : Int} (h : 0 ≤ x ∧ x ≤ 255) : wrap64 x = x := w64 (by omega) (by omega)
theorem next_t {l : List Int} (hl : ByteL l) (a s : Int) (h0 : 0 ≤ a) (h1 : a ≤ 2000000000000) : ∃ v s', spec_l1Cur_next.f l a s = some (v, a + 1, s') ∧ 0 ≤ v ∧ v ≤ 255 := by
  unfold spec_l1Cur_next.f
  rw [show wrap64 (a + 1) = a + 1 from w64 (by omega) (by omega)]
  by_cases c : a < (l.length : Int)
  · rw [if_pos c, if_pos h0, if_pos (by omega)]
    have := rd_byte hl h0 c
    exact ⟨_, _, rfl, by rw [w255 this]; exact this.1, by rw [w255 this]; exact this.2⟩
  · rw [if_neg c, if_neg (by omega)]
    refine ⟨_, _, rfl, ?_, ?_⟩
    · rw [w255 (and255 _)]; exact (and255 _).1
    · rw [w255 (and255 _)]; exact (and255 _).2
theorem pick_t {l : List Int} (hl : ByteL l) (a s n : Int) (hn : 1 ≤ n) (h0 : 0 ≤ a) (h1 : a ≤ 1000000000000) : ∃ r a' s', spec_l1Cur_pick.f l a s n = some (r, a', s') ∧ 0 ≤ r ∧ r < n ∧ a ≤ a' ∧ a' ≤ a + 3 := by
  unfold spec_l1Cur_pick.f
  by_cases c : n ≤ 1
  · rw [if_pos c]
    exact ⟨0, a, s, rfl, by omega, by omega, by omega, by omega⟩
  rw [if_neg c]
  have nz : ¬ n = 0 := by omega
  obtain ⟨v, s1, e1, v0, v1⟩ := next_t hl a s h0 (by omega)
  rw [e1, Option.bind_some]
  have fin : ∀ x : Int, 0 ≤ x → 0 ≤ Int.tmod x n ∧ Int.tmod x n < n := fun x hx => ⟨Int.tmod_nonneg _ hx, Int.tmod_lt_of_pos _ (by omega)⟩
  by_cases c2 : n > 200
  · rw [if_pos c2]
    obtain ⟨u, s2, e2, u0, u1⟩ := next_t hl (a + 1) s1 (by omega) (by omega)
    simp only [e2, Option.bind_some]
    rw [w64 (n := v * 256) (by omega) (by omega), w64 (n := v * 256 + u) (by omega) (by omega)]
    by_cases c3 : n > 50000
    · rw [if_pos c3]
      obtain ⟨t, s3, e3, t0, t1⟩ := next_t hl (a + 1 + 1) s2 (by omega) (by omega)
      simp only [e3, Option.bind_some]
      rw [if_neg nz, w64 (n := (v * 256 + u) * 256) (by omega) (by omega), w64 (n := (v * 256 + u) * 256 + t) (by omega) (by omega)]
      exact ⟨_, _, _, rfl, (fin _ (by omega)).1, (fin _ (by omega)).2, by omega, by omega⟩
    · rw [if_neg c3, if_neg nz]
      exact ⟨_, _, _, rfl, (fin _ (by omega)).1, (fin _ (by omega)).2, by omega, by omega⟩
  · rw [if_neg c2, if_neg (by omega), if_neg nz]
    exact ⟨_, a + 1, s1, rfl, (fin _ (by omega)).1, (fin _ (by omega)).2, by omega, by omega⟩
theorem one_t {l : List Int} (hl : ByteL l) (a s n : Int) (hn : 1 ≤ n) (h0 : 0 ≤ a) (h1 : a ≤ 1000000000000) : ∃ (b : Bool) (a' s' : Int), spec_l1Cur_one.f l a s n = some (b, a', s') ∧ a ≤ a' ∧ a' ≤ a + 3 := by
  obtain ⟨r, a', s', e, _, _, h2, h3⟩ := pick_t hl a s n hn h0 h1
  unfold spec_l1Cur_one.f
  rw [e]
  exact ⟨_, _, _, rfl, h2, h3⟩
theorem bytes_t {l : List Int} (hl : ByteL l) (a s : Int) (n : Nat) (hn : n ≤ 1000000) (h0 : 0 ≤ a) (h1 : a ≤ 1000000000000) : ∃ (o : List Int) (s' : Int), Ev (fun k => spec_l1Cur_bytes.f k l a s (n : Int)) (o, a + n, s') ∧ o.length = n ∧ ∀ x ∈ o, 0 ≤ x ∧ x ≤ 255 := by
  have main := down (n := n) (P := fun i => ∀ (o : List Int) (s : Int), o.length = n → (∀ x ∈ o, 0 ≤ x ∧ x ≤ 255) → ∃ (o' : List Int) (s' : Int), Ev (fun k => spec_l1Cur_bytes.l0 k o (n : Int) (i : Int) l (a + i) s) (o', a + n, s') ∧ o'.length = n ∧ ∀ x ∈ o', 0 ≤ x ∧ x ≤ 255) ?_ ?_
  · obtain ⟨o', s', e, h2, h3⟩ := main (List.replicate n 0) s (by simp) (fun x hx => by rw [List.eq_of_mem_replicate hx]; omega)
    refine ⟨o', s', ?_, h2, h3⟩
    refine evpos (by omega) (evpos (by omega) (evlet rfl ?_))
    rw [show a + ((0 : Nat) : Int) = a by omega] at e
    simp only [Int.toNat_natCast, List.length_replicate]
    exact e
  · intro o s ho hb
    exact ⟨o, s, Ev.step (fun k => rfl) (evneg (by omega) (Ev.now _)), ho, hb⟩
  · intro i hi ih o s ho hb
    obtain ⟨v, s1, e1, v0, v1⟩ := next_t hl (a + i) s (by omega) (by omega)
    obtain ⟨o', s', e, h2, h3⟩ := ih (o.set i v) s1 (by simpa using ho) (fun x hx => by
      rcases List.mem_or_eq_of_mem_set hx with hx | rfl
      · exact hb x hx
      · exact ⟨v0, v1⟩)
    refine ⟨o', s', Ev.step (fun k => rfl) (evpos (by omega) (evlet e1 (evpos (by omega) (evpos (by omega) ?_)))), h2, h3⟩
    simp only [Int.toNat_natCast]
    rw [w64s (by omega), Int.emod_eq_of_lt v0 (by omega)]
    rw [show a + ((i + 1 : Nat) : Int) = a + i + 1 by omega] at e
    exact e
theorem set_bd {o : List Int} {i : Nat} {v m : Int} (hb : ∀ x ∈ o, 0 ≤ x ∧ x ≤ m) (h0 : 0 ≤ v) (h1 : v ≤ m) : ∀ x ∈ o.set i v, 0 ≤ x ∧ x ≤ m := by
  intro x hx
  rcases List.mem_or_eq_of_mem_set hx with hx | rfl
  · exact hb x hx
  · exact ⟨h0, h1⟩
theorem samples_loop {l : List Int} (hl : ByteL l) (W P top dx dy base noise : Int) (hW : ¬ W = 0) (hP : ¬ P = 0) (ht0 : 1 ≤ top) (ht1 : top ≤ 65535) (n : Nat) (hn : n ≤ 1000000) :
    ∀ (o : List Int) (a s : Int), o.length = n → (∀ x ∈ o, 0 ≤ x ∧ x ≤ top) → 0 ≤ a → a ≤ 200000000000 → ∃ (o' : List Int) (a' s' : Int), Ev (fun k => spec_l1Cur_samples.l0 k W P top o dx dy base noise (n : Int) ((0 : Nat) : Int) l a s) (o', a', s') ∧ o'.length = n ∧ (∀ x ∈ o', 0 ≤ x ∧ x ≤ top) ∧ a ≤ a' ∧ a' ≤ a + 6 * n := by
  have main := down (n := n) (P := fun i => ∀ (o : List Int) (a s : Int), o.length = n → (∀ x ∈ o, 0 ≤ x ∧ x ≤ top) → 0 ≤ a → a ≤ 200000000000 + 6 * i → ∃ (o' : List Int) (a' s' : Int), Ev (fun k => spec_l1Cur_samples.l0 k W P top o dx dy base noise (n : Int) (i : Int) l a s) (o', a', s') ∧ o'.length = n ∧ (∀ x ∈ o', 0 ≤ x ∧ x ≤ top) ∧ a ≤ a' ∧ a' ≤ a + 6 * (n - i : Int)) ?_ ?_
  · intro o a s ho hb h0 h1
    obtain ⟨o', a', s', e, h2, h3, h4, h5⟩ := main o a s ho hb h0 (by omega)
    exact ⟨o', a', s', e, h2, h3, h4, by omega⟩
  · intro o a s ho hb h0 h1
    exact ⟨o, a, s, Ev.step (fun k => rfl) (evneg (by omega) (Ev.now _)), ho, hb, by omega, by omega⟩
  · intro i hi ih o a s ho hb h0 h1
    have f0 : (0 : Int) ≤ (i : Int) := by omega
    have f1 : (i : Int) < (o.length : Int) := by omega
    have tn : ((i : Int)).toNat = i := Int.toNat_natCast i
    have j4 : ∀ (y a s : Int), 0 ≤ a → a ≤ 200000000000 + 6 * (i + 1) → ∃ (o' : List Int) (a' s' : Int), Ev (fun k => spec_l1Cur_samples.j4 k W P top o dx dy base noise (i : Int) y (n : Int) (i : Int) l a s) (o', a', s') ∧ o'.length = n ∧ (∀ x ∈ o', 0 ≤ x ∧ x ≤ top) ∧ a ≤ a' ∧ a' ≤ a + 6 * (n - i - 1 : Int) := by
      intro y a s h0 h1
      have st : ∀ v : Int, 0 ≤ v → v ≤ top → ∃ (o' : List Int) (a' s' : Int), Ev (fun k => spec_l1Cur_samples.l0 k W P top (o.set (i : Int).toNat v) dx dy base noise (n : Int) (wrap64 ((i : Int) + 1)) l a s) (o', a', s') ∧ o'.length = n ∧ (∀ x ∈ o', 0 ≤ x ∧ x ≤ top) ∧ a ≤ a' ∧ a' ≤ a + 6 * (n - i - 1 : Int) := by
        intro v v0 v1
        obtain ⟨o', a', s', e, h2, h3, h4, h5⟩ := ih (o.set i v) a s (by simpa using ho) (set_bd hb v0 v1) h0 (by omega)
        refine ⟨o', a', s', ?_, h2, h3, h4, by omega⟩
        rw [w64s (by omega), tn]; exact e
      by_cases c1 : y < 0
      · by_cases c2 : 0 > top
        · omega
        · obtain ⟨o', a', s', e, h⟩ := st 0 (by omega) (by omega)
          exact ⟨o', a', s', Ev.step (fun k => rfl) (evpos c1 (evneg c2 (evpos f0 (evpos f1 e)))), h⟩
      · by_cases c2 : y > top
        · obtain ⟨o', a', s', e, h⟩ := st top (by omega) (by omega)
          exact ⟨o', a', s', Ev.step (fun k => rfl) (evneg c1 (evpos c2 (evpos f0 (evpos f1 e)))), h⟩
        · obtain ⟨o', a', s', e, h⟩ := st y (by omega) (by omega)
          exact ⟨o', a', s', Ev.step (fun k => rfl) (evneg c1 (evneg c2 (evpos f0 (evpos f1 e)))), h⟩
    have j3 : ∀ (y a s : Int), 0 ≤ a → a ≤ 200000000000 + 6 * i + 3 → ∃ (o' : List Int) (a' s' : Int), Ev (fun k => spec_l1Cur_samples.j3 k W P top o dx dy base noise (i : Int) y (n : Int) (i : Int) l a s) (o', a', s') ∧ o'.length = n ∧ (∀ x ∈ o', 0 ≤ x ∧ x ≤ top) ∧ a ≤ a' ∧ a' ≤ a + 6 * (n - i - 1 : Int) + 3 := by
      intro y a s h0 h1
      by_cases c1 : noise = 3
      · obtain ⟨r, a1, s1, e1, r0, r1, p0, p1⟩ := pick_t hl a s (top + 1) (by omega) h0 (by omega)
        obtain ⟨o', a', s', e, h2, h3, h4, h5⟩ := j4 r a1 s1 (by omega) (by omega)
        refine ⟨o', a', s', Ev.step (fun k => rfl) (evpos c1 ?_), h2, h3, by omega, by omega⟩
        rw [show wrap64 (top + 1) = top + 1 from w64 (by omega) (by omega)]
        exact evlet e1 e
      · obtain ⟨o', a', s', e, h2, h3, h4, h5⟩ := j4 y a s h0 (by omega)
        exact ⟨o', a', s', Ev.step (fun k => rfl) (evneg c1 e), h2, h3, by omega, by omega⟩
    have j1 : ∀ (u y a s : Int), 0 ≤ a → a ≤ 200000000000 + 6 * i + 3 → ∃ (o' : List Int) (a' s' : Int), Ev (fun k => spec_l1Cur_samples.j1 k W P top o dx dy base noise (i : Int) u y (n : Int) (i : Int) l a s) (o', a', s') ∧ o'.length = n ∧ (∀ x ∈ o', 0 ≤ x ∧ x ≤ top) ∧ a ≤ a' ∧ a' ≤ a + 6 * (n - i - 1 : Int) + 3 := by
      intro u y a s h0 h1
      have j2 : ∀ b : Bool, ∃ (o' : List Int) (a' s' : Int), Ev (fun k => spec_l1Cur_samples.j2 k W P top o dx dy base noise (i : Int) y (n : Int) (i : Int) b l a s) (o', a', s') ∧ o'.length = n ∧ (∀ x ∈ o', 0 ≤ x ∧ x ≤ top) ∧ a ≤ a' ∧ a' ≤ a + 6 * (n - i - 1 : Int) + 3 := by
        intro b
        cases b with
        | true =>
          obtain ⟨o', a', s', e, h⟩ := j3 (wrap64 (top - y)) a s h0 h1
          exact ⟨o', a', s', Ev.step (fun k => rfl) e, h⟩
        | false =>
          obtain ⟨o', a', s', e, h⟩ := j3 y a s h0 h1
          exact ⟨o', a', s', Ev.step (fun k => rfl) e, h⟩
      by_cases c1 : noise = 2
      · obtain ⟨o', a', s', e, h⟩ := j2 (decide (u > wrap64 (Int.tdiv W 2)))
        exact ⟨o', a', s', Ev.step (fun k => rfl) (evpos c1 e), h⟩
      · obtain ⟨o', a', s', e, h⟩ := j2 false
        exact ⟨o', a', s', Ev.step (fun k => rfl) (evneg c1 e), h⟩
    by_cases c1 : noise = 1
    · obtain ⟨r, a1, s1, e1, r0, r1, p0, p1⟩ := pick_t hl a s 9 (by omega) h0 (by omega)
      obtain ⟨o', a', s', e, h2, h3, h4, h5⟩ := j1 (Int.tmod (wrap64 (Int.tdiv (i : Int) P)) W) (wrap64 ((wrap64 ((wrap64 ((wrap64 (base + (wrap64 ((Int.tmod (wrap64 (Int.tdiv (i : Int) P)) W) * dx)))) + (wrap64 ((wrap64 (Int.tdiv (wrap64 (Int.tdiv (i : Int) P)) W)) * dy)))) + (wrap64 ((Int.tmod (i : Int) P) * 20)))) + r)) a1 s1 (by omega) (by omega)
      exact ⟨o', a', s', Ev.step (fun k => rfl) (evpos (by omega) (evneg hP (evneg hW (evpos c1 (evlet e1 e))))), h2, h3, by omega, by omega⟩
    · obtain ⟨o', a', s', e, h2, h3, h4, h5⟩ := j1 (Int.tmod (wrap64 (Int.tdiv (i : Int) P)) W) (wrap64 ((wrap64 ((wrap64 (base + (wrap64 ((Int.tmod (wrap64 (Int.tdiv (i : Int) P)) W) * dx)))) + (wrap64 ((wrap64 (Int.tdiv (wrap64 (Int.tdiv (i : Int) P)) W)) * dy)))) + (wrap64 ((Int.tmod (i : Int) P) * 20)))) a s (by omega) (by omega)
      exact ⟨o', a', s', Ev.step (fun k => rfl) (evpos (by omega) (evneg hP (evneg hW (evneg c1 e)))), h2, h3, by omega, by omega⟩
theorem samples_t {l : List Int} (hl : ByteL l) (a s d T : Int) (W H P : Nat) (hT : shl .i64 1 (IntKind.u64.wrap d) = T) (hd : 0 ≤ IntKind.u64.wrap d) (hT0 : 2 ≤ T) (hT1 : T ≤ 65536) (hP : 1 ≤ P) (hwh : W * H * P ≤ 1000000) (h0 : 0 ≤ a) (h1 : a ≤ 100000000000) :
    ∃ (o : List Int) (a' s' : Int), Ev (fun k => spec_l1Cur_samples.f k l a s (W : Int) (H : Int) (P : Int) d) (o, a', s') ∧ o.length = W * H * P ∧ (∀ x ∈ o, 0 ≤ x ∧ x ≤ T - 1) ∧ a ≤ a' ∧ a' ≤ a + 12 + 6 * (W * H * P : Nat) := by
  have hwh2 : W * H ≤ 1000000 := Nat.le_trans (Nat.le_mul_of_pos_right _ hP) hwh
  have en : wrap64 (wrap64 ((W : Int) * (H : Int)) * (P : Int)) = ((W * H * P : Nat) : Int) := by
    rw [show (W : Int) * (H : Int) = ((W * H : Nat) : Int) by push_cast; rfl, w64 (n := ((W * H : Nat) : Int)) (by omega) (by omega), show ((W * H : Nat) : Int) * (P : Int) = ((W * H * P : Nat) : Int) by push_cast; rfl, w64 (by omega) (by omega)]
  obtain ⟨r1, a1, s1, e1, _, _, p1, q1⟩ := pick_t hl a s 30 (by omega) h0 (by omega)
  obtain ⟨r2, a2, s2, e2, _, _, p2, q2⟩ := pick_t hl a1 s1 30 (by omega) (by omega) (by omega)
  obtain ⟨r3, a3, s3, e3, _, _, p3, q3⟩ := pick_t hl a2 s2 T (by omega) (by omega) (by omega)
  obtain ⟨r4, a4, s4, e4, _, _, p4, q4⟩ := pick_t hl a3 s3 4 (by omega) (by omega) (by omega)
  have top : wrap64 (T - 1) = T - 1 := w64 (by omega) (by omega)
  have top1 : wrap64 (T - 1 + 1) = T := by rw [w64 (by omega) (by omega)]; omega
  have hlen : (List.replicate (W * H * P) (0 : Int)).length = W * H * P := by simp
  have hz : ∀ x ∈ List.replicate (W * H * P) (0 : Int), 0 ≤ x ∧ x ≤ T - 1 := fun x hx => by rw [List.eq_of_mem_replicate hx]; omega
  suffices hs : ∃ (o : List Int) (a' s' : Int), Ev (fun k => spec_l1Cur_samples.l0 k (W : Int) (P : Int) (T - 1) (List.replicate (W * H * P) 0) (wrap64 (r1 - 15)) (wrap64 (r2 - 15)) r3 r4 ((W * H * P : Nat) : Int) ((0 : Nat) : Int) l a4 s4) (o, a', s') ∧ o.length = W * H * P ∧ (∀ x ∈ o, 0 ≤ x ∧ x ≤ T - 1) ∧ a4 ≤ a' ∧ a' ≤ a4 + 6 * (W * H * P : Nat) by
    obtain ⟨o, a', s', e, h2, h3, h4, h5⟩ := hs
    refine ⟨o, a', s', ?_, h2, h3, by omega, by omega⟩
    unfold spec_l1Cur_samples.f
    rw [hT, en, top, top1, Int.toNat_natCast]
    refine evpos hd (evpos (by omega) (evpos (by omega) (evlet rfl (evlet e1 (evlet e2 (evlet e3 (evlet e4 ?_)))))))
    simp only [hlen]
    exact e
  by_cases c : W * H * P = 0
  · refine ⟨List.replicate (W * H * P) 0, a4, s4, Ev.step (fun k => rfl) (evneg (by omega) (Ev.now _)), hlen, hz, by omega, by omega⟩
  · exact samples_loop hl (W : Int) (P : Int) (T - 1) _ _ _ _ (by rintro h; obtain rfl : W = 0 := by omega
                                                                  simp at c) (by omega) (by omega) (by omega) (W * H * P) hwh _ a4 s4 hlen hz (by omega) (by omega)
theorem uw (n : Int) (h0 : 0 ≤ n) (h1 : n < 18446744073709551616) : IntKind.u64.wrap n = n := by rw [IntKind.wrap_u64]; omega
theorem shr_u (x b : Nat) (hb : b ≤ 64) : shr .u64 (x : Int) (b : Int) = ((x / 2 ^ b : Nat) : Int) := by
  unfold shr
  rw [Int.toNat_natCast, Nat.min_eq_left (show b ≤ IntKind.u64.bits from hb)]; simp
theorem or_bd (x y : Int) : 0 ≤ Go.bits .or .u8 x y ∧ Go.bits .or .u8 x y ≤ 255 := by
  have e : Go.bits .or .u8 x y = IntKind.u8.wrap ((BitVec.ofInt 8 x ||| BitVec.ofInt 8 y).toNat : Int) := rfl
  rw [e, IntKind.wrap_u8]; omega
theorem or_zero (x : Int) (h0 : 0 ≤ x) (h1 : x ≤ 255) : Go.bits .or .u8 x 0 = x := by
  obtain ⟨a, rfl⟩ : ∃ a : Nat, x = (a : Int) := ⟨x.toNat, by omega⟩
  have := (bits_nat .u8 8 (by decide) wraps_u8 a 0 (by omega) (by decide)).2
  rw [Nat.or_zero] at this
  exact this
theorem shl_zero (p : Int) : shl .u8 0 p = 0 := by unfold shl; rw [Int.zero_mul]; rfl
/-- The bytes before the next bit is put. -/
def ext (l : List Int) (n : Nat) : List Int := if n % 8 = 0 then l ++ [0] else l
def pos (hi : Bool) (n : Nat) : Nat := if hi = true then 7 - n % 8 else n % 8
def put1 (hi : Bool) (m : List Int) (n b : Nat) : List Int := m.set (n / 8) (Go.bits .or .u8 (m.getD (n / 8) 0) (shl .u8 (b : Int) (pos hi n : Int)))
def stp (hi : Bool) (l : List Int) (n b : Nat) : List Int := put1 hi (ext l n) n b
structure Inv (l : List Int) (n : Nat) : Prop where
  len : l.length = (n + 7) / 8
  bd : ∀ x ∈ l, 0 ≤ x ∧ x ≤ 255
theorem ext_len {l : List Int} {n : Nat} (h : Inv l n) : (ext l n).length = n / 8 + 1 := by
  have := h.len
  unfold ext
  split
  · rw [List.length_append, List.length_singleton]; omega
  · omega
theorem ext_bd {l : List Int} {n : Nat} (h : Inv l n) : ∀ x ∈ ext l n, 0 ≤ x ∧ x ≤ 255 := by
  intro x hx
  unfold ext at hx
  split at hx
  · rcases List.mem_append.1 hx with hx | hx
    · exact h.bd x hx
    · obtain rfl := List.mem_singleton.1 hx; omega
  · exact h.bd x hx
theorem stp_inv {l : List Int} {n : Nat} (h : Inv l n) (hi : Bool) (b : Nat) : Inv (stp hi l n b) (n + 1) := by
  refine ⟨?_, ?_⟩
  · unfold stp put1; rw [List.length_set, ext_len h]; omega
  · intro x hx
    unfold stp put1 at hx
    rcases List.mem_or_eq_of_mem_set hx with hx | rfl
    · exact ext_bd h x hx
    · exact or_bd _ _
theorem set_self (m : List Int) (i : Nat) : m.set i (m.getD i 0) = m := by
  apply List.ext_getElem
  · simp
  · intro j h1 h2
    rw [List.getElem_set]
    by_cases c : i = j
    · subst c; rw [if_pos rfl, getD_lt h2]
    · rw [if_neg c]
theorem tm8 (n : Nat) : Int.tmod (n : Int) 8 = ((n % 8 : Nat) : Int) := (Int.ofNat_tmod n 8).symm
theorem td8 (n : Nat) (hn : n ≤ 2000000) : wrap64 (Int.tdiv (n : Int) 8) = ((n / 8 : Nat) : Int) := by
  rw [show Int.tdiv (n : Int) 8 = ((n / 8 : Nat) : Int) from (Int.ofNat_tdiv n 8).symm]; exact w64 (by omega) (by omega)
theorem w7 (n : Nat) : wrap64 (7 - ((n % 8 : Nat) : Int)) = ((7 - n % 8 : Nat) : Int) := by rw [w64 (by omega) (by omega)]; omega
theorem u7 (n : Nat) : IntKind.u64.wrap (7 - IntKind.u64.wrap ((n % 8 : Nat) : Int)) = ((7 - n % 8 : Nat) : Int) := by
  rw [uw ((n % 8 : Nat) : Int) (by omega) (by omega), uw _ (by omega) (by omega)]; omega
theorem and1 (a : Nat) (ha : a < 18446744073709551616) : Go.bits .and .u64 (a : Int) 1 = ((a % 2 : Nat) : Int) := by
  have := bits_and_u64_nat a 1 ha (by decide)
  rw [Nat.and_one_is_mod] at this
  exact this
theorem j0_spec (hi : Bool) (m : List Int) (n b : Nat) (hb : b ≤ 1) (hn : n ≤ 2000000) (hm : n / 8 < m.length) (bd : ∀ x ∈ m, 0 ≤ x ∧ x ≤ 255) : Ev (fun k => spec_l1Sink_bit.j0 k (b : Int) hi m (n : Int)) (hi, put1 hi m n b, ((n + 1 : Nat) : Int)) := by
  have f0 : (0 : Int) ≤ ((n / 8 : Nat) : Int) := by omega
  have f1 : (0 : Int) ≤ ((n % 8 : Nat) : Int) := by omega
  have f2 : (0 : Int) ≤ ((7 - n % 8 : Nat) : Int) := by omega
  have f3 : ((n / 8 : Nat) : Int) < (m.length : Int) := by omega
  have um := uw ((n % 8 : Nat) : Int) f1 (by omega)
  refine Ev.step (fun k => rfl) ?_
  simp only [spec_l1Sink_bit.j0]
  rw [tm8, td8 n hn, u7, um, w64s (by omega)]
  by_cases c : b = 1
  · subst c
    refine evpos (by decide) ?_
    unfold put1 pos
    cases hi with
    | true =>
      refine evpos rfl (evpos f0 (evpos f3 (evpos f2 ?_)))
      rw [if_pos rfl, Int.toNat_natCast, rd_nat]; exact Ev.now _
    | false =>
      refine evneg (by decide) (evpos f0 (evpos f3 (evpos f1 ?_)))
      rw [if_neg (by decide), Int.toNat_natCast, rd_nat]; exact Ev.now _
  · obtain rfl : b = 0 := by omega
    have e : put1 hi m n 0 = m := by
      unfold put1
      have x := bd (m.getD (n / 8) 0) (by rw [getD_lt hm]; exact List.getElem_mem _)
      rw [show ((0 : Nat) : Int) = 0 from rfl, shl_zero, or_zero _ x.1 x.2, set_self]
    rw [e]
    exact evneg (by decide) (Ev.now _)
theorem bit_spec (hi : Bool) (l : List Int) (n b : Nat) (h : Inv l n) (hn : n ≤ 2000000) (hb : b ≤ 1) : Ev (fun k => spec_l1Sink_bit.f k hi l (n : Int) (b : Int)) (hi, stp hi l n b, ((n + 1 : Nat) : Int)) := by
  have el := ext_len h
  have ll := h.len
  have j := j0_spec hi (ext l n) n b hb hn (by omega) (ext_bd h)
  unfold stp
  by_cases c : n % 8 = 0
  · have e : ext l n = l ++ [0] := by unfold ext; rw [if_pos c]
    rw [e] at j ⊢
    exact evpos (by rw [tm8]; omega) (evpos (by omega) j)
  · have e : ext l n = l := by unfold ext; rw [if_neg c]
    rw [e] at j ⊢
    exact evneg (by rw [tm8]; omega) j
theorem val_lt (v i : Nat) (hv : v < 18446744073709551616) : v / 2 ^ i < 18446744073709551616 := Nat.lt_of_le_of_lt (Nat.div_le_self _ _) hv
theorem put_high (l : List Int) (n v m : Nat) (h : Inv l n) (hn : n ≤ 1300000) (hm : m ≤ 64) (hv : v < 18446744073709551616) :
    ∃ l' : List Int, Inv l' (n + m) ∧ Ev (fun k => spec_l1Sink_put.f k true l (n : Int) (m : Int) (v : Int)) (true, l', ((n + m : Nat) : Int)) := by
  have main := down (n := m) (P := fun i => ∀ l : List Int, Inv l (n + i) → ∃ l' : List Int, Inv l' (n + m) ∧ Ev (fun k => spec_l1Sink_put.l0 k (m : Int) (v : Int) (i : Int) true l ((n + i : Nat) : Int)) (true, l', ((n + m : Nat) : Int))) ?_ ?_
  · exact main l h
  · intro l h
    exact ⟨l, h, Ev.step (fun k => rfl) (evneg (by omega) (Ev.now _))⟩
  · intro i hi ih l h
    obtain ⟨j, hj⟩ : ∃ j : Nat, j = m - 1 - i := ⟨_, rfl⟩
    have j64 : j ≤ 64 := by omega
    have b := bit_spec true l (n + i) (v / 2 ^ j % 2) h (by omega) (by omega)
    obtain ⟨l', g1, g2⟩ := ih _ (stp_inv h true (v / 2 ^ j % 2))
    have wj : wrap64 (wrap64 ((m : Int) - 1) - (i : Int)) = (j : Int) := by rw [w64 (n := (m : Int) - 1) (by omega) (by omega), w64 (by omega) (by omega)]; omega
    have ui := uw (j : Int) (Int.natCast_nonneg j) (Int.lt_of_le_of_lt (Int.ofNat_le.2 j64) (by decide))
    have sh := shr_u v j j64
    have an := and1 (v / 2 ^ j) (val_lt v j hv)
    refine ⟨l', g1, ?_⟩
    refine Ev.step (fun k => rfl) ?_
    simp only [spec_l1Sink_put.l0, if_true]
    rw [wj, ui, sh, an]
    refine evpos (Int.ofNat_lt.2 hi) (evpos (Int.natCast_nonneg j) (Ev.bind b ?_))
    rw [w64s (Nat.le_trans (Nat.le_of_lt hi) (Nat.le_trans hm (by decide)))]; exact g2
theorem l4Pack_t (s : List Int) (D : Nat) (hD : D ≤ 16) (hs : ∀ x ∈ s, 0 ≤ x ∧ x ≤ 100000) (hl : s.length ≤ 50000) : ∃ o : List Int, Ev (fun k => spec_l4Pack.f k s (D : Int)) o ∧ Inv o (D * s.length) := by
  have main := down (n := s.length) (P := fun i => ∀ l : List Int, Inv l (D * i) → ∃ o : List Int, Ev (fun k => spec_l4Pack.l0 k (D : Int) s (s.length : Int) (i : Int) true l ((D * i : Nat) : Int)) o ∧ Inv o (D * s.length)) ?_ ?_
  · exact main [] ⟨by simp, fun x hx => by cases hx⟩
  · intro l h
    exact ⟨l, Ev.step (fun k => rfl) (evneg (by omega) (Ev.now _)), h⟩
  · intro i hi ih l h
    have hb := hs _ (List.getElem_mem hi)
    obtain ⟨v, hv⟩ : ∃ v : Nat, s[i] = (v : Int) := ⟨s[i].toNat, by omega⟩
    have hDi : D * i ≤ 16 * 50000 := Nat.mul_le_mul hD (by omega)
    obtain ⟨l', g1, g2⟩ := put_high l (D * i) v D h (by omega) (by omega) (by omega)
    obtain ⟨o, e, ho⟩ := ih l' (by rw [Nat.mul_succ]; exact g1)
    refine ⟨o, Ev.step (fun k => rfl) (evpos (by omega) (evpos (by omega) (evpos (by omega) ?_))), ho⟩
    rw [rd_nat, getD_lt hi, hv, uw (v : Int) (by omega) (by omega), w64s (by omega)]
    rw [Nat.mul_succ] at e
    exact Ev.bind g2 e
def Byt (l : List Int) : Prop := ∀ x ∈ l, 0 ≤ x ∧ x ≤ 255
theorem Byt.of {l : List Int} (h : ∀ x ∈ l, (Lit.int .u8 x).wf = true) : Byt l := fun x hx => by
  have := h x hx
  simp [Lit.wf, IntKind.min, IntKind.max, IntKind.signed, IntKind.bits] at this
  omega
theorem Byt.getD {l : List Int} (h : Byt l) (i : Nat) : 0 ≤ l.getD i 0 ∧ l.getD i 0 ≤ 255 := by
  by_cases hi : i < l.length
  · rw [getD_lt hi]; exact h _ (List.getElem_mem hi)
  · rw [List.getD_eq_getElem?_getD, List.getElem?_eq_none (by omega)]; simp
theorem Byt.rd {l : List Int} (h : Byt l) (i : Int) : 0 ≤ rd l i ∧ rd l i ≤ 255 := h.getD _
/-- what a filter takes off -/
def gs (kind a b c : Int) : Int :=
  if kind = 1 then a else if kind = 2 then b else if kind = 3 then (a + b) / 2 else if kind = 4 then
    (let g := a + b - c
     let x := if g - a < 0 then -(g - a) else g - a
     let y := if g - b < 0 then -(g - b) else g - b
     let z := if g - c < 0 then -(g - c) else g - c
     if x ≤ y ∧ x ≤ z then a else if y ≤ z then b else c) else 0
theorem abs_some (n : Int) (h0 : -100000 ≤ n) (h1 : n ≤ 100000) : spec_l4Abs.f n = some (if n < 0 then -n else n) := by
  unfold spec_l4Abs.f
  split
  · rw [w64 (by omega) (by omega)]
  · rfl
theorem away_some (a b : Int) (h0 : -100000 ≤ a - b) (h1 : a - b ≤ 100000) : impl_away.f a b = some (if a - b < 0 then -(a - b) else a - b) := by
  unfold impl_away.f mx
  rw [w64 (by omega) (by omega), w64 (by omega) (by omega)]
  congr 1
  split <;> split <;> omega
theorem guess_spec (kind a b c : Int) (ha : 0 ≤ a ∧ a ≤ 255) (hb : 0 ≤ b ∧ b ≤ 255) (hc : 0 ≤ c ∧ c ≤ 255) : Ev (fun k => spec_l4Guess.f k kind a b c) (gs kind a b c) := by
  unfold gs
  by_cases h1 : kind = 1
  · rw [if_pos h1]; exact evpos h1 (Ev.now _)
  rw [if_neg h1]; refine evneg h1 ?_
  by_cases h2 : kind = 2
  · rw [if_pos h2]; exact evpos h2 (Ev.now _)
  rw [if_neg h2]; refine evneg h2 ?_
  by_cases h3 : kind = 3
  · rw [if_pos h3]; refine evpos h3 ?_
    rw [w64 (n := a + b) (by omega) (by omega), Int.tdiv_eq_ediv_of_nonneg (by omega), w64 (by omega) (by omega)]
    exact Ev.now _
  rw [if_neg h3]; refine evneg h3 ?_
  by_cases h4 : kind = 4
  · rw [if_pos h4]; refine evpos h4 ?_
    rw [w64 (n := a + b) (by omega) (by omega), w64 (n := a + b - c) (by omega) (by omega), w64 (n := a + b - c - a) (by omega) (by omega), w64 (n := a + b - c - b) (by omega) (by omega), w64 (n := a + b - c - c) (by omega) (by omega)]
    refine evlet (abs_some _ (by omega) (by omega)) (evlet (abs_some _ (by omega) (by omega)) (evlet (abs_some _ (by omega) (by omega)) ?_))
    dsimp only
    generalize (if a + b - c - a < 0 then -(a + b - c - a) else a + b - c - a) = x
    generalize (if a + b - c - b < 0 then -(a + b - c - b) else a + b - c - b) = y
    generalize (if a + b - c - c < 0 then -(a + b - c - c) else a + b - c - c) = z
    by_cases hxy : x ≤ y
    · refine evpos hxy (Ev.step (fun k => rfl) ?_)
      by_cases hxz : x ≤ z
      · rw [if_pos ⟨hxy, hxz⟩]; exact evpos (by simpa using hxz) (Ev.now _)
      · rw [show (if x ≤ y ∧ x ≤ z then a else if y ≤ z then b else c) = (if y ≤ z then b else c) from if_neg (by omega)]; refine evneg (by simpa using hxz) ?_
        exact evval
    · refine evneg hxy (Ev.step (fun k => rfl) ?_)
      rw [show (if x ≤ y ∧ x ≤ z then a else if y ≤ z then b else c) = (if y ≤ z then b else c) from if_neg (by omega)]
      exact evval
  rw [if_neg h4]; exact evneg h4 (Ev.now _)
/-- the byte step ahead of i, 0 where there is none -/
def back (l : List Int) (step : Int) (i : Nat) : Int := if (i : Int) ≥ step then l.getD ((i : Int) - step).toNat 0 else 0
theorem back_byt {l : List Int} (h : Byt l) (step : Int) (i : Nat) : 0 ≤ back l step i ∧ back l step i ≤ 255 := by
  unfold back; split
  · exact h.getD _
  · omega
theorem at_back {l : List Int} (h : Byt l) {step : Int} (hs : 1 ≤ step ∧ step ≤ 8) {i : Nat} (hi : i ≤ 4096) : spec_l4At.f l (wrap64 ((i : Int) - step)) = some (back l step i) := by
  rw [w64 (by omega) (by omega)]
  unfold spec_l4At.f back
  by_cases h0 : (i : Int) - step < 0
  · rw [if_pos h0, if_neg (by omega)]
  · rw [if_neg h0]
    rw [if_pos (by omega : (i : Int) ≥ step)]
    by_cases h1 : (i : Int) - step ≥ (l.length : Int)
    · rw [if_pos h1, List.getD_eq_getElem?_getD, List.getElem?_eq_none (by omega)]; rfl
    · have := h.getD ((i : Int) - step).toNat
      rw [if_neg h1, if_pos (by omega), if_pos (by omega)]; unfold rd; rw [w64 (by omega) (by omega)]
theorem at_here {l : List Int} (h : Byt l) {i : Nat} : spec_l4At.f l (i : Int) = some (l.getD i 0) := by
  unfold spec_l4At.f
  rw [if_neg (by omega)]
  by_cases h1 : (i : Int) ≥ (l.length : Int)
  · rw [if_pos h1, List.getD_eq_getElem?_getD, List.getElem?_eq_none (by omega)]; rfl
  · have := h.getD i
    rw [if_neg h1, if_pos (by omega), if_pos (by omega), rd_nat, w64 (by omega) (by omega)]
theorem gs_byt (kind a b c : Int) (ha : 0 ≤ a ∧ a ≤ 255) (hb : 0 ≤ b ∧ b ≤ 255) (hc : 0 ≤ c ∧ c ≤ 255) : 0 ≤ gs kind a b c ∧ gs kind a b c ≤ 255 := by
  unfold gs
  dsimp only
  repeat' split
  all_goals omega
theorem guess_impl {kind step : Int} {above row : List Int} {i : Nat} (ha : Byt above) (hr : Byt row) (hs : 1 ≤ step ∧ step ≤ 8) (hi : i < row.length) (hl : row.length ≤ 4096) (hab : above.length = 0 ∨ above.length = row.length) :
    Ev (fun k => impl_guess.f k kind step above row (i : Int)) (gs kind (back row step i) (above.getD i 0) (back above step i)) := by
  have j1 : ∀ a b c : Int, 0 ≤ a ∧ a ≤ 255 → 0 ≤ b ∧ b ≤ 255 → 0 ≤ c ∧ c ≤ 255 → Ev (fun k => impl_guess.j1 k kind a b c) (gs kind a b c) := by
    intro a b c ha hb hc
    refine Ev.step (fun k => rfl) ?_
    unfold gs
    by_cases h1 : kind = 1
    · rw [if_pos h1]; refine evpos h1 ?_; rw [Int.emod_eq_of_lt (by omega) (by omega)]; exact Ev.now _
    rw [if_neg h1]; refine evneg h1 ?_
    by_cases h2 : kind = 2
    · rw [if_pos h2]; refine evpos h2 ?_; rw [Int.emod_eq_of_lt (by omega) (by omega)]; exact Ev.now _
    rw [if_neg h2]; refine evneg h2 ?_
    by_cases h3 : kind = 3
    · rw [if_pos h3]; refine evpos h3 ?_
      rw [w64 (n := a + b) (by omega) (by omega), Int.tdiv_eq_ediv_of_nonneg (by omega), w64 (by omega) (by omega), Int.emod_eq_of_lt (by omega) (by omega)]
      exact Ev.now _
    rw [if_neg h3]; refine evneg h3 ?_
    by_cases h4 : kind = 4
    · rw [if_pos h4]; refine evpos h4 ?_
      rw [w64 (n := a + b) (by omega) (by omega), w64 (n := a + b - c) (by omega) (by omega)]
      refine evlet (away_some _ _ (by omega) (by omega)) (evlet (away_some _ _ (by omega) (by omega)) ?_)
      have e1 := away_some (a + b - c) a (by omega) (by omega)
      have e2 := away_some (a + b - c) b (by omega) (by omega)
      have e3 := away_some (a + b - c) c (by omega) (by omega)
      dsimp only
      generalize (if a + b - c - a < 0 then -(a + b - c - a) else a + b - c - a) = x at e1 ⊢
      generalize (if a + b - c - b < 0 then -(a + b - c - b) else a + b - c - b) = y at e2 ⊢
      generalize (if a + b - c - c < 0 then -(a + b - c - c) else a + b - c - c) = z at e3 ⊢
      by_cases hxy : x ≤ y
      · refine evpos hxy (evlet e1 (evlet e3 (Ev.step (fun k => rfl) ?_)))
        by_cases hxz : x ≤ z
        · rw [if_pos ⟨hxy, hxz⟩]; refine evpos (by simpa using hxz) ?_; rw [Int.emod_eq_of_lt (by omega) (by omega)]; exact Ev.now _
        · rw [show (if x ≤ y ∧ x ≤ z then a else if y ≤ z then b else c) = (if y ≤ z then b else c) from if_neg (by omega)]; refine evneg (by simpa using hxz) (evlet e2 (evlet e3 ?_))
          rw [Int.emod_eq_of_lt (a := b) (by omega) (by omega), Int.emod_eq_of_lt (a := c) (by omega) (by omega)]; exact evval
      · rw [show (if x ≤ y ∧ x ≤ z then a else if y ≤ z then b else c) = (if y ≤ z then b else c) from if_neg (by omega)]
        refine evneg hxy (Ev.step (f := fun _ => if y ≤ z then some (b % 256) else some (c % 256)) (fun k => by simp only [impl_guess.j2, e2, e3, Option.bind_some, Bool.false_eq_true, if_false]) ?_)
        rw [Int.emod_eq_of_lt (a := b) (by omega) (by omega), Int.emod_eq_of_lt (a := c) (by omega) (by omega)]; exact evval
    rw [if_neg h4]; exact evneg h4 (Ev.now _)
  have j0 : ∀ a : Int, 0 ≤ a ∧ a ≤ 255 → Ev (fun k => impl_guess.j0 k kind step above (i : Int) a 0 0) (gs kind a (above.getD i 0) (back above step i)) := by
    intro a h0
    have hb := ha.getD i
    refine Ev.step (fun k => rfl) ?_
    rcases hab with h | h
    · refine evneg (by omega) ?_
      have e1 : above.getD i 0 = 0 := by rw [List.getD_eq_getElem?_getD, List.getElem?_eq_none (by omega)]; rfl
      have e2 : back above step i = 0 := by
        unfold back; split
        · rw [List.getD_eq_getElem?_getD, List.getElem?_eq_none (by omega)]; rfl
        · rfl
      rw [e1, e2]; exact j1 a 0 0 h0 (by omega) (by omega)
    · refine evpos (by omega) (evpos (by omega) (evpos (by omega) ?_))
      rw [rd_nat, w64 (n := above.getD i 0) (by omega) (by omega)]
      by_cases hge : (i : Int) ≥ step
      · have hc := ha.getD ((i : Int) - step).toNat
        rw [w64 (n := (i : Int) - step) (by omega) (by omega)]
        refine evpos hge (evpos (by omega) (evpos (by omega) ?_))
        unfold rd back
        rw [if_pos hge, w64 (by omega) (by omega)]
        exact j1 _ _ _ h0 hb hc
      · refine evneg hge ?_
        unfold back
        rw [if_neg hge]
        exact j1 _ _ _ h0 hb (by omega)
  by_cases hge : (i : Int) ≥ step
  · have hc := hr.getD ((i : Int) - step).toNat
    refine evpos hge ?_
    rw [w64 (n := (i : Int) - step) (by omega) (by omega)]
    refine evpos (by omega) (evpos (by omega) ?_)
    unfold rd
    rw [w64 (by omega) (by omega)]
    have := j0 (row.getD ((i : Int) - step).toNat 0) hc
    unfold back at this ⊢
    rw [if_pos hge]; exact this
  · refine evneg hge ?_
    have := j0 0 (by omega)
    unfold back at this ⊢
    rw [if_neg hge (c := (i : Int) ≥ step)]; exact this

theorem rowOk (kind step : Int) (above row : List Int) : (spec_l4FilterOk.f kind step above row = some true ∧ impl_goodRow.f kind step above row = some true ∧ 0 ≤ kind ∧ kind ≤ 4 ∧ 1 ≤ step ∧ step ≤ 8 ∧ row.length ≤ 4096 ∧ (above.length = 0 ∨ above.length = row.length)) ∨
    (spec_l4FilterOk.f kind step above row = some false ∧ impl_goodRow.f kind step above row = some false ∧ ¬ (0 ≤ kind ∧ kind ≤ 4 ∧ 1 ≤ step ∧ step ≤ 8 ∧ row.length ≤ 4096 ∧ (above.length = 0 ∨ above.length = row.length))) := by
  unfold spec_l4FilterOk.f impl_goodRow.f
  by_cases h : 0 ≤ kind ∧ kind ≤ 4 ∧ 1 ≤ step ∧ step ≤ 8 ∧ row.length ≤ 4096 ∧ (above.length = 0 ∨ above.length = row.length)
  · left
    obtain ⟨h1, h2, h3, h4, h5, h6⟩ := h
    have e : (if (above.length : Int) = 0 then some true else some ((above.length : Int) == (row.length : Int))) = some true := by
      split
      · rfl
      · rw [show above.length = row.length by omega]; simp
    rw [if_pos h1, if_pos h2, if_pos h3, if_pos h4, if_pos (by omega), e]
    exact ⟨rfl, rfl, h1, h2, h3, h4, h5, h6⟩
  · right
    have e : (if kind ≥ 0 then (if kind ≤ 4 then (if step ≥ 1 then (if step ≤ 8 then (if (row.length : Int) ≤ 4096 then (if (above.length : Int) = 0 then (some true) else (some ((above.length : Int) == (row.length : Int)))) else (some false)) else (some false)) else (some false)) else (some false)) else (some false)) = some false := by
      repeat' split
      all_goals first | rfl | (exfalso; omega) | (congr 1; rw [beq_eq_false_iff_ne]; omega)
    exact ⟨e, e, h⟩
/-- What is taken off at place i. -/
def tk (kind step : Int) (above row : List Int) (i : Nat) : Int := gs kind (back row step i) (above.getD i 0) (back above step i)
theorem tk_byt {above row : List Int} (ha : Byt above) (hr : Byt row) (kind step : Int) (i : Nat) : 0 ≤ tk kind step above row i ∧ tk kind step above row i ≤ 255 := gs_byt _ _ _ _ (back_byt hr _ _) (ha.getD i) (back_byt ha _ _)
def flt (kind step : Int) (above row : List Int) : List Int := (List.range row.length).map fun i => (row.getD i 0 - tk kind step above row i) % 256
theorem flt_len (kind step : Int) (above row : List Int) : (flt kind step above row).length = row.length := by simp [flt]
theorem flt_byt (kind step : Int) (above row : List Int) : Byt (flt kind step above row) := by
  intro x hx
  obtain ⟨i, _, rfl⟩ := List.mem_map.1 hx
  omega
theorem filter_both (kind step : Int) (above row : List Int) (ha : Byt above) (hr : Byt row) (hk : 0 ≤ kind ∧ kind ≤ 4 ∧ 1 ≤ step ∧ step ≤ 8 ∧ row.length ≤ 4096 ∧ (above.length = 0 ∨ above.length = row.length)) :
    Ev (fun k => spec_FilterRow.f k kind step above row) (flt kind step above row) ∧ Ev (fun k => impl_FilterRow.f k kind step above row) (flt kind step above row) := by
  obtain ⟨k0, k1, s0, s1, hl, hab⟩ := hk
  have ok : spec_l4FilterOk.f kind step above row = some true ∧ impl_goodRow.f kind step above row = some true := by
    rcases rowOk kind step above row with h | h
    · exact ⟨h.1, h.2.1⟩
    · exact absurd ⟨k0, k1, s0, s1, hl, hab⟩ h.2.2
  have main := down (n := row.length) (P := fun i => Ev (fun k => spec_FilterRow.l0 k kind step above row (fl 0 row.length (fun i => (row.getD i 0 - tk kind step above row i) % 256) i) (row.length : Int) (i : Int)) (flt kind step above row) ∧ Ev (fun k => impl_FilterRow.l0 k kind step above row (fl 0 row.length (fun i => (row.getD i 0 - tk kind step above row i) % 256) i) row (row.length : Int) (i : Int)) (flt kind step above row)) ?_ ?_
  · rw [fl_zero] at main
    refine ⟨evlet ok.1 (evpos rfl (evpos (by omega) (evpos (by omega) ?_))), evlet ok.2 (evpos rfl (evpos (by omega) (evpos (by omega) ?_)))⟩
    · exact main.1
    · exact main.2
  · rw [fl_all]
    exact ⟨Ev.step (fun k => rfl) (evneg (by omega) (Ev.now _)), Ev.step (fun k => rfl) (evneg (by omega) (Ev.now _))⟩
  · intro i hi ih
    have hg := tk_byt ha hr kind step i
    rw [← fl_set] at ih
    refine ⟨?_, ?_⟩
    · refine Ev.step (fun k => rfl) (evpos (by omega) (evpos (by omega) (evpos (by omega) ?_)))
      refine evlet (at_back hr ⟨s0, s1⟩ (by omega)) (evlet (at_here ha) (evlet (at_back ha ⟨s0, s1⟩ (by omega)) ?_))
      refine Ev.bind (guess_spec kind _ _ _ (back_byt hr _ _) (ha.getD i) (back_byt ha _ _)) (evpos (by rw [fl_len]; omega) ?_)
      rw [w64s (by omega), Int.toNat_natCast, rd_nat, Int.emod_eq_of_lt (a := gs kind (back row step i) (above.getD i 0) (back above step i)) (b := 256) hg.1 (by have := hg.2; unfold tk at this; omega)]
      exact ih.1
    · refine Ev.step (fun k => rfl) (evpos (by omega) (evpos (by omega) (evpos (by omega) ?_)))
      refine Ev.bind (guess_impl ha hr ⟨s0, s1⟩ hi hl hab) (evpos (by rw [fl_len]; omega) ?_)
      rw [w64s (by omega), Int.toNat_natCast, rd_nat]
      exact ih.2
theorem fl_byt {row : List Int} (hr : Byt row) (n i : Nat) : Byt (fl 0 n (fun j => row.getD j 0) i) := by
  intro x hx
  unfold fl at hx
  obtain ⟨j, _, rfl⟩ := List.mem_map.1 hx
  by_cases c : j < i
  · rw [if_pos c]; exact hr.getD j
  · rw [if_neg c]; omega
theorem fl_getD {α : Type} (z : α) (n : Nat) (f : Nat → α) (i j : Nat) (hj : j < n) : (fl z n f i).getD j z = if j < i then f j else z := by
  unfold fl; rw [range_getD _ _ _ _ hj]
theorem back_fl {row : List Int} {step : Int} (hs : 1 ≤ step) (i : Nat) (hi : i < row.length) : back (fl 0 row.length (fun j => row.getD j 0) i) step i = back row step i := by
  unfold back
  by_cases c : (i : Int) ≥ step
  · rw [if_pos c, if_pos c, fl_getD _ _ _ _ _ (by omega), if_pos (by omega)]
  · rw [if_neg c, if_neg c]
theorem unfilter_t (kind step : Int) (above row : List Int) (ha : Byt above) (hr : Byt row) (hk : 0 ≤ kind ∧ kind ≤ 4 ∧ 1 ≤ step ∧ step ≤ 8 ∧ row.length ≤ 4096 ∧ (above.length = 0 ∨ above.length = row.length)) :
    Ev (fun k => impl_UnfilterRow.f k kind step above (flt kind step above row)) row := by
  obtain ⟨k0, k1, s0, s1, hl, hab⟩ := hk
  have ln := flt_len kind step above row
  have ok : impl_goodRow.f kind step above (flt kind step above row) = some true := by
    rcases rowOk kind step above (flt kind step above row) with h | h
    · exact h.2.1
    · exact absurd ⟨k0, k1, s0, s1, by omega, by omega⟩ h.2.2
  have main := down (n := row.length) (P := fun i => Ev (fun k => impl_UnfilterRow.l0 k kind step above (fl 0 row.length (fun j => row.getD j 0) i) (flt kind step above row) (row.length : Int) (i : Int)) row) ?_ ?_
  · rw [fl_zero] at main
    refine evlet ok (evpos rfl (evpos (by omega) (evpos (by omega) ?_)))
    rw [ln]
    exact main
  · rw [fl_all]
    have e := map_range_get row 0 id
    simp only [id_eq, List.map_id_fun] at e
    rw [e]
    exact Ev.step (fun k => rfl) (evneg (by omega) (Ev.now _))
  · intro i hi ih
    have hg := tk_byt ha hr kind step i
    have hx := hr.getD i
    rw [← fl_set] at ih
    have gi := guess_impl (kind := kind) (step := step) (above := above) (row := fl 0 row.length (fun j => row.getD j 0) i) (i := i) ha (fl_byt hr _ _) ⟨s0, s1⟩ (by rw [fl_len]; exact hi) (by rw [fl_len]; exact hl) (by rw [fl_len]; exact hab)
    rw [back_fl s0 i hi] at gi
    refine Ev.step (fun k => rfl) (evpos (by omega) (evpos (by omega) (evpos (by omega) ?_)))
    refine Ev.bind gi (evpos (by rw [fl_len]; omega) ?_)
    rw [w64s (by omega), Int.toNat_natCast, rd_nat]
    have e : ((flt kind step above row).getD i 0 + gs kind (back row step i) (above.getD i 0) (back above step i)) % 256 = row.getD i 0 := by
      unfold flt
      rw [range_getD _ _ _ _ hi]
      unfold tk at hg ⊢
      omega
    rw [e]
    exact ih
theorem best_both (step : Int) (above row : List Int) (ha : Byt above) (hr : Byt row) :
    ∃ r, Ev (fun k => spec_BestKind.f k step above row) r ∧ Ev (fun k => impl_BestKind.f k step above row) r ∧ ((r = -1 ∧ impl_goodRow.f 0 step above row = some false) ∨ (0 ≤ r ∧ 1 ≤ step ∧ step ≤ 8 ∧ row.length ≤ 4096 ∧ (above.length = 0 ∨ above.length = row.length))) := by
  rcases rowOk 0 step above row with ⟨o1, o2, h⟩ | ⟨o1, o2, _⟩
  case inr => exact ⟨-1, evlet o1 (evneg (by simp) (Ev.now _)), evlet o2 (evneg (by simp) (Ev.now _)), .inl ⟨rfl, o2⟩⟩
  have main := down (n := 5) (P := fun i => ∀ x7 x8 : Int, 0 ≤ x7 → ∃ r, Ev (fun k => spec_BestKind.l0 k step above row x7 x8 (i : Int)) r ∧ Ev (fun k => impl_BestKind.l0 k step above row x7 x8 (i : Int)) r ∧ 0 ≤ r) ?_ ?_
  · obtain ⟨r, h1, h2, h3⟩ := main 0 (-1) (by omega)
    exact ⟨r, evlet o1 (evpos rfl h1), evlet o2 (evpos rfl h2), .inr ⟨h3, h.2.2⟩⟩
  · intro x7 x8 h7
    exact ⟨x7, Ev.step (f := fun _ => some x7) (fun k => by simp only [spec_BestKind.l0]; rw [if_neg (by omega)]) (Ev.now _), Ev.step (f := fun _ => some x7) (fun k => by simp only [impl_BestKind.l0]; rw [if_neg (by omega)]) (Ev.now _), h7⟩
  · intro i hi ih x7 x8 h7
    obtain ⟨f1, f2⟩ := filter_both (i : Int) step above row ha hr ⟨by omega, by omega, h.2.2⟩
    have fb := flt_byt (i : Int) step above row
    have fl := flt_len (i : Int) step above row
    generalize flt (i : Int) step above row = f at f1 f2 fb fl
    have inner := down (n := f.length) (P := fun j => ∀ x10 : Int, ∃ r, Ev (fun k => spec_BestKind.l1 k step above row x7 x8 (i : Int) x10 f (f.length : Int) (j : Int)) r ∧ Ev (fun k => impl_BestKind.l1 k step above row x7 x8 (i : Int) x10 (i : Int) f (f.length : Int) (j : Int)) r ∧ 0 ≤ r) ?_ ?_
    · obtain ⟨r, h1, h2, h3⟩ := inner 0
      exact ⟨r, Ev.step (fun k => rfl) (evpos (by omega) (Ev.bind f1 h1)), Ev.step (fun k => rfl) (evpos (by omega) (Ev.bind f2 h2)), h3⟩
    · intro x10
      by_cases c : x8 < 0
      · obtain ⟨r, h1, h2, h3⟩ := ih (i : Int) x10 (by omega)
        exact ⟨r, Ev.step (fun k => rfl) (evneg (by omega) (evpos c (by rw [w64s (by omega)]; exact h1))), Ev.step (fun k => rfl) (evneg (by omega) (evpos c (by rw [w64s (by omega)]; exact h2))), h3⟩
      by_cases c2 : x10 < x8
      · obtain ⟨r, h1, h2, h3⟩ := ih (i : Int) x10 (by omega)
        exact ⟨r, Ev.step (fun k => rfl) (evneg (by omega) (evneg c (evpos c2 (by rw [w64s (by omega)]; exact h1)))), Ev.step (fun k => rfl) (evneg (by omega) (evneg c (evpos c2 (by rw [w64s (by omega)]; exact h2)))), h3⟩
      · obtain ⟨r, h1, h2, h3⟩ := ih x7 x8 h7
        exact ⟨r, Ev.step (fun k => rfl) (evneg (by omega) (evneg c (evneg c2 (by rw [w64s (by omega)]; exact h1)))), Ev.step (fun k => rfl) (evneg (by omega) (evneg c (evneg c2 (by rw [w64s (by omega)]; exact h2)))), h3⟩
    · intro j hj ihj x10
      have hb := fb.rd (j : Int)
      obtain ⟨r, h1, h2, h3⟩ := ihj (wrap64 (x10 + (if rd f (j : Int) > 127 then 256 - rd f (j : Int) else rd f (j : Int))))
      refine ⟨r, Ev.step (fun k => rfl) (evpos (by omega) (evpos (by omega) (evpos (by omega) ?_))), Ev.step (fun k => rfl) (evpos (by omega) (evpos (by omega) (evpos (by omega) ?_))), h3⟩
      · by_cases c : rd f (j : Int) > 127
        · refine evpos c ?_
          rw [if_pos c] at h1
          rw [w64s (by omega), w64 (n := rd f (j : Int)) (by omega) (by omega), w64 (n := 256 - rd f (j : Int)) (by omega) (by omega)]
          exact h1
        · refine evneg c ?_
          rw [if_neg c] at h1
          rw [w64s (by omega), w64 (n := rd f (j : Int)) (by omega) (by omega)]
          exact h1
      · rw [w64s (by omega), w64 (n := rd f (j : Int)) (by omega) (by omega), w64 (n := 256 - rd f (j : Int)) (by omega) (by omega)]
        have e : mn (rd f (j : Int)) (256 - rd f (j : Int)) = (if rd f (j : Int) > 127 then 256 - rd f (j : Int) else rd f (j : Int)) := by
          unfold mn; split <;> split <;> omega
        rw [e]; exact h2
theorem wBytes_same (l : List Int) (hl : l.length ≤ 4611686018427387904) : Ev (fun k => laws_wBytes.f k l l) true := by
  refine evpos rfl ?_
  refine down (n := l.length) (P := fun i => Ev (fun k => laws_wBytes.l0 k l l (l.length : Int) (i : Int)) true) ?_ ?_
  · exact Ev.step (fun k => rfl) (evneg (by omega) (Ev.now _))
  · intro i hi h
    refine Ev.step (fun k => rfl) (evpos (by omega) (evpos (by omega) (evpos (by omega) (evpos (by omega) (evpos rfl ?_)))))
    rw [w64s (by omega)]; exact h
theorem shl8 : shl .i64 1 (IntKind.u64.wrap 8) = 256 := by decide
/-- What l4Rows draws: two rows of bytes, and the cursor. -/
theorem rows_j2 {l : List Int} (hl : ByteL l) (st : Int) (row above : List Int) (ha : Byt above) (hn : above.length ≤ 5000) (a s : Int) (h0 : 0 ≤ a) (h1 : a ≤ 100000000) :
    ∃ (st' : Int) (above' : List Int) (a' s' : Int), Ev (fun k => spec_l4Rows.j2 k st row above l a s) (st', above', row, l, a', s') ∧ Byt above' ∧ 0 ≤ a' ∧ a' ≤ 100000100 := by
  obtain ⟨r1, a1, s1, e1, _, _, p1, q1⟩ := pick_t hl a s 14 (by omega) h0 (by omega)
  by_cases c : r1 = 0
  · obtain ⟨r2, a2, s2, e2, _, _, p2, q2⟩ := pick_t hl a1 s1 11 (by omega) (by omega) (by omega)
    exact ⟨_, above, a2, s2, Ev.step (fun k => rfl) (evlet e1 (evpos c (evlet e2 (Ev.now _)))), ha, by omega, by omega⟩
  by_cases c2 : r1 = 1
  · refine ⟨st, above ++ [1], a1, s1, Ev.step (fun k => rfl) (evlet e1 (evneg c (evpos c2 (evpos (by omega) (Ev.now _))))), ?_, by omega, by omega⟩
    intro x hx
    rcases List.mem_append.1 hx with hx | hx
    · exact ha x hx
    · obtain rfl := List.mem_singleton.1 hx; omega
  · exact ⟨st, above, a1, s1, Ev.step (fun k => rfl) (evlet e1 (evneg c (evneg c2 (Ev.now _)))), ha, by omega, by omega⟩
theorem rows_j0 {l : List Int} (hl : ByteL l) (st : Int) (row : List Int) (n : Nat) (hn : n ≤ 24) (hlen : row.length = n) (a s : Int) (h0 : 0 ≤ a) (h1 : a ≤ 1000000) :
    ∃ (st' : Int) (above' : List Int) (a' s' : Int), Ev (fun k => spec_l4Rows.j0 k st (n : Int) row l a s) (st', above', row, l, a', s') ∧ Byt above' ∧ 0 ≤ a' ∧ a' ≤ 100000100 := by
  obtain ⟨b1, a1, s1, e1, p1, q1⟩ := one_t hl a s 4 (by omega) h0 (by omega)
  cases b1 with
  | true =>
    obtain ⟨st', ab, a', s', e, h⟩ := rows_j2 hl st row [] (fun x hx => by cases hx) (by simp) a1 s1 (by omega) (by omega)
    exact ⟨st', ab, a', s', Ev.step (fun k => rfl) (evlet e1 e), h⟩
  | false =>
    obtain ⟨o, s2, e2, ol, ob⟩ := bytes_t hl a1 s1 n (by omega) (by omega) (by omega)
    obtain ⟨b3, a3, s3, e3, p3, q3⟩ := one_t hl (a1 + n) s2 2 (by omega) (by omega) (by omega)
    cases b3 with
    | false =>
      obtain ⟨st', ab, a', s', e, h⟩ := rows_j2 hl st row o ob (by omega) a3 s3 (by omega) (by omega)
      exact ⟨st', ab, a', s', Ev.step (fun k => rfl) (evlet e1 (evneg Bool.false_ne_true (Ev.bind e2 (evlet e3 e)))), h⟩
    | true =>
      have main := down (n := n) (P := fun i => ∀ (o : List Int) (a s : Int), o.length = n → Byt o → 0 ≤ a → a ≤ 2000000 + 3 * i → ∃ (st' : Int) (above' : List Int) (a' s' : Int), Ev (fun k => spec_l4Rows.l0 k st row o (n : Int) (i : Int) l a s) (st', above', row, l, a', s') ∧ Byt above' ∧ 0 ≤ a' ∧ a' ≤ 100000100) ?_ ?_
      · obtain ⟨st', ab, a', s', e, h⟩ := main o a3 s3 ol ob (by omega) (by omega)
        refine ⟨st', ab, a', s', Ev.step (fun k => rfl) (evlet e1 (evneg Bool.false_ne_true (Ev.bind e2 (evlet e3 (evpos rfl ?_))))), h⟩
        simp only [ol]
        exact e
      · intro o a s ol ob h0 h1
        obtain ⟨st', ab, a', s', e, h⟩ := rows_j2 hl st row o ob (by omega) a s h0 (by omega)
        exact ⟨st', ab, a', s', Ev.step (fun k => rfl) (evneg (by omega) e), h⟩
      · intro i hi ih o a s ol ob h0 h1
        obtain ⟨r, a1, s1, e1, r0, r1, p1, q1⟩ := pick_t hl a s 5 (by omega) h0 (by omega)
        obtain ⟨st', ab, a', s', e, h⟩ := ih (o.set i ((rd row (i : Int) + r % 256) % 256)) a1 s1 (by simpa using ol) (by
          intro x hx
          rcases List.mem_or_eq_of_mem_set hx with h | h
          · exact ob x h
          · subst h; omega) (by omega) (by omega)
        refine ⟨st', ab, a', s', Ev.step (fun k => rfl) (evpos (by omega) (evpos (by omega) (evpos (by omega) (evlet e1 (evpos (by omega) ?_))))), h⟩
        rw [w64s (by omega), Int.toNat_natCast]
        exact e
theorem rows_t {l : List Int} (hl : ByteL l) : ∃ (st : Int) (above row : List Int) (a s : Int), Ev (fun k => spec_l4Rows.f k l) (st, above, row, l, a, s) ∧ Byt above ∧ Byt row ∧ 0 ≤ a ∧ a ≤ 100000100 := by
  obtain ⟨r1, a1, s1, e1, _, _, p1, q1⟩ := pick_t hl 0 0 4 (by omega) (by omega) (by omega)
  obtain ⟨r2, a2, s2, e2, x2, y2, p2, q2⟩ := pick_t hl a1 s1 24 (by omega) (by omega) (by omega)
  obtain ⟨n, rfl⟩ : ∃ n : Nat, r2 = (n : Int) := ⟨r2.toNat, by omega⟩
  obtain ⟨o, s3, e3, ol, ob⟩ := bytes_t hl a2 s2 n (by omega) (by omega) (by omega)
  obtain ⟨b4, a4, s4, e4, p4, q4⟩ := one_t hl (a2 + n) s3 2 (by omega) (by omega) (by omega)
  cases b4 with
  | false =>
    obtain ⟨st, ab, a', s', e, h1, h2, h3⟩ := rows_j0 hl (wrap64 (1 + r1)) o n (by omega) ol a4 s4 (by omega) (by omega)
    exact ⟨st, ab, o, a', s', evlet e1 (evlet e2 (Ev.bind e3 (evlet e4 (evneg Bool.false_ne_true e)))), h1, ob, h2, h3⟩
  | true =>
    obtain ⟨o5, a5, s5, e5, l5, b5, p5, q5⟩ := samples_t hl a4 s4 8 256 n 1 1 shl8 (by decide) (by omega) (by omega) (by omega) (by omega) (by omega) (by omega)
    have l5' : o5.length = n := by rw [l5]; omega
    obtain ⟨o6, e6, i6⟩ := l4Pack_t o5 8 (by omega) (fun x hx => by have := b5 x hx; omega) (by omega)
    have l6 : o6.length = n := by have := i6.len; omega
    obtain ⟨st, ab, a', s', e, h1, h2, h3⟩ := rows_j0 hl (wrap64 (1 + r1)) o6 n (by omega) l6 a5 s5 (by omega) (by omega)
    exact ⟨st, ab, o6, a', s', evlet e1 (evlet e2 (Ev.bind e3 (evlet e4 (evpos rfl (Ev.bind e5 (Ev.bind e6 e)))))), h1, i6.bd, h2, h3⟩
theorem draw_t {l : List Int} (hl : ByteL l) : ∃ (kd st : Int) (above row : List Int), Ev (fun k => spec_DrawFilterRow.f k l) (kd, st, above, row) ∧ Byt above ∧ Byt row := by
  obtain ⟨st, ab, row, a, s, e, h1, h2, h3, h4⟩ := rows_t hl
  obtain ⟨r1, a1, s1, e1, _, _, p1, q1⟩ := pick_t hl a s 5 (by omega) h3 (by omega)
  obtain ⟨b2, a2, s2, e2, p2, q2⟩ := one_t hl a1 s1 12 (by omega) (by omega) (by omega)
  cases b2 with
  | false => exact ⟨_, st, ab, row, Ev.bind e (evlet e1 (evlet e2 (evneg Bool.false_ne_true (Ev.now _)))), h1, h2⟩
  | true =>
    obtain ⟨r3, a3, s3, e3, _, _, p3, q3⟩ := pick_t hl a2 s2 8 (by omega) (by omega) (by omega)
    exact ⟨_, st, ab, row, Ev.bind e (evlet e1 (evlet e2 (evpos rfl (evlet e3 (Ev.now _))))), h1, h2⟩
theorem FnFilters : laws_FnFilters.Pure := by
  intro l _ _ hb
  refine Ev.rounds ?_
  by_cases c : (l.length : Int) > 1048576
  · exact evpos c (Ev.now _)
  have hl := bytel hb c
  obtain ⟨kd, st, ab, row, e, ha, hr⟩ := draw_t hl
  obtain ⟨r, b1, b2, h⟩ := best_both st ab row ha hr
  refine evneg c (Ev.bind e (Ev.bind b2 (Ev.bind b1 (evpos rfl ?_))))
  rcases h with ⟨rfl, o⟩ | ⟨r0, ok⟩
  · exact evpos (by decide) (Ev.bind (a := []) (evlet o (evneg (by decide) (Ev.now _))) (Ev.now _))
  · refine evneg (by omega) ?_
    have main := down (n := 5) (P := fun i => Ev (fun k => laws_FnFilters.l0 k st ab row (i : Int)) true) ?_ ?_
    · exact main
    · exact Ev.step (f := fun _ => some true) (fun k => by simp only [laws_FnFilters.l0]; rw [if_neg (by omega)]) (Ev.now _)
    · intro i hi ih
      have hk : 0 ≤ (i : Int) ∧ (i : Int) ≤ 4 ∧ 1 ≤ st ∧ st ≤ 8 ∧ row.length ≤ 4096 ∧ (ab.length = 0 ∨ ab.length = row.length) := ⟨by omega, by omega, ok⟩
      obtain ⟨f1, f2⟩ := filter_both (i : Int) st ab row ha hr hk
      have u := unfilter_t (i : Int) st ab row ha hr hk
      have w1 := wBytes_same (flt (i : Int) st ab row) (by rw [flt_len]; omega)
      have w2 := wBytes_same row (by omega)
      refine Ev.step (fun k => rfl) (evpos (by omega) (Ev.bind f2 (Ev.bind f1 (Ev.bind w1 (evpos rfl (Ev.bind u (Ev.bind w2 (evpos rfl ?_))))))))
      rw [w64s (by omega)]
      exact ih
end Go.Proofs.Ytidblealnaicpaa.Pure

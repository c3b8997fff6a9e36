/- FnPlan: for every two lists of bytes (each at most 1048576 long, else the law is true at once), the plan of the list drawn from the first costs what PlanCost says, as the reference has it, and none of eight plans drawn from the second costs less. -/
import Derived.Test.YtidblealnaicpaaPFnPlanx0
import Derived.Test.YtidblealnaicpaaPFnPlanx1
import Derived.Test.YtidblealnaicpaaPFnPlanx2
import Derived.Test.YtidblealnaicpaaPFnPlanx3
import Derived.Test.YtidblealnaicpaaPFnPlanx4
import Derived.Test.YtidblealnaicpaaPFnPlanx5
import Derived.Test.YtidblealnaicpaaPFnPlanx6
import Derived.Test.YtidblealnaicpaaPFnPlanx7
import Derived.Test.YtidblealnaicpaaPFnPlanx8
import Derived.Test.YtidblealnaicpaaK
import Derived.Laws.Bits64b
namespace Go.Proofs.Ytidblealnaicpaa.Pure
open Go.RowKit Go.Proofs.Ytidblealnaicpaa.PFnPlan Go.Proofs.Ytidblealnaicpaa.K Go.Proofs.YtidblealnaicpaaW.PrintWords Go.Proofs.YtidblealnaicpaaW.PrintLast Go.Proofs.YtidblealnaicpaaW.PrintMore

/-- The bytes that a cursor reads. -/
structure ByteL (l : List Int) : Prop where
  len : l.length ≤ 1048576
  bd : ∀ x ∈ l, 0 ≤ x ∧ x ≤ 255
theorem bytel {l : List Int} (h : ∀ x ∈ l, (Lit.int .u8 x).wf = true) (hl : ¬ (l.length : Int) > 1048576) : ByteL l := ⟨by omega, fun x hx => wfb (h x hx)⟩
theorem rd_byte {l : List Int} (h : ByteL l) {i : Int} (h0 : 0 ≤ i) (h1 : i < l.length) : 0 ≤ rd l i ∧ rd l i ≤ 255 := by
  obtain ⟨j, rfl⟩ : ∃ j : Nat, i = (j : Int) := ⟨i.toNat, by omega⟩
  rw [rd_nat, getD_lt (show j < l.length by omega)]
  exact h.bd _ (List.getElem_mem _)
theorem and255 (x : Int) : 0 ≤ Go.bits .and .u64 x 255 ∧ Go.bits .and .u64 x 255 ≤ 255 := by
  have e : Go.bits .and .u64 x 255 = IntKind.u64.wrap ((BitVec.ofInt 64 x &&& BitVec.ofInt 64 255).toNat : Int) := rfl
  have h : (BitVec.ofInt 64 x &&& BitVec.ofInt 64 255).toNat ≤ 255 := by
    rw [BitVec.toNat_and]; exact Nat.and_le_right
  rw [e, IntKind.wrap_u64]
  omega
theorem w255 {x : Int} (h : 0 ≤ x ∧ x ≤ 255) : wrap64 x = x := w64 (by omega) (by omega)
theorem next_t {l : List Int} (hl : ByteL l) (a s : Int) (h0 : 0 ≤ a) (h1 : a ≤ 2000000000000) : ∃ v s', spec_l1Cur_next.f l a s = some (v, a + 1, s') ∧ 0 ≤ v ∧ v ≤ 255 := by
  unfold spec_l1Cur_next.f
  rw [show wrap64 (a + 1) = a + 1 from w64 (by omega) (by omega)]
  by_cases c : a < (l.length : Int)
  · rw [if_pos c, if_pos h0, if_pos (by omega)]
    have := rd_byte hl h0 c
    exact ⟨_, _, rfl, by rw [w255 this]; exact this.1, by rw [w255 this]; exact this.2⟩
  · rw [if_neg c, if_neg (by omega)]
    refine ⟨_, _, rfl, ?_, ?_⟩
    · rw [w255 (and255 _)]; exact (and255 _).1
    · rw [w255 (and255 _)]; exact (and255 _).2
theorem pick_t {l : List Int} (hl : ByteL l) (a s n : Int) (hn : 1 ≤ n) (h0 : 0 ≤ a) (h1 : a ≤ 1000000000000) : ∃ r a' s', spec_l1Cur_pick.f l a s n = some (r, a', s') ∧ 0 ≤ r ∧ r < n ∧ a ≤ a' ∧ a' ≤ a + 3 := by
  unfold spec_l1Cur_pick.f
  by_cases c : n ≤ 1
  · rw [if_pos c]
    exact ⟨0, a, s, rfl, by omega, by omega, by omega, by omega⟩
  rw [if_neg c]
  have nz : ¬ n = 0 := by omega
  obtain ⟨v, s1, e1, v0, v1⟩ := next_t hl a s h0 (by omega)
  rw [e1, Option.bind_some]
  have fin : ∀ x : Int, 0 ≤ x → 0 ≤ Int.tmod x n ∧ Int.tmod x n < n := fun x hx => ⟨Int.tmod_nonneg _ hx, Int.tmod_lt_of_pos _ (by omega)⟩
  by_cases c2 : n > 200
  · rw [if_pos c2]
    obtain ⟨u, s2, e2, u0, u1⟩ := next_t hl (a + 1) s1 (by omega) (by omega)
    simp only [e2, Option.bind_some]
    rw [w64 (n := v * 256) (by omega) (by omega), w64 (n := v * 256 + u) (by omega) (by omega)]
    by_cases c3 : n > 50000
    · rw [if_pos c3]
      obtain ⟨t, s3, e3, t0, t1⟩ := next_t hl (a + 1 + 1) s2 (by omega) (by omega)
      simp only [e3, Option.bind_some]
      rw [if_neg nz, w64 (n := (v * 256 + u) * 256) (by omega) (by omega), w64 (n := (v * 256 + u) * 256 + t) (by omega) (by omega)]
      exact ⟨_, _, _, rfl, (fin _ (by omega)).1, (fin _ (by omega)).2, by omega, by omega⟩
    · rw [if_neg c3, if_neg nz]
      exact ⟨_, _, _, rfl, (fin _ (by omega)).1, (fin _ (by omega)).2, by omega, by omega⟩
  · rw [if_neg c2, if_neg (by omega), if_neg nz]
    exact ⟨_, a + 1, s1, rfl, (fin _ (by omega)).1, (fin _ (by omega)).2, by omega, by omega⟩
theorem one_t {l : List Int} (hl : ByteL l) (a s n : Int) (hn : 1 ≤ n) (h0 : 0 ≤ a) (h1 : a ≤ 1000000000000) : ∃ (b : Bool) (a' s' : Int), spec_l1Cur_one.f l a s n = some (b, a', s') ∧ a ≤ a' ∧ a' ≤ a + 3 := by
  obtain ⟨r, a', s', e, _, _, h2, h3⟩ := pick_t hl a s n hn h0 h1
  unfold spec_l1Cur_one.f
  rw [e]
  exact ⟨_, _, _, rfl, h2, h3⟩
theorem pow25 : 2 ^ 25 = 33554432 := by decide
theorem pow26 {m : Nat} (hm : m ≤ 25) : 1 ≤ 2 ^ m ∧ 2 ^ m ≤ 33554432 := by
  have h : 2 ^ m ≤ 2 ^ 25 := Nat.pow_le_pow_right (by decide) hm
  rw [pow25] at h
  exact ⟨Nat.one_le_two_pow, h⟩
theorem shl_m (m : Nat) (hm : m ≤ 25) : shl .i64 1 (IntKind.u64.wrap (wrap64 (((m + 1 : Nat) : Int) - 1))) = ((2 ^ m : Nat) : Int) ∧ 0 ≤ IntKind.u64.wrap (wrap64 (((m + 1 : Nat) : Int) - 1)) := by
  have e1 : wrap64 (((m + 1 : Nat) : Int) - 1) = (m : Int) := by rw [w64 (by omega) (by omega)]; omega
  have e2 : IntKind.u64.wrap (m : Int) = (m : Int) := by rw [IntKind.wrap_u64]; omega
  have p := pow26 hm
  have m64 : m ≤ 64 := by omega
  rw [e1, e2]
  refine ⟨?_, Int.natCast_nonneg m⟩
  unfold shl
  rw [Int.toNat_natCast, Nat.min_eq_left (show m ≤ IntKind.i64.bits from m64), Int.one_mul, show (2 : Int) ^ m = ((2 ^ m : Nat) : Int) by push_cast; rfl, i64_w]
  generalize 2 ^ m = t at *
  exact w64 (by omega) (by omega)
theorem tone_loop {l : List Int} (hl : ByteL l) (top kd : Int) (ht0 : 1 ≤ top) (ht1 : top ≤ 33554432) (n : Nat) (hn : n ≤ 10000) :
    ∀ (o : List Int) (v st a s : Int), o.length = n → 0 ≤ a → a ≤ 100000000 → ∃ (o' : List Int) (a' s' : Int), Ev (fun k => spec_l1Cur_tone.l0 k top kd o v st (n : Int) ((0 : Nat) : Int) l a s) (o', a', s') ∧ o'.length = n ∧ a ≤ a' ∧ a' ≤ a + 3 * n := by
  have main := down (n := n) (P := fun i => ∀ (o : List Int) (v st a s : Int), o.length = n → 0 ≤ a → a ≤ 100000000 + 3 * i → ∃ (o' : List Int) (a' s' : Int), Ev (fun k => spec_l1Cur_tone.l0 k top kd o v st (n : Int) (i : Int) l a s) (o', a', s') ∧ o'.length = n ∧ a ≤ a' ∧ a' ≤ a + 3 * (n - i : Int)) ?_ ?_
  · intro o v st a s ho h0 h1
    obtain ⟨o', a', s', e, h2, h3, h4⟩ := main o v st a s ho h0 (by omega)
    exact ⟨o', a', s', e, h2, h3, by omega⟩
  · intro o v st a s ho h0 h1
    exact ⟨o, a, s, Ev.step (fun k => rfl) (evneg (by omega) (Ev.now _)), ho, by omega, by omega⟩
  · intro i hi ih o v st a s ho h0 h1
    have f0 : (0 : Int) ≤ (i : Int) := by omega
    have f1 : (i : Int) < (o.length : Int) := by omega
    have lt : (i : Int) < (n : Int) := by omega
    have j1 : ∀ (v st a s : Int), 0 ≤ a → a ≤ 100000000 + 3 * (i + 1) → ∃ (o' : List Int) (a' s' : Int), Ev (fun k => spec_l1Cur_tone.j1 k top kd o v st (i : Int) (n : Int) (i : Int) l a s) (o', a', s') ∧ o'.length = n ∧ a ≤ a' ∧ a' ≤ a + 3 * (n - i - 1 : Int) := by
      intro v st a s h0 h1
      have go : ∀ u z : Int, ∃ (o' : List Int) (a' s' : Int), Ev (fun k => if 0 ≤ (i : Int) then (if (i : Int) < (o.length : Int) then spec_l1Cur_tone.l0 k top kd (o.set (i : Int).toNat u) z st (n : Int) (wrap64 ((i : Int) + 1)) l a s else none) else none) (o', a', s') ∧ o'.length = n ∧ a ≤ a' ∧ a' ≤ a + 3 * (n - i - 1 : Int) := by
        intro u z
        obtain ⟨o', a', s', e, h2, h3, h4⟩ := ih (o.set i u) z st a s (by rw [List.length_set]; exact ho) h0 (by omega)
        refine ⟨o', a', s', evpos f0 (evpos f1 ?_), h2, h3, by omega⟩
        rw [w64s (by omega), Int.toNat_natCast]; exact e
      by_cases c1 : v < wrap64 (-top)
      · by_cases c2 : wrap64 (-top) ≥ top
        · obtain ⟨o', a', s', e, h⟩ := go (wrap64 (top - 1)) (wrap64 (top - 1))
          exact ⟨o', a', s', Ev.step (fun k => rfl) (evpos c1 (evpos c2 e)), h⟩
        · obtain ⟨o', a', s', e, h⟩ := go (wrap64 (-top)) (wrap64 (-top))
          exact ⟨o', a', s', Ev.step (fun k => rfl) (evpos c1 (evneg c2 e)), h⟩
      · by_cases c2 : v ≥ top
        · obtain ⟨o', a', s', e, h⟩ := go (wrap64 (top - 1)) (wrap64 (top - 1))
          exact ⟨o', a', s', Ev.step (fun k => rfl) (evneg c1 (evpos c2 e)), h⟩
        · obtain ⟨o', a', s', e, h⟩ := go v v
          exact ⟨o', a', s', Ev.step (fun k => rfl) (evneg c1 (evneg c2 e)), h⟩
    by_cases c0 : kd = 0
    · obtain ⟨r, a1, s1, e1, _, _, p1, q1⟩ := pick_t hl a s (2 * top) (by omega) h0 (by omega)
      obtain ⟨o', a', s', e, h2, h3, h4⟩ := j1 (wrap64 (r - top)) st a1 s1 (by omega) (by omega)
      refine ⟨o', a', s', Ev.step (fun k => rfl) (evpos lt (evpos c0 ?_)), h2, by omega, by omega⟩
      rw [show wrap64 (2 * top) = 2 * top from w64 (by omega) (by omega)]
      exact evlet e1 e
    by_cases c1 : kd = 1
    · by_cases c2 : Int.tmod (i : Int) 37 = 0
      · obtain ⟨o', a', s', e, h2, h3, h4⟩ := j1 (wrap64 (v + st)) (wrap64 (-st)) a s h0 (by omega)
        exact ⟨o', a', s', Ev.step (fun k => rfl) (evpos lt (evneg c0 (evpos c1 (evpos c2 e)))), h2, by omega, by omega⟩
      · obtain ⟨o', a', s', e, h2, h3, h4⟩ := j1 (wrap64 (v + st)) st a s h0 (by omega)
        exact ⟨o', a', s', Ev.step (fun k => rfl) (evpos lt (evneg c0 (evpos c1 (evneg c2 e)))), h2, by omega, by omega⟩
    by_cases c2 : kd = 2
    · obtain ⟨r, a1, s1, e1, _, _, p1, q1⟩ := pick_t hl a s 7 (by omega) h0 (by omega)
      obtain ⟨o', a', s', e, h2, h3, h4⟩ := j1 (wrap64 (v + wrap64 (r - 3))) st a1 s1 (by omega) (by omega)
      exact ⟨o', a', s', Ev.step (fun k => rfl) (evpos lt (evneg c0 (evneg c1 (evpos c2 (evlet e1 e))))), h2, by omega, by omega⟩
    by_cases c3 : kd = 3
    · obtain ⟨o', a', s', e, h2, h3, h4⟩ := j1 (wrap64 (Int.tdiv (wrap64 ((wrap64 ((i : Int) * (i : Int))) * st)) 9)) st a s h0 (by omega)
      exact ⟨o', a', s', Ev.step (fun k => rfl) (evpos lt (evneg c0 (evneg c1 (evneg c2 (evpos c3 e))))), h2, by omega, by omega⟩
    · obtain ⟨o', a', s', e, h2, h3, h4⟩ := j1 v st a s h0 (by omega)
      exact ⟨o', a', s', Ev.step (fun k => rfl) (evpos lt (evneg c0 (evneg c1 (evneg c2 (evneg c3 e))))), h2, by omega, by omega⟩
theorem tone_t {l : List Int} (hl : ByteL l) (a s : Int) (n m : Nat) (hn : n ≤ 10000) (hm : m ≤ 25) (h0 : 0 ≤ a) (h1 : a ≤ 50000000) : ∃ (o : List Int) (a' s' : Int), Ev (fun k => spec_l1Cur_tone.f k l a s (n : Int) ((m + 1 : Nat) : Int)) (o, a', s') ∧ o.length = n ∧ a ≤ a' ∧ a' ≤ a + 40000 := by
  obtain ⟨eT, eN⟩ := shl_m m hm
  obtain ⟨t0, t1⟩ := pow26 hm
  obtain ⟨T, hT⟩ : ∃ T : Int, T = ((2 ^ m : Nat) : Int) := ⟨_, rfl⟩
  have T0 : 1 ≤ T := by generalize 2 ^ m = t at *; omega
  have T1 : T ≤ 33554432 := by generalize 2 ^ m = t at *; omega
  rw [← hT] at eT
  obtain ⟨r1, a1, s1, e1, _, _, p1, q1⟩ := pick_t hl a s 5 (by omega) h0 (by omega)
  obtain ⟨r2, a2, s2, e2, _, _, p2, q2⟩ := pick_t hl a1 s1 (2 * T) (by omega) (by omega) (by omega)
  obtain ⟨r3, a3, s3, e3, _, _, p3, q3⟩ := pick_t hl a2 s2 40 (by omega) (by omega) (by omega)
  have ln : (List.replicate n (0 : Int)).length = n := by simp
  obtain ⟨o, a', s', e, h2, h3, h4⟩ := tone_loop hl T r1 T0 T1 n hn (List.replicate n 0) (wrap64 (r2 - T)) (wrap64 (r3 - 20)) a3 s3 ln (by omega) (by omega)
  refine ⟨o, a', s', ?_, h2, by omega, by omega⟩
  unfold spec_l1Cur_tone.f
  rw [eT, show wrap64 (2 * T) = 2 * T from w64 (by omega) (by omega), Int.toNat_natCast]
  refine evpos eN (evlet e1 (evpos (Int.natCast_nonneg n) (evpos (by omega) (evlet rfl (evlet e2 (evlet e3 ?_))))))
  simp only [ln]
  exact e
theorem sound_j2 {l : List Int} (hl : ByteL l) (n : Int) (o : List Int) (ho : (o.length : Int) = n) (b : Bool) (hb : b = true → n > 0) (a s : Int) (h0 : 0 ≤ a) (h1 : a ≤ 100000000) : ∃ (o' : List Int) (a' s' : Int), Ev (fun k => spec_l10Drawn.j2 k n o b l a s) (o', l, a', s') ∧ o'.length = o.length ∧ 0 ≤ a' ∧ a' ≤ 100001000 := by
  cases b with
  | false => exact ⟨o, a, s, Ev.step (fun k => rfl) (Ev.now _), rfl, h0, by omega⟩
  | true =>
    have hn := hb rfl
    obtain ⟨r1, a1, s1, e1, x1, y1, p1, q1⟩ := pick_t hl a s n (by omega) h0 (by omega)
    obtain ⟨r2, a2, s2, e2, x2, y2, p2, q2⟩ := pick_t hl a1 s1 4 (by omega) (by omega) (by omega)
    refine ⟨o.set r1.toNat (rd [67108863, 67108864, (-67108864), (-67108865)] r2), a2, s2, Ev.step (fun k => rfl) ?_, by rw [List.length_set], by omega, by omega⟩
    simp only [spec_l10Drawn.j2, if_true]
    exact evlet e1 (evlet rfl (evlet e2 (evpos x2 (evpos (by simp only [List.length_cons, List.length_nil]; omega) (evpos x1 (evpos (by show r1 < (o.length : Int); omega) (Ev.now _)))))))
theorem sound_j1 {l : List Int} (hl : ByteL l) (m n : Nat) (hn : n ≤ 5000) (hm : m ≤ 25) (a s : Int) (h0 : 0 ≤ a) (h1 : a ≤ 10000000) : ∃ (o' : List Int) (a' s' : Int), Ev (fun k => spec_l10Drawn.j1 k ((m + 1 : Nat) : Int) (n : Int) l a s) (o', l, a', s') ∧ o'.length = n ∧ 0 ≤ a' ∧ a' ≤ 100001000 := by
  obtain ⟨o, a1, s1, e1, ol, p1, q1⟩ := tone_t hl a s n m (by omega) hm h0 (by omega)
  obtain ⟨b2, a2, s2, e2, p2, q2⟩ := one_t hl a1 s1 12 (by omega) (by omega) (by omega)
  cases b2 with
  | false =>
    obtain ⟨o', a', s', e, h2, h3⟩ := sound_j2 hl (n : Int) o (by omega) false (fun h => by cases h) a2 s2 (by omega) (by omega)
    exact ⟨o', a', s', Ev.step (fun k => rfl) (Ev.bind e1 (evlet e2 (evneg Bool.false_ne_true e))), by omega, h3⟩
  | true =>
    obtain ⟨o', a', s', e, h2, h3⟩ := sound_j2 hl (n : Int) o (by omega) (decide ((n : Int) > 0)) (fun h => of_decide_eq_true h) a2 s2 (by omega) (by omega)
    exact ⟨o', a', s', Ev.step (fun k => rfl) (Ev.bind e1 (evlet e2 (evpos rfl e))), by omega, h3⟩
theorem sound_t {l : List Int} (hl : ByteL l) : ∃ (o : List Int) (a s : Int), Ev (fun k => spec_l10Drawn.f k l) (o, l, a, s) ∧ o.length ≤ 5000 ∧ 0 ≤ a ∧ a ≤ 100001000 := by
  obtain ⟨r1, a1, s1, e1, x1, y1, p1, q1⟩ := pick_t hl 0 0 25 (by omega) (by omega) (by omega)
  obtain ⟨r2, a2, s2, e2, x2, y2, p2, q2⟩ := pick_t hl a1 s1 40 (by omega) (by omega) (by omega)
  obtain ⟨b3, a3, s3, e3, p3, q3⟩ := one_t hl a2 s2 3 (by omega) (by omega) (by omega)
  obtain ⟨m, hm, hm2⟩ : ∃ m : Nat, wrap64 (2 + r1) = ((m + 1 : Nat) : Int) ∧ m ≤ 25 := ⟨(r1 + 1).toNat, by rw [w64 (by omega) (by omega)]; omega, by omega⟩
  have j0 : ∀ (n : Nat) (a s : Int), n ≤ 4500 → 0 ≤ a → a ≤ 1000000 → ∃ (o : List Int) (a' s' : Int), Ev (fun k => spec_l10Drawn.j0 k ((m + 1 : Nat) : Int) (n : Int) l a s) (o, l, a', s') ∧ o.length ≤ 5000 ∧ 0 ≤ a' ∧ a' ≤ 100001000 := by
    intro n a s hn h0 h1
    obtain ⟨b4, a4, s4, e4, p4, q4⟩ := one_t hl a s 30 (by omega) h0 (by omega)
    cases b4 with
    | false =>
      obtain ⟨o, a', s', e, h2, h3⟩ := sound_j1 hl m n (by omega) hm2 a4 s4 (by omega) (by omega)
      exact ⟨o, a', s', Ev.step (fun k => rfl) (evlet e4 (evneg Bool.false_ne_true e)), by omega, h3⟩
    | true =>
      obtain ⟨r5, a5, s5, e5, x5, y5, p5, q5⟩ := pick_t hl a4 s4 3 (by omega) (by omega) (by omega)
      obtain ⟨j, hj⟩ : ∃ j : Nat, wrap64 (wrap64 (4000 + r5) - 1) = (j : Int) := ⟨(4000 + r5 - 1).toNat, by rw [w64 (n := 4000 + r5) (by omega) (by omega), w64 (by omega) (by omega)]; omega⟩
      have hj2 : j ≤ 4001 := by rw [w64 (n := 4000 + r5) (by omega) (by omega), w64 (by omega) (by omega)] at hj; omega
      obtain ⟨o, a', s', e, h2, h3⟩ := sound_j1 hl m j (by omega) hm2 a5 s5 (by omega) (by omega)
      refine ⟨o, a', s', Ev.step (fun k => rfl) (evlet e4 (evpos rfl (evlet e5 ?_))), by omega, h3⟩
      simp only [hj]
      exact e
  cases b3 with
  | false =>
    obtain ⟨n, rfl⟩ : ∃ n : Nat, r2 = (n : Int) := ⟨r2.toNat, by omega⟩
    obtain ⟨o, a', s', e, h⟩ := j0 n a3 s3 (by omega) (by omega) (by omega)
    refine ⟨o, a', s', evlet e1 (evlet e2 (evlet e3 (evneg Bool.false_ne_true ?_))), h⟩
    simp only [hm]
    exact e
  | true =>
    obtain ⟨r4, a4, s4, e4, x4, y4, p4, q4⟩ := pick_t hl a3 s3 8 (by omega) (by omega) (by omega)
    obtain ⟨j, hj⟩ : ∃ j : Nat, wrap64 (16 * r4) = (j : Int) := ⟨(16 * r4).toNat, by rw [w64 (by omega) (by omega)]; omega⟩
    have hj2 : j ≤ 112 := by rw [w64 (by omega) (by omega)] at hj; omega
    obtain ⟨o, a', s', e, h⟩ := j0 j a4 s4 (by omega) (by omega) (by omega)
    refine ⟨o, a', s', evlet e1 (evlet e2 (evlet e3 (evpos rfl (evlet e4 ?_)))), h⟩
    simp only [hm, hj]
    exact e
/-- A list of numbers that are no greater than a sample. -/
theorem list_both (l : List Int) (hl : l.length ≤ 1048576) : ∃ b : Bool, Ev (fun k => spec_l10List.f k l) b ∧ Ev (fun k => impl_zlist.f k l) b ∧ (b = true → l.length ≤ 4000 ∧ ∀ x ∈ l, -67108864 ≤ x ∧ x ≤ 67108863) := by
  have main := down (n := l.length) (P := fun i => ∃ q : Bool, Ev (fun k => spec_l10List.l0 k l l (l.length : Int) (i : Int)) (q && decide ((l.length : Int) ≤ 4000)) ∧ Ev (fun k => impl_zrange.l0 k (-67108864) 67108863 l (l.length : Int) (i : Int)) q ∧ (q = true → ∀ x ∈ l.drop i, -67108864 ≤ x ∧ x ≤ 67108863)) ?_ ?_
  · obtain ⟨q, h1, h2, h3⟩ := main
    by_cases c : (l.length : Int) ≤ 4000
    · rw [decide_eq_true c, Bool.and_true] at h1
      exact ⟨q, h1, Ev.bind (evneg (by omega) h2) (Ev.now _), fun h => ⟨by omega, by simpa using h3 h⟩⟩
    · rw [decide_eq_false c, Bool.and_false] at h1
      exact ⟨false, h1, Ev.bind (evpos (by omega) (Ev.now _)) (Ev.now _), fun h => by cases h⟩
  · exact ⟨true, Ev.step (fun k => rfl) (evneg (by omega) (Ev.now _)), Ev.step (fun k => rfl) (evneg (by omega) (Ev.now _)), fun _ x hx => by simp at hx⟩
  · intro i hi ⟨q, h1, h2, h3⟩
    by_cases c1 : rd l (i : Int) < -67108864
    · exact ⟨false, Ev.step (fun k => rfl) (evpos (by omega) (evpos (by omega) (evpos (by omega) (evpos c1 (Ev.now _))))), Ev.step (fun k => rfl) (evpos (by omega) (evpos (by omega) (evpos (by omega) (evpos c1 (Ev.now _))))), fun h => by cases h⟩
    by_cases c2 : rd l (i : Int) > 67108863
    · exact ⟨false, Ev.step (fun k => rfl) (evpos (by omega) (evpos (by omega) (evpos (by omega) (evneg c1 (evpos c2 (Ev.now _)))))), Ev.step (fun k => rfl) (evpos (by omega) (evpos (by omega) (evpos (by omega) (evneg c1 (evpos c2 (Ev.now _)))))), fun h => by cases h⟩
    refine ⟨q, Ev.step (fun k => rfl) (evpos (by omega) (evpos (by omega) (evpos (by omega) (evneg c1 (evneg c2 ?_))))), Ev.step (fun k => rfl) (evpos (by omega) (evpos (by omega) (evpos (by omega) (evneg c1 (evneg c2 ?_))))), ?_⟩
    · rw [w64s (by omega)]; exact h1
    · rw [w64s (by omega)]; exact h2
    · intro hq x hx
      rw [List.drop_eq_getElem_cons hi] at hx
      rw [rd_nat, getD_lt hi] at c1 c2
      rcases List.mem_cons.1 hx with rfl | hx
      · omega
      · exact h3 hq x hx
theorem same_guess (a : Int) (l : List Int) (b : Int) : spec_l10Guess.f a l b = impl_zguess.f a l b := rfl
theorem wb2 {a b : Int} (ha : -67108864 ≤ a ∧ a ≤ 67108863) (hb : -67108864 ≤ b ∧ b ≤ 67108863) : wrap64 (wrap64 (2 * a) - b) = 2 * a - b := by
  rw [w64 (n := 2 * a) (by omega) (by omega), w64 (by omega) (by omega)]
theorem wb3 {a b c : Int} (ha : -67108864 ≤ a ∧ a ≤ 67108863) (hb : -67108864 ≤ b ∧ b ≤ 67108863) (hc : -67108864 ≤ c ∧ c ≤ 67108863) : wrap64 (wrap64 (wrap64 (3 * a) - wrap64 (3 * b)) + c) = 3 * a - 3 * b + c := by
  rw [w64 (n := 3 * a) (by omega) (by omega), w64 (n := 3 * b) (by omega) (by omega), w64 (n := 3 * a - 3 * b) (by omega) (by omega), w64 (by omega) (by omega)]
theorem wb4 {a b c d : Int} (ha : -67108864 ≤ a ∧ a ≤ 67108863) (hb : -67108864 ≤ b ∧ b ≤ 67108863) (hc : -67108864 ≤ c ∧ c ≤ 67108863) (hd : -67108864 ≤ d ∧ d ≤ 67108863) :
    wrap64 (wrap64 (wrap64 (wrap64 (4 * a) - wrap64 (6 * b)) + wrap64 (4 * c)) - d) = 4 * a - 6 * b + 4 * c - d := by
  rw [w64 (n := 4 * a) (by omega) (by omega), w64 (n := 6 * b) (by omega) (by omega), w64 (n := 4 * c) (by omega) (by omega), w64 (n := 4 * a - 6 * b) (by omega) (by omega), w64 (n := 4 * a - 6 * b + 4 * c) (by omega) (by omega), w64 (by omega) (by omega)]
def Good (l : List Int) : Prop := l.length ≤ 4000 ∧ ∀ x ∈ l, -67108864 ≤ x ∧ x ≤ 67108863
theorem Good.at {l : List Int} (h : Good l) {j : Nat} (hj : j < l.length) : -67108864 ≤ rd l (j : Int) ∧ rd l (j : Int) ≤ 67108863 := by
  rw [rd_nat, getD_lt hj]; exact h.2 _ (List.getElem_mem hj)
theorem guess_ex (o i : Nat) (l : List Int) (h : Good l) (ho : o ≤ 4) (hi : o ≤ i) (hl : i < l.length) : ∃ v, spec_l10Guess.f (o : Int) l (i : Int) = some v ∧ -1006632960 ≤ v ∧ v ≤ 1006632960 := by
  have h4 := h.1
  have w : ∀ j : Nat, 1 ≤ j → j ≤ 4 → j ≤ o → wrap64 ((i : Int) - (j : Int)) = ((i - j : Nat) : Int) := by
    intro j _ _ _; rw [w64 (by omega) (by omega)]; omega
  have oc : o = 0 ∨ o = 1 ∨ o = 2 ∨ o = 3 ∨ o = 4 := by omega
  rcases oc with rfl | rfl | rfl | rfl | rfl
  · refine ⟨0, ?_, by omega, by omega⟩
    unfold spec_l10Guess.f
    rw [if_neg (by decide), if_neg (by decide), if_neg (by decide), if_neg (by decide)]
  · have w1 : wrap64 ((i : Int) - 1) = ((i - 1 : Nat) : Int) := w 1 (by omega) (by omega) (by omega)
    have a1 := h.at (show i - 1 < l.length by omega)
    refine ⟨rd l ((i - 1 : Nat) : Int), ?_, by omega, by omega⟩
    unfold spec_l10Guess.f
    rw [w1, if_pos (by decide), if_pos (by omega), if_pos (by omega)]
  · have w1 : wrap64 ((i : Int) - 1) = ((i - 1 : Nat) : Int) := w 1 (by omega) (by omega) (by omega)
    have w2 : wrap64 ((i : Int) - 2) = ((i - 2 : Nat) : Int) := w 2 (by omega) (by omega) (by omega)
    have a1 := h.at (show i - 1 < l.length by omega)
    have a2 := h.at (show i - 2 < l.length by omega)
    refine ⟨2 * rd l ((i - 1 : Nat) : Int) - rd l ((i - 2 : Nat) : Int), ?_, by omega, by omega⟩
    unfold spec_l10Guess.f
    rw [w1, w2, if_neg (by decide), if_pos (by decide), if_pos (by omega), if_pos (by omega), if_pos (by omega), if_pos (by omega), wb2 a1 a2]
  · have w1 : wrap64 ((i : Int) - 1) = ((i - 1 : Nat) : Int) := w 1 (by omega) (by omega) (by omega)
    have w2 : wrap64 ((i : Int) - 2) = ((i - 2 : Nat) : Int) := w 2 (by omega) (by omega) (by omega)
    have w3 : wrap64 ((i : Int) - 3) = ((i - 3 : Nat) : Int) := w 3 (by omega) (by omega) (by omega)
    have a1 := h.at (show i - 1 < l.length by omega)
    have a2 := h.at (show i - 2 < l.length by omega)
    have a3 := h.at (show i - 3 < l.length by omega)
    refine ⟨3 * rd l ((i - 1 : Nat) : Int) - 3 * rd l ((i - 2 : Nat) : Int) + rd l ((i - 3 : Nat) : Int), ?_, by omega, by omega⟩
    unfold spec_l10Guess.f
    rw [w1, w2, w3, if_neg (by decide), if_neg (by decide), if_pos (by decide), if_pos (by omega), if_pos (by omega), if_pos (by omega), if_pos (by omega), if_pos (by omega), if_pos (by omega), wb3 a1 a2 a3]
  · have w1 : wrap64 ((i : Int) - 1) = ((i - 1 : Nat) : Int) := w 1 (by omega) (by omega) (by omega)
    have w2 : wrap64 ((i : Int) - 2) = ((i - 2 : Nat) : Int) := w 2 (by omega) (by omega) (by omega)
    have w3 : wrap64 ((i : Int) - 3) = ((i - 3 : Nat) : Int) := w 3 (by omega) (by omega) (by omega)
    have w4 : wrap64 ((i : Int) - 4) = ((i - 4 : Nat) : Int) := w 4 (by omega) (by omega) (by omega)
    have a1 := h.at (show i - 1 < l.length by omega)
    have a2 := h.at (show i - 2 < l.length by omega)
    have a3 := h.at (show i - 3 < l.length by omega)
    have a4 := h.at (show i - 4 < l.length by omega)
    refine ⟨4 * rd l ((i - 1 : Nat) : Int) - 6 * rd l ((i - 2 : Nat) : Int) + 4 * rd l ((i - 3 : Nat) : Int) - rd l ((i - 4 : Nat) : Int), ?_, by omega, by omega⟩
    unfold spec_l10Guess.f
    rw [w1, w2, w3, w4, if_neg (by decide), if_neg (by decide), if_neg (by decide), if_pos (by decide), if_pos (by omega), if_pos (by omega), if_pos (by omega), if_pos (by omega), if_pos (by omega), if_pos (by omega), if_pos (by omega), if_pos (by omega), wb4 a1 a2 a3 a4]
def gs (o : Nat) (l : List Int) (i : Nat) : Int := (spec_l10Guess.f (o : Int) l (i : Int)).getD 0
theorem guess_some (o i : Nat) (l : List Int) (h : Good l) (ho : o ≤ 4) (hi : o ≤ i) (hl : i < l.length) : spec_l10Guess.f (o : Int) l (i : Int) = some (gs o l i) ∧ -1006632960 ≤ gs o l i ∧ gs o l i ≤ 1006632960 := by
  obtain ⟨v, e, b⟩ := guess_ex o i l h ho hi hl
  have : gs o l i = v := by unfold gs; rw [e]; rfl
  rw [this]; exact ⟨e, b⟩
def rv (o : Nat) (l : List Int) (i : Nat) : Int := if i < o then l.getD i 0 else wrap64 (l.getD i 0 - gs o l i)
def Res (o : Nat) (l : List Int) : List Int := (List.range l.length).map (rv o l)
theorem Res_len (o : Nat) (l : List Int) : (Res o l).length = l.length := by simp [Res]
theorem Res_bound (o : Nat) (l : List Int) (h : Good l) (ho : o ≤ 4) : ∀ x ∈ Res o l, -1073741824 ≤ x ∧ x ≤ 1073741824 := by
  intro x hx
  obtain ⟨i, hi, rfl⟩ := List.mem_map.1 hx
  have hi := List.mem_range.1 hi
  have b := h.at hi
  rw [rd_nat] at b
  unfold rv
  by_cases c : i < o
  · rw [if_pos c]; omega
  · obtain ⟨_, g⟩ := guess_some o i l h ho (by omega) hi
    rw [if_neg c, w64 (by omega) (by omega)]; omega
theorem res_spec (o : Nat) (l : List Int) (h : Good l) (ho : o ≤ 4) : Ev (fun k => spec_l10Residue.f k (o : Int) l) (Res o l) := by
  have h4 := h.1
  refine evpos (by omega) (evpos (by omega) ?_)
  rw [Int.toNat_natCast, ← fl_zero (0 : Int) l.length (rv o l)]
  refine down (n := l.length) (P := fun i => Ev (fun k => spec_l10Residue.l0 k (o : Int) l (fl 0 l.length (rv o l) i) (l.length : Int) (i : Int)) (Res o l)) ?_ ?_
  · refine Ev.step (fun k => rfl) (evneg (by omega) ?_)
    rw [fl_all]; exact Ev.now _
  · intro i hi ih
    have il : (i : Int) < ((fl 0 l.length (rv o l) i).length : Int) := by rw [fl_len]; omega
    refine Ev.step (fun k => rfl) (evpos (by omega) (evpos (by omega) (evpos (by omega) (evpos il (evlet rfl ?_)))))
    by_cases c : i < o
    · refine evneg (by omega) ?_
      have e : (fl 0 l.length (rv o l) i).set (i : Int).toNat (rd l (i : Int)) = fl 0 l.length (rv o l) (i + 1) := by
        rw [← fl_set, Int.toNat_natCast, rd_nat]; unfold rv; rw [if_pos c]
      rw [e, w64s (by omega)]; exact ih
    · refine evpos (by omega) (evlet (guess_some o i l h ho (by omega) hi).1 ?_)
      have e : ((fl 0 l.length (rv o l) i).set (i : Int).toNat (rd l (i : Int))).set (i : Int).toNat (wrap64 (rd ((fl 0 l.length (rv o l) i).set (i : Int).toNat (rd l (i : Int))) (i : Int) - gs o l i)) = fl 0 l.length (rv o l) (i + 1) := by
        rw [List.set_set, rd_nat, Int.toNat_natCast, set_getD (by rw [fl_len]; exact hi), ← fl_set, rd_nat]; unfold rv; rw [if_neg c]
      rw [e, w64s (by omega)]; exact ih
theorem zcopy_all (l : List Int) (hl : l.length ≤ 4000) : impl_zcopy.f l = some l := by
  unfold impl_zcopy.f
  rw [Option.bind_some, if_pos (by simp; omega)]; rfl
theorem res_impl (o : Nat) (l : List Int) (h : Good l) (ho : o ≤ 4) (hz : Ev (fun k => impl_zlist.f k l) true) : Ev (fun k => impl_Residue.f k (o : Int) l) (Res o l) := by
  have h4 := h.1
  have lp : Ev (fun k => impl_Residue.l0 k (o : Int) l l (o : Int)) (Res o l) := by
    have st : ∀ i, i ≤ o → f2 l.length (rv o l) (fun j => l.getD j 0) i = l := by
      intro i hi
      have e : f2 l.length (rv o l) (fun j => l.getD j 0) i = f2 l.length (rv o l) (fun j => l.getD j 0) 0 := by
        unfold f2
        apply List.map_congr_left
        intro j _
        by_cases c : j < i
        · rw [if_pos c, if_neg (by omega)]; unfold rv; rw [if_pos (by omega)]
        · rw [if_neg c, if_neg (by omega)]
      rw [e, f2_zero]
    by_cases c : o ≤ l.length
    · have m := down_to (n := l.length) (P := fun i => o ≤ i → Ev (fun k => impl_Residue.l0 k (o : Int) l (f2 l.length (rv o l) (fun j => l.getD j 0) i) (i : Int)) (Res o l)) ?_ ?_ o c (Nat.le_refl _)
      · rw [st o (Nat.le_refl _)] at m; exact m
      · intro _
        refine Ev.step (fun k => rfl) (evneg (by omega) ?_)
        rw [f2_all]; exact Ev.now _
      · intro i hi ih hoi
        have g := (guess_some o i l h ho hoi hi).1
        rw [same_guess] at g
        refine Ev.step (fun k => rfl) (evpos (by omega) (evpos (by omega) (evlet g (evpos (by rw [f2_len]; omega) ?_))))
        have e : (f2 l.length (rv o l) (fun j => l.getD j 0) i).set (i : Int).toNat (wrap64 (rd l (i : Int) - gs o l i)) = f2 l.length (rv o l) (fun j => l.getD j 0) (i + 1) := by
          rw [← f2_set, Int.toNat_natCast, rd_nat]; unfold rv; rw [if_neg (by omega)]
        rw [e, w64s (by omega)]; exact ih (by omega)
    · have e : Res o l = l := by
        have := st l.length (by omega)
        rw [f2_all] at this; exact this
      refine Ev.step (fun k => rfl) (evneg (by omega) ?_)
      rw [e]; exact Ev.now _
  refine Ev.bind hz (evpos rfl (evneg (by omega) ?_))
  rw [decide_eq_false (by omega)]
  exact Ev.step (fun k => rfl) (evlet (zcopy_all l h4) lp)
theorem uw (n : Int) (h0 : 0 ≤ n) (h1 : n < 18446744073709551616) : IntKind.u64.wrap n = n := by rw [IntKind.wrap_u64]; omega
theorem shl1 (b : Nat) (hb : b ≤ 4) : shl .i64 1 (b : Int) = ((2 ^ b : Nat) : Int) := by
  have : b = 0 ∨ b = 1 ∨ b = 2 ∨ b = 3 ∨ b = 4 := by omega
  rcases this with rfl | rfl | rfl | rfl | rfl <;> (unfold shl; rw [IntKind.wrap_i64]; rfl)
theorem shr_i (x b : Nat) (hb : b ≤ 64) : shr .i64 (x : Int) (b : Int) = ((x / 2 ^ b : Nat) : Int) := by
  unfold shr
  rw [Int.toNat_natCast, Nat.min_eq_left (show b ≤ IntKind.i64.bits from hb)]; simp
theorem shr_u (x b : Nat) (hb : b ≤ 64) : shr .u64 (x : Int) (b : Int) = ((x / 2 ^ b : Nat) : Int) := by
  unfold shr
  rw [Int.toNat_natCast, Nat.min_eq_left (show b ≤ IntKind.u64.bits from hb)]; simp
theorem xones (m : Nat) (h : m < 18446744073709551616) : m ^^^ 18446744073709551615 = 18446744073709551615 - m := by
  have := congrArg BitVec.toNat (BitVec.xor_allOnes (x := BitVec.ofNat 64 m))
  rw [BitVec.toNat_xor, BitVec.toNat_not, BitVec.toNat_allOnes, BitVec.toNat_ofNat, Nat.mod_eq_of_lt (by omega)] at this
  simpa using this
def fo (a : Int) : Nat := if a < 0 then (-2 * a - 1).toNat else (2 * a).toNat
theorem fold_spec (a : Int) (h0 : -1073741824 ≤ a) (h1 : a ≤ 1073741824) : spec_Fold.f a = some (fo a : Int) := by
  unfold spec_Fold.f fo
  by_cases c : a < 0
  · rw [if_pos c, if_pos c, w64 (n := a + 1) (by omega) (by omega), w64 (n := -(a + 1)) (by omega) (by omega), uw (-(a + 1)) (by omega) (by omega), uw (2 * -(a + 1)) (by omega) (by omega), uw (2 * -(a + 1) + 1) (by omega) (by omega)]
    exact congrArg some (by omega)
  · rw [if_neg c, if_neg c, uw a (by omega) (by omega), uw (2 * a) (by omega) (by omega)]
    exact congrArg some (by omega)
theorem fold_impl (a : Int) (h0 : -1073741824 ≤ a) (h1 : a ≤ 1073741824) : impl_Fold.f a = some (fo a : Int) := by
  unfold impl_Fold.f fo
  by_cases c : a < 0
  · have e1 : IntKind.u64.wrap (IntKind.u64.wrap a * 2) = ((2 * a + 18446744073709551616).toNat : Int) := by
      rw [IntKind.wrap_u64, IntKind.wrap_u64]; omega
    have e2 : IntKind.u64.wrap (a / 9223372036854775808) = ((18446744073709551615 : Nat) : Int) := by
      rw [IntKind.wrap_u64]; omega
    rw [if_pos c, e1, e2, bits_xor_u64_nat _ _ (by omega) (by omega), xones _ (by omega)]
    exact congrArg some (by omega)
  · have e1 : IntKind.u64.wrap (IntKind.u64.wrap a * 2) = ((2 * a).toNat : Int) := by
      rw [IntKind.wrap_u64, IntKind.wrap_u64]; omega
    have e2 : IntKind.u64.wrap (a / 9223372036854775808) = ((0 : Nat) : Int) := by
      rw [IntKind.wrap_u64]; omega
    rw [if_neg c, e1, e2, bits_xor_u64_nat _ _ (by omega) (by omega), Nat.xor_zero]
theorem fo_le (a : Int) (h0 : -1073741824 ≤ a) (h1 : a ≤ 1073741824) : fo a ≤ 2147483648 := by
  unfold fo; split <;> omega
/-- What a part costs by a key. -/
theorem cost_both (key : Nat) (hk : key ≤ 25) (p : List Int) (hl : p.length ≤ 4000) (hp : ∀ x ∈ p, -1073741824 ≤ x ∧ x ≤ 1073741824) :
    ∃ c : Int, Ev (fun k => spec_l10KeyCost.f k (key : Int) p) c ∧ Ev (fun k => impl_zkeyCost.f k (key : Int) p) c ∧ 0 ≤ c ∧ c ≤ 34359738368005 := by
  by_cases k25 : key = 25
  · subst k25
    have m := down (n := p.length) (P := fun i => Ev (fun k => spec_l10KeyCost.l0 k ((25 : Nat) : Int) (5 + 32 * (i : Int)) p (p.length : Int) (i : Int)) (5 + 32 * (p.length : Int))) ?_ ?_
    · refine ⟨5 + 32 * (p.length : Int), m, ?_, by omega, by omega⟩
      refine evpos (by decide) ?_
      rw [w64 (n := 32 * (p.length : Int)) (by omega) (by omega), w64 (by omega) (by omega)]; exact Ev.now _
    · exact Ev.step (fun k => rfl) (evneg (by omega) (Ev.now _))
    · intro i hi ih
      refine Ev.step (fun k => rfl) (evpos (by omega) (evpos (by omega) (evpos (by omega) (evpos (by decide) ?_))))
      rw [w64 (n := 5 + 32 * (i : Int) + 32) (by omega) (by omega), w64s (by omega), show 5 + 32 * (i : Int) + 32 = 5 + 32 * ((i + 1 : Nat) : Int) by omega]; exact ih
  · have m := down (n := p.length) (P := fun i => ∀ a : Int, 0 ≤ a → a ≤ 5 + (i : Int) * 8589934592 → ∃ c : Int, Ev (fun k => spec_l10KeyCost.l0 k (key : Int) a p (p.length : Int) (i : Int)) c ∧ Ev (fun k => impl_zkeyCost.l0 k (key : Int) a p (p.length : Int) (i : Int)) c ∧ 0 ≤ c ∧ c ≤ 34359738368005) ?_ ?_
    · obtain ⟨c, h1, h2, h3⟩ := m 5 (by omega) (by omega)
      exact ⟨c, h1, evneg (by omega) h2, h3⟩
    · intro a h0 h1
      exact ⟨a, Ev.step (fun k => rfl) (evneg (by omega) (Ev.now _)), Ev.step (fun k => rfl) (evneg (by omega) (Ev.now _)), h0, by omega⟩
    · intro i hi ih a h0 h1
      have hx := hp _ (List.getElem_mem hi)
      have er : rd p (i : Int) = p[i] := by rw [rd_nat, getD_lt hi]
      have fl := fo_le p[i] hx.1 hx.2
      have t := Nat.div_le_self (fo p[i]) (2 ^ key)
      have e2 : wrap64 (a + wrap64 (wrap64 (wrap64 ((fo p[i] / 2 ^ key : Nat) : Int) + 1) + (key : Int))) = a + (((fo p[i] / 2 ^ key : Nat) : Int) + 1 + (key : Int)) := by
        generalize fo p[i] / 2 ^ key = q at *
        rw [w64 (n := (q : Int)) (by omega) (by omega), w64 (n := (q : Int) + 1) (by omega) (by omega), w64 (n := (q : Int) + 1 + (key : Int)) (by omega) (by omega), w64 (by omega) (by omega)]
      obtain ⟨c, g1, g2, g3⟩ := ih (a + (((fo p[i] / 2 ^ key : Nat) : Int) + 1 + (key : Int))) (by clear e2; generalize fo p[i] / 2 ^ key = q at *; omega) (by clear e2; generalize fo p[i] / 2 ^ key = q at *; omega)
      refine ⟨c, Ev.step (fun k => rfl) (evpos (by omega) (evpos (by omega) (evpos (by omega) (evneg (by omega) ?_)))), Ev.step (fun k => rfl) (evpos (by omega) (evpos (by omega) (evpos (by omega) ?_))), g3⟩
      · rw [er]
        refine evlet (fold_spec _ hx.1 hx.2) ?_
        rw [uw (key : Int) (by omega) (by omega)]
        refine evpos (by omega) ?_
        rw [shr_u _ _ (by omega), e2, w64s (by omega)]; exact g1
      · rw [er]
        refine evlet (fold_impl _ hx.1 hx.2) (evpos (by omega) ?_)
        rw [shr_u _ _ (by omega), e2, w64s (by omega)]; exact g2
/-- May a list of n numbers be parted so? -/
theorem parts_both (a b : Int) (n : Nat) (_ : n ≤ 4000) : ∃ q : Bool, spec_l10Parts.f a b (n : Int) = some q ∧ impl_zfits.f a b (n : Int) = some q ∧
    (q = true → ∃ o m : Nat, a = (o : Int) ∧ b = (m : Int) ∧ o ≤ 4 ∧ m ≤ 4 ∧ o ≤ n / 2 ^ m ∧ n = n / 2 ^ m * 2 ^ m) := by
  unfold spec_l10Parts.f impl_zfits.f
  by_cases c1 : a < 0
  · exact ⟨false, by rw [if_pos c1], by rw [if_neg (by omega)], fun h => by cases h⟩
  by_cases c2 : a > 4
  · exact ⟨false, by rw [if_neg c1, if_pos c2], by rw [if_pos (by omega), if_neg (by omega)], fun h => by cases h⟩
  by_cases c3 : a > (n : Int)
  · exact ⟨false, by rw [if_neg c1, if_neg c2, if_pos c3], by rw [if_pos (by omega), if_pos (by omega), if_neg (by omega)], fun h => by cases h⟩
  by_cases c4 : b < 0
  · exact ⟨false, by rw [if_neg c1, if_neg c2, if_neg c3, if_pos c4], by rw [if_pos (by omega), if_pos (by omega), if_pos (by omega), if_neg (by omega)], fun h => by cases h⟩
  by_cases c5 : b > 4
  · exact ⟨false, by rw [if_neg c1, if_neg c2, if_neg c3, if_neg c4, if_pos c5], by rw [if_pos (by omega), if_pos (by omega), if_pos (by omega), if_pos (by omega), if_neg (by omega)], fun h => by cases h⟩
  obtain ⟨o, rfl⟩ : ∃ n : Nat, a = (n : Int) := ⟨a.toNat, by omega⟩
  obtain ⟨m, rfl⟩ : ∃ n : Nat, b = (n : Int) := ⟨b.toNat, by omega⟩
  have p0 : 0 < 2 ^ m := Nat.pos_of_ne_zero (by simp)
  have um := uw (m : Int) (by omega) (by omega)
  have f0 : (0 : Int) ≤ (m : Int) := by omega
  have f1 : ¬ ((2 ^ m : Nat) : Int) = 0 := by omega
  have g1 : (o : Int) ≥ 0 := by omega
  have g2 : (o : Int) ≤ 4 := by omega
  have g3 : (o : Int) ≤ (n : Int) := by omega
  have g4 : (m : Int) ≥ 0 := by omega
  have g5 : (m : Int) ≤ 4 := by omega
  have m4 : m ≤ 4 := by omega
  have o4 : o ≤ 4 := by omega
  have tm : Int.tmod (n : Int) ((2 ^ m : Nat) : Int) = ((n % 2 ^ m : Nat) : Int) := (Int.ofNat_tmod _ _).symm
  have sh := shr_i n m (Nat.le_trans m4 (by decide))
  have s1 := shl1 m m4
  by_cases c6 : n % 2 ^ m = 0
  · have c7 : ((n % 2 ^ m : Nat) : Int) = 0 := by rw [c6]; rfl
    refine ⟨decide (((n / 2 ^ m : Nat) : Int) ≥ (o : Int)), ?_, ?_, fun h => ?_⟩
    · rw [if_neg c1, if_neg c2, if_neg c3, if_neg c4, if_neg c5, um, if_pos f0, s1, if_neg f1, tm, if_pos c7, sh]
    · rw [if_pos g1, if_pos g2, if_pos g3, if_pos g4, if_pos g5, if_pos f0, s1, if_neg f1, tm, if_pos c7, sh]
    · have h := of_decide_eq_true h
      have d := Nat.div_add_mod n (2 ^ m)
      rw [c6, Nat.add_zero, Nat.mul_comm] at d
      exact ⟨o, m, rfl, rfl, o4, m4, Int.ofNat_le.1 h, d.symm⟩
  · have c7 : ¬ ((n % 2 ^ m : Nat) : Int) = 0 := fun h => c6 (Int.ofNat_inj.1 h)
    refine ⟨false, ?_, ?_, fun h => by cases h⟩
    · rw [if_neg c1, if_neg c2, if_neg c3, if_neg c4, if_neg c5, um, if_pos f0, s1, if_neg f1, tm, if_neg c7]
    · rw [if_pos g1, if_pos g2, if_pos g3, if_pos g4, if_pos g5, if_pos f0, s1, if_neg f1, tm, if_neg c7]
/-- A part of a residue. -/
theorem we1 (q i z : Nat) (hz : q * i = z) (h : z ≤ 4000) : wrap64 ((q : Int) * (i : Int)) = (z : Int) := by
  rw [← Int.natCast_mul, hz]; exact w64 (by omega) (by omega)
theorem we3 (z q : Nat) (h : z + q ≤ 4000) : wrap64 ((z : Int) + (q : Int)) = ((z + q : Nat) : Int) := by
  rw [← Int.natCast_add]; exact w64 (by omega) (by omega)
theorem we4 (q i z : Nat) (hz : q * i = z) (h : z + q ≤ 4000) (hi : i ≤ 16) : wrap64 (wrap64 ((i : Int) + 1) * (q : Int)) = ((z + q : Nat) : Int) := by
  rw [w64s (by omega), ← Int.natCast_mul, show (i + 1) * q = z + q by rw [Nat.succ_mul, Nat.mul_comm i q, hz]]; exact w64 (by omega) (by omega)
theorem mx_r (z o : Nat) (h : z ≤ o) : mx (z : Int) (o : Int) = (o : Int) := by unfold mx; split <;> omega
theorem mx_l (z o : Nat) (h : o ≤ z) : mx (z : Int) (o : Int) = (z : Int) := by unfold mx; split <;> omega
theorem part_at (o m i n q z : Nat) (R : List Int) (hR : R.length = n) (hn : n ≤ 4000) (hm : m ≤ 4) (i16 : i ≤ 16) (hz : q * i = z) (hzn : z + q ≤ n) (ho : o ≤ q) (hc : ¬ i = 0 → q ≤ z) (sh : shr .i64 (n : Int) (m : Int) = (q : Int)) :
    ∃ p : List Int, spec_l10Part.f R (o : Int) (m : Int) (i : Int) = some p ∧ impl_zpart.f (o : Int) (m : Int) R (i : Int) = some p ∧ p.length ≤ n ∧ ∀ x ∈ p, x ∈ R := by
  have hzq := Nat.le_trans hzn hn
  have hz4 := Nat.le_trans (Nat.le_add_right z q) hzq
  have f0 : (0 : Int) ≤ (m : Int) := Int.natCast_nonneg m
  have f1 : (0 : Int) ≤ (o : Int) := Int.natCast_nonneg o
  have f2 : (0 : Int) ≤ (z : Int) := Int.natCast_nonneg z
  have f3 : (z : Int) ≤ ((z + q : Nat) : Int) := Int.ofNat_le.2 (Nat.le_add_right z q)
  have f4 : ((z + q : Nat) : Int) ≤ (n : Int) := Int.ofNat_le.2 hzn
  have f5 : (o : Int) ≤ (q : Int) := Int.ofNat_le.2 ho
  have f6 : (q : Int) ≤ (n : Int) := Int.ofNat_le.2 (Nat.le_trans (Nat.le_add_left q z) hzn)
  have f7 : (o : Int) ≤ ((z + q : Nat) : Int) := Int.ofNat_le.2 (Nat.le_trans ho (Nat.le_add_left q z))
  have f8 : min (z + q) n - z ≤ n := Nat.le_trans (Nat.sub_le _ _) (Nat.min_le_right _ _)
  have f9 : min q n - o ≤ n := Nat.le_trans (Nat.sub_le _ _) (Nat.min_le_right _ _)
  have um := uw (m : Int) f0 (Int.lt_of_le_of_lt (Int.ofNat_le.2 hm) (by decide))
  have e1 := we1 q i z hz hz4
  have e2 : wrap64 ((i : Int) * (q : Int)) = (z : Int) := by rw [Int.mul_comm]; exact e1
  have e3 := we3 z q hzq
  have e4 := we4 q i z hz hzq i16
  by_cases c : i = 0
  · have z0 : z = 0 := by rw [← hz, c]; rfl
    have m1 := mx_r z o (z0 ▸ Nat.zero_le o)
    subst c
    refine ⟨(R.take q).drop o, ?_, ?_, ?_, ?_⟩
    · unfold spec_l10Part.f
      rw [hR, um, sh, if_pos f0, if_pos (show ((0 : Nat) : Int) = 0 from rfl), if_pos f1, if_pos f5, if_pos f6, Int.toNat_natCast, Int.toNat_natCast]
    · unfold impl_zpart.f
      rw [hR, sh, e2, e4, m1, if_pos f0, if_pos f1, if_pos f7, if_pos f4, Int.toNat_natCast, Int.toNat_natCast, z0, Nat.zero_add]
    · rw [List.length_drop, List.length_take, hR]; exact f9
    · intro x hx; exact List.mem_of_mem_take (List.mem_of_mem_drop hx)
  · have m1 := mx_l z o (Nat.le_trans ho (hc c))
    have i0 : ¬ (i : Int) = 0 := fun h => c (Int.ofNat_inj.1 h)
    refine ⟨(R.take (z + q)).drop z, ?_, ?_, ?_, ?_⟩
    · unfold spec_l10Part.f
      rw [hR, um, sh, e1, e3, if_pos f0, if_neg i0, if_pos f2, if_pos f3, if_pos f4, Int.toNat_natCast, Int.toNat_natCast]
    · unfold impl_zpart.f
      rw [hR, sh, e2, e4, m1, if_pos f0, if_pos f2, if_pos f3, if_pos f4, Int.toNat_natCast, Int.toNat_natCast]
    · rw [List.length_drop, List.length_take, hR]; exact f8
    · intro x hx; exact List.mem_of_mem_take (List.mem_of_mem_drop hx)
theorem pow_le (m : Nat) (hm : m ≤ 4) : 2 ^ m ≤ 16 := Nat.pow_le_pow_right (by omega) hm
/-- A part of a residue. -/
theorem part_both (o m i n : Nat) (R : List Int) (hR : R.length = n) (hn : n ≤ 4000) (hm : m ≤ 4) (ho : o ≤ n / 2 ^ m) (hd : n = n / 2 ^ m * 2 ^ m) (hi : i < 2 ^ m) :
    ∃ p : List Int, spec_l10Part.f R (o : Int) (m : Int) (i : Int) = some p ∧ impl_zpart.f (o : Int) (m : Int) R (i : Int) = some p ∧ p.length ≤ n ∧ ∀ x ∈ p, x ∈ R := by
  have h16 := pow_le m hm
  have hq := Nat.mul_le_mul_left (n / 2 ^ m) (Nat.succ_le_of_lt hi)
  rw [← hd, Nat.mul_succ] at hq
  refine part_at o m i n (n / 2 ^ m) (n / 2 ^ m * i) R hR hn hm (Nat.le_trans (Nat.le_of_lt hi) h16) rfl hq ho (fun c => ?_) (shr_i n m (Nat.le_trans hm (by decide)))
  have := Nat.mul_le_mul_left (n / 2 ^ m) (Nat.pos_of_ne_zero c)
  rwa [Nat.mul_one] at this
/-- What a key costs. -/
def kcs (key : Nat) : List Int → Int
  | [] => 0
  | x :: xs => ((fo x / 2 ^ key : Nat) : Int) + 1 + (key : Int) + kcs key xs
def kc (key : Nat) (p : List Int) : Int := if key = 25 then 5 + 32 * (p.length : Int) else 5 + kcs key p
theorem kcs_bd (key : Nat) (hk : key ≤ 25) (p : List Int) (hp : ∀ x ∈ p, -1073741824 ≤ x ∧ x ≤ 1073741824) : 0 ≤ kcs key p ∧ kcs key p ≤ (p.length : Int) * 2147483700 := by
  induction p with
  | nil => exact ⟨Int.le_refl 0, Int.le_refl 0⟩
  | cons x xs ih =>
    have hx := hp x List.mem_cons_self
    have fl := fo_le x hx.1 hx.2
    have t := Nat.div_le_self (fo x) (2 ^ key)
    have h := ih (fun y hy => hp y (List.mem_cons_of_mem _ hy))
    show 0 ≤ ((fo x / 2 ^ key : Nat) : Int) + 1 + (key : Int) + kcs key xs ∧ ((fo x / 2 ^ key : Nat) : Int) + 1 + (key : Int) + kcs key xs ≤ ((xs.length + 1 : Nat) : Int) * 2147483700
    generalize fo x / 2 ^ key = q at *
    generalize kcs key xs = z at *
    omega
theorem kc_bd (key : Nat) (hk : key ≤ 25) (p : List Int) (hl : p.length ≤ 4000) (hp : ∀ x ∈ p, -1073741824 ≤ x ∧ x ≤ 1073741824) : 0 ≤ kc key p ∧ kc key p ≤ 8589934900000 := by
  have h := kcs_bd key hk p hp
  unfold kc
  split <;> omega
theorem kc_t (key : Nat) (hk : key ≤ 25) (p : List Int) (hl : p.length ≤ 4000) (hp : ∀ x ∈ p, -1073741824 ≤ x ∧ x ≤ 1073741824) : Ev (fun k => spec_l10KeyCost.f k (key : Int) p) (kc key p) ∧ Ev (fun k => impl_zkeyCost.f k (key : Int) p) (kc key p) := by
  by_cases k25 : key = 25
  · subst k25
    have m := down (n := p.length) (P := fun i => Ev (fun k => spec_l10KeyCost.l0 k ((25 : Nat) : Int) (5 + 32 * (i : Int)) p (p.length : Int) (i : Int)) (5 + 32 * (p.length : Int))) ?_ ?_
    · refine ⟨m, ?_⟩
      refine evpos (by decide) ?_
      rw [w64 (n := 32 * (p.length : Int)) (by omega) (by omega), w64 (by omega) (by omega)]; exact Ev.now _
    · exact Ev.step (fun k => rfl) (evneg (by omega) (Ev.now _))
    · intro i hi ih
      refine Ev.step (fun k => rfl) (evpos (by omega) (evpos (by omega) (evpos (by omega) (evpos (by decide) ?_))))
      rw [w64 (n := 5 + 32 * (i : Int) + 32) (by omega) (by omega), w64s (by omega), show 5 + 32 * (i : Int) + 32 = 5 + 32 * ((i + 1 : Nat) : Int) by omega]; exact ih
  · have ek : kc key p = 5 + kcs key p := by unfold kc; rw [if_neg k25]
    have m := down (n := p.length) (P := fun i => ∀ a : Int, 0 ≤ a → a ≤ 5 + (i : Int) * 8589934592 → Ev (fun k => spec_l10KeyCost.l0 k (key : Int) a p (p.length : Int) (i : Int)) (a + kcs key (p.drop i)) ∧ Ev (fun k => impl_zkeyCost.l0 k (key : Int) a p (p.length : Int) (i : Int)) (a + kcs key (p.drop i))) ?_ ?_
    · obtain ⟨h1, h2⟩ := m 5 (by omega) (by omega)
      rw [List.drop_zero, ← ek] at h1 h2
      exact ⟨h1, evneg (by omega) h2⟩
    · intro a h0 h1
      rw [List.drop_length, show kcs key [] = 0 from rfl, Int.add_zero]
      exact ⟨Ev.step (fun k => rfl) (evneg (by omega) (Ev.now _)), Ev.step (fun k => rfl) (evneg (by omega) (Ev.now _))⟩
    · intro i hi ih a h0 h1
      have hx := hp _ (List.getElem_mem hi)
      have er : rd p (i : Int) = p[i] := by rw [rd_nat, getD_lt hi]
      have fl := fo_le p[i] hx.1 hx.2
      have t := Nat.div_le_self (fo p[i]) (2 ^ key)
      have e2 : wrap64 (a + wrap64 (wrap64 (wrap64 ((fo p[i] / 2 ^ key : Nat) : Int) + 1) + (key : Int))) = a + (((fo p[i] / 2 ^ key : Nat) : Int) + 1 + (key : Int)) := by
        generalize fo p[i] / 2 ^ key = q at *
        rw [w64 (n := (q : Int)) (by omega) (by omega), w64 (n := (q : Int) + 1) (by omega) (by omega), w64 (n := (q : Int) + 1 + (key : Int)) (by omega) (by omega), w64 (by omega) (by omega)]
      obtain ⟨g1, g2⟩ := ih (a + (((fo p[i] / 2 ^ key : Nat) : Int) + 1 + (key : Int))) (by clear e2; generalize fo p[i] / 2 ^ key = q at *; omega) (by clear e2; generalize fo p[i] / 2 ^ key = q at *; omega)
      have ed : a + kcs key (p.drop i) = a + (((fo p[i] / 2 ^ key : Nat) : Int) + 1 + (key : Int)) + kcs key (p.drop (i + 1)) := by
        rw [List.drop_eq_getElem_cons hi, show kcs key (p[i] :: p.drop (i + 1)) = ((fo p[i] / 2 ^ key : Nat) : Int) + 1 + (key : Int) + kcs key (p.drop (i + 1)) from rfl, ← Int.add_assoc]
      rw [ed]
      refine ⟨Ev.step (fun k => rfl) (evpos (by omega) (evpos (by omega) (evpos (by omega) (evneg (by omega) ?_)))), Ev.step (fun k => rfl) (evpos (by omega) (evpos (by omega) (evpos (by omega) ?_)))⟩
      · rw [er]
        refine evlet (fold_spec _ hx.1 hx.2) ?_
        rw [uw (key : Int) (by omega) (by omega)]
        refine evpos (by omega) ?_
        rw [shr_u _ _ (by omega), e2, w64s (by omega)]; exact g1
      · rw [er]
        refine evlet (fold_impl _ hx.1 hx.2) (evpos (by omega) ?_)
        rw [shr_u _ _ (by omega), e2, w64s (by omega)]; exact g2
/-- An order and a number of parts that fit. -/
structure Feas (o m n : Nat) : Prop where
  o4 : o ≤ 4
  m4 : m ≤ 4
  le : o ≤ n / 2 ^ m
  dv : n = n / 2 ^ m * 2 ^ m
theorem parts_conv {o m n : Nat} (_ : n ≤ 4000) (h : Feas o m n) : spec_l10Parts.f (o : Int) (m : Int) (n : Int) = some true := by
  obtain ⟨o4, m4, le, dv⟩ := h
  have on : o ≤ n := Nat.le_trans le (Nat.div_le_self _ _)
  have p0 : 0 < 2 ^ m := Nat.two_pow_pos m
  have md : n % 2 ^ m = 0 := by
    have d := Nat.div_add_mod n (2 ^ m)
    rw [Nat.mul_comm, ← dv] at d
    omega
  have c1 : ¬ (o : Int) < 0 := by omega
  have c2 : ¬ (o : Int) > 4 := by omega
  have c3 : ¬ (o : Int) > (n : Int) := by omega
  have c4 : ¬ (m : Int) < 0 := by omega
  have c5 : ¬ (m : Int) > 4 := by omega
  have f0 : (0 : Int) ≤ (m : Int) := by omega
  have um := uw (m : Int) (by omega) (by omega)
  have f1 : ¬ ((2 ^ m : Nat) : Int) = 0 := fun h => by have := Int.ofNat_inj.1 h; omega
  have tm : Int.tmod (n : Int) ((2 ^ m : Nat) : Int) = ((n % 2 ^ m : Nat) : Int) := (Int.ofNat_tmod _ _).symm
  have sh := shr_i n m (Nat.le_trans m4 (by decide))
  have s1 := shl1 m m4
  have c7 : ((n % 2 ^ m : Nat) : Int) = 0 := by rw [md]; rfl
  unfold spec_l10Parts.f
  rw [if_neg c1, if_neg c2, if_neg c3, if_neg c4, if_neg c5, um, if_pos f0, s1, if_neg f1, tm, if_pos c7, sh, decide_eq_true (Int.ofNat_le.2 le)]
def pt (o m : Nat) (l : List Int) (i : Nat) : List Int := (spec_l10Part.f (Res o l) (o : Int) (m : Int) (i : Int)).getD []
theorem pt_t {o m : Nat} {l : List Int} (hg : Good l) (h : Feas o m l.length) {i : Nat} (hi : i < 2 ^ m) : spec_l10Part.f (Res o l) (o : Int) (m : Int) (i : Int) = some (pt o m l i) ∧ impl_zpart.f (o : Int) (m : Int) (Res o l) (i : Int) = some (pt o m l i) ∧ (pt o m l i).length ≤ 4000 ∧ ∀ x ∈ pt o m l i, -1073741824 ≤ x ∧ x ≤ 1073741824 := by
  obtain ⟨p, p1, p2, p3, p4⟩ := part_both o m i l.length (Res o l) (Res_len o l) hg.1 h.m4 h.le h.dv hi
  have e : pt o m l i = p := by unfold pt; rw [p1]; rfl
  rw [e]
  exact ⟨p1, p2, Nat.le_trans p3 hg.1, fun x hx => Res_bound o l hg h.o4 x (p4 x hx)⟩
/-- What keys cost together. -/
def tsum (f : Nat → List Int) : List Int → Nat → Int
  | [], _ => 0
  | key :: ks, i => kc key.toNat (f i) + tsum f ks (i + 1)
theorem tsum_app (f : Nat → List Int) (xs : List Int) (y : Int) : ∀ i, tsum f (xs ++ [y]) i = tsum f xs i + kc y.toNat (f (i + xs.length)) := by
  induction xs with
  | nil => intro i; show kc y.toNat (f i) + 0 = 0 + kc y.toNat (f (i + 0)); rw [Nat.add_zero, Int.add_zero, Int.zero_add]
  | cons x xs ih =>
    intro i
    show kc x.toNat (f i) + tsum f (xs ++ [y]) (i + 1) = kc x.toNat (f i) + tsum f xs (i + 1) + kc y.toNat (f (i + (xs.length + 1)))
    rw [ih (i + 1), Int.add_assoc, show i + 1 + xs.length = i + (xs.length + 1) by omega]
def tc (o m : Nat) (l K : List Int) : Int := 6 + 26 * (o : Int) + tsum (pt o m l) K 0
structure Keys (m : Nat) (K : List Int) : Prop where
  len : K.length = 2 ^ m
  bd : ∀ x ∈ K, 0 ≤ x ∧ x ≤ 25
theorem tsum_bd {o m : Nat} {l : List Int} (hg : Good l) (h : Feas o m l.length) (K : List Int) : ∀ i, i + K.length ≤ 2 ^ m → (∀ x ∈ K, 0 ≤ x ∧ x ≤ 25) → 0 ≤ tsum (pt o m l) K i ∧ tsum (pt o m l) K i ≤ (K.length : Int) * 8589934900000 := by
  induction K with
  | nil => intro i _ _; exact ⟨Int.le_refl 0, Int.le_refl 0⟩
  | cons x xs ih =>
    intro i hi hb
    have hi' : i + (xs.length + 1) ≤ 2 ^ m := hi
    have hx := hb x List.mem_cons_self
    obtain ⟨_, _, p3, p4⟩ := pt_t hg h (show i < 2 ^ m by generalize 2 ^ m = t at *; omega)
    have hk := kc_bd x.toNat (by omega) (pt o m l i) p3 p4
    have ht := ih (i + 1) (by generalize 2 ^ m = t at *; omega) (fun y hy => hb y (List.mem_cons_of_mem _ hy))
    show 0 ≤ kc x.toNat (pt o m l i) + tsum (pt o m l) xs (i + 1) ∧ kc x.toNat (pt o m l i) + tsum (pt o m l) xs (i + 1) ≤ ((xs.length + 1 : Nat) : Int) * 8589934900000
    generalize kc x.toNat (pt o m l i) = u at *
    generalize tsum (pt o m l) xs (i + 1) = v at *
    clear hi hi' ih hb
    omega
theorem tc_nn {o m : Nat} {l K : List Int} (hg : Good l) (h : Feas o m l.length) (hK : Keys m K) : 0 ≤ tc o m l K := by
  have := tsum_bd hg h K 0 (by rw [Nat.zero_add, hK.len]; exact Nat.le_refl _) hK.bd
  unfold tc
  omega
/-- A plan in hand: none yet, or one that costs t. -/
def Held (l : List Int) (t b0 b1 : Int) (b2 : List Int) : Prop := t < 0 ∨ ∃ o m : Nat, b0 = (o : Int) ∧ b1 = (m : Int) ∧ Feas o m l.length ∧ Keys m b2 ∧ t = tc o m l b2
/-- What the rest of the search comes to. -/
structure Fin (l : List Int) (t t' r0 r1 : Int) (r2 : List Int) (rest : Nat → Nat → Prop) : Prop where
  held : Held l t' r0 r1 r2
  less : 0 ≤ t → 0 ≤ t' ∧ t' ≤ t
  least : ∀ o m K, Feas o m l.length → Keys m K → rest o m → 0 ≤ t' ∧ t' ≤ tc o m l K
theorem best_both (l : List Int) (h : Good l) (hz : Ev (fun k => impl_zlist.f k l) true) :
    ∃ (r0 r1 : Int) (r2 : List Int) (t : Int), Ev (fun k => spec_l10Best.f k l) (r0, r1, r2, t) ∧ Ev (fun k => impl_BestPlan.l0 k l (-1) 0 0 0 []) (r0, r1, r2) ∧ Fin l (-1) t r0 r1 r2 (fun _ _ => True) := by
  have h4 := h.1
  obtain ⟨N, hN⟩ : ∃ N : Nat, N = 5 := ⟨5, rfl⟩
  obtain ⟨M, hM⟩ : ∃ N : Nat, N = 25 := ⟨25, rfl⟩
  have top := down (n := N) (P := fun o => ∀ (t b0 b1 : Int) (b2 : List Int), Held l t b0 b1 b2 → ∃ (r0 r1 : Int) (r2 : List Int) (t' : Int), Ev (fun k => spec_l10Best.l0 k l t (o : Int) b0 b1 b2) (r0, r1, r2, t') ∧ Ev (fun k => impl_BestPlan.l0 k l t (o : Int) b0 b1 b2) (r0, r1, r2) ∧ Fin l t t' r0 r1 r2 (fun o' _ => o ≤ o')) ?_ ?_
  · obtain ⟨r0, r1, r2, t', g1, g2, g3⟩ := top (-1) 0 0 [] (.inl (by decide))
    exact ⟨r0, r1, r2, t', g1, g2, g3.held, g3.less, fun o m K a b _ => g3.least o m K a b (Nat.zero_le o)⟩
  · intro t b0 b1 b2 hb
    exact ⟨b0, b1, b2, t, Ev.step (fun k => rfl) (evneg (by omega) (Ev.now _)), Ev.step (fun k => rfl) (evneg (by omega) (Ev.now _)), hb, fun h0 => ⟨h0, Int.le_refl t⟩, fun o m K a _ c => by have := a.o4; omega⟩
  intro o ho iho
  have mid := down (n := N) (P := fun m => ∀ (t b0 b1 : Int) (b2 : List Int), Held l t b0 b1 b2 → ∃ (r0 r1 : Int) (r2 : List Int) (t' : Int), Ev (fun k => spec_l10Best.l1 k l t (o : Int) (m : Int) b0 b1 b2) (r0, r1, r2, t') ∧ Ev (fun k => impl_BestPlan.l1 k l t (o : Int) (Res o l) (m : Int) b0 b1 b2) (r0, r1, r2) ∧ Fin l t t' r0 r1 r2 (fun o' m' => o < o' ∨ o = o' ∧ m ≤ m')) ?_ ?_
  · intro t b0 b1 b2 hb
    obtain ⟨r0, r1, r2, t', g1, g2, g3⟩ := mid t b0 b1 b2 hb
    exact ⟨r0, r1, r2, t', Ev.step (fun k => rfl) (evpos (by omega) g1), Ev.step (fun k => rfl) (evpos (by omega) (Ev.bind (res_impl o l h (by omega) hz) g2)), g3.held, g3.less, fun o' m K a b c => g3.least o' m K a b (by omega)⟩
  · intro t b0 b1 b2 hb
    obtain ⟨r0, r1, r2, t', g1, g2, g3⟩ := iho t b0 b1 b2 hb
    refine ⟨r0, r1, r2, t', Ev.step (fun k => rfl) (evneg (by omega) ?_), Ev.step (fun k => rfl) (evneg (by omega) ?_), g3.held, g3.less, fun o' m K a b c => g3.least o' m K a b (by have := a.m4; omega)⟩
    · rw [w64s (by omega)]; exact g1
    · rw [w64s (by omega)]; exact g2
  intro m hm ihm t b0 b1 b2 hb
  obtain ⟨q, q1, q2, q3⟩ := parts_both (o : Int) (m : Int) l.length h4
  cases q with
  | false =>
    obtain ⟨r0, r1, r2, t', g1, g2, g3⟩ := ihm t b0 b1 b2 hb
    refine ⟨r0, r1, r2, t', Ev.step (fun k => rfl) (evpos (by omega) (evlet q1 (evneg (by decide) ?_))), Ev.step (fun k => rfl) (evpos (by omega) (evlet q2 (evneg (by decide) ?_))), g3.held, g3.less, fun o' m' K a b c => ?_⟩
    · rw [w64s (by omega)]; exact g1
    · rw [w64s (by omega)]; exact g2
    · by_cases e : o = o' ∧ m = m'
      · obtain ⟨rfl, rfl⟩ := e
        have := parts_conv h4 a
        rw [q1] at this
        cases this
      · exact g3.least o' m' K a b (by omega)
  | true =>
    obtain ⟨o', m', eo, em, o4, m4, ole, nd⟩ := q3 rfl
    obtain rfl : o = o' := by omega
    obtain rfl : m = m' := by omega
    have F : Feas o m l.length := ⟨o4, m4, ole, nd⟩
    have pw : 2 ^ m ≤ 16 := pow_le m m4
    have low := down (n := 2 ^ m) (P := fun i => ∀ (s : Int) (ks : List Int), ks.length = i → (∀ x ∈ ks, 0 ≤ x ∧ x ≤ 25) → s = tc o m l ks → (∀ K, Keys m K → tc o m l ks ≤ tc o m l (K.take i)) → ∃ (r0 r1 : Int) (r2 : List Int) (t' : Int), Ev (fun k => spec_l10Best.l2 k l t (o : Int) (m : Int) (Res o l) s (i : Int) b0 b1 b2 (o : Int) (m : Int) ks) (r0, r1, r2, t') ∧ Ev (fun k => impl_BestPlan.l2 k l t (o : Int) (Res o l) (m : Int) s ((2 ^ m : Nat) : Int) (i : Int) b0 b1 b2 (o : Int) (m : Int) ks) (r0, r1, r2) ∧ Fin l t t' r0 r1 r2 (fun o' m' => o < o' ∨ o = o' ∧ m ≤ m')) ?_ ?_
    · obtain ⟨r0, r1, r2, t', g1, g2, g3⟩ := low (6 + 26 * (o : Int)) [] rfl (fun x hx => by cases hx) (by show 6 + 26 * (o : Int) = 6 + 26 * (o : Int) + 0; omega) (fun K _ => by rw [List.take_zero]; exact Int.le_refl _)
      have ew : wrap64 (6 + wrap64 (26 * (o : Int))) = 6 + 26 * (o : Int) := by rw [w64 (n := 26 * (o : Int)) (by omega) (by omega), w64 (by omega) (by omega)]
      refine ⟨r0, r1, r2, t', Ev.step (fun k => rfl) (evpos (by omega) (evlet q1 (evpos rfl (Ev.bind (res_spec o l h o4) (by rw [ew]; exact g1))))), Ev.step (fun k => rfl) (evpos (by omega) (evlet q2 (evpos rfl (evpos (by omega) ?_)))), g3⟩
      rw [shl1 m m4, ew]; exact g2
    · intro s ks hk hkb hs hmin
      have hK : Keys m ks := ⟨hk, hkb⟩
      have hnn := tc_nn h F hK
      have hmin' : ∀ K, Keys m K → tc o m l ks ≤ tc o m l K := by
        intro K hK'
        have := hmin K hK'
        rwa [List.take_of_length_le (by rw [hK'.len]; exact Nat.le_refl _)] at this
      have held : Held l s (o : Int) (m : Int) ks := .inr ⟨o, m, rfl, rfl, F, hK, hs⟩
      by_cases c1 : t < 0
      · obtain ⟨r0, r1, r2, t', g1, g2, g3⟩ := ihm s (o : Int) (m : Int) ks held
        have l1 := g3.less (by omega)
        refine ⟨r0, r1, r2, t', Ev.step (fun k => rfl) (evneg (by rw [uw (m : Int) (by omega) (by omega), shl1 m m4]; omega) (evpos c1 ?_)), Ev.step (fun k => rfl) (evneg (by omega) (evpos c1 ?_)), g3.held, fun h0 => by omega, fun o' m' K a b c => ?_⟩
        · rw [w64s (by omega)]; exact g1
        · rw [w64s (by omega)]; exact g2
        · by_cases e : o = o' ∧ m = m'
          · obtain ⟨rfl, rfl⟩ := e
            have := hmin' K b
            exact ⟨l1.1, by omega⟩
          · exact g3.least o' m' K a b (by omega)
      by_cases c2 : s < t
      · obtain ⟨r0, r1, r2, t', g1, g2, g3⟩ := ihm s (o : Int) (m : Int) ks held
        have l1 := g3.less (by omega)
        refine ⟨r0, r1, r2, t', Ev.step (fun k => rfl) (evneg (by rw [uw (m : Int) (by omega) (by omega), shl1 m m4]; omega) (evneg c1 (evpos c2 ?_))), Ev.step (fun k => rfl) (evneg (by omega) (evneg c1 (evpos c2 ?_))), g3.held, fun h0 => ⟨l1.1, by omega⟩, fun o' m' K a b c => ?_⟩
        · rw [w64s (by omega)]; exact g1
        · rw [w64s (by omega)]; exact g2
        · by_cases e : o = o' ∧ m = m'
          · obtain ⟨rfl, rfl⟩ := e
            have := hmin' K b
            exact ⟨l1.1, by omega⟩
          · exact g3.least o' m' K a b (by omega)
      · obtain ⟨r0, r1, r2, t', g1, g2, g3⟩ := ihm t b0 b1 b2 hb
        have l1 := g3.less (by omega)
        refine ⟨r0, r1, r2, t', Ev.step (fun k => rfl) (evneg (by rw [uw (m : Int) (by omega) (by omega), shl1 m m4]; omega) (evneg c1 (evneg c2 ?_))), Ev.step (fun k => rfl) (evneg (by omega) (evneg c1 (evneg c2 ?_))), g3.held, g3.less, fun o' m' K a b c => ?_⟩
        · rw [w64s (by omega)]; exact g1
        · rw [w64s (by omega)]; exact g2
        · by_cases e : o = o' ∧ m = m'
          · obtain ⟨rfl, rfl⟩ := e
            have := hmin' K b
            exact ⟨l1.1, by omega⟩
          · exact g3.least o' m' K a b (by omega)
    · intro i hi ihi s ks hk hkb hs hmin
      obtain ⟨p1, p2, p3, pb⟩ := pt_t h F hi
      have hsb := tsum_bd h F ks 0 (by rw [Nat.zero_add, hk]; exact Nat.le_of_lt hi) hkb
      have s0 : 0 ≤ s ∧ s ≤ 1000000000000000 := by
        have : s = 6 + 26 * (o : Int) + tsum (pt o m l) ks 0 := hs
        have k16 : ks.length ≤ 16 := by rw [hk]; exact Nat.le_trans (Nat.le_of_lt hi) pw
        generalize tsum (pt o m l) ks 0 = u at *
        clear hs hmin ihi hi pw nd ole hkb p1 p2
        omega
      have keys := down (n := M) (P := fun z => ∀ (key : Nat) (c : Int), key ≤ 25 → c = kc key (pt o m l i) → (∀ j, j ≤ z → c ≤ kc j (pt o m l i)) → ∃ (r0 r1 : Int) (r2 : List Int) (t' : Int), Ev (fun k => spec_l10Best.l3 k l t (o : Int) (m : Int) (Res o l) s (i : Int) (pt o m l i) (key : Int) c ((z + 1 : Nat) : Int) b0 b1 b2 (o : Int) (m : Int) ks) (r0, r1, r2, t') ∧ Ev (fun k => impl_BestPlan.l3 k l t (o : Int) (Res o l) (m : Int) s (pt o m l i) (key : Int) c ((z + 1 : Nat) : Int) ((2 ^ m : Nat) : Int) (i : Int) b0 b1 b2 (o : Int) (m : Int) ks) (r0, r1, r2) ∧ Fin l t t' r0 r1 r2 (fun o' m' => o < o' ∨ o = o' ∧ m ≤ m')) ?_ ?_
      · obtain ⟨k1, k2⟩ := kc_t 0 (by omega) (pt o m l i) p3 pb
        obtain ⟨r0, r1, r2, t', g1, g2, g3⟩ := keys 0 (kc 0 (pt o m l i)) (by omega) rfl (fun (j : Nat) (hj : j ≤ 0) => by rw [Nat.le_zero.1 hj]; exact Int.le_refl _)
        refine ⟨r0, r1, r2, t', Ev.step (fun k => rfl) (evpos (by rw [uw (m : Int) (by omega) (by omega), shl1 m m4]; omega) (evlet p1 (Ev.bind k1 g1))), Ev.step (fun k => rfl) (evpos (by omega) (evlet p2 (Ev.step (fun k => rfl) (Ev.bind k2 (evpos (by decide) ?_))))), g3⟩
        rw [show wrap64 (0 + 1) = ((0 + 1 : Nat) : Int) from by unfold wrap64; omega]; exact g2
      · intro key c hkey hc hcm
        have lk : ks.length < 17592186044416 := by omega
        have cb := kc_bd key hkey (pt o m l i) p3 pb
        have ew : wrap64 (s + c) = s + c := by rw [hc]; exact w64 (by omega) (by omega)
        have et : tc o m l (ks ++ [(key : Int)]) = tc o m l ks + c := by
          unfold tc
          rw [tsum_app, Nat.zero_add, hk, Int.toNat_natCast, ← hc, ← Int.add_assoc]
        obtain ⟨r0, r1, r2, t', g1, g2, g3⟩ := ihi (s + c) (ks ++ [(key : Int)]) (by rw [List.length_append, List.length_singleton, hk]) (by
          intro x hx
          rcases List.mem_append.1 hx with hx | hx
          · exact hkb x hx
          · obtain rfl := List.mem_singleton.1 hx; omega) (by rw [et, hs]) (by
          intro K hK'
          have h1 := hmin K hK'
          have hiK : i < K.length := by rw [hK'.len]; exact hi
          have hb := hK'.bd _ (List.getElem_mem hiK)
          have e2 : tc o m l (K.take (i + 1)) = tc o m l (K.take i) + kc (K[i]).toNat (pt o m l i) := by
            unfold tc
            rw [← List.take_append_getElem hiK, tsum_app, Nat.zero_add, List.length_take, Nat.min_eq_left (Nat.le_of_lt hiK), ← Int.add_assoc]
          rw [et, e2]
          exact Int.add_le_add h1 (hcm _ (by omega)))
        refine ⟨r0, r1, r2, t', Ev.step (fun k => rfl) (evneg (by omega) (evpos lk ?_)), Ev.step (fun k => rfl) (evneg (by omega) (evpos lk ?_)), g3⟩
        · rw [w64s (by omega), ew]; exact g1
        · rw [w64s (by omega), ew]; exact g2
      · intro z hz' ihz key c hkey hc hcm
        obtain ⟨k1, k2⟩ := kc_t (z + 1) (by omega) (pt o m l i) p3 pb
        have cb := kc_bd key hkey (pt o m l i) p3 pb
        by_cases c3 : kc (z + 1) (pt o m l i) < c
        · obtain ⟨r0, r1, r2, t', g1, g2, g3⟩ := ihz (z + 1) (kc (z + 1) (pt o m l i)) (by omega) rfl (fun j hj => by
            by_cases ej : j = z + 1
            · rw [ej]; exact Int.le_refl _
            · exact Int.le_trans (Int.le_of_lt c3) (hcm j (by omega)))
          refine ⟨r0, r1, r2, t', Ev.step (fun k => rfl) (evpos (by omega) (Ev.bind k1 (evpos c3 ?_))), Ev.step (fun k => rfl) (evpos (by omega) (Ev.bind k2 (evneg (by omega) (evpos c3 ?_)))), g3⟩
          · rw [w64s (by omega)]; exact g1
          · rw [w64s (by omega)]; exact g2
        · obtain ⟨r0, r1, r2, t', g1, g2, g3⟩ := ihz key c hkey hc (fun j hj => by
            by_cases ej : j = z + 1
            · rw [ej]; exact Int.not_lt.1 c3
            · exact hcm j (by omega))
          refine ⟨r0, r1, r2, t', Ev.step (fun k => rfl) (evpos (by omega) (Ev.bind k1 (evneg c3 ?_))), Ev.step (fun k => rfl) (evpos (by omega) (Ev.bind k2 (evneg (by omega) (evneg c3 ?_)))), g3⟩
          · rw [w64s (by omega)]; exact g1
          · rw [w64s (by omega)]; exact g2
/-- What a plan costs, where it fits. -/
theorem cost_t {o m : Nat} {l K : List Int} (h : Good l) (hz : Ev (fun k => impl_zlist.f k l) true) (hs : Ev (fun k => spec_l10List.f k l) true) (F : Feas o m l.length) (hK : Keys m K) : Ev (fun k => impl_PlanCost.f k (o : Int) (m : Int) K l) (tc o m l K) ∧ Ev (fun k => spec_PlanCost.f k (o : Int) (m : Int) K l) (tc o m l K) := by
  have h4 := h.1
  have m4 := F.m4
  have o4 := F.o4
  have pw : 2 ^ m ≤ 16 := pow_le m m4
  have k16 : K.length ≤ 16 := by rw [hK.len]; exact pw
  have q1 := parts_conv h4 F
  have q2 : impl_zfits.f (o : Int) (m : Int) (l.length : Int) = some true := by
    obtain ⟨q, e1, e2, _⟩ := parts_both (o : Int) (m : Int) l.length h4
    rw [q1] at e1
    rw [e2, ← e1]
  have um := uw (m : Int) (by omega) (by omega)
  have s1 := shl1 m m4
  have f0 : (0 : Int) ≤ (m : Int) := Int.natCast_nonneg m
  have c1 : (K.length : Int) = ((2 ^ m : Nat) : Int) := congrArg Int.ofNat hK.len
  have c2 : ((K.length : Int) != ((2 ^ m : Nat) : Int)) = false := bne_eq_false_iff_eq.mpr c1
  have ew : wrap64 (6 + wrap64 (26 * (o : Int))) = 6 + 26 * (o : Int) := by rw [w64 (n := 26 * (o : Int)) (by omega) (by omega), w64 (by omega) (by omega)]
  have zr : Ev (fun k => impl_zrange.f k K 0 25 16) true := by
    refine evneg (by clear um s1 c1; omega) ?_
    refine down (n := K.length) (P := fun i => Ev (fun k => impl_zrange.l0 k 0 25 K (K.length : Int) (i : Int)) true) ?_ ?_
    · exact Ev.step (fun k => rfl) (evneg (by omega) (Ev.now _))
    · intro i hi ih
      have hx := hK.bd _ (List.getElem_mem hi)
      have er : rd K (i : Int) = K[i] := by rw [rd_nat, getD_lt hi]
      refine Ev.step (fun k => rfl) (evpos (Int.ofNat_lt.2 hi) (evpos (Int.natCast_nonneg i) (evpos (Int.ofNat_lt.2 hi) (evneg (by rw [er]; exact Int.not_lt.2 hx.1) (evneg (by rw [er]; exact Int.not_lt.2 hx.2) ?_)))))
      rw [w64s (Nat.le_trans (Nat.le_of_lt hi) (Nat.le_trans k16 (by decide)))]; exact ih
  have main := down (n := K.length) (P := fun i => ∀ s : Int, 0 ≤ s → s ≤ 200 + (i : Int) * 8589934900000 → Ev (fun k => impl_PlanCost.l0 k (Res o l) s K (K.length : Int) (i : Int) (o : Int) (m : Int) K) (s + tsum (pt o m l) (K.drop i) i) ∧ Ev (fun k => spec_PlanCost.l0 k (Res o l) s K (K.length : Int) (i : Int) (o : Int) (m : Int) K) (s + tsum (pt o m l) (K.drop i) i)) ?_ ?_
  · obtain ⟨g1, g2⟩ := main (6 + 26 * (o : Int)) (by omega) (by omega)
    rw [List.drop_zero] at g1 g2
    refine ⟨Ev.bind hz (evpos rfl (evlet q2 (evpos rfl (evpos f0 (evpos (by rw [s1]; exact c1) (Ev.bind zr (Ev.step (fun k => rfl) (Ev.bind (res_impl o l h o4 hz) (by rw [ew]; exact g1))))))))), Ev.bind hs (evpos rfl (evlet q1 (evpos rfl (evpos (by rw [um]; exact f0) ?_))))⟩
    rw [um, s1, c2]
    exact Ev.step (fun k => rfl) (Ev.bind (res_spec o l h o4) (by rw [ew]; exact g2))
  · intro s _ _
    rw [List.drop_length, show tsum (pt o m l) [] K.length = 0 from rfl, Int.add_zero]
    exact ⟨Ev.step (fun k => rfl) (evneg (Int.lt_irrefl _) (Ev.now _)), Ev.step (fun k => rfl) (evneg (Int.lt_irrefl _) (Ev.now _))⟩
  · intro i hi ih s s0 s1'
    have hi2 : i < 2 ^ m := by rw [← hK.len]; exact hi
    have i16 : i < 16 := Nat.lt_of_lt_of_le hi k16
    obtain ⟨p1, p2, p3, pb⟩ := pt_t h F hi2
    have hx := hK.bd _ (List.getElem_mem hi)
    obtain ⟨key, hkey⟩ : ∃ n : Nat, K[i] = (n : Int) := ⟨K[i].toNat, (Int.toNat_of_nonneg hx.1).symm⟩
    have k25 : key ≤ 25 := by rw [hkey] at hx; exact Int.ofNat_le.1 hx.2
    have er : rd K (i : Int) = (key : Int) := by rw [rd_nat, getD_lt hi, hkey]
    obtain ⟨k1, k2⟩ := kc_t key k25 (pt o m l i) p3 pb
    have cb := kc_bd key k25 (pt o m l i) p3 pb
    have ed : tsum (pt o m l) (K.drop i) i = kc key (pt o m l i) + tsum (pt o m l) (K.drop (i + 1)) (i + 1) := by
      rw [List.drop_eq_getElem_cons hi, show tsum (pt o m l) (K[i] :: K.drop (i + 1)) i = kc (K[i]).toNat (pt o m l i) + tsum (pt o m l) (K.drop (i + 1)) (i + 1) from rfl, hkey, Int.toNat_natCast]
    have eb : 0 ≤ s + kc key (pt o m l i) ∧ s + kc key (pt o m l i) ≤ 200 + ((i + 1 : Nat) : Int) * 8589934900000 := by
      clear ed k1 k2 p1 p2 ih c2 c1 um s1 ew hi2 er hkey hx
      generalize kc key (pt o m l i) = u at *
      omega
    have ewc : wrap64 (s + kc key (pt o m l i)) = s + kc key (pt o m l i) := by
      clear ed k1 k2 p1 p2 ih c2 c1 um s1 ew hi2 er hkey hx
      generalize kc key (pt o m l i) = u at *
      exact w64 (by omega) (by omega)
    obtain ⟨g1, g2⟩ := ih (s + kc key (pt o m l i)) eb.1 eb.2
    rw [Int.add_assoc, ← ed] at g1 g2
    have ws : wrap64 ((i : Int) + 1) = ((i + 1 : Nat) : Int) := w64s (Nat.le_trans (Nat.le_of_lt i16) (by decide))
    refine ⟨Ev.step (fun k => rfl) (evpos (Int.ofNat_lt.2 hi) (evpos (Int.natCast_nonneg i) (evpos (Int.ofNat_lt.2 hi) (evlet p2 ?_)))), Ev.step (fun k => rfl) (evpos (Int.ofNat_lt.2 hi) (evpos (Int.natCast_nonneg i) (evpos (Int.ofNat_lt.2 hi) (evneg (by rw [er]; exact Int.not_lt.2 (Int.natCast_nonneg key)) ?_))))⟩
    · rw [er]
      refine Ev.bind k2 ?_
      rw [ewc, ws]; exact g1
    · rw [er, show decide ((key : Int) > 25) = false from decide_eq_false (Int.not_lt.2 (Int.ofNat_le.2 k25))]
      refine Ev.step (fun k => rfl) (evlet p1 (Ev.bind k1 ?_))
      rw [ewc, ws]; exact g2
theorem other_t {x l : List Int} (hl : ByteL l) (n : Nat) (hn : n ≤ 8) : ∃ (o m : Nat) (K : List Int), Ev (fun k => spec_OtherPlan.f k x l (n : Int)) ((o : Int), (m : Int), K) ∧ m ≤ 2 ∧ Keys m K := by
  have e5 : wrap64 (5 * (n : Int)) = 5 * (n : Int) := w64 (by omega) (by omega)
  obtain ⟨r1, a1, s1, e1, x1, y1, p1, q1⟩ := pick_t hl (5 * (n : Int)) (IntKind.u64.wrap (n : Int)) 5 (by omega) (by omega) (by omega)
  obtain ⟨r2, a2, s2, e2, x2, y2, p2, q2⟩ := pick_t hl a1 s1 3 (by omega) (by omega) (by omega)
  obtain ⟨o, rfl⟩ : ∃ n : Nat, r1 = (n : Int) := ⟨r1.toNat, by omega⟩
  obtain ⟨m, rfl⟩ : ∃ n : Nat, r2 = (n : Int) := ⟨r2.toNat, by omega⟩
  have m2 : m ≤ 2 := by omega
  have um := uw (m : Int) (by omega) (by omega)
  have s1' := shl1 m (by omega)
  have pw : 2 ^ m ≤ 16 := pow_le m (by omega)
  have main := down (n := 2 ^ m) (P := fun i => ∀ (ks : List Int) (a s : Int), ks.length = i → (∀ x ∈ ks, 0 ≤ x ∧ x ≤ 25) → 0 ≤ a → a ≤ 1000 + 3 * i → ∃ K : List Int, Ev (fun k => spec_OtherPlan.l0 k (i : Int) l a s (o : Int) (m : Int) ks) ((o : Int), (m : Int), K) ∧ Keys m K) ?_ ?_
  · obtain ⟨K, e, hK⟩ := main [] a2 s2 rfl (fun x hx => by cases hx) (by omega) (by omega)
    refine ⟨o, m, K, ?_, m2, hK⟩
    unfold spec_OtherPlan.f
    rw [e5]
    exact evlet e1 (evlet e2 e)
  · intro ks a s hk hb h0 h1
    refine ⟨ks, Ev.step (fun k => rfl) (evpos (by rw [um]; exact Int.natCast_nonneg m) (evneg (by rw [um, s1']; exact Int.lt_irrefl _) (Ev.now _))), hk, hb⟩
  · intro i hi ih ks a s hk hb h0 h1
    have i16 : i < 16 := Nat.lt_of_lt_of_le hi pw
    obtain ⟨r3, a3, s3, e3, x3, y3, p3, q3⟩ := pick_t hl a s 26 (by omega) h0 (by clear um s1' pw hi; omega)
    obtain ⟨K, e, hK⟩ := ih (ks ++ [r3]) a3 s3 (by rw [List.length_append, List.length_singleton, hk]) (by
      intro x hx
      rcases List.mem_append.1 hx with hx | hx
      · exact hb x hx
      · obtain rfl := List.mem_singleton.1 hx; omega) (by omega) (by clear um s1' pw hi; omega)
    refine ⟨K, Ev.step (fun k => rfl) (evpos (by rw [um]; exact Int.natCast_nonneg m) (evpos (by rw [um, s1']; exact Int.ofNat_lt.2 hi) (evlet e3 (evpos (by rw [hk]; exact Nat.lt_trans i16 (by decide)) ?_)))), hK⟩
    rw [w64s (Nat.le_trans (Nat.le_of_lt i16) (by decide))]; exact e
theorem FnPlan : laws_FnPlan.Pure := by
  intro l y _ _ hb _ _ hy
  refine Ev.rounds ?_
  have done : Ev (fun k => laws_FnPlan.j0 k l y true) true := Ev.step (fun k => rfl) (Ev.now _)
  by_cases c : (l.length : Int) > 1048576
  · exact evpos c done
  by_cases cy : (y.length : Int) > 1048576
  · refine evneg c ?_
    rw [decide_eq_true cy]; exact done
  have hl := bytel hb c
  have hy := bytel hy cy
  obtain ⟨x, a, s, e, xl, _, _⟩ := sound_t hl
  have ed : Ev (fun k => spec_DrawBestPlan.f k l) x := Ev.bind e (Ev.now _)
  refine evneg c ?_
  rw [decide_eq_false cy]
  obtain ⟨q, sp, zi, g⟩ := list_both x (by omega)
  cases q with
  | false =>
    have b1 : Ev (fun k => impl_BestPlan.f k x) (0, 0, []) := Ev.bind zi (evneg Bool.false_ne_true (Ev.now _))
    have b2 : Ev (fun k => spec_BestPlan.f k x) (0, 0, []) := Ev.bind sp (evneg Bool.false_ne_true (Ev.now _))
    have c1 : Ev (fun k => impl_PlanCost.f k 0 0 [] x) (-1) := Ev.bind zi (evneg Bool.false_ne_true (Ev.step (fun k => rfl) (Ev.now _)))
    have c2 : Ev (fun k => spec_PlanCost.f k 0 0 [] x) (-1) := Ev.bind sp (evneg Bool.false_ne_true (Ev.step (fun k => rfl) (Ev.now _)))
    exact Ev.step (fun k => rfl) (Ev.bind ed (Ev.bind b1 (Ev.bind c1 (Ev.bind b2 (Ev.bind c2 (evpos rfl (evpos (by decide) (Ev.now _))))))))
  | true =>
    have h := g rfl
    obtain ⟨r0, r1, r2, t, g1, g2, g3⟩ := best_both x h zi
    have F0 : Feas 0 0 x.length := ⟨by omega, by omega, Nat.zero_le _, by rw [Nat.pow_zero, Nat.div_one, Nat.mul_one]⟩
    have K0 : Keys 0 [0] := ⟨rfl, fun z hz => by obtain rfl := List.mem_singleton.1 hz; omega⟩
    have t0 := (g3.least 0 0 [0] F0 K0 trivial).1
    rcases g3.held with hn | ⟨o, m, rfl, rfl, F, hK, ht⟩
    · omega
    have b1 : Ev (fun k => impl_BestPlan.f k x) ((o : Int), (m : Int), r2) := Ev.bind zi (evpos rfl g2)
    have b2 : Ev (fun k => spec_BestPlan.f k x) ((o : Int), (m : Int), r2) := Ev.bind sp (evpos rfl (Ev.bind g1 (Ev.now _)))
    obtain ⟨c1, c2⟩ := cost_t h zi sp F hK
    rw [← ht] at c1 c2
    have loop := down (n := 8) (P := fun i => Ev (fun k => laws_FnPlan.l0 k y x t (i : Int)) true) ?_ ?_
    · exact Ev.step (fun k => rfl) (Ev.bind ed (Ev.bind b1 (Ev.bind c1 (Ev.bind b2 (Ev.bind c2 (evpos rfl (evneg (by omega) loop)))))))
    · exact Ev.step (f := fun _ => some true) (fun k => rfl) (Ev.now _)
    · intro i hi ih
      obtain ⟨o', m', K', e2, hm', hK'⟩ := other_t (x := x) hy i (by omega)
      have i8 : (i : Int) < 8 := by omega
      have ws : wrap64 ((i : Int) + 1) = ((i + 1 : Nat) : Int) := w64s (by omega)
      obtain ⟨q, q1, q2, q3⟩ := parts_both (o' : Int) (m' : Int) x.length h.1
      cases q with
      | false =>
        have c3 : Ev (fun k => impl_PlanCost.f k (o' : Int) (m' : Int) K' x) (-1) := Ev.bind zi (evpos rfl (evlet q2 (evneg Bool.false_ne_true (Ev.step (fun k => rfl) (Ev.now _)))))
        refine Ev.step (fun k => rfl) (evpos i8 (Ev.bind e2 (Ev.bind c3 (evneg (by decide) ?_))))
        rw [ws]; exact ih
      | true =>
        obtain ⟨o2, m2, eo, em, h1, h2, h3, h4⟩ := q3 rfl
        obtain rfl : o' = o2 := by omega
        obtain rfl : m' = m2 := by omega
        have F' : Feas o' m' x.length := ⟨h1, h2, h3, h4⟩
        obtain ⟨c3, _⟩ := cost_t h zi sp F' hK'
        have le := (g3.least o' m' K' F' hK' trivial).2
        have nn := tc_nn h F' hK'
        refine Ev.step (fun k => rfl) (evpos i8 (Ev.bind e2 (Ev.bind c3 (evpos nn (evneg (Int.not_lt.2 le) ?_)))))
        rw [ws]; exact ih
end Go.Proofs.Ytidblealnaicpaa.Pure

/- FnResidue: for every list of bytes that the draws are made of (at most 1048576 bytes, else the law is true at once), the residue of each order of the drawn list is as the reference tells it and restores the list, and two drawn lists turned and unturned are as they were. -/
import Derived.Test.YtggokppfhkebkaaPFnResiduex0
import Derived.Test.YtggokppfhkebkaaPFnResiduex1
import Derived.Test.YtggokppfhkebkaaPFnResiduex2
import Derived.Test.YtggokppfhkebkaaPFnResiduex3
import Derived.Test.YtggokppfhkebkaaPFnResiduex4
import Derived.Test.YtggokppfhkebkaaPFnResiduex5
import Derived.Test.YtggokppfhkebkaaPFnResiduex6
import Derived.Test.YtggokppfhkebkaaPFnResiduex7
import Derived.Test.YtggokppfhkebkaaPFnResiduex8
import Derived.Test.YtggokppfhkebkaaPFnResiduex9
import Derived.Test.YtggokppfhkebkaaK
import Derived.Laws.Bits64b
namespace Go.Proofs.Ytggokppfhkebkaa.Pure
open Go.RowKit Go.Proofs.Ytggokppfhkebkaa.PFnResidue Go.Proofs.Ytggokppfhkebkaa.K Go.Proofs.YtggokppfhkebkaaW.PrintWords Go.Proofs.YtggokppfhkebkaaW.PrintLast Go.Proofs.YtggokppfhkebkaaW.PrintMore

/-- The bytes that a cursor reads. -/
structure ByteL (l : List Int) : Prop where
  len : l.length ≤ 1048576
  bd : ∀ x ∈ l, 0 ≤ x ∧ x ≤ 255
theorem bytel {l : List Int} (h : ∀ x ∈ l, (Lit.int .u8 x).wf = true) (hl : ¬ (l.length : Int) > 1048576) : ByteL l := ⟨by omega, fun x hx => wfb (h x hx)⟩
theorem rd_byte {l : List Int} (h : ByteL l) {i : Int} (h0 : 0 ≤ i) (h1 : i < l.length) : 0 ≤ rd l i ∧ rd l i ≤ 255 := by
  obtain ⟨j, rfl⟩ : ∃ j : Nat, i = (j : Int) := ⟨i.toNat, by omega⟩
  rw [rd_nat, getD_lt (show j < l.length by omega)]
  exact h.bd _ (List.getElem_mem _)
theorem and255 (x : Int) : 0 ≤ Go.bits .and .u64 x 255 ∧ Go.bits .and .u64 x 255 ≤ 255 := by
  have e : Go.bits .and .u64 x 255 = IntKind.u64.wrap ((BitVec.ofInt 64 x &&& BitVec.ofInt 64 255).toNat : Int) := rfl
  have h : (BitVec.ofInt 64 x &&& BitVec.ofInt 64 255).toNat ≤ 255 := by
    rw [BitVec.toNat_and]; exact Nat.and_le_right
  rw [e, IntKind.wrap_u64]
  omega
theorem w255 {x : Int} (h : 0 ≤ x ∧ x ≤ 255) : wrap64 x = x := w64 (by omega) (by omega)
theorem next_t {l : List Int} (hl : ByteL l) (a s : Int) (h0 : 0 ≤ a) (h1 : a ≤ 2000000000000) : ∃ v s', spec_l1Cur_next.f l a s = some (v, a + 1, s') ∧ 0 ≤ v ∧ v ≤ 255 := by
  unfold spec_l1Cur_next.f
  rw [show wrap64 (a + 1) = a + 1 from w64 (by omega) (by omega)]
  by_cases c : a < (l.length : Int)
  · rw [if_pos c, if_pos h0, if_pos (by omega)]
    have := rd_byte hl h0 c
    exact ⟨_, _, rfl, by rw [w255 this]; exact this.1, by rw [w255 this]; exact this.2⟩
  · rw [if_neg c, if_neg (by omega)]
    refine ⟨_, _, rfl, ?_, ?_⟩
    · rw [w255 (and255 _)]; exact (and255 _).1
    · rw [w255 (and255 _)]; exact (and255 _).2
theorem pick_t {l : List Int} (hl : ByteL l) (a s n : Int) (hn : 1 ≤ n) (h0 : 0 ≤ a) (h1 : a ≤ 1000000000000) : ∃ r a' s', spec_l1Cur_pick.f l a s n = some (r, a', s') ∧ 0 ≤ r ∧ r < n ∧ a ≤ a' ∧ a' ≤ a + 3 := by
  unfold spec_l1Cur_pick.f
  by_cases c : n ≤ 1
  · rw [if_pos c]
    exact ⟨0, a, s, rfl, by omega, by omega, by omega, by omega⟩
  rw [if_neg c]
  have nz : ¬ n = 0 := by omega
  obtain ⟨v, s1, e1, v0, v1⟩ := next_t hl a s h0 (by omega)
  rw [e1, Option.bind_some]
  have fin : ∀ x : Int, 0 ≤ x → 0 ≤ Int.tmod x n ∧ Int.tmod x n < n := fun x hx => ⟨Int.tmod_nonneg _ hx, Int.tmod_lt_of_pos _ (by omega)⟩
  by_cases c2 : n > 200
  · rw [if_pos c2]
    obtain ⟨u, s2, e2, u0, u1⟩ := next_t hl (a + 1) s1 (by omega) (by omega)
    simp only [e2, Option.bind_some]
    rw [w64 (n := v * 256) (by omega) (by omega), w64 (n := v * 256 + u) (by omega) (by omega)]
    by_cases c3 : n > 50000
    · rw [if_pos c3]
      obtain ⟨t, s3, e3, t0, t1⟩ := next_t hl (a + 1 + 1) s2 (by omega) (by omega)
      simp only [e3, Option.bind_some]
      rw [if_neg nz, w64 (n := (v * 256 + u) * 256) (by omega) (by omega), w64 (n := (v * 256 + u) * 256 + t) (by omega) (by omega)]
      exact ⟨_, _, _, rfl, (fin _ (by omega)).1, (fin _ (by omega)).2, by omega, by omega⟩
    · rw [if_neg c3, if_neg nz]
      exact ⟨_, _, _, rfl, (fin _ (by omega)).1, (fin _ (by omega)).2, by omega, by omega⟩
  · rw [if_neg c2, if_neg (by omega), if_neg nz]
    exact ⟨_, a + 1, s1, rfl, (fin _ (by omega)).1, (fin _ (by omega)).2, by omega, by omega⟩
theorem one_t {l : List Int} (hl : ByteL l) (a s n : Int) (hn : 1 ≤ n) (h0 : 0 ≤ a) (h1 : a ≤ 1000000000000) : ∃ (b : Bool) (a' s' : Int), spec_l1Cur_one.f l a s n = some (b, a', s') ∧ a ≤ a' ∧ a' ≤ a + 3 := by
  obtain ⟨r, a', s', e, _, _, h2, h3⟩ := pick_t hl a s n hn h0 h1
  unfold spec_l1Cur_one.f
  rw [e]
  exact ⟨_, _, _, rfl, h2, h3⟩
theorem pow25 : 2 ^ 25 = 33554432 := by decide
theorem pow26 {m : Nat} (hm : m ≤ 25) : 1 ≤ 2 ^ m ∧ 2 ^ m ≤ 33554432 := by
  have h : 2 ^ m ≤ 2 ^ 25 := Nat.pow_le_pow_right (by decide) hm
  rw [pow25] at h
  exact ⟨Nat.one_le_two_pow, h⟩
theorem shl_m (m : Nat) (hm : m ≤ 25) : shl .i64 1 (IntKind.u64.wrap (wrap64 (((m + 1 : Nat) : Int) - 1))) = ((2 ^ m : Nat) : Int) ∧ 0 ≤ IntKind.u64.wrap (wrap64 (((m + 1 : Nat) : Int) - 1)) := by
  have e1 : wrap64 (((m + 1 : Nat) : Int) - 1) = (m : Int) := by rw [w64 (by omega) (by omega)]; omega
  have e2 : IntKind.u64.wrap (m : Int) = (m : Int) := by rw [IntKind.wrap_u64]; omega
  have p := pow26 hm
  have m64 : m ≤ 64 := by omega
  rw [e1, e2]
  refine ⟨?_, Int.natCast_nonneg m⟩
  unfold shl
  rw [Int.toNat_natCast, Nat.min_eq_left (show m ≤ IntKind.i64.bits from m64), Int.one_mul, show (2 : Int) ^ m = ((2 ^ m : Nat) : Int) by push_cast; rfl, i64_w]
  generalize 2 ^ m = t at *
  exact w64 (by omega) (by omega)
theorem tone_loop {l : List Int} (hl : ByteL l) (top kd : Int) (ht0 : 1 ≤ top) (ht1 : top ≤ 33554432) (n : Nat) (hn : n ≤ 10000) :
    ∀ (o : List Int) (v st a s : Int), o.length = n → 0 ≤ a → a ≤ 100000000 → ∃ (o' : List Int) (a' s' : Int), Ev (fun k => spec_l1Cur_tone.l0 k top kd o v st (n : Int) ((0 : Nat) : Int) l a s) (o', a', s') ∧ o'.length = n ∧ a ≤ a' ∧ a' ≤ a + 3 * n := by
  have main := down (n := n) (P := fun i => ∀ (o : List Int) (v st a s : Int), o.length = n → 0 ≤ a → a ≤ 100000000 + 3 * i → ∃ (o' : List Int) (a' s' : Int), Ev (fun k => spec_l1Cur_tone.l0 k top kd o v st (n : Int) (i : Int) l a s) (o', a', s') ∧ o'.length = n ∧ a ≤ a' ∧ a' ≤ a + 3 * (n - i : Int)) ?_ ?_
  · intro o v st a s ho h0 h1
    obtain ⟨o', a', s', e, h2, h3, h4⟩ := main o v st a s ho h0 (by omega)
    exact ⟨o', a', s', e, h2, h3, by omega⟩
  · intro o v st a s ho h0 h1
    exact ⟨o, a, s, Ev.step (fun k => rfl) (evneg (by omega) (Ev.now _)), ho, by omega, by omega⟩
  · intro i hi ih o v st a s ho h0 h1
    have f0 : (0 : Int) ≤ (i : Int) := by omega
    have f1 : (i : Int) < (o.length : Int) := by omega
    have lt : (i : Int) < (n : Int) := by omega
    have j1 : ∀ (v st a s : Int), 0 ≤ a → a ≤ 100000000 + 3 * (i + 1) → ∃ (o' : List Int) (a' s' : Int), Ev (fun k => spec_l1Cur_tone.j1 k top kd o v st (i : Int) (n : Int) (i : Int) l a s) (o', a', s') ∧ o'.length = n ∧ a ≤ a' ∧ a' ≤ a + 3 * (n - i - 1 : Int) := by
      intro v st a s h0 h1
      have go : ∀ u z : Int, ∃ (o' : List Int) (a' s' : Int), Ev (fun k => if 0 ≤ (i : Int) then (if (i : Int) < (o.length : Int) then spec_l1Cur_tone.l0 k top kd (o.set (i : Int).toNat u) z st (n : Int) (wrap64 ((i : Int) + 1)) l a s else none) else none) (o', a', s') ∧ o'.length = n ∧ a ≤ a' ∧ a' ≤ a + 3 * (n - i - 1 : Int) := by
        intro u z
        obtain ⟨o', a', s', e, h2, h3, h4⟩ := ih (o.set i u) z st a s (by rw [List.length_set]; exact ho) h0 (by omega)
        refine ⟨o', a', s', evpos f0 (evpos f1 ?_), h2, h3, by omega⟩
        rw [w64s (by omega), Int.toNat_natCast]; exact e
      by_cases c1 : v < wrap64 (-top)
      · by_cases c2 : wrap64 (-top) ≥ top
        · obtain ⟨o', a', s', e, h⟩ := go (wrap64 (top - 1)) (wrap64 (top - 1))
          exact ⟨o', a', s', Ev.step (fun k => rfl) (evpos c1 (evpos c2 e)), h⟩
        · obtain ⟨o', a', s', e, h⟩ := go (wrap64 (-top)) (wrap64 (-top))
          exact ⟨o', a', s', Ev.step (fun k => rfl) (evpos c1 (evneg c2 e)), h⟩
      · by_cases c2 : v ≥ top
        · obtain ⟨o', a', s', e, h⟩ := go (wrap64 (top - 1)) (wrap64 (top - 1))
          exact ⟨o', a', s', Ev.step (fun k => rfl) (evneg c1 (evpos c2 e)), h⟩
        · obtain ⟨o', a', s', e, h⟩ := go v v
          exact ⟨o', a', s', Ev.step (fun k => rfl) (evneg c1 (evneg c2 e)), h⟩
    by_cases c0 : kd = 0
    · obtain ⟨r, a1, s1, e1, _, _, p1, q1⟩ := pick_t hl a s (2 * top) (by omega) h0 (by omega)
      obtain ⟨o', a', s', e, h2, h3, h4⟩ := j1 (wrap64 (r - top)) st a1 s1 (by omega) (by omega)
      refine ⟨o', a', s', Ev.step (fun k => rfl) (evpos lt (evpos c0 ?_)), h2, by omega, by omega⟩
      rw [show wrap64 (2 * top) = 2 * top from w64 (by omega) (by omega)]
      exact evlet e1 e
    by_cases c1 : kd = 1
    · by_cases c2 : Int.tmod (i : Int) 37 = 0
      · obtain ⟨o', a', s', e, h2, h3, h4⟩ := j1 (wrap64 (v + st)) (wrap64 (-st)) a s h0 (by omega)
        exact ⟨o', a', s', Ev.step (fun k => rfl) (evpos lt (evneg c0 (evpos c1 (evpos c2 e)))), h2, by omega, by omega⟩
      · obtain ⟨o', a', s', e, h2, h3, h4⟩ := j1 (wrap64 (v + st)) st a s h0 (by omega)
        exact ⟨o', a', s', Ev.step (fun k => rfl) (evpos lt (evneg c0 (evpos c1 (evneg c2 e)))), h2, by omega, by omega⟩
    by_cases c2 : kd = 2
    · obtain ⟨r, a1, s1, e1, _, _, p1, q1⟩ := pick_t hl a s 7 (by omega) h0 (by omega)
      obtain ⟨o', a', s', e, h2, h3, h4⟩ := j1 (wrap64 (v + wrap64 (r - 3))) st a1 s1 (by omega) (by omega)
      exact ⟨o', a', s', Ev.step (fun k => rfl) (evpos lt (evneg c0 (evneg c1 (evpos c2 (evlet e1 e))))), h2, by omega, by omega⟩
    by_cases c3 : kd = 3
    · obtain ⟨o', a', s', e, h2, h3, h4⟩ := j1 (wrap64 (Int.tdiv (wrap64 ((wrap64 ((i : Int) * (i : Int))) * st)) 9)) st a s h0 (by omega)
      exact ⟨o', a', s', Ev.step (fun k => rfl) (evpos lt (evneg c0 (evneg c1 (evneg c2 (evpos c3 e))))), h2, by omega, by omega⟩
    · obtain ⟨o', a', s', e, h2, h3, h4⟩ := j1 v st a s h0 (by omega)
      exact ⟨o', a', s', Ev.step (fun k => rfl) (evpos lt (evneg c0 (evneg c1 (evneg c2 (evneg c3 e))))), h2, by omega, by omega⟩
theorem tone_t {l : List Int} (hl : ByteL l) (a s : Int) (n m : Nat) (hn : n ≤ 10000) (hm : m ≤ 25) (h0 : 0 ≤ a) (h1 : a ≤ 50000000) : ∃ (o : List Int) (a' s' : Int), Ev (fun k => spec_l1Cur_tone.f k l a s (n : Int) ((m + 1 : Nat) : Int)) (o, a', s') ∧ o.length = n ∧ a ≤ a' ∧ a' ≤ a + 40000 := by
  obtain ⟨eT, eN⟩ := shl_m m hm
  obtain ⟨t0, t1⟩ := pow26 hm
  obtain ⟨T, hT⟩ : ∃ T : Int, T = ((2 ^ m : Nat) : Int) := ⟨_, rfl⟩
  have T0 : 1 ≤ T := by generalize 2 ^ m = t at *; omega
  have T1 : T ≤ 33554432 := by generalize 2 ^ m = t at *; omega
  rw [← hT] at eT
  obtain ⟨r1, a1, s1, e1, _, _, p1, q1⟩ := pick_t hl a s 5 (by omega) h0 (by omega)
  obtain ⟨r2, a2, s2, e2, _, _, p2, q2⟩ := pick_t hl a1 s1 (2 * T) (by omega) (by omega) (by omega)
  obtain ⟨r3, a3, s3, e3, _, _, p3, q3⟩ := pick_t hl a2 s2 40 (by omega) (by omega) (by omega)
  have ln : (List.replicate n (0 : Int)).length = n := by simp
  obtain ⟨o, a', s', e, h2, h3, h4⟩ := tone_loop hl T r1 T0 T1 n hn (List.replicate n 0) (wrap64 (r2 - T)) (wrap64 (r3 - 20)) a3 s3 ln (by omega) (by omega)
  refine ⟨o, a', s', ?_, h2, by omega, by omega⟩
  unfold spec_l1Cur_tone.f
  rw [eT, show wrap64 (2 * T) = 2 * T from w64 (by omega) (by omega), Int.toNat_natCast]
  refine evpos eN (evlet e1 (evpos (Int.natCast_nonneg n) (evpos (by omega) (evlet rfl (evlet e2 (evlet e3 ?_))))))
  simp only [ln]
  exact e
theorem sound_j2 {l : List Int} (hl : ByteL l) (n : Int) (o : List Int) (ho : (o.length : Int) = n) (b : Bool) (hb : b = true → n > 0) (a s : Int) (h0 : 0 ≤ a) (h1 : a ≤ 100000000) : ∃ (o' : List Int) (a' s' : Int), Ev (fun k => spec_l10Drawn.j2 k n o b l a s) (o', l, a', s') ∧ o'.length = o.length ∧ 0 ≤ a' ∧ a' ≤ 100001000 := by
  cases b with
  | false => exact ⟨o, a, s, Ev.step (fun k => rfl) (Ev.now _), rfl, h0, by omega⟩
  | true =>
    have hn := hb rfl
    obtain ⟨r1, a1, s1, e1, x1, y1, p1, q1⟩ := pick_t hl a s n (by omega) h0 (by omega)
    obtain ⟨r2, a2, s2, e2, x2, y2, p2, q2⟩ := pick_t hl a1 s1 4 (by omega) (by omega) (by omega)
    refine ⟨o.set r1.toNat (rd [67108863, 67108864, (-67108864), (-67108865)] r2), a2, s2, Ev.step (fun k => rfl) ?_, by rw [List.length_set], by omega, by omega⟩
    simp only [spec_l10Drawn.j2, if_true]
    exact evlet e1 (evlet rfl (evlet e2 (evpos x2 (evpos (by simp only [List.length_cons, List.length_nil]; omega) (evpos x1 (evpos (by show r1 < (o.length : Int); omega) (Ev.now _)))))))
theorem sound_j1 {l : List Int} (hl : ByteL l) (m n : Nat) (hn : n ≤ 5000) (hm : m ≤ 25) (a s : Int) (h0 : 0 ≤ a) (h1 : a ≤ 10000000) : ∃ (o' : List Int) (a' s' : Int), Ev (fun k => spec_l10Drawn.j1 k ((m + 1 : Nat) : Int) (n : Int) l a s) (o', l, a', s') ∧ o'.length = n ∧ 0 ≤ a' ∧ a' ≤ 100001000 := by
  obtain ⟨o, a1, s1, e1, ol, p1, q1⟩ := tone_t hl a s n m (by omega) hm h0 (by omega)
  obtain ⟨b2, a2, s2, e2, p2, q2⟩ := one_t hl a1 s1 12 (by omega) (by omega) (by omega)
  cases b2 with
  | false =>
    obtain ⟨o', a', s', e, h2, h3⟩ := sound_j2 hl (n : Int) o (by omega) false (fun h => by cases h) a2 s2 (by omega) (by omega)
    exact ⟨o', a', s', Ev.step (fun k => rfl) (Ev.bind e1 (evlet e2 (evneg Bool.false_ne_true e))), by omega, h3⟩
  | true =>
    obtain ⟨o', a', s', e, h2, h3⟩ := sound_j2 hl (n : Int) o (by omega) (decide ((n : Int) > 0)) (fun h => of_decide_eq_true h) a2 s2 (by omega) (by omega)
    exact ⟨o', a', s', Ev.step (fun k => rfl) (Ev.bind e1 (evlet e2 (evpos rfl e))), by omega, h3⟩
theorem sound_t {l : List Int} (hl : ByteL l) : ∃ (o : List Int) (a s : Int), Ev (fun k => spec_l10Drawn.f k l) (o, l, a, s) ∧ o.length ≤ 5000 ∧ 0 ≤ a ∧ a ≤ 100001000 := by
  obtain ⟨r1, a1, s1, e1, x1, y1, p1, q1⟩ := pick_t hl 0 0 25 (by omega) (by omega) (by omega)
  obtain ⟨r2, a2, s2, e2, x2, y2, p2, q2⟩ := pick_t hl a1 s1 40 (by omega) (by omega) (by omega)
  obtain ⟨b3, a3, s3, e3, p3, q3⟩ := one_t hl a2 s2 3 (by omega) (by omega) (by omega)
  obtain ⟨m, hm, hm2⟩ : ∃ m : Nat, wrap64 (2 + r1) = ((m + 1 : Nat) : Int) ∧ m ≤ 25 := ⟨(r1 + 1).toNat, by rw [w64 (by omega) (by omega)]; omega, by omega⟩
  have j0 : ∀ (n : Nat) (a s : Int), n ≤ 4500 → 0 ≤ a → a ≤ 1000000 → ∃ (o : List Int) (a' s' : Int), Ev (fun k => spec_l10Drawn.j0 k ((m + 1 : Nat) : Int) (n : Int) l a s) (o, l, a', s') ∧ o.length ≤ 5000 ∧ 0 ≤ a' ∧ a' ≤ 100001000 := by
    intro n a s hn h0 h1
    obtain ⟨b4, a4, s4, e4, p4, q4⟩ := one_t hl a s 30 (by omega) h0 (by omega)
    cases b4 with
    | false =>
      obtain ⟨o, a', s', e, h2, h3⟩ := sound_j1 hl m n (by omega) hm2 a4 s4 (by omega) (by omega)
      exact ⟨o, a', s', Ev.step (fun k => rfl) (evlet e4 (evneg Bool.false_ne_true e)), by omega, h3⟩
    | true =>
      obtain ⟨r5, a5, s5, e5, x5, y5, p5, q5⟩ := pick_t hl a4 s4 3 (by omega) (by omega) (by omega)
      obtain ⟨j, hj⟩ : ∃ j : Nat, wrap64 (wrap64 (4000 + r5) - 1) = (j : Int) := ⟨(4000 + r5 - 1).toNat, by rw [w64 (n := 4000 + r5) (by omega) (by omega), w64 (by omega) (by omega)]; omega⟩
      have hj2 : j ≤ 4001 := by rw [w64 (n := 4000 + r5) (by omega) (by omega), w64 (by omega) (by omega)] at hj; omega
      obtain ⟨o, a', s', e, h2, h3⟩ := sound_j1 hl m j (by omega) hm2 a5 s5 (by omega) (by omega)
      refine ⟨o, a', s', Ev.step (fun k => rfl) (evlet e4 (evpos rfl (evlet e5 ?_))), by omega, h3⟩
      simp only [hj]
      exact e
  cases b3 with
  | false =>
    obtain ⟨n, rfl⟩ : ∃ n : Nat, r2 = (n : Int) := ⟨r2.toNat, by omega⟩
    obtain ⟨o, a', s', e, h⟩ := j0 n a3 s3 (by omega) (by omega) (by omega)
    refine ⟨o, a', s', evlet e1 (evlet e2 (evlet e3 (evneg Bool.false_ne_true ?_))), h⟩
    simp only [hm]
    exact e
  | true =>
    obtain ⟨r4, a4, s4, e4, x4, y4, p4, q4⟩ := pick_t hl a3 s3 8 (by omega) (by omega) (by omega)
    obtain ⟨j, hj⟩ : ∃ j : Nat, wrap64 (16 * r4) = (j : Int) := ⟨(16 * r4).toNat, by rw [w64 (by omega) (by omega)]; omega⟩
    have hj2 : j ≤ 112 := by rw [w64 (by omega) (by omega)] at hj; omega
    obtain ⟨o, a', s', e, h⟩ := j0 j a4 s4 (by omega) (by omega) (by omega)
    refine ⟨o, a', s', evlet e1 (evlet e2 (evlet e3 (evpos rfl (evlet e4 ?_)))), h⟩
    simp only [hm, hj]
    exact e
/-- A list of numbers that are no greater than a sample. -/
theorem list_both (l : List Int) (hl : l.length ≤ 1048576) : ∃ b : Bool, Ev (fun k => spec_l10List.f k l) b ∧ Ev (fun k => impl_zlist.f k l) b ∧ (b = true → l.length ≤ 4000 ∧ ∀ x ∈ l, -67108864 ≤ x ∧ x ≤ 67108863) := by
  have main := down (n := l.length) (P := fun i => ∃ q : Bool, Ev (fun k => spec_l10List.l0 k l l (l.length : Int) (i : Int)) (q && decide ((l.length : Int) ≤ 4000)) ∧ Ev (fun k => impl_zrange.l0 k (-67108864) 67108863 l (l.length : Int) (i : Int)) q ∧ (q = true → ∀ x ∈ l.drop i, -67108864 ≤ x ∧ x ≤ 67108863)) ?_ ?_
  · obtain ⟨q, h1, h2, h3⟩ := main
    by_cases c : (l.length : Int) ≤ 4000
    · rw [decide_eq_true c, Bool.and_true] at h1
      exact ⟨q, h1, Ev.bind (evneg (by omega) h2) (Ev.now _), fun h => ⟨by omega, by simpa using h3 h⟩⟩
    · rw [decide_eq_false c, Bool.and_false] at h1
      exact ⟨false, h1, Ev.bind (evpos (by omega) (Ev.now _)) (Ev.now _), fun h => by cases h⟩
  · exact ⟨true, Ev.step (fun k => rfl) (evneg (by omega) (Ev.now _)), Ev.step (fun k => rfl) (evneg (by omega) (Ev.now _)), fun _ x hx => by simp at hx⟩
  · intro i hi ⟨q, h1, h2, h3⟩
    by_cases c1 : rd l (i : Int) < -67108864
    · exact ⟨false, Ev.step (fun k => rfl) (evpos (by omega) (evpos (by omega) (evpos (by omega) (evpos c1 (Ev.now _))))), Ev.step (fun k => rfl) (evpos (by omega) (evpos (by omega) (evpos (by omega) (evpos c1 (Ev.now _))))), fun h => by cases h⟩
    by_cases c2 : rd l (i : Int) > 67108863
    · exact ⟨false, Ev.step (fun k => rfl) (evpos (by omega) (evpos (by omega) (evpos (by omega) (evneg c1 (evpos c2 (Ev.now _)))))), Ev.step (fun k => rfl) (evpos (by omega) (evpos (by omega) (evpos (by omega) (evneg c1 (evpos c2 (Ev.now _)))))), fun h => by cases h⟩
    refine ⟨q, Ev.step (fun k => rfl) (evpos (by omega) (evpos (by omega) (evpos (by omega) (evneg c1 (evneg c2 ?_))))), Ev.step (fun k => rfl) (evpos (by omega) (evpos (by omega) (evpos (by omega) (evneg c1 (evneg c2 ?_))))), ?_⟩
    · rw [w64s (by omega)]; exact h1
    · rw [w64s (by omega)]; exact h2
    · intro hq x hx
      rw [List.drop_eq_getElem_cons hi] at hx
      rw [rd_nat, getD_lt hi] at c1 c2
      rcases List.mem_cons.1 hx with rfl | hx
      · omega
      · exact h3 hq x hx
theorem same_guess (a : Int) (l : List Int) (b : Int) : spec_l10Guess.f a l b = impl_zguess.f a l b := rfl
theorem wb2 {a b : Int} (ha : -67108864 ≤ a ∧ a ≤ 67108863) (hb : -67108864 ≤ b ∧ b ≤ 67108863) : wrap64 (wrap64 (2 * a) - b) = 2 * a - b := by
  rw [w64 (n := 2 * a) (by omega) (by omega), w64 (by omega) (by omega)]
theorem wb3 {a b c : Int} (ha : -67108864 ≤ a ∧ a ≤ 67108863) (hb : -67108864 ≤ b ∧ b ≤ 67108863) (hc : -67108864 ≤ c ∧ c ≤ 67108863) : wrap64 (wrap64 (wrap64 (3 * a) - wrap64 (3 * b)) + c) = 3 * a - 3 * b + c := by
  rw [w64 (n := 3 * a) (by omega) (by omega), w64 (n := 3 * b) (by omega) (by omega), w64 (n := 3 * a - 3 * b) (by omega) (by omega), w64 (by omega) (by omega)]
theorem wb4 {a b c d : Int} (ha : -67108864 ≤ a ∧ a ≤ 67108863) (hb : -67108864 ≤ b ∧ b ≤ 67108863) (hc : -67108864 ≤ c ∧ c ≤ 67108863) (hd : -67108864 ≤ d ∧ d ≤ 67108863) :
    wrap64 (wrap64 (wrap64 (wrap64 (4 * a) - wrap64 (6 * b)) + wrap64 (4 * c)) - d) = 4 * a - 6 * b + 4 * c - d := by
  rw [w64 (n := 4 * a) (by omega) (by omega), w64 (n := 6 * b) (by omega) (by omega), w64 (n := 4 * c) (by omega) (by omega), w64 (n := 4 * a - 6 * b) (by omega) (by omega), w64 (n := 4 * a - 6 * b + 4 * c) (by omega) (by omega), w64 (by omega) (by omega)]
def Good (l : List Int) : Prop := l.length ≤ 4000 ∧ ∀ x ∈ l, -67108864 ≤ x ∧ x ≤ 67108863
theorem Good.at {l : List Int} (h : Good l) {j : Nat} (hj : j < l.length) : -67108864 ≤ rd l (j : Int) ∧ rd l (j : Int) ≤ 67108863 := by
  rw [rd_nat, getD_lt hj]; exact h.2 _ (List.getElem_mem hj)
theorem guess_ex (o i : Nat) (l : List Int) (h : Good l) (ho : o ≤ 4) (hi : o ≤ i) (hl : i < l.length) : ∃ v, spec_l10Guess.f (o : Int) l (i : Int) = some v ∧ -1006632960 ≤ v ∧ v ≤ 1006632960 := by
  have h4 := h.1
  have w : ∀ j : Nat, 1 ≤ j → j ≤ 4 → j ≤ o → wrap64 ((i : Int) - (j : Int)) = ((i - j : Nat) : Int) := by
    intro j _ _ _; rw [w64 (by omega) (by omega)]; omega
  have oc : o = 0 ∨ o = 1 ∨ o = 2 ∨ o = 3 ∨ o = 4 := by omega
  rcases oc with rfl | rfl | rfl | rfl | rfl
  · refine ⟨0, ?_, by omega, by omega⟩
    unfold spec_l10Guess.f
    rw [if_neg (by decide), if_neg (by decide), if_neg (by decide), if_neg (by decide)]
  · have w1 : wrap64 ((i : Int) - 1) = ((i - 1 : Nat) : Int) := w 1 (by omega) (by omega) (by omega)
    have a1 := h.at (show i - 1 < l.length by omega)
    refine ⟨rd l ((i - 1 : Nat) : Int), ?_, by omega, by omega⟩
    unfold spec_l10Guess.f
    rw [w1, if_pos (by decide), if_pos (by omega), if_pos (by omega)]
  · have w1 : wrap64 ((i : Int) - 1) = ((i - 1 : Nat) : Int) := w 1 (by omega) (by omega) (by omega)
    have w2 : wrap64 ((i : Int) - 2) = ((i - 2 : Nat) : Int) := w 2 (by omega) (by omega) (by omega)
    have a1 := h.at (show i - 1 < l.length by omega)
    have a2 := h.at (show i - 2 < l.length by omega)
    refine ⟨2 * rd l ((i - 1 : Nat) : Int) - rd l ((i - 2 : Nat) : Int), ?_, by omega, by omega⟩
    unfold spec_l10Guess.f
    rw [w1, w2, if_neg (by decide), if_pos (by decide), if_pos (by omega), if_pos (by omega), if_pos (by omega), if_pos (by omega), wb2 a1 a2]
  · have w1 : wrap64 ((i : Int) - 1) = ((i - 1 : Nat) : Int) := w 1 (by omega) (by omega) (by omega)
    have w2 : wrap64 ((i : Int) - 2) = ((i - 2 : Nat) : Int) := w 2 (by omega) (by omega) (by omega)
    have w3 : wrap64 ((i : Int) - 3) = ((i - 3 : Nat) : Int) := w 3 (by omega) (by omega) (by omega)
    have a1 := h.at (show i - 1 < l.length by omega)
    have a2 := h.at (show i - 2 < l.length by omega)
    have a3 := h.at (show i - 3 < l.length by omega)
    refine ⟨3 * rd l ((i - 1 : Nat) : Int) - 3 * rd l ((i - 2 : Nat) : Int) + rd l ((i - 3 : Nat) : Int), ?_, by omega, by omega⟩
    unfold spec_l10Guess.f
    rw [w1, w2, w3, if_neg (by decide), if_neg (by decide), if_pos (by decide), if_pos (by omega), if_pos (by omega), if_pos (by omega), if_pos (by omega), if_pos (by omega), if_pos (by omega), wb3 a1 a2 a3]
  · have w1 : wrap64 ((i : Int) - 1) = ((i - 1 : Nat) : Int) := w 1 (by omega) (by omega) (by omega)
    have w2 : wrap64 ((i : Int) - 2) = ((i - 2 : Nat) : Int) := w 2 (by omega) (by omega) (by omega)
    have w3 : wrap64 ((i : Int) - 3) = ((i - 3 : Nat) : Int) := w 3 (by omega) (by omega) (by omega)
    have w4 : wrap64 ((i : Int) - 4) = ((i - 4 : Nat) : Int) := w 4 (by omega) (by omega) (by omega)
    have a1 := h.at (show i - 1 < l.length by omega)
    have a2 := h.at (show i - 2 < l.length by omega)
    have a3 := h.at (show i - 3 < l.length by omega)
    have a4 := h.at (show i - 4 < l.length by omega)
    refine ⟨4 * rd l ((i - 1 : Nat) : Int) - 6 * rd l ((i - 2 : Nat) : Int) + 4 * rd l ((i - 3 : Nat) : Int) - rd l ((i - 4 : Nat) : Int), ?_, by omega, by omega⟩
    unfold spec_l10Guess.f
    rw [w1, w2, w3, w4, if_neg (by decide), if_neg (by decide), if_neg (by decide), if_pos (by decide), if_pos (by omega), if_pos (by omega), if_pos (by omega), if_pos (by omega), if_pos (by omega), if_pos (by omega), if_pos (by omega), if_pos (by omega), wb4 a1 a2 a3 a4]
def gs (o : Nat) (l : List Int) (i : Nat) : Int := (spec_l10Guess.f (o : Int) l (i : Int)).getD 0
theorem guess_some (o i : Nat) (l : List Int) (h : Good l) (ho : o ≤ 4) (hi : o ≤ i) (hl : i < l.length) : spec_l10Guess.f (o : Int) l (i : Int) = some (gs o l i) ∧ -1006632960 ≤ gs o l i ∧ gs o l i ≤ 1006632960 := by
  obtain ⟨v, e, b⟩ := guess_ex o i l h ho hi hl
  have : gs o l i = v := by unfold gs; rw [e]; rfl
  rw [this]; exact ⟨e, b⟩
def rv (o : Nat) (l : List Int) (i : Nat) : Int := if i < o then l.getD i 0 else wrap64 (l.getD i 0 - gs o l i)
def Res (o : Nat) (l : List Int) : List Int := (List.range l.length).map (rv o l)
theorem Res_len (o : Nat) (l : List Int) : (Res o l).length = l.length := by simp [Res]
theorem Res_bound (o : Nat) (l : List Int) (h : Good l) (ho : o ≤ 4) : ∀ x ∈ Res o l, -1073741824 ≤ x ∧ x ≤ 1073741824 := by
  intro x hx
  obtain ⟨i, hi, rfl⟩ := List.mem_map.1 hx
  have hi := List.mem_range.1 hi
  have b := h.at hi
  rw [rd_nat] at b
  unfold rv
  by_cases c : i < o
  · rw [if_pos c]; omega
  · obtain ⟨_, g⟩ := guess_some o i l h ho (by omega) hi
    rw [if_neg c, w64 (by omega) (by omega)]; omega
theorem res_spec (o : Nat) (l : List Int) (h : Good l) (ho : o ≤ 4) : Ev (fun k => spec_l10Residue.f k (o : Int) l) (Res o l) := by
  have h4 := h.1
  refine evpos (by omega) (evpos (by omega) ?_)
  rw [Int.toNat_natCast, ← fl_zero (0 : Int) l.length (rv o l)]
  refine down (n := l.length) (P := fun i => Ev (fun k => spec_l10Residue.l0 k (o : Int) l (fl 0 l.length (rv o l) i) (l.length : Int) (i : Int)) (Res o l)) ?_ ?_
  · refine Ev.step (fun k => rfl) (evneg (by omega) ?_)
    rw [fl_all]; exact Ev.now _
  · intro i hi ih
    have il : (i : Int) < ((fl 0 l.length (rv o l) i).length : Int) := by rw [fl_len]; omega
    refine Ev.step (fun k => rfl) (evpos (by omega) (evpos (by omega) (evpos (by omega) (evpos il (evlet rfl ?_)))))
    by_cases c : i < o
    · refine evneg (by omega) ?_
      have e : (fl 0 l.length (rv o l) i).set (i : Int).toNat (rd l (i : Int)) = fl 0 l.length (rv o l) (i + 1) := by
        rw [← fl_set, Int.toNat_natCast, rd_nat]; unfold rv; rw [if_pos c]
      rw [e, w64s (by omega)]; exact ih
    · refine evpos (by omega) (evlet (guess_some o i l h ho (by omega) hi).1 ?_)
      have e : ((fl 0 l.length (rv o l) i).set (i : Int).toNat (rd l (i : Int))).set (i : Int).toNat (wrap64 (rd ((fl 0 l.length (rv o l) i).set (i : Int).toNat (rd l (i : Int))) (i : Int) - gs o l i)) = fl 0 l.length (rv o l) (i + 1) := by
        rw [List.set_set, rd_nat, Int.toNat_natCast, set_getD (by rw [fl_len]; exact hi), ← fl_set, rd_nat]; unfold rv; rw [if_neg c]
      rw [e, w64s (by omega)]; exact ih
theorem zcopy_all (l : List Int) (hl : l.length ≤ 4000) : impl_zcopy.f l = some l := by
  unfold impl_zcopy.f
  rw [Option.bind_some, if_pos (by simp; omega)]; rfl
theorem res_impl (o : Nat) (l : List Int) (h : Good l) (ho : o ≤ 4) (hz : Ev (fun k => impl_zlist.f k l) true) : Ev (fun k => impl_Residue.f k (o : Int) l) (Res o l) := by
  have h4 := h.1
  have lp : Ev (fun k => impl_Residue.l0 k (o : Int) l l (o : Int)) (Res o l) := by
    have st : ∀ i, i ≤ o → f2 l.length (rv o l) (fun j => l.getD j 0) i = l := by
      intro i hi
      have e : f2 l.length (rv o l) (fun j => l.getD j 0) i = f2 l.length (rv o l) (fun j => l.getD j 0) 0 := by
        unfold f2
        apply List.map_congr_left
        intro j _
        by_cases c : j < i
        · rw [if_pos c, if_neg (by omega)]; unfold rv; rw [if_pos (by omega)]
        · rw [if_neg c, if_neg (by omega)]
      rw [e, f2_zero]
    by_cases c : o ≤ l.length
    · have m := down_to (n := l.length) (P := fun i => o ≤ i → Ev (fun k => impl_Residue.l0 k (o : Int) l (f2 l.length (rv o l) (fun j => l.getD j 0) i) (i : Int)) (Res o l)) ?_ ?_ o c (Nat.le_refl _)
      · rw [st o (Nat.le_refl _)] at m; exact m
      · intro _
        refine Ev.step (fun k => rfl) (evneg (by omega) ?_)
        rw [f2_all]; exact Ev.now _
      · intro i hi ih hoi
        have g := (guess_some o i l h ho hoi hi).1
        rw [same_guess] at g
        refine Ev.step (fun k => rfl) (evpos (by omega) (evpos (by omega) (evlet g (evpos (by rw [f2_len]; omega) ?_))))
        have e : (f2 l.length (rv o l) (fun j => l.getD j 0) i).set (i : Int).toNat (wrap64 (rd l (i : Int) - gs o l i)) = f2 l.length (rv o l) (fun j => l.getD j 0) (i + 1) := by
          rw [← f2_set, Int.toNat_natCast, rd_nat]; unfold rv; rw [if_neg (by omega)]
        rw [e, w64s (by omega)]; exact ih (by omega)
    · have e : Res o l = l := by
        have := st l.length (by omega)
        rw [f2_all] at this; exact this
      refine Ev.step (fun k => rfl) (evneg (by omega) ?_)
      rw [e]; exact Ev.now _
  refine Ev.bind hz (evpos rfl (evneg (by omega) ?_))
  rw [decide_eq_false (by omega)]
  exact Ev.step (fun k => rfl) (evlet (zcopy_all l h4) lp)
theorem zrange_t (l : List Int) (a b n : Int) (h : ∀ x ∈ l, a ≤ x ∧ x ≤ b) (hn : (l.length : Int) ≤ n) (hl : l.length ≤ 4611686018427387904) : Ev (fun k => impl_zrange.f k l a b n) true := by
  refine evneg (by omega) ?_
  refine down (n := l.length) (P := fun i => Ev (fun k => impl_zrange.l0 k a b l (l.length : Int) (i : Int)) true) ?_ ?_
  · exact Ev.step (fun k => rfl) (evneg (by omega) (Ev.now _))
  · intro i hi ih
    have hx := h _ (List.getElem_mem hi)
    have er : rd l (i : Int) = l[i] := by rw [rd_nat, getD_lt hi]
    refine Ev.step (fun k => rfl) (evpos (by omega) (evpos (by omega) (evpos (by omega) (evneg (by rw [er]; omega) (evneg (by rw [er]; omega) ?_)))))
    rw [w64s (by omega)]; exact ih
theorem guess_cong (o i : Nat) (l m : List Int) (hm : m.length = l.length) (ho : o ≤ 4) (hi : o ≤ i) (hl : i < l.length) (h4 : l.length ≤ 4000) (he : ∀ j : Nat, j < i → rd m (j : Int) = rd l (j : Int)) : spec_l10Guess.f (o : Int) m (i : Int) = spec_l10Guess.f (o : Int) l (i : Int) := by
  have w : ∀ j : Nat, 1 ≤ j → j ≤ 4 → j ≤ o → wrap64 ((i : Int) - (j : Int)) = ((i - j : Nat) : Int) := by
    intro j _ _ _; rw [w64 (by omega) (by omega)]; omega
  have oc : o = 0 ∨ o = 1 ∨ o = 2 ∨ o = 3 ∨ o = 4 := by omega
  rcases oc with rfl | rfl | rfl | rfl | rfl
  · rfl
  · have w1 : wrap64 ((i : Int) - 1) = ((i - 1 : Nat) : Int) := w 1 (by omega) (by omega) (by omega)
    have p : ((1 : Nat) : Int) = 1 := rfl
    unfold spec_l10Guess.f
    rw [if_pos p, if_pos p, w1, hm, he (i - 1) (by omega)]
  · have w1 : wrap64 ((i : Int) - 1) = ((i - 1 : Nat) : Int) := w 1 (by omega) (by omega) (by omega)
    have w2 : wrap64 ((i : Int) - 2) = ((i - 2 : Nat) : Int) := w 2 (by omega) (by omega) (by omega)
    have n1 : ¬ ((2 : Nat) : Int) = 1 := by decide
    have p : ((2 : Nat) : Int) = 2 := rfl
    unfold spec_l10Guess.f
    rw [if_neg n1, if_neg n1, if_pos p, if_pos p, w1, w2, hm, he (i - 1) (by omega), he (i - 2) (by omega)]
  · have w1 : wrap64 ((i : Int) - 1) = ((i - 1 : Nat) : Int) := w 1 (by omega) (by omega) (by omega)
    have w2 : wrap64 ((i : Int) - 2) = ((i - 2 : Nat) : Int) := w 2 (by omega) (by omega) (by omega)
    have w3 : wrap64 ((i : Int) - 3) = ((i - 3 : Nat) : Int) := w 3 (by omega) (by omega) (by omega)
    have n1 : ¬ ((3 : Nat) : Int) = 1 := by decide
    have n2 : ¬ ((3 : Nat) : Int) = 2 := by decide
    have p : ((3 : Nat) : Int) = 3 := rfl
    unfold spec_l10Guess.f
    rw [if_neg n1, if_neg n1, if_neg n2, if_neg n2, if_pos p, if_pos p, w1, w2, w3, hm, he (i - 1) (by omega), he (i - 2) (by omega), he (i - 3) (by omega)]
  · have w1 : wrap64 ((i : Int) - 1) = ((i - 1 : Nat) : Int) := w 1 (by omega) (by omega) (by omega)
    have w2 : wrap64 ((i : Int) - 2) = ((i - 2 : Nat) : Int) := w 2 (by omega) (by omega) (by omega)
    have w3 : wrap64 ((i : Int) - 3) = ((i - 3 : Nat) : Int) := w 3 (by omega) (by omega) (by omega)
    have w4 : wrap64 ((i : Int) - 4) = ((i - 4 : Nat) : Int) := w 4 (by omega) (by omega) (by omega)
    have n1 : ¬ ((4 : Nat) : Int) = 1 := by decide
    have n2 : ¬ ((4 : Nat) : Int) = 2 := by decide
    have n3 : ¬ ((4 : Nat) : Int) = 3 := by decide
    have p : ((4 : Nat) : Int) = 4 := rfl
    unfold spec_l10Guess.f
    rw [if_neg n1, if_neg n1, if_neg n2, if_neg n2, if_neg n3, if_neg n3, if_pos p, if_pos p, w1, w2, w3, w4, hm, he (i - 1) (by omega), he (i - 2) (by omega), he (i - 3) (by omega), he (i - 4) (by omega)]
theorem restore_t (o : Nat) (l : List Int) (h : Good l) (ho : o ≤ 4) : Ev (fun k => impl_Restore.f k (o : Int) (Res o l)) l := by
  have h4 := h.1
  have rl := Res_len o l
  have z := zrange_t (Res o l) (-2147483648) 2147483647 4000 (fun x hx => by have := Res_bound o l h ho x hx; omega) (by omega) (by omega)
  have cp : impl_zcopy.f (Res o l) = some (Res o l) := zcopy_all _ (by omega)
  refine Ev.bind z (evpos rfl (evneg (by omega) ?_))
  rw [decide_eq_false (by omega)]
  refine Ev.step (fun k => rfl) (evlet cp ?_)
  have main := down (n := l.length) (P := fun i => Ev (fun k => impl_Restore.l0 k (o : Int) (f2 l.length (fun j => l.getD j 0) (rv o l) i) (l.length : Int) (i : Int)) l) ?_ ?_
  · have e0 : f2 l.length (fun j => l.getD j 0) (rv o l) 0 = Res o l := by
      unfold f2 Res
      apply List.map_congr_left
      intro j _
      rw [if_neg (Nat.not_lt_zero j)]
    rw [e0] at main
    rw [rl]
    exact main
  · have e1 := map_range_get l 0 id
    simp only [id_eq, List.map_id_fun] at e1
    rw [f2_all, e1]
    exact Ev.step (fun k => rfl) (evneg (by omega) (Ev.now _))
  · intro i hi ih
    have hb := h.at hi
    rw [rd_nat] at hb
    have fl := f2_len l.length (fun j => l.getD j 0) (rv o l) i
    have gi : rd (f2 l.length (fun j => l.getD j 0) (rv o l) i) (i : Int) = rv o l i := by
      rw [rd_nat]; unfold f2; rw [range_getD _ _ _ _ hi, if_neg (Nat.lt_irrefl i)]
    have gj : ∀ j : Nat, j < i → rd (f2 l.length (fun j => l.getD j 0) (rv o l) i) (j : Int) = rd l (j : Int) := by
      intro j hj
      rw [rd_nat, rd_nat]; unfold f2; rw [range_getD _ _ _ _ (by omega), if_pos hj]
    have p0 : (0 : Int) ≤ (i : Int) := Int.natCast_nonneg i
    have p1 : (i : Int) < ((f2 l.length (fun j => l.getD j 0) (rv o l) i).length : Int) := by rw [fl]; omega
    rw [← f2_set] at ih
    refine Ev.step (fun k => rfl) (evpos (by omega) ?_)
    by_cases c : i < o
    · have ev : rv o l i = l.getD i 0 := by unfold rv; rw [if_pos c]
      refine evneg (by omega) (evpos p0 (evpos p1 (evneg (by rw [gi, ev]; omega) (evneg (by rw [gi, ev]; omega) ?_))))
      have es : (f2 l.length (fun j => l.getD j 0) (rv o l) i).set i (l.getD i 0) = f2 l.length (fun j => l.getD j 0) (rv o l) i := by
        rw [← ev, ← gi, rd_nat]
        apply List.ext_getElem
        · simp
        · intro q h1 h2
          rw [List.getElem_set]
          by_cases cq : i = q
          · subst cq; rw [if_pos rfl, getD_lt h2]
          · rw [if_neg cq]
      rw [es] at ih
      rw [w64s (by omega)]; exact ih
    · obtain ⟨g, g0, g1⟩ := guess_some o i l h ho (by omega) hi
      have g' : impl_zguess.f (o : Int) (f2 l.length (fun j => l.getD j 0) (rv o l) i) (i : Int) = some (gs o l i) := by
        rw [← same_guess, guess_cong o i l _ fl ho (by omega) hi h4 gj]; exact g
      have ev : wrap64 (rv o l i + gs o l i) = l.getD i 0 := by
        unfold rv
        rw [if_neg c, w64 (n := l.getD i 0 - gs o l i) (by omega) (by omega), w64 (by omega) (by omega)]
        omega
      refine evpos (by omega) (evpos p0 (evpos p1 (evlet g' (evneg (by rw [gi, ev]; omega) (evneg (by rw [gi, ev]; omega) ?_)))))
      rw [gi, ev, w64s (by omega), Int.toNat_natCast]; exact ih
theorem wInts_same (l : List Int) (hl : l.length ≤ 4611686018427387904) : Ev (fun k => laws_wInts.f k l l) true := by
  refine evpos rfl ?_
  refine down (n := l.length) (P := fun i => Ev (fun k => laws_wInts.l0 k l l (l.length : Int) (i : Int)) true) ?_ ?_
  · exact Ev.step (fun k => rfl) (evneg (by omega) (Ev.now _))
  · intro i hi h
    refine Ev.step (fun k => rfl) (evpos (by omega) (evpos (by omega) (evpos (by omega) (evpos (by omega) (evpos rfl ?_)))))
    rw [w64s (by omega)]; exact h
theorem and_i64 (y : Int) : Go.bits .and .i64 y 1 = y % 2 := by
  have e : Go.bits .and .i64 y 1 = IntKind.i64.wrap ((BitVec.ofInt 64 y &&& BitVec.ofInt 64 1).toNat : Int) := rfl
  have h : (BitVec.ofInt 64 y &&& BitVec.ofInt 64 1).toNat = (y % 2).toNat := by
    rw [BitVec.toNat_and, show (BitVec.ofInt 64 1).toNat = 1 from rfl, Nat.and_one_is_mod, BitVec.toNat_ofInt, show ((2 ^ 64 : Nat) : Int) = 18446744073709551616 from rfl]
    omega
  rw [e, h, i64_w, Int.toNat_of_nonneg (by omega)]
  exact w64 (by omega) (by omega)
/-- What Turn does to two numbers. -/
def tx (w a b : Int) : Int := if w = 2 then (a + b) / 2 else a
def ty (w a b : Int) : Int := if w > 0 then a - b else b
def TX (w : Int) (a b : List Int) : List Int := (List.range a.length).map fun i => tx w (a.getD i 0) (b.getD i 0)
def TY (w : Int) (a b : List Int) : List Int := (List.range a.length).map fun i => ty w (a.getD i 0) (b.getD i 0)
theorem TX_len (w : Int) (a b : List Int) : (TX w a b).length = a.length := by simp [TX]
theorem TY_len (w : Int) (a b : List Int) : (TY w a b).length = a.length := by simp [TY]
theorem f2_skip {n i : Nat} {f g : Nat → Int} (h : f i = g i) : f2 n f g i = f2 n f g (i + 1) := by
  unfold f2
  apply List.map_congr_left
  intro j _
  by_cases c : j < i
  · rw [if_pos c, if_pos (by omega)]
  · rw [if_neg c]
    by_cases c2 : j = i
    · subst c2; rw [if_pos (by omega)]; exact h.symm
    · rw [if_neg (by omega)]
theorem Good.getD {l : List Int} (h : Good l) {j : Nat} (hj : j < l.length) : -67108864 ≤ l.getD j 0 ∧ l.getD j 0 ≤ 67108863 := by
  have := h.at hj
  rwa [rd_nat] at this
theorem turn_t (w : Int) (a b : List Int) (ha : Good a) (hb : Good b) (hab : a.length = b.length) (w0 : 0 ≤ w) (w2 : w ≤ 2) (za : Ev (fun k => impl_zlist.f k a) true) (zb : Ev (fun k => impl_zlist.f k b) true) : Ev (fun k => impl_Turn.f k w a b) (TX w a b, TY w a b) := by
  have h4 := ha.1
  refine Ev.bind za (evpos rfl (Ev.bind zb (evpos rfl (evpos (by omega) (evneg (by omega) ?_)))))
  rw [decide_eq_false (by omega)]
  refine Ev.step (fun k => rfl) (evlet (zcopy_all a h4) (evlet (zcopy_all b hb.1) ?_))
  have main := down (n := a.length) (P := fun i => Ev (fun k => impl_Turn.l0 k w a b (f2 a.length (fun i => tx w (a.getD i 0) (b.getD i 0)) (fun j => a.getD j 0) i) (f2 a.length (fun i => ty w (a.getD i 0) (b.getD i 0)) (fun j => b.getD j 0) i) (a.length : Int) (i : Int)) (TX w a b, TY w a b)) ?_ ?_
  · have e := f2_zero b 0 (fun i => ty w (a.getD i 0) (b.getD i 0))
    rw [← hab] at e
    rw [f2_zero, e] at main
    exact main
  · rw [f2_all, f2_all]
    exact Ev.step (fun k => rfl) (evneg (by omega) (Ev.now _))
  · intro i hi ih
    have ba := ha.getD hi
    have bb := hb.getD (show i < b.length by omega)
    have lx := f2_len a.length (fun i => tx w (a.getD i 0) (b.getD i 0)) (fun j => a.getD j 0) i
    have ly := f2_len a.length (fun i => ty w (a.getD i 0) (b.getD i 0)) (fun j => b.getD j 0) i
    have p0 : (0 : Int) ≤ (i : Int) := Int.natCast_nonneg i
    have pa : (i : Int) < (a.length : Int) := by omega
    have pb : (i : Int) < (b.length : Int) := by omega
    have px : (i : Int) < ((f2 a.length (fun i => tx w (a.getD i 0) (b.getD i 0)) (fun j => a.getD j 0) i).length : Int) := by rw [lx]; omega
    have py : (i : Int) < ((f2 a.length (fun i => ty w (a.getD i 0) (b.getD i 0)) (fun j => b.getD j 0) i).length : Int) := by rw [ly]; omega
    have ws : wrap64 ((i : Int) + 1) = ((i + 1 : Nat) : Int) := w64s (by omega)
    refine Ev.step (fun k => rfl) (evpos pa ?_)
    by_cases c : w > 0
    · rw [← f2_set (f := fun i => ty w (a.getD i 0) (b.getD i 0))] at ih
      have ey : ty w (a.getD i 0) (b.getD i 0) = wrap64 (rd a (i : Int) - rd b (i : Int)) := by
        unfold ty; rw [if_pos c, rd_nat, rd_nat, w64 (by omega) (by omega)]
      refine evpos c (evpos p0 (evpos pa (evpos pb (evpos py (evlet rfl ?_)))))
      by_cases c2 : w = 2
      · rw [← f2_set (f := fun i => tx w (a.getD i 0) (b.getD i 0))] at ih
        have ex : tx w (a.getD i 0) (b.getD i 0) = wrap64 (rd a (i : Int) + rd b (i : Int)) / 2 := by
          unfold tx; rw [if_pos c2, rd_nat, rd_nat, w64 (by omega) (by omega)]
        refine evpos c2 (evpos px ?_)
        rw [ws, ← ex, ← ey, Int.toNat_natCast]; exact ih
      · rw [← f2_skip (f := fun i => tx w (a.getD i 0) (b.getD i 0)) (by show tx w _ _ = _; unfold tx; rw [if_neg c2])] at ih
        refine evneg c2 ?_
        rw [ws, ← ey, Int.toNat_natCast]; exact ih
    · rw [← f2_skip (f := fun i => tx w (a.getD i 0) (b.getD i 0)) (by show tx w _ _ = _; unfold tx; rw [if_neg (by omega)]), ← f2_skip (f := fun i => ty w (a.getD i 0) (b.getD i 0)) (by show ty w _ _ = _; unfold ty; rw [if_neg c])] at ih
      refine evneg c (evneg (by omega) ?_)
      rw [ws]; exact ih
theorem back_x (w a b : Int) (hw : w = 2) : (2 * tx w a b + ty w a b % 2 + ty w a b) / 2 = a := by
  unfold tx ty
  rw [if_pos hw, if_pos (by omega)]
  omega
theorem unturn_t (w : Int) (a b : List Int) (ha : Good a) (hb : Good b) (hab : a.length = b.length) (w0 : 0 ≤ w) (w2 : w ≤ 2) (za : Ev (fun k => impl_zlist.f k a) true) (zb : Ev (fun k => impl_zlist.f k b) true) : Ev (fun k => impl_Unturn.f k w (TX w a b) (TY w a b)) (a, b) := by
  have h4 := ha.1
  have lX := TX_len w a b
  have lY := TY_len w a b
  have bX : ∀ x ∈ TX w a b, -268435456 ≤ x ∧ x ≤ 268435455 := by
    intro x hx
    obtain ⟨i, hi, rfl⟩ := List.mem_map.1 hx
    have hi := List.mem_range.1 hi
    have ba := ha.getD hi
    have bb := hb.getD (show i < b.length by omega)
    unfold tx; split <;> omega
  have bY : ∀ x ∈ TY w a b, -268435456 ≤ x ∧ x ≤ 268435455 := by
    intro x hx
    obtain ⟨i, hi, rfl⟩ := List.mem_map.1 hx
    have hi := List.mem_range.1 hi
    have ba := ha.getD hi
    have bb := hb.getD (show i < b.length by omega)
    unfold ty; split <;> omega
  have z1 := zrange_t (TX w a b) (-268435456) 268435455 4000 bX (by omega) (by omega)
  have z2 := zrange_t (TY w a b) (-268435456) 268435455 4000 bY (by omega) (by omega)
  refine Ev.bind z1 (evpos rfl (Ev.bind z2 (evpos rfl (evpos (by omega) (evneg (by omega) ?_)))))
  rw [decide_eq_false (by omega)]
  refine Ev.step (fun k => rfl) (evlet (zcopy_all _ (by omega)) (evlet (zcopy_all _ (by omega)) ?_))
  have eX : ∀ i, i < a.length → (TX w a b).getD i 0 = tx w (a.getD i 0) (b.getD i 0) := fun i hi => by unfold TX; rw [range_getD _ _ _ _ hi]
  have eY : ∀ i, i < a.length → (TY w a b).getD i 0 = ty w (a.getD i 0) (b.getD i 0) := fun i hi => by unfold TY; rw [range_getD _ _ _ _ hi]
  have main := down (n := a.length) (P := fun i => Ev (fun k => impl_Unturn.l0 k w (TX w a b) (TY w a b) (f2 a.length (fun j => a.getD j 0) (fun j => (TX w a b).getD j 0) i) (f2 a.length (fun j => b.getD j 0) (fun j => (TY w a b).getD j 0) i) (a.length : Int) (i : Int)) (a, b)) ?_ ?_
  · have e1 := f2_zero (TX w a b) 0 (fun j => a.getD j 0)
    have e2 := f2_zero (TY w a b) 0 (fun j => b.getD j 0)
    rw [lX] at e1
    rw [lY] at e2
    rw [e1, e2] at main
    rw [lX]
    exact main
  · have e1 := map_range_get a 0 id
    have e2 := map_range_get b 0 id
    simp only [id_eq, List.map_id_fun] at e1 e2
    rw [← hab] at e2
    rw [f2_all, f2_all, e1, e2]
    exact Ev.step (fun k => rfl) (evneg (by omega) (Ev.bind za (evpos rfl (Ev.bind zb (evpos rfl (Ev.now _))))))
  · intro i hi ih
    have wp : w = 2 → w > 0 := fun h => by rw [h]; decide
    have ba := ha.getD hi
    have bb := hb.getD (show i < b.length by omega)
    have lx := f2_len a.length (fun j => a.getD j 0) (fun j => (TX w a b).getD j 0) i
    have ly := f2_len a.length (fun j => b.getD j 0) (fun j => (TY w a b).getD j 0) i
    have p0 : (0 : Int) ≤ (i : Int) := Int.natCast_nonneg i
    have pa : (i : Int) < ((TX w a b).length : Int) := by omega
    have pb : (i : Int) < ((TY w a b).length : Int) := by omega
    have px : (i : Int) < ((f2 a.length (fun j => a.getD j 0) (fun j => (TX w a b).getD j 0) i).length : Int) := by rw [lx]; omega
    have py : (i : Int) < ((f2 a.length (fun j => b.getD j 0) (fun j => (TY w a b).getD j 0) i).length : Int) := by rw [ly]; omega
    have ws : wrap64 ((i : Int) + 1) = ((i + 1 : Nat) : Int) := w64s (by omega)
    have gx : rd (TX w a b) (i : Int) = tx w (a.getD i 0) (b.getD i 0) := by rw [rd_nat, eX i hi]
    have gy : rd (TY w a b) (i : Int) = ty w (a.getD i 0) (b.getD i 0) := by rw [rd_nat, eY i hi]
    refine Ev.step (fun k => rfl) (evpos (Int.ofNat_lt.2 hi) ?_)
    by_cases c2 : w = 2
    · have hx := back_x w (a.getD i 0) (b.getD i 0) c2
      have bx : -268435456 ≤ tx w (a.getD i 0) (b.getD i 0) ∧ tx w (a.getD i 0) (b.getD i 0) ≤ 268435455 := by unfold tx; rw [if_pos c2]; omega
      have by' : ty w (a.getD i 0) (b.getD i 0) = a.getD i 0 - b.getD i 0 := by unfold ty; rw [if_pos (by omega)]
      have ex : wrap64 (wrap64 (wrap64 (2 * rd (TX w a b) (i : Int)) + Go.bits .and .i64 (rd (TY w a b) (i : Int)) 1) + rd (TY w a b) (i : Int)) / 2 = a.getD i 0 := by
        rw [gx, gy, and_i64]
        generalize tx w (a.getD i 0) (b.getD i 0) = x at *
        generalize ty w (a.getD i 0) (b.getD i 0) = y at *
        rw [w64 (n := 2 * x) (by omega) (by omega), w64 (n := 2 * x + y % 2) (by omega) (by omega), w64 (by omega) (by omega)]
        exact hx
      rw [← f2_set (f := fun j => a.getD j 0), ← f2_set (f := fun j => b.getD j 0)] at ih
      refine evpos c2 (evpos p0 (evpos pa (evpos pb (evpos px (evlet rfl (evpos (wp c2) (evpos py ?_)))))))
      rw [ex, ws, Int.toNat_natCast]
      have er : rd ((f2 a.length (fun j => a.getD j 0) (fun j => (TX w a b).getD j 0) i).set i (a.getD i 0)) (i : Int) = a.getD i 0 := by
        rw [rd_nat, set_getD (by rw [lx]; exact hi)]
      have eyy : wrap64 (a.getD i 0 - rd (TY w a b) (i : Int)) = b.getD i 0 := by rw [gy, by', w64 (by omega) (by omega)]; omega
      rw [er, eyy]
      exact ih
    · have ex : tx w (a.getD i 0) (b.getD i 0) = a.getD i 0 := by unfold tx; rw [if_neg c2]
      refine evneg c2 ?_
      rw [← f2_skip (f := fun j => a.getD j 0) (g := fun j => (TX w a b).getD j 0) (by show a.getD i 0 = (TX w a b).getD i 0; rw [eX i hi, ex])] at ih
      by_cases c : w > 0
      · have by' : ty w (a.getD i 0) (b.getD i 0) = a.getD i 0 - b.getD i 0 := by unfold ty; rw [if_pos c]
        rw [← f2_set (f := fun j => b.getD j 0)] at ih
        refine evpos c (evpos p0 (evpos px (evpos pb (evpos py ?_))))
        have er : rd (f2 a.length (fun j => a.getD j 0) (fun j => (TX w a b).getD j 0) i) (i : Int) = a.getD i 0 := by
          rw [rd_nat]; unfold f2; rw [range_getD _ _ _ _ hi, if_neg (Nat.lt_irrefl i)]
          show (TX w a b).getD i 0 = a.getD i 0
          rw [eX i hi, ex]
        have eyy : wrap64 (a.getD i 0 - rd (TY w a b) (i : Int)) = b.getD i 0 := by rw [gy, by', w64 (by omega) (by omega)]; omega
        rw [er, eyy, ws, Int.toNat_natCast]
        exact ih
      · have ey : ty w (a.getD i 0) (b.getD i 0) = b.getD i 0 := by unfold ty; rw [if_neg c]
        rw [← f2_skip (f := fun j => b.getD j 0) (g := fun j => (TY w a b).getD j 0) (by show b.getD i 0 = (TY w a b).getD i 0; rw [eY i hi, ey])] at ih
        refine evneg c ?_
        rw [ws]; exact ih
theorem drawturn_t {l : List Int} (hl : ByteL l) : ∃ (w : Int) (a b : List Int), Ev (fun k => spec_DrawTurn.f k l) (w, a, b) ∧ a.length ≤ 100 ∧ b.length ≤ 100 := by
  obtain ⟨r1, a1, s1, e1, x1, y1, p1, q1⟩ := pick_t hl 0 0 30 (by omega) (by omega) (by omega)
  obtain ⟨r2, a2, s2, e2, x2, y2, p2, q2⟩ := pick_t hl a1 s1 25 (by omega) (by omega) (by omega)
  obtain ⟨n, rfl⟩ : ∃ n : Nat, r1 = (n : Int) := ⟨r1.toNat, by omega⟩
  obtain ⟨m, hm, hm2⟩ : ∃ m : Nat, wrap64 (2 + r2) = ((m + 1 : Nat) : Int) ∧ m ≤ 25 := ⟨(r2 + 1).toNat, by rw [w64 (by omega) (by omega)]; omega, by omega⟩
  obtain ⟨x, a3, s3, e3, xl, p3, q3⟩ := tone_t hl a2 s2 n m (by omega) hm2 (by omega) (by omega)
  obtain ⟨y, a4, s4, e4, yl, p4, q4⟩ := tone_t hl a3 s3 n m (by omega) hm2 (by omega) (by omega)
  obtain ⟨r5, a5, s5, e5, x5, y5, p5, q5⟩ := pick_t hl a4 s4 3 (by omega) (by omega) (by omega)
  obtain ⟨r6, a6, s6, e6, x6, y6, p6, q6⟩ := pick_t hl a5 s5 12 (by omega) (by omega) (by omega)
  have pre : ∀ z : Int × List Int × List Int, Ev (fun k => if r6 = 0 then ((spec_l1Cur_pick.f l a6 s6 5).bind fun bt277 => (some (wrap64 (bt277.1 - 1), x, y))) else (if r6 = 1 then (if y.length < 17592186044416 then (some (r5, x, (y ++ [1]))) else (none)) else (if r6 = 2 then (if (n : Int) > 0 then (if 0 < (x.length : Int) then (some (r5, (x.set (0 : Int).toNat 67108864), y)) else (none)) else (some (r5, x, y))) else (some (r5, x, y))))) z → Ev (fun k => spec_DrawTurn.f k l) z := by
    intro z h
    refine evlet e1 (evlet e2 ?_)
    simp only [hm]
    exact Ev.bind e3 (Ev.bind e4 (evlet e5 (evlet e6 h)))
  by_cases c0 : r6 = 0
  · obtain ⟨r7, a7, s7, e7, _⟩ := pick_t hl a6 s6 5 (by omega) (by omega) (by omega)
    exact ⟨_, x, y, pre _ (evpos c0 (evlet e7 (Ev.now _))), by omega, by omega⟩
  by_cases c1 : r6 = 1
  · exact ⟨r5, x, y ++ [1], pre _ (evneg c0 (evpos c1 (evpos (by omega) (Ev.now _)))), by omega, by rw [List.length_append, List.length_singleton]; omega⟩
  by_cases c2 : r6 = 2
  · by_cases c3 : (n : Int) > 0
    · exact ⟨r5, x.set (0 : Int).toNat 67108864, y, pre _ (evneg c0 (evneg c1 (evpos c2 (evpos c3 (evpos (by omega) (Ev.now _)))))), by rw [List.length_set]; omega, by omega⟩
    · exact ⟨r5, x, y, pre _ (evneg c0 (evneg c1 (evpos c2 (evneg c3 (Ev.now _))))), by omega, by omega⟩
  · exact ⟨r5, x, y, pre _ (evneg c0 (evneg c1 (evneg c2 (Ev.now _)))), by omega, by omega⟩
theorem drawres_t {l : List Int} (hl : ByteL l) : ∃ (o : Int) (x : List Int), Ev (fun k => spec_DrawResidue.f k l) (o, x) ∧ x.length ≤ 5000 := by
  obtain ⟨o, a, s, e, ol, h0, h1⟩ := sound_t hl
  obtain ⟨r1, a1, s1, e1, x1, y1, p1, q1⟩ := pick_t hl a s 5 (by omega) (by omega) (by omega)
  obtain ⟨b2, a2, s2, e2, p2, q2⟩ := one_t hl a1 s1 12 (by omega) (by omega) (by omega)
  cases b2 with
  | false => exact ⟨_, o, Ev.bind e (evlet e1 (evlet e2 (evneg Bool.false_ne_true (Ev.now _)))), ol⟩
  | true =>
    obtain ⟨r3, a3, s3, e3, _⟩ := pick_t hl a2 s2 8 (by omega) (by omega) (by omega)
    exact ⟨_, o, Ev.bind e (evlet e1 (evlet e2 (evpos rfl (evlet e3 (Ev.now _))))), ol⟩
theorem law_end {l : List Int} (hl : ByteL l) : Ev (fun k => (spec_DrawTurn.f k l).bind fun bt336 => ((impl_Turn.f k bt336.1 bt336.2.1 bt336.2.2).bind fun bt343 => (if (bt343.1.length : Int) = 0 then (some true) else ((impl_Unturn.f k bt336.1 bt343.1 bt343.2).bind fun bt349 => ((laws_wInts.f k bt349.1 bt336.2.1).bind fun t355 => (if t355 = true then ((laws_wInts.f k bt349.2 bt336.2.2).bind fun t356 => (some t356)) else (some false))))))) true := by
  obtain ⟨w, a, b, e, al, bl⟩ := drawturn_t hl
  have nothing : Ev (fun k => impl_Turn.f k w a b) ([], []) → Ev (fun k => (spec_DrawTurn.f k l).bind fun bt336 => ((impl_Turn.f k bt336.1 bt336.2.1 bt336.2.2).bind fun bt343 => (if (bt343.1.length : Int) = 0 then (some true) else ((impl_Unturn.f k bt336.1 bt343.1 bt343.2).bind fun bt349 => ((laws_wInts.f k bt349.1 bt336.2.1).bind fun t355 => (if t355 = true then ((laws_wInts.f k bt349.2 bt336.2.2).bind fun t356 => (some t356)) else (some false))))))) true :=
    fun h => Ev.bind e (Ev.bind h (evpos (by decide) (Ev.now _)))
  have none : ∀ b', b' = true → Ev (fun k => impl_Turn.j0 k w a b b') ([], []) := fun b' h => by subst h; exact Ev.step (fun k => rfl) (Ev.now _)
  obtain ⟨qa, _, za, ga⟩ := list_both a (by omega)
  obtain ⟨qb, _, zb, gb⟩ := list_both b (by omega)
  cases qa with
  | false => exact nothing (Ev.bind za (evneg Bool.false_ne_true (none _ rfl)))
  | true =>
    cases qb with
    | false => exact nothing (Ev.bind za (evpos rfl (Ev.bind zb (evneg Bool.false_ne_true (none _ rfl)))))
    | true =>
      by_cases c1 : (a.length : Int) = (b.length : Int)
      · by_cases c2 : w < 0
        · exact nothing (Ev.bind za (evpos rfl (Ev.bind zb (evpos rfl (evpos c1 (evpos c2 (none _ rfl)))))))
        by_cases c3 : w > 2
        · exact nothing (Ev.bind za (evpos rfl (Ev.bind zb (evpos rfl (evpos c1 (evneg c2 (none _ (decide_eq_true c3))))))))
        have t := turn_t w a b (ga rfl) (gb rfl) (by omega) (by omega) (by omega) za zb
        have u := unturn_t w a b (ga rfl) (gb rfl) (by omega) (by omega) (by omega) za zb
        have lX := TX_len w a b
        refine Ev.bind e (Ev.bind t ?_)
        by_cases c4 : ((TX w a b).length : Int) = 0
        · exact evpos c4 (Ev.now _)
        · exact evneg c4 (Ev.bind u (Ev.bind (wInts_same a (by omega)) (evpos rfl (Ev.bind (wInts_same b (by omega)) (Ev.now _)))))
      · exact nothing (Ev.bind za (evpos rfl (Ev.bind zb (evpos rfl (evneg c1 (none _ rfl))))))
theorem FnResidue : laws_FnResidue.Pure := by
  intro l _ _ hb
  refine Ev.rounds ?_
  by_cases c : (l.length : Int) > 1048576
  · exact evpos c (Ev.now _)
  have hl := bytel hb c
  obtain ⟨o, x, e, xl⟩ := drawres_t hl
  refine evneg c (Ev.bind e ?_)
  obtain ⟨q, sp, zi, g⟩ := list_both x (by omega)
  have main := down (n := 5) (P := fun i => Ev (fun k => laws_FnResidue.l0 k l x (i : Int)) true) ?_ ?_
  · exact main
  · refine Ev.step (fun k => rfl) ?_
    exact law_end hl
  · intro i hi ih
    have i4 : (i : Int) ≤ 4 := by omega
    have ws : wrap64 ((i : Int) + 1) = ((i + 1 : Nat) : Int) := w64s (by omega)
    cases q with
    | false =>
      have h1 : Ev (fun k => impl_Residue.f k (i : Int) x) [] := Ev.bind zi (evneg Bool.false_ne_true (Ev.step (fun k => rfl) (Ev.now _)))
      have h2 : Ev (fun k => spec_Residue.f k (i : Int) x) [] := evneg (by omega) (evneg (by omega) (Ev.bind sp (evneg Bool.false_ne_true (Ev.now _))))
      have h3 := wInts_same [] (by simp)
      refine Ev.step (fun k => rfl) (evpos i4 (Ev.bind h1 (Ev.bind h2 (Ev.bind h3 (evpos rfl (evneg (by decide) ?_))))))
      rw [ws]; exact ih
    | true =>
      have h := g rfl
      have h1 := res_impl i x h (by omega) zi
      have h2 : Ev (fun k => spec_Residue.f k (i : Int) x) (Res i x) := evneg (by omega) (evneg (by omega) (Ev.bind sp (evpos rfl (Ev.bind (res_spec i x h (by omega)) (Ev.now _)))))
      have rl := Res_len i x
      have h3 := wInts_same (Res i x) (by omega)
      refine Ev.step (fun k => rfl) (evpos i4 (Ev.bind h1 (Ev.bind h2 (Ev.bind h3 (evpos rfl ?_)))))
      by_cases c0 : ((Res i x).length : Int) > 0
      · refine evpos c0 (Ev.bind (restore_t i x h (by omega)) (Ev.bind (wInts_same x (by omega)) (evpos rfl ?_)))
        rw [ws]; exact ih
      · refine evneg c0 ?_
        rw [ws]; exact ih
end Go.Proofs.Ytggokppfhkebkaa.Pure

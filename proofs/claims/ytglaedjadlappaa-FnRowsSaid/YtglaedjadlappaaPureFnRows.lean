/- FnRows: for every list of bytes that the draws are made of (at most 1048576 bytes, else the law is true at once), the drawn samples are packed as the reference packs them, and unpacked they are the samples again. -/
import Derived.Test.YtglaedjadlappaaPFnRowsx0
import Derived.Test.YtglaedjadlappaaPFnRowsx1
import Derived.Test.YtglaedjadlappaaPFnRowsx2
import Derived.Test.YtglaedjadlappaaPFnRowsx3
import Derived.Test.YtglaedjadlappaaPFnRowsx4
import Derived.Test.YtglaedjadlappaaPFnRowsx5
import Derived.Test.YtglaedjadlappaaPFnRowsx6
import Derived.Test.YtglaedjadlappaaPFnRowsx7
import Derived.Test.YtglaedjadlappaaPFnRowsx8
import Derived.Test.YtglaedjadlappaaK
import Derived.Laws.Bits64b
namespace Go.Proofs.Ytglaedjadlappaa.Pure
open Go.RowKit Go.Proofs.Ytglaedjadlappaa.PFnRows Go.Proofs.Ytglaedjadlappaa.K Go.Proofs.YtglaedjadlappaaW.PrintWords Go.Proofs.YtglaedjadlappaaW.PrintLast Go.Proofs.YtglaedjadlappaaW.PrintMore

/-- The bytes that a cursor reads. -/
structure ByteL (l : List Int) : Prop where
  len : l.length ≤ 1048576
  bd : ∀ x ∈ l, 0 ≤ x ∧ x ≤ 255
theorem bytel {l : List Int} (h : ∀ x ∈ l, (Lit.int .u8 x).wf = true) (hl : ¬ (l.length : Int) > 1048576) : ByteL l := ⟨by omega, fun x hx => wfb (h x hx)⟩
theorem rd_byte {l : List Int} (h : ByteL l) {i : Int} (h0 : 0 ≤ i) (h1 : i < l.length) : 0 ≤ rd l i ∧ rd l i ≤ 255 := by
  obtain ⟨j, rfl⟩ : ∃ j : Nat, i = (j : Int) := ⟨i.toNat, by omega⟩
  rw [rd_nat, getD_lt (show j < l.length by omega)]
  exact h.bd _ (List.getElem_mem _)
theorem and255 (x : Int) : 0 ≤ Go.bits .and .u64 x 255 ∧ Go.bits .and .u64 x 255 ≤ 255 := by
  have e : Go.bits .and .u64 x 255 = IntKind.u64.wrap ((BitVec.ofInt 64 x &&& BitVec.ofInt 64 255).toNat : Int) := rfl
  have h : (BitVec.ofInt 64 x &&& BitVec.ofInt 64 255).toNat ≤ 255 := by
    rw [BitVec.toNat_and]; exact Nat.and_le_right
  rw [e, IntKind.wrap_u64]
  omega
theorem w255 {x : Int} (h : 0 ≤ x ∧ x ≤ 255) : wrap64 x = x := w64 (by omega) (by omega)
theorem next_t {l : List Int} (hl : ByteL l) (a s : Int) (h0 : 0 ≤ a) (h1 : a ≤ 2000000000000) : ∃ v s', spec_l1Cur_next.f l a s = some (v, a + 1, s') ∧ 0 ≤ v ∧ v ≤ 255 := by
  unfold spec_l1Cur_next.f
  rw [show wrap64 (a + 1) = a + 1 from w64 (by omega) (by omega)]
  by_cases c : a < (l.length : Int)
  · rw [if_pos c, if_pos h0, if_pos (by omega)]
    have := rd_byte hl h0 c
    exact ⟨_, _, rfl, by rw [w255 this]; exact this.1, by rw [w255 this]; exact this.2⟩
  · rw [if_neg c, if_neg (by omega)]
    refine ⟨_, _, rfl, ?_, ?_⟩
    · rw [w255 (and255 _)]; exact (and255 _).1
    · rw [w255 (and255 _)]; exact (and255 _).2
theorem pick_t {l : List Int} (hl : ByteL l) (a s n : Int) (hn : 1 ≤ n) (h0 : 0 ≤ a) (h1 : a ≤ 1000000000000) : ∃ r a' s', spec_l1Cur_pick.f l a s n = some (r, a', s') ∧ 0 ≤ r ∧ r < n ∧ a ≤ a' ∧ a' ≤ a + 3 := by
  unfold spec_l1Cur_pick.f
  by_cases c : n ≤ 1
  · rw [if_pos c]
    exact ⟨0, a, s, rfl, by omega, by omega, by omega, by omega⟩
  rw [if_neg c]
  have nz : ¬ n = 0 := by omega
  obtain ⟨v, s1, e1, v0, v1⟩ := next_t hl a s h0 (by omega)
  rw [e1, Option.bind_some]
  have fin : ∀ x : Int, 0 ≤ x → 0 ≤ Int.tmod x n ∧ Int.tmod x n < n := fun x hx => ⟨Int.tmod_nonneg _ hx, Int.tmod_lt_of_pos _ (by omega)⟩
  by_cases c2 : n > 200
  · rw [if_pos c2]
    obtain ⟨u, s2, e2, u0, u1⟩ := next_t hl (a + 1) s1 (by omega) (by omega)
    simp only [e2, Option.bind_some]
    rw [w64 (n := v * 256) (by omega) (by omega), w64 (n := v * 256 + u) (by omega) (by omega)]
    by_cases c3 : n > 50000
    · rw [if_pos c3]
      obtain ⟨t, s3, e3, t0, t1⟩ := next_t hl (a + 1 + 1) s2 (by omega) (by omega)
      simp only [e3, Option.bind_some]
      rw [if_neg nz, w64 (n := (v * 256 + u) * 256) (by omega) (by omega), w64 (n := (v * 256 + u) * 256 + t) (by omega) (by omega)]
      exact ⟨_, _, _, rfl, (fin _ (by omega)).1, (fin _ (by omega)).2, by omega, by omega⟩
    · rw [if_neg c3, if_neg nz]
      exact ⟨_, _, _, rfl, (fin _ (by omega)).1, (fin _ (by omega)).2, by omega, by omega⟩
  · rw [if_neg c2, if_neg (by omega), if_neg nz]
    exact ⟨_, a + 1, s1, rfl, (fin _ (by omega)).1, (fin _ (by omega)).2, by omega, by omega⟩
theorem one_t {l : List Int} (hl : ByteL l) (a s n : Int) (hn : 1 ≤ n) (h0 : 0 ≤ a) (h1 : a ≤ 1000000000000) : ∃ (b : Bool) (a' s' : Int), spec_l1Cur_one.f l a s n = some (b, a', s') ∧ a ≤ a' ∧ a' ≤ a + 3 := by
  obtain ⟨r, a', s', e, _, _, h2, h3⟩ := pick_t hl a s n hn h0 h1
  unfold spec_l1Cur_one.f
  rw [e]
  exact ⟨_, _, _, rfl, h2, h3⟩
theorem set_bd {o : List Int} {i : Nat} {v m : Int} (hb : ∀ x ∈ o, 0 ≤ x ∧ x ≤ m) (h0 : 0 ≤ v) (h1 : v ≤ m) : ∀ x ∈ o.set i v, 0 ≤ x ∧ x ≤ m := by
  intro x hx
  rcases List.mem_or_eq_of_mem_set hx with hx | rfl
  · exact hb x hx
  · exact ⟨h0, h1⟩
theorem samples_loop {l : List Int} (hl : ByteL l) (W P top dx dy base noise : Int) (hW : ¬ W = 0) (hP : ¬ P = 0) (ht0 : 1 ≤ top) (ht1 : top ≤ 65535) (n : Nat) (hn : n ≤ 1000000) :
    ∀ (o : List Int) (a s : Int), o.length = n → (∀ x ∈ o, 0 ≤ x ∧ x ≤ top) → 0 ≤ a → a ≤ 200000000000 → ∃ (o' : List Int) (a' s' : Int), Ev (fun k => spec_l1Cur_samples.l0 k W P top o dx dy base noise (n : Int) ((0 : Nat) : Int) l a s) (o', a', s') ∧ o'.length = n ∧ (∀ x ∈ o', 0 ≤ x ∧ x ≤ top) ∧ a ≤ a' ∧ a' ≤ a + 6 * n := by
  have main := down (n := n) (P := fun i => ∀ (o : List Int) (a s : Int), o.length = n → (∀ x ∈ o, 0 ≤ x ∧ x ≤ top) → 0 ≤ a → a ≤ 200000000000 + 6 * i → ∃ (o' : List Int) (a' s' : Int), Ev (fun k => spec_l1Cur_samples.l0 k W P top o dx dy base noise (n : Int) (i : Int) l a s) (o', a', s') ∧ o'.length = n ∧ (∀ x ∈ o', 0 ≤ x ∧ x ≤ top) ∧ a ≤ a' ∧ a' ≤ a + 6 * (n - i : Int)) ?_ ?_
  · intro o a s ho hb h0 h1
    obtain ⟨o', a', s', e, h2, h3, h4, h5⟩ := main o a s ho hb h0 (by omega)
    exact ⟨o', a', s', e, h2, h3, h4, by omega⟩
  · intro o a s ho hb h0 h1
    exact ⟨o, a, s, Ev.step (fun k => rfl) (evneg (by omega) (Ev.now _)), ho, hb, by omega, by omega⟩
  · intro i hi ih o a s ho hb h0 h1
    have f0 : (0 : Int) ≤ (i : Int) := by omega
    have f1 : (i : Int) < (o.length : Int) := by omega
    have tn : ((i : Int)).toNat = i := Int.toNat_natCast i
    have j4 : ∀ (y a s : Int), 0 ≤ a → a ≤ 200000000000 + 6 * (i + 1) → ∃ (o' : List Int) (a' s' : Int), Ev (fun k => spec_l1Cur_samples.j4 k W P top o dx dy base noise (i : Int) y (n : Int) (i : Int) l a s) (o', a', s') ∧ o'.length = n ∧ (∀ x ∈ o', 0 ≤ x ∧ x ≤ top) ∧ a ≤ a' ∧ a' ≤ a + 6 * (n - i - 1 : Int) := by
      intro y a s h0 h1
      have st : ∀ v : Int, 0 ≤ v → v ≤ top → ∃ (o' : List Int) (a' s' : Int), Ev (fun k => spec_l1Cur_samples.l0 k W P top (o.set (i : Int).toNat v) dx dy base noise (n : Int) (wrap64 ((i : Int) + 1)) l a s) (o', a', s') ∧ o'.length = n ∧ (∀ x ∈ o', 0 ≤ x ∧ x ≤ top) ∧ a ≤ a' ∧ a' ≤ a + 6 * (n - i - 1 : Int) := by
        intro v v0 v1
        obtain ⟨o', a', s', e, h2, h3, h4, h5⟩ := ih (o.set i v) a s (by simpa using ho) (set_bd hb v0 v1) h0 (by omega)
        refine ⟨o', a', s', ?_, h2, h3, h4, by omega⟩
        rw [w64s (by omega), tn]; exact e
      by_cases c1 : y < 0
      · by_cases c2 : 0 > top
        · omega
        · obtain ⟨o', a', s', e, h⟩ := st 0 (by omega) (by omega)
          exact ⟨o', a', s', Ev.step (fun k => rfl) (evpos c1 (evneg c2 (evpos f0 (evpos f1 e)))), h⟩
      · by_cases c2 : y > top
        · obtain ⟨o', a', s', e, h⟩ := st top (by omega) (by omega)
          exact ⟨o', a', s', Ev.step (fun k => rfl) (evneg c1 (evpos c2 (evpos f0 (evpos f1 e)))), h⟩
        · obtain ⟨o', a', s', e, h⟩ := st y (by omega) (by omega)
          exact ⟨o', a', s', Ev.step (fun k => rfl) (evneg c1 (evneg c2 (evpos f0 (evpos f1 e)))), h⟩
    have j3 : ∀ (y a s : Int), 0 ≤ a → a ≤ 200000000000 + 6 * i + 3 → ∃ (o' : List Int) (a' s' : Int), Ev (fun k => spec_l1Cur_samples.j3 k W P top o dx dy base noise (i : Int) y (n : Int) (i : Int) l a s) (o', a', s') ∧ o'.length = n ∧ (∀ x ∈ o', 0 ≤ x ∧ x ≤ top) ∧ a ≤ a' ∧ a' ≤ a + 6 * (n - i - 1 : Int) + 3 := by
      intro y a s h0 h1
      by_cases c1 : noise = 3
      · obtain ⟨r, a1, s1, e1, r0, r1, p0, p1⟩ := pick_t hl a s (top + 1) (by omega) h0 (by omega)
        obtain ⟨o', a', s', e, h2, h3, h4, h5⟩ := j4 r a1 s1 (by omega) (by omega)
        refine ⟨o', a', s', Ev.step (fun k => rfl) (evpos c1 ?_), h2, h3, by omega, by omega⟩
        rw [show wrap64 (top + 1) = top + 1 from w64 (by omega) (by omega)]
        exact evlet e1 e
      · obtain ⟨o', a', s', e, h2, h3, h4, h5⟩ := j4 y a s h0 (by omega)
        exact ⟨o', a', s', Ev.step (fun k => rfl) (evneg c1 e), h2, h3, by omega, by omega⟩
    have j1 : ∀ (u y a s : Int), 0 ≤ a → a ≤ 200000000000 + 6 * i + 3 → ∃ (o' : List Int) (a' s' : Int), Ev (fun k => spec_l1Cur_samples.j1 k W P top o dx dy base noise (i : Int) u y (n : Int) (i : Int) l a s) (o', a', s') ∧ o'.length = n ∧ (∀ x ∈ o', 0 ≤ x ∧ x ≤ top) ∧ a ≤ a' ∧ a' ≤ a + 6 * (n - i - 1 : Int) + 3 := by
      intro u y a s h0 h1
      have j2 : ∀ b : Bool, ∃ (o' : List Int) (a' s' : Int), Ev (fun k => spec_l1Cur_samples.j2 k W P top o dx dy base noise (i : Int) y (n : Int) (i : Int) b l a s) (o', a', s') ∧ o'.length = n ∧ (∀ x ∈ o', 0 ≤ x ∧ x ≤ top) ∧ a ≤ a' ∧ a' ≤ a + 6 * (n - i - 1 : Int) + 3 := by
        intro b
        cases b with
        | true =>
          obtain ⟨o', a', s', e, h⟩ := j3 (wrap64 (top - y)) a s h0 h1
          exact ⟨o', a', s', Ev.step (fun k => rfl) e, h⟩
        | false =>
          obtain ⟨o', a', s', e, h⟩ := j3 y a s h0 h1
          exact ⟨o', a', s', Ev.step (fun k => rfl) e, h⟩
      by_cases c1 : noise = 2
      · obtain ⟨o', a', s', e, h⟩ := j2 (decide (u > wrap64 (Int.tdiv W 2)))
        exact ⟨o', a', s', Ev.step (fun k => rfl) (evpos c1 e), h⟩
      · obtain ⟨o', a', s', e, h⟩ := j2 false
        exact ⟨o', a', s', Ev.step (fun k => rfl) (evneg c1 e), h⟩
    by_cases c1 : noise = 1
    · obtain ⟨r, a1, s1, e1, r0, r1, p0, p1⟩ := pick_t hl a s 9 (by omega) h0 (by omega)
      obtain ⟨o', a', s', e, h2, h3, h4, h5⟩ := j1 (Int.tmod (wrap64 (Int.tdiv (i : Int) P)) W) (wrap64 ((wrap64 ((wrap64 ((wrap64 (base + (wrap64 ((Int.tmod (wrap64 (Int.tdiv (i : Int) P)) W) * dx)))) + (wrap64 ((wrap64 (Int.tdiv (wrap64 (Int.tdiv (i : Int) P)) W)) * dy)))) + (wrap64 ((Int.tmod (i : Int) P) * 20)))) + r)) a1 s1 (by omega) (by omega)
      exact ⟨o', a', s', Ev.step (fun k => rfl) (evpos (by omega) (evneg hP (evneg hW (evpos c1 (evlet e1 e))))), h2, h3, by omega, by omega⟩
    · obtain ⟨o', a', s', e, h2, h3, h4, h5⟩ := j1 (Int.tmod (wrap64 (Int.tdiv (i : Int) P)) W) (wrap64 ((wrap64 ((wrap64 (base + (wrap64 ((Int.tmod (wrap64 (Int.tdiv (i : Int) P)) W) * dx)))) + (wrap64 ((wrap64 (Int.tdiv (wrap64 (Int.tdiv (i : Int) P)) W)) * dy)))) + (wrap64 ((Int.tmod (i : Int) P) * 20)))) a s (by omega) (by omega)
      exact ⟨o', a', s', Ev.step (fun k => rfl) (evpos (by omega) (evneg hP (evneg hW (evneg c1 e)))), h2, h3, by omega, by omega⟩
theorem samples_t {l : List Int} (hl : ByteL l) (a s d T : Int) (W H P : Nat) (hT : shl .i64 1 (IntKind.u64.wrap d) = T) (hd : 0 ≤ IntKind.u64.wrap d) (hT0 : 2 ≤ T) (hT1 : T ≤ 65536) (hP : 1 ≤ P) (hwh : W * H * P ≤ 1000000) (h0 : 0 ≤ a) (h1 : a ≤ 100000000000) :
    ∃ (o : List Int) (a' s' : Int), Ev (fun k => spec_l1Cur_samples.f k l a s (W : Int) (H : Int) (P : Int) d) (o, a', s') ∧ o.length = W * H * P ∧ (∀ x ∈ o, 0 ≤ x ∧ x ≤ T - 1) ∧ a ≤ a' ∧ a' ≤ a + 12 + 6 * (W * H * P : Nat) := by
  have hwh2 : W * H ≤ 1000000 := Nat.le_trans (Nat.le_mul_of_pos_right _ hP) hwh
  have en : wrap64 (wrap64 ((W : Int) * (H : Int)) * (P : Int)) = ((W * H * P : Nat) : Int) := by
    rw [show (W : Int) * (H : Int) = ((W * H : Nat) : Int) by push_cast; rfl, w64 (n := ((W * H : Nat) : Int)) (by omega) (by omega), show ((W * H : Nat) : Int) * (P : Int) = ((W * H * P : Nat) : Int) by push_cast; rfl, w64 (by omega) (by omega)]
  obtain ⟨r1, a1, s1, e1, _, _, p1, q1⟩ := pick_t hl a s 30 (by omega) h0 (by omega)
  obtain ⟨r2, a2, s2, e2, _, _, p2, q2⟩ := pick_t hl a1 s1 30 (by omega) (by omega) (by omega)
  obtain ⟨r3, a3, s3, e3, _, _, p3, q3⟩ := pick_t hl a2 s2 T (by omega) (by omega) (by omega)
  obtain ⟨r4, a4, s4, e4, _, _, p4, q4⟩ := pick_t hl a3 s3 4 (by omega) (by omega) (by omega)
  have top : wrap64 (T - 1) = T - 1 := w64 (by omega) (by omega)
  have top1 : wrap64 (T - 1 + 1) = T := by rw [w64 (by omega) (by omega)]; omega
  have hlen : (List.replicate (W * H * P) (0 : Int)).length = W * H * P := by simp
  have hz : ∀ x ∈ List.replicate (W * H * P) (0 : Int), 0 ≤ x ∧ x ≤ T - 1 := fun x hx => by rw [List.eq_of_mem_replicate hx]; omega
  suffices hs : ∃ (o : List Int) (a' s' : Int), Ev (fun k => spec_l1Cur_samples.l0 k (W : Int) (P : Int) (T - 1) (List.replicate (W * H * P) 0) (wrap64 (r1 - 15)) (wrap64 (r2 - 15)) r3 r4 ((W * H * P : Nat) : Int) ((0 : Nat) : Int) l a4 s4) (o, a', s') ∧ o.length = W * H * P ∧ (∀ x ∈ o, 0 ≤ x ∧ x ≤ T - 1) ∧ a4 ≤ a' ∧ a' ≤ a4 + 6 * (W * H * P : Nat) by
    obtain ⟨o, a', s', e, h2, h3, h4, h5⟩ := hs
    refine ⟨o, a', s', ?_, h2, h3, by omega, by omega⟩
    unfold spec_l1Cur_samples.f
    rw [hT, en, top, top1, Int.toNat_natCast]
    refine evpos hd (evpos (by omega) (evpos (by omega) (evlet rfl (evlet e1 (evlet e2 (evlet e3 (evlet e4 ?_)))))))
    simp only [hlen]
    exact e
  by_cases c : W * H * P = 0
  · refine ⟨List.replicate (W * H * P) 0, a4, s4, Ev.step (fun k => rfl) (evneg (by omega) (Ev.now _)), hlen, hz, by omega, by omega⟩
  · exact samples_loop hl (W : Int) (P : Int) (T - 1) _ _ _ _ (by rintro h; obtain rfl : W = 0 := by omega
                                                                  simp at c) (by omega) (by omega) (by omega) (W * H * P) hwh _ a4 s4 hlen hz (by omega) (by omega)
theorem uw (n : Int) (h0 : 0 ≤ n) (h1 : n < 18446744073709551616) : IntKind.u64.wrap n = n := by rw [IntKind.wrap_u64]; omega
theorem shr_u (x b : Nat) (hb : b ≤ 64) : shr .u64 (x : Int) (b : Int) = ((x / 2 ^ b : Nat) : Int) := by
  unfold shr
  rw [Int.toNat_natCast, Nat.min_eq_left (show b ≤ IntKind.u64.bits from hb)]; simp
theorem or_bd (x y : Int) : 0 ≤ Go.bits .or .u8 x y ∧ Go.bits .or .u8 x y ≤ 255 := by
  have e : Go.bits .or .u8 x y = IntKind.u8.wrap ((BitVec.ofInt 8 x ||| BitVec.ofInt 8 y).toNat : Int) := rfl
  rw [e, IntKind.wrap_u8]; omega
theorem or_zero (x : Int) (h0 : 0 ≤ x) (h1 : x ≤ 255) : Go.bits .or .u8 x 0 = x := by
  obtain ⟨a, rfl⟩ : ∃ a : Nat, x = (a : Int) := ⟨x.toNat, by omega⟩
  have := (bits_nat .u8 8 (by decide) wraps_u8 a 0 (by omega) (by decide)).2
  rw [Nat.or_zero] at this
  exact this
theorem shl_zero (p : Int) : shl .u8 0 p = 0 := by unfold shl; rw [Int.zero_mul]; rfl
/-- The bytes before the next bit is put. -/
def ext (l : List Int) (n : Nat) : List Int := if n % 8 = 0 then l ++ [0] else l
def pos (hi : Bool) (n : Nat) : Nat := if hi = true then 7 - n % 8 else n % 8
def put1 (hi : Bool) (m : List Int) (n b : Nat) : List Int := m.set (n / 8) (Go.bits .or .u8 (m.getD (n / 8) 0) (shl .u8 (b : Int) (pos hi n : Int)))
def stp (hi : Bool) (l : List Int) (n b : Nat) : List Int := put1 hi (ext l n) n b
structure Inv (l : List Int) (n : Nat) : Prop where
  len : l.length = (n + 7) / 8
  bd : ∀ x ∈ l, 0 ≤ x ∧ x ≤ 255
theorem ext_len {l : List Int} {n : Nat} (h : Inv l n) : (ext l n).length = n / 8 + 1 := by
  have := h.len
  unfold ext
  split
  · rw [List.length_append, List.length_singleton]; omega
  · omega
theorem ext_bd {l : List Int} {n : Nat} (h : Inv l n) : ∀ x ∈ ext l n, 0 ≤ x ∧ x ≤ 255 := by
  intro x hx
  unfold ext at hx
  split at hx
  · rcases List.mem_append.1 hx with hx | hx
    · exact h.bd x hx
    · obtain rfl := List.mem_singleton.1 hx; omega
  · exact h.bd x hx
theorem stp_inv {l : List Int} {n : Nat} (h : Inv l n) (hi : Bool) (b : Nat) : Inv (stp hi l n b) (n + 1) := by
  refine ⟨?_, ?_⟩
  · unfold stp put1; rw [List.length_set, ext_len h]; omega
  · intro x hx
    unfold stp put1 at hx
    rcases List.mem_or_eq_of_mem_set hx with hx | rfl
    · exact ext_bd h x hx
    · exact or_bd _ _
theorem set_self (m : List Int) (i : Nat) : m.set i (m.getD i 0) = m := by
  apply List.ext_getElem
  · simp
  · intro j h1 h2
    rw [List.getElem_set]
    by_cases c : i = j
    · subst c; rw [if_pos rfl, getD_lt h2]
    · rw [if_neg c]
theorem tm8 (n : Nat) : Int.tmod (n : Int) 8 = ((n % 8 : Nat) : Int) := (Int.ofNat_tmod n 8).symm
theorem td8 (n : Nat) (hn : n ≤ 2000000) : wrap64 (Int.tdiv (n : Int) 8) = ((n / 8 : Nat) : Int) := by
  rw [show Int.tdiv (n : Int) 8 = ((n / 8 : Nat) : Int) from (Int.ofNat_tdiv n 8).symm]; exact w64 (by omega) (by omega)
theorem w7 (n : Nat) : wrap64 (7 - ((n % 8 : Nat) : Int)) = ((7 - n % 8 : Nat) : Int) := by rw [w64 (by omega) (by omega)]; omega
theorem u7 (n : Nat) : IntKind.u64.wrap (7 - IntKind.u64.wrap ((n % 8 : Nat) : Int)) = ((7 - n % 8 : Nat) : Int) := by
  rw [uw ((n % 8 : Nat) : Int) (by omega) (by omega), uw _ (by omega) (by omega)]; omega
theorem and1 (a : Nat) (ha : a < 18446744073709551616) : Go.bits .and .u64 (a : Int) 1 = ((a % 2 : Nat) : Int) := by
  have := bits_and_u64_nat a 1 ha (by decide)
  rw [Nat.and_one_is_mod] at this
  exact this
theorem j0_spec (hi : Bool) (m : List Int) (n b : Nat) (hb : b ≤ 1) (hn : n ≤ 2000000) (hm : n / 8 < m.length) (bd : ∀ x ∈ m, 0 ≤ x ∧ x ≤ 255) : Ev (fun k => spec_l1Sink_bit.j0 k (b : Int) hi m (n : Int)) (hi, put1 hi m n b, ((n + 1 : Nat) : Int)) := by
  have f0 : (0 : Int) ≤ ((n / 8 : Nat) : Int) := by omega
  have f1 : (0 : Int) ≤ ((n % 8 : Nat) : Int) := by omega
  have f2 : (0 : Int) ≤ ((7 - n % 8 : Nat) : Int) := by omega
  have f3 : ((n / 8 : Nat) : Int) < (m.length : Int) := by omega
  have um := uw ((n % 8 : Nat) : Int) f1 (by omega)
  refine Ev.step (fun k => rfl) ?_
  simp only [spec_l1Sink_bit.j0]
  rw [tm8, td8 n hn, u7, um, w64s (by omega)]
  by_cases c : b = 1
  · subst c
    refine evpos (by decide) ?_
    unfold put1 pos
    cases hi with
    | true =>
      refine evpos rfl (evpos f0 (evpos f3 (evpos f2 ?_)))
      rw [if_pos rfl, Int.toNat_natCast, rd_nat]; exact Ev.now _
    | false =>
      refine evneg (by decide) (evpos f0 (evpos f3 (evpos f1 ?_)))
      rw [if_neg (by decide), Int.toNat_natCast, rd_nat]; exact Ev.now _
  · obtain rfl : b = 0 := by omega
    have e : put1 hi m n 0 = m := by
      unfold put1
      have x := bd (m.getD (n / 8) 0) (by rw [getD_lt hm]; exact List.getElem_mem _)
      rw [show ((0 : Nat) : Int) = 0 from rfl, shl_zero, or_zero _ x.1 x.2, set_self]
    rw [e]
    exact evneg (by decide) (Ev.now _)
theorem bit_spec (hi : Bool) (l : List Int) (n b : Nat) (h : Inv l n) (hn : n ≤ 2000000) (hb : b ≤ 1) : Ev (fun k => spec_l1Sink_bit.f k hi l (n : Int) (b : Int)) (hi, stp hi l n b, ((n + 1 : Nat) : Int)) := by
  have el := ext_len h
  have ll := h.len
  have j := j0_spec hi (ext l n) n b hb hn (by omega) (ext_bd h)
  unfold stp
  by_cases c : n % 8 = 0
  · have e : ext l n = l ++ [0] := by unfold ext; rw [if_pos c]
    rw [e] at j ⊢
    exact evpos (by rw [tm8]; omega) (evpos (by omega) j)
  · have e : ext l n = l := by unfold ext; rw [if_neg c]
    rw [e] at j ⊢
    exact evneg (by rw [tm8]; omega) j
theorem val_lt (v i : Nat) (hv : v < 18446744073709551616) : v / 2 ^ i < 18446744073709551616 := Nat.lt_of_le_of_lt (Nat.div_le_self _ _) hv
theorem put_high (l : List Int) (n v m : Nat) (h : Inv l n) (hn : n ≤ 1300000) (hm : m ≤ 64) (hv : v < 18446744073709551616) :
    ∃ l' : List Int, Inv l' (n + m) ∧ Ev (fun k => spec_l1Sink_put.f k true l (n : Int) (m : Int) (v : Int)) (true, l', ((n + m : Nat) : Int)) := by
  have main := down (n := m) (P := fun i => ∀ l : List Int, Inv l (n + i) → ∃ l' : List Int, Inv l' (n + m) ∧ Ev (fun k => spec_l1Sink_put.l0 k (m : Int) (v : Int) (i : Int) true l ((n + i : Nat) : Int)) (true, l', ((n + m : Nat) : Int))) ?_ ?_
  · exact main l h
  · intro l h
    exact ⟨l, h, Ev.step (fun k => rfl) (evneg (by omega) (Ev.now _))⟩
  · intro i hi ih l h
    obtain ⟨j, hj⟩ : ∃ j : Nat, j = m - 1 - i := ⟨_, rfl⟩
    have j64 : j ≤ 64 := by omega
    have b := bit_spec true l (n + i) (v / 2 ^ j % 2) h (by omega) (by omega)
    obtain ⟨l', g1, g2⟩ := ih _ (stp_inv h true (v / 2 ^ j % 2))
    have wj : wrap64 (wrap64 ((m : Int) - 1) - (i : Int)) = (j : Int) := by rw [w64 (n := (m : Int) - 1) (by omega) (by omega), w64 (by omega) (by omega)]; omega
    have ui := uw (j : Int) (Int.natCast_nonneg j) (Int.lt_of_le_of_lt (Int.ofNat_le.2 j64) (by decide))
    have sh := shr_u v j j64
    have an := and1 (v / 2 ^ j) (val_lt v j hv)
    refine ⟨l', g1, ?_⟩
    refine Ev.step (fun k => rfl) ?_
    simp only [spec_l1Sink_put.l0, if_true]
    rw [wj, ui, sh, an]
    refine evpos (Int.ofNat_lt.2 hi) (evpos (Int.natCast_nonneg j) (Ev.bind b ?_))
    rw [w64s (Nat.le_trans (Nat.le_of_lt hi) (Nat.le_trans hm (by decide)))]; exact g2
theorem bit_impl (hi : Bool) (l : List Int) (n a : Nat) (h : Inv l n) (hn : n ≤ 2000000) (ha : a < 18446744073709551616) : impl_bitsOut_bit.f l (n : Int) hi (a : Int) = some (stp hi l n (a % 2), ((n + 1 : Nat) : Int), hi) := by
  have el := ext_len h
  have ll := h.len
  have a2 : ((a % 2 : Nat) : Int) % 256 = ((a % 2 : Nat) : Int) := by omega
  have f0 : (0 : Int) ≤ ((n / 8 : Nat) : Int) := by omega
  have f1 : (0 : Int) ≤ ((n % 8 : Nat) : Int) := by omega
  have f2 : (0 : Int) ≤ ((7 - n % 8 : Nat) : Int) := by omega
  unfold impl_bitsOut_bit.f
  rw [tm8, td8 n hn, w7, and1 a ha, a2, w64s (by omega)]
  unfold stp put1 pos ext at *
  by_cases c : n % 8 = 0
  · have c1 : ((n % 8 : Nat) : Int) = 0 := by rw [c]; rfl
    rw [if_pos c] at el
    have f3 : ((n / 8 : Nat) : Int) < ((l ++ [0]).length : Int) := by rw [el]; omega
    rw [if_pos c1, if_pos (by omega), Option.bind_some, if_pos c]
    cases hi with
    | true => rw [if_pos rfl, if_pos f0, if_pos f3, if_pos f2, if_pos rfl, Int.toNat_natCast, rd_nat]
    | false => rw [if_neg (by decide), if_pos f0, if_pos f3, if_pos f1, if_neg (by decide), Int.toNat_natCast, rd_nat]
  · have c1 : ¬ ((n % 8 : Nat) : Int) = 0 := by omega
    rw [if_neg c] at el
    have f3 : ((n / 8 : Nat) : Int) < (l.length : Int) := by rw [el]; omega
    rw [if_neg c1, if_neg c]
    cases hi with
    | true => rw [if_pos rfl, if_pos f0, if_pos f3, if_pos f2, if_pos rfl, Int.toNat_natCast, rd_nat]
    | false => rw [if_neg (by decide), if_pos f0, if_pos f3, if_pos f1, if_neg (by decide), Int.toNat_natCast, rd_nat]
/-- Bit k of bytes, in the one order or the other. -/
def tb (hi : Bool) (l : List Int) (k : Nat) : Bool := (l.getD (k / 8) 0).toNat.testBit (pos hi k)
theorem pos_le (hi : Bool) (n : Nat) : pos hi n ≤ 7 := by unfold pos; split <;> omega
theorem pos_inj {hi : Bool} {n k : Nat} (e : n / 8 = k / 8) : pos hi n = pos hi k ↔ n = k := by
  unfold pos; split <;> omega
theorem tb_ext (hi : Bool) (l : List Int) (n k : Nat) : tb hi (ext l n) k = tb hi l k := by
  unfold tb ext
  split
  · have e : (l ++ [0]).getD (k / 8) 0 = l.getD (k / 8) 0 := by
      rw [List.getD_eq_getElem?_getD, List.getD_eq_getElem?_getD, List.getElem?_append]
      split
      · rfl
      · rw [List.getElem?_eq_none (l := l) (by omega)]
        cases h : k / 8 - l.length with
        | zero => rfl
        | succ j => rfl
    rw [e]
  · rfl
theorem or_u8 (a b : Nat) (ha : a < 256) (hb : b < 256) : Go.bits .or .u8 (a : Int) (b : Int) = ((a ||| b : Nat) : Int) := (bits_nat .u8 8 (by decide) wraps_u8 a b ha hb).2
theorem and_u8 (a b : Nat) (ha : a < 256) (hb : b < 256) : Go.bits .and .u8 (a : Int) (b : Int) = ((a &&& b : Nat) : Int) := (bits_nat .u8 8 (by decide) wraps_u8 a b ha hb).1
theorem pow7 {p : Nat} (hp : p ≤ 7) : 2 ^ p ≤ 128 := Nat.pow_le_pow_right (n := 2) (by decide) hp
theorem shl_b (b p : Nat) (hb : b ≤ 1) (hp : p ≤ 7) : shl .u8 (b : Int) (p : Int) = ((b * 2 ^ p : Nat) : Int) := by
  unfold shl
  rw [Int.toNat_natCast, Nat.min_eq_left (show p ≤ IntKind.u8.bits from Nat.le_trans hp (by decide)), show ((b : Int) * 2 ^ p) = ((b * 2 ^ p : Nat) : Int) by push_cast; rfl, IntKind.wrap_u8]
  have := pow7 hp
  have h2 : b * 2 ^ p ≤ 1 * 2 ^ p := Nat.mul_le_mul_right _ hb
  rw [Nat.one_mul] at h2
  generalize 2 ^ p = m at *
  generalize b * m = x at *
  omega
theorem tb_stp {l : List Int} {n : Nat} {hi : Bool} (h : Inv l n) {b : Nat} (hb : b ≤ 1) (k : Nat) : tb hi (stp hi l n b) k = (tb hi l k || (decide (k = n) && decide (b = 1))) := by
  have el := ext_len h
  rw [← tb_ext hi l n k]
  have eb := ext_bd h
  unfold stp put1 tb
  generalize ext l n = m at el eb
  by_cases c : n / 8 = k / 8
  · rw [← c, set_getD (by omega)]
    have hx := eb (m.getD (n / 8) 0) (by rw [getD_lt (by omega)]; exact List.getElem_mem _)
    obtain ⟨a, ha⟩ : ∃ a : Nat, m.getD (n / 8) 0 = (a : Int) := ⟨(m.getD (n / 8) 0).toNat, by omega⟩
    have hp := pos_le hi n
    have h2 : b * 2 ^ pos hi n ≤ 1 * 2 ^ pos hi n := Nat.mul_le_mul_right _ hb
    have h3 := pow7 hp
    rw [ha, shl_b b _ hb hp, or_u8 a _ (by omega) (by rw [Nat.one_mul] at h2; exact Nat.lt_of_le_of_lt (Nat.le_trans h2 h3) (by decide)), Int.toNat_natCast, Int.toNat_natCast, Nat.testBit_or]
    congr 1
    rcases Nat.le_one_iff_eq_zero_or_eq_one.1 hb with rfl | rfl
    · simp
    · rw [Nat.one_mul, Nat.testBit_two_pow]
      simp only [decide_true, Bool.and_true]
      rw [Bool.eq_iff_iff, decide_eq_true_iff, decide_eq_true_iff, pos_inj c]
      exact ⟨fun e => e.symm, fun e => e.symm⟩
  · rw [show decide (k = n) = false from decide_eq_false (fun e => c (by rw [e])), Bool.false_and, Bool.or_false]
    rw [List.getD_eq_getElem?_getD, List.getElem?_set_ne c, ← List.getD_eq_getElem?_getD]
structure InvT (hi : Bool) (l : List Int) (n : Nat) (f : Nat → Bool) : Prop where
  inv : Inv l n
  tell : ∀ k, tb hi l k = (decide (k < n) && f k)
theorem InvT.nil (hi : Bool) (f : Nat → Bool) : InvT hi [] 0 f := ⟨⟨rfl, fun x hx => by cases hx⟩, fun k => by
  rw [show decide (k < 0) = false from decide_eq_false (Nat.not_lt_zero k), Bool.false_and]
  exact Nat.zero_testBit _⟩
theorem stp_invT {hi : Bool} {l : List Int} {n : Nat} {f : Nat → Bool} (h : InvT hi l n f) {b : Nat} (hb : b ≤ 1) (hf : f n = decide (b = 1)) : InvT hi (stp hi l n b) (n + 1) f := by
  refine ⟨stp_inv h.inv hi b, fun k => ?_⟩
  rw [tb_stp h.inv hb k, h.tell k, ← hf]
  by_cases c : k = n
  · subst c
    simp
  · rw [show decide (k = n) = false from decide_eq_false c, Bool.false_and, Bool.or_false]
    congr 1
    rw [Bool.eq_iff_iff, decide_eq_true_iff, decide_eq_true_iff]
    omega
theorem dm2 (x p : Nat) : x / 2 ^ p % 2 = (x.testBit p).toNat := by
  rw [Nat.testBit_eq_decide_div_mod_eq]
  rcases Nat.mod_two_eq_zero_or_one (x / 2 ^ p) with h | h <;> rw [h] <;> rfl
theorem rdbit {hi : Bool} {l : List Int} (hb : ∀ x ∈ l, 0 ≤ x ∧ x ≤ 255) {k : Nat} (hk : k / 8 < l.length) : Go.bits .and .u8 (shr .u8 (rd l ((k / 8 : Nat) : Int)) ((pos hi k : Nat) : Int)) 1 = ((tb hi l k).toNat : Int) := by
  rw [rd_nat]
  unfold tb
  have hx := hb (l.getD (k / 8) 0) (by rw [getD_lt hk]; exact List.getElem_mem _)
  obtain ⟨a, ha⟩ : ∃ a : Nat, l.getD (k / 8) 0 = (a : Int) := ⟨(l.getD (k / 8) 0).toNat, by omega⟩
  have hp := pos_le hi k
  have hs : shr .u8 (a : Int) ((pos hi k : Nat) : Int) = ((a / 2 ^ pos hi k : Nat) : Int) := by
    unfold shr
    rw [Int.toNat_natCast, Nat.min_eq_left (show pos hi k ≤ IntKind.u8.bits from Nat.le_trans hp (by decide))]; simp
  have hq : a / 2 ^ pos hi k < 256 := Nat.lt_of_le_of_lt (Nat.div_le_self _ _) (by omega)
  rw [ha, hs, show (1 : Int) = ((1 : Nat) : Int) from rfl, and_u8 _ _ hq (by decide), Nat.and_one_is_mod, dm2, Int.toNat_natCast]
theorem or_u64 (a b : Nat) (ha : a < 18446744073709551616) (hb : b < 18446744073709551616) : Go.bits .or .u64 (a : Int) (b : Int) = ((a ||| b : Nat) : Int) := bits_or_u64_nat a b ha hb
theorem pow64 {i : Nat} (h : i ≤ 63) : 2 ^ i ≤ 9223372036854775808 := Nat.pow_le_pow_right (n := 2) (by decide) h
theorem pow65 {i : Nat} (h : i ≤ 64) : 2 ^ i ≤ 18446744073709551616 := Nat.pow_le_pow_right (n := 2) (by decide) h
theorem tn_le (b : Bool) : b.toNat ≤ 1 := by cases b <;> decide
theorem half_step (v m : Nat) (b : Bool) (hb : b = v.testBit m) : v / 2 ^ m = 2 * (v / 2 ^ (m + 1)) + b.toNat := by
  have h := dm2 v m
  rw [← hb] at h
  rw [Nat.pow_succ, ← Nat.div_div_eq_div_mul]
  generalize v / 2 ^ m = q at *
  omega
theorem or_two (a : Nat) (b : Bool) : 2 * a ||| b.toNat = 2 * a + b.toNat := by
  have := Nat.two_pow_add_eq_or_of_lt (i := 1) (b := b.toNat) (by have := tn_le b; omega) a
  rw [show 2 ^ 1 = 2 from rfl] at this
  exact this.symm
theorem hasBits_t (l : List Int) (n D : Nat) (hD : D ≤ 64) (hl : l.length ≤ 1000000000) (h : n + D ≤ 8 * l.length) : impl_hasBits.f l (n : Int) (D : Int) = some true := by
  unfold impl_hasBits.f
  rw [if_pos (by omega), if_pos (by omega), if_pos (by omega), w64 (n := 8 * (l.length : Int)) (by omega) (by omega), w64 (by omega) (by omega), decide_eq_true (by omega)]
theorem take_high_t {l : List Int} (hb : ∀ x ∈ l, 0 ≤ x ∧ x ≤ 255) (n D v : Nat) (hD : D ≤ 64) (hl : l.length ≤ 1000000000) (h : n + D ≤ 8 * l.length) (hv : v < 2 ^ D) (ht : ∀ i, i < D → tb true l (n + i) = v.testBit (D - 1 - i)) :
    Ev (fun k => impl_TakeHigh.f k l (n : Int) (D : Int)) (true, (v : Int), ((n + D : Nat) : Int)) := by
  refine evlet (hasBits_t l n D hD hl h) (evpos rfl ?_)
  have main := down (n := D) (P := fun i => Ev (fun k => impl_TakeHigh.l0 k l (n : Int) (D : Int) (i : Int) true ((v / 2 ^ (D - i) : Nat) : Int) ((n + D : Nat) : Int)) (true, (v : Int), ((n + D : Nat) : Int))) ?_ ?_
  · have e : wrap64 ((n : Int) + (D : Int)) = ((n + D : Nat) : Int) := by rw [w64 (by omega) (by omega)]; omega
    rw [Nat.sub_zero, Nat.div_eq_of_lt hv] at main
    simp only [e]
    exact main
  · rw [Nat.sub_self, Nat.pow_zero, Nat.div_one]
    exact Ev.step (fun k => rfl) (evneg (by omega) (Ev.now _))
  · intro i hi ih
    have e1 : wrap64 ((n : Int) + (i : Int)) = ((n + i : Nat) : Int) := by rw [w64 (by omega) (by omega)]; omega
    have e2 : wrap64 (Int.tdiv ((n + i : Nat) : Int) 8) = (((n + i) / 8 : Nat) : Int) := by
      rw [show Int.tdiv ((n + i : Nat) : Int) 8 = (((n + i) / 8 : Nat) : Int) from (Int.ofNat_tdiv (n + i) 8).symm]; exact w64 (by omega) (by omega)
    have e3 : wrap64 (7 - Int.tmod ((n + i : Nat) : Int) 8) = ((pos true (n + i) : Nat) : Int) := by
      rw [tm8, w7]; rfl
    have rb := rdbit (hi := true) hb (k := n + i) (by omega)
    have bn := tn_le (tb true l (n + i))
    have hs := half_step v (D - 1 - i) (tb true l (n + i)) (ht i hi)
    have f1 : D - 1 - i + 1 = D - i := by omega
    have f2 : D - (i + 1) = D - 1 - i := by omega
    rw [f1] at hs
    rw [f2] at ih
    have q0 : v / 2 ^ (D - i) < 9223372036854775808 := by
      have : v / 2 ^ (D - i) < 2 ^ i := by
        refine Nat.div_lt_of_lt_mul ?_
        rw [← Nat.pow_add, show D - i + i = D by omega]; exact hv
      exact Nat.lt_of_lt_of_le this (pow64 (by omega))
    have p0 : (0 : Int) ≤ (((n + i) / 8 : Nat) : Int) := Int.natCast_nonneg _
    have p1 : (((n + i) / 8 : Nat) : Int) < (l.length : Int) := Int.ofNat_lt.2 (by omega)
    have p2 : (0 : Int) ≤ ((pos true (n + i) : Nat) : Int) := Int.natCast_nonneg _
    refine Ev.step (fun k => rfl) (evpos (Int.ofNat_lt.2 hi) ?_)
    rw [e1, e2, e3, rb, w64s (by omega)]
    refine evpos p0 (evpos p1 (evpos p2 ?_))
    generalize v / 2 ^ (D - i) = q at *
    generalize tb true l (n + i) = b at *
    rw [show (q : Int) * 2 = ((2 * q : Nat) : Int) by push_cast; omega, uw _ (Int.natCast_nonneg _) (by omega), uw _ (Int.natCast_nonneg _) (by omega), or_u64 _ _ (by omega) (by omega), or_two, ← hs]
    exact ih
theorem put_high2 {f : Nat → Bool} (l : List Int) (n v m : Nat) (h : InvT true l n f) (hn : n ≤ 1300000) (hm : m ≤ 64) (hv : v < 18446744073709551616) (hf : ∀ i, i < m → f (n + i) = v.testBit (m - 1 - i)) :
    ∃ l' : List Int, InvT true l' (n + m) f ∧ Ev (fun k => spec_l1Sink_put.f k true l (n : Int) (m : Int) (v : Int)) (true, l', ((n + m : Nat) : Int)) ∧ Ev (fun k => impl_bitsOut_highFirst.f k l (n : Int) true (v : Int) (m : Int)) (l', ((n + m : Nat) : Int), true) := by
  have main := down (n := m) (P := fun i => ∀ l : List Int, InvT true l (n + i) f → ∃ l' : List Int, InvT true l' (n + m) f ∧ Ev (fun k => spec_l1Sink_put.l0 k (m : Int) (v : Int) (i : Int) true l ((n + i : Nat) : Int)) (true, l', ((n + m : Nat) : Int)) ∧ Ev (fun k => impl_bitsOut_highFirst.l0 k (v : Int) ((m : Int) - 1 - (i : Int)) l ((n + i : Nat) : Int) true) (l', ((n + m : Nat) : Int), true)) ?_ ?_
  · obtain ⟨l', g1, g2, g3⟩ := main l h
    refine ⟨l', g1, g2, ?_⟩
    have e : wrap64 ((m : Int) - 1) = (m : Int) - 1 - ((0 : Nat) : Int) := by rw [w64 (by omega) (by omega)]; omega
    show Ev (fun k => impl_bitsOut_highFirst.l0 k (v : Int) (wrap64 ((m : Int) - 1)) l (n : Int) true) _
    rw [e]; exact g3
  · intro l h
    exact ⟨l, h, Ev.step (fun k => rfl) (evneg (by omega) (Ev.now _)), Ev.step (fun k => rfl) (evneg (by omega) (Ev.now _))⟩
  · intro i hi ih l h
    have hfi := hf i hi
    obtain ⟨j, hj⟩ : ∃ j : Nat, j = m - 1 - i := ⟨_, rfl⟩
    rw [← hj, Nat.testBit_eq_decide_div_mod_eq] at hfi
    have j64 : j ≤ 64 := by omega
    have ej : (m : Int) - 1 - (i : Int) = (j : Int) := by omega
    have en : (m : Int) - 1 - ((i + 1 : Nat) : Int) = (j : Int) - 1 := by omega
    have b := bit_spec true l (n + i) (v / 2 ^ j % 2) h.inv (by omega) (by omega)
    have c := bit_impl true l (n + i) (v / 2 ^ j) h.inv (by omega) (val_lt v j hv)
    obtain ⟨l', g1, g2, g3⟩ := ih _ (stp_invT h (b := v / 2 ^ j % 2) (Nat.le_of_lt_succ (Nat.mod_lt _ (by decide))) hfi)
    have wj : wrap64 (wrap64 ((m : Int) - 1) - (i : Int)) = (j : Int) := by rw [w64 (n := (m : Int) - 1) (by omega) (by omega), w64 (by omega) (by omega)]; omega
    have wn : wrap64 ((j : Int) - 1) = (j : Int) - 1 := w64 (by omega) (by omega)
    have ui := uw (j : Int) (Int.natCast_nonneg j) (Int.lt_of_le_of_lt (Int.ofNat_le.2 j64) (by decide))
    have sh := shr_u v j j64
    have an := and1 (v / 2 ^ j) (val_lt v j hv)
    rw [en] at g3
    refine ⟨l', g1, ?_, ?_⟩
    · refine Ev.step (fun k => rfl) ?_
      simp only [spec_l1Sink_put.l0, if_true]
      rw [wj, ui, sh, an]
      refine evpos (Int.ofNat_lt.2 hi) (evpos (Int.natCast_nonneg j) (Ev.bind b ?_))
      rw [w64s (Nat.le_trans (Nat.le_of_lt hi) (Nat.le_trans hm (by decide)))]; exact g2
    · rw [ej]
      refine Ev.step (fun k => rfl) ?_
      simp only [impl_bitsOut_highFirst.l0]
      rw [sh, wn]
      exact evpos (Int.natCast_nonneg j) (evpos (Int.natCast_nonneg j) (evlet c g3))
theorem pow_int {D : Nat} (hD : D ≤ 16) : (1 : Int) ≤ 2 ^ D ∧ (2 : Int) ^ D ≤ 65536 := by
  have hN : 2 ^ D ≤ 65536 := Nat.pow_le_pow_right (n := 2) (by decide) hD
  have hP : 0 < 2 ^ D := Nat.two_pow_pos D
  rw [show (2 : Int) ^ D = ((2 ^ D : Nat) : Int) by push_cast; rfl]
  generalize 2 ^ D = m at *
  omega
def fbit (D : Nat) (s : List Int) (k : Nat) : Bool := (s.getD (k / D) 0).toNat.testBit (D - 1 - k % D)
theorem pack_both (s : List Int) (D : Nat) (hD0 : 1 ≤ D) (hD : D ≤ 16) (hs : ∀ x ∈ s, 0 ≤ x ∧ x < 2 ^ D) (hl : s.length ≤ 50000) : ∃ o : List Int, Ev (fun k => spec_l4Pack.f k s (D : Int)) o ∧ Ev (fun k => impl_PackRow.l0 k (D : Int) s (s.length : Int) 0 ([] : List Int) 0 true) o ∧ InvT true o (D * s.length) (fbit D s) := by
  have main := down (n := s.length) (P := fun i => ∀ l : List Int, InvT true l (D * i) (fbit D s) → ∃ o : List Int, Ev (fun k => spec_l4Pack.l0 k (D : Int) s (s.length : Int) (i : Int) true l ((D * i : Nat) : Int)) o ∧ Ev (fun k => impl_PackRow.l0 k (D : Int) s (s.length : Int) (i : Int) l ((D * i : Nat) : Int) true) o ∧ InvT true o (D * s.length) (fbit D s)) ?_ ?_
  · exact main [] (InvT.nil _ _)
  · intro l h
    exact ⟨l, Ev.step (fun k => rfl) (evneg (by omega) (Ev.now _)), Ev.step (fun k => rfl) (evneg (by omega) (Ev.now _)), h⟩
  · intro i hi ih l h
    have hb := hs _ (List.getElem_mem hi)
    have h16 := (pow_int hD).2
    obtain ⟨v, hv⟩ : ∃ v : Nat, s[i] = (v : Int) := ⟨s[i].toNat, by omega⟩
    have vlt : (v : Int) < 65536 := by rw [hv] at hb; exact Int.lt_of_lt_of_le hb.2 h16
    have hDi : D * i ≤ 16 * 50000 := Nat.mul_le_mul hD (by omega)
    have hf : ∀ j, j < D → fbit D s (D * i + j) = v.testBit (D - 1 - j) := by
      intro j hj
      unfold fbit
      rw [Nat.mul_add_div (by omega), Nat.div_eq_of_lt hj, Nat.add_zero, Nat.mul_add_mod, Nat.mod_eq_of_lt hj, getD_lt hi, hv, Int.toNat_natCast]
    obtain ⟨l', g1, g2, g3⟩ := put_high2 l (D * i) v D h (by omega) (by omega) (by omega) hf
    obtain ⟨o, e1, e2, ho⟩ := ih l' (by rw [Nat.mul_succ]; exact g1)
    refine ⟨o, Ev.step (fun k => rfl) (evpos (by omega) (evpos (by omega) (evpos (by omega) ?_))), Ev.step (fun k => rfl) (evpos (by omega) (evpos (by omega) (evpos (by omega) ?_))), ho⟩
    · rw [rd_nat, getD_lt hi, hv, uw (v : Int) (by omega) (by omega), w64s (by omega)]
      rw [Nat.mul_succ] at e1
      exact Ev.bind g2 e1
    · rw [rd_nat, getD_lt hi, hv, uw (v : Int) (by omega) (by omega), w64s (by omega)]
      rw [Nat.mul_succ] at e2
      exact Ev.bind g3 e2
/-- The depths. -/
theorem depth_t (d : Int) : (impl_goodDepth.f d = some false ∧ spec_l4Depth.f d = some false) ∨ (∃ D : Nat, d = (D : Int) ∧ 1 ≤ D ∧ D ≤ 16 ∧ impl_goodDepth.f d = some true ∧ spec_l4Depth.f d = some true ∧ IntKind.u64.wrap d = d ∧ shl .i64 1 d = 2 ^ D) := by
  by_cases h1 : d = 1
  · subst h1; exact .inr ⟨1, rfl, by decide, by decide, rfl, rfl, by decide, by decide⟩
  by_cases h2 : d = 2
  · subst h2; exact .inr ⟨2, rfl, by decide, by decide, rfl, rfl, by decide, by decide⟩
  by_cases h3 : d = 4
  · subst h3; exact .inr ⟨4, rfl, by decide, by decide, rfl, rfl, by decide, by decide⟩
  by_cases h4 : d = 8
  · subst h4; exact .inr ⟨8, rfl, by decide, by decide, rfl, rfl, by decide, by decide⟩
  by_cases h5 : d = 16
  · subst h5; exact .inr ⟨16, rfl, by decide, by decide, rfl, rfl, by decide, by decide⟩
  · left
    have e : (d == 16) = false := beq_eq_false_iff_ne.2 h5
    constructor
    · unfold impl_goodDepth.f; rw [if_neg h1, if_neg h2, if_neg h3, if_neg h4, e]
    · unfold spec_l4Depth.f; rw [if_neg h1, if_neg h2, if_neg h3, if_neg h4, e]
/-- The look at the samples: both go on, or both hand back nothing. -/
theorem range_both (s : List Int) (D : Nat) (h16 : (2 : Int) ^ D ≤ 65536) (h1 : (1 : Int) ≤ 2 ^ D) (hw : IntKind.u64.wrap (D : Int) = (D : Int)) (hs : shl .i64 1 (D : Int) = 2 ^ D) (hl : s.length ≤ 4611686018427387904) :
    ∃ q : Bool, Ev (fun k => impl_inRange.f k s (wrap64 (shl .i64 1 (D : Int) - 1))) q ∧ (q = true → (∀ x ∈ s, 0 ≤ x ∧ x < 2 ^ D) ∧ ∀ r, Ev (fun k => spec_l4Pack.f k s (D : Int)) r → Ev (fun k => spec_PackRow.l0 k s (D : Int) s (s.length : Int) 0) r) ∧ (q = false → Ev (fun k => spec_PackRow.l0 k s (D : Int) s (s.length : Int) 0) []) := by
  have wt : wrap64 (2 ^ D - 1) = (2 : Int) ^ D - 1 := by generalize (2 : Int) ^ D = T at *; exact w64 (by omega) (by omega)
  have main := down (n := s.length) (P := fun i => ∃ q : Bool, Ev (fun k => impl_inRange.l0 k ((2 : Int) ^ D - 1) s (s.length : Int) (i : Int)) q ∧ (q = true → (∀ x ∈ s.drop i, 0 ≤ x ∧ x < 2 ^ D) ∧ ∀ r, Ev (fun k => spec_l4Pack.f k s (D : Int)) r → Ev (fun k => spec_PackRow.l0 k s (D : Int) s (s.length : Int) (i : Int)) r) ∧ (q = false → Ev (fun k => spec_PackRow.l0 k s (D : Int) s (s.length : Int) (i : Int)) [])) ?_ ?_
  · obtain ⟨q, g1, g2, g3⟩ := main
    refine ⟨q, ?_, fun h => ⟨by simpa using (g2 h).1, (g2 h).2⟩, g3⟩
    rw [hs, wt]; exact g1
  · exact ⟨true, Ev.step (fun k => rfl) (evneg (by omega) (Ev.now _)), fun _ => ⟨fun x hx => by simp at hx, fun r hr => Ev.step (fun k => rfl) (evneg (by omega) (Ev.bind hr (Ev.now _)))⟩, fun h => by cases h⟩
  · intro i hi ⟨q, g1, g2, g3⟩
    have er : rd s (i : Int) = s[i] := by rw [rd_nat, getD_lt hi]
    have p0 : (0 : Int) ≤ IntKind.u64.wrap (D : Int) := by rw [hw]; exact Int.natCast_nonneg D
    have es : shl .i64 1 (IntKind.u64.wrap (D : Int)) = 2 ^ D := by rw [hw]; exact hs
    by_cases c1 : s[i] < 0
    · exact ⟨false, Ev.step (fun k => rfl) (evpos (by omega) (evpos (by omega) (evpos (by omega) (evpos (by rw [er]; exact c1) (Ev.now _))))), (fun h => by cases h), fun _ => Ev.step (fun k => rfl) (evpos (by omega) (evpos (by omega) (evpos (by omega) (evpos (by rw [er]; exact c1) (Ev.now _)))))⟩
    by_cases c2 : s[i] ≥ 2 ^ D
    · exact ⟨false, Ev.step (fun k => rfl) (evpos (by omega) (evpos (by omega) (evpos (by omega) (evneg (by rw [er]; exact c1) (evpos (by rw [er]; generalize (2 : Int) ^ D = T at *; omega) (Ev.now _)))))), (fun h => by cases h), fun _ => Ev.step (fun k => rfl) (evpos (by omega) (evpos (by omega) (evpos (by omega) (evneg (by rw [er]; exact c1) (evpos p0 (evpos (by rw [er, es]; exact c2) (Ev.now _)))))))⟩
    refine ⟨q, Ev.step (fun k => rfl) (evpos (by omega) (evpos (by omega) (evpos (by omega) (evneg (by rw [er]; exact c1) (evneg (by rw [er]; generalize (2 : Int) ^ D = T at *; omega) (by rw [w64s (by omega)]; exact g1)))))), fun hq => ⟨?_, fun r hr => Ev.step (fun k => rfl) (evpos (by omega) (evpos (by omega) (evpos (by omega) (evneg (by rw [er]; exact c1) (evpos p0 (evneg (by rw [er, es]; exact c2) (by rw [w64s (by omega)]; exact (g2 hq).2 r hr)))))))⟩, fun hq => Ev.step (fun k => rfl) (evpos (by omega) (evpos (by omega) (evpos (by omega) (evneg (by rw [er]; exact c1) (evpos p0 (evneg (by rw [er, es]; exact c2) (by rw [w64s (by omega)]; exact g3 hq)))))))⟩
    intro x hx
    rw [List.drop_eq_getElem_cons hi] at hx
    rcases List.mem_cons.1 hx with rfl | hx
    · generalize (2 : Int) ^ D = T at *; exact ⟨by omega, by omega⟩
    · exact (g2 hq).1 x hx
/-- Both pack to the same bytes; where these are some, they tell the samples. -/
theorem packrow_both (s : List Int) (d : Int) (hl : s.length ≤ 5000) : ∃ o : List Int, Ev (fun k => impl_PackRow.f k s d) o ∧ Ev (fun k => spec_PackRow.f k s d) o ∧ o.length ≤ 100000 ∧ (o = [] ∨ ∃ D : Nat, d = (D : Int) ∧ 1 ≤ D ∧ D ≤ 16 ∧ impl_goodDepth.f d = some true ∧ s.length ≤ 4096 ∧ (∀ x ∈ s, 0 ≤ x ∧ x < 2 ^ D) ∧ InvT true o (D * s.length) (fbit D s)) := by
  have none : ∀ s d, Ev (fun k => spec_PackRow.j0 k s d true) [] := fun s d => Ev.step (fun k => rfl) (Ev.now _)
  have nonei : ∀ s d, Ev (fun k => impl_PackRow.j0 k s d true) [] := fun s d => Ev.step (fun k => rfl) (Ev.now _)
  rcases depth_t d with ⟨h1, h2⟩ | ⟨D, rfl, hD0, hD, h1, h2, hw, hs⟩
  · exact ⟨[], evlet h1 (evneg Bool.false_ne_true (nonei s d)), evlet h2 (evneg Bool.false_ne_true (none s d)), by simp, .inl rfl⟩
  by_cases c : (s.length : Int) > 4096
  · refine ⟨[], evlet h1 (evpos rfl (evpos c (nonei s _))), evlet h2 (evpos rfl ?_), by simp, .inl rfl⟩
    rw [decide_eq_true c]
    exact none s _
  have h16 := (pow_int hD).2
  have h1' := (pow_int hD).1
  obtain ⟨q, g1, g2, g3⟩ := range_both s D h16 h1' hw hs (by omega)
  have j0 : ∀ r, Ev (fun k => spec_PackRow.l0 k s (D : Int) s (s.length : Int) 0) r → Ev (fun k => spec_PackRow.f k s (D : Int)) r := by
    intro r hr
    refine evlet h2 (evpos rfl ?_)
    rw [decide_eq_false c]
    exact Ev.step (fun k => rfl) hr
  cases q with
  | false => exact ⟨[], evlet h1 (evpos rfl (evneg c (evpos (Int.natCast_nonneg D) (Ev.bind g1 (nonei s _))))), j0 _ (g3 rfl), by simp, .inl rfl⟩
  | true =>
    obtain ⟨hr, hsp⟩ := g2 rfl
    obtain ⟨o, e1, e2, ho⟩ := pack_both s D hD0 hD hr (by omega)
    refine ⟨o, evlet h1 (evpos rfl (evneg c (evpos (Int.natCast_nonneg D) (Ev.bind g1 (Ev.step (fun k => rfl) e2))))), j0 _ (hsp _ e1), ?_, .inr ⟨D, rfl, hD0, hD, h1, by omega, hr, ho⟩⟩
    have := ho.inv.len
    have : D * s.length ≤ 16 * 4096 := Nat.mul_le_mul hD (by omega)
    omega
theorem unpack_t (s o : List Int) (D : Nat) (hD0 : 1 ≤ D) (hD : D ≤ 16) (hg : impl_goodDepth.f (D : Int) = some true) (hl : s.length ≤ 4096) (hs : ∀ x ∈ s, 0 ≤ x ∧ x < 2 ^ D) (h : InvT true o (D * s.length) (fbit D s)) : Ev (fun k => impl_UnpackRow.f k o (s.length : Int) (D : Int)) s := by
  have ol := h.inv.len
  have hDs : D * s.length ≤ 16 * 4096 := Nat.mul_le_mul hD hl
  have wm : wrap64 ((s.length : Int) * (D : Int)) = ((D * s.length : Nat) : Int) := by
    rw [show (s.length : Int) * (D : Int) = ((D * s.length : Nat) : Int) by push_cast; rw [Int.mul_comm]]
    exact w64 (by omega) (by omega)
  have w8 : wrap64 (8 * (o.length : Int)) = 8 * (o.length : Int) := w64 (by omega) (by omega)
  refine evlet hg (evpos rfl (evneg (by omega) (evneg (by omega) ?_)))
  rw [wm, w8, decide_eq_false (by omega)]
  refine Ev.step (fun k => rfl) ?_
  have main := down (n := s.length) (P := fun i => Ev (fun k => impl_UnpackRow.l0 k o (D : Int) (s.take i) (s.length : Int) (i : Int)) s) ?_ ?_
  · exact main
  · rw [List.take_length]
    exact Ev.step (fun k => rfl) (evneg (by omega) (Ev.now _))
  · intro i hi ih
    have hb := hs _ (List.getElem_mem hi)
    obtain ⟨v, hv⟩ : ∃ v : Nat, s[i] = (v : Int) := ⟨s[i].toNat, by generalize (2 : Int) ^ D = T at *; omega⟩
    have vlt : v < 2 ^ D := by
      have h2 := hb.2
      rw [hv, show (2 : Int) ^ D = ((2 ^ D : Nat) : Int) by push_cast; rfl] at h2
      exact Int.ofNat_lt.1 h2
    have hDi : D * (i + 1) ≤ D * s.length := Nat.mul_le_mul_left _ hi
    rw [Nat.mul_succ] at hDi
    have ht : ∀ j, j < D → tb true o (D * i + j) = v.testBit (D - 1 - j) := by
      intro j hj
      rw [h.tell, decide_eq_true (show D * i + j < D * s.length by omega), Bool.true_and]
      unfold fbit
      rw [Nat.mul_add_div (by omega), Nat.div_eq_of_lt hj, Nat.add_zero, Nat.mul_add_mod, Nat.mod_eq_of_lt hj, getD_lt hi, hv, Int.toNat_natCast]
    have t := take_high_t h.inv.bd (D * i) D v (by omega) (by omega) (by omega) vlt ht
    have wi : wrap64 ((i : Int) * (D : Int)) = ((D * i : Nat) : Int) := by
      rw [show (i : Int) * (D : Int) = ((D * i : Nat) : Int) by push_cast; rw [Int.mul_comm]]
      exact w64 (by omega) (by omega)
    have v16 : v < 65536 := Nat.lt_of_lt_of_le vlt (Nat.pow_le_pow_right (n := 2) (by decide) hD)
    have wv : wrap64 (v : Int) = s[i] := by rw [w64 (by omega) (by omega), hv]
    refine Ev.step (fun k => rfl) (evpos (by omega) ?_)
    rw [wi]
    refine Ev.bind t (evpos (by rw [List.length_take]; omega) ?_)
    show Ev (fun k => impl_UnpackRow.l0 k o (D : Int) (s.take i ++ [wrap64 (v : Int)]) (s.length : Int) (wrap64 ((i : Int) + 1))) s
    rw [wv, w64s (by omega), List.take_append_getElem hi]
    exact ih
theorem wBytes_same (l : List Int) (hl : l.length ≤ 4611686018427387904) : Ev (fun k => laws_wBytes.f k l l) true := by
  refine evpos rfl ?_
  refine down (n := l.length) (P := fun i => Ev (fun k => laws_wBytes.l0 k l l (l.length : Int) (i : Int)) true) ?_ ?_
  · exact Ev.step (fun k => rfl) (evneg (by omega) (Ev.now _))
  · intro i hi h
    refine Ev.step (fun k => rfl) (evpos (by omega) (evpos (by omega) (evpos (by omega) (evpos (by omega) (evpos rfl ?_)))))
    rw [w64s (by omega)]; exact h
theorem wInts_same (l : List Int) (hl : l.length ≤ 4611686018427387904) : Ev (fun k => laws_wInts.f k l l) true := by
  refine evpos rfl ?_
  refine down (n := l.length) (P := fun i => Ev (fun k => laws_wInts.l0 k l l (l.length : Int) (i : Int)) true) ?_ ?_
  · exact Ev.step (fun k => rfl) (evneg (by omega) (Ev.now _))
  · intro i hi h
    refine Ev.step (fun k => rfl) (evpos (by omega) (evpos (by omega) (evpos (by omega) (evpos (by omega) (evpos rfl ?_)))))
    rw [w64s (by omega)]; exact h
theorem draw_t {l : List Int} (hl : ByteL l) : ∃ (s : List Int) (d : Int), Ev (fun k => spec_DrawPackRow.f k l) (s, d) ∧ s.length ≤ 5000 := by
  obtain ⟨r1, a1, s1, e1, x1, y1, p1, q1⟩ := pick_t hl 0 0 5 (by omega) (by omega) (by omega)
  obtain ⟨r2, a2, s2, e2, x2, y2, p2, q2⟩ := pick_t hl a1 s1 20 (by omega) (by omega) (by omega)
  obtain ⟨j, rfl⟩ : ∃ j : Nat, r1 = (j : Int) := ⟨r1.toNat, by omega⟩
  obtain ⟨n, rfl⟩ : ∃ n : Nat, r2 = (n : Int) := ⟨r2.toNat, by omega⟩
  have hT : ∃ T : Int, shl .i64 1 (IntKind.u64.wrap (rd [1, 2, 4, 8, 16] (j : Int))) = T ∧ 0 ≤ IntKind.u64.wrap (rd [1, 2, 4, 8, 16] (j : Int)) ∧ 2 ≤ T ∧ T ≤ 65536 := by
    rw [rd_nat]
    have hj : j < 5 := by omega
    rcases j with _ | _ | _ | _ | _ | j
    · exact ⟨2, by decide, by decide, by decide, by decide⟩
    · exact ⟨4, by decide, by decide, by decide, by decide⟩
    · exact ⟨16, by decide, by decide, by decide, by decide⟩
    · exact ⟨256, by decide, by decide, by decide, by decide⟩
    · exact ⟨65536, by decide, by decide, by decide, by decide⟩
    · omega
  obtain ⟨T, hT, hT0, hT1, hT2⟩ := hT
  obtain ⟨o, a3, s3, e3, ol, ob, p3, q3⟩ := samples_t hl a2 s2 (rd [1, 2, 4, 8, 16] (j : Int)) T n 1 1 hT hT0 hT1 hT2 (by omega) (by omega) (by omega) (by omega)
  have ol' : o.length = n := by rw [ol]; omega
  obtain ⟨r4, a4, s4, e4, x4, y4, p4, q4⟩ := pick_t hl a3 s3 9 (by omega) (by omega) (by omega)
  have pre : ∀ (s : List Int) (d : Int), Ev (fun k => if r4 = 0 then ((spec_l1Cur_pick.f l a4 s4 18).bind fun bt165 => (some (o, bt165.1))) else (if r4 = 1 then (if (o.length : Int) > 0 then ((spec_l1Cur_pick.f l a4 s4 (o.length : Int)).bind fun bt168 => (if 0 ≤ (IntKind.u64.wrap (rd [1, 2, 4, 8, 16] (j : Int))) then (if 0 ≤ bt168.1 then (if bt168.1 < (o.length : Int) then (some ((o.set (bt168.1 : Int).toNat (shl .i64 1 (IntKind.u64.wrap (rd [1, 2, 4, 8, 16] (j : Int))))), rd [1, 2, 4, 8, 16] (j : Int))) else (none)) else (none)) else (none))) else (some (o, rd [1, 2, 4, 8, 16] (j : Int)))) else (if r4 = 2 then ((spec_l1Cur_one.f l a4 s4 5).bind fun bt172 => (if bt172.1 = true then ((spec_l1Cur_pick.f l bt172.2.1 bt172.2.2 2).bind fun bt175 => (if 0 ≤ (wrap64 (4096 + bt175.1)) then (if (wrap64 (4096 + bt175.1) : Int).toNat ≤ 35184372088832 then (some ((List.replicate (wrap64 (4096 + bt175.1) : Int).toNat 0), rd [1, 2, 4, 8, 16] (j : Int))) else (none)) else (none))) else (some (o, rd [1, 2, 4, 8, 16] (j : Int))))) else (some (o, rd [1, 2, 4, 8, 16] (j : Int)))))) (s, d) → Ev (fun k => spec_DrawPackRow.f k l) (s, d) := by
    intro s d h
    exact evlet rfl (evlet e1 (evpos x1 (evpos (by simp only [List.length_cons, List.length_nil]; omega) (evlet e2 (Ev.bind e3 (evlet e4 h))))))
  by_cases c0 : r4 = 0
  · obtain ⟨r5, a5, s5, e5, _⟩ := pick_t hl a4 s4 18 (by omega) (by omega) (by omega)
    exact ⟨o, r5, pre _ _ (evpos c0 (evlet e5 (Ev.now _))), by omega⟩
  by_cases c1 : r4 = 1
  · by_cases c2 : (o.length : Int) > 0
    · obtain ⟨r5, a5, s5, e5, x5, y5, _⟩ := pick_t hl a4 s4 (o.length : Int) (by omega) (by omega) (by omega)
      exact ⟨_, _, pre _ _ (evneg c0 (evpos c1 (evpos c2 (evlet e5 (evpos hT0 (evpos x5 (evpos y5 (Ev.now _)))))))), by rw [List.length_set]; omega⟩
    · exact ⟨_, _, pre _ _ (evneg c0 (evpos c1 (evneg c2 (Ev.now _)))), by omega⟩
  by_cases c2 : r4 = 2
  · obtain ⟨b5, a5, s5, e5, p5, q5⟩ := one_t hl a4 s4 5 (by omega) (by omega) (by omega)
    cases b5 with
    | false => exact ⟨_, _, pre _ _ (evneg c0 (evneg c1 (evpos c2 (evlet e5 (evneg Bool.false_ne_true (Ev.now _)))))), by omega⟩
    | true =>
      obtain ⟨r6, a6, s6, e6, x6, y6, _⟩ := pick_t hl a5 s5 2 (by omega) (by omega) (by omega)
      have w6 : wrap64 (4096 + r6) = 4096 + r6 := w64 (by omega) (by omega)
      exact ⟨_, _, pre _ _ (evneg c0 (evneg c1 (evpos c2 (evlet e5 (evpos rfl (evlet e6 (evpos (by simp only; rw [w6]; omega) (evpos (by simp only; rw [w6]; omega) (Ev.now _))))))))), by simp only [List.length_replicate]; rw [w6]; omega⟩
  · exact ⟨_, _, pre _ _ (evneg c0 (evneg c1 (evneg c2 (Ev.now _)))), by omega⟩
theorem FnRows : laws_FnRows.Pure := by
  intro l _ _ hb
  refine Ev.rounds ?_
  by_cases c : (l.length : Int) > 1048576
  · exact evpos c (Ev.now _)
  obtain ⟨s, d, e, hs⟩ := draw_t (bytel hb c)
  obtain ⟨o, g1, g2, ol, h⟩ := packrow_both s d hs
  refine evneg c (Ev.bind e (Ev.bind g1 (Ev.bind g2 (Ev.bind (wBytes_same o (by omega)) (evpos rfl ?_)))))
  by_cases c2 : (o.length : Int) = 0
  · exact evpos c2 (Ev.now _)
  rcases h with rfl | ⟨D, rfl, hD0, hD, hg, hl, hr, ho⟩
  · exact absurd rfl c2
  · exact evneg c2 (Ev.bind (unpack_t s o D hD0 hD hg hl hr ho) (Ev.bind (wInts_same s (by omega)) (Ev.now _)))
end Go.Proofs.Ytglaedjadlappaa.Pure

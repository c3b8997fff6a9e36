/- FnLaps: the plain law: what is lapped and unlapped is at most 4 away. -/
import Derived.Test.YtmnihpedokeggaaDoorPFnLapsx0
import Derived.Test.YtmnihpedokeggaaDoorPFnLapsx1
import Derived.Test.YtmnihpedokeggaaDoorPFnLapsx2
import Derived.Test.YtmnihpedokeggaaDoorPFnLapsx3
import Derived.Test.YtmnihpedokeggaaDoorPFnLapsx4
import Derived.Test.YtmnihpedokeggaaDoorK
import Derived.Laws.Bits64b
namespace Go.Proofs.YtmnihpedokeggaaDoor.Pure
open Go.RowKit Go.Proofs.YtmnihpedokeggaaDoor.PFnLaps Go.Proofs.YtmnihpedokeggaaDoor.K Go.Proofs.YtmnihpedokeggaaDoorW.PrintWords Go.Proofs.YtmnihpedokeggaaDoorW.PrintLast Go.Proofs.YtmnihpedokeggaaDoorW.PrintMore

/-- The bytes that a cursor reads. -/
structure ByteL (l : List Int) : Prop where
  len : l.length ≤ 1048576
  bd : ∀ x ∈ l, 0 ≤ x ∧ x ≤ 255
theorem bytel {l : List Int} (h : ∀ x ∈ l, (Lit.int .u8 x).wf = true) (hl : ¬ (l.length : Int) > 1048576) : ByteL l := ⟨by omega, fun x hx => wfb (h x hx)⟩
theorem rd_byte {l : List Int} (h : ByteL l) {i : Int} (h0 : 0 ≤ i) (h1 : i < l.length) : 0 ≤ rd l i ∧ rd l i ≤ 255 := by
  obtain ⟨j, rfl⟩ : ∃ j : Nat, i = (j : Int) := ⟨i.toNat, by omega⟩
  rw [rd_nat, getD_lt (show j < l.length by omega)]
  exact h.bd _ (List.getElem_mem _)
theorem and255 (x : Int) : 0 ≤ Go.bits .and .u64 x 255 ∧ Go.bits .and .u64 x 255 ≤ 255 := by
  have e : Go.bits .and .u64 x 255 = IntKind.u64.wrap ((BitVec.ofInt 64 x &&& BitVec.ofInt 64 255).toNat : Int) := rfl
  have h : (BitVec.ofInt 64 x &&& BitVec.ofInt 64 255).toNat ≤ 255 := by
    rw [BitVec.toNat_and]; exact Nat.and_le_right
  rw [e, IntKind.wrap_u64]
  omega
theorem w255 {x : Int} (h : 0 ≤ x ∧ x ≤ 255) : wrap64 x = x := w64 (by omega) (by omega)
theorem next_t {l : List Int} (hl : ByteL l) (a s : Int) (h0 : 0 ≤ a) (h1 : a ≤ 2000000000000) : ∃ v s', spec_l1Cur_next.f l a s = some (v, a + 1, s') ∧ 0 ≤ v ∧ v ≤ 255 := by
  unfold spec_l1Cur_next.f
  rw [show wrap64 (a + 1) = a + 1 from w64 (by omega) (by omega)]
  by_cases c : a < (l.length : Int)
  · rw [if_pos c, if_pos h0, if_pos (by omega)]
    have := rd_byte hl h0 c
    exact ⟨_, _, rfl, by rw [w255 this]; exact this.1, by rw [w255 this]; exact this.2⟩
  · rw [if_neg c, if_neg (by omega)]
    refine ⟨_, _, rfl, ?_, ?_⟩
    · rw [w255 (and255 _)]; exact (and255 _).1
    · rw [w255 (and255 _)]; exact (and255 _).2
theorem pick_t {l : List Int} (hl : ByteL l) (a s n : Int) (hn : 1 ≤ n) (h0 : 0 ≤ a) (h1 : a ≤ 1000000000000) : ∃ r a' s', spec_l1Cur_pick.f l a s n = some (r, a', s') ∧ 0 ≤ r ∧ r < n ∧ a ≤ a' ∧ a' ≤ a + 3 := by
  unfold spec_l1Cur_pick.f
  by_cases c : n ≤ 1
  · rw [if_pos c]
    exact ⟨0, a, s, rfl, by omega, by omega, by omega, by omega⟩
  rw [if_neg c]
  have nz : ¬ n = 0 := by omega
  obtain ⟨v, s1, e1, v0, v1⟩ := next_t hl a s h0 (by omega)
  rw [e1, Option.bind_some]
  have fin : ∀ x : Int, 0 ≤ x → 0 ≤ Int.tmod x n ∧ Int.tmod x n < n := fun x hx => ⟨Int.tmod_nonneg _ hx, Int.tmod_lt_of_pos _ (by omega)⟩
  by_cases c2 : n > 200
  · rw [if_pos c2]
    obtain ⟨u, s2, e2, u0, u1⟩ := next_t hl (a + 1) s1 (by omega) (by omega)
    simp only [e2, Option.bind_some]
    rw [w64 (n := v * 256) (by omega) (by omega), w64 (n := v * 256 + u) (by omega) (by omega)]
    by_cases c3 : n > 50000
    · rw [if_pos c3]
      obtain ⟨t, s3, e3, t0, t1⟩ := next_t hl (a + 1 + 1) s2 (by omega) (by omega)
      simp only [e3, Option.bind_some]
      rw [if_neg nz, w64 (n := (v * 256 + u) * 256) (by omega) (by omega), w64 (n := (v * 256 + u) * 256 + t) (by omega) (by omega)]
      exact ⟨_, _, _, rfl, (fin _ (by omega)).1, (fin _ (by omega)).2, by omega, by omega⟩
    · rw [if_neg c3, if_neg nz]
      exact ⟨_, _, _, rfl, (fin _ (by omega)).1, (fin _ (by omega)).2, by omega, by omega⟩
  · rw [if_neg c2, if_neg (by omega), if_neg nz]
    exact ⟨_, a + 1, s1, rfl, (fin _ (by omega)).1, (fin _ (by omega)).2, by omega, by omega⟩
theorem pow25 : 2 ^ 25 = 33554432 := by decide
theorem pow26 {m : Nat} (hm : m ≤ 25) : 1 ≤ 2 ^ m ∧ 2 ^ m ≤ 33554432 := by
  have h : 2 ^ m ≤ 2 ^ 25 := Nat.pow_le_pow_right (by decide) hm
  rw [pow25] at h
  exact ⟨Nat.one_le_two_pow, h⟩
theorem shl_m (m : Nat) (hm : m ≤ 25) : shl .i64 1 (IntKind.u64.wrap (wrap64 (((m + 1 : Nat) : Int) - 1))) = ((2 ^ m : Nat) : Int) ∧ 0 ≤ IntKind.u64.wrap (wrap64 (((m + 1 : Nat) : Int) - 1)) := by
  have e1 : wrap64 (((m + 1 : Nat) : Int) - 1) = (m : Int) := by rw [w64 (by omega) (by omega)]; omega
  have e2 : IntKind.u64.wrap (m : Int) = (m : Int) := by rw [IntKind.wrap_u64]; omega
  have p := pow26 hm
  have m64 : m ≤ 64 := by omega
  rw [e1, e2]
  refine ⟨?_, Int.natCast_nonneg m⟩
  unfold shl
  rw [Int.toNat_natCast, Nat.min_eq_left (show m ≤ IntKind.i64.bits from m64), Int.one_mul, show (2 : Int) ^ m = ((2 ^ m : Nat) : Int) by push_cast; rfl, i64_w]
  generalize 2 ^ m = t at *
  exact w64 (by omega) (by omega)
theorem tone_loop {l : List Int} (hl : ByteL l) (top kd : Int) (ht0 : 1 ≤ top) (ht1 : top ≤ 33554432) (n : Nat) (hn : n ≤ 10000) :
    ∀ (o : List Int) (v st a s : Int), o.length = n → 0 ≤ a → a ≤ 100000000 → ∃ (o' : List Int) (a' s' : Int), Ev (fun k => spec_l1Cur_tone.l0 k top kd o v st (n : Int) ((0 : Nat) : Int) l a s) (o', a', s') ∧ o'.length = n ∧ a ≤ a' ∧ a' ≤ a + 3 * n := by
  have main := down (n := n) (P := fun i => ∀ (o : List Int) (v st a s : Int), o.length = n → 0 ≤ a → a ≤ 100000000 + 3 * i → ∃ (o' : List Int) (a' s' : Int), Ev (fun k => spec_l1Cur_tone.l0 k top kd o v st (n : Int) (i : Int) l a s) (o', a', s') ∧ o'.length = n ∧ a ≤ a' ∧ a' ≤ a + 3 * (n - i : Int)) ?_ ?_
  · intro o v st a s ho h0 h1
    obtain ⟨o', a', s', e, h2, h3, h4⟩ := main o v st a s ho h0 (by omega)
    exact ⟨o', a', s', e, h2, h3, by omega⟩
  · intro o v st a s ho h0 h1
    exact ⟨o, a, s, Ev.step (fun k => rfl) (evneg (by omega) (Ev.now _)), ho, by omega, by omega⟩
  · intro i hi ih o v st a s ho h0 h1
    have f0 : (0 : Int) ≤ (i : Int) := by omega
    have f1 : (i : Int) < (o.length : Int) := by omega
    have lt : (i : Int) < (n : Int) := by omega
    have j1 : ∀ (v st a s : Int), 0 ≤ a → a ≤ 100000000 + 3 * (i + 1) → ∃ (o' : List Int) (a' s' : Int), Ev (fun k => spec_l1Cur_tone.j1 k top kd o v st (i : Int) (n : Int) (i : Int) l a s) (o', a', s') ∧ o'.length = n ∧ a ≤ a' ∧ a' ≤ a + 3 * (n - i - 1 : Int) := by
      intro v st a s h0 h1
      have go : ∀ u z : Int, ∃ (o' : List Int) (a' s' : Int), Ev (fun k => if 0 ≤ (i : Int) then (if (i : Int) < (o.length : Int) then spec_l1Cur_tone.l0 k top kd (o.set (i : Int).toNat u) z st (n : Int) (wrap64 ((i : Int) + 1)) l a s else none) else none) (o', a', s') ∧ o'.length = n ∧ a ≤ a' ∧ a' ≤ a + 3 * (n - i - 1 : Int) := by
        intro u z
        obtain ⟨o', a', s', e, h2, h3, h4⟩ := ih (o.set i u) z st a s (by rw [List.length_set]; exact ho) h0 (by omega)
        refine ⟨o', a', s', evpos f0 (evpos f1 ?_), h2, h3, by omega⟩
        rw [w64s (by omega), Int.toNat_natCast]; exact e
      by_cases c1 : v < wrap64 (-top)
      · by_cases c2 : wrap64 (-top) ≥ top
        · obtain ⟨o', a', s', e, h⟩ := go (wrap64 (top - 1)) (wrap64 (top - 1))
          exact ⟨o', a', s', Ev.step (fun k => rfl) (evpos c1 (evpos c2 e)), h⟩
        · obtain ⟨o', a', s', e, h⟩ := go (wrap64 (-top)) (wrap64 (-top))
          exact ⟨o', a', s', Ev.step (fun k => rfl) (evpos c1 (evneg c2 e)), h⟩
      · by_cases c2 : v ≥ top
        · obtain ⟨o', a', s', e, h⟩ := go (wrap64 (top - 1)) (wrap64 (top - 1))
          exact ⟨o', a', s', Ev.step (fun k => rfl) (evneg c1 (evpos c2 e)), h⟩
        · obtain ⟨o', a', s', e, h⟩ := go v v
          exact ⟨o', a', s', Ev.step (fun k => rfl) (evneg c1 (evneg c2 e)), h⟩
    by_cases c0 : kd = 0
    · obtain ⟨r, a1, s1, e1, _, _, p1, q1⟩ := pick_t hl a s (2 * top) (by omega) h0 (by omega)
      obtain ⟨o', a', s', e, h2, h3, h4⟩ := j1 (wrap64 (r - top)) st a1 s1 (by omega) (by omega)
      refine ⟨o', a', s', Ev.step (fun k => rfl) (evpos lt (evpos c0 ?_)), h2, by omega, by omega⟩
      rw [show wrap64 (2 * top) = 2 * top from w64 (by omega) (by omega)]
      exact evlet e1 e
    by_cases c1 : kd = 1
    · by_cases c2 : Int.tmod (i : Int) 37 = 0
      · obtain ⟨o', a', s', e, h2, h3, h4⟩ := j1 (wrap64 (v + st)) (wrap64 (-st)) a s h0 (by omega)
        exact ⟨o', a', s', Ev.step (fun k => rfl) (evpos lt (evneg c0 (evpos c1 (evpos c2 e)))), h2, by omega, by omega⟩
      · obtain ⟨o', a', s', e, h2, h3, h4⟩ := j1 (wrap64 (v + st)) st a s h0 (by omega)
        exact ⟨o', a', s', Ev.step (fun k => rfl) (evpos lt (evneg c0 (evpos c1 (evneg c2 e)))), h2, by omega, by omega⟩
    by_cases c2 : kd = 2
    · obtain ⟨r, a1, s1, e1, _, _, p1, q1⟩ := pick_t hl a s 7 (by omega) h0 (by omega)
      obtain ⟨o', a', s', e, h2, h3, h4⟩ := j1 (wrap64 (v + wrap64 (r - 3))) st a1 s1 (by omega) (by omega)
      exact ⟨o', a', s', Ev.step (fun k => rfl) (evpos lt (evneg c0 (evneg c1 (evpos c2 (evlet e1 e))))), h2, by omega, by omega⟩
    by_cases c3 : kd = 3
    · obtain ⟨o', a', s', e, h2, h3, h4⟩ := j1 (wrap64 (Int.tdiv (wrap64 ((wrap64 ((i : Int) * (i : Int))) * st)) 9)) st a s h0 (by omega)
      exact ⟨o', a', s', Ev.step (fun k => rfl) (evpos lt (evneg c0 (evneg c1 (evneg c2 (evpos c3 e))))), h2, by omega, by omega⟩
    · obtain ⟨o', a', s', e, h2, h3, h4⟩ := j1 v st a s h0 (by omega)
      exact ⟨o', a', s', Ev.step (fun k => rfl) (evpos lt (evneg c0 (evneg c1 (evneg c2 (evneg c3 e))))), h2, by omega, by omega⟩
theorem tone_t {l : List Int} (hl : ByteL l) (a s : Int) (n m : Nat) (hn : n ≤ 10000) (hm : m ≤ 25) (h0 : 0 ≤ a) (h1 : a ≤ 50000000) : ∃ (o : List Int) (a' s' : Int), Ev (fun k => spec_l1Cur_tone.f k l a s (n : Int) ((m + 1 : Nat) : Int)) (o, a', s') ∧ o.length = n ∧ a ≤ a' ∧ a' ≤ a + 40000 := by
  obtain ⟨eT, eN⟩ := shl_m m hm
  obtain ⟨t0, t1⟩ := pow26 hm
  obtain ⟨T, hT⟩ : ∃ T : Int, T = ((2 ^ m : Nat) : Int) := ⟨_, rfl⟩
  have T0 : 1 ≤ T := by generalize 2 ^ m = t at *; omega
  have T1 : T ≤ 33554432 := by generalize 2 ^ m = t at *; omega
  rw [← hT] at eT
  obtain ⟨r1, a1, s1, e1, _, _, p1, q1⟩ := pick_t hl a s 5 (by omega) h0 (by omega)
  obtain ⟨r2, a2, s2, e2, _, _, p2, q2⟩ := pick_t hl a1 s1 (2 * T) (by omega) (by omega) (by omega)
  obtain ⟨r3, a3, s3, e3, _, _, p3, q3⟩ := pick_t hl a2 s2 40 (by omega) (by omega) (by omega)
  have ln : (List.replicate n (0 : Int)).length = n := by simp
  obtain ⟨o, a', s', e, h2, h3, h4⟩ := tone_loop hl T r1 T0 T1 n hn (List.replicate n 0) (wrap64 (r2 - T)) (wrap64 (r3 - 20)) a3 s3 ln (by omega) (by omega)
  refine ⟨o, a', s', ?_, h2, by omega, by omega⟩
  unfold spec_l1Cur_tone.f
  rw [eT, show wrap64 (2 * T) = 2 * T from w64 (by omega) (by omega), Int.toNat_natCast]
  refine evpos eN (evlet e1 (evpos (Int.natCast_nonneg n) (evpos (by omega) (evlet rfl (evlet e2 (evlet e3 ?_))))))
  simp only [ln]
  exact e
/-! The table. -/
theorem and127 (x : Int) : 0 ≤ Go.bits .and .i64 x 127 ∧ Go.bits .and .i64 x 127 ≤ 127 := by
  have e : Go.bits .and .i64 x 127 = IntKind.i64.wrap ((BitVec.ofInt 64 x &&& BitVec.ofInt 64 127).toNat : Int) := rfl
  have h : (BitVec.ofInt 64 x &&& BitVec.ofInt 64 127).toNat ≤ 127 := by
    rw [BitVec.toNat_and]; exact Nat.and_le_right
  rw [e, i64_w, w64 (by omega) (by omega)]
  omega
theorem zk_bd : ∀ i : Nat, i < 33 → 0 ≤ zkL.getD i 0 ∧ zkL.getD i 0 ≤ 16384 := by decide
theorem zk_rd {i : Int} (h0 : 0 ≤ i) (h1 : i < 33) : 0 ≤ rd zkL i ∧ rd zkL i ≤ 16384 := zk_bd i.toNat (by omega)
theorem zc_some (a : Int) : ∃ v, impl_zc.f a = some v ∧ -16384 ≤ v ∧ v ≤ 16384 := by
  obtain ⟨h0, h1⟩ := and127 a
  unfold impl_zc.f
  generalize Go.bits .and .i64 a 127 = m at h0 h1
  by_cases c1 : m ≤ 32
  · rw [if_pos c1, if_pos h0, if_pos (by omega)]
    have := zk_rd h0 (show m < 33 by omega)
    exact ⟨_, rfl, by omega, by omega⟩
  rw [if_neg c1]
  by_cases c2 : m ≤ 64
  · rw [if_pos c2, w64 (n := 64 - m) (by omega) (by omega), if_pos (by omega), if_pos (by omega)]
    have := zk_rd (i := 64 - m) (by omega) (by omega)
    exact ⟨_, rfl, by rw [w64 (by omega) (by omega)]; omega, by rw [w64 (by omega) (by omega)]; omega⟩
  rw [if_neg c2]
  by_cases c3 : m ≤ 96
  · rw [if_pos c3, w64 (n := m - 64) (by omega) (by omega), if_pos (by omega), if_pos (by omega)]
    have := zk_rd (i := m - 64) (by omega) (by omega)
    exact ⟨_, rfl, by rw [w64 (by omega) (by omega)]; omega, by rw [w64 (by omega) (by omega)]; omega⟩
  rw [if_neg c3, w64 (n := 128 - m) (by omega) (by omega), if_pos (by omega), if_pos (by omega)]
  have := zk_rd (i := 128 - m) (by omega) (by omega)
  exact ⟨_, rfl, by omega, by omega⟩
def zcv (a : Int) : Int := (impl_zc.f a).getD 0
theorem zc_v (a : Int) : impl_zc.f a = some (zcv a) := by
  obtain ⟨v, h, _⟩ := zc_some a
  unfold zcv; rw [h]; rfl
/-! The window. -/
def wv (i : Nat) : Int := zcv (wrap64 (31 - wrap64 (2 * (i : Int))))
def wl : List Int := (List.range 32).map wv
theorem wl_len : wl.length = 32 := by simp [wl]
theorem win_impl : Ev (fun k => impl_Window.f k) wl := by
  have main := down (n := 32) (P := fun i => Ev (fun k => impl_Window.l0 k ((List.range i).map wv) (i : Int)) wl) ?_ ?_
  · exact main
  · generalize hN : ((32 : Nat) : Int) = N
    exact Ev.step (fun k => rfl) (evneg (by omega) (Ev.now _))
  · intro i hi h
    refine Ev.step (fun k => rfl) (evpos (by omega) (evlet (zc_v _) (evpos (by simp; omega) ?_)))
    rw [w64s (by omega)]
    rw [List.range_succ, List.map_append] at h
    exact h
/-- The sum up to the place j. -/
def ac (g : Nat → Int) : Nat → Int
  | 0 => 8192
  | j + 1 => wrap64 (ac g j + wrap64 (g j))
def lx (x : List Int) (i : Nat) : Int := (wrap64 (wrap64 (rd x (i : Int) * rd wl (i : Int)) + 8192)) / 16384
def lg (x : List Int) (n j : Nat) : Int := lx x j * zcv (wrap64 (wrap64 (wrap64 (2 * (j : Int)) + 17) * wrap64 (wrap64 (2 * (n : Int)) + 1)))
def lo (x : List Int) (n : Nat) : Int := ac (lg x n) x.length / 16384
def lapped (x : List Int) : List Int := (List.range 16).map (lo x)
theorem impl_in (x o : List Int) (n : Nat) (hx : x.length = 32) (y : Int) (r : List Int) (h : Ev (fun k => if o.length < 17592186044416 then (impl_Lap.l0 k x wl (o ++ [lo x n]) (wrap64 (y + 1))) else (none)) r) :
    Ev (fun k => impl_Lap.l1 k x wl o (n : Int) 8192 y (x.length : Int) 0) r := by
  refine down (n := x.length) (P := fun j => Ev (fun k => impl_Lap.l1 k x wl o (n : Int) (ac (lg x n) j) y (x.length : Int) (j : Int)) r) ?_ ?_
  · exact Ev.step (fun k => rfl) (evneg (by omega) h)
  · intro j hj ih
    have hw : (j : Int) < (wl.length : Int) := by rw [wl_len]; omega
    refine Ev.step (fun k => rfl) (evpos (by omega) (evpos (by omega) (evpos (by omega) (evpos hw (evlet (zc_v _) ?_)))))
    rw [w64s (by omega)]
    exact ih
theorem impl_lap (a b : List Int) (ha : a.length = 16) (hb : b.length = 16) : Ev (fun k => impl_Lap.j0 k a b false) (lapped (a ++ b)) := by
  have hx : (a ++ b).length = 32 := by rw [List.length_append]; omega
  have zc : impl_zcopy.f a = some a := by
    unfold impl_zcopy.f
    rw [Option.bind_some, if_pos (by simp; omega), List.nil_append]
  refine Ev.step (f := fun k => (impl_zcopy.f a).bind fun t162 => (if t162.length + b.length < 17592186044416 then ((impl_Window.f k).bind fun t168 => (impl_Lap.l0 k (t162 ++ b) t168 ([] : List Int) 0)) else (none))) (fun k => by simp only [impl_Lap.j0, Bool.false_eq_true, if_false]) ?_
  refine evlet zc (evpos (by omega) (Ev.bind win_impl ?_))
  generalize a ++ b = x at hx
  have main := down (n := 16) (P := fun n => Ev (fun k => impl_Lap.l0 k x wl ((List.range n).map (lo x)) (n : Int)) (lapped x)) ?_ ?_
  · exact main
  · generalize hN : ((16 : Nat) : Int) = N
    exact Ev.step (fun k => rfl) (evneg (by omega) (Ev.now _))
  · intro n hn ih
    refine Ev.step (fun k => rfl) (evpos (by omega) ?_)
    refine impl_in x _ n hx (n : Int) _ (evpos (by simp; omega) ?_)
    rw [w64s (by omega)]
    rw [List.range_succ, List.map_append] at ih
    exact ih
/-! Sums. -/
def sm (f : Nat → Int) : Nat → Int
  | 0 => 0
  | n + 1 => sm f n + f n
theorem sm_add (f g : Nat → Int) : ∀ n, sm (fun k => f k + g k) n = sm f n + sm g n
  | 0 => rfl
  | n + 1 => by show sm (fun k => f k + g k) n + (f n + g n) = (sm f n + f n) + (sm g n + g n); rw [sm_add f g n]; omega
theorem sm_mul (f : Nat → Int) (c : Int) : ∀ n, sm (fun k => f k * c) n = sm f n * c
  | 0 => by show (0 : Int) = 0 * c; rw [Int.zero_mul]
  | n + 1 => by show sm _ n + _ = (sm f n + f n) * c; rw [sm_mul f c n, Int.add_mul]
theorem sm_congr {f g : Nat → Int} : ∀ n, (∀ k, k < n → f k = g k) → sm f n = sm g n
  | 0, _ => rfl
  | n + 1, h => by show sm f n + f n = sm g n + g n; rw [sm_congr n (fun k hk => h k (by omega)), h n (by omega)]
theorem sm_swap (f : Nat → Nat → Int) : ∀ m n, sm (fun j => sm (fun k => f k j) m) n = sm (fun k => sm (fun j => f k j) n) m
  | 0, n => by
    have : ∀ n, sm (fun _ => (0 : Int)) n = 0 := fun n => by
      induction n with
      | zero => rfl
      | succ n ih => show sm _ n + 0 = 0; rw [ih]; rfl
    exact this n
  | m + 1, n => by
    show sm (fun j => sm (fun k => f k j) m + f m j) n = sm (fun k => sm (fun j => f k j) n) m + sm (fun j => f m j) n
    rw [sm_add, sm_swap f m n]
theorem sm_one (f : Nat → Int) (a : Nat) : ∀ n, sm (fun k => if k = a then f k else 0) n = if a < n then f a else 0
  | 0 => rfl
  | n + 1 => by
    show sm _ n + (if n = a then f n else 0) = _
    rw [sm_one f a n]
    by_cases h : n = a
    · subst h; rw [if_neg (Nat.lt_irrefl n), if_pos rfl, if_pos (Nat.lt_succ_self n)]; omega
    · rw [if_neg h]
      by_cases h2 : a < n
      · rw [if_pos h2, if_pos (by omega)]; omega
      · rw [if_neg h2, if_neg (by omega)]; rfl
def ab (d : Int) : Int := if d < 0 then -d else d
theorem ab_mul {x d B : Int} (h0 : -B ≤ x) (h1 : x ≤ B) : -(B * ab d) ≤ x * d ∧ x * d ≤ B * ab d := by
  unfold ab
  by_cases c : d < 0
  · rw [if_pos c]
    have hn : 0 ≤ -d := by omega
    have p := Int.mul_le_mul_of_nonneg_right h1 hn
    have q := Int.mul_le_mul_of_nonneg_right h0 hn
    rw [Int.mul_neg, Int.mul_neg] at p q
    rw [Int.neg_mul, Int.neg_neg] at q
    rw [Int.mul_neg]
    omega
  · rw [if_neg c]
    have hn : 0 ≤ d := by omega
    have p := Int.mul_le_mul_of_nonneg_right h1 hn
    have q := Int.mul_le_mul_of_nonneg_right h0 hn
    rw [Int.neg_mul] at q
    exact ⟨q, p⟩
theorem sm_bd (X D B : Nat → Int) : ∀ n, (∀ k, k < n → -(B k) ≤ X k ∧ X k ≤ B k) → -(sm (fun k => B k * ab (D k)) n) ≤ sm (fun k => X k * D k) n ∧ sm (fun k => X k * D k) n ≤ sm (fun k => B k * ab (D k)) n
  | 0, _ => ⟨Int.le_refl _, Int.le_refl _⟩
  | n + 1, h => by
    have p := sm_bd X D B n (fun k hk => h k (by omega))
    have q := ab_mul (d := D n) (h n (by omega)).1 (h n (by omega)).2
    show -(sm _ n + B n * ab (D n)) ≤ sm _ n + X n * D n ∧ sm _ n + X n * D n ≤ sm _ n + B n * ab (D n)
    omega
/-! The numbers. -/
def cs (i n : Nat) : Int := zcv (wrap64 (wrap64 (wrap64 (2 * (i : Int)) + 17) * wrap64 (wrap64 (2 * (n : Int)) + 1)))
def wn (k : Nat) : Int := zcv (wrap64 (31 - wrap64 (2 * (k : Int))))
def mir (i : Nat) : Nat := if i < 16 then 15 - i else 47 - i
def sg (i : Nat) : Int := if i < 16 then -1 else 1
def gm (i k : Nat) : Int := sm (fun n => cs k n * cs i n) 16
def ideal (i k : Nat) : Int := (if k = i then 2147483648 else 0) + (if k = mir i then sg i * 2147483648 else 0)
def bd (k : Nat) : Int := 8191 * wn k / 16384 + 1
theorem num : ∀ i, i < 32 → sm (fun k => bd k * ab (gm i k - ideal i k)) 32 + 8192 * sm (fun n => ab (cs i n)) 16 + 1073741824 < 4294967296 := by decide +kernel
theorem wn_bd : ∀ k, k < 32 → 0 ≤ wn k ∧ wn k ≤ 16384 := by decide +kernel
theorem wn_pair : ∀ i, i < 16 → wn (31 - i) = wn i ∧ wn (15 - i) = wn (16 + i) ∧ ab (wn i * wn i + wn (16 + i) * wn (16 + i) - 268435456) ≤ 10609 ∧ wn i + wn (16 + i) ≤ 23200 := by decide +kernel
theorem near {l s : Int} (h : l = (8192 + s) / 16384) : -8192 ≤ l * 16384 - s ∧ l * 16384 - s ≤ 8192 := by omega
theorem close {M T E1 E2 N1 N2 I : Int} (hM : M = (65536 + T) / 131072) (e1 : T * 16384 = E1 + (E2 + 2147483648 * I)) (b1 : -(8192 * N1) ≤ E1 ∧ E1 ≤ 8192 * N1) (b2 : -N2 ≤ E2 ∧ E2 ≤ N2) (hn : N2 + 8192 * N1 + 1073741824 < 4294967296) : -1 ≤ M - I ∧ M - I ≤ 1 := by omega
/-- A block that is lapped and unlapped is itself and its mirror, to within one. -/
theorem core (X L : Nat → Int) (i : Nat) (hi : i < 32) (hX : ∀ k, k < 32 → -(bd k) ≤ X k ∧ X k ≤ bd k) (hL : ∀ n, n < 16 → L n = (8192 + sm (fun k => X k * cs k n) 32) / 16384) (M : Int) (hM : M = (65536 + sm (fun n => L n * cs i n) 16) / 131072) :
    -1 ≤ M - (X i + sg i * X (mir i)) ∧ M - (X i + sg i * X (mir i)) ≤ 1 := by
  have hm : mir i < 32 := by unfold mir; split <;> omega
  -- the rounding of the waves
  have e1 : sm (fun n => L n * cs i n) 16 * 16384 = sm (fun n => (L n * 16384 - sm (fun k => X k * cs k n) 32) * cs i n) 16 + sm (fun n => sm (fun k => X k * cs k n) 32 * cs i n) 16 := by
    rw [← sm_add, ← sm_mul]
    refine sm_congr 16 (fun n _ => ?_)
    rw [Int.sub_mul, Int.sub_add_cancel, Int.mul_right_comm]
  have b1 := sm_bd (fun n => L n * 16384 - sm (fun k => X k * cs k n) 32) (fun n => cs i n) (fun _ => 8192) 16 (fun n hn => by
    have h := hL n hn
    show -8192 ≤ L n * 16384 - sm (fun k => X k * cs k n) 32 ∧ L n * 16384 - sm (fun k => X k * cs k n) 32 ≤ 8192
    exact near h)
  have e2 : sm (fun n => sm (fun k => X k * cs k n) 32 * cs i n) 16 = sm (fun k => X k * gm i k) 32 := by
    rw [show (fun n => sm (fun k => X k * cs k n) 32 * cs i n) = fun n => sm (fun k => X k * cs k n * cs i n) 32 from funext fun n => (sm_mul _ _ _).symm]
    rw [sm_swap (fun k n => X k * cs k n * cs i n)]
    refine sm_congr 32 (fun k _ => ?_)
    unfold gm
    rw [Int.mul_comm (X k), ← sm_mul]
    exact sm_congr 16 (fun n _ => by rw [Int.mul_assoc, Int.mul_comm])
  have e3 : sm (fun k => X k * gm i k) 32 = sm (fun k => X k * (gm i k - ideal i k)) 32 + 2147483648 * (X i + sg i * X (mir i)) := by
    have e4 : sm (fun k => X k * ideal i k) 32 = 2147483648 * (X i + sg i * X (mir i)) := by
      have : (fun k => X k * ideal i k) = fun k => (if k = i then X k * 2147483648 else 0) + (if k = mir i then X k * (sg i * 2147483648) else 0) := by
        funext k
        unfold ideal
        rw [Int.mul_add]
        congr 1
        · split <;> simp
        · split <;> simp
      rw [this, sm_add, sm_one (fun k => X k * 2147483648), sm_one (fun k => X k * (sg i * 2147483648)), if_pos hi, if_pos hm]
      rw [Int.mul_add, Int.mul_comm (X i), ← Int.mul_assoc, Int.mul_comm (X (mir i)), Int.mul_comm (sg i * X (mir i))]
    rw [← e4, ← sm_add]
    refine sm_congr 32 (fun k _ => ?_)
    rw [← Int.mul_add, Int.sub_add_cancel]
  have b2 := sm_bd X (fun k => gm i k - ideal i k) bd 32 hX
  have hn := num i hi
  have e5 : sm (fun n => (8192 : Int) * ab (cs i n)) 16 = 8192 * sm (fun n => ab (cs i n)) 16 := by
    rw [Int.mul_comm, ← sm_mul]
    exact sm_congr 16 (fun n _ => Int.mul_comm _ _)
  rw [e5] at b1
  rw [e2, e3] at e1
  exact close hM e1 b1 b2 hn
/-- The window twice: what is left of a sample. -/
theorem last (i : Nat) (hi : i < 16) (b b' : Int) (hb : -8191 ≤ b ∧ b ≤ 8191) (M1 M2 : Int)
    (h1 : -1 ≤ M1 - ((b * wn (16 + i) + 8192) / 16384 + (b' * wn (31 - i) + 8192) / 16384) ∧ M1 - ((b * wn (16 + i) + 8192) / 16384 + (b' * wn (31 - i) + 8192) / 16384) ≤ 1)
    (h2 : -1 ≤ M2 - ((b * wn i + 8192) / 16384 - (b' * wn (15 - i) + 8192) / 16384) ∧ M2 - ((b * wn i + 8192) / 16384 - (b' * wn (15 - i) + 8192) / 16384) ≤ 1) :
    -4 ≤ (M1 * wn (16 + i) + 8192) / 16384 + (M2 * wn i + 8192) / 16384 - b ∧ (M1 * wn (16 + i) + 8192) / 16384 + (M2 * wn i + 8192) / 16384 - b ≤ 4 := by
  obtain ⟨p1, p2, p3, p4⟩ := wn_pair i hi
  have q1 := wn_bd i (by omega)
  have q2 := wn_bd (16 + i) (by omega)
  rw [p1] at h1
  rw [p2] at h2
  generalize wn i = v at *
  generalize wn (16 + i) = u at *
  -- the four roundings
  obtain ⟨r1, s1⟩ : ∃ r, (b * u + 8192) / 16384 * 16384 = b * u + r ∧ -8192 < r + 1 ∧ r ≤ 8192 := ⟨(b * u + 8192) / 16384 * 16384 - b * u, by omega⟩
  obtain ⟨r2, s2⟩ : ∃ r, (b' * v + 8192) / 16384 * 16384 = b' * v + r ∧ -8192 < r + 1 ∧ r ≤ 8192 := ⟨(b' * v + 8192) / 16384 * 16384 - b' * v, by omega⟩
  obtain ⟨r3, s3⟩ : ∃ r, (b * v + 8192) / 16384 * 16384 = b * v + r ∧ -8192 < r + 1 ∧ r ≤ 8192 := ⟨(b * v + 8192) / 16384 * 16384 - b * v, by omega⟩
  obtain ⟨r4, s4⟩ : ∃ r, (b' * u + 8192) / 16384 * 16384 = b' * u + r ∧ -8192 < r + 1 ∧ r ≤ 8192 := ⟨(b' * u + 8192) / 16384 * 16384 - b' * u, by omega⟩
  generalize (b * u + 8192) / 16384 = x1 at *
  generalize (b' * v + 8192) / 16384 = x2 at *
  generalize (b * v + 8192) / 16384 = x3 at *
  generalize (b' * u + 8192) / 16384 = x4 at *
  -- M1 * 16384 = b u + b' v + f1, M2 * 16384 = b v - b' u + f2
  obtain ⟨f1, g1⟩ : ∃ f, M1 * 16384 = b * u + b' * v + f ∧ -32768 ≤ f ∧ f ≤ 32768 := ⟨M1 * 16384 - (b * u + b' * v), by omega⟩
  obtain ⟨f2, g2⟩ : ∃ f, M2 * 16384 = b * v - b' * u + f ∧ -32768 ≤ f ∧ f ≤ 32768 := ⟨M2 * 16384 - (b * v - b' * u), by omega⟩
  have k1 : M1 * u * 16384 = b * (u * u) + b' * (v * u) + f1 * u := by
    rw [Int.mul_right_comm, g1.1, Int.add_mul, Int.add_mul, Int.mul_assoc, Int.mul_assoc]
  have k2 : M2 * v * 16384 = b * (v * v) - b' * (v * u) + f2 * v := by
    rw [Int.mul_right_comm, g2.1, Int.add_mul, Int.sub_mul, Int.mul_assoc, Int.mul_assoc, Int.mul_comm u v]
  have k3 := ab_mul (x := b) (d := v * v + u * u - 268435456) (B := 8191) (by omega) hb.2
  rw [Int.mul_sub, Int.mul_add] at k3
  have k4 : 8191 * ab (v * v + u * u - 268435456) ≤ 8191 * 10609 := Int.mul_le_mul_of_nonneg_left p3 (by decide)
  have k5 := Int.mul_le_mul_of_nonneg_right g1.2.1 q2.1
  have k6 := Int.mul_le_mul_of_nonneg_right g1.2.2 q2.1
  have k7 := Int.mul_le_mul_of_nonneg_right g2.2.1 q1.1
  have k8 := Int.mul_le_mul_of_nonneg_right g2.2.2 q1.1
  generalize M1 * u = m1 at *
  generalize M2 * v = m2 at *
  generalize b * (u * u) = z1 at *
  generalize b * (v * v) = z2 at *
  generalize b' * (v * u) = z3 at *
  generalize ab (v * v + u * u - 268435456) = z4 at *
  generalize f1 * u = z5 at *
  generalize f2 * v = z6 at *
  clear s1 s2 s3 s4 g1 g2 h1 h2 p3
  omega
/-! The waves as whole numbers. -/
theorem rd_wl (i : Nat) (hi : i < 32) : rd wl (i : Int) = wn i := by
  rw [rd_nat]; unfold wl; rw [range_getD _ _ _ _ hi]; rfl
theorem cs_bd (i n : Nat) : -16384 ≤ cs i n ∧ cs i n ≤ 16384 := by
  obtain ⟨v, h, h0, h1⟩ := zc_some (wrap64 (wrap64 (wrap64 (2 * (i : Int)) + 17) * wrap64 (wrap64 (2 * (n : Int)) + 1)))
  unfold cs zcv
  rw [h]
  exact ⟨h0, h1⟩
def acs (s : Int) (g : Nat → Int) : Nat → Int
  | 0 => s
  | j + 1 => wrap64 (acs s g j + wrap64 (g j))
theorem acs_sm (s : Int) (hs : 0 ≤ s ∧ s ≤ 65536) (g : Nat → Int) (hg : ∀ k, -8589934592 ≤ g k ∧ g k ≤ 8589934592) : ∀ j : Nat, j ≤ 32 → acs s g j = s + sm g j ∧ -(8589934592 * (j : Int)) ≤ sm g j ∧ sm g j ≤ 8589934592 * (j : Int)
  | 0, _ => ⟨(Int.add_zero s).symm, by show _ ≤ (0 : Int); omega, by show (0 : Int) ≤ _; omega⟩
  | j + 1, hj => by
    obtain ⟨e, b0, b1⟩ := acs_sm s hs g hg j (by omega)
    have h := hg j
    show wrap64 (acs s g j + wrap64 (g j)) = s + (sm g j + g j) ∧ _ ≤ sm g j + g j ∧ sm g j + g j ≤ _
    rw [e, w64 (n := g j) (by omega) (by omega), w64 (by omega) (by omega)]
    omega
theorem ac_acs (g : Nat → Int) : ∀ j, ac g j = acs 8192 g j
  | 0 => rfl
  | j + 1 => by show wrap64 (ac g j + _) = wrap64 (acs 8192 g j + _); rw [ac_acs g j]
theorem mul_bd {x y A B : Int} (hx : -A ≤ x ∧ x ≤ A) (hy : -B ≤ y ∧ y ≤ B) (hA : 0 ≤ A) : -(A * B) ≤ x * y ∧ x * y ≤ A * B := by
  have h := ab_mul (d := y) hx.1 hx.2
  have hb : ab y ≤ B := by unfold ab; split <;> omega
  have := Int.mul_le_mul_of_nonneg_left hb hA
  omega
/-- Small samples. -/
def Sm (l : List Int) : Prop := ∀ i : Nat, -8191 ≤ rd l (i : Int) ∧ rd l (i : Int) ≤ 8191
theorem lx_eq {x : List Int} (h : Sm x) (k : Nat) (hk : k < 32) : lx x k = (rd x (k : Int) * wn k + 8192) / 16384 ∧ -(bd k) ≤ lx x k ∧ lx x k ≤ bd k := by
  have hw := wn_bd k hk
  have hx := h k
  have p := mul_bd hx (show -(wn k) ≤ wn k ∧ wn k ≤ wn k by omega) (by decide)
  have q : 8191 * wn k ≤ 8191 * 16384 := Int.mul_le_mul_of_nonneg_left hw.2 (by decide)
  unfold lx bd
  rw [rd_wl k hk]
  generalize rd x (k : Int) * wn k = z at p
  rw [w64 (n := z) (by omega) (by omega), w64 (by omega) (by omega)]
  omega
def Lv (x : List Int) (n : Nat) : Int := (8192 + sm (fun k => lx x k * cs k n) 32) / 16384
theorem lo_eq {x : List Int} (h : Sm x) (hl : x.length = 32) (n : Nat) : lo x n = Lv x n ∧ -1048576 ≤ Lv x n ∧ Lv x n ≤ 1048575 := by
  unfold lo Lv
  rw [hl, ac_acs]
  have hg : ∀ k, k < 32 → -(8192 * 16384) ≤ lg x n k ∧ lg x n k ≤ 8192 * 16384 := fun k hk => by
    have hb := lx_eq h k hk
    have hw := wn_bd k hk
    have hbd : bd k ≤ 8192 := by unfold bd; omega
    exact mul_bd (x := lx x k) (y := cs k n) (A := 8192) (B := 16384) (by omega) (cs_bd k n) (by decide)
  have hs : ∀ j : Nat, j ≤ 32 → acs 8192 (lg x n) j = 8192 + sm (lg x n) j ∧ -(134217728 * (j : Int)) ≤ sm (lg x n) j ∧ sm (lg x n) j ≤ 134217728 * (j : Int) := by
    intro j
    induction j with
    | zero => intro _; exact ⟨rfl, by show _ ≤ (0 : Int); omega, by show (0 : Int) ≤ _; omega⟩
    | succ j ih =>
      intro hj
      obtain ⟨e, b0, b1⟩ := ih (by omega)
      have h := hg j (by omega)
      show wrap64 (acs 8192 (lg x n) j + wrap64 (lg x n j)) = 8192 + (sm (lg x n) j + lg x n j) ∧ _ ≤ sm (lg x n) j + lg x n j ∧ sm (lg x n) j + lg x n j ≤ _
      rw [e, w64 (n := lg x n j) (by omega) (by omega), w64 (by omega) (by omega)]
      omega
  obtain ⟨e, b0, b1⟩ := hs 32 (Nat.le_refl _)
  rw [e]
  have eg : sm (fun k => lx x k * cs k n) 32 = sm (lg x n) 32 := rfl
  rw [eg]
  generalize sm (lg x n) 32 = z at b0 b1
  omega
theorem Lv_core {x : List Int} (h : Sm x) (i : Nat) (hi : i < 32) (M : Int) (hM : M = (65536 + sm (fun n => Lv x n * cs i n) 16) / 131072) : -1 ≤ M - (lx x i + sg i * lx x (mir i)) ∧ M - (lx x i + sg i * lx x (mir i)) ≤ 1 :=
  core (lx x) (Lv x) i hi (fun k hk => (lx_eq h k hk).2) (fun _ _ => rfl) M hM
/-! The unlapped block. -/
def um (L : List Int) (i : Nat) : Int := acs 65536 (fun n => rd L (n : Int) * cs i n) 16 / 131072
def uo (L : List Int) (i : Nat) : Int := (wrap64 (wrap64 (um L i * rd wl (i : Int)) + 8192)) / 16384
def unl (L : List Int) : List Int := (List.range 32).map (uo L)
theorem unl_in (L o : List Int) (i : Nat) (hL : L.length = 16) (y : Int) (r : List Int) (h : Ev (fun k => if 0 ≤ (i : Int) then (if (i : Int) < (wl.length : Int) then (if o.length < 17592186044416 then (impl_zunlap.l0 k L wl (o ++ [uo L i]) (wrap64 (y + 1))) else (none)) else (none)) else (none)) r) :
    Ev (fun k => impl_zunlap.l1 k L wl o (i : Int) 65536 y L (L.length : Int) 0) r := by
  refine down (n := L.length) (P := fun j => Ev (fun k => impl_zunlap.l1 k L wl o (i : Int) (acs 65536 (fun n => rd L (n : Int) * cs i n) j) y L (L.length : Int) (j : Int)) r) ?_ ?_
  · rw [hL]
    generalize hN : ((16 : Nat) : Int) = N
    exact Ev.step (fun k => rfl) (evneg (by omega) h)
  · intro j hj ih
    refine Ev.step (fun k => rfl) (evpos (by omega) (evpos (by omega) (evpos (by omega) (evlet (zc_v _) ?_))))
    rw [w64s (by omega)]
    exact ih
theorem zunlap_ev (L : List Int) (hL : L.length = 16) : Ev (fun k => impl_zunlap.f k L) (unl L) := by
  refine Ev.bind win_impl ?_
  have main := down (n := 32) (P := fun i => Ev (fun k => impl_zunlap.l0 k L wl ((List.range i).map (uo L)) (i : Int)) (unl L)) ?_ ?_
  · exact main
  · generalize hN : ((32 : Nat) : Int) = N
    exact Ev.step (fun k => rfl) (evneg (by omega) (Ev.now _))
  · intro i hi ih
    refine Ev.step (fun k => rfl) (evpos (by omega) ?_)
    refine unl_in L _ i hL (i : Int) _ (evpos (by omega) (evpos (by rw [wl_len]; omega) (evpos (by simp; omega) ?_)))
    rw [w64s (by omega)]
    rw [List.range_succ, List.map_append] at ih
    exact ih
theorem range_ev (l : List Int) (lo hi : Int) (hl : l.length ≤ 16) (h : ∀ i : Nat, i < l.length → lo ≤ rd l (i : Int) ∧ rd l (i : Int) ≤ hi) : Ev (fun k => impl_zrange.f k l lo hi 16) true := by
  obtain ⟨N, hN⟩ : ∃ N : Int, N = 16 := ⟨_, rfl⟩
  rw [← hN]
  refine evneg (by omega) ?_
  refine down (n := l.length) (P := fun i => Ev (fun k => impl_zrange.l0 k lo hi l (l.length : Int) (i : Int)) true) ?_ ?_
  · exact Ev.step (fun k => rfl) (evneg (by omega) (Ev.now _))
  · intro i hi' ih
    have hb := h i hi'
    refine Ev.step (fun k => rfl) (evpos (by omega) (evpos (by omega) (evpos (by omega) (evneg (by omega) (evneg (by omega) ?_)))))
    rw [w64s (by omega)]; exact ih
theorem unlap_ev (L : List Int) (hL : L.length = 16) (h : ∀ i : Nat, i < L.length → -1048576 ≤ rd L (i : Int) ∧ rd L (i : Int) ≤ 1048575) : Ev (fun k => impl_Unlap.f k L) (unl L) := by
  obtain ⟨N, hN⟩ : ∃ N : Int, N = 16 := ⟨_, rfl⟩
  have r := range_ev L (-1048576) 1048575 (by omega) h
  have hc : (L.length : Int) = 16 := by omega
  exact evpos hc (Ev.bind r (evpos rfl (Ev.bind (zunlap_ev L hL) (Ev.now _))))
theorem lap_ev (a b : List Int) (ha : a.length = 16) (hb : b.length = 16) (sa : Sm a) (sb : Sm b) : Ev (fun k => impl_Lap.f k a b) (lapped (a ++ b)) := by
  have z : ∀ l : List Int, l.length = 16 → Sm l → Ev (fun k => impl_zsamples.f k l 16) true := fun l hl sl => by
    have hc : (l.length : Int) = 16 := by omega
    exact evpos hc (Ev.bind (range_ev l (-32768) 32767 (by omega) (fun i _ => by have := sl i; omega)) (Ev.now _))
  exact Ev.bind (z a ha sa) (evpos rfl (Ev.bind (z b hb sb) (impl_lap a b ha hb)))
theorem lap_short (a b : List Int) (h : ¬ (a.length = 16 ∧ b.length = 16)) (sa : a.length ≤ 16) (sa' : Sm a) : Ev (fun k => impl_Lap.f k a b) [] := by
  have jt : Ev (fun k => impl_Lap.j0 k a b true) [] := Ev.step (f := fun _ => some []) (fun k => by simp only [impl_Lap.j0, if_true]) (Ev.now _)
  by_cases ha : (a.length : Int) = 16
  · have hb : ¬ (b.length : Int) = 16 := fun hb => h ⟨by omega, by omega⟩
    exact Ev.bind (a := true) (evpos ha (Ev.bind (range_ev a (-32768) 32767 sa (fun i _ => by have := sa' i; omega)) (Ev.now _))) (evpos rfl (Ev.bind (a := false) (evneg hb (Ev.now _)) jt))
  · exact Ev.bind (a := false) (evneg ha (Ev.now _)) (evneg (by simp) jt)
theorem Sm_app {a b : List Int} (sa : Sm a) (sb : Sm b) : Sm (a ++ b) := by
  intro i
  rw [rd_nat]
  by_cases h : i < a.length
  · have := sa i
    rw [rd_nat] at this
    simpa [List.getD_eq_getElem?_getD, List.getElem?_append_left h] using this
  · have := sb (i - a.length)
    rw [rd_nat] at this
    simpa [List.getD_eq_getElem?_getD, List.getElem?_append_right (Nat.le_of_not_lt h)] using this
theorem rd_l {a b : List Int} {i : Nat} (h : i < a.length) : rd (a ++ b) (i : Int) = rd a (i : Int) := by
  rw [rd_nat, rd_nat]; simp [List.getD_eq_getElem?_getD, List.getElem?_append_left h]
theorem rd_r {a b : List Int} {i j : Nat} (h : j = a.length + i) : rd (a ++ b) (j : Int) = rd b (i : Int) := by
  subst h
  rw [rd_nat, rd_nat, List.getD_eq_getElem?_getD, List.getD_eq_getElem?_getD, List.getElem?_append_right (Nat.le_add_right _ _), Nat.add_sub_cancel_left]
theorem rd_lapped (x : List Int) (n : Nat) (hn : n < 16) : rd (lapped x) (n : Int) = lo x n := by
  rw [rd_nat]; unfold lapped; rw [range_getD _ _ _ _ hn]
theorem um_eq {x : List Int} (h : Sm x) (hl : x.length = 32) (i : Nat) : um (lapped x) i = (65536 + sm (fun n => Lv x n * cs i n) 16) / 131072 := by
  unfold um
  have hs : ∀ j : Nat, j ≤ 16 → acs 65536 (fun n => rd (lapped x) (n : Int) * cs i n) j = 65536 + sm (fun n => Lv x n * cs i n) j ∧ -(17179869184 * (j : Int)) ≤ sm (fun n => Lv x n * cs i n) j ∧ sm (fun n => Lv x n * cs i n) j ≤ 17179869184 * (j : Int) := by
    intro j
    induction j with
    | zero => intro _; exact ⟨rfl, by show _ ≤ (0 : Int); omega, by show (0 : Int) ≤ _; omega⟩
    | succ j ih =>
      intro hj
      obtain ⟨e, b0, b1⟩ := ih (by omega)
      have hb := lo_eq h hl j
      have g := mul_bd (x := Lv x j) (y := cs i j) (A := 1048576) (B := 16384) (by omega) (cs_bd i j) (by decide)
      show wrap64 (acs 65536 _ j + wrap64 (rd (lapped x) (j : Int) * cs i j)) = 65536 + (sm _ j + Lv x j * cs i j) ∧ _ ≤ sm _ j + Lv x j * cs i j ∧ sm _ j + Lv x j * cs i j ≤ _
      rw [rd_lapped x j (by omega), hb.1, e]
      generalize Lv x j * cs i j = z at g
      generalize sm (fun n => Lv x n * cs i n) j = y at b0 b1
      rw [w64 (n := z) (by omega) (by omega), w64 (by omega) (by omega)]
      omega
  rw [(hs 16 (Nat.le_refl _)).1]
theorem uo_eq {x : List Int} (h : Sm x) (hl : x.length = 32) (i : Nat) (hi : i < 32) : uo (lapped x) i = (um (lapped x) i * wn i + 8192) / 16384 ∧ -32768 ≤ uo (lapped x) i ∧ uo (lapped x) i ≤ 32768 := by
  have hc := Lv_core h i hi _ (um_eq h hl i)
  have hm : mir i < 32 := by unfold mir; split <;> omega
  have h1 := (lx_eq h i hi).2
  have h2 := (lx_eq h (mir i) hm).2
  have w1 := wn_bd i hi
  have w2 := wn_bd (mir i) hm
  have hs : sg i = 1 ∨ sg i = -1 := by unfold sg; split <;> simp
  have hu : -16400 ≤ um (lapped x) i ∧ um (lapped x) i ≤ 16400 := by
    unfold bd at h1 h2
    generalize lx x (mir i) = q at *
    rcases hs with e | e <;> rw [e] at hc <;> omega
  have p := mul_bd (x := um (lapped x) i) (y := wn i) (A := 16400) (B := 16384) hu (by omega) (by decide)
  unfold uo
  rw [rd_wl i hi]
  generalize um (lapped x) i * wn i = z at p
  rw [w64 (n := z) (by omega) (by omega), w64 (by omega) (by omega)]
  omega
/-- The claim for one sample. -/
theorem four {a b : List Int} (ha : a.length = 16) (hb : b.length = 16) (sa : Sm a) (sb : Sm b) (i : Nat) (hi : i < 16) :
    -4 ≤ uo (lapped (a ++ b)) (16 + i) + uo (lapped (b ++ a)) i - rd b (i : Int) ∧ uo (lapped (a ++ b)) (16 + i) + uo (lapped (b ++ a)) i - rd b (i : Int) ≤ 4 := by
  have s1 := Sm_app sa sb
  have s2 := Sm_app sb sa
  have l1 : (a ++ b).length = 32 := by rw [List.length_append]; omega
  have l2 : (b ++ a).length = 32 := by rw [List.length_append]; omega
  rw [(uo_eq s1 l1 (16 + i) (by omega)).1, (uo_eq s2 l2 i (by omega)).1]
  have m1 : mir (16 + i) = 31 - i := by unfold mir; rw [if_neg (by omega)]; omega
  have m2 : mir i = 15 - i := by unfold mir; rw [if_pos hi]
  have g1 : sg (16 + i) = 1 := by unfold sg; rw [if_neg (by omega)]
  have g2 : sg i = -1 := by unfold sg; rw [if_pos hi]
  have h1 := Lv_core s1 (16 + i) (by omega) _ (um_eq s1 l1 (16 + i))
  have h2 := Lv_core s2 i (by omega) _ (um_eq s2 l2 i)
  rw [m1, g1, Int.one_mul, (lx_eq s1 (16 + i) (by omega)).1, (lx_eq s1 (31 - i) (by omega)).1, rd_r (i := i) (by omega), rd_r (i := 15 - i) (by omega)] at h1
  rw [m2, g2, (lx_eq s2 i (by omega)).1, (lx_eq s2 (15 - i) (by omega)).1, rd_l (by omega), rd_l (by omega)] at h2
  refine last i hi (rd b (i : Int)) (rd b ((15 - i : Nat) : Int)) (sb i) _ _ h1 ?_
  rw [Int.neg_one_mul, ← Int.sub_eq_add_neg] at h2
  exact h2
/-! The drawn blocks. -/
theorem drawn {l : List Int} (hl : ByteL l) : ∃ o : List Int, Ev (fun k => spec_DrawWaves.f k l) o ∧ o.length ≤ 16 := by
  obtain ⟨o, a1, s1, e1, h1, p1, q1⟩ := tone_t hl 0 0 16 15 (by omega) (by omega) (by omega) (by omega)
  have e1 : Ev (fun k => spec_l1Cur_tone.f k l 0 0 16 16) (o, a1, s1) := e1
  obtain ⟨r, a2, s2, e2, u2, v2, p2, q2⟩ := pick_t hl a1 s1 14 (by omega) (by omega) (by omega)
  suffices h : ∃ (o' : List Int) (a' s' : Int), Ev (fun k => spec_l11Sixteen.f k l l 0 0) (o', a', s') ∧ o'.length ≤ 16 by
    obtain ⟨o', a', s', e, h⟩ := h
    exact ⟨o', Ev.bind e (Ev.now _), h⟩
  have h1 : o.length = 16 := h1
  have hx : (1 : Int) ≤ ((o, a1, s1).1.length : Int) := by show (1 : Int) ≤ (o.length : Int); omega
  by_cases c0 : r = 0
  · exact ⟨_, _, _, Ev.bind e1 (evlet e2 (evpos c0 (evpos hx (Ev.now _)))), by rw [List.length_drop]; show o.length - _ ≤ 16; omega⟩
  by_cases c1 : r = 1
  · obtain ⟨r3, a3, s3, e3, u3, v3, p3, q3⟩ := pick_t hl a2 s2 16 (by omega) (by omega) (by omega)
    obtain ⟨r4, a4, s4, e4, u4, v4, p4, q4⟩ := pick_t hl a3 s3 2 (by omega) (by omega) (by omega)
    have hr3 : r3 < ((o, a1, s1).1.length : Int) := by show r3 < (o.length : Int); omega
    have hr4 : r4 < ((([32768, (-32769)] : List Int).length : Nat) : Int) := v4
    exact ⟨_, _, _, Ev.bind e1 (evlet e2 (evneg c0 (evpos c1 (evlet e3 (evlet rfl (evlet e4 (evpos u4 (evpos hr4 (evpos u3 (evpos hr3 (Ev.now _))))))))))), by rw [List.length_set]; exact Nat.le_of_eq h1⟩
  · exact ⟨_, _, _, Ev.bind e1 (evlet e2 (evneg c0 (evneg c1 (Ev.now _)))), Nat.le_of_eq h1⟩
def tm (l : List Int) (i : Nat) : Int := Int.tmod (rd l (i : Int)) 8192
theorem small (l : List Int) (hl : l.length ≤ 16) : ∃ o : List Int, Ev (fun k => spec_Small.f k l 8191) o ∧ o.length ≤ 16 ∧ Sm o := by
  refine ⟨(List.range l.length).map (tm l), ?_, by simp; exact hl, ?_⟩
  · have e8 : wrap64 (8191 + 1) = 8192 := by rw [w64 (by decide) (by decide)]; rfl
    have main := down (n := l.length) (P := fun i => Ev (fun k => spec_Small.l0 k 8191 ((List.range i).map (tm l)) l (l.length : Int) (i : Int)) ((List.range l.length).map (tm l))) ?_ ?_
    · exact main
    · exact Ev.step (fun k => rfl) (evneg (by omega) (Ev.now _))
    · intro i hi ih
      refine Ev.step (fun k => rfl) (evpos (by omega) (evpos (by omega) (evpos (by omega) (evneg (by rw [e8]; decide) (evpos (by simp; omega) ?_)))))
      rw [w64s (by omega), e8]
      rw [List.range_succ, List.map_append] at ih
      exact ih
  · intro i
    rw [rd_nat]
    by_cases h : i < l.length
    · rw [range_getD _ _ _ _ h]
      unfold tm
      have h1 := Int.tmod_lt_of_pos (rd l (i : Int)) (show (0 : Int) < 8192 by decide)
      have h2 := Int.lt_tmod_of_pos (rd l (i : Int)) (show (0 : Int) < 8192 by decide)
      omega
    · rw [getD_ge (by simp; omega)]; omega
theorem fin_loop (b x y : List Int) (hb : b.length = 16) (hx : x.length = 32) (hy : y.length = 32)
    (h : ∀ i : Nat, i < 16 → (-32768 ≤ rd x ((16 + i : Nat) : Int) ∧ rd x ((16 + i : Nat) : Int) ≤ 32768) ∧ (-32768 ≤ rd y (i : Int) ∧ rd y (i : Int) ≤ 32768) ∧ (-8191 ≤ rd b (i : Int) ∧ rd b (i : Int) ≤ 8191) ∧ (-4 ≤ rd x ((16 + i : Nat) : Int) + rd y (i : Int) - rd b (i : Int) ∧ rd x ((16 + i : Nat) : Int) + rd y (i : Int) - rd b (i : Int) ≤ 4)) :
    Ev (fun k => laws_FnLaps.l0 k b x y (b.length : Int) ((0 : Nat) : Int)) true := by
  refine down (n := b.length) (P := fun i => Ev (fun k => laws_FnLaps.l0 k b x y (b.length : Int) (i : Int)) true) ?_ ?_
  · exact Ev.step (fun k => rfl) (evneg (by omega) (Ev.now _))
  · intro i hi ih
    obtain ⟨h1, h2, h3, h4⟩ := h i (by omega)
    have e16 : wrap64 (16 + (i : Int)) = ((16 + i : Nat) : Int) := by rw [w64 (by omega) (by omega)]; omega
    have c0 : 0 ≤ wrap64 (16 + (i : Int)) := by rw [e16]; omega
    have c1 : wrap64 (16 + (i : Int)) < (x.length : Int) := by rw [e16, hx]; omega
    have ed : wrap64 (wrap64 (rd x (wrap64 (16 + (i : Int))) + rd y (i : Int)) - rd b (i : Int)) = rd x ((16 + i : Nat) : Int) + rd y (i : Int) - rd b (i : Int) := by
      rw [e16]
      generalize rd x ((16 + i : Nat) : Int) = p at h1 h4
      generalize rd y (i : Int) = q at h2 h4
      generalize rd b (i : Int) = t at h3 h4
      rw [w64 (n := p + q) (by omega) (by omega), w64 (by omega) (by omega)]
    clear e16
    refine Ev.step (fun k => rfl) (evpos (Int.ofNat_lt.2 hi) (evpos c0 (evpos c1 (evpos (Int.natCast_nonneg i) (evpos (by rw [hy]; omega) (evpos (Int.ofNat_lt.2 hi) ?_))))))
    rw [ed]
    refine evneg (Int.not_lt.2 h4.1) (evneg (Int.not_lt.2 h4.2) ?_)
    rw [w64s (by omega)]
    exact ih
theorem FnLaps : laws_FnLaps.Pure := by
  intro A B _ _ wA _ _ wB
  refine Ev.rounds ?_
  have jt : Ev (fun k => laws_FnLaps.j0 k A B true) true := Ev.step (f := fun _ => some true) (fun k => by simp only [laws_FnLaps.j0, if_true]) (Ev.now _)
  by_cases c1 : (A.length : Int) > 1048576
  · exact evpos c1 jt
  refine evneg c1 ?_
  by_cases c2 : (B.length : Int) > 1048576
  · rw [decide_eq_true c2]; exact jt
  rw [decide_eq_false c2]
  obtain ⟨a0, ea, la⟩ := drawn (bytel wA c1)
  obtain ⟨b0, eb, lb⟩ := drawn (bytel wB c2)
  obtain ⟨a, ea', ha, sa⟩ := small a0 la
  obtain ⟨b, eb', hb, sb⟩ := small b0 lb
  have jf : ∀ r, Ev (fun k => if (a.length : Int) = 16 then (laws_FnLaps.j1 k a b ((b.length : Int) != 16)) else (laws_FnLaps.j1 k a b true)) r → Ev (fun k => laws_FnLaps.j0 k A B false) r := fun r h =>
    Ev.step (f := fun k => (spec_DrawWaves.f k A).bind fun t210 => ((spec_Small.f k t210 8191).bind fun t213 => ((spec_DrawWaves.f k B).bind fun t216 => ((spec_Small.f k t216 8191).bind fun t219 => (if (t213.length : Int) = 16 then (laws_FnLaps.j1 k t213 t219 ((t219.length : Int) != 16)) else (laws_FnLaps.j1 k t213 t219 true)))))) (fun k => by simp only [laws_FnLaps.j0, Bool.false_eq_true, if_false]) (Ev.bind ea (Ev.bind ea' (Ev.bind eb (Ev.bind eb' h))))
  refine jf true ?_
  have bad : ¬ (a.length = 16 ∧ b.length = 16) → Ev (fun k => laws_FnLaps.j1 k a b true) true := fun h =>
    Ev.step (f := fun k => (impl_Lap.f k a b).bind fun t222 => (some ((t222.length : Int) == 0))) (fun k => by simp only [laws_FnLaps.j1, if_true]) (Ev.bind (lap_short a b h ha sa) (Ev.now _))
  by_cases d1 : (a.length : Int) = 16
  case neg => exact evneg d1 (bad (fun h => d1 (by omega)))
  refine evpos d1 ?_
  by_cases d2 : (b.length : Int) = 16
  case neg =>
    rw [show ((b.length : Int) != 16) = true from bne_iff_ne.2 d2]
    exact bad (fun h => d2 (by omega))
  rw [show ((b.length : Int) != 16) = false from bne_eq_false_iff_eq.2 d2]
  have h1 : a.length = 16 := by omega
  have h2 : b.length = 16 := by omega
  have s1 := Sm_app sa sb
  have s2 := Sm_app sb sa
  have l1 : (a ++ b).length = 32 := by rw [List.length_append]; omega
  have l2 : (b ++ a).length = 32 := by rw [List.length_append]; omega
  have wave : ∀ x : List Int, Sm x → x.length = 32 → Ev (fun k => impl_Unlap.f k (lapped x)) (unl (lapped x)) := fun x sx lx =>
    unlap_ev (lapped x) (by simp [lapped]) (fun i hi => by
      have hi' : i < 16 := by simpa [lapped] using hi
      rw [rd_lapped x i hi', (lo_eq sx lx i).1]
      exact (lo_eq sx lx i).2)
  have ul : ∀ x : List Int, ((unl (lapped x)).length : Int) = 32 := fun x => by simp [unl]
  have ru : ∀ (x : List Int) (i : Nat), i < 32 → rd (unl (lapped x)) (i : Int) = uo (lapped x) i := fun x i hi => by
    rw [rd_nat]; unfold unl; rw [range_getD _ _ _ _ hi]
  refine Ev.step (f := fun k => (impl_Lap.f k a b).bind fun t225 => ((impl_Unlap.f k t225).bind fun t228 => ((impl_Lap.f k b a).bind fun t231 => ((impl_Unlap.f k t231).bind fun t234 => (if (t228.length : Int) = 32 then (laws_FnLaps.j2 k b t228 t234 ((t234.length : Int) != 32)) else (laws_FnLaps.j2 k b t228 t234 true)))))) (fun k => by simp only [laws_FnLaps.j1, Bool.false_eq_true, if_false]) ?_
  refine Ev.bind (lap_ev a b h1 h2 sa sb) (Ev.bind (wave _ s1 l1) (Ev.bind (lap_ev b a h2 h1 sb sa) (Ev.bind (wave _ s2 l2) (evpos (ul _) ?_))))
  rw [show (((unl (lapped (b ++ a))).length : Int) != 32) = false from bne_eq_false_iff_eq.2 (ul _)]
  refine Ev.step (f := fun k => laws_FnLaps.l0 k b (unl (lapped (a ++ b))) (unl (lapped (b ++ a))) (b.length : Int) ((0 : Nat) : Int)) (fun k => by simp only [laws_FnLaps.j2, Bool.false_eq_true, if_false]; rfl) ?_
  exact fin_loop b _ _ h2 (by simp [unl]) (by simp [unl]) (fun i hi => by
    rw [ru (a ++ b) (16 + i) (Nat.add_lt_add_left hi 16), ru (b ++ a) i (Nat.lt_trans hi (by decide))]
    exact ⟨(uo_eq s1 l1 (16 + i) (Nat.add_lt_add_left hi 16)).2, (uo_eq s2 l2 i (Nat.lt_trans hi (by decide))).2, sb i, four h1 h2 sa sb i hi⟩)
end Go.Proofs.YtmnihpedokeggaaDoor.Pure

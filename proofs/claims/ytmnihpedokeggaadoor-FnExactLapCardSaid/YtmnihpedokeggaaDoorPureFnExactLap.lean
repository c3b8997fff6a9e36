/- Lap: the plain law: the reading's overlapped transform and the program's are the same. -/
import Derived.Test.YtmnihpedokeggaaDoorPFnExactLapx0
import Derived.Test.YtmnihpedokeggaaDoorPFnExactLapx1
import Derived.Test.YtmnihpedokeggaaDoorPFnExactLapx2
import Derived.Test.YtmnihpedokeggaaDoorPFnExactLapx3
import Derived.Test.YtmnihpedokeggaaDoorPFnExactLapx4
import Derived.Test.YtmnihpedokeggaaDoorK
import Derived.Laws.Bits64b
namespace Go.Proofs.YtmnihpedokeggaaDoor.Pure
open Go.RowKit Go.Proofs.YtmnihpedokeggaaDoor.PFnExactLap Go.Proofs.YtmnihpedokeggaaDoor.K Go.Proofs.YtmnihpedokeggaaDoorW.PrintWords Go.Proofs.YtmnihpedokeggaaDoorW.PrintLast Go.Proofs.YtmnihpedokeggaaDoorW.PrintMore

theorem toIntS (l : List Int) (hl : l.length ≤ 1048576) : Ev (fun k => laws_toIntS.f k l) l := by
  refine evpos (by omega) (evpos (by omega) ?_)
  have := down (n := l.length) (P := fun i => Ev (fun k => laws_toIntS.l0 k l (fl 0 l.length (fun j => l.getD j 0) i) (i : Int)) l) ?_ ?_
  · rw [fl_zero] at this; exact this
  · refine Ev.step (fun k => rfl) (evneg (by omega) ?_)
    rw [fl_all]
    have e := map_range_get l 0 id
    try simp only [id_eq, List.map_id_fun] at e
    rw [e]; exact Ev.now _
  · intro i hi h
    refine Ev.step (fun k => rfl) (evpos (by omega) (evpos (by omega) (evpos (by rw [fl_len]; omega) ?_)))
    rw [w64s (by omega), rd_nat, getD_lt hi, Int.toNat_natCast]
    rw [← fl_set, getD_lt hi] at h
    exact h
theorem eqIntS (l : List Int) (hl : l.length ≤ 4611686018427387904) : Ev (fun k => laws_eqIntS.f k l l) true := by
  refine evpos rfl ?_
  refine down (n := l.length) (P := fun i => Ev (fun k => laws_eqIntS.l0 k l l (i : Int)) true) ?_ ?_
  · exact Ev.step (fun k => rfl) (evneg (by omega) (Ev.now _))
  · intro i hi h
    refine Ev.step (fun k => rfl) (evpos (by omega) (evpos (by omega) (evpos (by omega) (evpos rfl ?_))))
    rw [w64s (by omega)]; exact h
theorem mhIntS (l : List Int) (a : Int) (h0 : 0 ≤ a) (h1 : a + l.length ≤ 4611686018427387904) : ∃ l' : List Int, Ev (fun k => laws_markIntS.f k l a) (a + l.length, l') ∧ Ev (fun k => laws_heldIntS.f k l' a) (a + l.length) ∧ l'.length = l.length := by
  refine ⟨(List.range l.length).map (fun (j : Nat) => a + (j : Int)), ?_, ?_, by simp⟩
  · have := down (n := l.length) (P := fun i => Ev (fun k => laws_markIntS.l0 k (f2 l.length (fun (j : Nat) => a + (j : Int)) (fun j => l.getD j 0) i) (a + (i : Int)) (i : Int)) (a + l.length, (List.range l.length).map (fun (j : Nat) => a + (j : Int)))) ?_ ?_
    · rw [f2_zero] at this; rw [show a + ((0 : Nat) : Int) = a by omega] at this; exact this
    · refine Ev.step (fun k => rfl) (evneg (by rw [f2_len]; omega) ?_)
      rw [f2_all]; exact Ev.now _
    · intro i hi h
      refine Ev.step (fun k => rfl) (evpos (by rw [f2_len]; omega) (evpos (by omega) ?_))
      rw [w64s (by omega), w64 (by omega) (by omega), Int.toNat_natCast, show a + (i : Int) + 1 = a + ((i + 1 : Nat) : Int) by omega]
      rw [← f2_set] at h
      exact h
  · have := down (n := l.length) (P := fun i => Ev (fun k => laws_heldIntS.l0 k ((List.range l.length).map (fun (j : Nat) => a + (j : Int))) (a + (i : Int)) (i : Int)) (a + l.length)) ?_ ?_
    · rw [show a + ((0 : Nat) : Int) = a by omega] at this; exact this
    · exact Ev.step (fun k => rfl) (evneg (by simp) (Ev.now _))
    · intro i hi h
      refine Ev.step (fun k => rfl) (evpos (by simpa using hi) (evpos (by omega) (evpos (by rw [rd_nat, range_getD _ _ _ _ hi]) ?_)))
      rw [w64s (by omega), w64 (by omega) (by omega), show a + (i : Int) + 1 = a + ((i + 1 : Nat) : Int) by omega]
      exact h
/-! The table. -/
theorem zc_eq (a : Int) : impl_zc.f a = spec_l11C.f zkL a := by
  unfold impl_zc.f spec_l11C.f
  rw [show ((zkL.length : Nat) : Int) = 33 from rfl]
theorem and127 (x : Int) : 0 ≤ Go.bits .and .i64 x 127 ∧ Go.bits .and .i64 x 127 ≤ 127 := by
  have e : Go.bits .and .i64 x 127 = IntKind.i64.wrap ((BitVec.ofInt 64 x &&& BitVec.ofInt 64 127).toNat : Int) := rfl
  have h : (BitVec.ofInt 64 x &&& BitVec.ofInt 64 127).toNat ≤ 127 := by
    rw [BitVec.toNat_and]; exact Nat.and_le_right
  rw [e, i64_w, w64 (by omega) (by omega)]
  omega
theorem zk_bd : ∀ i : Nat, i < 33 → 0 ≤ zkL.getD i 0 ∧ zkL.getD i 0 ≤ 16384 := by decide
theorem zk_rd {i : Int} (h0 : 0 ≤ i) (h1 : i < 33) : 0 ≤ rd zkL i ∧ rd zkL i ≤ 16384 := zk_bd i.toNat (by omega)
theorem zc_some (a : Int) : ∃ v, impl_zc.f a = some v ∧ -16384 ≤ v ∧ v ≤ 16384 := by
  obtain ⟨h0, h1⟩ := and127 a
  unfold impl_zc.f
  generalize Go.bits .and .i64 a 127 = m at h0 h1
  by_cases c1 : m ≤ 32
  · rw [if_pos c1, if_pos h0, if_pos (by omega)]
    have := zk_rd h0 (show m < 33 by omega)
    exact ⟨_, rfl, by omega, by omega⟩
  rw [if_neg c1]
  by_cases c2 : m ≤ 64
  · rw [if_pos c2, w64 (n := 64 - m) (by omega) (by omega), if_pos (by omega), if_pos (by omega)]
    have := zk_rd (i := 64 - m) (by omega) (by omega)
    exact ⟨_, rfl, by rw [w64 (by omega) (by omega)]; omega, by rw [w64 (by omega) (by omega)]; omega⟩
  rw [if_neg c2]
  by_cases c3 : m ≤ 96
  · rw [if_pos c3, w64 (n := m - 64) (by omega) (by omega), if_pos (by omega), if_pos (by omega)]
    have := zk_rd (i := m - 64) (by omega) (by omega)
    exact ⟨_, rfl, by rw [w64 (by omega) (by omega)]; omega, by rw [w64 (by omega) (by omega)]; omega⟩
  rw [if_neg c3, w64 (n := 128 - m) (by omega) (by omega), if_pos (by omega), if_pos (by omega)]
  have := zk_rd (i := 128 - m) (by omega) (by omega)
  exact ⟨_, rfl, by omega, by omega⟩
def zcv (a : Int) : Int := (impl_zc.f a).getD 0
theorem zc_v (a : Int) : impl_zc.f a = some (zcv a) := by
  obtain ⟨v, h, _⟩ := zc_some a
  unfold zcv; rw [h]; rfl
theorem sc_v (a : Int) : spec_l11C.f zkL a = some (zcv a) := by rw [← zc_eq]; exact zc_v a
theorem table : spec_l11Table.f = some zkL := rfl
/-! The window. -/
def wv (i : Nat) : Int := zcv (wrap64 (31 - wrap64 (2 * (i : Int))))
def wl : List Int := (List.range 32).map wv
theorem wl_len : wl.length = 32 := by simp [wl]
theorem win_spec : Ev (fun k => spec_Window.f k) wl := by
  have main := down (n := 32) (P := fun i => Ev (fun k => spec_Window.l0 k zkL (fl 0 32 wv i) ((32 : Nat) : Int) (i : Int)) wl) ?_ ?_
  · refine evlet table (evpos (by omega) (evlet rfl ?_))
    rw [fl_zero] at main
    rw [List.length_replicate]
    exact main
  · generalize hN : ((32 : Nat) : Int) = N
    refine Ev.step (fun k => rfl) (evneg (by omega) ?_)
    rw [fl_all]; exact Ev.now _
  · intro i hi h
    have hc : (i : Int) < ((32 : Nat) : Int) := Int.ofNat_lt.2 hi
    generalize ((32 : Nat) : Int) = N at hc h
    refine Ev.step (fun k => rfl) (evpos hc (evlet (sc_v _) (evpos (by omega) (evpos (by rw [fl_len]; omega) ?_))))
    rw [w64s (by omega), Int.toNat_natCast]
    rw [← fl_set] at h
    exact h
theorem win_impl : Ev (fun k => impl_Window.f k) wl := by
  have main := down (n := 32) (P := fun i => Ev (fun k => impl_Window.l0 k ((List.range i).map wv) (i : Int)) wl) ?_ ?_
  · exact main
  · generalize hN : ((32 : Nat) : Int) = N
    exact Ev.step (fun k => rfl) (evneg (by omega) (Ev.now _))
  · intro i hi h
    refine Ev.step (fun k => rfl) (evpos (by omega) (evlet (zc_v _) (evpos (by simp; omega) ?_)))
    rw [w64s (by omega)]
    rw [List.range_succ, List.map_append] at h
    exact h
/-! The lapped block. -/
/-- The sum up to the place j. -/
def ac (g : Nat → Int) : Nat → Int
  | 0 => 8192
  | j + 1 => wrap64 (ac g j + wrap64 (g j))
def lx (x : List Int) (i : Nat) : Int := (wrap64 (wrap64 (rd x (i : Int) * rd wl (i : Int)) + 8192)) / 16384
def lg (x : List Int) (n j : Nat) : Int := lx x j * zcv (wrap64 (wrap64 (wrap64 (2 * (j : Int)) + 17) * wrap64 (wrap64 (2 * (n : Int)) + 1)))
def lo (x : List Int) (n : Nat) : Int := ac (lg x n) x.length / 16384
def lapped (x : List Int) : List Int := (List.range 16).map (lo x)
theorem spec_in (x o : List Int) (n : Nat) (hx : x.length = 32) (z y : Int) (r : List Int) (h : Ev (fun k => if 0 ≤ (n : Int) then (if (n : Int) < (o.length : Int) then (spec_l11Lap.l1 k zkL ((List.range x.length).map (lx x)) (o.set (n : Int).toNat (lo x n)) z (wrap64 (y + 1))) else (none)) else (none)) r) :
    Ev (fun k => spec_l11Lap.l2 k zkL ((List.range x.length).map (lx x)) o (n : Int) 8192 z y (x.length : Int) 0) r := by
  refine down (n := x.length) (P := fun j => Ev (fun k => spec_l11Lap.l2 k zkL ((List.range x.length).map (lx x)) o (n : Int) (ac (lg x n) j) z y (x.length : Int) (j : Int)) r) ?_ ?_
  · exact Ev.step (fun k => rfl) (evneg (by omega) h)
  · intro j hj ih
    refine Ev.step (fun k => rfl) (evpos (by omega) (evpos (by omega) (evpos (by simp; omega) (evlet (sc_v _) ?_))))
    rw [w64s (by omega), rd_nat, range_getD _ _ _ _ hj]
    exact ih
theorem spec_lap (a b : List Int) (ha : a.length = 16) (hb : b.length = 16) : Ev (fun k => spec_l11Lap.f k a b) (lapped (a ++ b)) := by
  have hx : (a ++ b).length = 32 := by rw [List.length_append]; omega
  refine evlet table (Ev.bind win_spec (evpos (by rw [ha]; decide) (evlet rfl (evpos (by rw [List.nil_append]; omega) (evlet rfl ?_)))))
  rw [List.nil_append]
  generalize a ++ b = x at hx
  have rows := down (n := 16) (P := fun n => Ev (fun k => spec_l11Lap.l1 k zkL ((List.range x.length).map (lx x)) (fl 0 16 (lo x) n) ((16 : Nat) : Int) (n : Int)) (lapped x)) ?_ ?_
  · have main := down (n := x.length) (P := fun i => Ev (fun k => spec_l11Lap.l0 k zkL wl (f2 x.length (lx x) (fun j => x.getD j 0) i) (x.length : Int) (i : Int)) (lapped x)) ?_ ?_
    · rw [f2_zero] at main
      exact main
    · refine Ev.step (fun k => rfl) (evneg (by omega) (evpos (by omega) (evlet rfl ?_)))
      rw [f2_all]
      rw [fl_zero] at rows
      rw [List.length_replicate]
      exact rows
    · intro i hi ih
      have hw : (i : Int) < (wl.length : Int) := by rw [wl_len]; omega
      refine Ev.step (fun k => rfl) (evpos (by omega) (evpos (by omega) (evpos (by rw [f2_len]; omega) (evpos hw ?_))))
      have e : rd (f2 x.length (lx x) (fun j => x.getD j 0) i) (i : Int) = rd x (i : Int) := by
        rw [rd_nat, rd_nat]
        unfold f2
        rw [range_getD _ _ _ _ hi, if_neg (by omega)]
      rw [e, w64s (by omega), Int.toNat_natCast]
      rw [← f2_set] at ih
      exact ih
  · generalize hN : ((16 : Nat) : Int) = N
    refine Ev.step (fun k => rfl) (evneg (by omega) ?_)
    rw [fl_all]; exact Ev.now _
  · intro n hn ih
    have hc : (n : Int) < ((16 : Nat) : Int) := Int.ofNat_lt.2 hn
    generalize ((16 : Nat) : Int) = N at hc ih
    have hm : ((List.range x.length).map (lx x)).length = x.length := by simp
    refine Ev.step (fun k => rfl) (evpos hc ?_)
    rw [hm]
    refine spec_in x _ n hx N (n : Int) _ (evpos (by omega) (evpos (by rw [fl_len]; omega) ?_))
    rw [w64s (by omega), Int.toNat_natCast]
    rw [← fl_set] at ih
    exact ih
theorem impl_in (x o : List Int) (n : Nat) (hx : x.length = 32) (y : Int) (r : List Int) (h : Ev (fun k => if o.length < 17592186044416 then (impl_Lap.l0 k x wl (o ++ [lo x n]) (wrap64 (y + 1))) else (none)) r) :
    Ev (fun k => impl_Lap.l1 k x wl o (n : Int) 8192 y (x.length : Int) 0) r := by
  refine down (n := x.length) (P := fun j => Ev (fun k => impl_Lap.l1 k x wl o (n : Int) (ac (lg x n) j) y (x.length : Int) (j : Int)) r) ?_ ?_
  · exact Ev.step (fun k => rfl) (evneg (by omega) h)
  · intro j hj ih
    have hw : (j : Int) < (wl.length : Int) := by rw [wl_len]; omega
    refine Ev.step (fun k => rfl) (evpos (by omega) (evpos (by omega) (evpos (by omega) (evpos hw (evlet (zc_v _) ?_)))))
    rw [w64s (by omega)]
    exact ih
theorem impl_lap (a b : List Int) (ha : a.length = 16) (hb : b.length = 16) : Ev (fun k => impl_Lap.j0 k a b false) (lapped (a ++ b)) := by
  have hx : (a ++ b).length = 32 := by rw [List.length_append]; omega
  have zc : impl_zcopy.f a = some a := by
    unfold impl_zcopy.f
    rw [Option.bind_some, if_pos (by simp; omega), List.nil_append]
  refine Ev.step (f := fun k => (impl_zcopy.f a).bind fun t162 => (if t162.length + b.length < 17592186044416 then ((impl_Window.f k).bind fun t168 => (impl_Lap.l0 k (t162 ++ b) t168 ([] : List Int) 0)) else (none))) (fun k => by simp only [impl_Lap.j0, Bool.false_eq_true, if_false]) ?_
  refine evlet zc (evpos (by omega) (Ev.bind win_impl ?_))
  generalize a ++ b = x at hx
  have main := down (n := 16) (P := fun n => Ev (fun k => impl_Lap.l0 k x wl ((List.range n).map (lo x)) (n : Int)) (lapped x)) ?_ ?_
  · exact main
  · generalize hN : ((16 : Nat) : Int) = N
    exact Ev.step (fun k => rfl) (evneg (by omega) (Ev.now _))
  · intro n hn ih
    refine Ev.step (fun k => rfl) (evpos (by omega) ?_)
    refine impl_in x _ n hx (n : Int) _ (evpos (by simp; omega) ?_)
    rw [w64s (by omega)]
    rw [List.range_succ, List.map_append] at ih
    exact ih
theorem samples (l : List Int) (hl : l.length ≤ 1048576) : ∃ q : Bool, Ev (fun k => spec_l11Samples.f k l 16) q ∧ Ev (fun k => impl_zsamples.f k l 16) q ∧ (q = true → l.length = 16) := by
  obtain ⟨N, hN⟩ : ∃ N : Int, N = 16 := ⟨_, rfl⟩
  rw [← hN]
  have main := down (n := l.length) (P := fun i => ∃ q : Bool, Ev (fun k => spec_l11Samples.l0 k l N l (l.length : Int) (i : Int)) (q && ((l.length : Int) == N)) ∧ Ev (fun k => impl_zrange.l0 k (-32768) 32767 l (l.length : Int) (i : Int)) q) ?_ ?_
  · obtain ⟨q, h1, h2⟩ := main
    by_cases c : (l.length : Int) = N
    · have e : ((l.length : Int) == N) = true := beq_iff_eq.2 c
      rw [e, Bool.and_true] at h1
      exact ⟨q, h1, evpos c (Ev.bind (evneg (by omega) h2) (Ev.now _)), fun _ => by omega⟩
    · have e : ((l.length : Int) == N) = false := beq_eq_false_iff_ne.2 c
      rw [e, Bool.and_false] at h1
      exact ⟨false, h1, evneg c (Ev.now _), (fun h => by cases h)⟩
  · exact ⟨true, Ev.step (fun k => rfl) (evneg (by omega) (evneg (by omega) (by rw [Bool.true_and]; exact Ev.now _))), Ev.step (fun k => rfl) (evneg (by omega) (Ev.now _))⟩
  · intro i hi ⟨q, h1, h2⟩
    have er : rd l (i : Int) = l[i] := by rw [rd_nat, getD_lt hi]
    generalize l[i] = v at er
    by_cases c : v < -32768
    · refine ⟨false, Ev.step (fun k => rfl) (evpos (by omega) (evpos (by omega) (evpos (by omega) ?_))), Ev.step (fun k => rfl) (evpos (by omega) (evpos (by omega) (evpos (by omega) ?_)))⟩
      · rw [er]; exact evpos c (Ev.now _)
      · rw [er]; exact evpos c (Ev.now _)
    by_cases d : v > 32767
    · refine ⟨false, Ev.step (fun k => rfl) (evpos (by omega) (evpos (by omega) (evpos (by omega) ?_))), Ev.step (fun k => rfl) (evpos (by omega) (evpos (by omega) (evpos (by omega) ?_)))⟩
      · rw [er]; exact evneg c (evpos d (Ev.now _))
      · rw [er]; exact evneg c (evpos d (Ev.now _))
    refine ⟨q, Ev.step (fun k => rfl) (evpos (by omega) (evpos (by omega) (evpos (by omega) ?_))), Ev.step (fun k => rfl) (evpos (by omega) (evpos (by omega) (evpos (by omega) ?_)))⟩
    · rw [er, w64s (by omega)]; exact evneg c (evneg d h1)
    · rw [er, w64s (by omega)]; exact evneg c (evneg d h2)
theorem lap_both (a b : List Int) (ha : a.length ≤ 1048576) (hb : b.length ≤ 1048576) : ∃ r, r.length ≤ 16 ∧ Ev (fun k => spec_Lap.f k a b) r ∧ Ev (fun k => impl_Lap.f k a b) r := by
  have jt : Ev (fun k => impl_Lap.j0 k a b true) [] := Ev.step (f := fun _ => some []) (fun k => by simp only [impl_Lap.j0, if_true]) (Ev.now _)
  obtain ⟨q1, a1, a2, a3⟩ := samples a ha
  obtain ⟨q2, b1, b2, b3⟩ := samples b hb
  cases q1 with
  | false => exact ⟨[], by simp, Ev.bind a1 (evneg (by simp) (Ev.now _)), Ev.bind a2 (evneg (by simp) jt)⟩
  | true =>
    cases q2 with
    | false => exact ⟨[], by simp, Ev.bind a1 (evpos rfl (Ev.bind b1 (evneg (by simp) (Ev.now _)))), Ev.bind a2 (evpos rfl (Ev.bind b2 jt))⟩
    | true => exact ⟨lapped (a ++ b), by simp [lapped], Ev.bind a1 (evpos rfl (Ev.bind b1 (evpos rfl (Ev.bind (spec_lap a b (a3 rfl) (b3 rfl)) (Ev.now _))))), Ev.bind a2 (evpos rfl (Ev.bind b2 (impl_lap a b (a3 rfl) (b3 rfl))))⟩
theorem FnExactLap : laws_FnExactLap.Pure := by
  intro A B _ _ _ _ _ _
  refine Ev.rounds ?_
  by_cases c1 : (A.length : Int) > 1048576
  · exact evpos c1 (Ev.now _)
  by_cases c2 : (B.length : Int) > 1048576
  · exact evneg c1 (evpos c2 (Ev.now _))
  have tA := toIntS A (by omega)
  have tB := toIntS B (by omega)
  obtain ⟨l, hl, h1, h2⟩ := lap_both A B (by omega) (by omega)
  have eA := eqIntS A (by omega)
  have eB := eqIntS B (by omega)
  have eL := eqIntS l (by omega)
  obtain ⟨ma, hma, _, _⟩ := mhIntS A 1 (by omega) (by omega)
  obtain ⟨mb, hmb, _, _⟩ := mhIntS B (1 + A.length) (by omega) (by omega)
  obtain ⟨ml, hml, hhl, _⟩ := mhIntS l 1 (by omega) (by omega)
  have jn : ∀ b : Bool, ¬ b = true → Ev (fun k => laws_FnExactLap.j0 k A B l l b) true := fun b hb =>
    Ev.step (fun _ => rfl) (evneg hb (Ev.bind hml (Ev.bind hhl (evneg (by omega) (evpos rfl (Ev.bind tA (Ev.bind tB (Ev.bind h2 (Ev.bind eL (evpos rfl (Ev.bind hhl (evneg (by omega) (evpos rfl (Ev.now _))))))))))))))
  exact evneg c1 (evneg c2 (Ev.bind tA (Ev.bind tB (Ev.bind h1 (Ev.bind tA (Ev.bind tB (Ev.bind h2 (Ev.bind eL (evpos rfl (Ev.bind tA (Ev.bind eA (evpos rfl (Ev.bind tB (Ev.bind eB (evpos rfl (Ev.bind hma (Ev.bind hmb (evneg (by simp only; omega) (Ev.bind eL (jn _ (by decide)))))))))))))))))))))
end Go.Proofs.YtmnihpedokeggaaDoor.Pure

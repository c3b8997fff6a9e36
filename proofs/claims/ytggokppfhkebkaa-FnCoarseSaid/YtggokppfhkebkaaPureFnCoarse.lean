/- FnCoarse: for every list of bytes that the draws are made of (at most 1048576 bytes, else the law is true at once), the drawn block divided by the drawn scales is as the reference tells it, multiplied again it is at most half a scale away where nothing is clipped, and divided once more it is the same, or something is clipped. -/
import Derived.Test.YtggokppfhkebkaaPFnCoarsex0
import Derived.Test.YtggokppfhkebkaaPFnCoarsex1
import Derived.Test.YtggokppfhkebkaaPFnCoarsex2
import Derived.Test.YtggokppfhkebkaaPFnCoarsex3
import Derived.Test.YtggokppfhkebkaaPFnCoarsex4
import Derived.Test.YtggokppfhkebkaaPFnCoarsex5
import Derived.Test.YtggokppfhkebkaaPFnCoarsex6
import Derived.Test.YtggokppfhkebkaaK
import Derived.Laws.Bits64b
namespace Go.Proofs.Ytggokppfhkebkaa.Pure
open Go.RowKit Go.Proofs.Ytggokppfhkebkaa.PFnCoarse Go.Proofs.Ytggokppfhkebkaa.K Go.Proofs.YtggokppfhkebkaaW.PrintWords Go.Proofs.YtggokppfhkebkaaW.PrintLast Go.Proofs.YtggokppfhkebkaaW.PrintMore

/-- The bytes that a cursor reads. -/
structure ByteL (l : List Int) : Prop where
  len : l.length ≤ 1048576
  bd : ∀ x ∈ l, 0 ≤ x ∧ x ≤ 255
theorem bytel {l : List Int} (h : ∀ x ∈ l, (Lit.int .u8 x).wf = true) (hl : ¬ (l.length : Int) > 1048576) : ByteL l := ⟨by omega, fun x hx => wfb (h x hx)⟩
theorem rd_byte {l : List Int} (h : ByteL l) {i : Int} (h0 : 0 ≤ i) (h1 : i < l.length) : 0 ≤ rd l i ∧ rd l i ≤ 255 := by
  obtain ⟨j, rfl⟩ : ∃ j : Nat, i = (j : Int) := ⟨i.toNat, by omega⟩
  rw [rd_nat, getD_lt (show j < l.length by omega)]
  exact h.bd _ (List.getElem_mem _)
theorem and255 (x : Int) : 0 ≤ Go.bits .and .u64 x 255 ∧ Go.bits .and .u64 x 255 ≤ 255 := by
  have e : Go.bits .and .u64 x 255 = IntKind.u64.wrap ((BitVec.ofInt 64 x &&& BitVec.ofInt 64 255).toNat : Int) := rfl
  have h : (BitVec.ofInt 64 x &&& BitVec.ofInt 64 255).toNat ≤ 255 := by
    rw [BitVec.toNat_and]; exact Nat.and_le_right
  rw [e, IntKind.wrap_u64]
  omega
theorem w255 {x : Int} (h : 0 ≤ x ∧ x ≤ 255) : wrap64 x = x := w64 (by omega) (by omega)
theorem next_t {l : List Int} (hl : ByteL l) (a s : Int) (h0 : 0 ≤ a) (h1 : a ≤ 2000000000000) : ∃ v s', spec_l1Cur_next.f l a s = some (v, a + 1, s') ∧ 0 ≤ v ∧ v ≤ 255 := by
  unfold spec_l1Cur_next.f
  rw [show wrap64 (a + 1) = a + 1 from w64 (by omega) (by omega)]
  by_cases c : a < (l.length : Int)
  · rw [if_pos c, if_pos h0, if_pos (by omega)]
    have := rd_byte hl h0 c
    exact ⟨_, _, rfl, by rw [w255 this]; exact this.1, by rw [w255 this]; exact this.2⟩
  · rw [if_neg c, if_neg (by omega)]
    refine ⟨_, _, rfl, ?_, ?_⟩
    · rw [w255 (and255 _)]; exact (and255 _).1
    · rw [w255 (and255 _)]; exact (and255 _).2
theorem pick_t {l : List Int} (hl : ByteL l) (a s n : Int) (hn : 1 ≤ n) (h0 : 0 ≤ a) (h1 : a ≤ 1000000000000) : ∃ r a' s', spec_l1Cur_pick.f l a s n = some (r, a', s') ∧ 0 ≤ r ∧ r < n ∧ a ≤ a' ∧ a' ≤ a + 3 := by
  unfold spec_l1Cur_pick.f
  by_cases c : n ≤ 1
  · rw [if_pos c]
    exact ⟨0, a, s, rfl, by omega, by omega, by omega, by omega⟩
  rw [if_neg c]
  have nz : ¬ n = 0 := by omega
  obtain ⟨v, s1, e1, v0, v1⟩ := next_t hl a s h0 (by omega)
  rw [e1, Option.bind_some]
  have fin : ∀ x : Int, 0 ≤ x → 0 ≤ Int.tmod x n ∧ Int.tmod x n < n := fun x hx => ⟨Int.tmod_nonneg _ hx, Int.tmod_lt_of_pos _ (by omega)⟩
  by_cases c2 : n > 200
  · rw [if_pos c2]
    obtain ⟨u, s2, e2, u0, u1⟩ := next_t hl (a + 1) s1 (by omega) (by omega)
    simp only [e2, Option.bind_some]
    rw [w64 (n := v * 256) (by omega) (by omega), w64 (n := v * 256 + u) (by omega) (by omega)]
    by_cases c3 : n > 50000
    · rw [if_pos c3]
      obtain ⟨t, s3, e3, t0, t1⟩ := next_t hl (a + 1 + 1) s2 (by omega) (by omega)
      simp only [e3, Option.bind_some]
      rw [if_neg nz, w64 (n := (v * 256 + u) * 256) (by omega) (by omega), w64 (n := (v * 256 + u) * 256 + t) (by omega) (by omega)]
      exact ⟨_, _, _, rfl, (fin _ (by omega)).1, (fin _ (by omega)).2, by omega, by omega⟩
    · rw [if_neg c3, if_neg nz]
      exact ⟨_, _, _, rfl, (fin _ (by omega)).1, (fin _ (by omega)).2, by omega, by omega⟩
  · rw [if_neg c2, if_neg (by omega), if_neg nz]
    exact ⟨_, a + 1, s1, rfl, (fin _ (by omega)).1, (fin _ (by omega)).2, by omega, by omega⟩
theorem one_t {l : List Int} (hl : ByteL l) (a s n : Int) (hn : 1 ≤ n) (h0 : 0 ≤ a) (h1 : a ≤ 1000000000000) : ∃ (b : Bool) (a' s' : Int), spec_l1Cur_one.f l a s n = some (b, a', s') ∧ a ≤ a' ∧ a' ≤ a + 3 := by
  obtain ⟨r, a', s', e, _, _, h2, h3⟩ := pick_t hl a s n hn h0 h1
  unfold spec_l1Cur_one.f
  rw [e]
  exact ⟨_, _, _, rfl, h2, h3⟩
def scanL : List Int := [0, 1, 8, 16, 9, 2, 3, 10, 17, 24, 32, 25, 18, 11, 4, 5, 12, 19, 26, 33, 40, 48, 41, 34, 27, 20, 13, 6, 7, 14, 21, 28, 35, 42, 49, 56, 57, 50, 43, 36, 29, 22, 15, 23, 30, 37, 44, 51, 58, 59, 52, 45, 38, 31, 39, 46, 53, 60, 61, 54, 47, 55, 62, 63]
theorem scan_h : spec_ScanOrder.f 300 = some scanL := by decide +kernel
theorem scan_t : ∃ L : List Int, Ev (fun k => spec_ScanOrder.f k) L ∧ L.length = 64 ∧ ∀ x ∈ L, 0 ≤ x ∧ x < 64 := ⟨scanL, Ev.of (fun k => spec_ScanOrder.mono k) scan_h, by decide, by decide⟩
theorem block_l1 {l : List Int} (L : List Int) (hL : Ev (fun k => spec_ScanOrder.f k) L) (hl : L.length = 64) (hb : ∀ x ∈ L, 0 ≤ x ∧ x < 64) (a s : Int) : ∀ (d : Nat) (i : Nat) (o : List Int), i + d = 64 → o.length = 64 → ∃ o' : List Int, Ev (fun k => spec_l1Cur_block.l1 k o (i : Int) l a s) (o', a, s) ∧ o'.length = 64 := by
  intro d
  induction d with
  | zero => intro i o hi ho; exact ⟨o, Ev.step (fun k => rfl) (evneg (by omega) (Ev.now _)), ho⟩
  | succ d ih =>
    intro i o hi ho
    have hx := hb _ (List.getElem_mem (show i < L.length by omega))
    have er : rd L (i : Int) = L[i] := by rw [rd_nat, getD_lt]
    obtain ⟨o', e, h⟩ := ih (i + 1) (o.set (L[i]).toNat 0) (by omega) (by rw [List.length_set]; exact ho)
    refine ⟨o', Ev.step (fun k => rfl) (evpos (by omega) (Ev.bind hL (evpos (by omega) (evpos (by omega) (evpos (by rw [er]; omega) (evpos (by rw [er]; omega) ?_)))))), h⟩
    rw [er, w64s (by omega)]; exact e
theorem block_t {l : List Int} (hl : ByteL l) (a s : Int) (h0 : 0 ≤ a) (h1 : a ≤ 1000000) : ∃ (o : List Int) (a' s' : Int), Ev (fun k => spec_l1Cur_block.f k l a s) (o, a', s') ∧ o.length = 64 ∧ 0 ≤ a' ∧ a' ≤ 2000000 := by
  obtain ⟨L, hL, Ll, Lb⟩ := scan_t
  obtain ⟨kd, a1, s1, e1, _, _, p1, q1⟩ := pick_t hl a s 5 (by omega) h0 (by omega)
  have main := down (n := 64) (P := fun i => ∀ (o : List Int) (a s : Int), o.length = 64 → 0 ≤ a → a ≤ 1000100 + 6 * i → ∃ (o' : List Int) (a' s' : Int), Ev (fun k => spec_l1Cur_block.l0 k o kd 64 (i : Int) l a s) (o', a', s') ∧ o'.length = 64 ∧ 0 ≤ a' ∧ a' ≤ 2000000) ?_ ?_
  · obtain ⟨o, a', s', e, h⟩ := main (List.replicate 64 0) a1 s1 (by simp) (by omega) (by omega)
    exact ⟨o, a', s', evpos (by decide) (evlet rfl (evlet e1 e)), h⟩
  · intro o a s ho h0 h1
    by_cases c : kd = 1
    · obtain ⟨r, a2, s2, e2, x2, y2, p2, q2⟩ := pick_t hl a s 44 (by omega) h0 (by omega)
      obtain ⟨n, rfl⟩ : ∃ n : Nat, r = (n : Int) := ⟨r.toNat, by omega⟩
      obtain ⟨o', e, h⟩ := block_l1 (l := l) L hL Ll Lb a2 s2 (44 - n) (20 + n) o (by omega) ho
      refine ⟨o', a2, s2, Ev.step (fun k => rfl) (evneg (by decide) (evpos c (evlet e2 ?_))), h, by omega, by omega⟩
      show Ev (fun k => spec_l1Cur_block.l1 k o (wrap64 (20 + (n : Int))) l a2 s2) _
      rw [show wrap64 (20 + (n : Int)) = ((20 + n : Nat) : Int) by rw [w64 (by omega) (by omega)]; omega]
      exact e
    · exact ⟨o, a, s, Ev.step (fun k => rfl) (evneg (by decide) (evneg c (Ev.now _))), ho, h0, by omega⟩
  · intro i hi ih o a s ho h0 h1
    have f0 : (0 : Int) ≤ (i : Int) := by omega
    have f1 : (i : Int) < (o.length : Int) := by omega
    have lt : (i : Int) < 64 := by omega
    have st : ∀ (v a2 s2 : Int), 0 ≤ a2 → a2 ≤ a + 6 → ∃ (o' : List Int) (a' s' : Int), Ev (fun k => if 0 ≤ (i : Int) then (if (i : Int) < (o.length : Int) then spec_l1Cur_block.l0 k (o.set (i : Int).toNat v) kd 64 (wrap64 ((i : Int) + 1)) l a2 s2 else none) else none) (o', a', s') ∧ o'.length = 64 ∧ 0 ≤ a' ∧ a' ≤ 2000000 := by
      intro v a2 s2 g0 g1
      obtain ⟨o', a', s', e, h⟩ := ih (o.set i v) a2 s2 (by rw [List.length_set]; exact ho) g0 (by omega)
      refine ⟨o', a', s', evpos f0 (evpos f1 ?_), h⟩
      rw [w64s (by omega), Int.toNat_natCast]; exact e
    by_cases c0 : kd = 0
    · obtain ⟨r, a2, s2, e2, _, _, p2, q2⟩ := pick_t hl a s 256 (by omega) h0 (by omega)
      obtain ⟨o', a', s', e, h⟩ := st (wrap64 (r - 128)) a2 s2 (by omega) (by omega)
      exact ⟨o', a', s', Ev.step (fun k => rfl) (evpos lt (evpos c0 (evlet e2 e))), h⟩
    by_cases c1 : kd = 1
    · obtain ⟨b, a2, s2, e2, p2, q2⟩ := one_t hl a s 7 (by omega) h0 (by omega)
      cases b with
      | true =>
        obtain ⟨r, a3, s3, e3, _, _, p3, q3⟩ := pick_t hl a2 s2 60 (by omega) (by omega) (by omega)
        obtain ⟨o', a', s', e, h⟩ := st (wrap64 (r - 30)) a3 s3 (by omega) (by omega)
        exact ⟨o', a', s', Ev.step (fun k => rfl) (evpos lt (evneg c0 (evpos c1 (evlet e2 (evpos rfl (evlet e3 e)))))), h⟩
      | false =>
        obtain ⟨o', a', s', e, h⟩ := ih o a2 s2 ho (by omega) (by omega)
        refine ⟨o', a', s', Ev.step (fun k => rfl) (evpos lt (evneg c0 (evpos c1 (evlet e2 (evneg Bool.false_ne_true ?_))))), h⟩
        rw [w64s (by omega)]; exact e
    by_cases c2 : kd = 2
    · obtain ⟨r, a2, s2, e2, _, _, p2, q2⟩ := pick_t hl a s 4096 (by omega) h0 (by omega)
      obtain ⟨o', a', s', e, h⟩ := st (wrap64 (r - 2048)) a2 s2 (by omega) (by omega)
      exact ⟨o', a', s', Ev.step (fun k => rfl) (evpos lt (evneg c0 (evneg c1 (evpos c2 (evlet e2 e))))), h⟩
    by_cases c3 : kd = 3
    · obtain ⟨o', a', s', e, h⟩ := st (wrap64 ((wrap64 ((wrap64 (Int.tdiv (i : Int) 8)) * 9)) - (wrap64 ((Int.tmod (i : Int) 8) * 7)))) a s (by omega) (by omega)
      exact ⟨o', a', s', Ev.step (fun k => rfl) (evpos lt (evneg c0 (evneg c1 (evneg c2 (evpos c3 e))))), h⟩
    · obtain ⟨r, a2, s2, e2, x2, y2, p2, q2⟩ := pick_t hl a s 2 (by omega) h0 (by omega)
      obtain ⟨o', a', s', e, h⟩ := st (rd [(-32768), 32767] r) a2 s2 (by omega) (by omega)
      exact ⟨o', a', s', Ev.step (fun k => rfl) (evpos lt (evneg c0 (evneg c1 (evneg c2 (evneg c3 (evlet rfl (evlet e2 (evpos x2 (evpos (by simp only [List.length_cons, List.length_nil]; omega) e))))))))), h⟩
theorem drawn_t {l : List Int} (hl : ByteL l) : ∃ o : List Int, Ev (fun k => spec_l8Drawn.f k l) o ∧ o.length ≤ 64 := by
  obtain ⟨o, a1, s1, e1, ol, p1, q1⟩ := block_t hl 0 0 (by omega) (by omega)
  obtain ⟨r, a2, s2, e2, _, _, p2, q2⟩ := pick_t hl a1 s1 14 (by omega) (by omega) (by omega)
  by_cases c0 : r = 0
  · exact ⟨o.drop (1 : Int).toNat, Ev.bind e1 (evlet e2 (evpos c0 (evpos (by simp only; omega) (Ev.now _)))), by rw [List.length_drop]; omega⟩
  by_cases c1 : r = 1
  · obtain ⟨r3, a3, s3, e3, x3, y3, p3, q3⟩ := pick_t hl a2 s2 64 (by omega) (by omega) (by omega)
    obtain ⟨r4, a4, s4, e4, x4, y4, p4, q4⟩ := pick_t hl a3 s3 2 (by omega) (by omega) (by omega)
    exact ⟨_, Ev.bind e1 (evlet e2 (evneg c0 (evpos c1 (evlet e3 (evlet rfl (evlet e4 (evpos x4 (evpos (by simp only [List.length_cons, List.length_nil]; omega) (evpos x3 (evpos (by show r3 < (o.length : Int); omega) (Ev.now _))))))))))), by rw [List.length_set]; show o.length ≤ 64; omega⟩
  · exact ⟨o, Ev.bind e1 (evlet e2 (evneg c0 (evneg c1 (Ev.now _)))), by omega⟩
theorem scales_t (q : Int) (hq0 : 1 ≤ q) (hq1 : q ≤ 100) (c : Bool) : ∃ o : List Int, Ev (fun k => spec_Scales.f k q c) o ∧ o.length = 64 := by
  have loop : ∀ x5 : Int, ∃ o : List Int, Ev (fun k => spec_Scales.j1 k c x5) o ∧ o.length = 64 := by
    intro x5
    have main := down (n := 64) (P := fun i => ∀ o : List Int, o.length = 64 → ∃ o' : List Int, Ev (fun k => spec_Scales.l0 k c x5 o 64 (i : Int)) o' ∧ o'.length = 64) ?_ ?_
    · obtain ⟨o, e, h⟩ := main (List.replicate 64 0) (by simp)
      exact ⟨o, Ev.step (f := fun k => (some (List.replicate 64 0 : List Int)).bind fun y => spec_Scales.l0 k c x5 y (y.length : Int) 0) (fun k => rfl) (evlet rfl e), h⟩
    · intro o ho
      exact ⟨o, Ev.step (f := fun _ => some o) (fun k => rfl) (Ev.now _), ho⟩
    · intro i hi ih o ho
      have f0 : (0 : Int) ≤ (i : Int) := by omega
      have f1 : (i : Int) < (o.length : Int) := by omega
      have st : ∀ v : Int, ∃ o' : List Int, Ev (fun k => if 0 ≤ (i : Int) then (if (i : Int) < (o.length : Int) then spec_Scales.l0 k c x5 (o.set (i : Int).toNat v) 64 (wrap64 ((i : Int) + 1)) else none) else none) o' ∧ o'.length = 64 := by
        intro v
        obtain ⟨o', e, h⟩ := ih (o.set i v) (by rw [List.length_set]; exact ho)
        refine ⟨o', evpos f0 (evpos f1 ?_), h⟩
        rw [w64s (by omega), Int.toNat_natCast]; exact e
      have j3 : ∀ y : Int, ∃ o' : List Int, Ev (fun k => spec_Scales.j3 k c x5 o (i : Int) y 64 (i : Int)) o' ∧ o'.length = 64 := by
        intro y
        by_cases c1 : (wrap64 (Int.tdiv (wrap64 ((wrap64 (y * x5)) + 50)) 100)) < 1
        · obtain ⟨o', e, h⟩ := st 1
          exact ⟨o', Ev.step (fun k => rfl) (evpos c1 e), h⟩
        by_cases c2 : (wrap64 (Int.tdiv (wrap64 ((wrap64 (y * x5)) + 50)) 100)) > 255
        · obtain ⟨o', e, h⟩ := st 255
          exact ⟨o', Ev.step (fun k => rfl) (evneg c1 (evpos c2 e)), h⟩
        · obtain ⟨o', e, h⟩ := st (wrap64 (Int.tdiv (wrap64 ((wrap64 (y * x5)) + 50)) 100))
          exact ⟨o', Ev.step (fun k => rfl) (evneg c1 (evneg c2 e)), h⟩
      have lt : (i : Int) < 64 := by omega
      cases c with
      | true =>
        obtain ⟨o', e, h⟩ := j3 (wrap64 (10 + (wrap64 (6 * (wrap64 ((Int.tmod (i : Int) 8) + (wrap64 (Int.tdiv (i : Int) 8))))))))
        refine ⟨o', Ev.step (fun k => rfl) ?_, h⟩
        simp only [spec_Scales.l0, if_true]
        exact evpos lt e
      | false =>
        obtain ⟨o', e, h⟩ := j3 (wrap64 ((wrap64 (8 + (wrap64 (3 * (wrap64 ((Int.tmod (i : Int) 8) + (wrap64 (Int.tdiv (i : Int) 8)))))))) + (wrap64 (Int.tdiv (wrap64 ((Int.tmod (i : Int) 8) * (wrap64 (Int.tdiv (i : Int) 8)))) 2))))
        refine ⟨o', Ev.step (fun k => rfl) ?_, h⟩
        simp only [spec_Scales.l0, Bool.false_eq_true, if_false]
        exact evpos lt e
  have j0 : ∃ o : List Int, Ev (fun k => spec_Scales.j0 k q c false) o ∧ o.length = 64 := by
    by_cases c1 : q < 50
    · obtain ⟨o, e, h⟩ := loop (wrap64 (Int.tdiv 5000 q))
      refine ⟨o, Ev.step (fun k => rfl) ?_, h⟩
      simp only [spec_Scales.j0, Bool.false_eq_true, if_false]
      exact evpos c1 (evneg (by omega) e)
    · obtain ⟨o, e, h⟩ := loop (wrap64 (200 - (wrap64 (2 * q))))
      refine ⟨o, Ev.step (fun k => rfl) ?_, h⟩
      simp only [spec_Scales.j0, Bool.false_eq_true, if_false]
      exact evneg c1 e
  obtain ⟨o, e, h⟩ := j0
  refine ⟨o, evneg (by omega) ?_, h⟩
  rw [decide_eq_false (by omega)]; exact e
theorem draw_t {l : List Int} (hl : ByteL l) : ∃ b t : List Int, Ev (fun k => spec_DrawCoarse.f k l) (b, t) ∧ b.length ≤ 64 ∧ t.length ≤ 64 := by
  obtain ⟨r1, a1, s1, e1, x1, y1, p1, q1⟩ := pick_t hl 0 0 100 (by omega) (by omega) (by omega)
  obtain ⟨b2, a2, s2, e2, p2, q2⟩ := one_t hl a1 s1 2 (by omega) (by omega) (by omega)
  have w1 : wrap64 (1 + r1) = 1 + r1 := w64 (by omega) (by omega)
  obtain ⟨t, e3, tl⟩ := scales_t (1 + r1) (by omega) (by omega) b2
  obtain ⟨r4, a4, s4, e4, x4, y4, p4, q4⟩ := pick_t hl a2 s2 14 (by omega) (by omega) (by omega)
  obtain ⟨b, eb, bl⟩ := drawn_t hl
  have pre : ∀ x : List Int × List Int, Ev (fun k => if r4 = 0 then ((spec_l1Cur_pick.f l a4 s4 64).bind fun bt203 => ((some (([0, 256] : List Int) : List Int)).bind fun y206 => ((spec_l1Cur_pick.f l bt203.2.1 bt203.2.2 2).bind fun bt209 => (if 0 ≤ bt209.1 then (if bt209.1 < (y206.length : Int) then (if 0 ≤ bt203.1 then (if bt203.1 < (t.length : Int) then ((spec_l8Drawn.f k l).bind fun t214 => (some (t214, (t.set (bt203.1 : Int).toNat (rd y206 bt209.1))))) else (none)) else (none)) else (none)) else (none))))) else (if r4 = 1 then (if 1 ≤ (t.length : Int) then ((spec_l8Drawn.f k l).bind fun t220 => (some (t220, (t.drop (1 : Int).toNat)))) else (none)) else ((spec_l8Drawn.f k l).bind fun t223 => (some (t223, t))))) x → Ev (fun k => spec_DrawCoarse.f k l) (x.1, x.2) := by
    intro x h
    refine Ev.bind (a := x) (evlet e1 (evlet e2 ?_)) (Ev.now _)
    simp only [w1]
    exact Ev.bind e3 (evlet e4 h)
  by_cases c0 : r4 = 0
  · obtain ⟨r5, a5, s5, e5, x5, y5, p5, q5⟩ := pick_t hl a4 s4 64 (by omega) (by omega) (by omega)
    obtain ⟨r6, a6, s6, e6, x6, y6, p6, q6⟩ := pick_t hl a5 s5 2 (by omega) (by omega) (by omega)
    exact ⟨b, _, pre (b, _) (evpos c0 (evlet e5 (evlet rfl (evlet e6 (evpos x6 (evpos (by simp only [List.length_cons, List.length_nil]; omega) (evpos x5 (evpos (by simp only; omega) (Ev.bind eb (Ev.now _))))))))))  , bl, by rw [List.length_set]; omega⟩
  by_cases c1 : r4 = 1
  · exact ⟨b, _, pre (b, _) (evneg c0 (evpos c1 (evpos (by omega) (Ev.bind eb (Ev.now _))))), bl, by rw [List.length_drop]; omega⟩
  · exact ⟨b, t, pre (b, t) (evneg c0 (evneg c1 (Ev.bind eb (Ev.now _)))), bl, by omega⟩
/-- The looks at a block and at scales. -/
theorem block_both (b : List Int) (hb : b.length ≤ 4611686018427387904) : ∃ q : Bool, Ev (fun k => impl_goodBlock.f k b) q ∧ Ev (fun k => spec_l8Block.f k b) q ∧ (q = true → b.length = 64 ∧ ∀ x ∈ b, -32768 ≤ x ∧ x ≤ 32767) ∧ (b.length = 64 → (∀ x ∈ b, -32768 ≤ x ∧ x ≤ 32767) → q = true) := by
  have main := down (n := b.length) (P := fun i => ∃ q : Bool, Ev (fun k => impl_goodBlock.l0 k b b (b.length : Int) (i : Int)) q ∧ Ev (fun k => spec_l8Block.l0 k b b (b.length : Int) (i : Int)) q ∧ (q = true → b.length = 64 ∧ ∀ x ∈ b.drop i, -32768 ≤ x ∧ x ≤ 32767) ∧ (b.length = 64 → (∀ x ∈ b.drop i, -32768 ≤ x ∧ x ≤ 32767) → q = true)) ?_ ?_
  · obtain ⟨q, g1, g2, g3, g4⟩ := main
    exact ⟨q, g1, g2, fun h => by simpa using g3 h, fun h1 h2 => g4 h1 (by simpa using h2)⟩
  · refine ⟨(b.length : Int) == 64, Ev.step (fun k => rfl) (evneg (by omega) (Ev.now _)), Ev.step (fun k => rfl) (evneg (by omega) (Ev.now _)), fun h => ⟨by have := beq_iff_eq.1 h; omega, fun x hx => by simp at hx⟩, fun h _ => beq_iff_eq.2 (by omega)⟩
  · intro i hi ⟨q, g1, g2, g3, g4⟩
    have er : rd b (i : Int) = b[i] := by rw [rd_nat, getD_lt hi]
    have hd := List.drop_eq_getElem_cons hi
    by_cases c1 : b[i] < -32768
    · exact ⟨false, Ev.step (fun k => rfl) (evpos (by omega) (evpos (by omega) (evpos (by omega) (evpos (by rw [er]; exact c1) (Ev.now _))))), Ev.step (fun k => rfl) (evpos (by omega) (evpos (by omega) (evpos (by omega) (evpos (by rw [er]; exact c1) (Ev.now _))))), (fun h => by cases h), fun _ h => by have := h b[i] (by rw [hd]; exact List.mem_cons_self); omega⟩
    by_cases c2 : b[i] > 32767
    · exact ⟨false, Ev.step (fun k => rfl) (evpos (by omega) (evpos (by omega) (evpos (by omega) (evneg (by rw [er]; exact c1) (evpos (by rw [er]; exact c2) (Ev.now _)))))), Ev.step (fun k => rfl) (evpos (by omega) (evpos (by omega) (evpos (by omega) (evneg (by rw [er]; exact c1) (evpos (by rw [er]; exact c2) (Ev.now _)))))), (fun h => by cases h), fun _ h => by have := h b[i] (by rw [hd]; exact List.mem_cons_self); omega⟩
    refine ⟨q, Ev.step (fun k => rfl) (evpos (by omega) (evpos (by omega) (evpos (by omega) (evneg (by rw [er]; exact c1) (evneg (by rw [er]; exact c2) (by rw [w64s (by omega)]; exact g1)))))), Ev.step (fun k => rfl) (evpos (by omega) (evpos (by omega) (evpos (by omega) (evneg (by rw [er]; exact c1) (evneg (by rw [er]; exact c2) (by rw [w64s (by omega)]; exact g2)))))), fun h => ⟨(g3 h).1, fun x hx => ?_⟩, fun h1 h2 => g4 h1 (fun x hx => h2 x (by rw [hd]; exact List.mem_cons_of_mem _ hx))⟩
    rw [hd] at hx
    rcases List.mem_cons.1 hx with rfl | hx
    · omega
    · exact (g3 h).2 x hx
theorem scale_both (b : List Int) (hb : b.length ≤ 4611686018427387904) : ∃ q : Bool, Ev (fun k => impl_goodScales.f k b) q ∧ Ev (fun k => spec_l8Scales.f k b) q ∧ (q = true → b.length = 64 ∧ ∀ x ∈ b, 1 ≤ x ∧ x ≤ 255) := by
  have main := down (n := b.length) (P := fun i => ∃ q : Bool, Ev (fun k => impl_goodScales.l0 k b b (b.length : Int) (i : Int)) q ∧ Ev (fun k => spec_l8Scales.l0 k b b (b.length : Int) (i : Int)) q ∧ (q = true → b.length = 64 ∧ ∀ x ∈ b.drop i, 1 ≤ x ∧ x ≤ 255)) ?_ ?_
  · obtain ⟨q, g1, g2, g3⟩ := main
    exact ⟨q, g1, g2, fun h => by simpa using g3 h⟩
  · refine ⟨(b.length : Int) == 64, Ev.step (fun k => rfl) (evneg (by omega) (Ev.now _)), Ev.step (fun k => rfl) (evneg (by omega) (Ev.now _)), fun h => ⟨by have := beq_iff_eq.1 h; omega, fun x hx => by simp at hx⟩⟩
  · intro i hi ⟨q, g1, g2, g3⟩
    have er : rd b (i : Int) = b[i] := by rw [rd_nat, getD_lt hi]
    have hd := List.drop_eq_getElem_cons hi
    by_cases c1 : b[i] < 1
    · exact ⟨false, Ev.step (fun k => rfl) (evpos (by omega) (evpos (by omega) (evpos (by omega) (evpos (by rw [er]; exact c1) (Ev.now _))))), Ev.step (fun k => rfl) (evpos (by omega) (evpos (by omega) (evpos (by omega) (evpos (by rw [er]; exact c1) (Ev.now _))))), fun h => by cases h⟩
    by_cases c2 : b[i] > 255
    · exact ⟨false, Ev.step (fun k => rfl) (evpos (by omega) (evpos (by omega) (evpos (by omega) (evneg (by rw [er]; exact c1) (evpos (by rw [er]; exact c2) (Ev.now _)))))), Ev.step (fun k => rfl) (evpos (by omega) (evpos (by omega) (evpos (by omega) (evneg (by rw [er]; exact c1) (evpos (by rw [er]; exact c2) (Ev.now _)))))), fun h => by cases h⟩
    refine ⟨q, Ev.step (fun k => rfl) (evpos (by omega) (evpos (by omega) (evpos (by omega) (evneg (by rw [er]; exact c1) (evneg (by rw [er]; exact c2) (by rw [w64s (by omega)]; exact g1)))))), Ev.step (fun k => rfl) (evpos (by omega) (evpos (by omega) (evpos (by omega) (evneg (by rw [er]; exact c1) (evneg (by rw [er]; exact c2) (by rw [w64s (by omega)]; exact g2)))))), fun h => ⟨(g3 h).1, fun x hx => ?_⟩⟩
    rw [hd] at hx
    rcases List.mem_cons.1 hx with rfl | hx
    · omega
    · exact (g3 h).2 x hx
/-- A number by a scale. -/
def cz (x t : Int) : Int := if x < 0 then -((-x + t / 2) / t) else (x + t / 2) / t
/-- What is known of it: the product p is at most half a scale away. -/
theorem div_facts (x t : Int) (hx : 0 ≤ x) (hx1 : x ≤ 32768) (ht : 1 ≤ t) (ht1 : t ≤ 255) : ∃ q p : Int, (x + t / 2) / t = q ∧ q * t = p ∧ 0 ≤ q ∧ q ≤ x ∧ p ≤ x + t / 2 ∧ x + t / 2 < p + t ∧ 0 ≤ p ∧ (p + t / 2) / t = q := by
  refine ⟨(x + t / 2) / t, (x + t / 2) / t * t, rfl, rfl, Int.ediv_nonneg (by omega) (by omega), ?_, Int.ediv_mul_le _ (by omega), ?_, Int.mul_nonneg (Int.ediv_nonneg (by omega) (by omega)) (by omega), ?_⟩
  · have h1 : x * 1 ≤ x * t := Int.mul_le_mul_of_nonneg_left ht hx
    have h2 : x + t / 2 < (x + 1) * t := by
      rw [Int.add_mul, Int.one_mul]
      generalize x * t = y at *
      omega
    have := Int.ediv_lt_of_lt_mul (show 0 < t by omega) h2
    omega
  · have := Int.lt_ediv_add_one_mul_self (x + t / 2) (show 0 < t by omega)
    rw [Int.add_mul, Int.one_mul] at this
    exact this
  · rw [Int.add_comm, Int.add_mul_ediv_right _ _ (show t ≠ 0 by omega), Int.ediv_eq_zero_of_lt (by omega) (by omega), Int.zero_add]
theorem cz_facts (x t : Int) (hx : -32768 ≤ x) (hx1 : x ≤ 32767) (ht : 1 ≤ t) (ht1 : t ≤ 255) : ∃ p : Int, cz x t * t = p ∧ -32768 ≤ cz x t ∧ cz x t ≤ 32767 ∧ -33000 ≤ p ∧ p ≤ 33000 ∧ 2 * (p - x) ≤ t ∧ 2 * (x - p) ≤ t ∧ cz p t = cz x t := by
  by_cases c : x < 0
  · obtain ⟨q, p, e1, e2, q0, q1, p0, p1, p2, e3⟩ := div_facts (-x) t (by omega) (by omega) ht ht1
    have ec : cz x t = -q := by unfold cz; rw [if_pos c, e1]
    refine ⟨-p, by rw [ec, Int.neg_mul, e2], by rw [ec]; omega, by rw [ec]; omega, by omega, by omega, by omega, by omega, ?_⟩
    rw [ec]
    unfold cz
    by_cases c2 : -p < 0
    · rw [if_pos c2, Int.neg_neg, e3]
    · have p00 : p = 0 := by omega
      subst p00
      have q00 : q = 0 := by
        rw [Int.zero_add, Int.ediv_eq_zero_of_lt (by omega) (by omega)] at e3
        exact e3.symm
      rw [if_neg c2, q00, Int.neg_zero, Int.zero_add, Int.ediv_eq_zero_of_lt (by omega) (by omega)]
  · obtain ⟨q, p, e1, e2, q0, q1, p0, p1, p2, e3⟩ := div_facts x t (by omega) (by omega) ht ht1
    have ec : cz x t = q := by unfold cz; rw [if_neg c, e1]
    refine ⟨p, by rw [ec, e2], by rw [ec]; omega, by rw [ec]; omega, by omega, by omega, by omega, by omega, ?_⟩
    rw [ec]
    unfold cz
    rw [if_neg (by omega), e3]
theorem td_pos (x t : Int) (hx : 0 ≤ x) : Int.tdiv x t = x / t := Int.tdiv_eq_ediv_of_nonneg hx
theorem half_w (t : Int) (h0 : 1 ≤ t) (h1 : t ≤ 255) : wrap64 (Int.tdiv t 2) = t / 2 := by rw [td_pos t 2 (by omega)]; exact w64 (by omega) (by omega)
theorem cz_pos (x t : Int) (hx : 0 ≤ x) (hx1 : x ≤ 32767) (ht : 1 ≤ t) (ht1 : t ≤ 255) : wrap64 (Int.tdiv (wrap64 (x + wrap64 (Int.tdiv t 2))) t) = cz x t := by
  have h := cz_facts x t (by omega) hx1 ht ht1
  obtain ⟨p, _, c0, c1, _⟩ := h
  rw [half_w t ht ht1, w64 (n := x + t / 2) (by omega) (by omega), td_pos _ _ (by omega)]
  have e : (x + t / 2) / t = cz x t := by unfold cz; rw [if_neg (by omega)]
  rw [e, w64 (by omega) (by omega)]
theorem cz_neg (x t : Int) (hx : x < 0) (hx1 : -32768 ≤ x) (ht : 1 ≤ t) (ht1 : t ≤ 255) : wrap64 (-(wrap64 (Int.tdiv (wrap64 ((wrap64 (-x)) + (wrap64 (Int.tdiv t 2)))) t))) = cz x t := by
  have h := cz_facts x t hx1 (by omega) ht ht1
  obtain ⟨p, _, c0, c1, _⟩ := h
  rw [half_w t ht ht1, w64 (n := -x) (by omega) (by omega), w64 (n := -x + t / 2) (by omega) (by omega), td_pos _ _ (by omega)]
  have e : (-x + t / 2) / t = -cz x t := by unfold cz; rw [if_pos hx, Int.neg_neg]
  rw [e, w64 (n := -cz x t) (by omega) (by omega), Int.neg_neg, w64 (by omega) (by omega)]
def co (b t : List Int) : List Int := (List.range 64).map fun i => cz (b.getD i 0) (t.getD i 0)
theorem co_len (b t : List Int) : (co b t).length = 64 := by simp [co]
theorem co_get (b t : List Int) (i : Nat) (hi : i < 64) : (co b t).getD i 0 = cz (b.getD i 0) (t.getD i 0) := by unfold co; rw [range_getD _ _ _ _ hi]
structure Good (b t : List Int) : Prop where
  bl : b.length = 64
  tl : t.length = 64
  bb : ∀ x ∈ b, -32768 ≤ x ∧ x ≤ 32767
  tt : ∀ x ∈ t, 1 ≤ x ∧ x ≤ 255
theorem Good.b {b t : List Int} (h : Good b t) {i : Nat} (hi : i < 64) : -32768 ≤ b.getD i 0 ∧ b.getD i 0 ≤ 32767 := by
  have := h.bl
  rw [getD_lt (by omega)]; exact h.bb _ (List.getElem_mem _)
theorem Good.t {b t : List Int} (h : Good b t) {i : Nat} (hi : i < 64) : 1 ≤ t.getD i 0 ∧ t.getD i 0 ≤ 255 := by
  have := h.tl
  rw [getD_lt (by omega)]; exact h.tt _ (List.getElem_mem _)
theorem coarse_impl {b t : List Int} (h : Good b t) : Ev (fun k => impl_Coarse.l0 k t ([] : List Int) b (b.length : Int) 0) (co b t) := by
  have bl := h.bl
  have tl := h.tl
  have main := down (n := 64) (P := fun i => Ev (fun k => impl_Coarse.l0 k t ((co b t).take i) b (b.length : Int) (i : Int)) (co b t)) ?_ ?_
  · exact main
  · rw [List.take_of_length_le (by rw [co_len]; exact Nat.le_refl _)]
    exact Ev.step (fun k => rfl) (evneg (by omega) (Ev.now _))
  · intro i hi ih
    obtain ⟨b0, b1⟩ := h.b hi
    obtain ⟨t0, t1⟩ := h.t hi
    have cl := co_len b t
    have ec : (co b t)[i]'(by omega) = cz (b.getD i 0) (t.getD i 0) := by rw [← co_get b t i hi, getD_lt]
    have tk : (co b t).take (i + 1) = (co b t).take i ++ [cz (b.getD i 0) (t.getD i 0)] := by rw [← ec, List.take_append_getElem]
    rw [tk] at ih
    have lim : ((co b t).take i).length < 17592186044416 := by rw [List.length_take]; omega
    refine Ev.step (fun k => rfl) (evpos (by omega) (evpos (by omega) (evpos (by omega) (evpos (by omega) ?_))))
    rw [rd_nat, rd_nat, w64s (by omega)]
    by_cases c : b.getD i 0 < 0
    · rw [cz_neg _ _ c b0 t0 t1]
      exact evpos c (evneg (by omega) (evpos lim ih))
    · rw [cz_pos _ _ (by omega) b1 t0 t1]
      exact evneg c (evneg (by omega) (evpos lim ih))
theorem coarse_spec {b t : List Int} (h : Good b t) : Ev (fun k => spec_l8Coarse.f k b t) (co b t) := by
  have bl := h.bl
  have tl := h.tl
  have main := down (n := 64) (P := fun i => Ev (fun k => spec_l8Coarse.l0 k t (fl 0 64 (fun i => cz (b.getD i 0) (t.getD i 0)) i) b (b.length : Int) (i : Int)) (co b t)) ?_ ?_
  · rw [fl_zero] at main
    exact evpos (by decide) main
  · rw [fl_all]
    exact Ev.step (fun k => rfl) (evneg (by omega) (Ev.now _))
  · intro i hi ih
    obtain ⟨b0, b1⟩ := h.b hi
    obtain ⟨t0, t1⟩ := h.t hi
    rw [← fl_set] at ih
    have lim : (i : Int) < ((fl 0 64 (fun i => cz (b.getD i 0) (t.getD i 0)) i).length : Int) := by rw [fl_len]; omega
    refine Ev.step (fun k => rfl) (evpos (by omega) (evpos (by omega) (evpos (by omega) ?_)))
    rw [rd_nat, rd_nat, w64s (by omega), Int.toNat_natCast]
    by_cases c : b.getD i 0 < 0
    · rw [cz_neg _ _ c b0 t0 t1]
      exact evpos c (evpos (by omega) (evneg (by omega) (evpos lim ih)))
    · rw [cz_pos _ _ (by omega) b1 t0 t1]
      exact evneg c (evpos (by omega) (evneg (by omega) (evpos lim ih)))
theorem good_true {b t : List Int} (h : Good b t) : Ev (fun k => impl_Coarse.f k b t) (co b t) := by
  have bl := h.bl
  have tl := h.tl
  obtain ⟨q, g1, g2, g3, g4⟩ := block_both b (by omega)
  obtain rfl := g4 bl h.bb
  obtain ⟨q', k1, k2, k3, k4⟩ : ∃ q : Bool, Ev (fun k => impl_goodScales.f k t) q ∧ True ∧ True ∧ q = true := by
    have main := down (n := t.length) (P := fun i => Ev (fun k => impl_goodScales.l0 k t t (t.length : Int) (i : Int)) true) ?_ ?_
    · exact ⟨true, main, trivial, trivial, rfl⟩
    · refine Ev.step (fun k => rfl) (evneg (by omega) ?_)
      rw [show ((t.length : Int) == 64) = true from beq_iff_eq.2 (by omega)]
      exact Ev.now _
    · intro i hi ih
      have ht := h.tt _ (List.getElem_mem hi)
      have er : rd t (i : Int) = t[i] := by rw [rd_nat, getD_lt hi]
      refine Ev.step (fun k => rfl) (evpos (by omega) (evpos (by omega) (evpos (by omega) (evneg (by rw [er]; omega) (evneg (by rw [er]; omega) ?_)))))
      rw [w64s (by omega)]; exact ih
  subst k4
  exact Ev.bind g1 (evpos rfl (Ev.bind k1 (Ev.step (fun k => rfl) (coarse_impl h))))
/-- Fine of what Coarse tells. -/
def fz (b t : List Int) : List Int := (List.range 64).map fun i => mx (-32768) (mn 32767 (cz (b.getD i 0) (t.getD i 0) * t.getD i 0))
theorem fz_len (b t : List Int) : (fz b t).length = 64 := by simp [fz]
theorem fz_get (b t : List Int) (i : Nat) (hi : i < 64) : (fz b t).getD i 0 = mx (-32768) (mn 32767 (cz (b.getD i 0) (t.getD i 0) * t.getD i 0)) := by unfold fz; rw [range_getD _ _ _ _ hi]
theorem clip_bd (x : Int) : -32768 ≤ mx (-32768) (mn 32767 x) ∧ mx (-32768) (mn 32767 x) ≤ 32767 := by unfold mx mn; split <;> split <;> omega
theorem clip_id (x : Int) (h0 : -32768 ≤ x) (h1 : x ≤ 32767) : mx (-32768) (mn 32767 x) = x := by unfold mx mn; split <;> split <;> omega
theorem co_good {b t : List Int} (h : Good b t) : Good (co b t) t := by
  refine ⟨co_len b t, h.tl, ?_, h.tt⟩
  intro x hx
  obtain ⟨i, hi, rfl⟩ := List.mem_map.1 hx
  have hi := List.mem_range.1 hi
  obtain ⟨p, _, c0, c1, _⟩ := cz_facts _ _ (h.b hi).1 (h.b hi).2 (h.t hi).1 (h.t hi).2
  exact ⟨c0, c1⟩
theorem fz_good {b t : List Int} (h : Good b t) : Good (fz b t) t := by
  refine ⟨fz_len b t, h.tl, ?_, h.tt⟩
  intro x hx
  obtain ⟨i, hi, rfl⟩ := List.mem_map.1 hx
  exact clip_bd _
theorem fine_t {b t : List Int} (h : Good b t) : Ev (fun k => impl_Fine.f k (co b t) t) (fz b t) := by
  have hc := co_good h
  have cl := co_len b t
  have tl := h.tl
  obtain ⟨q, g1, g2, g3, g4⟩ := block_both (co b t) (by omega)
  obtain rfl := g4 cl hc.bb
  have sc : Ev (fun k => impl_goodScales.f k t) true := by
    have main := down (n := t.length) (P := fun i => Ev (fun k => impl_goodScales.l0 k t t (t.length : Int) (i : Int)) true) ?_ ?_
    · exact main
    · refine Ev.step (fun k => rfl) (evneg (by omega) ?_)
      rw [show ((t.length : Int) == 64) = true from beq_iff_eq.2 (by omega)]
      exact Ev.now _
    · intro i hi ih
      have ht := h.tt _ (List.getElem_mem hi)
      have er : rd t (i : Int) = t[i] := by rw [rd_nat, getD_lt hi]
      refine Ev.step (fun k => rfl) (evpos (by omega) (evpos (by omega) (evpos (by omega) (evneg (by rw [er]; omega) (evneg (by rw [er]; omega) ?_)))))
      rw [w64s (by omega)]; exact ih
  refine Ev.bind g1 (evpos rfl (Ev.bind sc (Ev.step (fun k => rfl) ?_)))
  have main := down (n := 64) (P := fun i => Ev (fun k => impl_Fine.l0 k t ((fz b t).take i) (co b t) ((co b t).length : Int) (i : Int)) (fz b t)) ?_ ?_
  · exact main
  · rw [List.take_of_length_le (by rw [fz_len]; exact Nat.le_refl _)]
    exact Ev.step (fun k => rfl) (evneg (by omega) (Ev.now _))
  · intro i hi ih
    have fl := fz_len b t
    obtain ⟨p, ep, _, _, p0, p1, _⟩ := cz_facts _ _ (h.b hi).1 (h.b hi).2 (h.t hi).1 (h.t hi).2
    have ec : (fz b t)[i]'(by omega) = mx (-32768) (mn 32767 (cz (b.getD i 0) (t.getD i 0) * t.getD i 0)) := by rw [← fz_get b t i hi, getD_lt]
    have tk : (fz b t).take (i + 1) = (fz b t).take i ++ [mx (-32768) (mn 32767 (cz (b.getD i 0) (t.getD i 0) * t.getD i 0))] := by rw [← ec, List.take_append_getElem]
    rw [tk] at ih
    have lim : ((fz b t).take i).length < 17592186044416 := by rw [List.length_take]; omega
    refine Ev.step (fun k => rfl) (evpos (by omega) (evpos (by omega) (evpos (by omega) (evpos (by omega) (evpos lim ?_)))))
    rw [rd_nat, rd_nat, w64s (by omega), co_get b t i hi, w64 (n := cz (b.getD i 0) (t.getD i 0) * t.getD i 0) (by rw [ep]; omega) (by rw [ep]; omega)]
    exact ih
theorem wInts_t (a b : List Int) (hl : a.length = b.length) (hn : a.length ≤ 4611686018427387904) : ∃ q : Bool, Ev (fun k => laws_wInts.f k a b) q ∧ (a = b → q = true) := by
  have main := down (n := a.length) (P := fun i => ∃ q : Bool, Ev (fun k => laws_wInts.l0 k a b (a.length : Int) (i : Int)) q ∧ (a = b → q = true)) ?_ ?_
  · obtain ⟨q, e, h⟩ := main
    exact ⟨q, evpos (by omega) e, h⟩
  · exact ⟨true, Ev.step (fun k => rfl) (evneg (by omega) (Ev.now _)), fun _ => rfl⟩
  · intro i hi ⟨q, e, h⟩
    by_cases c : rd a (i : Int) = rd b (i : Int)
    · exact ⟨q, Ev.step (fun k => rfl) (evpos (by omega) (evpos (by omega) (evpos (by omega) (evpos (by omega) (evpos c (by rw [w64s (by omega)]; exact e)))))), h⟩
    · exact ⟨false, Ev.step (fun k => rfl) (evpos (by omega) (evpos (by omega) (evpos (by omega) (evpos (by omega) (evneg c (Ev.now _)))))), fun hab => absurd (by rw [hab]) c⟩
theorem clips_t {b t : List Int} (h : Good b t) : ∃ q : Bool, Ev (fun k => spec_Clips.f k (co b t) t) q ∧ (q = false → co (fz b t) t = co b t) := by
  have cl := co_len b t
  have tl := h.tl
  have main := down (n := 64) (P := fun i => ∃ q : Bool, Ev (fun k => spec_Clips.l0 k t (co b t) ((co b t).length : Int) (i : Int)) q ∧ (q = false → ∀ j, i ≤ j → j < 64 → -32768 ≤ cz (b.getD j 0) (t.getD j 0) * t.getD j 0 ∧ cz (b.getD j 0) (t.getD j 0) * t.getD j 0 ≤ 32767)) ?_ ?_
  · obtain ⟨q, e, hq⟩ := main
    refine ⟨q, e, fun h0 => ?_⟩
    apply List.map_congr_left
    intro j hj
    have hj := List.mem_range.1 hj
    have r := hq h0 j (Nat.zero_le _) hj
    obtain ⟨p, ep, _, _, _, _, _, _, cc⟩ := cz_facts _ _ (h.b hj).1 (h.b hj).2 (h.t hj).1 (h.t hj).2
    have e2 : (fz b t).getD j 0 = p := by
      rw [fz_get b t j hj, ep]
      rw [ep] at r
      exact clip_id p r.1 r.2
    rw [e2, cc]
  · exact ⟨false, Ev.step (fun k => rfl) (evneg (by omega) (Ev.now _)), fun _ j h1 h2 => by omega⟩
  · intro i hi ⟨q, e, hq⟩
    obtain ⟨p, ep, _, _, p0, p1, _⟩ := cz_facts _ _ (h.b hi).1 (h.b hi).2 (h.t hi).1 (h.t hi).2
    have ew : wrap64 (rd (co b t) (i : Int) * rd t (i : Int)) = p := by rw [rd_nat, rd_nat, co_get b t i hi, ep, w64 (by omega) (by omega)]
    by_cases c1 : p > 32767
    · exact ⟨true, Ev.step (fun k => rfl) (evpos (by omega) (evpos (by omega) (evpos (by omega) (evpos (by omega) (evpos (by rw [ew]; exact c1) (Ev.now _)))))), fun h => by cases h⟩
    by_cases c2 : p < -32768
    · exact ⟨true, Ev.step (fun k => rfl) (evpos (by omega) (evpos (by omega) (evpos (by omega) (evpos (by omega) (evneg (by rw [ew]; exact c1) (evpos (by rw [ew]; exact c2) (Ev.now _))))))), fun h => by cases h⟩
    refine ⟨q, Ev.step (fun k => rfl) (evpos (by omega) (evpos (by omega) (evpos (by omega) (evpos (by omega) (evneg (by rw [ew]; exact c1) (evneg (by rw [ew]; exact c2) (by rw [w64s (by omega)]; exact e))))))), fun h0 j h1 h2 => ?_⟩
    by_cases cj : j = i
    · subst cj; rw [ep]; omega
    · exact hq h0 j (by omega) h2
theorem law_t {b t : List Int} (h : Good b t) : Ev (fun k => laws_FnCoarse.l0 k b t (co b t) (fz b t) (b.length : Int) 0) true := by
  have bl := h.bl
  have tl := h.tl
  have cl := co_len b t
  have fl := fz_len b t
  have main := down (n := 64) (P := fun i => Ev (fun k => laws_FnCoarse.l0 k b t (co b t) (fz b t) (b.length : Int) (i : Int)) true) ?_ ?_
  · exact main
  · refine Ev.step (fun k => rfl) (evneg (by omega) ?_)
    have e1 := good_true (fz_good h)
    obtain ⟨q, e2, hq⟩ := wInts_t (co (fz b t) t) (co b t) (by rw [co_len, co_len]) (by rw [co_len]; omega)
    obtain ⟨c, e3, hc⟩ := clips_t h
    refine Ev.bind e1 (Ev.bind e2 ?_)
    cases q with
    | true => exact evpos rfl (Ev.now _)
    | false =>
      refine evneg Bool.false_ne_true ?_
      cases c with
      | true => exact Ev.bind e3 (Ev.now _)
      | false => exact absurd (hq (hc rfl)) Bool.false_ne_true
  · intro i hi ih
    obtain ⟨b0, b1⟩ := h.b hi
    obtain ⟨t0, t1⟩ := h.t hi
    obtain ⟨p, ep, c0, c1, p0, p1, d0, d1, _⟩ := cz_facts _ _ b0 b1 t0 t1
    have ew : wrap64 (rd (co b t) (i : Int) * rd t (i : Int)) = p := by rw [rd_nat, rd_nat, co_get b t i hi, ep, w64 (by omega) (by omega)]
    have ef : rd (fz b t) (i : Int) = mx (-32768) (mn 32767 p) := by rw [rd_nat, fz_get b t i hi, ep]
    have fb := clip_bd p
    have wd : wrap64 (mx (-32768) (mn 32767 p) - b.getD i 0) = mx (-32768) (mn 32767 p) - b.getD i 0 := w64 (by omega) (by omega)
    have fp := clip_id p
    generalize mx (-32768) (mn 32767 p) = v at *
    have next : Ev (fun k => laws_FnCoarse.l0 k b t (co b t) (fz b t) (b.length : Int) (wrap64 ((i : Int) + 1))) true := by rw [w64s (by omega)]; exact ih
    refine Ev.step (fun k => rfl) (evpos (by omega) (evpos (by omega) (evpos (by omega) (evpos (by omega) ?_))))
    rw [ew, ef, rd_nat b i, wd]
    by_cases c : v - b.getD i 0 < 0
    · refine evpos c (evpos (by omega) (evpos (by omega) ?_))
      by_cases h2 : p ≤ 32767
      · refine evpos h2 ?_
        by_cases h1 : p ≥ -32768
        · have := fp h1 h2
          subst this
          refine evpos h1 (evneg ?_ next)
          rw [rd_nat t i, w64 (n := -(v - b.getD i 0)) (by omega) (by omega), w64 (by omega) (by omega)]
          omega
        · exact evneg h1 next
      · exact evneg h2 next
    · refine evneg c (evpos (by omega) (evpos (by omega) ?_))
      by_cases h2 : p ≤ 32767
      · refine evpos h2 ?_
        by_cases h1 : p ≥ -32768
        · have := fp h1 h2
          subst this
          refine evpos h1 (evneg ?_ next)
          rw [rd_nat t i, w64 (by omega) (by omega)]
          omega
        · exact evneg h1 next
      · exact evneg h2 next
theorem FnCoarse : laws_FnCoarse.Pure := by
  intro l _ _ hb
  refine Ev.rounds ?_
  by_cases c : (l.length : Int) > 1048576
  · exact evpos c (Ev.now _)
  obtain ⟨b, t, e, bl, tl⟩ := draw_t (bytel hb c)
  obtain ⟨q, g1, g2, g3, g4⟩ := block_both b (by omega)
  obtain ⟨q', k1, k2, k3⟩ := scale_both t (by omega)
  have empty : Ev (fun k => impl_Coarse.f k b t) [] → Ev (fun k => spec_Coarse.f k b t) [] → Ev (fun k => laws_FnCoarse.f k l) true := by
    intro h1 h2
    obtain ⟨r, e2, hr⟩ := wInts_t [] [] rfl (by simp)
    obtain rfl := hr rfl
    exact evneg c (Ev.bind e (Ev.bind h1 (Ev.bind h2 (Ev.bind e2 (evpos rfl (evpos (by decide) (Ev.now _)))))))
  cases q with
  | false => exact empty (Ev.bind g1 (evneg Bool.false_ne_true (Ev.step (fun k => rfl) (Ev.now _)))) (Ev.bind g2 (evneg Bool.false_ne_true (Ev.now _)))
  | true =>
    cases q' with
    | false => exact empty (Ev.bind g1 (evpos rfl (Ev.bind k1 (Ev.step (fun k => rfl) (Ev.now _))))) (Ev.bind g2 (evpos rfl (Ev.bind k2 (evneg Bool.false_ne_true (Ev.now _)))))
    | true =>
      have h : Good b t := ⟨(g3 rfl).1, (k3 rfl).1, (g3 rfl).2, (k3 rfl).2⟩
      have h1 : Ev (fun k => impl_Coarse.f k b t) (co b t) := good_true h
      have h2 : Ev (fun k => spec_Coarse.f k b t) (co b t) := Ev.bind g2 (evpos rfl (Ev.bind k2 (evpos rfl (Ev.bind (coarse_spec h) (Ev.now _)))))
      have cl := co_len b t
      have fl := fz_len b t
      obtain ⟨r, e2, hr⟩ := wInts_t (co b t) (co b t) rfl (by omega)
      obtain rfl := hr rfl
      exact evneg c (Ev.bind e (Ev.bind h1 (Ev.bind h2 (Ev.bind e2 (evpos rfl (evneg (by omega) (Ev.bind (fine_t h) (evpos (by omega) (law_t h)))))))))
end Go.Proofs.Ytggokppfhkebkaa.Pure

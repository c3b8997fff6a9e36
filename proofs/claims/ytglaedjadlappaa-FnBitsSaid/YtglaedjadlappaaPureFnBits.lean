/- FnBits: for every list of bytes that the draws are made of (at most 1048576 bytes, else the law is true at once), the drawn fields are packed in both orders as the reference packs them, are taken again one behind the other, and nothing is left but what fills the last byte. -/
import Derived.Test.YtglaedjadlappaaPFnBitsx0
import Derived.Test.YtglaedjadlappaaPFnBitsx1
import Derived.Test.YtglaedjadlappaaPFnBitsx2
import Derived.Test.YtglaedjadlappaaPFnBitsx3
import Derived.Test.YtglaedjadlappaaPFnBitsx4
import Derived.Test.YtglaedjadlappaaPFnBitsx5
import Derived.Test.YtglaedjadlappaaPFnBitsx6
import Derived.Test.YtglaedjadlappaaPFnBitsx7
import Derived.Test.YtglaedjadlappaaPFnBitsx8
import Derived.Test.YtglaedjadlappaaK
import Derived.Laws.Bits64b
namespace Go.Proofs.Ytglaedjadlappaa.Pure
open Go.RowKit Go.Proofs.Ytglaedjadlappaa.PFnBits Go.Proofs.Ytglaedjadlappaa.K Go.Proofs.YtglaedjadlappaaW.PrintWords Go.Proofs.YtglaedjadlappaaW.PrintLast Go.Proofs.YtglaedjadlappaaW.PrintMore

theorem rdT86 (l : List S86) (i : Nat) : rd_T86 l (i : Int) = l.getD i z86 := by simp [rd_T86]
/-- The bytes that a cursor reads. -/
structure ByteL (l : List Int) : Prop where
  len : l.length ≤ 1048576
  bd : ∀ x ∈ l, 0 ≤ x ∧ x ≤ 255
theorem bytel {l : List Int} (h : ∀ x ∈ l, (Lit.int .u8 x).wf = true) (hl : ¬ (l.length : Int) > 1048576) : ByteL l := ⟨by omega, fun x hx => wfb (h x hx)⟩
theorem rd_byte {l : List Int} (h : ByteL l) {i : Int} (h0 : 0 ≤ i) (h1 : i < l.length) : 0 ≤ rd l i ∧ rd l i ≤ 255 := by
  obtain ⟨j, rfl⟩ : ∃ j : Nat, i = (j : Int) := ⟨i.toNat, by omega⟩
  rw [rd_nat, getD_lt (show j < l.length by omega)]
  exact h.bd _ (List.getElem_mem _)
theorem and255 (x : Int) : 0 ≤ Go.bits .and .u64 x 255 ∧ Go.bits .and .u64 x 255 ≤ 255 := by
  have e : Go.bits .and .u64 x 255 = IntKind.u64.wrap ((BitVec.ofInt 64 x &&& BitVec.ofInt 64 255).toNat : Int) := rfl
  have h : (BitVec.ofInt 64 x &&& BitVec.ofInt 64 255).toNat ≤ 255 := by
    rw [BitVec.toNat_and]; exact Nat.and_le_right
  rw [e, IntKind.wrap_u64]
  omega
theorem w255 {x : Int} (h : 0 ≤ x ∧ x ≤ 255) : wrap64 x = x := w64 (by omega) (by omega)
theorem next_t {l : List Int} (hl : ByteL l) (a s : Int) (h0 : 0 ≤ a) (h1 : a ≤ 2000000000000) : ∃ v s', spec_l1Cur_next.f l a s = some (v, a + 1, s') ∧ 0 ≤ v ∧ v ≤ 255 := by
  unfold spec_l1Cur_next.f
  rw [show wrap64 (a + 1) = a + 1 from w64 (by omega) (by omega)]
  by_cases c : a < (l.length : Int)
  · rw [if_pos c, if_pos h0, if_pos (by omega)]
    have := rd_byte hl h0 c
    exact ⟨_, _, rfl, by rw [w255 this]; exact this.1, by rw [w255 this]; exact this.2⟩
  · rw [if_neg c, if_neg (by omega)]
    refine ⟨_, _, rfl, ?_, ?_⟩
    · rw [w255 (and255 _)]; exact (and255 _).1
    · rw [w255 (and255 _)]; exact (and255 _).2
theorem pick_t {l : List Int} (hl : ByteL l) (a s n : Int) (hn : 1 ≤ n) (h0 : 0 ≤ a) (h1 : a ≤ 1000000000000) : ∃ r a' s', spec_l1Cur_pick.f l a s n = some (r, a', s') ∧ 0 ≤ r ∧ r < n ∧ a ≤ a' ∧ a' ≤ a + 3 := by
  unfold spec_l1Cur_pick.f
  by_cases c : n ≤ 1
  · rw [if_pos c]
    exact ⟨0, a, s, rfl, by omega, by omega, by omega, by omega⟩
  rw [if_neg c]
  have nz : ¬ n = 0 := by omega
  obtain ⟨v, s1, e1, v0, v1⟩ := next_t hl a s h0 (by omega)
  rw [e1, Option.bind_some]
  have fin : ∀ x : Int, 0 ≤ x → 0 ≤ Int.tmod x n ∧ Int.tmod x n < n := fun x hx => ⟨Int.tmod_nonneg _ hx, Int.tmod_lt_of_pos _ (by omega)⟩
  by_cases c2 : n > 200
  · rw [if_pos c2]
    obtain ⟨u, s2, e2, u0, u1⟩ := next_t hl (a + 1) s1 (by omega) (by omega)
    simp only [e2, Option.bind_some]
    rw [w64 (n := v * 256) (by omega) (by omega), w64 (n := v * 256 + u) (by omega) (by omega)]
    by_cases c3 : n > 50000
    · rw [if_pos c3]
      obtain ⟨t, s3, e3, t0, t1⟩ := next_t hl (a + 1 + 1) s2 (by omega) (by omega)
      simp only [e3, Option.bind_some]
      rw [if_neg nz, w64 (n := (v * 256 + u) * 256) (by omega) (by omega), w64 (n := (v * 256 + u) * 256 + t) (by omega) (by omega)]
      exact ⟨_, _, _, rfl, (fin _ (by omega)).1, (fin _ (by omega)).2, by omega, by omega⟩
    · rw [if_neg c3, if_neg nz]
      exact ⟨_, _, _, rfl, (fin _ (by omega)).1, (fin _ (by omega)).2, by omega, by omega⟩
  · rw [if_neg c2, if_neg (by omega), if_neg nz]
    exact ⟨_, a + 1, s1, rfl, (fin _ (by omega)).1, (fin _ (by omega)).2, by omega, by omega⟩
theorem one_t {l : List Int} (hl : ByteL l) (a s n : Int) (hn : 1 ≤ n) (h0 : 0 ≤ a) (h1 : a ≤ 1000000000000) : ∃ (b : Bool) (a' s' : Int), spec_l1Cur_one.f l a s n = some (b, a', s') ∧ a ≤ a' ∧ a' ≤ a + 3 := by
  obtain ⟨r, a', s', e, _, _, h2, h3⟩ := pick_t hl a s n hn h0 h1
  unfold spec_l1Cur_one.f
  rw [e]
  exact ⟨_, _, _, rfl, h2, h3⟩
theorem wrap_u (x : Int) : 0 ≤ IntKind.u64.wrap x ∧ IntKind.u64.wrap x < 18446744073709551616 := by rw [IntKind.wrap_u64]; omega
theorem wide_t {l : List Int} (hl : ByteL l) (a s : Int) (h0 : 0 ≤ a) (h1 : a ≤ 1000000000) : ∃ v a' s' : Int, Ev (fun k => spec_l1Cur_wide.f k l a s) (v, a', s') ∧ 0 ≤ v ∧ v < 18446744073709551616 ∧ a ≤ a' ∧ a' ≤ a + 11 := by
  obtain ⟨r, a1, s1, e1, r0, r1, p1, q1⟩ := pick_t hl a s 9 (by omega) h0 (by omega)
  obtain ⟨n, rfl⟩ : ∃ n : Nat, r = (n : Int) := ⟨r.toNat, by omega⟩
  have main : ∀ (n : Nat) (v a s : Int), n ≤ 8 → 0 ≤ v → v < 18446744073709551616 → 0 ≤ a → a + n ≤ 1000000100 → ∃ v' s' : Int, Ev (fun k => spec_l1Cur_wide.l0 k v (n : Int) l a s) (v', a + n, s') ∧ 0 ≤ v' ∧ v' < 18446744073709551616 := by
    intro n
    induction n with
    | zero =>
      intro v a s _ v0 v1 _ _
      exact ⟨v, s, Ev.step (fun k => rfl) (evneg (by omega) (by rw [show a + ((0 : Nat) : Int) = a by omega]; exact Ev.now _)), v0, v1⟩
    | succ n ih =>
      intro v a s hn v0 v1 h0 h1
      obtain ⟨x, s1, e1, x0, x1⟩ := next_t hl a s h0 (by omega)
      have hw := wrap_u (IntKind.u64.wrap (v * 256) + IntKind.u64.wrap x)
      obtain ⟨v', s', e, h⟩ := ih (IntKind.u64.wrap (IntKind.u64.wrap (v * 256) + IntKind.u64.wrap x)) (a + 1) s1 (by omega) hw.1 hw.2 (by omega) (by omega)
      refine ⟨v', s', Ev.step (fun k => rfl) (evpos (by omega) (evlet e1 ?_)), h⟩
      rw [show wrap64 (((n + 1 : Nat) : Int) - 1) = (n : Int) by rw [w64 (by omega) (by omega)]; omega]
      rw [show a + 1 + (n : Int) = a + ((n + 1 : Nat) : Int) by omega] at e
      exact e
  obtain ⟨v, s', e, v0, v1⟩ := main n 0 a1 s1 (by omega) (by omega) (by omega) (by omega) (by omega)
  exact ⟨v, a1 + n, s', evlet e1 e, v0, v1, by omega, by omega⟩
def Val (y : S86) : Prop := 0 ≤ y.f1 ∧ y.f1 < 18446744073709551616
theorem fields_t {l : List Int} (hl : ByteL l) (n : Nat) (hn : n ≤ 1000) (a s : Int) (h0 : 0 ≤ a) (h1 : a ≤ 100000) : ∃ (F : List S86) (a' s' : Int), Ev (fun k => spec_l1Cur_fields.f k l a s (n : Int)) (F, a', s') ∧ (∀ y ∈ F, Val y) ∧ F.length ≤ n ∧ 0 ≤ a' ∧ a' ≤ 1000000 := by
  have main := down (n := n) (P := fun i => ∀ (F : List S86) (a s : Int), (∀ y ∈ F, Val y) → F.length ≤ i → 0 ≤ a → a ≤ 100000 + 20 * i → ∃ (F' : List S86) (a' s' : Int), Ev (fun k => spec_l1Cur_fields.l0 k (n : Int) F (i : Int) l a s) (F', a', s') ∧ (∀ y ∈ F', Val y) ∧ F'.length ≤ n ∧ 0 ≤ a' ∧ a' ≤ 1000000) ?_ ?_
  · exact main [] a s (fun y hy => by cases hy) (Nat.le_refl 0) h0 (by omega)
  · intro F a s hF hl h0 h1
    exact ⟨F, a, s, Ev.step (fun k => rfl) (evneg (by omega) (Ev.now _)), hF, hl, h0, by omega⟩
  · intro i hi ih F a s hF hFl h0 h1
    obtain ⟨r1, a1, s1, e1, _, _, p1, q1⟩ := pick_t hl a s 14 (by omega) h0 (by omega)
    obtain ⟨b2, a2, s2, e2, p2, q2⟩ := one_t hl a1 s1 9 (by omega) (by omega) (by omega)
    have app : ∀ y : S86, Val y → ∀ z ∈ F ++ [y], Val z := by
      intro y hy z hz
      rcases List.mem_append.1 hz with hz | hz
      · exact hF z hz
      · obtain rfl := List.mem_singleton.1 hz; exact hy
    cases b2 with
    | true =>
      obtain ⟨r3, a3, s3, e3, _, _, p3, q3⟩ := pick_t hl a2 s2 68 (by omega) (by omega) (by omega)
      obtain ⟨v, a4, s4, e4, v0, v1, p4, q4⟩ := wide_t hl a3 s3 (by omega) (by omega)
      obtain ⟨F', a', s', e, h⟩ := ih (F ++ [(⟨wrap64 (r3 - 1), v⟩ : S86)]) a4 s4 (app _ ⟨v0, v1⟩) (by rw [List.length_append, List.length_singleton]; omega) (by omega) (by omega)
      refine ⟨F', a', s', Ev.step (fun k => rfl) (evpos (by omega) (evlet e1 (evlet e2 (evpos rfl (evlet e3 (Ev.bind e4 (evpos (by omega) ?_))))))), h⟩
      rw [w64s (by omega)]; exact e
    | false =>
      obtain ⟨v, a4, s4, e4, v0, v1, p4, q4⟩ := wide_t hl a2 s2 (by omega) (by omega)
      obtain ⟨F', a', s', e, h⟩ := ih (F ++ [(⟨r1, v⟩ : S86)]) a4 s4 (app _ ⟨v0, v1⟩) (by rw [List.length_append, List.length_singleton]; omega) (by omega) (by omega)
      refine ⟨F', a', s', Ev.step (fun k => rfl) (evpos (by omega) (evlet e1 (evlet e2 (evneg Bool.false_ne_true (Ev.bind e4 (evpos (by omega) ?_)))))), h⟩
      rw [w64s (by omega)]; exact e
theorem size_t (l : List Int) (hl : l.length ≤ 1048576) : ∃ n : Nat, spec_l1Size.f l 6 60 = some (n : Int) ∧ n ≤ 60 := by
  have e : wrap64 ((l.length : Int) / 6) = (l.length : Int) / 6 := w64 (by omega) (by omega)
  unfold spec_l1Size.f
  rw [if_neg (by decide), e]
  by_cases c : (l.length : Int) / 6 > 60
  · rw [if_pos c]; exact ⟨60, rfl, by omega⟩
  · rw [if_neg c]; exact ⟨l.length / 6, rfl, by omega⟩
theorem l1Fields_t {l : List Int} (hl : ByteL l) : ∃ F : List S86, Ev (fun k => spec_l1Fields.f k l) F ∧ (∀ y ∈ F, Val y) := by
  obtain ⟨b1, a1, s1, e1, p1, q1⟩ := one_t hl 0 0 40 (by omega) (by omega) (by omega)
  cases b1 with
  | true =>
    obtain ⟨r2, a2, s2, e2, x2, y2, p2, q2⟩ := pick_t hl a1 s1 3 (by omega) (by omega) (by omega)
    have w : wrap64 (wrap64 (20000 + r2) - 1) = 20000 + r2 - 1 := by rw [w64 (n := 20000 + r2) (by omega) (by omega), w64 (by omega) (by omega)]
    refine ⟨List.replicate (20000 + r2 - 1).toNat z86, evlet e1 (evpos rfl (evlet e2 ?_)), fun y hy => by rw [List.eq_of_mem_replicate hy]; exact ⟨by decide, by decide⟩⟩
    simp only [w]
    exact evpos (by omega) (evpos (by omega) (Ev.now _))
  | false =>
    obtain ⟨n, e2, hn⟩ := size_t l hl.len
    have w1 : wrap64 (1 + (n : Int)) = ((n + 1 : Nat) : Int) := by rw [w64 (by omega) (by omega)]; omega
    obtain ⟨F, a3, s3, e3, hF, hFl, p3, q3⟩ := fields_t hl (n + 1) (by omega) a1 s1 (by omega) (by omega)
    have main := down (n := F.length) (P := fun i => ∀ (G : List S86) (a s : Int), G.length = F.length → (∀ y ∈ G, Val y) → 0 ≤ a → a ≤ 1000000 + 3 * i → ∃ G' : List S86, Ev (fun k => spec_l1Fields.l0 k G (F.length : Int) (i : Int) l a s) G' ∧ (∀ y ∈ G', Val y)) ?_ ?_
    · obtain ⟨G, e, hG⟩ := main F a3 s3 rfl hF p3 (by omega)
      refine ⟨G, evlet e1 (evneg Bool.false_ne_true (evlet e2 ?_)), hG⟩
      rw [w1]
      exact Ev.bind e3 e
    · intro G a s hGl hG h0 h1
      exact ⟨G, Ev.step (fun k => rfl) (evneg (by omega) (Ev.now _)), hG⟩
    · intro i hi ih G a s hGl hG h0 h1
      have er : rd_T86 G (i : Int) = G[i] := by rw [rdT86, getD_lt]
      have hgi := hG _ (List.getElem_mem (show i < G.length by omega))
      have j1 : ∀ b : Bool, ∃ G' : List S86, Ev (fun k => spec_l1Fields.j1 k G (i : Int) (F.length : Int) (i : Int) b l a s) G' ∧ (∀ y ∈ G', Val y) := by
        intro b
        cases b with
        | false =>
          obtain ⟨G', e, h⟩ := ih G a s hGl hG h0 (by omega)
          refine ⟨G', Ev.step (fun k => rfl) ?_, h⟩
          simp only [spec_l1Fields.j1, Bool.false_eq_true, if_false]
          rw [w64s (by omega)]; exact e
        | true =>
          obtain ⟨b2, a2, s2, e2, p2, q2⟩ := one_t hl a s 4 (by omega) h0 (by omega)
          cases b2 with
          | true =>
            obtain ⟨G', e, h⟩ := ih G a2 s2 hGl hG (by omega) (by omega)
            refine ⟨G', Ev.step (fun k => rfl) ?_, h⟩
            simp only [spec_l1Fields.j1, if_true]
            rw [w64s (by omega)]; exact evlet e2 (evpos rfl e)
          | false =>
            obtain ⟨G', e, h⟩ := ih (G.set i ⟨3, (G[i]).f1⟩) a2 s2 (by rw [List.length_set]; exact hGl) (by
              intro y hy
              rcases List.mem_or_eq_of_mem_set hy with hy | rfl
              · exact hG y hy
              · exact hgi) (by omega) (by omega)
            refine ⟨G', Ev.step (fun k => rfl) ?_, h⟩
            simp only [spec_l1Fields.j1, if_true]
            rw [w64s (by omega), er, Int.toNat_natCast]; exact evlet e2 (evneg Bool.false_ne_true (evpos (by omega) (evpos (by omega) e)))
      by_cases c : (rd_T86 G (i : Int)).f0 < 0
      · obtain ⟨G', e, h⟩ := j1 true
        exact ⟨G', Ev.step (fun k => rfl) (evpos (by omega) (evpos (by omega) (evpos (by omega) (evpos c e)))), h⟩
      · obtain ⟨G', e, h⟩ := j1 (decide ((rd_T86 G (i : Int)).f0 > 64))
        exact ⟨G', Ev.step (fun k => rfl) (evpos (by omega) (evpos (by omega) (evpos (by omega) (evneg c e)))), h⟩
theorem uw (n : Int) (h0 : 0 ≤ n) (h1 : n < 18446744073709551616) : IntKind.u64.wrap n = n := by rw [IntKind.wrap_u64]; omega
theorem shr_u (x b : Nat) (hb : b ≤ 64) : shr .u64 (x : Int) (b : Int) = ((x / 2 ^ b : Nat) : Int) := by
  unfold shr
  rw [Int.toNat_natCast, Nat.min_eq_left (show b ≤ IntKind.u64.bits from hb)]; simp
theorem or_bd (x y : Int) : 0 ≤ Go.bits .or .u8 x y ∧ Go.bits .or .u8 x y ≤ 255 := by
  have e : Go.bits .or .u8 x y = IntKind.u8.wrap ((BitVec.ofInt 8 x ||| BitVec.ofInt 8 y).toNat : Int) := rfl
  rw [e, IntKind.wrap_u8]; omega
theorem or_zero (x : Int) (h0 : 0 ≤ x) (h1 : x ≤ 255) : Go.bits .or .u8 x 0 = x := by
  obtain ⟨a, rfl⟩ : ∃ a : Nat, x = (a : Int) := ⟨x.toNat, by omega⟩
  have := (bits_nat .u8 8 (by decide) wraps_u8 a 0 (by omega) (by decide)).2
  rw [Nat.or_zero] at this
  exact this
theorem shl_zero (p : Int) : shl .u8 0 p = 0 := by unfold shl; rw [Int.zero_mul]; rfl
/-- The bytes before the next bit is put. -/
def ext (l : List Int) (n : Nat) : List Int := if n % 8 = 0 then l ++ [0] else l
def pos (hi : Bool) (n : Nat) : Nat := if hi = true then 7 - n % 8 else n % 8
def put1 (hi : Bool) (m : List Int) (n b : Nat) : List Int := m.set (n / 8) (Go.bits .or .u8 (m.getD (n / 8) 0) (shl .u8 (b : Int) (pos hi n : Int)))
def stp (hi : Bool) (l : List Int) (n b : Nat) : List Int := put1 hi (ext l n) n b
structure Inv (l : List Int) (n : Nat) : Prop where
  len : l.length = (n + 7) / 8
  bd : ∀ x ∈ l, 0 ≤ x ∧ x ≤ 255
theorem ext_len {l : List Int} {n : Nat} (h : Inv l n) : (ext l n).length = n / 8 + 1 := by
  have := h.len
  unfold ext
  split
  · rw [List.length_append, List.length_singleton]; omega
  · omega
theorem ext_bd {l : List Int} {n : Nat} (h : Inv l n) : ∀ x ∈ ext l n, 0 ≤ x ∧ x ≤ 255 := by
  intro x hx
  unfold ext at hx
  split at hx
  · rcases List.mem_append.1 hx with hx | hx
    · exact h.bd x hx
    · obtain rfl := List.mem_singleton.1 hx; omega
  · exact h.bd x hx
theorem stp_inv {l : List Int} {n : Nat} (h : Inv l n) (hi : Bool) (b : Nat) : Inv (stp hi l n b) (n + 1) := by
  refine ⟨?_, ?_⟩
  · unfold stp put1; rw [List.length_set, ext_len h]; omega
  · intro x hx
    unfold stp put1 at hx
    rcases List.mem_or_eq_of_mem_set hx with hx | rfl
    · exact ext_bd h x hx
    · exact or_bd _ _
theorem set_self (m : List Int) (i : Nat) : m.set i (m.getD i 0) = m := by
  apply List.ext_getElem
  · simp
  · intro j h1 h2
    rw [List.getElem_set]
    by_cases c : i = j
    · subst c; rw [if_pos rfl, getD_lt h2]
    · rw [if_neg c]
theorem tm8 (n : Nat) : Int.tmod (n : Int) 8 = ((n % 8 : Nat) : Int) := (Int.ofNat_tmod n 8).symm
theorem td8 (n : Nat) (hn : n ≤ 2000000) : wrap64 (Int.tdiv (n : Int) 8) = ((n / 8 : Nat) : Int) := by
  rw [show Int.tdiv (n : Int) 8 = ((n / 8 : Nat) : Int) from (Int.ofNat_tdiv n 8).symm]; exact w64 (by omega) (by omega)
theorem w7 (n : Nat) : wrap64 (7 - ((n % 8 : Nat) : Int)) = ((7 - n % 8 : Nat) : Int) := by rw [w64 (by omega) (by omega)]; omega
theorem u7 (n : Nat) : IntKind.u64.wrap (7 - IntKind.u64.wrap ((n % 8 : Nat) : Int)) = ((7 - n % 8 : Nat) : Int) := by
  rw [uw ((n % 8 : Nat) : Int) (by omega) (by omega), uw _ (by omega) (by omega)]; omega
theorem and1 (a : Nat) (ha : a < 18446744073709551616) : Go.bits .and .u64 (a : Int) 1 = ((a % 2 : Nat) : Int) := by
  have := bits_and_u64_nat a 1 ha (by decide)
  rw [Nat.and_one_is_mod] at this
  exact this
theorem j0_spec (hi : Bool) (m : List Int) (n b : Nat) (hb : b ≤ 1) (hn : n ≤ 2000000) (hm : n / 8 < m.length) (bd : ∀ x ∈ m, 0 ≤ x ∧ x ≤ 255) : Ev (fun k => spec_l1Sink_bit.j0 k (b : Int) hi m (n : Int)) (hi, put1 hi m n b, ((n + 1 : Nat) : Int)) := by
  have f0 : (0 : Int) ≤ ((n / 8 : Nat) : Int) := by omega
  have f1 : (0 : Int) ≤ ((n % 8 : Nat) : Int) := by omega
  have f2 : (0 : Int) ≤ ((7 - n % 8 : Nat) : Int) := by omega
  have f3 : ((n / 8 : Nat) : Int) < (m.length : Int) := by omega
  have um := uw ((n % 8 : Nat) : Int) f1 (by omega)
  refine Ev.step (fun k => rfl) ?_
  simp only [spec_l1Sink_bit.j0]
  rw [tm8, td8 n hn, u7, um, w64s (by omega)]
  by_cases c : b = 1
  · subst c
    refine evpos (by decide) ?_
    unfold put1 pos
    cases hi with
    | true =>
      refine evpos rfl (evpos f0 (evpos f3 (evpos f2 ?_)))
      rw [if_pos rfl, Int.toNat_natCast, rd_nat]; exact Ev.now _
    | false =>
      refine evneg (by decide) (evpos f0 (evpos f3 (evpos f1 ?_)))
      rw [if_neg (by decide), Int.toNat_natCast, rd_nat]; exact Ev.now _
  · obtain rfl : b = 0 := by omega
    have e : put1 hi m n 0 = m := by
      unfold put1
      have x := bd (m.getD (n / 8) 0) (by rw [getD_lt hm]; exact List.getElem_mem _)
      rw [show ((0 : Nat) : Int) = 0 from rfl, shl_zero, or_zero _ x.1 x.2, set_self]
    rw [e]
    exact evneg (by decide) (Ev.now _)
theorem bit_spec (hi : Bool) (l : List Int) (n b : Nat) (h : Inv l n) (hn : n ≤ 2000000) (hb : b ≤ 1) : Ev (fun k => spec_l1Sink_bit.f k hi l (n : Int) (b : Int)) (hi, stp hi l n b, ((n + 1 : Nat) : Int)) := by
  have el := ext_len h
  have ll := h.len
  have j := j0_spec hi (ext l n) n b hb hn (by omega) (ext_bd h)
  unfold stp
  by_cases c : n % 8 = 0
  · have e : ext l n = l ++ [0] := by unfold ext; rw [if_pos c]
    rw [e] at j ⊢
    exact evpos (by rw [tm8]; omega) (evpos (by omega) j)
  · have e : ext l n = l := by unfold ext; rw [if_neg c]
    rw [e] at j ⊢
    exact evneg (by rw [tm8]; omega) j
theorem val_lt (v i : Nat) (hv : v < 18446744073709551616) : v / 2 ^ i < 18446744073709551616 := Nat.lt_of_le_of_lt (Nat.div_le_self _ _) hv
theorem put_high (l : List Int) (n v m : Nat) (h : Inv l n) (hn : n ≤ 1300000) (hm : m ≤ 64) (hv : v < 18446744073709551616) :
    ∃ l' : List Int, Inv l' (n + m) ∧ Ev (fun k => spec_l1Sink_put.f k true l (n : Int) (m : Int) (v : Int)) (true, l', ((n + m : Nat) : Int)) := by
  have main := down (n := m) (P := fun i => ∀ l : List Int, Inv l (n + i) → ∃ l' : List Int, Inv l' (n + m) ∧ Ev (fun k => spec_l1Sink_put.l0 k (m : Int) (v : Int) (i : Int) true l ((n + i : Nat) : Int)) (true, l', ((n + m : Nat) : Int))) ?_ ?_
  · exact main l h
  · intro l h
    exact ⟨l, h, Ev.step (fun k => rfl) (evneg (by omega) (Ev.now _))⟩
  · intro i hi ih l h
    obtain ⟨j, hj⟩ : ∃ j : Nat, j = m - 1 - i := ⟨_, rfl⟩
    have j64 : j ≤ 64 := by omega
    have b := bit_spec true l (n + i) (v / 2 ^ j % 2) h (by omega) (by omega)
    obtain ⟨l', g1, g2⟩ := ih _ (stp_inv h true (v / 2 ^ j % 2))
    have wj : wrap64 (wrap64 ((m : Int) - 1) - (i : Int)) = (j : Int) := by rw [w64 (n := (m : Int) - 1) (by omega) (by omega), w64 (by omega) (by omega)]; omega
    have ui := uw (j : Int) (Int.natCast_nonneg j) (Int.lt_of_le_of_lt (Int.ofNat_le.2 j64) (by decide))
    have sh := shr_u v j j64
    have an := and1 (v / 2 ^ j) (val_lt v j hv)
    refine ⟨l', g1, ?_⟩
    refine Ev.step (fun k => rfl) ?_
    simp only [spec_l1Sink_put.l0, if_true]
    rw [wj, ui, sh, an]
    refine evpos (Int.ofNat_lt.2 hi) (evpos (Int.natCast_nonneg j) (Ev.bind b ?_))
    rw [w64s (Nat.le_trans (Nat.le_of_lt hi) (Nat.le_trans hm (by decide)))]; exact g2
theorem bit_impl (hi : Bool) (l : List Int) (n a : Nat) (h : Inv l n) (hn : n ≤ 2000000) (ha : a < 18446744073709551616) : impl_bitsOut_bit.f l (n : Int) hi (a : Int) = some (stp hi l n (a % 2), ((n + 1 : Nat) : Int), hi) := by
  have el := ext_len h
  have ll := h.len
  have a2 : ((a % 2 : Nat) : Int) % 256 = ((a % 2 : Nat) : Int) := by omega
  have f0 : (0 : Int) ≤ ((n / 8 : Nat) : Int) := by omega
  have f1 : (0 : Int) ≤ ((n % 8 : Nat) : Int) := by omega
  have f2 : (0 : Int) ≤ ((7 - n % 8 : Nat) : Int) := by omega
  unfold impl_bitsOut_bit.f
  rw [tm8, td8 n hn, w7, and1 a ha, a2, w64s (by omega)]
  unfold stp put1 pos ext at *
  by_cases c : n % 8 = 0
  · have c1 : ((n % 8 : Nat) : Int) = 0 := by rw [c]; rfl
    rw [if_pos c] at el
    have f3 : ((n / 8 : Nat) : Int) < ((l ++ [0]).length : Int) := by rw [el]; omega
    rw [if_pos c1, if_pos (by omega), Option.bind_some, if_pos c]
    cases hi with
    | true => rw [if_pos rfl, if_pos f0, if_pos f3, if_pos f2, if_pos rfl, Int.toNat_natCast, rd_nat]
    | false => rw [if_neg (by decide), if_pos f0, if_pos f3, if_pos f1, if_neg (by decide), Int.toNat_natCast, rd_nat]
  · have c1 : ¬ ((n % 8 : Nat) : Int) = 0 := by omega
    rw [if_neg c] at el
    have f3 : ((n / 8 : Nat) : Int) < (l.length : Int) := by rw [el]; omega
    rw [if_neg c1, if_neg c]
    cases hi with
    | true => rw [if_pos rfl, if_pos f0, if_pos f3, if_pos f2, if_pos rfl, Int.toNat_natCast, rd_nat]
    | false => rw [if_neg (by decide), if_pos f0, if_pos f3, if_pos f1, if_neg (by decide), Int.toNat_natCast, rd_nat]
def Okf (y : S86) : Prop := (0 ≤ y.f0 ∧ y.f0 ≤ 64) ∧ 0 ≤ y.f1 ∧ y.f1 < 18446744073709551616
/-- The checks ahead. -/
theorem good_both (hi : Bool) (F : List S86) (hl : F.length ≤ 20000) (hv : ∀ y ∈ F, 0 ≤ y.f1 ∧ y.f1 < 18446744073709551616) :
    ∃ q : Bool, Ev (fun k => impl_goodFields.l0 k F (F.length : Int) 0) q ∧ (q = true → (∀ y ∈ F, Okf y) ∧ ∀ r, Ev (fun k => spec_l1Pack.l1 k F (F.length : Int) 0 hi [] 0) r → Ev (fun k => spec_l1Pack.l0 k F hi F (F.length : Int) 0) r) ∧ (q = false → Ev (fun k => spec_l1Pack.l0 k F hi F (F.length : Int) 0) []) := by
  have m := down (n := F.length) (P := fun i => ∃ q : Bool, Ev (fun k => impl_goodFields.l0 k F (F.length : Int) (i : Int)) q ∧ (q = true → (∀ y ∈ F.drop i, Okf y) ∧ ∀ r, Ev (fun k => spec_l1Pack.l1 k F (F.length : Int) 0 hi [] 0) r → Ev (fun k => spec_l1Pack.l0 k F hi F (F.length : Int) (i : Int)) r) ∧ (q = false → Ev (fun k => spec_l1Pack.l0 k F hi F (F.length : Int) (i : Int)) [])) ?_ ?_
  · obtain ⟨q, h1, h2, h3⟩ := m
    exact ⟨q, h1, fun h => ⟨by simpa using (h2 h).1, (h2 h).2⟩, h3⟩
  · exact ⟨true, Ev.step (fun k => rfl) (evneg (by omega) (Ev.now _)), fun _ => ⟨fun y hy => by simp at hy, fun r hr => Ev.step (fun k => rfl) (evneg (by omega) hr)⟩, (fun h => by cases h)⟩
  · intro i hi' ⟨q, h1, h2, h3⟩
    have er : rd_T86 F (i : Int) = F[i] := by rw [rdT86, getD_lt hi']
    by_cases c1 : F[i].f0 < 0
    · refine ⟨false, Ev.step (fun k => rfl) (evpos (by omega) (evpos (by omega) (evpos (by omega) (evpos (by rw [er]; exact c1) (Ev.now _))))), (fun h => by cases h), fun _ => Ev.step (fun k => rfl) (evpos (by omega) (evpos (by omega) (evpos (by omega) (evpos (by rw [er]; exact c1) (Ev.now _)))))⟩
    by_cases c2 : F[i].f0 > 64
    · refine ⟨false, Ev.step (fun k => rfl) (evpos (by omega) (evpos (by omega) (evpos (by omega) (evneg (by rw [er]; exact c1) (evpos (by rw [er]; exact c2) (Ev.now _)))))), (fun h => by cases h), fun _ => Ev.step (fun k => rfl) (evpos (by omega) (evpos (by omega) (evpos (by omega) (evneg (by rw [er]; exact c1) (evpos (by rw [er]; exact c2) (Ev.now _))))))⟩
    refine ⟨q, Ev.step (fun k => rfl) (evpos (by omega) (evpos (by omega) (evpos (by omega) (evneg (by rw [er]; exact c1) (evneg (by rw [er]; exact c2) ?_))))), fun hq => ⟨?_, fun r hr => Ev.step (fun k => rfl) (evpos (by omega) (evpos (by omega) (evpos (by omega) (evneg (by rw [er]; exact c1) (evneg (by rw [er]; exact c2) ?_)))))⟩, fun hq => Ev.step (fun k => rfl) (evpos (by omega) (evpos (by omega) (evpos (by omega) (evneg (by rw [er]; exact c1) (evneg (by rw [er]; exact c2) ?_)))))⟩
    · rw [w64s (by omega)]; exact h1
    · intro y hy
      rw [List.drop_eq_getElem_cons hi'] at hy
      rcases List.mem_cons.1 hy with rfl | hy
      · exact ⟨⟨by omega, by omega⟩, hv _ (List.getElem_mem hi')⟩
      · exact (h2 hq).1 y hy
    · rw [w64s (by omega)]; exact (h2 hq).2 r hr
    · rw [w64s (by omega)]; exact h3 hq
/-- Bit k of bytes, in the one order or the other. -/
def tb (hi : Bool) (l : List Int) (k : Nat) : Bool := (l.getD (k / 8) 0).toNat.testBit (pos hi k)
theorem pos_le (hi : Bool) (n : Nat) : pos hi n ≤ 7 := by unfold pos; split <;> omega
theorem pos_inj {hi : Bool} {n k : Nat} (e : n / 8 = k / 8) : pos hi n = pos hi k ↔ n = k := by
  unfold pos; split <;> omega
theorem tb_ext (hi : Bool) (l : List Int) (n k : Nat) : tb hi (ext l n) k = tb hi l k := by
  unfold tb ext
  split
  · have e : (l ++ [0]).getD (k / 8) 0 = l.getD (k / 8) 0 := by
      rw [List.getD_eq_getElem?_getD, List.getD_eq_getElem?_getD, List.getElem?_append]
      split
      · rfl
      · rw [List.getElem?_eq_none (l := l) (by omega)]
        cases h : k / 8 - l.length with
        | zero => rfl
        | succ j => rfl
    rw [e]
  · rfl
theorem or_u8 (a b : Nat) (ha : a < 256) (hb : b < 256) : Go.bits .or .u8 (a : Int) (b : Int) = ((a ||| b : Nat) : Int) := (bits_nat .u8 8 (by decide) wraps_u8 a b ha hb).2
theorem and_u8 (a b : Nat) (ha : a < 256) (hb : b < 256) : Go.bits .and .u8 (a : Int) (b : Int) = ((a &&& b : Nat) : Int) := (bits_nat .u8 8 (by decide) wraps_u8 a b ha hb).1
theorem pow7 {p : Nat} (hp : p ≤ 7) : 2 ^ p ≤ 128 := Nat.pow_le_pow_right (n := 2) (by decide) hp
theorem shl_b (b p : Nat) (hb : b ≤ 1) (hp : p ≤ 7) : shl .u8 (b : Int) (p : Int) = ((b * 2 ^ p : Nat) : Int) := by
  unfold shl
  rw [Int.toNat_natCast, Nat.min_eq_left (show p ≤ IntKind.u8.bits from Nat.le_trans hp (by decide)), show ((b : Int) * 2 ^ p) = ((b * 2 ^ p : Nat) : Int) by push_cast; rfl, IntKind.wrap_u8]
  have := pow7 hp
  have h2 : b * 2 ^ p ≤ 1 * 2 ^ p := Nat.mul_le_mul_right _ hb
  rw [Nat.one_mul] at h2
  generalize 2 ^ p = m at *
  generalize b * m = x at *
  omega
theorem tb_stp {l : List Int} {n : Nat} {hi : Bool} (h : Inv l n) {b : Nat} (hb : b ≤ 1) (k : Nat) : tb hi (stp hi l n b) k = (tb hi l k || (decide (k = n) && decide (b = 1))) := by
  have el := ext_len h
  rw [← tb_ext hi l n k]
  have eb := ext_bd h
  unfold stp put1 tb
  generalize ext l n = m at el eb
  by_cases c : n / 8 = k / 8
  · rw [← c, set_getD (by omega)]
    have hx := eb (m.getD (n / 8) 0) (by rw [getD_lt (by omega)]; exact List.getElem_mem _)
    obtain ⟨a, ha⟩ : ∃ a : Nat, m.getD (n / 8) 0 = (a : Int) := ⟨(m.getD (n / 8) 0).toNat, by omega⟩
    have hp := pos_le hi n
    have h2 : b * 2 ^ pos hi n ≤ 1 * 2 ^ pos hi n := Nat.mul_le_mul_right _ hb
    have h3 := pow7 hp
    rw [ha, shl_b b _ hb hp, or_u8 a _ (by omega) (by rw [Nat.one_mul] at h2; exact Nat.lt_of_le_of_lt (Nat.le_trans h2 h3) (by decide)), Int.toNat_natCast, Int.toNat_natCast, Nat.testBit_or]
    congr 1
    rcases Nat.le_one_iff_eq_zero_or_eq_one.1 hb with rfl | rfl
    · simp
    · rw [Nat.one_mul, Nat.testBit_two_pow]
      simp only [decide_true, Bool.and_true]
      rw [Bool.eq_iff_iff, decide_eq_true_iff, decide_eq_true_iff, pos_inj c]
      exact ⟨fun e => e.symm, fun e => e.symm⟩
  · rw [show decide (k = n) = false from decide_eq_false (fun e => c (by rw [e])), Bool.false_and, Bool.or_false]
    rw [List.getD_eq_getElem?_getD, List.getElem?_set_ne c, ← List.getD_eq_getElem?_getD]
structure InvT (hi : Bool) (l : List Int) (n : Nat) (f : Nat → Bool) : Prop where
  inv : Inv l n
  tell : ∀ k, tb hi l k = (decide (k < n) && f k)
theorem InvT.nil (hi : Bool) (f : Nat → Bool) : InvT hi [] 0 f := ⟨⟨rfl, fun x hx => by cases hx⟩, fun k => by
  rw [show decide (k < 0) = false from decide_eq_false (Nat.not_lt_zero k), Bool.false_and]
  exact Nat.zero_testBit _⟩
theorem stp_invT {hi : Bool} {l : List Int} {n : Nat} {f : Nat → Bool} (h : InvT hi l n f) {b : Nat} (hb : b ≤ 1) (hf : f n = decide (b = 1)) : InvT hi (stp hi l n b) (n + 1) f := by
  refine ⟨stp_inv h.inv hi b, fun k => ?_⟩
  rw [tb_stp h.inv hb k, h.tell k, ← hf]
  by_cases c : k = n
  · subst c
    simp
  · rw [show decide (k = n) = false from decide_eq_false c, Bool.false_and, Bool.or_false]
    congr 1
    rw [Bool.eq_iff_iff, decide_eq_true_iff, decide_eq_true_iff]
    omega
theorem dm2 (x p : Nat) : x / 2 ^ p % 2 = (x.testBit p).toNat := by
  rw [Nat.testBit_eq_decide_div_mod_eq]
  rcases Nat.mod_two_eq_zero_or_one (x / 2 ^ p) with h | h <;> rw [h] <;> rfl
theorem rdbit {hi : Bool} {l : List Int} (hb : ∀ x ∈ l, 0 ≤ x ∧ x ≤ 255) {k : Nat} (hk : k / 8 < l.length) : Go.bits .and .u8 (shr .u8 (rd l ((k / 8 : Nat) : Int)) ((pos hi k : Nat) : Int)) 1 = ((tb hi l k).toNat : Int) := by
  rw [rd_nat]
  unfold tb
  have hx := hb (l.getD (k / 8) 0) (by rw [getD_lt hk]; exact List.getElem_mem _)
  obtain ⟨a, ha⟩ : ∃ a : Nat, l.getD (k / 8) 0 = (a : Int) := ⟨(l.getD (k / 8) 0).toNat, by omega⟩
  have hp := pos_le hi k
  have hs : shr .u8 (a : Int) ((pos hi k : Nat) : Int) = ((a / 2 ^ pos hi k : Nat) : Int) := by
    unfold shr
    rw [Int.toNat_natCast, Nat.min_eq_left (show pos hi k ≤ IntKind.u8.bits from Nat.le_trans hp (by decide))]; simp
  have hq : a / 2 ^ pos hi k < 256 := Nat.lt_of_le_of_lt (Nat.div_le_self _ _) (by omega)
  rw [ha, hs, show (1 : Int) = ((1 : Nat) : Int) from rfl, and_u8 _ _ hq (by decide), Nat.and_one_is_mod, dm2, Int.toNat_natCast]
theorem or_u64 (a b : Nat) (ha : a < 18446744073709551616) (hb : b < 18446744073709551616) : Go.bits .or .u64 (a : Int) (b : Int) = ((a ||| b : Nat) : Int) := bits_or_u64_nat a b ha hb
theorem pow64 {i : Nat} (h : i ≤ 63) : 2 ^ i ≤ 9223372036854775808 := Nat.pow_le_pow_right (n := 2) (by decide) h
theorem pow65 {i : Nat} (h : i ≤ 64) : 2 ^ i ≤ 18446744073709551616 := Nat.pow_le_pow_right (n := 2) (by decide) h
theorem tn_le (b : Bool) : b.toNat ≤ 1 := by cases b <;> decide
theorem half_step (v m : Nat) (b : Bool) (hb : b = v.testBit m) : v / 2 ^ m = 2 * (v / 2 ^ (m + 1)) + b.toNat := by
  have h := dm2 v m
  rw [← hb] at h
  rw [Nat.pow_succ, ← Nat.div_div_eq_div_mul]
  generalize v / 2 ^ m = q at *
  omega
theorem or_two (a : Nat) (b : Bool) : 2 * a ||| b.toNat = 2 * a + b.toNat := by
  have := Nat.two_pow_add_eq_or_of_lt (i := 1) (b := b.toNat) (by have := tn_le b; omega) a
  rw [show 2 ^ 1 = 2 from rfl] at this
  exact this.symm
theorem hasBits_t (l : List Int) (n D : Nat) (hD : D ≤ 64) (hl : l.length ≤ 1000000000) (h : n + D ≤ 8 * l.length) : impl_hasBits.f l (n : Int) (D : Int) = some true := by
  unfold impl_hasBits.f
  rw [if_pos (by omega), if_pos (by omega), if_pos (by omega), w64 (n := 8 * (l.length : Int)) (by omega) (by omega), w64 (by omega) (by omega), decide_eq_true (by omega)]
theorem take_high_t {l : List Int} (hb : ∀ x ∈ l, 0 ≤ x ∧ x ≤ 255) (n D v : Nat) (hD : D ≤ 64) (hl : l.length ≤ 1000000000) (h : n + D ≤ 8 * l.length) (hv : v < 2 ^ D) (ht : ∀ i, i < D → tb true l (n + i) = v.testBit (D - 1 - i)) :
    Ev (fun k => impl_TakeHigh.f k l (n : Int) (D : Int)) (true, (v : Int), ((n + D : Nat) : Int)) := by
  refine evlet (hasBits_t l n D hD hl h) (evpos rfl ?_)
  have main := down (n := D) (P := fun i => Ev (fun k => impl_TakeHigh.l0 k l (n : Int) (D : Int) (i : Int) true ((v / 2 ^ (D - i) : Nat) : Int) ((n + D : Nat) : Int)) (true, (v : Int), ((n + D : Nat) : Int))) ?_ ?_
  · have e : wrap64 ((n : Int) + (D : Int)) = ((n + D : Nat) : Int) := by rw [w64 (by omega) (by omega)]; omega
    rw [Nat.sub_zero, Nat.div_eq_of_lt hv] at main
    simp only [e]
    exact main
  · rw [Nat.sub_self, Nat.pow_zero, Nat.div_one]
    exact Ev.step (fun k => rfl) (evneg (by omega) (Ev.now _))
  · intro i hi ih
    have e1 : wrap64 ((n : Int) + (i : Int)) = ((n + i : Nat) : Int) := by rw [w64 (by omega) (by omega)]; omega
    have e2 : wrap64 (Int.tdiv ((n + i : Nat) : Int) 8) = (((n + i) / 8 : Nat) : Int) := by
      rw [show Int.tdiv ((n + i : Nat) : Int) 8 = (((n + i) / 8 : Nat) : Int) from (Int.ofNat_tdiv (n + i) 8).symm]; exact w64 (by omega) (by omega)
    have e3 : wrap64 (7 - Int.tmod ((n + i : Nat) : Int) 8) = ((pos true (n + i) : Nat) : Int) := by
      rw [tm8, w7]; rfl
    have rb := rdbit (hi := true) hb (k := n + i) (by omega)
    have bn := tn_le (tb true l (n + i))
    have hs := half_step v (D - 1 - i) (tb true l (n + i)) (ht i hi)
    have f1 : D - 1 - i + 1 = D - i := by omega
    have f2 : D - (i + 1) = D - 1 - i := by omega
    rw [f1] at hs
    rw [f2] at ih
    have q0 : v / 2 ^ (D - i) < 9223372036854775808 := by
      have : v / 2 ^ (D - i) < 2 ^ i := by
        refine Nat.div_lt_of_lt_mul ?_
        rw [← Nat.pow_add, show D - i + i = D by omega]; exact hv
      exact Nat.lt_of_lt_of_le this (pow64 (by omega))
    have p0 : (0 : Int) ≤ (((n + i) / 8 : Nat) : Int) := Int.natCast_nonneg _
    have p1 : (((n + i) / 8 : Nat) : Int) < (l.length : Int) := Int.ofNat_lt.2 (by omega)
    have p2 : (0 : Int) ≤ ((pos true (n + i) : Nat) : Int) := Int.natCast_nonneg _
    refine Ev.step (fun k => rfl) (evpos (Int.ofNat_lt.2 hi) ?_)
    rw [e1, e2, e3, rb, w64s (by omega)]
    refine evpos p0 (evpos p1 (evpos p2 ?_))
    generalize v / 2 ^ (D - i) = q at *
    generalize tb true l (n + i) = b at *
    rw [show (q : Int) * 2 = ((2 * q : Nat) : Int) by push_cast; omega, uw _ (Int.natCast_nonneg _) (by omega), uw _ (Int.natCast_nonneg _) (by omega), or_u64 _ _ (by omega) (by omega), or_two, ← hs]
    exact ih
theorem take_low_t {l : List Int} (hb : ∀ x ∈ l, 0 ≤ x ∧ x ≤ 255) (n D v : Nat) (hD : D ≤ 64) (hl : l.length ≤ 1000000000) (h : n + D ≤ 8 * l.length) (hv : v < 2 ^ D) (ht : ∀ i, i < D → tb false l (n + i) = v.testBit i) :
    Ev (fun k => impl_TakeLow.f k l (n : Int) (D : Int)) (true, (v : Int), ((n + D : Nat) : Int)) := by
  refine evlet (hasBits_t l n D hD hl h) (evpos rfl ?_)
  have main := down (n := D) (P := fun i => Ev (fun k => impl_TakeLow.l0 k l (n : Int) (D : Int) (i : Int) true ((v % 2 ^ i : Nat) : Int) ((n + D : Nat) : Int)) (true, (v : Int), ((n + D : Nat) : Int))) ?_ ?_
  · have e : wrap64 ((n : Int) + (D : Int)) = ((n + D : Nat) : Int) := by rw [w64 (by omega) (by omega)]; omega
    rw [Nat.pow_zero, Nat.mod_one] at main
    simp only [e]
    exact main
  · rw [Nat.mod_eq_of_lt hv]
    exact Ev.step (fun k => rfl) (evneg (by omega) (Ev.now _))
  · intro i hi ih
    have e1 : wrap64 ((n : Int) + (i : Int)) = ((n + i : Nat) : Int) := by rw [w64 (by omega) (by omega)]; omega
    have e2 : wrap64 (Int.tdiv ((n + i : Nat) : Int) 8) = (((n + i) / 8 : Nat) : Int) := by
      rw [show Int.tdiv ((n + i : Nat) : Int) 8 = (((n + i) / 8 : Nat) : Int) from (Int.ofNat_tdiv (n + i) 8).symm]; exact w64 (by omega) (by omega)
    have e3 : Int.tmod ((n + i : Nat) : Int) 8 = ((pos false (n + i) : Nat) : Int) := by
      rw [tm8]; rfl
    have rb := rdbit (hi := false) hb (k := n + i) (by omega)
    have hs : v % 2 ^ (i + 1) = v % 2 ^ i + 2 ^ i * (v.testBit i).toNat := by rw [Nat.mod_pow_succ, dm2]
    rw [← ht i hi] at hs
    have p0 : (0 : Int) ≤ (((n + i) / 8 : Nat) : Int) := Int.natCast_nonneg _
    have p1 : (((n + i) / 8 : Nat) : Int) < (l.length : Int) := Int.ofNat_lt.2 (by omega)
    have p2 : (0 : Int) ≤ ((pos false (n + i) : Nat) : Int) := Int.natCast_nonneg _
    have p3 : (0 : Int) ≤ (i : Int) := Int.natCast_nonneg _
    have i64 : i ≤ 64 := by omega
    refine Ev.step (fun k => rfl) (evpos (Int.ofNat_lt.2 hi) ?_)
    rw [e1, e2, e3, rb, w64s (by omega)]
    refine evpos p0 (evpos p1 (evpos p2 (evpos p3 ?_)))
    have q0 : v % 2 ^ i < 2 ^ i := Nat.mod_lt _ (Nat.two_pow_pos i)
    have q1 := pow64 (i := i) (by omega)
    have bn := tn_le (tb false l (n + i))
    have sl : shl .u64 (IntKind.u64.wrap ((tb false l (n + i)).toNat : Int)) (i : Int) = ((2 ^ i * (tb false l (n + i)).toNat : Nat) : Int) := by
      rw [uw _ (Int.natCast_nonneg _) (by omega)]
      unfold shl
      rw [Int.toNat_natCast, Nat.min_eq_left (show i ≤ IntKind.u64.bits from i64), show (((tb false l (n + i)).toNat : Int) * 2 ^ i) = ((2 ^ i * (tb false l (n + i)).toNat : Nat) : Int) by push_cast; rw [Int.mul_comm]]
      refine uw _ (Int.natCast_nonneg _) ?_
      have : 2 ^ i * (tb false l (n + i)).toNat ≤ 2 ^ i * 1 := Nat.mul_le_mul_left _ bn
      omega
    rw [sl, or_u64 _ _ (by omega) (by have : 2 ^ i * (tb false l (n + i)).toNat ≤ 2 ^ i * 1 := Nat.mul_le_mul_left _ bn
                                      omega), Nat.or_comm, ← Nat.two_pow_add_eq_or_of_lt q0, Nat.add_comm (2 ^ i * _) (v % 2 ^ i), ← hs]
    exact ih
theorem put_high2 {f : Nat → Bool} (l : List Int) (n v m : Nat) (h : InvT true l n f) (hn : n ≤ 1300000) (hm : m ≤ 64) (hv : v < 18446744073709551616) (hf : ∀ i, i < m → f (n + i) = v.testBit (m - 1 - i)) :
    ∃ l' : List Int, InvT true l' (n + m) f ∧ Ev (fun k => spec_l1Sink_put.f k true l (n : Int) (m : Int) (v : Int)) (true, l', ((n + m : Nat) : Int)) ∧ Ev (fun k => impl_bitsOut_highFirst.f k l (n : Int) true (v : Int) (m : Int)) (l', ((n + m : Nat) : Int), true) := by
  have main := down (n := m) (P := fun i => ∀ l : List Int, InvT true l (n + i) f → ∃ l' : List Int, InvT true l' (n + m) f ∧ Ev (fun k => spec_l1Sink_put.l0 k (m : Int) (v : Int) (i : Int) true l ((n + i : Nat) : Int)) (true, l', ((n + m : Nat) : Int)) ∧ Ev (fun k => impl_bitsOut_highFirst.l0 k (v : Int) ((m : Int) - 1 - (i : Int)) l ((n + i : Nat) : Int) true) (l', ((n + m : Nat) : Int), true)) ?_ ?_
  · obtain ⟨l', g1, g2, g3⟩ := main l h
    refine ⟨l', g1, g2, ?_⟩
    have e : wrap64 ((m : Int) - 1) = (m : Int) - 1 - ((0 : Nat) : Int) := by rw [w64 (by omega) (by omega)]; omega
    show Ev (fun k => impl_bitsOut_highFirst.l0 k (v : Int) (wrap64 ((m : Int) - 1)) l (n : Int) true) _
    rw [e]; exact g3
  · intro l h
    exact ⟨l, h, Ev.step (fun k => rfl) (evneg (by omega) (Ev.now _)), Ev.step (fun k => rfl) (evneg (by omega) (Ev.now _))⟩
  · intro i hi ih l h
    have hfi := hf i hi
    obtain ⟨j, hj⟩ : ∃ j : Nat, j = m - 1 - i := ⟨_, rfl⟩
    rw [← hj, Nat.testBit_eq_decide_div_mod_eq] at hfi
    have j64 : j ≤ 64 := by omega
    have ej : (m : Int) - 1 - (i : Int) = (j : Int) := by omega
    have en : (m : Int) - 1 - ((i + 1 : Nat) : Int) = (j : Int) - 1 := by omega
    have b := bit_spec true l (n + i) (v / 2 ^ j % 2) h.inv (by omega) (by omega)
    have c := bit_impl true l (n + i) (v / 2 ^ j) h.inv (by omega) (val_lt v j hv)
    obtain ⟨l', g1, g2, g3⟩ := ih _ (stp_invT h (b := v / 2 ^ j % 2) (Nat.le_of_lt_succ (Nat.mod_lt _ (by decide))) hfi)
    have wj : wrap64 (wrap64 ((m : Int) - 1) - (i : Int)) = (j : Int) := by rw [w64 (n := (m : Int) - 1) (by omega) (by omega), w64 (by omega) (by omega)]; omega
    have wn : wrap64 ((j : Int) - 1) = (j : Int) - 1 := w64 (by omega) (by omega)
    have ui := uw (j : Int) (Int.natCast_nonneg j) (Int.lt_of_le_of_lt (Int.ofNat_le.2 j64) (by decide))
    have sh := shr_u v j j64
    have an := and1 (v / 2 ^ j) (val_lt v j hv)
    rw [en] at g3
    refine ⟨l', g1, ?_, ?_⟩
    · refine Ev.step (fun k => rfl) ?_
      simp only [spec_l1Sink_put.l0, if_true]
      rw [wj, ui, sh, an]
      refine evpos (Int.ofNat_lt.2 hi) (evpos (Int.natCast_nonneg j) (Ev.bind b ?_))
      rw [w64s (Nat.le_trans (Nat.le_of_lt hi) (Nat.le_trans hm (by decide)))]; exact g2
    · rw [ej]
      refine Ev.step (fun k => rfl) ?_
      simp only [impl_bitsOut_highFirst.l0]
      rw [sh, wn]
      exact evpos (Int.natCast_nonneg j) (evpos (Int.natCast_nonneg j) (evlet c g3))
theorem put_low2 {f : Nat → Bool} (l : List Int) (n v m : Nat) (h : InvT false l n f) (hn : n ≤ 1300000) (hm : m ≤ 64) (hv : v < 18446744073709551616) (hf : ∀ i, i < m → f (n + i) = v.testBit i) :
    ∃ l' : List Int, InvT false l' (n + m) f ∧ Ev (fun k => spec_l1Sink_put.f k false l (n : Int) (m : Int) (v : Int)) (false, l', ((n + m : Nat) : Int)) ∧ Ev (fun k => impl_bitsOut_low.f k l (n : Int) false (v : Int) (m : Int)) (l', ((n + m : Nat) : Int), false) := by
  have main := down (n := m) (P := fun i => ∀ l : List Int, InvT false l (n + i) f → ∃ l' : List Int, InvT false l' (n + m) f ∧ Ev (fun k => spec_l1Sink_put.l0 k (m : Int) (v : Int) (i : Int) false l ((n + i : Nat) : Int)) (false, l', ((n + m : Nat) : Int)) ∧ Ev (fun k => impl_bitsOut_low.l0 k (v : Int) (m : Int) (i : Int) l ((n + i : Nat) : Int) false) (l', ((n + m : Nat) : Int), false)) ?_ ?_
  · exact main l h
  · intro l h
    exact ⟨l, h, Ev.step (fun k => rfl) (evneg (by omega) (Ev.now _)), Ev.step (fun k => rfl) (evneg (by omega) (Ev.now _))⟩
  · intro i hi ih l h
    have hfi := hf i hi
    rw [Nat.testBit_eq_decide_div_mod_eq] at hfi
    have b := bit_spec false l (n + i) (v / 2 ^ i % 2) h.inv (by omega) (by omega)
    have c := bit_impl false l (n + i) (v / 2 ^ i) h.inv (by omega) (val_lt v i hv)
    obtain ⟨l', g1, g2, g3⟩ := ih _ (stp_invT h (b := v / 2 ^ i % 2) (Nat.le_of_lt_succ (Nat.mod_lt _ (by decide))) hfi)
    have ui := uw (i : Int) (by omega) (by omega)
    have sh := shr_u v i (by omega)
    have an := and1 (v / 2 ^ i) (val_lt v i hv)
    refine ⟨l', g1, ?_, ?_⟩
    · refine Ev.step (fun k => rfl) ?_
      simp only [spec_l1Sink_put.l0, Bool.false_eq_true, if_false]
      rw [ui, sh, an]
      refine evpos (Int.ofNat_lt.2 hi) (evpos (Int.natCast_nonneg i) (Ev.bind b ?_))
      rw [w64s (Nat.le_trans (Nat.le_of_lt hi) (Nat.le_trans hm (by decide)))]; exact g2
    · refine Ev.step (fun k => rfl) (evpos (Int.ofNat_lt.2 hi) (evpos (Int.natCast_nonneg i) (evlet (by rw [sh]; exact c) ?_)))
      rw [w64s (Nat.le_trans (Nat.le_of_lt hi) (Nat.le_trans hm (by decide)))]; exact g3
/-- The bits that a list of fields tells. -/
def bf (hi : Bool) : List S86 → Nat → Bool
  | [], _ => false
  | y :: ys, k => if k < y.f0.toNat then (if hi = true then y.f1.toNat.testBit (y.f0.toNat - 1 - k) else y.f1.toNat.testBit k) else bf hi ys (k - y.f0.toNat)
def tot : List S86 → Nat
  | [] => 0
  | y :: ys => y.f0.toNat + tot ys
theorem bf_here (hi : Bool) (y : S86) (ys : List S86) (k : Nat) (h : k < y.f0.toNat) : bf hi (y :: ys) k = (if hi = true then y.f1.toNat.testBit (y.f0.toNat - 1 - k) else y.f1.toNat.testBit k) := if_pos h
theorem bf_next (hi : Bool) (y : S86) (ys : List S86) (k : Nat) : bf hi (y :: ys) (y.f0.toNat + k) = bf hi ys k := by
  show (if y.f0.toNat + k < y.f0.toNat then _ else bf hi ys (y.f0.toNat + k - y.f0.toNat)) = _
  rw [if_neg (by omega), Nat.add_sub_cancel_left]
theorem fields_low (F : List S86) (hF : ∀ y ∈ F, Okf y) (hl : F.length ≤ 20000) :
    ∃ r : List Int, InvT false r (tot F) (bf false F) ∧ Ev (fun k => spec_l1Pack.l1 k F (F.length : Int) 0 false [] 0) r ∧ Ev (fun k => impl_PackLow.l0 k F (F.length : Int) 0 [] 0 false) r := by
  have main := down (n := F.length) (P := fun i => ∀ (l : List Int) (n : Nat), InvT false l n (bf false F) → (∀ k, bf false F (n + k) = bf false (F.drop i) k) → n ≤ 64 * i → ∃ r : List Int, InvT false r (n + tot (F.drop i)) (bf false F) ∧ Ev (fun k => spec_l1Pack.l1 k F (F.length : Int) (i : Int) false l (n : Int)) r ∧ Ev (fun k => impl_PackLow.l0 k F (F.length : Int) (i : Int) l (n : Int) false) r) ?_ ?_
  · obtain ⟨r, h1, h2, h3⟩ := main [] 0 (InvT.nil _ _) (fun k => by rw [Nat.zero_add, List.drop_zero]) (by omega)
    rw [List.drop_zero, Nat.zero_add] at h1
    exact ⟨r, h1, h2, h3⟩
  · intro l n h _ hn
    rw [List.drop_length]
    exact ⟨l, h, Ev.step (fun k => rfl) (evneg (by omega) (Ev.now _)), Ev.step (fun k => rfl) (evneg (by omega) (Ev.now _))⟩
  · intro i hi ih l n h ho hn
    have er : rd_T86 F (i : Int) = F[i] := by rw [rdT86, getD_lt hi]
    have hd := List.drop_eq_getElem_cons hi
    obtain ⟨⟨y0, y1⟩, y2, y3⟩ := hF _ (List.getElem_mem hi)
    obtain ⟨m, hm⟩ : ∃ m : Nat, F[i].f0 = (m : Int) := ⟨F[i].f0.toNat, by omega⟩
    obtain ⟨v, hv⟩ : ∃ v : Nat, F[i].f1 = (v : Int) := ⟨F[i].f1.toNat, by omega⟩
    have m0 : F[i].f0.toNat = m := by rw [hm]; rfl
    have v0 : F[i].f1.toNat = v := by rw [hv]; rfl
    rw [hd] at ho ⊢
    have hf : ∀ j, j < m → bf false F (n + j) = v.testBit j := by
      intro j hj
      rw [ho j, bf_here _ _ _ _ (by rw [m0]; exact hj), if_neg (by decide), v0]
    obtain ⟨l', h1, h2, h3⟩ := put_low2 l n v m h (by omega) (by omega) (by omega) hf
    obtain ⟨r, g1, g2, g3⟩ := ih l' (n + m) h1 (fun k => by rw [Nat.add_assoc, ho, ← m0, bf_next]) (by omega)
    refine ⟨r, ?_, Ev.step (fun k => rfl) (evpos (by omega) (evpos (by omega) (evpos (by omega) ?_))), Ev.step (fun k => rfl) (evpos (by omega) (evpos (by omega) (evpos (by omega) ?_)))⟩
    · show InvT false r (n + (F[i].f0.toNat + tot (F.drop (i + 1)))) _
      rw [m0, ← Nat.add_assoc]; exact g1
    · rw [er, hm, hv, w64s (by omega)]; exact Ev.bind h2 g2
    · rw [er, hm, hv, w64s (by omega)]; exact Ev.bind h3 g3
theorem fields_high (F : List S86) (hF : ∀ y ∈ F, Okf y) (hl : F.length ≤ 20000) :
    ∃ r : List Int, InvT true r (tot F) (bf true F) ∧ Ev (fun k => spec_l1Pack.l1 k F (F.length : Int) 0 true [] 0) r ∧ Ev (fun k => impl_PackHigh.l0 k F (F.length : Int) 0 [] 0 true) r := by
  have main := down (n := F.length) (P := fun i => ∀ (l : List Int) (n : Nat), InvT true l n (bf true F) → (∀ k, bf true F (n + k) = bf true (F.drop i) k) → n ≤ 64 * i → ∃ r : List Int, InvT true r (n + tot (F.drop i)) (bf true F) ∧ Ev (fun k => spec_l1Pack.l1 k F (F.length : Int) (i : Int) true l (n : Int)) r ∧ Ev (fun k => impl_PackHigh.l0 k F (F.length : Int) (i : Int) l (n : Int) true) r) ?_ ?_
  · obtain ⟨r, h1, h2, h3⟩ := main [] 0 (InvT.nil _ _) (fun k => by rw [Nat.zero_add, List.drop_zero]) (by omega)
    rw [List.drop_zero, Nat.zero_add] at h1
    exact ⟨r, h1, h2, h3⟩
  · intro l n h _ hn
    rw [List.drop_length]
    exact ⟨l, h, Ev.step (fun k => rfl) (evneg (by omega) (Ev.now _)), Ev.step (fun k => rfl) (evneg (by omega) (Ev.now _))⟩
  · intro i hi ih l n h ho hn
    have er : rd_T86 F (i : Int) = F[i] := by rw [rdT86, getD_lt hi]
    have hd := List.drop_eq_getElem_cons hi
    obtain ⟨⟨y0, y1⟩, y2, y3⟩ := hF _ (List.getElem_mem hi)
    obtain ⟨m, hm⟩ : ∃ m : Nat, F[i].f0 = (m : Int) := ⟨F[i].f0.toNat, by omega⟩
    obtain ⟨v, hv⟩ : ∃ v : Nat, F[i].f1 = (v : Int) := ⟨F[i].f1.toNat, by omega⟩
    have m0 : F[i].f0.toNat = m := by rw [hm]; rfl
    have v0 : F[i].f1.toNat = v := by rw [hv]; rfl
    rw [hd] at ho ⊢
    have hf : ∀ j, j < m → bf true F (n + j) = v.testBit (m - 1 - j) := by
      intro j hj
      rw [ho j, bf_here _ _ _ _ (by rw [m0]; exact hj), if_pos rfl, v0, m0]
    obtain ⟨l', h1, h2, h3⟩ := put_high2 l n v m h (by omega) (by omega) (by omega) hf
    obtain ⟨r, g1, g2, g3⟩ := ih l' (n + m) h1 (fun k => by rw [Nat.add_assoc, ho, ← m0, bf_next]) (by omega)
    refine ⟨r, ?_, Ev.step (fun k => rfl) (evpos (by omega) (evpos (by omega) (evpos (by omega) ?_))), Ev.step (fun k => rfl) (evpos (by omega) (evpos (by omega) (evpos (by omega) ?_)))⟩
    · show InvT true r (n + (F[i].f0.toNat + tot (F.drop (i + 1)))) _
      rw [m0, ← Nat.add_assoc]; exact g1
    · rw [er, hm, hv, w64s (by omega)]; exact Ev.bind h2 g2
    · rw [er, hm, hv, w64s (by omega)]; exact Ev.bind h3 g3
theorem tot_le (F : List S86) (hF : ∀ y ∈ F, Okf y) : tot F ≤ 64 * F.length := by
  induction F with
  | nil => exact Nat.le_refl 0
  | cons y ys ih =>
    have h := (hF y List.mem_cons_self).1
    have := ih (fun z hz => hF z (List.mem_cons_of_mem _ hz))
    show y.f0.toNat + tot ys ≤ 64 * (ys.length + 1)
    omega
/-- Both packings, by both: not good: nothing; good: the bytes that tell the fields. -/
theorem pack_all (F : List S86) (hv : ∀ y ∈ F, Val y) : ∃ lo hi : List Int, Ev (fun k => impl_PackLow.f k F) lo ∧ Ev (fun k => impl_PackHigh.f k F) hi ∧ Ev (fun k => spec_PackLow.f k F) lo ∧ Ev (fun k => spec_PackHigh.f k F) hi ∧ ((lo = [] ∧ hi = []) ∨ ((∀ y ∈ F, Okf y) ∧ F.length ≤ 20000 ∧ InvT false lo (tot F) (bf false F) ∧ InvT true hi (tot F) (bf true F))) := by
  by_cases c : (F.length : Int) > 20000
  · exact ⟨[], [], Ev.bind (evpos c (Ev.now _)) (evneg Bool.false_ne_true (Ev.now _)), Ev.bind (evpos c (Ev.now _)) (evneg Bool.false_ne_true (Ev.now _)), Ev.bind (evpos c (Ev.now _)) (Ev.now _), Ev.bind (evpos c (Ev.now _)) (Ev.now _), .inl ⟨rfl, rfl⟩⟩
  obtain ⟨q, h1, h2, h3⟩ := good_both false F (by omega) hv
  obtain ⟨q', k1, k2, k3⟩ := good_both true F (by omega) hv
  obtain rfl := ev_one h1 k1
  cases q with
  | false => exact ⟨[], [], Ev.bind (evneg c h1) (evneg Bool.false_ne_true (Ev.now _)), Ev.bind (evneg c h1) (evneg Bool.false_ne_true (Ev.now _)), Ev.bind (evneg c (h3 rfl)) (Ev.now _), Ev.bind (evneg c (k3 rfl)) (Ev.now _), .inl ⟨rfl, rfl⟩⟩
  | true =>
    obtain ⟨hF, hs⟩ := h2 rfl
    obtain ⟨_, ks⟩ := k2 rfl
    obtain ⟨lo, g1, g2, g3⟩ := fields_low F hF (by omega)
    obtain ⟨hi, m1, m2, m3⟩ := fields_high F hF (by omega)
    exact ⟨lo, hi, Ev.bind (evneg c h1) (evpos rfl g3), Ev.bind (evneg c h1) (evpos rfl m3), Ev.bind (evneg c (hs lo g2)) (Ev.now _), Ev.bind (evneg c (ks hi m2)) (Ev.now _), .inr ⟨hF, by omega, g1, m1⟩⟩
theorem wBytes_same (l : List Int) (hl : l.length ≤ 4611686018427387904) : Ev (fun k => laws_wBytes.f k l l) true := by
  refine evpos rfl ?_
  refine down (n := l.length) (P := fun i => Ev (fun k => laws_wBytes.l0 k l l (l.length : Int) (i : Int)) true) ?_ ?_
  · exact Ev.step (fun k => rfl) (evneg (by omega) (Ev.now _))
  · intro i hi h
    refine Ev.step (fun k => rfl) (evpos (by omega) (evpos (by omega) (evpos (by omega) (evpos (by omega) (evpos rfl ?_)))))
    rw [w64s (by omega)]; exact h
theorem mask_t (v m : Nat) (hm : m < 64) (hv : v < 18446744073709551616) : Go.bits .and .u64 (v : Int) (IntKind.u64.wrap (shl .u64 1 (IntKind.u64.wrap (m : Int)) - 1)) = ((v % 2 ^ m : Nat) : Int) := by
  have p0 : 0 < 2 ^ m := Nat.two_pow_pos m
  have p1 := pow64 (i := m) (by omega)
  have m64 : m ≤ 64 := Nat.le_of_lt hm
  have e : shl .u64 1 (IntKind.u64.wrap (m : Int)) = ((2 ^ m : Nat) : Int) := by
    rw [uw (m : Int) (Int.natCast_nonneg m) (by omega)]
    unfold shl
    rw [Int.toNat_natCast, Nat.min_eq_left (show m ≤ IntKind.u64.bits from m64), Int.one_mul, show (2 : Int) ^ m = ((2 ^ m : Nat) : Int) by push_cast; rfl]
    exact uw _ (Int.natCast_nonneg _) (by omega)
  have e2 : IntKind.u64.wrap (((2 ^ m : Nat) : Int) - 1) = ((2 ^ m - 1 : Nat) : Int) := by
    rw [uw _ (by omega) (by omega)]; omega
  rw [e, e2, bits_and_u64_nat v (2 ^ m - 1) hv (by omega), Nat.and_two_pow_sub_one_eq_mod]
theorem law_loop (F : List S86) (lo hi : List Int) (hF : ∀ y ∈ F, Okf y) (hl : F.length ≤ 20000) (h1 : InvT false lo (tot F) (bf false F)) (h2 : InvT true hi (tot F) (bf true F)) : Ev (fun k => laws_FnBits.l0 k lo hi 0 F (F.length : Int) 0) true := by
  have tl := tot_le F hF
  have l1 := h1.inv.len
  have l2 := h2.inv.len
  have main := down (n := F.length) (P := fun i => ∀ n : Nat, n + tot (F.drop i) = tot F → (∀ k, bf false F (n + k) = bf false (F.drop i) k) → (∀ k, bf true F (n + k) = bf true (F.drop i) k) → Ev (fun k => laws_FnBits.l0 k lo hi (n : Int) F (F.length : Int) (i : Int)) true) ?_ ?_
  · exact main 0 (by rw [List.drop_zero, Nat.zero_add]) (fun k => by rw [Nat.zero_add, List.drop_zero]) (fun k => by rw [Nat.zero_add, List.drop_zero])
  · intro n hn _ _
    rw [List.drop_length] at hn
    have hn' : n = tot F := hn
    refine Ev.step (fun k => rfl) (evneg (by omega) ?_)
    have e : wrap64 (Int.tdiv (wrap64 ((n : Int) + 7)) 8) = (lo.length : Int) := by
      rw [w64 (n := (n : Int) + 7) (by omega) (by omega), show (n : Int) + 7 = ((n + 7 : Nat) : Int) by omega, show Int.tdiv ((n + 7 : Nat) : Int) 8 = (((n + 7) / 8 : Nat) : Int) from (Int.ofNat_tdiv (n + 7) 8).symm, w64 (by omega) (by omega)]
      omega
    rw [e, beq_self_eq_true]
    exact Ev.now _
  · intro i hin ih n hn ho1 ho2
    have er : rd_T86 F (i : Int) = F[i] := by rw [rdT86, getD_lt hin]
    have hd := List.drop_eq_getElem_cons hin
    obtain ⟨⟨y0, y1⟩, y2, y3⟩ := hF _ (List.getElem_mem hin)
    obtain ⟨m, hm⟩ : ∃ m : Nat, F[i].f0 = (m : Int) := ⟨F[i].f0.toNat, by omega⟩
    obtain ⟨v, hv⟩ : ∃ v : Nat, F[i].f1 = (v : Int) := ⟨F[i].f1.toNat, by omega⟩
    have m0 : F[i].f0.toNat = m := by rw [hm]; rfl
    have v0 : F[i].f1.toNat = v := by rw [hv]; rfl
    have vlt : v < 18446744073709551616 := by omega
    have m64 : m ≤ 64 := by omega
    rw [hd] at ho1 ho2 hn
    have hn2 : n + m + tot (F.drop (i + 1)) = tot F := by
      have : n + (F[i].f0.toNat + tot (F.drop (i + 1))) = tot F := hn
      omega
    have t1 : ∀ j, j < m → tb false lo (n + j) = (v % 2 ^ m).testBit j := by
      intro j hj
      rw [h1.tell, decide_eq_true (show n + j < tot F by omega), Bool.true_and, ho1, bf_here _ _ _ _ (by rw [m0]; exact hj), if_neg (by decide), v0, Nat.testBit_mod_two_pow, decide_eq_true hj, Bool.true_and]
    have t2 : ∀ j, j < m → tb true hi (n + j) = (v % 2 ^ m).testBit (m - 1 - j) := by
      intro j hj
      rw [h2.tell, decide_eq_true (show n + j < tot F by omega), Bool.true_and, ho2, bf_here _ _ _ _ (by rw [m0]; exact hj), if_pos rfl, v0, m0, Nat.testBit_mod_two_pow, decide_eq_true (show m - 1 - j < m by omega), Bool.true_and]
    have vm : v % 2 ^ m < 2 ^ m := Nat.mod_lt _ (Nat.two_pow_pos m)
    have k1 := take_low_t h1.inv.bd n m (v % 2 ^ m) m64 (by omega) (by omega) vm t1
    have k2 := take_high_t h2.inv.bd n m (v % 2 ^ m) m64 (by omega) (by omega) vm t2
    have next := ih (n + m) hn2 (fun k => by rw [Nat.add_assoc, ho1, ← m0, bf_next]) (fun k => by rw [Nat.add_assoc, ho2, ← m0, bf_next])
    have wn : wrap64 ((n : Int) + (m : Int)) = ((n + m : Nat) : Int) := by rw [w64 (by omega) (by omega)]; omega
    have j2 : Ev (fun k => laws_FnBits.j2 k lo hi (n : Int) ((v % 2 ^ m : Nat) : Int) F (F.length : Int) (i : Int) (m : Int) (v : Int)) true := by
      refine Ev.step (fun k => rfl) (Ev.bind k1 (Ev.bind k2 (evpos rfl (evpos rfl (evpos rfl (evpos rfl (evpos wn.symm (evpos rfl ?_))))))))
      rw [w64s (by omega)]
      exact next
    refine Ev.step (fun k => rfl) (evpos (by omega) (evpos (by omega) (evpos (by omega) ?_)))
    rw [er, hm, hv]
    by_cases c : (m : Int) < 64
    · refine evpos c (evpos (by rw [uw (m : Int) (Int.natCast_nonneg m) (by omega)]; exact Int.natCast_nonneg m) ?_)
      rw [mask_t v m (by omega) vlt]
      exact j2
    · obtain rfl : m = 64 := by omega
      rw [Nat.mod_eq_of_lt (show v < 2 ^ 64 from vlt)] at j2
      exact evneg c j2
theorem FnBits : laws_FnBits.Pure := by
  intro l _ _ hb
  refine Ev.rounds ?_
  by_cases c : (l.length : Int) > 1048576
  · exact evpos c (Ev.now _)
  obtain ⟨F, e, hv⟩ := l1Fields_t (bytel hb c)
  obtain ⟨lo, hi, g1, g2, g3, g4, h⟩ := pack_all F hv
  have ll : lo.length ≤ 200000 ∧ hi.length ≤ 200000 ∧ (lo.length = 0 → hi.length = 0) := by
    rcases h with ⟨rfl, rfl⟩ | ⟨hF, hl, h1, h2⟩
    · exact ⟨by simp, by simp, fun _ => rfl⟩
    · have tl := tot_le F hF
      have l1 := h1.inv.len
      have l2 := h2.inv.len
      exact ⟨by omega, by omega, fun h => by omega⟩
  refine evneg c (Ev.bind (Ev.bind e (Ev.now _)) (Ev.bind g1 (Ev.bind g2 (Ev.bind g3 (Ev.bind (wBytes_same lo (by omega)) (evpos rfl (Ev.bind g4 (Ev.bind (wBytes_same hi (by omega)) (Ev.step (fun k => rfl) ?_)))))))))
  show Ev (fun k => if (lo.length : Int) = 0 then (some ((hi.length : Int) == 0)) else (laws_FnBits.l0 k lo hi 0 F (F.length : Int) 0)) true
  by_cases c0 : (lo.length : Int) = 0
  · refine evpos c0 ?_
    have := ll.2.2 (by omega)
    rw [this]
    exact Ev.now _
  · rcases h with ⟨rfl, rfl⟩ | ⟨hF, hl, h1, h2⟩
    · exact absurd rfl c0
    · exact evneg c0 (law_loop F lo hi hF hl h1 h2)
end Go.Proofs.Ytglaedjadlappaa.Pure

/- FnExactPackHigh: the program's PackHigh answers as the reference at every argument. -/
import Derived.Test.YtmnihpedokeggaaPFnExactPackHighx0
import Derived.Test.YtmnihpedokeggaaPFnExactPackHighx1
import Derived.Test.YtmnihpedokeggaaPFnExactPackHighx2
import Derived.Test.YtmnihpedokeggaaPFnExactPackHighx3
import Derived.Test.YtmnihpedokeggaaPFnExactPackHighx4
import Derived.Test.YtmnihpedokeggaaPFnExactPackHighx5
import Derived.Test.YtmnihpedokeggaaPFnExactPackHighx6
import Derived.Test.YtmnihpedokeggaaK
import Derived.Laws.Bits64b
namespace Go.Proofs.Ytmnihpedokeggaa.Pure
open Go.RowKit Go.Proofs.Ytmnihpedokeggaa.PFnExactPackHigh Go.Proofs.Ytmnihpedokeggaa.K Go.Proofs.YtmnihpedokeggaaW.PrintWords Go.Proofs.YtmnihpedokeggaaW.PrintLast Go.Proofs.YtmnihpedokeggaaW.PrintMore

theorem rdT118 (l : List S118) (i : Nat) : rd_T118 l (i : Int) = l.getD i z118 := by simp [rd_T118]
theorem rdT116 (l : List S116) (i : Nat) : rd_T116 l (i : Int) = l.getD i z116 := by simp [rd_T116]
theorem rdL5n (l : List (List S118)) (i : Nat) : rd_L5 l (i : Int) = l.getD i ([] : List S118) := by simp [rd_L5]
theorem eqByteS (l : List Int) (hl : l.length ≤ 4611686018427387904) : Ev (fun k => laws_eqByteS.f k l l) true := by
  refine evpos rfl ?_
  refine down (n := l.length) (P := fun i => Ev (fun k => laws_eqByteS.l0 k l l (i : Int)) true) ?_ ?_
  · exact Ev.step (fun k => rfl) (evneg (by omega) (Ev.now _))
  · intro i hi h
    refine Ev.step (fun k => rfl) (evpos (by omega) (evpos (by omega) (evpos (by omega) (evpos rfl ?_))))
    rw [w64s (by omega)]; exact h
theorem mhByteS (l : List Int) (a : Int) (h0 : 0 ≤ a) (h1 : a + l.length ≤ 4611686018427387904) : ∃ l' : List Int, Ev (fun k => laws_markByteS.f k l a) (a + l.length, l') ∧ Ev (fun k => laws_heldByteS.f k l' a) (a + l.length) ∧ l'.length = l.length := by
  refine ⟨(List.range l.length).map (fun (j : Nat) => (a + (j : Int)) % 256), ?_, ?_, by simp⟩
  · have := down (n := l.length) (P := fun i => Ev (fun k => laws_markByteS.l0 k (f2 l.length (fun (j : Nat) => (a + (j : Int)) % 256) (fun j => l.getD j 0) i) (a + (i : Int)) (i : Int)) (a + l.length, (List.range l.length).map (fun (j : Nat) => (a + (j : Int)) % 256))) ?_ ?_
    · rw [f2_zero] at this; rw [show a + ((0 : Nat) : Int) = a by omega] at this; exact this
    · refine Ev.step (fun k => rfl) (evneg (by rw [f2_len]; omega) ?_)
      rw [f2_all]; exact Ev.now _
    · intro i hi h
      refine Ev.step (fun k => rfl) (evpos (by rw [f2_len]; omega) (evpos (by omega) ?_))
      rw [w64s (by omega), w64 (by omega) (by omega), Int.toNat_natCast, show a + (i : Int) + 1 = a + ((i + 1 : Nat) : Int) by omega]
      rw [← f2_set] at h
      exact h
  · have := down (n := l.length) (P := fun i => Ev (fun k => laws_heldByteS.l0 k ((List.range l.length).map (fun (j : Nat) => (a + (j : Int)) % 256)) (a + (i : Int)) (i : Int)) (a + l.length)) ?_ ?_
    · rw [show a + ((0 : Nat) : Int) = a by omega] at this; exact this
    · exact Ev.step (fun k => rfl) (evneg (by simp) (Ev.now _))
    · intro i hi h
      refine Ev.step (fun k => rfl) (evpos (by simpa using hi) (evpos (by omega) (evpos (by rw [rd_nat, range_getD _ _ _ _ hi]) ?_)))
      rw [w64s (by omega), w64 (by omega) (by omega), show a + (i : Int) + 1 = a + ((i + 1 : Nat) : Int) by omega]
      exact h
def cv118 (y : S118) : S116 := ⟨y.f0, y.f1⟩
theorem toFieldS (l : List S118) (hl : l.length ≤ 1048576) : Ev (fun k => laws_toFieldS.f k l) (l.map cv118) := by
  refine evpos (by omega) (evpos (by omega) ?_)
  have := down (n := l.length) (P := fun i => Ev (fun k => laws_toFieldS.l0 k l (fl z116 l.length (fun j => cv118 (l.getD j z118)) i) (i : Int)) (l.map cv118)) ?_ ?_
  · rw [fl_zero] at this; exact this
  · refine Ev.step (fun k => rfl) (evneg (by omega) ?_)
    rw [fl_all, map_range_get l z118 cv118]; exact Ev.now _
  · intro i hi h
    refine Ev.step (fun k => rfl) (evpos (by omega) (evpos (by omega) (evlet rfl (evpos (by rw [fl_len]; omega) ?_))))
    rw [w64s (by omega), rdT118, Int.toNat_natCast]
    rw [← fl_set] at h
    exact h
theorem eqFieldS (l : List S116) (hl : l.length ≤ 4611686018427387904) : Ev (fun k => laws_eqFieldS.f k l l) true := by
  refine evpos rfl ?_
  refine down (n := l.length) (P := fun i => Ev (fun k => laws_eqFieldS.l0 k l l (i : Int)) true) ?_ ?_
  · exact Ev.step (fun k => rfl) (evneg (by omega) (Ev.now _))
  · intro i hi h
    refine Ev.step (fun k => rfl) (evpos (by omega) (evpos (by omega) (evpos (by omega) (evlet (a := true) ?_ (evpos rfl ?_)))))
    · simp [laws_eqField.f]
    rw [w64s (by omega)]; exact h
theorem szFieldS (l : List S118) (a : Int) (hl : l.length ≤ maxLen) (h0 : 0 ≤ a) (h1 : a ≤ 1048576) : laws_szFieldS.f l a = some (if a < l.length then -1 else a - l.length) := by
  unfold maxLen at hl
  unfold laws_szFieldS.f
  rw [w64 (by omega) (by omega)]
  split <;> split <;> first | rfl | omega
theorem markFieldS (l : List S116) (a : Int) (h0 : 0 ≤ a) (h1 : a + 2 * l.length ≤ 4611686018427387904) : ∃ l' : List S116, Ev (fun k => laws_markFieldS.f k l a) (a + 2 * l.length, l') ∧ l'.length = l.length := by
  have := down (n := l.length) (P := fun i => ∀ x : List S116, x.length = l.length → ∃ l' : List S116, Ev (fun k => laws_markFieldS.l0 k x (a + 2 * (i : Int)) (i : Int)) (a + 2 * l.length, l') ∧ l'.length = l.length) ?_ ?_
  · have h := this l rfl
    rw [show a + 2 * ((0 : Nat) : Int) = a by omega] at h; exact h
  · intro x hx
    exact ⟨x, Ev.step (fun k => rfl) (evneg (by omega) (Ev.now _)), hx⟩
  · intro i hi h x hx
    simp only [show a + 2 * ((i + 1 : Nat) : Int) = a + 2 * (i : Int) + 1 + 1 by omega] at h
    obtain ⟨l', e, hl⟩ := h (((x).set i (⟨a + 2 * (i : Int), (x.getD i z116).f1⟩ : S116)).set i (⟨(((x).set i (⟨a + 2 * (i : Int), (x.getD i z116).f1⟩ : S116)).getD i z116).f0, a + 2 * (i : Int) + 1⟩ : S116)) (by simpa using hx)
    refine ⟨l', Ev.step (f := fun k => laws_markFieldS.l0 k (((x).set i (⟨a + 2 * (i : Int), (x.getD i z116).f1⟩ : S116)).set i (⟨(((x).set i (⟨a + 2 * (i : Int), (x.getD i z116).f1⟩ : S116)).getD i z116).f0, a + 2 * (i : Int) + 1⟩ : S116)) (a + 2 * (i : Int) + 1 + 1) ((i + 1 : Nat) : Int)) (fun k => ?_) e, hl⟩
    simp only [laws_markFieldS.l0]
    rw [if_pos (by omega), if_pos (by omega)]
    simp only [Option.bind_some, rdT116, Int.toNat_natCast, w64s (show i ≤ 4611686018427387904 by omega), w64 (show -9223372036854775808 ≤ a + 2 * (i : Int) + 1 by omega) (by omega), w64 (show -9223372036854775808 ≤ a + 2 * (i : Int) + 1 + 1 by omega) (by omega)]
    rw [IntKind.wrap_u64, Int.emod_eq_of_lt (by omega) (by omega)]

theorem uw (n : Int) (h0 : 0 ≤ n) (h1 : n < 18446744073709551616) : IntKind.u64.wrap n = n := by rw [IntKind.wrap_u64]; omega
theorem shr_u (x b : Nat) (hb : b ≤ 64) : shr .u64 (x : Int) (b : Int) = ((x / 2 ^ b : Nat) : Int) := by
  unfold shr
  rw [Int.toNat_natCast, Nat.min_eq_left (show b ≤ IntKind.u64.bits from hb)]; simp
theorem or_bd (x y : Int) : 0 ≤ Go.bits .or .u8 x y ∧ Go.bits .or .u8 x y ≤ 255 := by
  have e : Go.bits .or .u8 x y = IntKind.u8.wrap ((BitVec.ofInt 8 x ||| BitVec.ofInt 8 y).toNat : Int) := rfl
  rw [e, IntKind.wrap_u8]; omega
theorem or_zero (x : Int) (h0 : 0 ≤ x) (h1 : x ≤ 255) : Go.bits .or .u8 x 0 = x := by
  obtain ⟨a, rfl⟩ : ∃ a : Nat, x = (a : Int) := ⟨x.toNat, by omega⟩
  have := (bits_nat .u8 8 (by decide) wraps_u8 a 0 (by omega) (by decide)).2
  rw [Nat.or_zero] at this
  exact this
theorem shl_zero (p : Int) : shl .u8 0 p = 0 := by unfold shl; rw [Int.zero_mul]; rfl
/-- The bytes before the next bit is put. -/
def ext (l : List Int) (n : Nat) : List Int := if n % 8 = 0 then l ++ [0] else l
def pos (hi : Bool) (n : Nat) : Nat := if hi = true then 7 - n % 8 else n % 8
def put1 (hi : Bool) (m : List Int) (n b : Nat) : List Int := m.set (n / 8) (Go.bits .or .u8 (m.getD (n / 8) 0) (shl .u8 (b : Int) (pos hi n : Int)))
def stp (hi : Bool) (l : List Int) (n b : Nat) : List Int := put1 hi (ext l n) n b
structure Inv (l : List Int) (n : Nat) : Prop where
  len : l.length = (n + 7) / 8
  bd : ∀ x ∈ l, 0 ≤ x ∧ x ≤ 255
theorem ext_len {l : List Int} {n : Nat} (h : Inv l n) : (ext l n).length = n / 8 + 1 := by
  have := h.len
  unfold ext
  split
  · rw [List.length_append, List.length_singleton]; omega
  · omega
theorem ext_bd {l : List Int} {n : Nat} (h : Inv l n) : ∀ x ∈ ext l n, 0 ≤ x ∧ x ≤ 255 := by
  intro x hx
  unfold ext at hx
  split at hx
  · rcases List.mem_append.1 hx with hx | hx
    · exact h.bd x hx
    · obtain rfl := List.mem_singleton.1 hx; omega
  · exact h.bd x hx
theorem stp_inv {l : List Int} {n : Nat} (h : Inv l n) (hi : Bool) (b : Nat) : Inv (stp hi l n b) (n + 1) := by
  refine ⟨?_, ?_⟩
  · unfold stp put1; rw [List.length_set, ext_len h]; omega
  · intro x hx
    unfold stp put1 at hx
    rcases List.mem_or_eq_of_mem_set hx with hx | rfl
    · exact ext_bd h x hx
    · exact or_bd _ _
theorem set_self (m : List Int) (i : Nat) : m.set i (m.getD i 0) = m := by
  apply List.ext_getElem
  · simp
  · intro j h1 h2
    rw [List.getElem_set]
    by_cases c : i = j
    · subst c; rw [if_pos rfl, getD_lt h2]
    · rw [if_neg c]
theorem tm8 (n : Nat) : Int.tmod (n : Int) 8 = ((n % 8 : Nat) : Int) := (Int.ofNat_tmod n 8).symm
theorem td8 (n : Nat) (hn : n ≤ 2000000) : wrap64 (Int.tdiv (n : Int) 8) = ((n / 8 : Nat) : Int) := by
  rw [show Int.tdiv (n : Int) 8 = ((n / 8 : Nat) : Int) from (Int.ofNat_tdiv n 8).symm]; exact w64 (by omega) (by omega)
theorem w7 (n : Nat) : wrap64 (7 - ((n % 8 : Nat) : Int)) = ((7 - n % 8 : Nat) : Int) := by rw [w64 (by omega) (by omega)]; omega
theorem u7 (n : Nat) : IntKind.u64.wrap (7 - IntKind.u64.wrap ((n % 8 : Nat) : Int)) = ((7 - n % 8 : Nat) : Int) := by
  rw [uw ((n % 8 : Nat) : Int) (by omega) (by omega), uw _ (by omega) (by omega)]; omega
theorem and1 (a : Nat) (ha : a < 18446744073709551616) : Go.bits .and .u64 (a : Int) 1 = ((a % 2 : Nat) : Int) := by
  have := bits_and_u64_nat a 1 ha (by decide)
  rw [Nat.and_one_is_mod] at this
  exact this
theorem bit_impl (hi : Bool) (l : List Int) (n a : Nat) (h : Inv l n) (hn : n ≤ 2000000) (ha : a < 18446744073709551616) : impl_bitsOut_bit.f l (n : Int) hi (a : Int) = some (stp hi l n (a % 2), ((n + 1 : Nat) : Int), hi) := by
  have el := ext_len h
  have ll := h.len
  have a2 : ((a % 2 : Nat) : Int) % 256 = ((a % 2 : Nat) : Int) := by omega
  have f0 : (0 : Int) ≤ ((n / 8 : Nat) : Int) := by omega
  have f1 : (0 : Int) ≤ ((n % 8 : Nat) : Int) := by omega
  have f2 : (0 : Int) ≤ ((7 - n % 8 : Nat) : Int) := by omega
  unfold impl_bitsOut_bit.f
  rw [tm8, td8 n hn, w7, and1 a ha, a2, w64s (by omega)]
  unfold stp put1 pos ext at *
  by_cases c : n % 8 = 0
  · have c1 : ((n % 8 : Nat) : Int) = 0 := by rw [c]; rfl
    rw [if_pos c] at el
    have f3 : ((n / 8 : Nat) : Int) < ((l ++ [0]).length : Int) := by rw [el]; omega
    rw [if_pos c1, if_pos (by omega), Option.bind_some, if_pos c]
    cases hi with
    | true => rw [if_pos rfl, if_pos f0, if_pos f3, if_pos f2, if_pos rfl, Int.toNat_natCast, rd_nat]
    | false => rw [if_neg (by decide), if_pos f0, if_pos f3, if_pos f1, if_neg (by decide), Int.toNat_natCast, rd_nat]
  · have c1 : ¬ ((n % 8 : Nat) : Int) = 0 := by omega
    rw [if_neg c] at el
    have f3 : ((n / 8 : Nat) : Int) < (l.length : Int) := by rw [el]; omega
    rw [if_neg c1, if_neg c]
    cases hi with
    | true => rw [if_pos rfl, if_pos f0, if_pos f3, if_pos f2, if_pos rfl, Int.toNat_natCast, rd_nat]
    | false => rw [if_neg (by decide), if_pos f0, if_pos f3, if_pos f1, if_neg (by decide), Int.toNat_natCast, rd_nat]
theorem j0_spec (hi : Bool) (m : List Int) (n b : Nat) (hb : b ≤ 1) (hn : n ≤ 2000000) (hm : n / 8 < m.length) (bd : ∀ x ∈ m, 0 ≤ x ∧ x ≤ 255) : Ev (fun k => spec_l1Sink_bit.j0 k (b : Int) hi m (n : Int)) (hi, put1 hi m n b, ((n + 1 : Nat) : Int)) := by
  have f0 : (0 : Int) ≤ ((n / 8 : Nat) : Int) := by omega
  have f1 : (0 : Int) ≤ ((n % 8 : Nat) : Int) := by omega
  have f2 : (0 : Int) ≤ ((7 - n % 8 : Nat) : Int) := by omega
  have f3 : ((n / 8 : Nat) : Int) < (m.length : Int) := by omega
  have um := uw ((n % 8 : Nat) : Int) f1 (by omega)
  refine Ev.step (fun k => rfl) ?_
  simp only [spec_l1Sink_bit.j0]
  rw [tm8, td8 n hn, u7, um, w64s (by omega)]
  by_cases c : b = 1
  · subst c
    refine evpos (by decide) ?_
    unfold put1 pos
    cases hi with
    | true =>
      refine evpos rfl (evpos f0 (evpos f3 (evpos f2 ?_)))
      rw [if_pos rfl, Int.toNat_natCast, rd_nat]; exact Ev.now _
    | false =>
      refine evneg (by decide) (evpos f0 (evpos f3 (evpos f1 ?_)))
      rw [if_neg (by decide), Int.toNat_natCast, rd_nat]; exact Ev.now _
  · obtain rfl : b = 0 := by omega
    have e : put1 hi m n 0 = m := by
      unfold put1
      have x := bd (m.getD (n / 8) 0) (by rw [getD_lt hm]; exact List.getElem_mem _)
      rw [show ((0 : Nat) : Int) = 0 from rfl, shl_zero, or_zero _ x.1 x.2, set_self]
    rw [e]
    exact evneg (by decide) (Ev.now _)
theorem bit_spec (hi : Bool) (l : List Int) (n b : Nat) (h : Inv l n) (hn : n ≤ 2000000) (hb : b ≤ 1) : Ev (fun k => spec_l1Sink_bit.f k hi l (n : Int) (b : Int)) (hi, stp hi l n b, ((n + 1 : Nat) : Int)) := by
  have el := ext_len h
  have ll := h.len
  have j := j0_spec hi (ext l n) n b hb hn (by omega) (ext_bd h)
  unfold stp
  by_cases c : n % 8 = 0
  · have e : ext l n = l ++ [0] := by unfold ext; rw [if_pos c]
    rw [e] at j ⊢
    exact evpos (by rw [tm8]; omega) (evpos (by omega) j)
  · have e : ext l n = l := by unfold ext; rw [if_neg c]
    rw [e] at j ⊢
    exact evneg (by rw [tm8]; omega) j
theorem val_lt (v i : Nat) (hv : v < 18446744073709551616) : v / 2 ^ i < 18446744073709551616 := Nat.lt_of_le_of_lt (Nat.div_le_self _ _) hv
def Okf (y : S116) : Prop := (0 ≤ y.f0 ∧ y.f0 ≤ 64) ∧ 0 ≤ y.f1 ∧ y.f1 < 18446744073709551616
/-- The checks ahead. -/
theorem good_both (hi : Bool) (F : List S116) (hl : F.length ≤ 20000) (hv : ∀ y ∈ F, 0 ≤ y.f1 ∧ y.f1 < 18446744073709551616) :
    ∃ q : Bool, Ev (fun k => impl_goodFields.l0 k F (F.length : Int) 0) q ∧ (q = true → (∀ y ∈ F, Okf y) ∧ ∀ r, Ev (fun k => spec_l1Pack.l1 k F (F.length : Int) 0 hi [] 0) r → Ev (fun k => spec_l1Pack.l0 k F hi F (F.length : Int) 0) r) ∧ (q = false → Ev (fun k => spec_l1Pack.l0 k F hi F (F.length : Int) 0) []) := by
  have m := down (n := F.length) (P := fun i => ∃ q : Bool, Ev (fun k => impl_goodFields.l0 k F (F.length : Int) (i : Int)) q ∧ (q = true → (∀ y ∈ F.drop i, Okf y) ∧ ∀ r, Ev (fun k => spec_l1Pack.l1 k F (F.length : Int) 0 hi [] 0) r → Ev (fun k => spec_l1Pack.l0 k F hi F (F.length : Int) (i : Int)) r) ∧ (q = false → Ev (fun k => spec_l1Pack.l0 k F hi F (F.length : Int) (i : Int)) [])) ?_ ?_
  · obtain ⟨q, h1, h2, h3⟩ := m
    exact ⟨q, h1, fun h => ⟨by simpa using (h2 h).1, (h2 h).2⟩, h3⟩
  · exact ⟨true, Ev.step (fun k => rfl) (evneg (by omega) (Ev.now _)), fun _ => ⟨fun y hy => by simp at hy, fun r hr => Ev.step (fun k => rfl) (evneg (by omega) hr)⟩, (fun h => by cases h)⟩
  · intro i hi' ⟨q, h1, h2, h3⟩
    have er : rd_T116 F (i : Int) = F[i] := by rw [rdT116, getD_lt hi']
    by_cases c1 : F[i].f0 < 0
    · refine ⟨false, Ev.step (fun k => rfl) (evpos (by omega) (evpos (by omega) (evpos (by omega) (evpos (by rw [er]; exact c1) (Ev.now _))))), (fun h => by cases h), fun _ => Ev.step (fun k => rfl) (evpos (by omega) (evpos (by omega) (evpos (by omega) (evpos (by rw [er]; exact c1) (Ev.now _)))))⟩
    by_cases c2 : F[i].f0 > 64
    · refine ⟨false, Ev.step (fun k => rfl) (evpos (by omega) (evpos (by omega) (evpos (by omega) (evneg (by rw [er]; exact c1) (evpos (by rw [er]; exact c2) (Ev.now _)))))), (fun h => by cases h), fun _ => Ev.step (fun k => rfl) (evpos (by omega) (evpos (by omega) (evpos (by omega) (evneg (by rw [er]; exact c1) (evpos (by rw [er]; exact c2) (Ev.now _))))))⟩
    refine ⟨q, Ev.step (fun k => rfl) (evpos (by omega) (evpos (by omega) (evpos (by omega) (evneg (by rw [er]; exact c1) (evneg (by rw [er]; exact c2) ?_))))), fun hq => ⟨?_, fun r hr => Ev.step (fun k => rfl) (evpos (by omega) (evpos (by omega) (evpos (by omega) (evneg (by rw [er]; exact c1) (evneg (by rw [er]; exact c2) ?_)))))⟩, fun hq => Ev.step (fun k => rfl) (evpos (by omega) (evpos (by omega) (evpos (by omega) (evneg (by rw [er]; exact c1) (evneg (by rw [er]; exact c2) ?_)))))⟩
    · rw [w64s (by omega)]; exact h1
    · intro y hy
      rw [List.drop_eq_getElem_cons hi'] at hy
      rcases List.mem_cons.1 hy with rfl | hy
      · exact ⟨⟨by omega, by omega⟩, hv _ (List.getElem_mem hi')⟩
      · exact (h2 hq).1 y hy
    · rw [w64s (by omega)]; exact (h2 hq).2 r hr
    · rw [w64s (by omega)]; exact h3 hq
theorem high_both (l : List Int) (n v m : Nat) (h : Inv l n) (hn : n ≤ 1300000) (hm : m ≤ 64) (hv : v < 18446744073709551616) :
    ∃ l' : List Int, Inv l' (n + m) ∧ Ev (fun k => spec_l1Sink_put.f k true l (n : Int) (m : Int) (v : Int)) (true, l', ((n + m : Nat) : Int)) ∧ Ev (fun k => impl_bitsOut_highFirst.f k l (n : Int) true (v : Int) (m : Int)) (l', ((n + m : Nat) : Int), true) := by
  have main := down (n := m) (P := fun i => ∀ l : List Int, Inv l (n + i) → ∃ l' : List Int, Inv l' (n + m) ∧ Ev (fun k => spec_l1Sink_put.l0 k (m : Int) (v : Int) (i : Int) true l ((n + i : Nat) : Int)) (true, l', ((n + m : Nat) : Int)) ∧ Ev (fun k => impl_bitsOut_highFirst.l0 k (v : Int) ((m : Int) - 1 - (i : Int)) l ((n + i : Nat) : Int) true) (l', ((n + m : Nat) : Int), true)) ?_ ?_
  · obtain ⟨l', g1, g2, g3⟩ := main l h
    refine ⟨l', g1, g2, ?_⟩
    have e : wrap64 ((m : Int) - 1) = (m : Int) - 1 - ((0 : Nat) : Int) := by rw [w64 (by omega) (by omega)]; omega
    show Ev (fun k => impl_bitsOut_highFirst.l0 k (v : Int) (wrap64 ((m : Int) - 1)) l (n : Int) true) _
    rw [e]; exact g3
  · intro l h
    exact ⟨l, h, Ev.step (fun k => rfl) (evneg (by omega) (Ev.now _)), Ev.step (fun k => rfl) (evneg (by omega) (Ev.now _))⟩
  · intro i hi ih l h
    obtain ⟨j, hj⟩ : ∃ j : Nat, j = m - 1 - i := ⟨_, rfl⟩
    have j64 : j ≤ 64 := by omega
    have ej : (m : Int) - 1 - (i : Int) = (j : Int) := by omega
    have en : (m : Int) - 1 - ((i + 1 : Nat) : Int) = (j : Int) - 1 := by omega
    have b := bit_spec true l (n + i) (v / 2 ^ j % 2) h (by omega) (by omega)
    have c := bit_impl true l (n + i) (v / 2 ^ j) h (by omega) (val_lt v j hv)
    obtain ⟨l', g1, g2, g3⟩ := ih _ (stp_inv h true (v / 2 ^ j % 2))
    have wj : wrap64 (wrap64 ((m : Int) - 1) - (i : Int)) = (j : Int) := by rw [w64 (n := (m : Int) - 1) (by omega) (by omega), w64 (by omega) (by omega)]; omega
    have wn : wrap64 ((j : Int) - 1) = (j : Int) - 1 := w64 (by omega) (by omega)
    have ui := uw (j : Int) (Int.natCast_nonneg j) (Int.lt_of_le_of_lt (Int.ofNat_le.2 j64) (by decide))
    have sh := shr_u v j j64
    have an := and1 (v / 2 ^ j) (val_lt v j hv)
    rw [en] at g3
    refine ⟨l', g1, ?_, ?_⟩
    · refine Ev.step (fun k => rfl) ?_
      simp only [spec_l1Sink_put.l0, if_true]
      rw [wj, ui, sh, an]
      refine evpos (Int.ofNat_lt.2 hi) (evpos (Int.natCast_nonneg j) (Ev.bind b ?_))
      rw [w64s (Nat.le_trans (Nat.le_of_lt hi) (Nat.le_trans hm (by decide)))]; exact g2
    · rw [ej]
      refine Ev.step (fun k => rfl) ?_
      simp only [impl_bitsOut_highFirst.l0]
      rw [sh, wn]
      exact evpos (Int.natCast_nonneg j) (evpos (Int.natCast_nonneg j) (evlet c g3))
theorem fields_both (F : List S116) (hF : ∀ y ∈ F, Okf y) (hl : F.length ≤ 20000) :
    ∃ r : List Int, r.length ≤ 200000 ∧ Ev (fun k => spec_l1Pack.l1 k F (F.length : Int) 0 true [] 0) r ∧ Ev (fun k => impl_PackHigh.l0 k F (F.length : Int) 0 [] 0 true) r := by
  have main := down (n := F.length) (P := fun i => ∀ (l : List Int) (n : Nat), Inv l n → n ≤ 64 * i → ∃ r : List Int, r.length ≤ 200000 ∧ Ev (fun k => spec_l1Pack.l1 k F (F.length : Int) (i : Int) true l (n : Int)) r ∧ Ev (fun k => impl_PackHigh.l0 k F (F.length : Int) (i : Int) l (n : Int) true) r) ?_ ?_
  · exact main [] 0 ⟨rfl, fun x hx => by cases hx⟩ (by omega)
  · intro l n h hn
    exact ⟨l, by have := h.len; omega, Ev.step (fun k => rfl) (evneg (by omega) (Ev.now _)), Ev.step (fun k => rfl) (evneg (by omega) (Ev.now _))⟩
  · intro i hi ih l n h hn
    have er : rd_T116 F (i : Int) = F[i] := by rw [rdT116, getD_lt hi]
    obtain ⟨⟨y0, y1⟩, y2, y3⟩ := hF _ (List.getElem_mem hi)
    obtain ⟨m, hm⟩ : ∃ m : Nat, F[i].f0 = (m : Int) := ⟨F[i].f0.toNat, by omega⟩
    obtain ⟨v, hv⟩ : ∃ v : Nat, F[i].f1 = (v : Int) := ⟨F[i].f1.toNat, by omega⟩
    obtain ⟨l', h1, h2, h3⟩ := high_both l n v m h (by omega) (by omega) (by omega)
    obtain ⟨r, g1, g2, g3⟩ := ih l' (n + m) h1 (by omega)
    refine ⟨r, g1, Ev.step (fun k => rfl) (evpos (by omega) (evpos (by omega) (evpos (by omega) ?_))), Ev.step (fun k => rfl) (evpos (by omega) (evpos (by omega) (evpos (by omega) ?_)))⟩
    · rw [er, hm, hv, w64s (by omega)]; exact Ev.bind h2 g2
    · rw [er, hm, hv, w64s (by omega)]; exact Ev.bind h3 g3
theorem pack_both (F : List S116) (hv : ∀ y ∈ F, 0 ≤ y.f1 ∧ y.f1 < 18446744073709551616) : ∃ r : List Int, r.length ≤ 200000 ∧ Ev (fun k => spec_PackHigh.f k F) r ∧ Ev (fun k => impl_PackHigh.f k F) r := by
  by_cases c : (F.length : Int) > 20000
  · exact ⟨[], by simp, Ev.bind (evpos c (Ev.now _)) (Ev.now _), Ev.bind (evpos c (Ev.now _)) (evneg (by decide) (Ev.now _))⟩
  obtain ⟨q, h1, h2, h3⟩ := good_both true F (by omega) hv
  cases q with
  | false => exact ⟨[], by simp, Ev.bind (evneg c (h3 rfl)) (Ev.now _), Ev.bind (evneg c h1) (evneg (by decide) (Ev.now _))⟩
  | true =>
    obtain ⟨hF, hs⟩ := h2 rfl
    obtain ⟨r, g1, g2, g3⟩ := fields_both F hF (by omega)
    exact ⟨r, g1, Ev.bind (evneg c (hs r g2)) (Ev.now _), Ev.bind (evneg c h1) (evpos rfl g3)⟩
theorem FnExactPackHigh : laws_FnExactPackHigh.Pure := by
  intro F ⟨hF, hy⟩
  refine Ev.rounds ?_
  have s0 := szFieldS F 1048576 hF (by omega) (by omega)
  by_cases c : (1048576 : Int) < (F.length : Int)
  · rw [if_pos c] at s0
    exact evlet s0 (evpos (by decide) (Ev.now _))
  rw [if_neg c] at s0
  have t := toFieldS F (by omega)
  have hv : ∀ y ∈ F.map cv118, 0 ≤ y.f1 ∧ y.f1 < 18446744073709551616 := by
    intro y hy'
    obtain ⟨z, hz, rfl⟩ := List.mem_map.1 hy'
    have := wfu (hy z hz).2
    exact ⟨this.1, by have := this.2; show z.f1 < _; omega⟩
  obtain ⟨r, hr, h1, h2⟩ := pack_both (F.map cv118) hv
  have er := eqByteS r (by omega)
  have ln : (F.map cv118).length = F.length := List.length_map _
  have ef := eqFieldS (F.map cv118) (by omega)
  obtain ⟨m, hm, _⟩ := markFieldS (F.map cv118) 1 (by omega) (by omega)
  obtain ⟨g, hg1, hg2, _⟩ := mhByteS r 1 (by omega) (by omega)
  refine evlet s0 (evneg (by omega) (Ev.bind t (Ev.bind h1 (Ev.bind t (Ev.bind h2 (Ev.bind er (evpos rfl (Ev.bind t (Ev.bind ef (evpos rfl (Ev.bind hm (evneg (by simp only; omega) (Ev.bind er ?_)))))))))))))
  exact Ev.step (fun k => rfl) (Ev.bind hg1 (Ev.bind hg2 (evneg (by omega) (evpos rfl (Ev.bind t (Ev.bind h2 (Ev.bind er (evpos rfl (Ev.bind hg2 (evneg (by omega) (evpos rfl (Ev.now _))))))))))))
end Go.Proofs.Ytmnihpedokeggaa.Pure

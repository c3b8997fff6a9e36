/- The law FnExactWriteSymbols: for all lengths and symbols the program's WriteSymbols answers what the reference answers; no condition besides. -/
import Derived.Test.YtggokppfhkebkaaPFnExactWriteSymbolsx0
import Derived.Test.YtggokppfhkebkaaPFnExactWriteSymbolsx1
import Derived.Test.YtggokppfhkebkaaPFnExactWriteSymbolsx2
import Derived.Test.YtggokppfhkebkaaPFnExactWriteSymbolsx3
import Derived.Test.YtggokppfhkebkaaPFnExactWriteSymbolsx4
import Derived.Test.YtggokppfhkebkaaPFnExactWriteSymbolsx5
import Derived.Test.YtggokppfhkebkaaPFnExactWriteSymbolsx6
import Derived.Test.YtggokppfhkebkaaPFnExactWriteSymbolsx7
import Derived.Test.YtggokppfhkebkaaTFEWSK
import Derived.Laws.Bits64b
namespace Go.Proofs.Ytggokppfhkebkaa.Pure
open Go.RowKit Go.Proofs.Ytggokppfhkebkaa.PFnExactWriteSymbols Go.Proofs.Ytggokppfhkebkaa.K Go.Proofs.YtggokppfhkebkaaW.PrintWords Go.Proofs.YtggokppfhkebkaaW.PrintLast Go.Proofs.YtggokppfhkebkaaW.PrintMore

theorem toIntS (l : List Int) (hl : l.length ≤ 1048576) : Ev (fun k => laws_toIntS.f k l) l := by
  refine evpos (by omega) (evpos (by omega) ?_)
  have := down (n := l.length) (P := fun i => Ev (fun k => laws_toIntS.l0 k l (fl 0 l.length (fun j => l.getD j 0) i) (i : Int)) l) ?_ ?_
  · rw [fl_zero] at this; exact this
  · refine Ev.step (fun k => rfl) (evneg (by omega) ?_)
    rw [fl_all]
    have e := map_range_get l 0 id
    try simp only [id_eq, List.map_id_fun] at e
    rw [e]; exact Ev.now _
  · intro i hi h
    refine Ev.step (fun k => rfl) (evpos (by omega) (evpos (by omega) (evpos (by rw [fl_len]; omega) ?_)))
    rw [w64s (by omega), rd_nat, getD_lt hi, Int.toNat_natCast]
    rw [← fl_set, getD_lt hi] at h
    exact h
theorem eqIntS (l : List Int) (hl : l.length ≤ 4611686018427387904) : Ev (fun k => laws_eqIntS.f k l l) true := by
  refine evpos rfl ?_
  refine down (n := l.length) (P := fun i => Ev (fun k => laws_eqIntS.l0 k l l (i : Int)) true) ?_ ?_
  · exact Ev.step (fun k => rfl) (evneg (by omega) (Ev.now _))
  · intro i hi h
    refine Ev.step (fun k => rfl) (evpos (by omega) (evpos (by omega) (evpos (by omega) (evpos rfl ?_))))
    rw [w64s (by omega)]; exact h
theorem eqByteS (l : List Int) (hl : l.length ≤ 4611686018427387904) : Ev (fun k => laws_eqByteS.f k l l) true := by
  refine evpos rfl ?_
  refine down (n := l.length) (P := fun i => Ev (fun k => laws_eqByteS.l0 k l l (i : Int)) true) ?_ ?_
  · exact Ev.step (fun k => rfl) (evneg (by omega) (Ev.now _))
  · intro i hi h
    refine Ev.step (fun k => rfl) (evpos (by omega) (evpos (by omega) (evpos (by omega) (evpos rfl ?_))))
    rw [w64s (by omega)]; exact h
theorem mhByteS (l : List Int) (a : Int) (h0 : 0 ≤ a) (h1 : a + l.length ≤ 4611686018427387904) : ∃ l' : List Int, Ev (fun k => laws_markByteS.f k l a) (a + l.length, l') ∧ Ev (fun k => laws_heldByteS.f k l' a) (a + l.length) ∧ l'.length = l.length := by
  refine ⟨(List.range l.length).map (fun (j : Nat) => (a + (j : Int)) % 256), ?_, ?_, by simp⟩
  · have := down (n := l.length) (P := fun i => Ev (fun k => laws_markByteS.l0 k (f2 l.length (fun (j : Nat) => (a + (j : Int)) % 256) (fun j => l.getD j 0) i) (a + (i : Int)) (i : Int)) (a + l.length, (List.range l.length).map (fun (j : Nat) => (a + (j : Int)) % 256))) ?_ ?_
    · rw [f2_zero] at this; rw [show a + ((0 : Nat) : Int) = a by omega] at this; exact this
    · refine Ev.step (fun k => rfl) (evneg (by rw [f2_len]; omega) ?_)
      rw [f2_all]; exact Ev.now _
    · intro i hi h
      refine Ev.step (fun k => rfl) (evpos (by rw [f2_len]; omega) (evpos (by omega) ?_))
      rw [w64s (by omega), w64 (by omega) (by omega), Int.toNat_natCast, show a + (i : Int) + 1 = a + ((i + 1 : Nat) : Int) by omega]
      rw [← f2_set] at h
      exact h
  · have := down (n := l.length) (P := fun i => Ev (fun k => laws_heldByteS.l0 k ((List.range l.length).map (fun (j : Nat) => (a + (j : Int)) % 256)) (a + (i : Int)) (i : Int)) (a + l.length)) ?_ ?_
    · rw [show a + ((0 : Nat) : Int) = a by omega] at this; exact this
    · exact Ev.step (fun k => rfl) (evneg (by simp) (Ev.now _))
    · intro i hi h
      refine Ev.step (fun k => rfl) (evpos (by simpa using hi) (evpos (by omega) (evpos (by rw [rd_nat, range_getD _ _ _ _ hi]) ?_)))
      rw [w64s (by omega), w64 (by omega) (by omega), show a + (i : Int) + 1 = a + ((i + 1 : Nat) : Int) by omega]
      exact h
theorem uw (n : Int) (h0 : 0 ≤ n) (h1 : n < 18446744073709551616) : IntKind.u64.wrap n = n := by rw [IntKind.wrap_u64]; omega
theorem shr_u (x b : Nat) (hb : b ≤ 64) : shr .u64 (x : Int) (b : Int) = ((x / 2 ^ b : Nat) : Int) := by
  unfold shr
  rw [Int.toNat_natCast, Nat.min_eq_left (show b ≤ IntKind.u64.bits from hb)]; simp
theorem or_bd (x y : Int) : 0 ≤ Go.bits .or .u8 x y ∧ Go.bits .or .u8 x y ≤ 255 := by
  have e : Go.bits .or .u8 x y = IntKind.u8.wrap ((BitVec.ofInt 8 x ||| BitVec.ofInt 8 y).toNat : Int) := rfl
  rw [e, IntKind.wrap_u8]; omega
theorem or_zero (x : Int) (h0 : 0 ≤ x) (h1 : x ≤ 255) : Go.bits .or .u8 x 0 = x := by
  obtain ⟨a, rfl⟩ : ∃ a : Nat, x = (a : Int) := ⟨x.toNat, by omega⟩
  have := (bits_nat .u8 8 (by decide) wraps_u8 a 0 (by omega) (by decide)).2
  rw [Nat.or_zero] at this
  exact this
theorem shl_zero (p : Int) : shl .u8 0 p = 0 := by unfold shl; rw [Int.zero_mul]; rfl
/-- The bytes before the next bit is put. -/
def ext (l : List Int) (n : Nat) : List Int := if n % 8 = 0 then l ++ [0] else l
def pos (hi : Bool) (n : Nat) : Nat := if hi = true then 7 - n % 8 else n % 8
def put1 (hi : Bool) (m : List Int) (n b : Nat) : List Int := m.set (n / 8) (Go.bits .or .u8 (m.getD (n / 8) 0) (shl .u8 (b : Int) (pos hi n : Int)))
def stp (hi : Bool) (l : List Int) (n b : Nat) : List Int := put1 hi (ext l n) n b
structure Inv (l : List Int) (n : Nat) : Prop where
  len : l.length = (n + 7) / 8
  bd : ∀ x ∈ l, 0 ≤ x ∧ x ≤ 255
theorem ext_len {l : List Int} {n : Nat} (h : Inv l n) : (ext l n).length = n / 8 + 1 := by
  have := h.len
  unfold ext
  split
  · rw [List.length_append, List.length_singleton]; omega
  · omega
theorem ext_bd {l : List Int} {n : Nat} (h : Inv l n) : ∀ x ∈ ext l n, 0 ≤ x ∧ x ≤ 255 := by
  intro x hx
  unfold ext at hx
  split at hx
  · rcases List.mem_append.1 hx with hx | hx
    · exact h.bd x hx
    · obtain rfl := List.mem_singleton.1 hx; omega
  · exact h.bd x hx
theorem stp_inv {l : List Int} {n : Nat} (h : Inv l n) (hi : Bool) (b : Nat) : Inv (stp hi l n b) (n + 1) := by
  refine ⟨?_, ?_⟩
  · unfold stp put1; rw [List.length_set, ext_len h]; omega
  · intro x hx
    unfold stp put1 at hx
    rcases List.mem_or_eq_of_mem_set hx with hx | rfl
    · exact ext_bd h x hx
    · exact or_bd _ _
theorem set_self (m : List Int) (i : Nat) : m.set i (m.getD i 0) = m := by
  apply List.ext_getElem
  · simp
  · intro j h1 h2
    rw [List.getElem_set]
    by_cases c : i = j
    · subst c; rw [if_pos rfl, getD_lt h2]
    · rw [if_neg c]
theorem tm8 (n : Nat) : Int.tmod (n : Int) 8 = ((n % 8 : Nat) : Int) := (Int.ofNat_tmod n 8).symm
theorem td8 (n : Nat) (hn : n ≤ 2000000) : wrap64 (Int.tdiv (n : Int) 8) = ((n / 8 : Nat) : Int) := by
  rw [show Int.tdiv (n : Int) 8 = ((n / 8 : Nat) : Int) from (Int.ofNat_tdiv n 8).symm]; exact w64 (by omega) (by omega)
theorem w7 (n : Nat) : wrap64 (7 - ((n % 8 : Nat) : Int)) = ((7 - n % 8 : Nat) : Int) := by rw [w64 (by omega) (by omega)]; omega
theorem u7 (n : Nat) : IntKind.u64.wrap (7 - IntKind.u64.wrap ((n % 8 : Nat) : Int)) = ((7 - n % 8 : Nat) : Int) := by
  rw [uw ((n % 8 : Nat) : Int) (by omega) (by omega), uw _ (by omega) (by omega)]; omega
theorem and1 (a : Nat) (ha : a < 18446744073709551616) : Go.bits .and .u64 (a : Int) 1 = ((a % 2 : Nat) : Int) := by
  have := bits_and_u64_nat a 1 ha (by decide)
  rw [Nat.and_one_is_mod] at this
  exact this
theorem j0_spec (hi : Bool) (m : List Int) (n b : Nat) (hb : b ≤ 1) (hn : n ≤ 2000000) (hm : n / 8 < m.length) (bd : ∀ x ∈ m, 0 ≤ x ∧ x ≤ 255) : Ev (fun k => spec_l1Sink_bit.j0 k (b : Int) hi m (n : Int)) (hi, put1 hi m n b, ((n + 1 : Nat) : Int)) := by
  have f0 : (0 : Int) ≤ ((n / 8 : Nat) : Int) := by omega
  have f1 : (0 : Int) ≤ ((n % 8 : Nat) : Int) := by omega
  have f2 : (0 : Int) ≤ ((7 - n % 8 : Nat) : Int) := by omega
  have f3 : ((n / 8 : Nat) : Int) < (m.length : Int) := by omega
  have um := uw ((n % 8 : Nat) : Int) f1 (by omega)
  refine Ev.step (fun k => rfl) ?_
  simp only [spec_l1Sink_bit.j0]
  rw [tm8, td8 n hn, u7, um, w64s (by omega)]
  by_cases c : b = 1
  · subst c
    refine evpos (by decide) ?_
    unfold put1 pos
    cases hi with
    | true =>
      refine evpos rfl (evpos f0 (evpos f3 (evpos f2 ?_)))
      rw [if_pos rfl, Int.toNat_natCast, rd_nat]; exact Ev.now _
    | false =>
      refine evneg (by decide) (evpos f0 (evpos f3 (evpos f1 ?_)))
      rw [if_neg (by decide), Int.toNat_natCast, rd_nat]; exact Ev.now _
  · obtain rfl : b = 0 := by omega
    have e : put1 hi m n 0 = m := by
      unfold put1
      have x := bd (m.getD (n / 8) 0) (by rw [getD_lt hm]; exact List.getElem_mem _)
      rw [show ((0 : Nat) : Int) = 0 from rfl, shl_zero, or_zero _ x.1 x.2, set_self]
    rw [e]
    exact evneg (by decide) (Ev.now _)
theorem bit_spec (hi : Bool) (l : List Int) (n b : Nat) (h : Inv l n) (hn : n ≤ 2000000) (hb : b ≤ 1) : Ev (fun k => spec_l1Sink_bit.f k hi l (n : Int) (b : Int)) (hi, stp hi l n b, ((n + 1 : Nat) : Int)) := by
  have el := ext_len h
  have ll := h.len
  have j := j0_spec hi (ext l n) n b hb hn (by omega) (ext_bd h)
  unfold stp
  by_cases c : n % 8 = 0
  · have e : ext l n = l ++ [0] := by unfold ext; rw [if_pos c]
    rw [e] at j ⊢
    exact evpos (by rw [tm8]; omega) (evpos (by omega) j)
  · have e : ext l n = l := by unfold ext; rw [if_neg c]
    rw [e] at j ⊢
    exact evneg (by rw [tm8]; omega) j
theorem val_lt (v i : Nat) (hv : v < 18446744073709551616) : v / 2 ^ i < 18446744073709551616 := Nat.lt_of_le_of_lt (Nat.div_le_self _ _) hv
theorem put_high (l : List Int) (n v m : Nat) (h : Inv l n) (hn : n ≤ 1300000) (hm : m ≤ 64) (hv : v < 18446744073709551616) :
    ∃ l' : List Int, Inv l' (n + m) ∧ Ev (fun k => spec_l1Sink_put.f k true l (n : Int) (m : Int) (v : Int)) (true, l', ((n + m : Nat) : Int)) := by
  have main := down (n := m) (P := fun i => ∀ l : List Int, Inv l (n + i) → ∃ l' : List Int, Inv l' (n + m) ∧ Ev (fun k => spec_l1Sink_put.l0 k (m : Int) (v : Int) (i : Int) true l ((n + i : Nat) : Int)) (true, l', ((n + m : Nat) : Int))) ?_ ?_
  · exact main l h
  · intro l h
    exact ⟨l, h, Ev.step (fun k => rfl) (evneg (by omega) (Ev.now _))⟩
  · intro i hi ih l h
    obtain ⟨j, hj⟩ : ∃ j : Nat, j = m - 1 - i := ⟨_, rfl⟩
    have j64 : j ≤ 64 := by omega
    have b := bit_spec true l (n + i) (v / 2 ^ j % 2) h (by omega) (by omega)
    obtain ⟨l', g1, g2⟩ := ih _ (stp_inv h true (v / 2 ^ j % 2))
    have wj : wrap64 (wrap64 ((m : Int) - 1) - (i : Int)) = (j : Int) := by rw [w64 (n := (m : Int) - 1) (by omega) (by omega), w64 (by omega) (by omega)]; omega
    have ui := uw (j : Int) (Int.natCast_nonneg j) (Int.lt_of_le_of_lt (Int.ofNat_le.2 j64) (by decide))
    have sh := shr_u v j j64
    have an := and1 (v / 2 ^ j) (val_lt v j hv)
    refine ⟨l', g1, ?_⟩
    refine Ev.step (fun k => rfl) ?_
    simp only [spec_l1Sink_put.l0, if_true]
    rw [wj, ui, sh, an]
    refine evpos (Int.ofNat_lt.2 hi) (evpos (Int.natCast_nonneg j) (Ev.bind b ?_))
    rw [w64s (Nat.le_trans (Nat.le_of_lt hi) (Nat.le_trans hm (by decide)))]; exact g2
theorem bit_impl (hi : Bool) (l : List Int) (n a : Nat) (h : Inv l n) (hn : n ≤ 2000000) (ha : a < 18446744073709551616) : impl_bitsOut_bit.f l (n : Int) hi (a : Int) = some (stp hi l n (a % 2), ((n + 1 : Nat) : Int), hi) := by
  have el := ext_len h
  have ll := h.len
  have a2 : ((a % 2 : Nat) : Int) % 256 = ((a % 2 : Nat) : Int) := by omega
  have f0 : (0 : Int) ≤ ((n / 8 : Nat) : Int) := by omega
  have f1 : (0 : Int) ≤ ((n % 8 : Nat) : Int) := by omega
  have f2 : (0 : Int) ≤ ((7 - n % 8 : Nat) : Int) := by omega
  unfold impl_bitsOut_bit.f
  rw [tm8, td8 n hn, w7, and1 a ha, a2, w64s (by omega)]
  unfold stp put1 pos ext at *
  by_cases c : n % 8 = 0
  · have c1 : ((n % 8 : Nat) : Int) = 0 := by rw [c]; rfl
    rw [if_pos c] at el
    have f3 : ((n / 8 : Nat) : Int) < ((l ++ [0]).length : Int) := by rw [el]; omega
    rw [if_pos c1, if_pos (by omega), Option.bind_some, if_pos c]
    cases hi with
    | true => rw [if_pos rfl, if_pos f0, if_pos f3, if_pos f2, if_pos rfl, Int.toNat_natCast, rd_nat]
    | false => rw [if_neg (by decide), if_pos f0, if_pos f3, if_pos f1, if_neg (by decide), Int.toNat_natCast, rd_nat]
  · have c1 : ¬ ((n % 8 : Nat) : Int) = 0 := by omega
    rw [if_neg c] at el
    have f3 : ((n / 8 : Nat) : Int) < (l.length : Int) := by rw [el]; omega
    rw [if_neg c1, if_neg c]
    cases hi with
    | true => rw [if_pos rfl, if_pos f0, if_pos f3, if_pos f2, if_pos rfl, Int.toNat_natCast, rd_nat]
    | false => rw [if_neg (by decide), if_pos f0, if_pos f3, if_pos f1, if_neg (by decide), Int.toNat_natCast, rd_nat]
theorem high_both (l : List Int) (n v m : Nat) (h : Inv l n) (hn : n ≤ 1300000) (hm : m ≤ 64) (hv : v < 18446744073709551616) :
    ∃ l' : List Int, Inv l' (n + m) ∧ Ev (fun k => spec_l1Sink_put.f k true l (n : Int) (m : Int) (v : Int)) (true, l', ((n + m : Nat) : Int)) ∧ Ev (fun k => impl_bitsOut_highFirst.f k l (n : Int) true (v : Int) (m : Int)) (l', ((n + m : Nat) : Int), true) := by
  have main := down (n := m) (P := fun i => ∀ l : List Int, Inv l (n + i) → ∃ l' : List Int, Inv l' (n + m) ∧ Ev (fun k => spec_l1Sink_put.l0 k (m : Int) (v : Int) (i : Int) true l ((n + i : Nat) : Int)) (true, l', ((n + m : Nat) : Int)) ∧ Ev (fun k => impl_bitsOut_highFirst.l0 k (v : Int) ((m : Int) - 1 - (i : Int)) l ((n + i : Nat) : Int) true) (l', ((n + m : Nat) : Int), true)) ?_ ?_
  · obtain ⟨l', g1, g2, g3⟩ := main l h
    refine ⟨l', g1, g2, ?_⟩
    have e : wrap64 ((m : Int) - 1) = (m : Int) - 1 - ((0 : Nat) : Int) := by rw [w64 (by omega) (by omega)]; omega
    show Ev (fun k => impl_bitsOut_highFirst.l0 k (v : Int) (wrap64 ((m : Int) - 1)) l (n : Int) true) _
    rw [e]; exact g3
  · intro l h
    exact ⟨l, h, Ev.step (fun k => rfl) (evneg (by omega) (Ev.now _)), Ev.step (fun k => rfl) (evneg (by omega) (Ev.now _))⟩
  · intro i hi ih l h
    obtain ⟨j, hj⟩ : ∃ j : Nat, j = m - 1 - i := ⟨_, rfl⟩
    have j64 : j ≤ 64 := by omega
    have ej : (m : Int) - 1 - (i : Int) = (j : Int) := by omega
    have en : (m : Int) - 1 - ((i + 1 : Nat) : Int) = (j : Int) - 1 := by omega
    have b := bit_spec true l (n + i) (v / 2 ^ j % 2) h (by omega) (by omega)
    have c := bit_impl true l (n + i) (v / 2 ^ j) h (by omega) (val_lt v j hv)
    obtain ⟨l', g1, g2, g3⟩ := ih _ (stp_inv h true (v / 2 ^ j % 2))
    have wj : wrap64 (wrap64 ((m : Int) - 1) - (i : Int)) = (j : Int) := by rw [w64 (n := (m : Int) - 1) (by omega) (by omega), w64 (by omega) (by omega)]; omega
    have wn : wrap64 ((j : Int) - 1) = (j : Int) - 1 := w64 (by omega) (by omega)
    have ui := uw (j : Int) (Int.natCast_nonneg j) (Int.lt_of_le_of_lt (Int.ofNat_le.2 j64) (by decide))
    have sh := shr_u v j j64
    have an := and1 (v / 2 ^ j) (val_lt v j hv)
    rw [en] at g3
    refine ⟨l', g1, ?_, ?_⟩
    · refine Ev.step (fun k => rfl) ?_
      simp only [spec_l1Sink_put.l0, if_true]
      rw [wj, ui, sh, an]
      refine evpos (Int.ofNat_lt.2 hi) (evpos (Int.natCast_nonneg j) (Ev.bind b ?_))
      rw [w64s (Nat.le_trans (Nat.le_of_lt hi) (Nat.le_trans hm (by decide)))]; exact g2
    · rw [ej]
      refine Ev.step (fun k => rfl) ?_
      simp only [impl_bitsOut_highFirst.l0]
      rw [sh, wn]
      exact evpos (Int.natCast_nonneg j) (evpos (Int.natCast_nonneg j) (evlet c g3))
theorem shl_i (a b : Nat) (hb : b ≤ 64) (h : a * 2 ^ b ≤ 4611686018427387904) : shl .i64 (a : Int) (b : Int) = ((a * 2 ^ b : Nat) : Int) := by
  unfold shl
  rw [Int.toNat_natCast, Nat.min_eq_left (show b ≤ IntKind.i64.bits from hb), show ((a : Int) * 2 ^ b) = ((a * 2 ^ b : Nat) : Int) by push_cast; rfl, i64_w]
  generalize a * 2 ^ b = x at *
  exact w64 (by omega) (by omega)
theorem pow15 {L : Nat} (h : L ≤ 16) : 2 ^ L ≤ 65536 := Nat.pow_le_pow_right (n := 2) (by decide) h
theorem pow_pos2 (L : Nat) : 1 ≤ 2 ^ L := Nat.one_le_two_pow
/-- The kinds of lengths, by both. -/
theorem kind_both (l : List Int) (hl : l.length ≤ 1048576) : ∃ t : Int, Ev (fun k => impl_CodeKind.f k l) t ∧ Ev (fun k => spec_CodeKind.f k l) t ∧ (t ≠ 0 → l.length ≤ 300 ∧ 0 < l.length ∧ ∀ j : Nat, j < l.length → 0 ≤ rd l (j : Int) ∧ rd l (j : Int) ≤ 15) := by
  by_cases c : (l.length : Int) > 300
  · exact ⟨0, evpos c (Ev.now _), Ev.bind (evpos c (Ev.now _)) (evneg (by decide) (Ev.now _)), fun h => absurd rfl h⟩
  have fin_i : ∀ (s : Int) (b : Bool), b = (decide (s = 0) || decide (s > 32768)) → Ev (fun k => impl_CodeKind.j2 k s b) (if b = true then 0 else if s < 32768 then 1 else 2) := by
    intro s b hb
    cases b with
    | true => exact Ev.step (f := fun _ => some 0) (fun k => by simp only [impl_CodeKind.j2, if_true]) (Ev.now _)
    | false =>
      refine Ev.step (f := fun _ => if s < 32768 then some 1 else some 2) (fun k => by simp only [impl_CodeKind.j2, Bool.false_eq_true, if_false]) ?_
      simp only [Bool.false_eq_true, if_false]
      exact evval
  have fin_s : ∀ (s : Int) (b : Bool), b = (decide (s = 0) || decide (s > 32768)) → Ev (fun k => spec_CodeKind.j1 k s b) (if b = true then 0 else if s < 32768 then 1 else 2) := by
    intro s b hb
    cases b with
    | true => exact Ev.step (f := fun _ => some 0) (fun k => by simp only [spec_CodeKind.j1, if_true]) (Ev.now _)
    | false =>
      refine Ev.step (f := fun _ => if s = 32768 then some 2 else some 1) (fun k => by simp only [spec_CodeKind.j1, Bool.false_eq_true, if_false]) ?_
      simp only [Bool.false_eq_true, if_false]
      have h := hb.symm
      rw [Bool.or_eq_false_iff] at h
      have h2 := of_decide_eq_false h.2
      by_cases e : s = 32768
      · have r : (if s < 32768 then (1 : Int) else 2) = 2 := if_neg (by omega)
        rw [r]
        exact evpos e (Ev.now _)
      · have r : (if s < 32768 then (1 : Int) else 2) = 1 := if_pos (by omega)
        rw [r]
        exact evneg e (Ev.now _)
  have main := down (n := l.length) (P := fun i => (∃ b : Bool, Ev (fun k => spec_l2Valid.l0 k l (l.length : Int) (i : Int)) b ∧ ∀ s : Int, ∃ t : Int, Ev (fun k => impl_CodeKind.l0 k s l (l.length : Int) (i : Int)) t ∧ (b = true → Ev (fun k => spec_CodeKind.l0 k s l (l.length : Int) (i : Int)) t) ∧ (b = false → t = 0) ∧ (t ≠ 0 → ∀ j : Nat, i ≤ j → j < l.length → 0 ≤ rd l (j : Int) ∧ rd l (j : Int) ≤ 15))) ?_ ?_
  · obtain ⟨b, v, h⟩ := main
    obtain ⟨t, h1, h2, h3, h4⟩ := h 0
    refine ⟨t, evneg c h1, Ev.bind (evneg c v) ?_, fun ht => ⟨by omega, ?_, fun j hj => h4 ht j (by omega) hj⟩⟩
    · cases b with
      | true => exact evpos rfl (h2 rfl)
      | false =>
        rw [h3 rfl]
        exact evneg (by decide) (Ev.now _)
    · rcases Nat.eq_zero_or_pos l.length with e | e
      · exfalso
        apply ht
        refine ev_one h1 (Ev.step (fun k => rfl) (evneg (by omega) (evpos rfl (fin_i 0 true rfl))))
      · exact e
  · refine ⟨true, Ev.step (fun k => rfl) (evneg (by omega) (Ev.now _)), fun s => ?_⟩
    by_cases e : s = 0
    · exact ⟨_, Ev.step (fun k => rfl) (evneg (by omega) (evpos e (fin_i s true (by rw [decide_eq_true e]; rfl)))), fun _ => Ev.step (fun k => rfl) (evneg (by omega) (evpos e (fin_s s true (by rw [decide_eq_true e]; rfl)))), fun h => absurd h (by decide), fun _ j h1 h2 => absurd h2 (by omega)⟩
    · exact ⟨_, Ev.step (fun k => rfl) (evneg (by omega) (evneg e (fin_i s _ (by rw [decide_eq_false e]; rfl)))), fun _ => Ev.step (fun k => rfl) (evneg (by omega) (evneg e (fin_s s _ (by rw [decide_eq_false e]; rfl)))), fun h => absurd h (by decide), fun _ j h1 h2 => absurd h2 (by omega)⟩
  · intro i hi ⟨b, v, h⟩
    have w1 : wrap64 ((i : Int) + 1) = ((i + 1 : Nat) : Int) := w64s (by omega)
    have bad : ∀ (s : Int), Ev (fun k => impl_CodeKind.j1 k s (rd l (i : Int)) l (l.length : Int) (i : Int) true) 0 := fun s => Ev.step (f := fun _ => some 0) (fun k => by simp only [impl_CodeKind.j1, if_true]) (Ev.now _)
    by_cases c1 : rd l (i : Int) < 0
    · exact ⟨false, Ev.step (fun k => rfl) (evpos (by omega) (evpos (by omega) (evpos (by omega) (evpos c1 (Ev.now _))))), fun s => ⟨0, Ev.step (fun k => rfl) (evpos (by omega) (evpos (by omega) (evpos (by omega) (evpos c1 (bad s))))), fun h => absurd h (by decide), fun _ => rfl, fun h => absurd rfl h⟩⟩
    by_cases c2 : rd l (i : Int) > 15
    · refine ⟨false, Ev.step (fun k => rfl) (evpos (by omega) (evpos (by omega) (evpos (by omega) (evneg c1 (evpos c2 (Ev.now _)))))), fun s => ⟨0, Ev.step (fun k => rfl) (evpos (by omega) (evpos (by omega) (evpos (by omega) (evneg c1 ?_)))), fun h => absurd h (by decide), fun _ => rfl, fun h => absurd rfl h⟩⟩
      rw [decide_eq_true c2]; exact bad s
    refine ⟨b, Ev.step (fun k => rfl) (evpos (by omega) (evpos (by omega) (evpos (by omega) (evneg c1 (evneg c2 (by rw [w1]; exact v)))))), fun s => ?_⟩
    have u1 : IntKind.u64.wrap (wrap64 (15 - rd l (i : Int))) = 15 - rd l (i : Int) := by rw [w64 (n := 15 - rd l (i : Int)) (by omega) (by omega)]; exact uw _ (by omega) (by omega)
    have u2 : wrap64 (15 - rd l (i : Int)) = 15 - rd l (i : Int) := w64 (by omega) (by omega)
    obtain ⟨t, h1, h2, h3, h4⟩ := h (if rd l (i : Int) > 0 then wrap64 (s + shl .i64 1 (15 - rd l (i : Int))) else s)
    refine ⟨t, Ev.step (fun k => rfl) (evpos (by omega) (evpos (by omega) (evpos (by omega) (evneg c1 ?_)))), fun hb => Ev.step (fun k => rfl) (evpos (by omega) (evpos (by omega) (evpos (by omega) ?_))), h3, fun ht j j1 j2 => ?_⟩
    · rw [decide_eq_false c2]
      refine Ev.step (f := fun k => if rd l (i : Int) > 0 then (if 0 ≤ wrap64 (15 - rd l (i : Int)) then impl_CodeKind.l0 k (wrap64 (s + shl .i64 1 (wrap64 (15 - rd l (i : Int))))) l (l.length : Int) (wrap64 ((i : Int) + 1)) else none) else impl_CodeKind.l0 k s l (l.length : Int) (wrap64 ((i : Int) + 1))) (fun k => by simp only [impl_CodeKind.j1, Bool.false_eq_true, if_false]) ?_
      rw [u2, w1]
      by_cases c3 : rd l (i : Int) > 0
      · rw [if_pos c3] at h1
        exact evpos c3 (evpos (by omega) h1)
      · rw [if_neg c3] at h1
        exact evneg c3 h1
    · rw [u1, w1]
      have h2 := h2 hb
      by_cases c3 : rd l (i : Int) > 0
      · rw [if_pos c3] at h2
        exact evpos c3 (evpos (by omega) h2)
      · rw [if_neg c3] at h2
        exact evneg c3 h2
    · rcases Nat.lt_or_ge i j with e | e
      · exact h4 ht j (by omega) j2
      · rw [show j = i by omega]; omega
/-- How the program's next word and the reference's last word stand to each other, at length L. -/
def Nx (L nw wd la : Nat) : Prop := (la = 0 ∧ nw = 0 ∧ wd = 0) ∨ (1 ≤ la ∧ la ≤ L ∧ nw = (wd + 1) * 2 ^ (L - la))
theorem words_both (l : List Int) (hn : l.length ≤ 300) :
    ∃ ws : List Int, ws.length = l.length ∧ (∀ x ∈ ws, 0 ≤ x ∧ x ≤ 100000000) ∧ Ev (fun k => impl_CodeWords.l0 k l (List.replicate l.length 0) 0 1) ws ∧ Ev (fun k => spec_l2Words.f k l) ws := by
  have main : ∀ (m L : Nat), L + m = 16 → 1 ≤ L → ∀ (o : List Int) (nw wd la : Nat), o.length = l.length → (∀ x ∈ o, 0 ≤ x ∧ x ≤ 100000000) → Nx (L - 1) nw wd la → nw ≤ 300 * (2 ^ L - 1) →
      ∃ ws : List Int, ws.length = l.length ∧ (∀ x ∈ ws, 0 ≤ x ∧ x ≤ 100000000) ∧ Ev (fun k => impl_CodeWords.l0 k l o (nw : Int) (L : Int)) ws ∧ Ev (fun k => spec_l2Words.l0 k l o (wd : Int) (la : Int) (L : Int)) ws := by
    intro m
    induction m with
    | zero =>
      intro L hL L1 o nw wd la ho hb _ _
      exact ⟨o, ho, hb, Ev.step (fun k => rfl) (evneg (by omega) (Ev.now _)), Ev.step (fun k => rfl) (evneg (by omega) (Ev.now _))⟩
    | succ m ih =>
      intro L hL L1 o nw wd la ho hb hx hw
      have p1 := pow15 (L := L) (by omega)
      have p2 : 2 ^ (L + 1) = 2 * 2 ^ L := by rw [Nat.pow_succ]; omega
      have p3 := pow_pos2 L
      have inner := down (n := l.length) (P := fun i => ∀ (o : List Int) (nw wd la : Nat), o.length = l.length → (∀ x ∈ o, 0 ≤ x ∧ x ≤ 100000000) → Nx L nw wd la → nw ≤ 600 * (2 ^ L - 1) + i →
        ∃ ws : List Int, ws.length = l.length ∧ (∀ x ∈ ws, 0 ≤ x ∧ x ≤ 100000000) ∧ Ev (fun k => impl_CodeWords.l1 k l o (nw : Int) (L : Int) l (l.length : Int) (i : Int)) ws ∧ Ev (fun k => spec_l2Words.l1 k l o (wd : Int) (la : Int) (L : Int) (l.length : Int) (i : Int)) ws) ?_ ?_
      · have hx2 : Nx L (nw * 2) wd la := by
          rcases hx with ⟨a, b, c⟩ | ⟨a, b, c⟩
          · exact Or.inl ⟨a, by omega, c⟩
          · refine Or.inr ⟨a, by omega, ?_⟩
            rw [c, Nat.mul_assoc, ← Nat.pow_succ]
            congr 2
            omega
        obtain ⟨ws, g1, g2, g3, g4⟩ := inner o (nw * 2) wd la ho hb hx2 (by omega)
        refine ⟨ws, g1, g2, Ev.step (fun k => rfl) (evpos (by omega) ?_), Ev.step (fun k => rfl) (evpos (by omega) g4)⟩
        rw [show wrap64 ((nw : Int) * 2) = ((nw * 2 : Nat) : Int) by rw [w64 (by omega) (by omega)]; omega]
        exact g3
      · intro o nw wd la ho hb hx hw
        obtain ⟨ws, g1, g2, g3, g4⟩ := ih (L + 1) (by omega) (by omega) o nw wd la ho hb (by rw [Nat.add_sub_cancel]; exact hx) (by rw [p2]; omega)
        have e := Aside0.mk (show wrap64 ((L : Int) + 1) = ((L + 1 : Nat) : Int) from w64s (by omega))
        refine ⟨ws, g1, g2, Ev.step (fun k => rfl) (evneg (by omega) (by rw [e.out]; exact g3)), Ev.step (fun k => rfl) (evneg (by omega) (by rw [e.out]; exact g4))⟩
      · intro i hi next o nw wd la ho hb hx hw
        have e1 := Aside0.mk (show wrap64 ((i : Int) + 1) = ((i + 1 : Nat) : Int) from w64s (by omega))
        by_cases c : rd l (i : Int) = (L : Int)
        case neg =>
          obtain ⟨ws, g1, g2, g3, g4⟩ := next o nw wd la ho hb hx (by omega)
          refine ⟨ws, g1, g2, Ev.step (fun k => rfl) (evpos (by omega) (evpos (by omega) (evpos (by omega) (evneg c (by rw [e1.out]; exact g3))))), Ev.step (fun k => rfl) (evpos (by omega) (evpos (by omega) (evpos (by omega) (evneg c (by rw [e1.out]; exact g4)))))⟩
        have e2 := Aside0.mk (show wrap64 ((nw : Int) + 1) = ((nw + 1 : Nat) : Int) from w64s (by omega))
        have hb2 : ∀ x ∈ o.set i (nw : Int), 0 ≤ x ∧ x ≤ 100000000 := by
          intro x hx
          rcases List.mem_or_eq_of_mem_set hx with hx | rfl
          · exact hb x hx
          · omega
        obtain ⟨ws, g1, g2, g3, g4⟩ := next (o.set i (nw : Int)) (nw + 1) nw L (by rw [List.length_set]; exact ho) hb2 (Or.inr ⟨L1, Nat.le_refl _, by rw [Nat.sub_self]; omega⟩) (by omega)
        refine ⟨ws, g1, g2, Ev.step (fun k => rfl) (evpos (by omega) (evpos (by omega) (evpos (by omega) (evpos c (evpos (by omega) ?_))))), Ev.step (fun k => rfl) (evpos (by omega) (evpos (by omega) (evpos (by omega) (evpos c ?_))))⟩
        · rw [e1.out, e2.out, Int.toNat_natCast]; exact g3
        · rw [e1.out, Int.toNat_natCast]
          rcases hx with ⟨a, b, d⟩ | ⟨a, b, d⟩
          · refine evneg (by omega) (evpos (by omega) ?_)
            subst b
            subst d
            exact g4
          · have hd := Aside0.mk d
            have u1 := Aside0.mk (show IntKind.u64.wrap (wrap64 ((L : Int) - (la : Int))) = ((L - la : Nat) : Int) by
              rw [w64 (n := (L : Int) - (la : Int)) (by omega) (by omega), uw _ (by omega) (by omega)]; omega)
            have u2 := Aside0.mk (show wrap64 ((wd : Int) + 1) = ((wd + 1 : Nat) : Int) by
              have := Nat.le_mul_of_pos_right (wd + 1) (pow_pos2 (L - la))
              exact w64s (by omega))
            rw [u1.out, u2.out, shl_i (wd + 1) (L - la) (by omega) (by rw [← hd.out]; omega), ← hd.out]
            exact evpos (by omega) (evpos (by omega) (evpos (by omega) g4))
  obtain ⟨ws, g1, g2, g3, g4⟩ := main 15 1 rfl (by omega) (List.replicate l.length 0) 0 0 0 (by simp) (fun x hx => by rw [List.eq_of_mem_replicate hx]; omega) (Or.inl ⟨rfl, rfl, rfl⟩) (by omega)
  refine ⟨ws, g1, g2, g3, ?_⟩
  exact evpos (by omega) (evpos (by omega) g4)
theorem write_both (ls l : List Int) (h1 : ls.length ≤ 1048576) (h2 : l.length ≤ 1048576) : ∃ o : List Int, o.length ≤ 1048576 ∧ Ev (fun k => spec_WriteSymbols.f k ls l) o ∧ Ev (fun k => impl_WriteSymbols.f k ls l) o := by
  obtain ⟨t, ki, ks, kt⟩ := kind_both ls h1
  by_cases c : t = 0
  · exact ⟨[], by simp, Ev.bind ks (evpos c (Ev.now _)), Ev.bind ki (evpos c (Ev.now _))⟩
  obtain ⟨n3, n0, hv⟩ := kt c
  obtain ⟨ws, wl, wb, wi, wsp⟩ := words_both ls n3
  have wi2 : Ev (fun k => impl_CodeWords.f k ls) ws := Ev.bind ki (evneg c (evpos (by omega) (evpos (by omega) wi)))
  by_cases cl : (l.length : Int) > 20000
  · exact ⟨[], by simp, Ev.bind ks (evneg c (evpos cl (Ev.now _))), Ev.bind ki (evneg c (Ev.bind wi2 (evpos (by omega) (evpos cl (Ev.now _)))))⟩
  have main := down (n := l.length) (P := fun i => ∀ (b : List Int) (n : Nat), Inv b n → n ≤ 16 * i → ∃ o : List Int, o.length ≤ 1048576 ∧ Ev (fun k => spec_WriteSymbols.l0 k ls l ws (i : Int) b (n : Int) true) o ∧ Ev (fun k => impl_WriteSymbols.l0 k ls l ws (i : Int) b (n : Int) true) o) ?_ ?_
  · obtain ⟨o, ho, g1, g2⟩ := main [] 0 ⟨rfl, fun x hx => by cases hx⟩ (by omega)
    exact ⟨o, ho, Ev.bind ks (evneg c (evneg cl (Ev.bind wsp (evpos (by omega) g1)))), Ev.bind ki (evneg c (Ev.bind wi2 (evpos (by omega) (evneg cl g2))))⟩
  · intro b n h hn
    exact ⟨b, by have := h.len; omega, Ev.step (fun k => rfl) (evneg (by omega) (Ev.now _)), Ev.step (fun k => rfl) (evneg (by omega) (Ev.now _))⟩
  · intro i hi next b n h hn
    have e1 := Aside0.mk (show wrap64 ((i : Int) + 1) = ((i + 1 : Nat) : Int) from w64s (by omega))
    by_cases c3 : rd l (i : Int) < 0
    · exact ⟨[], by simp, Ev.step (fun k => rfl) (evpos (by omega) (evpos (by omega) (evpos c3 (Ev.now _)))), Ev.step (fun k => rfl) (evpos (by omega) (evpos (by omega) (evpos c3 (Ev.now _))))⟩
    by_cases c4 : rd l (i : Int) ≥ (ls.length : Int)
    · exact ⟨[], by simp, Ev.step (fun k => rfl) (evpos (by omega) (evpos (by omega) (evneg c3 (evpos c4 (Ev.now _))))), Ev.step (fun k => rfl) (evpos (by omega) (evpos (by omega) (evneg c3 (evpos c4 (Ev.now _)))))⟩
    by_cases c5 : rd ls (rd l (i : Int)) = 0
    · exact ⟨[], by simp, Ev.step (fun k => rfl) (evpos (by omega) (evpos (by omega) (evneg c3 (evneg c4 (evpos c5 (Ev.now _)))))), Ev.step (fun k => rfl) (evpos (by omega) (evpos (by omega) (evneg c3 (evneg c4 (evpos c5 (Ev.now _))))))⟩
    obtain ⟨s, hs⟩ : ∃ s : Nat, rd l (i : Int) = (s : Int) := ⟨(rd l (i : Int)).toNat, by omega⟩
    have hsl : s < ls.length := by omega
    obtain ⟨v0, v1⟩ := hv s hsl
    obtain ⟨m, hm⟩ : ∃ m : Nat, rd ls (s : Int) = (m : Int) := ⟨(rd ls (s : Int)).toNat, by omega⟩
    have wv : 0 ≤ rd ws (s : Int) ∧ rd ws (s : Int) ≤ 100000000 := by
      have : rd ws (s : Int) ∈ ws := by
        rw [rd_nat, getD_lt (by omega)]
        exact List.getElem_mem _
      exact wb _ this
    obtain ⟨v, hvv⟩ : ∃ v : Nat, rd ws (s : Int) = (v : Int) := ⟨(rd ws (s : Int)).toNat, by omega⟩
    have uv : IntKind.u64.wrap (rd ws (rd l (i : Int))) = (v : Int) := by rw [hs, hvv]; exact uw _ (by omega) (by omega)
    have hml : rd ls (rd l (i : Int)) = (m : Int) := by rw [hs, hm]
    obtain ⟨b', q1, q2, q3⟩ := high_both b n v m h (by omega) (by omega) (by omega)
    obtain ⟨o, ho, g1, g2⟩ := next b' (n + m) q1 (by omega)
    have U := Aside0.mk uv
    have M := Aside0.mk hml
    have E := e1
    clear uv
    refine ⟨o, ho, Ev.step (fun k => rfl) (evpos (by omega) (evpos (by omega) (evneg c3 (evneg c4 (evneg c5 (evpos (by omega) ?_)))))), Ev.step (fun k => rfl) (evpos (by omega) (evpos (by omega) (evneg c3 (evneg c4 (evneg c5 (evpos (by omega) ?_))))))⟩
    · rw [U.out, M.out, E.out]; exact Ev.bind q2 g1
    · rw [U.out, M.out, E.out]; exact Ev.bind q3 g2
theorem markI (l : List Int) (a : Int) (h0 : 0 ≤ a) (h1 : a + l.length ≤ 4611686018427387904) : ∃ l' : List Int, Ev (fun k => laws_markIntS.f k l a) (a + l.length, l') := by
  have := down (n := l.length) (P := fun i => ∀ (o : List Int), o.length = l.length → ∃ l' : List Int, Ev (fun k => laws_markIntS.l0 k o (a + (i : Int)) (i : Int)) (a + l.length, l')) ?_ ?_
  · obtain ⟨l', h⟩ := this l rfl
    rw [show a + ((0 : Nat) : Int) = a by omega] at h
    exact ⟨l', h⟩
  · intro o ho
    exact ⟨o, Ev.step (fun k => rfl) (evneg (by omega) (Ev.now _))⟩
  · intro i hi h o ho
    obtain ⟨l', g⟩ := h (o.set i (a + (i : Int))) (by rw [List.length_set]; exact ho)
    refine ⟨l', Ev.step (fun k => rfl) (evpos (by omega) (evpos (by omega) ?_))⟩
    rw [w64s (by omega), w64 (by omega) (by omega), Int.toNat_natCast, show a + (i : Int) + 1 = a + ((i + 1 : Nat) : Int) by omega]
    exact g
theorem FnExactWriteSymbols : laws_FnExactWriteSymbols.Pure := by
  intro ls l hls hl _ _ _ _
  refine Ev.rounds ?_
  by_cases c1 : (ls.length : Int) > 1048576
  · exact evpos c1 (Ev.now _)
  by_cases c2 : (l.length : Int) > 1048576
  · exact evneg c1 (evpos c2 (Ev.now _))
  obtain ⟨o, ho, s, p⟩ := write_both ls l (by omega) (by omega)
  have t1 := toIntS ls (by omega)
  have t2 := toIntS l (by omega)
  have eo := eqByteS o (by omega)
  have e1 := eqIntS ls (by omega)
  have e2 := eqIntS l (by omega)
  obtain ⟨m1, hm1⟩ := markI ls 1 (by omega) (by omega)
  obtain ⟨m2, hm2⟩ := markI l (1 + ls.length) (by omega) (by omega)
  obtain ⟨g, hg1, hg2, _⟩ := mhByteS o 1 (by omega) (by omega)
  have jn : Ev (fun k => laws_FnExactWriteSymbols.j0 k ls l o o (!true)) true := by
    refine Ev.step (f := fun k => (laws_markByteS.f k o 1).bind fun bt194 => ((laws_heldByteS.f k bt194.2 1).bind fun t196 => (if t196 < 0 then (some false) else (if t196 = bt194.1 then ((laws_toIntS.f k ls).bind fun t197 => ((laws_toIntS.f k l).bind fun t200 => ((impl_WriteSymbols.f k t197 t200).bind fun t203 => ((laws_eqByteS.f k t203 o).bind fun t206 => (if t206 = true then ((laws_heldByteS.f k bt194.2 1).bind fun t207 => (if t207 < 0 then (some false) else (if t207 = bt194.1 then (some true) else (some false)))) else (some false)))))) else (some false))))) (fun k => by simp only [laws_FnExactWriteSymbols.j0, Bool.not_true, Bool.false_eq_true, if_false]) ?_
    exact Ev.bind hg1 (Ev.bind hg2 (evneg (by omega) (evpos rfl (Ev.bind t1 (Ev.bind t2 (Ev.bind p (Ev.bind eo (evpos rfl (Ev.bind hg2 (evneg (by omega) (evpos rfl (Ev.now _))))))))))))
  refine evneg c1 (evneg c2 (Ev.bind t1 (Ev.bind t2 (Ev.bind s (Ev.bind t1 (Ev.bind t2 (Ev.bind p (Ev.bind eo (evpos rfl (Ev.bind t1 (Ev.bind e1 (evpos rfl (Ev.bind t2 (Ev.bind e2 (evpos rfl (Ev.bind hm1 (Ev.bind hm2 ?_)))))))))))))))))
  exact evneg (by simp only; omega) (Ev.bind eo jn)
end Go.Proofs.Ytggokppfhkebkaa.Pure

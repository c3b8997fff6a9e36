/- FnExactReadParts: the program's ReadParts answers as the reference, writes into no argument, and its answer owns its memory; no condition. -/
import Derived.Test.YtidblealnaicpaaPFnExactReadPartsx0
import Derived.Test.YtidblealnaicpaaPFnExactReadPartsx1
import Derived.Test.YtidblealnaicpaaPFnExactReadPartsx2
import Derived.Test.YtidblealnaicpaaPFnExactReadPartsx3
import Derived.Test.YtidblealnaicpaaPFnExactReadPartsx4
import Derived.Test.YtidblealnaicpaaPFnExactReadPartsx5
import Derived.Test.YtidblealnaicpaaPFnExactReadPartsx6
import Derived.Test.YtidblealnaicpaaTFERPK
import Derived.Laws.Bits64b
namespace Go.Proofs.Ytidblealnaicpaa.Pure
open Go.RowKit Go.Proofs.Ytidblealnaicpaa.PFnExactReadParts Go.Proofs.Ytidblealnaicpaa.K Go.Proofs.YtidblealnaicpaaW.PrintWords Go.Proofs.YtidblealnaicpaaW.PrintLast Go.Proofs.YtidblealnaicpaaW.PrintMore

theorem rdT94 (l : List S94) (i : Nat) : rd_T94 l (i : Int) = l.getD i z94 := by simp [rd_T94]
theorem rdL3n (l : List (List Bool)) (i : Nat) : rd_L3 l (i : Int) = l.getD i ([] : List Bool) := by simp [rd_L3]
theorem rdL4n (l : List (List Int)) (i : Nat) : rd_L4 l (i : Int) = l.getD i ([] : List Int) := by simp [rd_L4]
theorem rdL5n (l : List (List Int)) (i : Nat) : rd_L5 l (i : Int) = l.getD i ([] : List Int) := by simp [rd_L5]
theorem rdL6n (l : List (List (List Int))) (i : Nat) : rd_L6 l (i : Int) = l.getD i ([] : List (List Int)) := by simp [rd_L6]
theorem eqIntS (l : List Int) (hl : l.length ≤ 4611686018427387904) : Ev (fun k => laws_eqIntS.f k l l) true := by
  refine evpos rfl ?_
  refine down (n := l.length) (P := fun i => Ev (fun k => laws_eqIntS.l0 k l l (i : Int)) true) ?_ ?_
  · exact Ev.step (fun k => rfl) (evneg (by omega) (Ev.now _))
  · intro i hi h
    refine Ev.step (fun k => rfl) (evpos (by omega) (evpos (by omega) (evpos (by omega) (evpos rfl ?_))))
    rw [w64s (by omega)]; exact h
theorem mhIntS (l : List Int) (a : Int) (h0 : 0 ≤ a) (h1 : a + l.length ≤ 4611686018427387904) : ∃ l' : List Int, Ev (fun k => laws_markIntS.f k l a) (a + l.length, l') ∧ Ev (fun k => laws_heldIntS.f k l' a) (a + l.length) ∧ l'.length = l.length := by
  refine ⟨(List.range l.length).map (fun (j : Nat) => a + (j : Int)), ?_, ?_, by simp⟩
  · have := down (n := l.length) (P := fun i => Ev (fun k => laws_markIntS.l0 k (f2 l.length (fun (j : Nat) => a + (j : Int)) (fun j => l.getD j 0) i) (a + (i : Int)) (i : Int)) (a + l.length, (List.range l.length).map (fun (j : Nat) => a + (j : Int)))) ?_ ?_
    · rw [f2_zero] at this; rw [show a + ((0 : Nat) : Int) = a by omega] at this; exact this
    · refine Ev.step (fun k => rfl) (evneg (by rw [f2_len]; omega) ?_)
      rw [f2_all]; exact Ev.now _
    · intro i hi h
      refine Ev.step (fun k => rfl) (evpos (by rw [f2_len]; omega) (evpos (by omega) ?_))
      rw [w64s (by omega), w64 (by omega) (by omega), Int.toNat_natCast, show a + (i : Int) + 1 = a + ((i + 1 : Nat) : Int) by omega]
      rw [← f2_set] at h
      exact h
  · have := down (n := l.length) (P := fun i => Ev (fun k => laws_heldIntS.l0 k ((List.range l.length).map (fun (j : Nat) => a + (j : Int))) (a + (i : Int)) (i : Int)) (a + l.length)) ?_ ?_
    · rw [show a + ((0 : Nat) : Int) = a by omega] at this; exact this
    · exact Ev.step (fun k => rfl) (evneg (by simp) (Ev.now _))
    · intro i hi h
      refine Ev.step (fun k => rfl) (evpos (by simpa using hi) (evpos (by omega) (evpos (by rw [rd_nat, range_getD _ _ _ _ hi]) ?_)))
      rw [w64s (by omega), w64 (by omega) (by omega), show a + (i : Int) + 1 = a + ((i + 1 : Nat) : Int) by omega]
      exact h
theorem toByteS (l : List Int) (hl : l.length ≤ 1048576) : Ev (fun k => laws_toByteS.f k l) l := by
  refine evpos (by omega) (evpos (by omega) ?_)
  have := down (n := l.length) (P := fun i => Ev (fun k => laws_toByteS.l0 k l (fl 0 l.length (fun j => l.getD j 0) i) (i : Int)) l) ?_ ?_
  · rw [fl_zero] at this; exact this
  · refine Ev.step (fun k => rfl) (evneg (by omega) ?_)
    rw [fl_all]
    have e := map_range_get l 0 id
    try simp only [id_eq, List.map_id_fun] at e
    rw [e]; exact Ev.now _
  · intro i hi h
    refine Ev.step (fun k => rfl) (evpos (by omega) (evpos (by omega) (evpos (by rw [fl_len]; omega) ?_)))
    rw [w64s (by omega), rd_nat, getD_lt hi, Int.toNat_natCast]
    rw [← fl_set, getD_lt hi] at h
    exact h
theorem eqByteS (l : List Int) (hl : l.length ≤ 4611686018427387904) : Ev (fun k => laws_eqByteS.f k l l) true := by
  refine evpos rfl ?_
  refine down (n := l.length) (P := fun i => Ev (fun k => laws_eqByteS.l0 k l l (i : Int)) true) ?_ ?_
  · exact Ev.step (fun k => rfl) (evneg (by omega) (Ev.now _))
  · intro i hi h
    refine Ev.step (fun k => rfl) (evpos (by omega) (evpos (by omega) (evpos (by omega) (evpos rfl ?_))))
    rw [w64s (by omega)]; exact h
theorem mhByteS (l : List Int) (a : Int) (h0 : 0 ≤ a) (h1 : a + l.length ≤ 4611686018427387904) : ∃ l' : List Int, Ev (fun k => laws_markByteS.f k l a) (a + l.length, l') ∧ Ev (fun k => laws_heldByteS.f k l' a) (a + l.length) ∧ l'.length = l.length := by
  refine ⟨(List.range l.length).map (fun (j : Nat) => (a + (j : Int)) % 256), ?_, ?_, by simp⟩
  · have := down (n := l.length) (P := fun i => Ev (fun k => laws_markByteS.l0 k (f2 l.length (fun (j : Nat) => (a + (j : Int)) % 256) (fun j => l.getD j 0) i) (a + (i : Int)) (i : Int)) (a + l.length, (List.range l.length).map (fun (j : Nat) => (a + (j : Int)) % 256))) ?_ ?_
    · rw [f2_zero] at this; rw [show a + ((0 : Nat) : Int) = a by omega] at this; exact this
    · refine Ev.step (fun k => rfl) (evneg (by rw [f2_len]; omega) ?_)
      rw [f2_all]; exact Ev.now _
    · intro i hi h
      refine Ev.step (fun k => rfl) (evpos (by rw [f2_len]; omega) (evpos (by omega) ?_))
      rw [w64s (by omega), w64 (by omega) (by omega), Int.toNat_natCast, show a + (i : Int) + 1 = a + ((i + 1 : Nat) : Int) by omega]
      rw [← f2_set] at h
      exact h
  · have := down (n := l.length) (P := fun i => Ev (fun k => laws_heldByteS.l0 k ((List.range l.length).map (fun (j : Nat) => (a + (j : Int)) % 256)) (a + (i : Int)) (i : Int)) (a + l.length)) ?_ ?_
    · rw [show a + ((0 : Nat) : Int) = a by omega] at this; exact this
    · exact Ev.step (fun k => rfl) (evneg (by simp) (Ev.now _))
    · intro i hi h
      refine Ev.step (fun k => rfl) (evpos (by simpa using hi) (evpos (by omega) (evpos (by rw [rd_nat, range_getD _ _ _ _ hi]) ?_)))
      rw [w64s (by omega), w64 (by omega) (by omega), show a + (i : Int) + 1 = a + ((i + 1 : Nat) : Int) by omega]
      exact h
theorem eqBoolS (l : List Bool) (hl : l.length ≤ 4611686018427387904) : Ev (fun k => laws_eqBoolS.f k l l) true := by
  refine evpos rfl ?_
  refine down (n := l.length) (P := fun i => Ev (fun k => laws_eqBoolS.l0 k l l (i : Int)) true) ?_ ?_
  · exact Ev.step (fun k => rfl) (evneg (by omega) (Ev.now _))
  · intro i hi h
    refine Ev.step (fun k => rfl) (evpos (by omega) (evpos (by omega) (evpos (by omega) (evneg (by simp) ?_))))
    rw [w64s (by omega)]; exact h
theorem eqByteSS (l : List (List Int)) (hl : (l.length ≤ 4611686018427387904 ∧ ∀ y0 ∈ l, y0.length ≤ 4611686018427387904)) : Ev (fun k => laws_eqByteSS.f k l l) true := by
  obtain ⟨hl, hs⟩ := hl
  refine evpos rfl ?_
  refine down (n := l.length) (P := fun i => Ev (fun k => laws_eqByteSS.l0 k l l (i : Int)) true) ?_ ?_
  · exact Ev.step (fun k => rfl) (evneg (by omega) (Ev.now _))
  · intro i hi h
    have hm := hs _ (List.getElem_mem hi)
    refine Ev.step (fun k => rfl) (evpos (by omega) (evpos (by omega) (evpos (by omega) ?_)))
    rw [rdL5n, getD_lt hi, w64s (by omega)]
    exact Ev.bind (eqByteS _ hm) (evpos rfl h)
theorem eqPiled (a0_0 : Int) (a0_1 : Int) (a0_2 : Int) (l0_3 : List Bool) (l0_4 : List Int) (l0_5 : List (List Int)) (hl0_3 : l0_3.length ≤ 4611686018427387904) (hl0_4 : l0_4.length ≤ 4611686018427387904) (hl0_5 : (l0_5.length ≤ 4611686018427387904 ∧ ∀ y0 ∈ l0_5, y0.length ≤ 4611686018427387904)) : Ev (fun k => laws_eqPiled.f k a0_0 a0_1 a0_2 l0_3 l0_4 l0_5 a0_0 a0_1 a0_2 l0_3 l0_4 l0_5) true :=
  evpos rfl (evpos rfl (evpos rfl (Ev.bind (eqBoolS l0_3 hl0_3) (evpos rfl (Ev.bind (eqIntS l0_4 hl0_4) (evpos rfl (Ev.bind (eqByteSS l0_5 hl0_5) (evpos rfl (Ev.now _)))))))))
theorem xor32 (a b : Nat) (ha : a < 4294967296) (hb : b < 4294967296) : Go.bits .xor .u32 (a : Int) (b : Int) = ((a ^^^ b : Nat) : Int) ∧ a ^^^ b < 4294967296 := by
  have hx : a ^^^ b < 2 ^ 32 := Nat.xor_lt_two_pow ha hb
  have h1 : (BitVec.ofInt 32 (a : Int)).toNat = a := by
    rw [BitVec.ofInt_natCast, BitVec.toNat_ofNat]; exact Nat.mod_eq_of_lt ha
  have h2 : (BitVec.ofInt 32 (b : Int)).toNat = b := by
    rw [BitVec.ofInt_natCast, BitVec.toNat_ofNat]; exact Nat.mod_eq_of_lt hb
  have e : Go.bits .xor .u32 (a : Int) (b : Int) = IntKind.u32.wrap ((BitVec.ofInt 32 (a : Int) ^^^ BitVec.ofInt 32 (b : Int)).toNat : Int) := rfl
  have hx' : a ^^^ b < 4294967296 := hx
  rw [e, BitVec.toNat_xor, h1, h2, IntKind.wrap_u32]
  generalize a ^^^ b = z at hx'
  omega
theorem and32 (a : Nat) (ha : a < 4294967296) : Go.bits .and .u32 (a : Int) 1 = ((a % 2 : Nat) : Int) := by
  have h1 : (BitVec.ofInt 32 (a : Int)).toNat = a := by
    rw [BitVec.ofInt_natCast, BitVec.toNat_ofNat]; exact Nat.mod_eq_of_lt ha
  have h2 : (BitVec.ofInt 32 1).toNat = 1 := by decide
  have e : Go.bits .and .u32 (a : Int) 1 = IntKind.u32.wrap ((BitVec.ofInt 32 (a : Int) &&& BitVec.ofInt 32 1).toNat : Int) := rfl
  rw [e, BitVec.toNat_and, h1, h2, Nat.and_one_is_mod, IntKind.wrap_u32]
  omega
def cs (x : Nat) : Nat := if x % 2 = 1 then (x / 2) ^^^ 3988292384 else x / 2
theorem cs_lt {x : Nat} (h : x < 4294967296) : cs x < 4294967296 := by
  unfold cs
  split
  · exact (xor32 _ _ (by omega) (by decide)).2
  · omega
def itr : Nat → Nat → Nat
  | 0, x => x
  | m + 1, x => itr m (cs x)
theorem itr_lt : ∀ (m x : Nat), x < 4294967296 → itr m x < 4294967296
  | 0, _, h => h
  | m + 1, _, h => itr_lt m _ (cs_lt h)
theorem spec_in (l : List Int) (n j : Int) (y : Nat) (r : Int) (h : Ev (fun k => spec_Crc.l0 k (y : Int) l n (wrap64 (j + 1))) r) (x : Nat) (hx : x < 4294967296) (hy : itr 8 x = y) : Ev (fun k => spec_Crc.l1 k (x : Int) 0 l n j) r := by
  have main := down (n := 8) (P := fun i => ∀ x : Nat, x < 4294967296 → itr (8 - i) x = y → Ev (fun k => spec_Crc.l1 k (x : Int) (i : Int) l n j) r) ?_ ?_
  · exact main x hx hy
  · intro x hx e
    obtain rfl : x = y := e
    generalize hN : ((8 : Nat) : Int) = N
    exact Ev.step (fun _ => rfl) (evneg (by omega) h)
  · intro i hi ih x hx e
    have e2 : itr (8 - (i + 1)) (cs x) = y := by
      rw [show 8 - i = (8 - (i + 1)) + 1 by omega] at e; exact e
    have g := ih (cs x) (cs_lt hx) e2
    refine Ev.step (fun _ => rfl) (evpos (by omega) ?_)
    rw [and32 x hx, w64s (by omega)]
    unfold cs at g
    by_cases c : x % 2 = 1
    · rw [if_pos c] at g
      refine evpos (by rw [c]; rfl) ?_
      rw [show (x : Int) / 2 = ((x / 2 : Nat) : Int) by omega, show (3988292384 : Int) = ((3988292384 : Nat) : Int) from rfl, (xor32 (x / 2) 3988292384 (by omega) (by decide)).1]
      exact g
    · rw [if_neg c] at g
      refine evneg (by omega) ?_
      rw [show (x : Int) / 2 = ((x / 2 : Nat) : Int) by omega]
      exact g
theorem impl_in (l : List Int) (n j : Int) (y : Nat) (r : Int) (h : Ev (fun k => impl_Crc.l0 k (y : Int) l n (wrap64 (j + 1))) r) (x : Nat) (hx : x < 4294967296) (hy : itr 8 x = y) : Ev (fun k => impl_Crc.l1 k (x : Int) l n j 0) r := by
  have main := down (n := 8) (P := fun i => ∀ x : Nat, x < 4294967296 → itr (8 - i) x = y → Ev (fun k => impl_Crc.l1 k (x : Int) l n j (i : Int)) r) ?_ ?_
  · exact main x hx hy
  · intro x hx e
    obtain rfl : x = y := e
    generalize hN : ((8 : Nat) : Int) = N
    exact Ev.step (fun _ => rfl) (evneg (by omega) h)
  · intro i hi ih x hx e
    have e2 : itr (8 - (i + 1)) (cs x) = y := by
      rw [show 8 - i = (8 - (i + 1)) + 1 by omega] at e; exact e
    have g := ih (cs x) (cs_lt hx) e2
    refine Ev.step (fun _ => rfl) (evpos (by omega) ?_)
    rw [and32 x hx, w64s (by omega), show (x : Int) / 2 = ((x / 2 : Nat) : Int) by omega]
    unfold cs at g
    by_cases c : x % 2 = 1
    · rw [if_pos c] at g
      rw [c, show ((3988292384 : Int) * ((1 : Nat) : Int)) % 4294967296 = ((3988292384 : Nat) : Int) from rfl, (xor32 (x / 2) 3988292384 (by omega) (by decide)).1]
      exact g
    · rw [if_neg c] at g
      rw [show x % 2 = 0 by omega, show ((3988292384 : Int) * ((0 : Nat) : Int)) % 4294967296 = ((0 : Nat) : Int) from rfl, (xor32 (x / 2) 0 (by omega) (by decide)).1, Nat.xor_zero]
      exact g
theorem crc_both (l : List Int) (hb : ∀ y ∈ l, 0 ≤ y ∧ y ≤ 255) (hl : l.length ≤ 4611686018427387904) : ∃ q : Nat, q < 4294967296 ∧ Ev (fun k => spec_Crc.f k l) (q : Int) ∧ Ev (fun k => impl_Crc.f k l) (q : Int) := by
  have main := down (n := l.length) (P := fun i => ∀ x : Nat, x < 4294967296 → ∃ q : Nat, q < 4294967296 ∧ Ev (fun k => spec_Crc.l0 k (x : Int) l (l.length : Int) (i : Int)) (q : Int) ∧ Ev (fun k => impl_Crc.l0 k (x : Int) l (l.length : Int) (i : Int)) (q : Int)) ?_ ?_
  · exact main 4294967295 (by decide)
  · intro x hx
    obtain ⟨e, h⟩ := xor32 4294967295 x (by decide) hx
    refine ⟨4294967295 ^^^ x, h, Ev.step (fun _ => rfl) (evneg (by omega) ?_), Ev.step (fun _ => rfl) (evneg (by omega) ?_)⟩
    · rw [show (4294967295 : Int) = ((4294967295 : Nat) : Int) from rfl, e]; exact Ev.now _
    · rw [show (4294967295 : Int) = ((4294967295 : Nat) : Int) from rfl, e]; exact Ev.now _
  · intro i hi ih x hx
    have hm := hb _ (List.getElem_mem hi)
    obtain ⟨b, hb'⟩ : ∃ b : Nat, l[i] = (b : Int) := ⟨l[i].toNat, by omega⟩
    have er : rd l (i : Int) % 4294967296 = ((b : Nat) : Int) := by rw [rd_nat, getD_lt hi, hb']; omega
    obtain ⟨e, h⟩ := xor32 x b hx (by omega)
    obtain ⟨q, h1, h2, h3⟩ := ih (itr 8 (x ^^^ b)) (itr_lt 8 _ h)
    refine ⟨q, h1, Ev.step (fun _ => rfl) (evpos (by omega) (evpos (by omega) (evpos (by omega) ?_))), Ev.step (fun _ => rfl) (evpos (by omega) (evpos (by omega) (evpos (by omega) ?_)))⟩
    · rw [er, e]
      exact spec_in l _ _ _ _ (by rw [w64s (by omega)]; exact h2) _ h rfl
    · rw [er, e]
      exact impl_in l _ _ _ _ (by rw [w64s (by omega)]; exact h3) _ h rfl
/-! ### marks of rows of truth values, and of rows of rows of bytes -/
theorem mhBoolS (l : List Bool) (a : Int) (h0 : 0 ≤ a) (h1 : a + l.length ≤ 4611686018427387904) : ∃ l' : List Bool, Ev (fun k => laws_markBoolS.f k l a) (a + l.length, l') ∧ Ev (fun k => laws_heldBoolS.f k l' a) (a + l.length) ∧ l'.length = l.length := by
  refine ⟨(List.range l.length).map (fun (j : Nat) => Int.tmod (a + (j : Int)) 3 == 0), ?_, ?_, by simp⟩
  · have := down (n := l.length) (P := fun i => Ev (fun k => laws_markBoolS.l0 k (f2 l.length (fun (j : Nat) => Int.tmod (a + (j : Int)) 3 == 0) (fun j => l.getD j false) i) (a + (i : Int)) (i : Int)) (a + l.length, (List.range l.length).map (fun (j : Nat) => Int.tmod (a + (j : Int)) 3 == 0))) ?_ ?_
    · rw [f2_zero] at this; rw [show a + ((0 : Nat) : Int) = a by omega] at this; exact this
    · refine Ev.step (fun k => rfl) (evneg (by rw [f2_len]; omega) ?_)
      rw [f2_all]; exact Ev.now _
    · intro i hi h
      refine Ev.step (fun k => rfl) (evpos (by rw [f2_len]; omega) (evpos (by omega) ?_))
      rw [w64s (by omega), w64 (by omega) (by omega), Int.toNat_natCast, show a + (i : Int) + 1 = a + ((i + 1 : Nat) : Int) by omega]
      rw [← f2_set] at h
      exact h
  · have := down (n := l.length) (P := fun i => Ev (fun k => laws_heldBoolS.l0 k ((List.range l.length).map (fun (j : Nat) => Int.tmod (a + (j : Int)) 3 == 0)) (a + (i : Int)) (i : Int)) (a + l.length)) ?_ ?_
    · rw [show a + ((0 : Nat) : Int) = a by omega] at this; exact this
    · exact Ev.step (fun k => rfl) (evneg (by simp) (Ev.now _))
    · intro i hi h
      have hr : rdOf false ((List.range l.length).map (fun (j : Nat) => Int.tmod (a + (j : Int)) 3 == 0)) (i : Int) = (Int.tmod (a + (i : Int)) 3 == 0) := by
        show List.getD _ (i : Int).toNat false = _
        rw [Int.toNat_natCast, range_getD _ _ _ _ hi]
      refine Ev.step (fun k => rfl) (evpos (by simpa using hi) (evpos (by omega) (evneg (by rw [hr]; simp) ?_)))
      rw [w64s (by omega), w64 (by omega) (by omega), show a + (i : Int) + 1 = a + ((i + 1 : Nat) : Int) by omega]
      exact h
theorem mhSS (n : Nat) (hn : n ≤ 1048576) (C : Int) (hC : C ≤ 1125899906842624) (r : Nat) : ∀ (i : Nat) (m : List (List Int)) (a : Int), i + r = n → m.length = n → (∀ y ∈ m, y.length ≤ 1048576) → 0 ≤ a → a ≤ C + 1048576 * (i : Int) →
    ∃ b l', Ev (fun k => laws_markByteSS.l0 k m a (i : Int)) (b, l') ∧ Ev (fun k => laws_heldByteSS.l0 k l' a (i : Int)) b ∧ l'.length = n ∧ (∀ j, j < i → l'.getD j [] = m.getD j []) ∧ a ≤ b ∧ b ≤ C + 1048576 * (n : Int) := by
  induction r with
  | zero =>
    intro i m a hi hm _ h0 h1
    have e : i = n := by omega
    exact ⟨a, m, Ev.step (fun k => rfl) (evneg (by omega) (Ev.now _)), Ev.step (fun k => rfl) (evneg (by omega) (Ev.now _)), hm, fun _ _ => rfl, by omega, by omega⟩
  | succ r ih =>
    intro i m a hi hm hy h0 h1
    have hil : i < m.length := by omega
    have hb := hy _ (List.getElem_mem hil)
    obtain ⟨l1, e1, e2, e3⟩ := mhByteS m[i] a h0 (by omega)
    obtain ⟨b, l', e, eh, en, eo, e4, e5⟩ := ih (i + 1) (m.set i l1) (a + m[i].length) (by omega) (by rw [List.length_set]; exact hm) (fun y hy' => by
      rcases List.mem_or_eq_of_mem_set hy' with h | h
      · exact hy y h
      · rw [h, e3]; exact hb) (by omega) (by omega)
    have ei : l'.getD i [] = l1 := by rw [eo i (by omega), set_getD hil]
    refine ⟨b, l', Ev.step (fun k => rfl) (evpos (by omega) (evpos (by omega) ?_)), Ev.step (fun k => rfl) (evpos (by omega) (evpos (by omega) ?_)), en, fun j hj => ?_, by omega, e5⟩
    · rw [w64s (by omega)]
      simp only [Int.toNat_natCast]
      rw [getD_lt hil]
      exact Ev.bind e1 e
    · rw [w64s (by omega), rdL5n, ei]
      exact Ev.bind e2 (evneg (by omega) eh)
    · rw [eo j (by omega)]
      simp only [List.getD_eq_getElem?_getD]
      rw [List.getElem?_set_ne (by omega)]
theorem mhPiled (l3 : List Bool) (l4 : List Int) (l5 : List (List Int)) (w h e : Int) (h3 : l3.length ≤ 1048576) (h4 : l4.length ≤ 1048576) (h5 : l5.length ≤ 1048576 ∧ ∀ y ∈ l5, y.length ≤ 1048576) :
    ∃ (m : Int) (r3 : List Bool) (r4 : List Int) (r5 : List (List Int)), Ev (fun k => laws_markPiled.f k l3 l4 l5 1) (m, r3, r4, r5) ∧ 0 ≤ m ∧ Ev (fun k => laws_heldPiled.f k e w h r3 r4 r5 1) m := by
  obtain ⟨r3, a1, a2, _⟩ := mhBoolS l3 1 (by omega) (by omega)
  obtain ⟨r4, b1, b2, _⟩ := mhIntS l4 (1 + l3.length) (by omega) (by omega)
  obtain ⟨m, r5, c1, c2, _, _, c3, c4⟩ := mhSS l5.length h5.1 (1 + 1048576 + 1048576) (by omega) l5.length 0 l5 (1 + l3.length + l4.length) (by omega) rfl h5.2 (by omega) (by omega)
  exact ⟨m, r3, r4, r5, Ev.bind a1 (Ev.bind b1 (Ev.bind c1 (Ev.now _))), by omega, Ev.bind a2 (evneg (by omega) (Ev.bind b2 (evneg (by omega) (Ev.bind c2 (evneg (by omega) (Ev.now _))))))⟩
/-! ### four bytes -/
theorem byte_at {l : List Int} (hb : ∀ y ∈ l, 0 ≤ y ∧ y ≤ 255) {i : Nat} (h : i < l.length) : ∃ x : Nat, rd l (i : Int) = (x : Int) ∧ x < 256 := by
  have := hb _ (List.getElem_mem h)
  exact ⟨l[i].toNat, by rw [rd_nat, getD_lt h]; omega, by omega⟩
def q4 (l : List Int) : Int := ((rd l 0 * 256 + rd l 1) * 256 + rd l 2) * 256 + rd l 3
theorem i64_small (n : Int) (h0 : 0 ≤ n) (h1 : n < 2 ^ 32) : IntKind.i64.wrap n = n := (i64_w n).trans (w64 (by omega) (by omega))
theorem or_n (a b : Nat) (ha : a < 4294967296) (hb : b < 4294967296) : Go.bits .or .i64 (a : Int) (b : Int) = ((a ||| b : Nat) : Int) := (bits_nat .i64 32 (by decide) i64_small a b ha hb).2
theorem and_n (a b : Nat) (ha : a < 4294967296) (hb : b < 4294967296) : Go.bits .and .i64 (a : Int) (b : Int) = ((a &&& b : Nat) : Int) := (bits_nat .i64 32 (by decide) i64_small a b ha hb).1
theorem or_four (a b c d : Nat) (hb : b < 256) (hc : c < 256) (hd : d < 256) : a * 16777216 ||| b * 65536 ||| c * 256 ||| d = ((a * 256 + b) * 256 + c) * 256 + d := by
  have e1 : a * 16777216 ||| b * 65536 = a * 16777216 + b * 65536 := by
    rw [Nat.mul_comm a]; exact (Nat.two_pow_add_eq_or_of_lt (i := 24) (b := b * 65536) (by omega) a).symm
  have e2 : (a * 16777216 + b * 65536) ||| c * 256 = (a * 16777216 + b * 65536) + c * 256 := by
    have := (Nat.two_pow_add_eq_or_of_lt (i := 16) (b := c * 256) (by omega) (a * 256 + b)).symm
    rwa [show 2 ^ 16 * (a * 256 + b) = a * 16777216 + b * 65536 by omega] at this
  have e3 : ((a * 16777216 + b * 65536) + c * 256) ||| d = ((a * 16777216 + b * 65536) + c * 256) + d := by
    have := (Nat.two_pow_add_eq_or_of_lt (i := 8) (b := d) (by omega) (a * 65536 + b * 256 + c)).symm
    rwa [show 2 ^ 8 * (a * 65536 + b * 256 + c) = (a * 16777216 + b * 65536) + c * 256 by omega] at this
  rw [e1, e2, e3]; omega
theorem get4 (l : List Int) (h : 4 ≤ l.length) (hb : ∀ y ∈ l, 0 ≤ y ∧ y ≤ 255) : impl_zget4.f l = some (q4 l) ∧ 0 ≤ q4 l ∧ q4 l < 4294967296 := by
  obtain ⟨x0, e0, h0⟩ := byte_at hb (i := 0) (by omega)
  obtain ⟨x1, e1, h1⟩ := byte_at hb (i := 1) (by omega)
  obtain ⟨x2, e2, h2⟩ := byte_at hb (i := 2) (by omega)
  obtain ⟨x3, e3, h3⟩ := byte_at hb (i := 3) (by omega)
  replace e0 : rd l 0 = (x0 : Int) := e0
  replace e1 : rd l 1 = (x1 : Int) := e1
  replace e2 : rd l 2 = (x2 : Int) := e2
  replace e3 : rd l 3 = (x3 : Int) := e3
  have s (x : Nat) (hx : x < 256) : wrap64 (x : Int) = (x : Int) := w64 (by omega) (by omega)
  have s0 : wrap64 ((x0 : Int) * 16777216) = ((x0 * 16777216 : Nat) : Int) := (w64 (by omega) (by omega)).trans (by omega)
  have s1 : wrap64 ((x1 : Int) * 65536) = ((x1 * 65536 : Nat) : Int) := (w64 (by omega) (by omega)).trans (by omega)
  have s2 : wrap64 ((x2 : Int) * 256) = ((x2 * 256 : Nat) : Int) := (w64 (by omega) (by omega)).trans (by omega)
  have b1 : x0 * 16777216 ||| x1 * 65536 < 2 ^ 32 := Nat.or_lt_two_pow (by omega) (by omega)
  have b2 : x0 * 16777216 ||| x1 * 65536 ||| x2 * 256 < 2 ^ 32 := Nat.or_lt_two_pow b1 (by omega)
  unfold impl_zget4.f q4
  rw [if_pos (by omega), if_pos (by omega), if_pos (by omega), if_pos (by omega), e0, e1, e2, e3, s _ h0, s _ h1, s _ h2, s _ h3, s0, s1, s2, or_n _ _ (by omega) (by omega), or_n _ _ b1 (by omega), or_n _ _ b2 (by omega), or_four _ _ _ _ h1 h2 h3]
  clear s0 s1 s2 s b1 b2
  exact ⟨congrArg some (by omega), by omega, by omega⟩
theorem l5_four (l : List Int) (h : l.length = 4) (hb : ∀ y ∈ l, 0 ≤ y ∧ y ≤ 255) : Ev (fun k => spec_l5Int.f k l) (q4 l) := by
  have st : ∀ (v : Int) (i : Nat) (r : Int), i < 4 → 0 ≤ v → v < 16777216 → Ev (fun k => spec_l5Int.l0 k (v * 256 + rd l (i : Int)) l (l.length : Int) ((i + 1 : Nat) : Int)) r → Ev (fun k => spec_l5Int.l0 k v l (l.length : Int) (i : Int)) r := by
    intro v i r hi h0 h1 he
    obtain ⟨x, e, hx⟩ := byte_at hb (i := i) (by omega)
    have a1 : wrap64 (wrap64 (v * 256) + wrap64 (rd l (i : Int))) = v * 256 + rd l (i : Int) := by
      rw [e, w64 (n := v * 256) (by omega) (by omega), w64 (n := (x : Int)) (by omega) (by omega)]; exact w64 (by omega) (by omega)
    refine Ev.step (fun k => rfl) (evpos (by omega) (evpos (by omega) (evpos (by omega) ?_)))
    rw [a1, w64s (by omega)]
    exact he
  obtain ⟨x0, e0, h0⟩ := byte_at hb (i := 0) (by omega)
  obtain ⟨x1, e1, h1⟩ := byte_at hb (i := 1) (by omega)
  obtain ⟨x2, e2, h2⟩ := byte_at hb (i := 2) (by omega)
  obtain ⟨x3, e3, h3⟩ := byte_at hb (i := 3) (by omega)
  unfold q4
  rw [show rd l 0 = (x0 : Int) from e0, show rd l 1 = (x1 : Int) from e1, show rd l 2 = (x2 : Int) from e2, show rd l 3 = (x3 : Int) from e3]
  have z3 : Ev (fun k => spec_l5Int.l0 k (((((x0 : Int) * 256 + x1) * 256 + x2) * 256) + x3) l (l.length : Int) ((4 : Nat) : Int)) (((((x0 : Int) * 256 + x1) * 256 + x2) * 256) + x3) := by
    generalize hN : ((4 : Nat) : Int) = N
    exact Ev.step (fun k => rfl) (evneg (by omega) (Ev.now _))
  rw [← e3] at z3
  have z2 := st _ 3 _ (by omega) (by omega) (by omega) z3
  rw [← e2] at z2
  have z1 := st _ 2 _ (by omega) (by omega) (by omega) z2
  rw [← e1] at z1
  have z0 := st _ 1 _ (by omega) (by omega) (by omega) z1
  rw [show (x0 : Int) = 0 * 256 + rd l ((0 : Nat) : Int) by rw [e0]; omega] at z0
  have z := st _ 0 _ (by omega) (by omega) (by omega) z0
  rw [e1, e2, e3] at z
  rw [e0] at z
  rw [show (0 : Int) * 256 + (x0 : Int) = x0 by omega] at z
  exact z
/-! ### the head -/
theorem sides_both (a b : Int) : ∃ q : Bool, impl_zsides.f a b = some q ∧ spec_l14Sides.f a b = some q := by
  unfold impl_zsides.f spec_l14Sides.f
  generalize Int.tmod a 8 = x
  generalize Int.tmod b 8 = y
  by_cases c1 : a ≥ 8 <;> by_cases c2 : a ≤ 64 <;> by_cases c3 : x = 0 <;> by_cases c4 : b ≥ 8 <;> by_cases c5 : b ≤ 64 <;> by_cases c6 : y = 0 <;> simp [c1, c2, c3, c4, c5, c6]
abbrev Res := Int × Int × Int × List Bool × List Int × List (List Int)
def bad (e : Int) : Res := (e, 0, 0, [], [], [])
def okR (r : Res) : Prop := r.2.2.2.1.length ≤ 24 ∧ r.2.2.2.2.1.length ≤ 24 ∧ r.2.2.2.2.2.length ≤ 24 ∧ ∀ y ∈ r.2.2.2.2.2, y.length ≤ 60000
theorem ok_bad (e : Int) : okR (bad e) := ⟨Nat.zero_le _, Nat.zero_le _, Nat.zero_le _, fun y hy => by cases hy⟩
def Two (f g : Nat → Option Res) : Prop := ∃ r : Res, Ev f r ∧ Ev g r ∧ okR r
theorem two_bad {f g : Nat → Option Res} (e : Int) (h : Ev f (bad e)) (k : Ev g (bad e)) : Two f g := ⟨bad e, h, k, ok_bad e⟩
theorem clo (e : Int) : Ev (fun _ => (impl_ReadParts_1.f e).bind fun bt => some (bt.1, bt.2.1, bt.2.2.1, bt.2.2.2.1, bt.2.2.2.2.1, bt.2.2.2.2.2)) (bad e) := Ev.now _
/-! ### one part -/
theorem wn {a : Int} {n : Nat} (h : a = (n : Int)) (hn : n ≤ 4611686018427387904) : wrap64 a = (n : Int) := by rw [h]; exact w64 (by omega) (by omega)
section
variable (l : List Int) (hb : ∀ y ∈ l, 0 ≤ y ∧ y ≤ 255) (hl : l.length ≤ 60000) (W H : Int)
def At (at_ : Nat) : Prop := ∀ (ks : List Bool) (ss : List Int) (ps : List (List Int)), ks.length = ps.length → ss.length = ps.length → ps.length ≤ 24 → (∀ y ∈ ps, y.length ≤ 60000) →
  Two (fun k => spec_ReadParts.l1 k l (at_ : Int) 0 W H ks ss ps) (fun k => impl_ReadParts.l0 k (l.drop at_) 0 W H ks ss ps)
set_option maxHeartbeats 4000000 in
include hl in
theorem put_part (at_ v : Nat) (hv : at_ + 9 + v ≤ l.length) (ih : At l W H (at_ + 9 + v)) (S : Int) (K B : Bool) (ks : List Bool) (ss : List Int) (ps : List (List Int)) (h1 : ks.length = ps.length) (h2 : ss.length = ps.length) (h3 : ps.length ≤ 24) (h4 : ∀ y ∈ ps, y.length ≤ 60000) :
    Two (fun k => spec_ReadParts.j2 k l (at_ : Int) (v : Int) S K B 0 W H ks ss ps) (fun k => impl_ReadParts.j2 k (l.drop at_) ((5 + v : Nat) : Int) S K B 0 W H ks ss ps) := by
  by_cases c1 : B = true
  · exact two_bad 6 (Ev.step (fun k => rfl) (evpos c1 (Ev.now _))) (Ev.step (fun k => rfl) (evpos c1 (clo 6)))
  by_cases c2 : (ps.length : Int) = 24
  · exact two_bad 7 (Ev.step (fun k => rfl) (evneg c1 (evpos c2 (Ev.now _)))) (Ev.step (fun k => rfl) (evneg c1 (evpos c2 (clo 7))))
  by_cases c3 : (wrap64 ((wrap64 ((wrap64 ((ps.length : Int) + 1)) * W)) * H)) > 8192
  · exact two_bad 7 (Ev.step (fun k => rfl) (evneg c1 (evneg c2 (evpos c3 (Ev.now _))))) (Ev.step (fun k => rfl) (evneg c1 (evneg c2 (evpos c3 (clo 7)))))
  have C3 := Aside0.mk c3
  clear c3
  have hdl : (l.drop at_).length = l.length - at_ := List.length_drop
  have hp : (l.take (at_ + 5 + v)).drop (at_ + 5) = ((l.drop at_).take (5 + v)).drop 5 := by
    rw [List.take_drop, List.drop_drop, Nat.add_assoc]
  have hpl : (((l.drop at_).take (5 + v)).drop 5).length = v := by
    rw [List.length_drop, List.length_take, hdl]; omega
  obtain ⟨r, r1, r2, r3⟩ := ih (ks ++ [K]) (ss ++ [S]) (ps ++ [[] ++ ((l.drop at_).take (5 + v)).drop 5]) (by simp [h1]) (by simp [h2]) (by rw [List.length_append, List.length_singleton]; omega) (fun y hy => by
    rcases List.mem_append.1 hy with h | h
    · exact h4 y h
    · rw [List.mem_singleton] at h
      rw [h, List.nil_append, hpl]; omega)
  refine ⟨r, Ev.step (fun k => rfl) (evneg c1 (evneg c2 (evneg C3.out ?_))), Ev.step (fun k => rfl) (evneg c1 (evneg c2 (evneg C3.out ?_))), r3⟩
  · rw [wn (a := (at_ : Int) + 5) (n := at_ + 5) (by omega) (by omega), wn (a := ((at_ + 5 : Nat) : Int) + (v : Int)) (n := at_ + 5 + v) (by omega) (by omega), wn (a := 9 + (v : Int)) (n := 9 + v) (by omega) (by omega), wn (a := (at_ : Int) + ((9 + v : Nat) : Int)) (n := at_ + 9 + v) (by omega) (by omega)]
    simp only [Int.toNat_natCast]
    rw [hp]
    exact evpos (by omega) (evpos (by omega) (evpos (by omega) (evpos (by rw [hpl, List.length_nil]; omega) (evpos (by omega) (evpos (by omega) (evpos (by omega) r1))))))
  · rw [wn (a := ((5 + v : Nat) : Int) + 4) (n := 9 + v) (by omega) (by omega)]
    simp only [Int.toNat_natCast]
    rw [List.drop_drop, show at_ + (9 + v) = at_ + 9 + v by omega]
    exact evpos (by omega) (evpos (by omega) (evlet rfl (evpos (by omega) (evpos (by rw [hdl]; omega) (evlet rfl (evpos (by rw [hpl, List.length_nil]; omega) (evpos (by omega) (evpos (by omega) (evpos (by rw [hdl]; omega) r2)))))))))
set_option maxHeartbeats 4000000 in
include hb hl in
theorem one_part (at_ : Nat) (ih : ∀ a, at_ < a → a ≤ l.length → At l W H a) (ha : at_ ≤ l.length) : At l W H at_ := by
  intro ks ss ps h1 h2 h3 h4
  obtain ⟨r, hr⟩ : ∃ r, l.drop at_ = r := ⟨_, rfl⟩
  have hrl : r.length = l.length - at_ := by rw [← hr]; exact List.length_drop
  have hrb : ∀ y ∈ r, 0 ≤ y ∧ y ≤ 255 := fun y hy => hb y (List.mem_of_mem_drop (hr ▸ hy))
  rw [hr]
  by_cases c0 : at_ = l.length
  · by_cases cp : (ps.length : Int) = 0
    · exact two_bad 2 (Ev.step (fun k => rfl) (evneg (by omega) (evpos cp (Ev.now _)))) (Ev.step (fun k => rfl) (evneg (by omega) (evpos cp (clo 2))))
    · exact ⟨(0, W, H, ks, ss, ps), Ev.step (fun k => rfl) (evneg (by omega) (evneg cp (Ev.now _))), Ev.step (fun k => rfl) (evneg (by omega) (evneg cp (Ev.now _))), (show ks.length ≤ 24 by omega), (show ss.length ≤ 24 by omega), h3, h4⟩
  have e0 : Aside0 (wrap64 ((l.length : Int) - (at_ : Int)) = (r.length : Int)) := ⟨(w64 (by omega) (by omega)).trans (by omega)⟩
  have sh : ∀ b : Bool, b = true → Ev (fun k => impl_ReadParts.j1 k r b 0 W H ks ss ps) (bad 2) := fun b hb' => Ev.step (fun k => rfl) (evpos hb' (clo 2))
  by_cases c9 : r.length < 9
  · refine two_bad 2 (Ev.step (fun k => rfl) (evpos (by omega) (evpos (by rw [e0.out]; omega) (Ev.now _)))) (Ev.step (fun k => rfl) (evpos (by omega) ?_))
    by_cases c5 : (r.length : Int) < 5
    · exact evpos c5 (sh true rfl)
    · obtain ⟨g1, g2, _⟩ := get4 (r.drop 1) (by rw [List.length_drop]; omega) (fun y hy => hrb y (List.mem_of_mem_drop hy))
      refine evneg c5 (evpos (by omega) (evlet g1 (sh _ (decide_eq_true ?_))))
      rw [w64 (by omega) (by omega)]; omega
  obtain ⟨g1, g2, g3⟩ := get4 (r.drop 1) (by rw [List.length_drop]; omega) (fun y hy => hrb y (List.mem_of_mem_drop hy))
  have q4t : ∀ y : List Int, 4 ≤ y.length → q4 (y.take 4) = q4 y := fun y hy => by
    match y, hy with
    | a :: b :: c :: d :: t, _ => rfl
  have s1 : Aside0 (wrap64 ((at_ : Int) + 1) = ((at_ + 1 : Nat) : Int)) := ⟨(w64 (by omega) (by omega)).trans (by omega)⟩
  have s5 : Aside0 (wrap64 ((at_ : Int) + 5) = ((at_ + 5 : Nat) : Int)) := ⟨(w64 (by omega) (by omega)).trans (by omega)⟩
  have s9 : Aside0 (wrap64 ((at_ : Int) + 9) = ((at_ + 9 : Nat) : Int)) := ⟨(w64 (by omega) (by omega)).trans (by omega)⟩
  have n9 : Aside0 (wrap64 ((r.length : Int) - 9) = (r.length : Int) - 9) := ⟨w64 (by omega) (by omega)⟩
  have t1 : (l.take (at_ + 5)).drop (at_ + 1) = (r.drop 1).take 4 := by
    rw [← hr, List.drop_drop, List.take_drop, show at_ + 1 + 4 = at_ + 5 by omega]
  have f1 : Ev (fun k => spec_l5Int.f k ((r.drop 1).take 4)) (q4 (r.drop 1)) := by
    have := l5_four ((r.drop 1).take 4) (by rw [List.length_take, List.length_drop]; omega) (fun y hy => hrb y (List.mem_of_mem_drop (List.mem_of_mem_take hy)))
    rwa [q4t _ (by rw [List.length_drop]; omega)] at this
  obtain ⟨v, hv⟩ : ∃ v : Nat, q4 (r.drop 1) = (v : Int) := ⟨(q4 (r.drop 1)).toNat, by omega⟩
  rw [hv] at g1 g2 g3 f1
  -- the reference up to its first test, the program up to its first
  have toS : ∀ R : Res, Ev (fun k => if (v : Int) > (r.length : Int) - 9 then (some (2, 0, 0, ([] : List Bool), ([] : List Int), ([] : List (List Int)))) else (if 0 ≤ (at_ : Int) then (if (Go.bits .and .i64 (wrap64 (rd l (at_ : Int))) 127) > 40 then (some (5, 0, 0, ([] : List Bool), ([] : List Int), ([] : List (List Int)))) else (if 0 ≤ (wrap64 (((at_ + 5 : Nat) : Int) + (v : Int))) then (if (wrap64 (((at_ + 5 : Nat) : Int) + (v : Int))) ≤ (wrap64 (((at_ + 9 : Nat) : Int) + (v : Int))) then (if (wrap64 (((at_ + 9 : Nat) : Int) + (v : Int))) ≤ (l.length : Int) then ((spec_l5Int.f k ((l.take ((wrap64 (((at_ + 9 : Nat) : Int) + (v : Int))) : Int).toNat).drop ((wrap64 (((at_ + 5 : Nat) : Int) + (v : Int))) : Int).toNat)).bind fun t126 => (if (at_ : Int) ≤ (wrap64 (((at_ + 5 : Nat) : Int) + (v : Int))) then (if (wrap64 (((at_ + 5 : Nat) : Int) + (v : Int))) ≤ (l.length : Int) then ((spec_Crc.f k ((l.take ((wrap64 (((at_ + 5 : Nat) : Int) + (v : Int))) : Int).toNat).drop (at_ : Int).toNat)).bind fun t128 => (if ((t126) % 4294967296) = t128 then (if (ps.length : Int) = 0 then (spec_ReadParts.j2 k l (at_ : Int) (v : Int) (Go.bits .and .i64 (wrap64 (rd l (at_ : Int))) 127) (decide ((rd l (at_ : Int)) ≥ 128)) (!(decide ((rd l (at_ : Int)) ≥ 128))) 0 W H ks ss ps) else (spec_ReadParts.j2 k l (at_ : Int) (v : Int) (Go.bits .and .i64 (wrap64 (rd l (at_ : Int))) 127) (decide ((rd l (at_ : Int)) ≥ 128)) false 0 W H ks ss ps)) else (some (3, 0, 0, ([] : List Bool), ([] : List Int), ([] : List (List Int)))))) else (none)) else (none))) else (none)) else (none)) else (none))) else (none))) R →
      Ev (fun k => spec_ReadParts.l1 k l (at_ : Int) 0 W H ks ss ps) R := by
    intro R h
    refine Ev.step (fun k => rfl) (evpos (by omega) ?_)
    rw [e0.out, s1.out, s5.out, s9.out, n9.out]
    refine evneg (by omega) (evpos (by omega) (evpos (by omega) (evpos (by omega) ?_)))
    simp only [Int.toNat_natCast]
    rw [t1]
    exact Ev.bind f1 h
  have toI : ∀ R : Res, Ev (fun k => impl_ReadParts.j1 k r (decide ((v : Int) > (r.length : Int) - 9)) 0 W H ks ss ps) R → Ev (fun k => impl_ReadParts.l0 k r 0 W H ks ss ps) R := by
    intro R h
    refine Ev.step (fun k => rfl) (evpos (by omega) (evneg (by omega) (evpos (by omega) (evlet g1 ?_))))
    rw [n9.out]
    exact h
  by_cases cv : (v : Int) > (r.length : Int) - 9
  · exact two_bad 2 (toS _ (evpos cv (Ev.now _))) (toI _ (sh _ (decide_eq_true cv)))
  obtain ⟨x, ex, hx⟩ := byte_at hrb (i := 0) (by omega)
  replace ex : rd r 0 = (x : Int) := ex
  have el : rd l (at_ : Int) = (x : Int) := by
    rw [← ex, ← hr, rd_nat]
    show _ = List.getD (l.drop at_) (0 : Int).toNat 0
    simp [List.getD_eq_getElem?_getD]
  have hand : x &&& 127 ≤ 127 := Nat.and_le_right
  have b1 : Aside0 (Go.bits .and .i64 (wrap64 (x : Int)) 127 = ((x &&& 127 : Nat) : Int)) := ⟨by
    rw [w64 (n := (x : Int)) (by omega) (by omega)]; exact and_n x 127 (by omega) (by omega)⟩
  have b2 : Aside0 (wrap64 (Go.bits .and .u8 (x : Int) 127) = ((x &&& 127 : Nat) : Int)) := ⟨by
    rw [show Go.bits .and .u8 (x : Int) 127 = ((x &&& 127 : Nat) : Int) from (bits_nat .u8 8 (by decide) wraps_u8 x 127 hx (by decide)).1]; exact w64 (by omega) (by omega)⟩
  have dk : Aside0 (decide ((x : Int) ≥ 128) = decide ((x : Int) > 127)) := ⟨decide_eq_decide.2 (by omega)⟩
  have u5 : Aside0 (wrap64 (((at_ + 5 : Nat) : Int) + (v : Int)) = ((at_ + 5 + v : Nat) : Int)) := ⟨(w64 (by omega) (by omega)).trans (by omega)⟩
  have u9 : Aside0 (wrap64 (((at_ + 9 : Nat) : Int) + (v : Int)) = ((at_ + 9 + v : Nat) : Int)) := ⟨(w64 (by omega) (by omega)).trans (by omega)⟩
  have i5 : Aside0 (wrap64 (5 + (v : Int)) = ((5 + v : Nat) : Int)) := ⟨(w64 (by omega) (by omega)).trans (by omega)⟩
  have t2 : (l.take (at_ + 9 + v)).drop (at_ + 5 + v) = (r.drop (5 + v)).take 4 := by
    rw [← hr, List.drop_drop, List.take_drop, show at_ + (5 + v) = at_ + 5 + v by omega, show at_ + 5 + v + 4 = at_ + 9 + v by omega]
  have t3 : (l.take (at_ + 5 + v)).drop at_ = r.take (5 + v) := by
    rw [← hr, List.take_drop, show at_ + (5 + v) = at_ + 5 + v by omega]
  obtain ⟨k1, k2, k3⟩ := get4 (r.drop (5 + v)) (by rw [List.length_drop]; omega) (fun y hy => hrb y (List.mem_of_mem_drop hy))
  have f2 : Ev (fun k => spec_l5Int.f k ((r.drop (5 + v)).take 4)) (q4 (r.drop (5 + v))) := by
    have := l5_four ((r.drop (5 + v)).take 4) (by rw [List.length_take, List.length_drop]; omega) (fun y hy => hrb y (List.mem_of_mem_drop (List.mem_of_mem_take hy)))
    rwa [q4t _ (by rw [List.length_drop]; omega)] at this
  obtain ⟨q, hq, cs1, cs2⟩ := crc_both (r.take (5 + v)) (fun y hy => hrb y (List.mem_of_mem_take hy)) (by rw [List.length_take]; omega)
  have wq : Aside0 (wrap64 (q : Int) = (q : Int)) := ⟨w64 (by omega) (by omega)⟩
  have mq : q4 (r.drop (5 + v)) % 4294967296 = q4 (r.drop (5 + v)) := by omega
  generalize q4 (r.drop (5 + v)) = z at k1 k2 k3 f2 mq
  have dI : decide ((v : Int) > (r.length : Int) - 9) = false := decide_eq_false cv
  rw [el, b1.out, dk.out, u5.out, u9.out] at toS
  simp only [Int.toNat_natCast] at toS
  rw [t2, t3] at toS
  by_cases c40 : ((x &&& 127 : Nat) : Int) > 40
  · refine two_bad 5 (toS _ (evneg cv (evpos (by omega) (evpos c40 (Ev.now _))))) (toI _ (Ev.step (fun k => rfl) (evneg (by rw [dI]; decide) (evpos (by omega) (evlet g1 (evpos (by omega) ?_))))))
    rw [ex, b2.out]
    exact evpos c40 (clo 5)
  have toS2 : ∀ R : Res, Ev (fun k => if z % 4294967296 = (q : Int) then (if (ps.length : Int) = 0 then (spec_ReadParts.j2 k l (at_ : Int) (v : Int) ((x &&& 127 : Nat) : Int) (decide ((x : Int) > 127)) (!(decide ((x : Int) > 127))) 0 W H ks ss ps) else (spec_ReadParts.j2 k l (at_ : Int) (v : Int) ((x &&& 127 : Nat) : Int) (decide ((x : Int) > 127)) false 0 W H ks ss ps)) else (some (3, 0, 0, ([] : List Bool), ([] : List Int), ([] : List (List Int))))) R → Ev (fun k => spec_ReadParts.l1 k l (at_ : Int) 0 W H ks ss ps) R := fun R h =>
    toS R (evneg cv (evpos (by omega) (evneg c40 (evpos (by omega) (evpos (by omega) (evpos (by omega) (Ev.bind f2 (evpos (by omega) (evpos (by omega) (Ev.bind cs1 h))))))))))
  have toI2 : ∀ R : Res, Ev (fun k => if z = (q : Int) then (if (ps.length : Int) = 0 then (impl_ReadParts.j2 k r ((5 + v : Nat) : Int) ((x &&& 127 : Nat) : Int) (decide ((x : Int) > 127)) (!(decide ((x : Int) > 127))) 0 W H ks ss ps) else (impl_ReadParts.j2 k r ((5 + v : Nat) : Int) ((x &&& 127 : Nat) : Int) (decide ((x : Int) > 127)) false 0 W H ks ss ps)) else ((impl_ReadParts_1.f 3).bind fun bt => some (bt.1, bt.2.1, bt.2.2.1, bt.2.2.2.1, bt.2.2.2.2.1, bt.2.2.2.2.2))) R → Ev (fun k => impl_ReadParts.l0 k r 0 W H ks ss ps) R := by
    intro R h
    refine toI _ (Ev.step (fun k => rfl) (evneg (by rw [dI]; decide) (evpos (by omega) (evlet g1 (evpos (by omega) ?_)))))
    rw [ex, b2.out, i5.out]
    refine evneg c40 (evpos (by omega) (evpos (by omega) ?_))
    simp only [Int.toNat_natCast]
    refine evlet k1 (Ev.bind cs2 ?_)
    rw [wq.out]
    exact h
  rw [mq] at toS2
  by_cases cz : z = (q : Int)
  · have hj := put_part l hl W H at_ v (by omega) (ih _ (by omega) (by omega)) ((x &&& 127 : Nat) : Int) (decide ((x : Int) > 127))
    by_cases cp : (ps.length : Int) = 0
    · obtain ⟨R, r1, r2, r3⟩ := hj (!(decide ((x : Int) > 127))) ks ss ps h1 h2 h3 h4
      rw [hr] at r2
      exact ⟨R, toS2 R (evpos cz (evpos cp r1)), toI2 R (evpos cz (evpos cp r2)), r3⟩
    · obtain ⟨R, r1, r2, r3⟩ := hj false ks ss ps h1 h2 h3 h4
      rw [hr] at r2
      exact ⟨R, toS2 R (evpos cz (evneg cp r1)), toI2 R (evpos cz (evneg cp r2)), r3⟩
  · exact two_bad 3 (toS2 _ (evneg cz (Ev.now _))) (toI2 _ (evneg cz (clo 3)))
include hb hl in
theorem parts (d : Nat) : ∀ at_, at_ ≤ l.length → l.length - at_ ≤ d → At l W H at_ := by
  induction d with
  | zero => exact fun at_ h1 h2 => one_part l hb hl W H at_ (fun a h3 h4 => by omega) h1
  | succ d ih => exact fun at_ h1 h2 => one_part l hb hl W H at_ (fun a h3 h4 => ih a h4 (by omega)) h1
end
/-! ### the whole -/
theorem magic_at (i : Nat) (h : i < 4) : rd ([86, 73, 68, 49] : List Int) (i : Int) = bt (⟨#[86, 73, 68, 49]⟩ : ByteArray) (i : Int) := by
  match i, h with
  | 0, _ => rfl
  | 1, _ => rfl
  | 2, _ => rfl
  | 3, _ => rfl
theorem magic (l : List Int) : ∃ q : Int, Ev (fun k => impl_zmagic.f k l (⟨#[86, 73, 68, 49]⟩ : ByteArray)) q ∧ (q ≠ 0 → Ev (fun k => spec_ReadParts.f k l) (if (l.length : Int) > 60000 then bad 1 else bad q)) ∧
    (q = 0 → ∀ r : Res, ¬ (l.length : Int) > 60000 → Ev (fun k => spec_ReadParts.l0 k l [86, 73, 68, 49] 4 4) r → Ev (fun k => spec_ReadParts.f k l) r) := by
  have main := down (n := 4) (P := fun i => ∃ q : Int, Ev (fun k => impl_zmagic.l0 k l (⟨#[86, 73, 68, 49]⟩ : ByteArray) 4 (i : Int)) q ∧ (q ≠ 0 → Ev (fun k => spec_ReadParts.l0 k l [86, 73, 68, 49] 4 (i : Int)) (bad q)) ∧ (q = 0 → ∀ r : Res, Ev (fun k => spec_ReadParts.l0 k l [86, 73, 68, 49] 4 4) r → Ev (fun k => spec_ReadParts.l0 k l [86, 73, 68, 49] 4 (i : Int)) r)) ?_ ?_
  · obtain ⟨q, h1, h2, h3⟩ := main
    refine ⟨q, h1, fun hq => ?_, fun hq r hc h => evneg hc (evlet rfl (h3 hq r h))⟩
    by_cases c : (l.length : Int) > 60000
    · rw [if_pos c]; exact evpos c (Ev.now _)
    · rw [if_neg c]; exact evneg c (evlet rfl (h2 hq))
  · exact ⟨0, Ev.step (fun k => rfl) (evneg (by omega) (Ev.now _)), fun h => absurd rfl h, fun _ r h => h⟩
  · intro i hi ⟨q, h1, h2, h3⟩
    have hm := magic_at i hi
    have hs : (i : Int) < ((⟨#[86, 73, 68, 49]⟩ : ByteArray).size : Int) := by show (i : Int) < ((4 : Nat) : Int); omega
    have hy : (i : Int) < (([86, 73, 68, 49] : List Int).length : Int) := by show (i : Int) < ((4 : Nat) : Int); omega
    by_cases c1 : (i : Int) ≥ (l.length : Int)
    · exact ⟨2, Ev.step (fun k => rfl) (evpos (by omega) (evpos c1 (Ev.now _))), fun _ => Ev.step (fun k => rfl) (evpos (by omega) (evpos (by omega) (evpos hy (evpos c1 (Ev.now _))))), fun h => absurd h (by decide)⟩
    by_cases c2 : rd l (i : Int) = bt (⟨#[86, 73, 68, 49]⟩ : ByteArray) (i : Int)
    · refine ⟨q, Ev.step (fun k => rfl) (evpos (by omega) (evneg c1 (evpos (by omega) (evpos (by omega) (evpos hs (evpos c2 ?_)))))), fun hq => Ev.step (fun k => rfl) (evpos (by omega) (evpos (by omega) (evpos hy (evneg c1 (evpos (by omega) (evpos (by rw [hm]; exact c2) ?_)))))), fun hq r h => Ev.step (fun k => rfl) (evpos (by omega) (evpos (by omega) (evpos hy (evneg c1 (evpos (by omega) (evpos (by rw [hm]; exact c2) ?_))))))⟩
      · rw [w64s (by omega)]; exact h1
      · rw [w64s (by omega)]; exact h2 hq
      · rw [w64s (by omega)]; exact h3 hq r h
    · exact ⟨4, Ev.step (fun k => rfl) (evpos (by omega) (evneg c1 (evpos (by omega) (evpos (by omega) (evpos hs (evneg c2 (Ev.now _))))))), fun _ => Ev.step (fun k => rfl) (evpos (by omega) (evpos (by omega) (evpos hy (evneg c1 (evpos (by omega) (evneg (by rw [hm]; exact c2) (Ev.now _))))))), fun h => absurd h (by decide)⟩
theorem read_both (l : List Int) (hb : ∀ y ∈ l, 0 ≤ y ∧ y ≤ 255) : Two (fun k => spec_ReadParts.f k l) (fun k => impl_ReadParts.f k l) := by
  by_cases c1 : (l.length : Int) > 60000
  · exact two_bad 1 (evpos c1 (Ev.now _)) (evpos c1 (clo 1))
  obtain ⟨q, m1, m2, m3⟩ := magic l
  by_cases c2 : q = 0
  · subst c2
    by_cases c3 : (l.length : Int) < 6
    · exact two_bad 2 (m3 rfl _ c1 (Ev.step (fun k => rfl) (evneg (by omega) (evpos c3 (Ev.now _))))) (evneg c1 (Ev.bind m1 (evpos rfl (evpos c3 (clo 2)))))
    · obtain ⟨s, s1, s2⟩ := sides_both (wrap64 (8 * (wrap64 (rd l 4)))) (wrap64 (8 * (wrap64 (rd l 5))))
      by_cases c4 : s = true
      · obtain ⟨R, r1, r2, r3⟩ := parts l hb (by omega) (wrap64 (8 * (wrap64 (rd l 4)))) (wrap64 (8 * (wrap64 (rd l 5)))) l.length 6 (by omega) (by omega) [] [] [] rfl rfl (by decide) (fun y hy => by cases hy)
        exact ⟨R, m3 rfl _ c1 (Ev.step (fun k => rfl) (evneg (by omega) (evneg c3 (evpos (by omega) (evpos (by omega) (evlet s2 (evpos c4 r1))))))), evneg c1 (Ev.bind m1 (evpos rfl (evneg c3 (evpos (by omega) (evpos (by omega) (evlet s1 (evpos c4 (evpos (by omega) r2)))))))), r3⟩
      · exact two_bad 5 (m3 rfl _ c1 (Ev.step (fun k => rfl) (evneg (by omega) (evneg c3 (evpos (by omega) (evpos (by omega) (evlet s2 (evneg c4 (Ev.now _))))))))) (evneg c1 (Ev.bind m1 (evpos rfl (evneg c3 (evpos (by omega) (evpos (by omega) (evlet s1 (evneg c4 (clo 5)))))))))
  · have h := m2 c2
    rw [if_neg c1] at h
    exact two_bad q h (evneg c1 (Ev.bind m1 (evneg c2 (Ev.bind m1 (clo q)))))
theorem FnExactReadParts : laws_FnExactReadParts.Pure := by
  intro l0 _ _ hw
  show _ ∨ _
  by_cases cl : (l0.length : Int) > 1048576
  · exact .inl cl
  refine .inr ?_
  have hb : ∀ y ∈ l0, 0 ≤ y ∧ y ≤ 255 := fun y hy => wfb (hw y hy)
  obtain ⟨⟨r1, r2, r3, r4, r5, r6⟩, e1, e2, o4, o5, o6, o7⟩ := read_both l0 hb
  dsimp only at o4 o5 o6 o7
  obtain ⟨x', a1, _, _⟩ := mhByteS l0 1 (by omega) (by omega)
  obtain ⟨m, r4', r5', r6', b1, hm, b2⟩ := mhPiled r4 r5 r6 r2 r3 r1 (by omega) (by omega) ⟨by omega, fun y hy => by have := o7 y hy; omega⟩
  have t1 := toByteS l0 (by omega)
  have t2 := eqPiled r1 r2 r3 r4 r5 r6 (by omega) (by omega) ⟨by omega, fun y hy => by have := o7 y hy; omega⟩
  have t3 := eqByteS l0 (by omega)
  obtain ⟨K1, h1⟩ := t1
  obtain ⟨K2, h2⟩ := e1
  obtain ⟨K3, h3⟩ := e2
  obtain ⟨K4, h4⟩ := t2
  obtain ⟨K5, h5⟩ := t3
  obtain ⟨K6, h6⟩ := a1
  obtain ⟨K7, h7⟩ := b1
  obtain ⟨K8, h8⟩ := b2
  let K := K1 + K2 + K3 + K4 + K5 + K6 + K7 + K8
  exact ⟨K, r1, r2, r3, r4, r4', r5, r5', r6, r6', x', 1 + l0.length, m, h1 K (by omega), h2 K (by omega), h3 K (by omega), h4 K (by omega), h5 K (by omega), h6 K (by omega), by omega, h7 K (by omega), hm, h8 K (by omega)⟩
end Go.Proofs.Ytidblealnaicpaa.Pure

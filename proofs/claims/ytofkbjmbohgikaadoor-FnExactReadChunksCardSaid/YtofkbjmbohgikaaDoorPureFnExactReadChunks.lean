/- FnExactReadChunks: the program's ReadChunks answers as the reference, writes into no argument, and its answer owns its memory; the variable stillHead holds its eight bytes (laid); no other condition. -/
import Derived.Test.YtofkbjmbohgikaaDoorPFnExactReadChunksx0
import Derived.Test.YtofkbjmbohgikaaDoorPFnExactReadChunksx1
import Derived.Test.YtofkbjmbohgikaaDoorPFnExactReadChunksx2
import Derived.Test.YtofkbjmbohgikaaDoorPFnExactReadChunksx3
import Derived.Test.YtofkbjmbohgikaaDoorPFnExactReadChunksx4
import Derived.Test.YtofkbjmbohgikaaDoorPFnExactReadChunksx5
import Derived.Test.YtofkbjmbohgikaaDoorPFnExactReadChunksx6
import Derived.Test.YtofkbjmbohgikaaDoorTFERCK
import Derived.Laws.Bits64b
import Derived.Lib.Bytes
namespace Go.Proofs.YtofkbjmbohgikaaDoor.Pure
open Go.RowKit Go.Proofs.YtofkbjmbohgikaaDoor.PFnExactReadChunks Go.Proofs.YtofkbjmbohgikaaDoor.K Go.Proofs.YtofkbjmbohgikaaDoorW.PrintWords Go.Proofs.YtofkbjmbohgikaaDoorW.PrintLast Go.Proofs.YtofkbjmbohgikaaDoorW.PrintMore

theorem rdT46 (l : List S46) (i : Nat) : rd_T46 l (i : Int) = l.getD i z46 := by simp [rd_T46]
theorem rdT25 (l : List S25) (i : Nat) : rd_T25 l (i : Int) = l.getD i z25 := by simp [rd_T25]
theorem rdL2n (l : List (List Int)) (i : Nat) : rd_L2 l (i : Int) = l.getD i ([] : List Int) := by simp [rd_L2]
theorem rdL5n (l : List (List S46)) (i : Nat) : rd_L5 l (i : Int) = l.getD i ([] : List S46) := by simp [rd_L5]
theorem toByteS (l : List Int) (hl : l.length ≤ 1048576) : Ev (fun k => laws_toByteS.f k l) l := by
  refine evpos (by omega) (evpos (by omega) ?_)
  have := down (n := l.length) (P := fun i => Ev (fun k => laws_toByteS.l0 k l (fl 0 l.length (fun j => l.getD j 0) i) (i : Int)) l) ?_ ?_
  · rw [fl_zero] at this; exact this
  · refine Ev.step (fun k => rfl) (evneg (by omega) ?_)
    rw [fl_all]
    have e := map_range_get l 0 id
    try simp only [id_eq, List.map_id_fun] at e
    rw [e]; exact Ev.now _
  · intro i hi h
    refine Ev.step (fun k => rfl) (evpos (by omega) (evpos (by omega) (evpos (by rw [fl_len]; omega) ?_)))
    rw [w64s (by omega), rd_nat, getD_lt hi, Int.toNat_natCast]
    rw [← fl_set, getD_lt hi] at h
    exact h
theorem eqByteS (l : List Int) (hl : l.length ≤ 4611686018427387904) : Ev (fun k => laws_eqByteS.f k l l) true := by
  refine evpos rfl ?_
  refine down (n := l.length) (P := fun i => Ev (fun k => laws_eqByteS.l0 k l l (i : Int)) true) ?_ ?_
  · exact Ev.step (fun k => rfl) (evneg (by omega) (Ev.now _))
  · intro i hi h
    refine Ev.step (fun k => rfl) (evpos (by omega) (evpos (by omega) (evpos (by omega) (evpos rfl ?_))))
    rw [w64s (by omega)]; exact h
theorem mhByteS (l : List Int) (a : Int) (h0 : 0 ≤ a) (h1 : a + l.length ≤ 4611686018427387904) : ∃ l' : List Int, Ev (fun k => laws_markByteS.f k l a) (a + l.length, l') ∧ Ev (fun k => laws_heldByteS.f k l' a) (a + l.length) ∧ l'.length = l.length := by
  refine ⟨(List.range l.length).map (fun (j : Nat) => (a + (j : Int)) % 256), ?_, ?_, by simp⟩
  · have := down (n := l.length) (P := fun i => Ev (fun k => laws_markByteS.l0 k (f2 l.length (fun (j : Nat) => (a + (j : Int)) % 256) (fun j => l.getD j 0) i) (a + (i : Int)) (i : Int)) (a + l.length, (List.range l.length).map (fun (j : Nat) => (a + (j : Int)) % 256))) ?_ ?_
    · rw [f2_zero] at this; rw [show a + ((0 : Nat) : Int) = a by omega] at this; exact this
    · refine Ev.step (fun k => rfl) (evneg (by rw [f2_len]; omega) ?_)
      rw [f2_all]; exact Ev.now _
    · intro i hi h
      refine Ev.step (fun k => rfl) (evpos (by rw [f2_len]; omega) (evpos (by omega) ?_))
      rw [w64s (by omega), w64 (by omega) (by omega), Int.toNat_natCast, show a + (i : Int) + 1 = a + ((i + 1 : Nat) : Int) by omega]
      rw [← f2_set] at h
      exact h
  · have := down (n := l.length) (P := fun i => Ev (fun k => laws_heldByteS.l0 k ((List.range l.length).map (fun (j : Nat) => (a + (j : Int)) % 256)) (a + (i : Int)) (i : Int)) (a + l.length)) ?_ ?_
    · rw [show a + ((0 : Nat) : Int) = a by omega] at this; exact this
    · exact Ev.step (fun k => rfl) (evneg (by simp) (Ev.now _))
    · intro i hi h
      refine Ev.step (fun k => rfl) (evpos (by simpa using hi) (evpos (by omega) (evpos (by rw [rd_nat, range_getD _ _ _ _ hi]) ?_)))
      rw [w64s (by omega), w64 (by omega) (by omega), show a + (i : Int) + 1 = a + ((i + 1 : Nat) : Int) by omega]
      exact h
theorem eqChunk (a0_0 : ByteArray) (l0_1 : List Int) (hl0_1 : l0_1.length ≤ 4611686018427387904) : Ev (fun k => laws_eqChunk.f k a0_0 l0_1 a0_0 l0_1) true :=
  evpos rfl (Ev.bind (eqByteS l0_1 hl0_1) (evpos rfl (Ev.now _)))
theorem eqChunkS (l : List (S46)) (hl : (l.length ≤ 4611686018427387904 ∧ ∀ y0 ∈ l, y0.f1.length ≤ 4611686018427387904)) : Ev (fun k => laws_eqChunkS.f k l l) true := by
  obtain ⟨hl, hs⟩ := hl
  refine evpos rfl ?_
  refine down (n := l.length) (P := fun i => Ev (fun k => laws_eqChunkS.l0 k l l (i : Int)) true) ?_ ?_
  · exact Ev.step (fun k => rfl) (evneg (by omega) (Ev.now _))
  · intro i hi h
    have hm := hs _ (List.getElem_mem hi)
    refine Ev.step (fun k => rfl) (evpos (by omega) (evpos (by omega) (evpos (by omega) ?_)))
    rw [rdT46, getD_lt hi, w64s (by omega)]
    exact Ev.bind (eqChunk _ _ hm) (evpos rfl h)
theorem eqChunkRes (a0_0 : Int) (l0_1 : List (S46)) (hl0_1 : (l0_1.length ≤ 4611686018427387904 ∧ ∀ y0 ∈ l0_1, y0.f1.length ≤ 4611686018427387904)) : Ev (fun k => laws_eqChunkRes.f k a0_0 l0_1 a0_0 l0_1) true :=
  evpos rfl (Ev.bind (eqChunkS l0_1 hl0_1) (evpos rfl (Ev.now _)))
theorem xor32 (a b : Nat) (ha : a < 4294967296) (hb : b < 4294967296) : Go.bits .xor .u32 (a : Int) (b : Int) = ((a ^^^ b : Nat) : Int) ∧ a ^^^ b < 4294967296 := by
  have hx : a ^^^ b < 2 ^ 32 := Nat.xor_lt_two_pow ha hb
  have h1 : (BitVec.ofInt 32 (a : Int)).toNat = a := by
    rw [BitVec.ofInt_natCast, BitVec.toNat_ofNat]; exact Nat.mod_eq_of_lt ha
  have h2 : (BitVec.ofInt 32 (b : Int)).toNat = b := by
    rw [BitVec.ofInt_natCast, BitVec.toNat_ofNat]; exact Nat.mod_eq_of_lt hb
  have e : Go.bits .xor .u32 (a : Int) (b : Int) = IntKind.u32.wrap ((BitVec.ofInt 32 (a : Int) ^^^ BitVec.ofInt 32 (b : Int)).toNat : Int) := rfl
  have hx' : a ^^^ b < 4294967296 := hx
  rw [e, BitVec.toNat_xor, h1, h2, IntKind.wrap_u32]
  generalize a ^^^ b = z at hx'
  omega
theorem and32 (a : Nat) (ha : a < 4294967296) : Go.bits .and .u32 (a : Int) 1 = ((a % 2 : Nat) : Int) := by
  have h1 : (BitVec.ofInt 32 (a : Int)).toNat = a := by
    rw [BitVec.ofInt_natCast, BitVec.toNat_ofNat]; exact Nat.mod_eq_of_lt ha
  have h2 : (BitVec.ofInt 32 1).toNat = 1 := by decide
  have e : Go.bits .and .u32 (a : Int) 1 = IntKind.u32.wrap ((BitVec.ofInt 32 (a : Int) &&& BitVec.ofInt 32 1).toNat : Int) := rfl
  rw [e, BitVec.toNat_and, h1, h2, Nat.and_one_is_mod, IntKind.wrap_u32]
  omega
def cs (x : Nat) : Nat := if x % 2 = 1 then (x / 2) ^^^ 3988292384 else x / 2
theorem cs_lt {x : Nat} (h : x < 4294967296) : cs x < 4294967296 := by
  unfold cs
  split
  · exact (xor32 _ _ (by omega) (by decide)).2
  · omega
def itr : Nat → Nat → Nat
  | 0, x => x
  | m + 1, x => itr m (cs x)
theorem itr_lt : ∀ (m x : Nat), x < 4294967296 → itr m x < 4294967296
  | 0, _, h => h
  | m + 1, _, h => itr_lt m _ (cs_lt h)
theorem spec_in (l : List Int) (n j : Int) (y : Nat) (r : Int) (h : Ev (fun k => spec_Crc.l0 k (y : Int) l n (wrap64 (j + 1))) r) (x : Nat) (hx : x < 4294967296) (hy : itr 8 x = y) : Ev (fun k => spec_Crc.l1 k (x : Int) 0 l n j) r := by
  have main := down (n := 8) (P := fun i => ∀ x : Nat, x < 4294967296 → itr (8 - i) x = y → Ev (fun k => spec_Crc.l1 k (x : Int) (i : Int) l n j) r) ?_ ?_
  · exact main x hx hy
  · intro x hx e
    obtain rfl : x = y := e
    generalize hN : ((8 : Nat) : Int) = N
    exact Ev.step (fun _ => rfl) (evneg (by omega) h)
  · intro i hi ih x hx e
    have e2 : itr (8 - (i + 1)) (cs x) = y := by
      rw [show 8 - i = (8 - (i + 1)) + 1 by omega] at e; exact e
    have g := ih (cs x) (cs_lt hx) e2
    refine Ev.step (fun _ => rfl) (evpos (by omega) ?_)
    rw [and32 x hx, w64s (by omega)]
    unfold cs at g
    by_cases c : x % 2 = 1
    · rw [if_pos c] at g
      refine evpos (by rw [c]; rfl) ?_
      rw [show (x : Int) / 2 = ((x / 2 : Nat) : Int) by omega, show (3988292384 : Int) = ((3988292384 : Nat) : Int) from rfl, (xor32 (x / 2) 3988292384 (by omega) (by decide)).1]
      exact g
    · rw [if_neg c] at g
      refine evneg (by omega) ?_
      rw [show (x : Int) / 2 = ((x / 2 : Nat) : Int) by omega]
      exact g
theorem impl_in (l : List Int) (n j : Int) (y : Nat) (r : Int) (h : Ev (fun k => impl_Crc.l0 k (y : Int) l n (wrap64 (j + 1))) r) (x : Nat) (hx : x < 4294967296) (hy : itr 8 x = y) : Ev (fun k => impl_Crc.l1 k (x : Int) l n j 0) r := by
  have main := down (n := 8) (P := fun i => ∀ x : Nat, x < 4294967296 → itr (8 - i) x = y → Ev (fun k => impl_Crc.l1 k (x : Int) l n j (i : Int)) r) ?_ ?_
  · exact main x hx hy
  · intro x hx e
    obtain rfl : x = y := e
    generalize hN : ((8 : Nat) : Int) = N
    exact Ev.step (fun _ => rfl) (evneg (by omega) h)
  · intro i hi ih x hx e
    have e2 : itr (8 - (i + 1)) (cs x) = y := by
      rw [show 8 - i = (8 - (i + 1)) + 1 by omega] at e; exact e
    have g := ih (cs x) (cs_lt hx) e2
    refine Ev.step (fun _ => rfl) (evpos (by omega) ?_)
    rw [and32 x hx, w64s (by omega), show (x : Int) / 2 = ((x / 2 : Nat) : Int) by omega]
    unfold cs at g
    by_cases c : x % 2 = 1
    · rw [if_pos c] at g
      rw [c, show ((3988292384 : Int) * ((1 : Nat) : Int)) % 4294967296 = ((3988292384 : Nat) : Int) from rfl, (xor32 (x / 2) 3988292384 (by omega) (by decide)).1]
      exact g
    · rw [if_neg c] at g
      rw [show x % 2 = 0 by omega, show ((3988292384 : Int) * ((0 : Nat) : Int)) % 4294967296 = ((0 : Nat) : Int) from rfl, (xor32 (x / 2) 0 (by omega) (by decide)).1, Nat.xor_zero]
      exact g
theorem crc_both (l : List Int) (hb : ∀ y ∈ l, 0 ≤ y ∧ y ≤ 255) (hl : l.length ≤ 4611686018427387904) : ∃ q : Nat, q < 4294967296 ∧ Ev (fun k => spec_Crc.f k l) (q : Int) ∧ Ev (fun k => impl_Crc.f k l) (q : Int) := by
  have main := down (n := l.length) (P := fun i => ∀ x : Nat, x < 4294967296 → ∃ q : Nat, q < 4294967296 ∧ Ev (fun k => spec_Crc.l0 k (x : Int) l (l.length : Int) (i : Int)) (q : Int) ∧ Ev (fun k => impl_Crc.l0 k (x : Int) l (l.length : Int) (i : Int)) (q : Int)) ?_ ?_
  · exact main 4294967295 (by decide)
  · intro x hx
    obtain ⟨e, h⟩ := xor32 4294967295 x (by decide) hx
    refine ⟨4294967295 ^^^ x, h, Ev.step (fun _ => rfl) (evneg (by omega) ?_), Ev.step (fun _ => rfl) (evneg (by omega) ?_)⟩
    · rw [show (4294967295 : Int) = ((4294967295 : Nat) : Int) from rfl, e]; exact Ev.now _
    · rw [show (4294967295 : Int) = ((4294967295 : Nat) : Int) from rfl, e]; exact Ev.now _
  · intro i hi ih x hx
    have hm := hb _ (List.getElem_mem hi)
    obtain ⟨b, hb'⟩ : ∃ b : Nat, l[i] = (b : Int) := ⟨l[i].toNat, by omega⟩
    have er : rd l (i : Int) % 4294967296 = ((b : Nat) : Int) := by rw [rd_nat, getD_lt hi, hb']; omega
    obtain ⟨e, h⟩ := xor32 x b hx (by omega)
    obtain ⟨q, h1, h2, h3⟩ := ih (itr 8 (x ^^^ b)) (itr_lt 8 _ h)
    refine ⟨q, h1, Ev.step (fun _ => rfl) (evpos (by omega) (evpos (by omega) (evpos (by omega) ?_))), Ev.step (fun _ => rfl) (evpos (by omega) (evpos (by omega) (evpos (by omega) ?_)))⟩
    · rw [er, e]
      exact spec_in l _ _ _ _ (by rw [w64s (by omega)]; exact h2) _ h rfl
    · rw [er, e]
      exact impl_in l _ _ _ _ (by rw [w64s (by omega)]; exact h3) _ h rfl
/-! ### the name -/
def okc (c : Int) : Prop := (97 ≤ c ∧ c ≤ 122) ∨ (65 ≤ c ∧ c ≤ 90)
set_option maxRecDepth 100000 in
theorem or32_nat : ∀ n : Nat, n < 256 → ((n ||| 32 < 97 ∨ 122 < n ||| 32) ↔ ¬ ((97 ≤ n ∧ n ≤ 122) ∨ (65 ≤ n ∧ n ≤ 90))) := by decide
theorem or32 (s : ByteArray) (i : Int) : (okc (bt s i) → ¬ (Go.bits .or .u8 (bt s i) 32 < 97) ∧ ¬ (Go.bits .or .u8 (bt s i) 32 > 122)) ∧ (¬ okc (bt s i) → Go.bits .or .u8 (bt s i) 32 < 97 ∨ Go.bits .or .u8 (bt s i) 32 > 122) := by
  have hr := bt_range s i
  generalize bt s i = c at hr
  obtain ⟨n, rfl⟩ : ∃ n : Nat, c = (n : Int) := ⟨c.toNat, by omega⟩
  have hn : n < 256 := by omega
  have e : Go.bits .or .u8 (n : Int) 32 = ((n ||| 32 : Nat) : Int) := (bits_nat .u8 8 (by decide) wraps_u8 n 32 (by omega) (by decide)).2
  have h := or32_nat n hn
  rw [e]
  unfold okc
  generalize n ||| 32 = m at h
  omega
theorem spec_ok {s : ByteArray} {i : Nat} {r : Bool} (hi : i < s.size) (h4 : i ≤ 4611686018427387904) (hc : okc (bt s i)) (h : Ev (fun k => spec_l5Name.l0 k s ((i + 1 : Nat) : Int)) r) : Ev (fun k => spec_l5Name.l0 k s (i : Int)) r := by
  unfold okc at hc
  refine Ev.step (fun _ => rfl) (evpos (by omega) (evpos (by omega) ?_))
  rw [w64s h4]
  by_cases c1 : bt s i ≥ 97
  · refine evpos c1 ?_
    by_cases c2 : bt s i ≤ 122
    · exact evpos c2 h
    · exact absurd hc (by omega)
  · refine evneg c1 ?_
    by_cases c2 : bt s i ≥ 65
    · refine evpos c2 ?_
      by_cases c3 : bt s i ≤ 90
      · exact evpos c3 h
      · exact absurd hc (by omega)
    · exact absurd hc (by omega)
theorem spec_bad {s : ByteArray} {i : Nat} (hi : i < s.size) (hc : ¬ okc (bt s i)) : Ev (fun k => spec_l5Name.l0 k s (i : Int)) false := by
  unfold okc at hc
  refine Ev.step (fun _ => rfl) (evpos (by omega) (evpos (by omega) ?_))
  by_cases c1 : bt s i ≥ 97
  · refine evpos c1 ?_
    by_cases c2 : bt s i ≤ 122
    · exact absurd hc (by omega)
    · refine evneg c2 (evpos (by omega) ?_)
      by_cases c3 : bt s i ≤ 90
      · exact absurd hc (by omega)
      · exact evneg c3 (Ev.now _)
  · refine evneg c1 ?_
    by_cases c2 : bt s i ≥ 65
    · refine evpos c2 ?_
      by_cases c3 : bt s i ≤ 90
      · exact absurd hc (by omega)
      · exact evneg c3 (Ev.now _)
    · exact evneg c2 (Ev.now _)
theorem spec_end {s : ByteArray} {i : Nat} (hi : ¬ i < s.size) {r : Bool} (hr : ((s.size : Int) == 4) = r) : Ev (fun k => spec_l5Name.l0 k s (i : Int)) r := by
  subst hr
  exact Ev.step (fun _ => rfl) (evneg (by omega) (Ev.now _))
theorem impl_end {s : ByteArray} {x : Int} (hx : ¬ x < 4) : Ev (fun k => impl_goodName.l0 k s x) true := Ev.step (fun _ => rfl) (evneg hx (Ev.now _))
theorem name_both (s : ByteArray) (hs : s.size ≤ 1048576) : ∃ q : Bool, Ev (fun k => spec_l5Name.f k s) q ∧ Ev (fun k => impl_goodName.f k s) q ∧ (q = true → s.size = 4) := by
  by_cases c : s.size = 4
  · have main := down (n := s.size) (P := fun i => ∃ q : Bool, Ev (fun k => spec_l5Name.l0 k s (i : Int)) q ∧ Ev (fun k => impl_goodName.l0 k s (i : Int)) q) ?_ ?_
    · obtain ⟨q, h1, h2⟩ := main
      exact ⟨q, h1, evpos (by omega) h2, fun _ => c⟩
    · exact ⟨true, spec_end (Nat.lt_irrefl _) (by rw [c]; rfl), impl_end (by omega)⟩
    · intro i hi ⟨q, h1, h2⟩
      by_cases k : okc (bt s i)
      · refine ⟨q, spec_ok hi (by omega) k h1, Ev.step (fun _ => rfl) (evpos (by omega) (evpos (by omega) (evpos (by omega) (evneg ((or32 s i).1 k).1 (evneg ((or32 s i).1 k).2 ?_)))))⟩
        rw [w64s (by omega)]; exact h2
      · refine ⟨false, spec_bad hi k, Ev.step (fun _ => rfl) (evpos (by omega) (evpos (by omega) (evpos (by omega) ?_)))⟩
        by_cases c1 : Go.bits .or .u8 (bt s i) 32 < 97
        · exact evpos c1 (Ev.now _)
        · exact evneg c1 (evpos (((or32 s i).2 k).resolve_left c1) (Ev.now _))
  · refine ⟨false, ?_, evneg (by omega) (Ev.now _), (fun h => by cases h)⟩
    refine down (n := s.size) (P := fun i => Ev (fun k => spec_l5Name.l0 k s (i : Int)) false) (spec_end (Nat.lt_irrefl _) (beq_eq_false_iff_ne.2 (by omega))) ?_
    intro i hi h
    by_cases k : okc (bt s i)
    · exact spec_ok hi (by omega) k h
    · exact spec_bad hi k
/-! ### four bytes -/
theorem byte_at {l : List Int} (hb : ∀ y ∈ l, 0 ≤ y ∧ y ≤ 255) {i : Nat} (h : i < l.length) : ∃ x : Nat, rd l (i : Int) = (x : Int) ∧ x < 256 := by
  have := hb _ (List.getElem_mem h)
  exact ⟨l[i].toNat, by rw [rd_nat, getD_lt h]; omega, by omega⟩
def q4 (l : List Int) : Int := ((rd l 0 * 256 + rd l 1) * 256 + rd l 2) * 256 + rd l 3
theorem i64_small (n : Int) (h0 : 0 ≤ n) (h1 : n < 2 ^ 32) : IntKind.i64.wrap n = n := (i64_w n).trans (w64 (by omega) (by omega))
theorem or_n (a b : Nat) (ha : a < 4294967296) (hb : b < 4294967296) : Go.bits .or .i64 (a : Int) (b : Int) = ((a ||| b : Nat) : Int) := (bits_nat .i64 32 (by decide) i64_small a b ha hb).2
theorem and_n (a b : Nat) (ha : a < 4294967296) (hb : b < 4294967296) : Go.bits .and .i64 (a : Int) (b : Int) = ((a &&& b : Nat) : Int) := (bits_nat .i64 32 (by decide) i64_small a b ha hb).1
theorem or_four (a b c d : Nat) (hb : b < 256) (hc : c < 256) (hd : d < 256) : a * 16777216 ||| b * 65536 ||| c * 256 ||| d = ((a * 256 + b) * 256 + c) * 256 + d := by
  have e1 : a * 16777216 ||| b * 65536 = a * 16777216 + b * 65536 := by
    rw [Nat.mul_comm a]; exact (Nat.two_pow_add_eq_or_of_lt (i := 24) (b := b * 65536) (by omega) a).symm
  have e2 : (a * 16777216 + b * 65536) ||| c * 256 = (a * 16777216 + b * 65536) + c * 256 := by
    have := (Nat.two_pow_add_eq_or_of_lt (i := 16) (b := c * 256) (by omega) (a * 256 + b)).symm
    rwa [show 2 ^ 16 * (a * 256 + b) = a * 16777216 + b * 65536 by omega] at this
  have e3 : ((a * 16777216 + b * 65536) + c * 256) ||| d = ((a * 16777216 + b * 65536) + c * 256) + d := by
    have := (Nat.two_pow_add_eq_or_of_lt (i := 8) (b := d) (by omega) (a * 65536 + b * 256 + c)).symm
    rwa [show 2 ^ 8 * (a * 65536 + b * 256 + c) = (a * 16777216 + b * 65536) + c * 256 by omega] at this
  rw [e1, e2, e3]; omega
theorem l5_four (l : List Int) (h : l.length = 4) (hb : ∀ y ∈ l, 0 ≤ y ∧ y ≤ 255) : Ev (fun k => spec_l5Int.f k l) (q4 l) := by
  have st : ∀ (v : Int) (i : Nat) (r : Int), i < 4 → 0 ≤ v → v < 16777216 → Ev (fun k => spec_l5Int.l0 k (v * 256 + rd l (i : Int)) l (l.length : Int) ((i + 1 : Nat) : Int)) r → Ev (fun k => spec_l5Int.l0 k v l (l.length : Int) (i : Int)) r := by
    intro v i r hi h0 h1 he
    obtain ⟨x, e, hx⟩ := byte_at hb (i := i) (by omega)
    have a1 : wrap64 (wrap64 (v * 256) + wrap64 (rd l (i : Int))) = v * 256 + rd l (i : Int) := by
      rw [e, w64 (n := v * 256) (by omega) (by omega), w64 (n := (x : Int)) (by omega) (by omega)]; exact w64 (by omega) (by omega)
    refine Ev.step (fun k => rfl) (evpos (by omega) (evpos (by omega) (evpos (by omega) ?_)))
    rw [a1, w64s (by omega)]
    exact he
  obtain ⟨x0, e0, h0⟩ := byte_at hb (i := 0) (by omega)
  obtain ⟨x1, e1, h1⟩ := byte_at hb (i := 1) (by omega)
  obtain ⟨x2, e2, h2⟩ := byte_at hb (i := 2) (by omega)
  obtain ⟨x3, e3, h3⟩ := byte_at hb (i := 3) (by omega)
  unfold q4
  rw [show rd l 0 = (x0 : Int) from e0, show rd l 1 = (x1 : Int) from e1, show rd l 2 = (x2 : Int) from e2, show rd l 3 = (x3 : Int) from e3]
  have z3 : Ev (fun k => spec_l5Int.l0 k (((((x0 : Int) * 256 + x1) * 256 + x2) * 256) + x3) l (l.length : Int) ((4 : Nat) : Int)) (((((x0 : Int) * 256 + x1) * 256 + x2) * 256) + x3) := by
    generalize hN : ((4 : Nat) : Int) = N
    exact Ev.step (fun k => rfl) (evneg (by omega) (Ev.now _))
  rw [← e3] at z3
  have z2 := st _ 3 _ (by omega) (by omega) (by omega) z3
  rw [← e2] at z2
  have z1 := st _ 2 _ (by omega) (by omega) (by omega) z2
  rw [← e1] at z1
  have z0 := st _ 1 _ (by omega) (by omega) (by omega) z1
  rw [show (x0 : Int) = 0 * 256 + rd l ((0 : Nat) : Int) by rw [e0]; omega] at z0
  have z := st _ 0 _ (by omega) (by omega) (by omega) z0
  rw [e1, e2, e3] at z
  rw [e0] at z
  rw [show (0 : Int) * 256 + (x0 : Int) = x0 by omega] at z
  exact z
/-! ### marks -/
theorem text_some : ∀ (n : Nat) (a : Nat) (x : ByteArray), a ≤ n → x.size + a ≤ 2305843009213693952 → ∃ s, Ev (fun k => laws_markText.l0 k (a : Int) x) s := by
  intro n
  induction n with
  | zero =>
    intro a x ha hx
    exact ⟨_, Ev.step (fun k => rfl) (evneg (by omega) (evpos (by omega) (Ev.now _)))⟩
  | succ n ih =>
    intro a x ha hx
    by_cases c : a = 0
    · exact ⟨_, Ev.step (fun k => rfl) (evneg (by omega) (evpos (by omega) (Ev.now _)))⟩
    · have hd : wrap64 (Int.tdiv (a : Int) 10) = ((a / 10 : Nat) : Int) := by
        rw [Int.tdiv_eq_ediv_of_nonneg (by omega)]; exact (w64 (by omega) (by omega)).trans (by omega)
      obtain ⟨s, hs⟩ := ih (a / 10) (strOfNums [(wrap64 (48 + (Int.tmod (a : Int) 10))) % 256] ++ x) (by omega) (by
        rw [ByteArray.size_append, strOfNums_size]; simp only [List.length_singleton]; omega)
      refine ⟨s, Ev.step (fun k => rfl) (evpos (by omega) (evlet rfl (evpos ?_ ?_)))⟩
      · rw [strOfNums_size]; simp only [List.length_singleton]; omega
      · rw [hd]; exact hs
theorem text_of (a : Int) (h0 : 0 ≤ a) (h1 : a ≤ 1152921504606846976) : ∃ s, Ev (fun k => laws_markText.f k a) s := by
  by_cases c : a ≤ 0
  · exact ⟨_, evpos c (Ev.now _)⟩
  · obtain ⟨s, hs⟩ := text_some a.toNat a.toNat ⟨#[]⟩ (Nat.le_refl _) (by show 0 + _ ≤ _; omega)
    rw [show ((a.toNat : Nat) : Int) = a by omega] at hs
    exact ⟨s, evneg c hs⟩
theorem mhCh (n : Nat) (hn : n ≤ 1048576) (C : Int) (hC : C ≤ 1125899906842624) (r : Nat) : ∀ (i : Nat) (m : List S46) (a : Int), i + r = n → m.length = n → (∀ y ∈ m, y.f1.length ≤ 1048576) → 0 ≤ a → a ≤ C + 1048577 * (i : Int) →
    ∃ b l', Ev (fun k => laws_markChunkS.l0 k m a (i : Int)) (b, l') ∧ Ev (fun k => laws_heldChunkS.l0 k l' a (i : Int)) b ∧ l'.length = n ∧ (∀ j, j < i → l'.getD j z46 = m.getD j z46) ∧ a ≤ b ∧ b ≤ C + 1048577 * (n : Int) := by
  induction r with
  | zero =>
    intro i m a hi hm _ h0 h1
    have e : i = n := by omega
    exact ⟨a, m, Ev.step (fun k => rfl) (evneg (by omega) (Ev.now _)), Ev.step (fun k => rfl) (evneg (by omega) (Ev.now _)), hm, fun _ _ => rfl, by omega, by omega⟩
  | succ r ih =>
    intro i m a hi hm hy h0 h1
    have hil : i < m.length := by omega
    have hb := hy _ (List.getElem_mem hil)
    obtain ⟨s, hs⟩ := text_of a h0 (by omega)
    have ea := Aside0.mk (show wrap64 (a + 1) = a + 1 from w64 (by omega) (by omega))
    obtain ⟨l1, e1, e2, e3⟩ := mhByteS m[i].f1 (a + 1) (by omega) (by omega)
    obtain ⟨b, l', e, eh, en, eo, e4, e5⟩ := ih (i + 1) (m.set i ⟨s, l1⟩) (a + 1 + m[i].f1.length) (by omega) (by rw [List.length_set]; exact hm) (fun y hy' => by
      rcases List.mem_or_eq_of_mem_set hy' with h | h
      · exact hy y h
      · rw [h]; dsimp only; rw [e3]; exact hb) (by omega) (by omega)
    have ei : l'.getD i z46 = ⟨s, l1⟩ := by rw [eo i (by omega), set_getD hil]
    refine ⟨b, l', Ev.step (fun k => rfl) (evpos (by omega) (evpos (by omega) (Ev.bind hs ?_))), Ev.step (fun k => rfl) (evpos (by omega) (evpos (by omega) (Ev.bind hs ?_))), en, fun j hj => ?_, by omega, e5⟩
    · rw [w64s (by omega), rdT46, ea.out]
      simp only [Int.toNat_natCast]
      rw [getD_lt hil]
      exact Ev.bind e1 e
    · rw [w64s (by omega), rdT46, ei, ea.out]
      exact evpos rfl (Ev.bind e2 (evneg (by omega) eh))
    · rw [eo j (by omega)]
      simp only [List.getD_eq_getElem?_getD]
      rw [List.getElem?_set_ne (by omega)]
theorem mhRes (e : Int) (l : List S46) (h : l.length ≤ 1048576 ∧ ∀ y ∈ l, y.f1.length ≤ 1048576) : ∃ (m : Int) (l' : List S46), Ev (fun k => laws_markChunkRes.f k l 1) (m, l') ∧ 0 ≤ m ∧ Ev (fun k => laws_heldChunkRes.f k e l' 1) m := by
  obtain ⟨m, l', c1, c2, _, _, c3, c4⟩ := mhCh l.length h.1 1 (by omega) l.length 0 l 1 (by omega) rfl h.2 (by omega) (by omega)
  exact ⟨m, l', c1, by omega, Ev.bind c2 (evneg (by omega) (Ev.now _))⟩
/-! ### a number of four bytes, by the program -/
theorem unbig4 (l : List Int) (h : l.length = 4) (hb : ∀ y ∈ l, 0 ≤ y ∧ y ≤ 255) : Ev (fun k => impl_unbig.f k l) (q4 l) ∧ 0 ≤ q4 l ∧ q4 l < 4294967296 := by
  have st : ∀ (v : Nat) (i : Nat) (r : Int), i < 4 → v < 16777216 → Ev (fun k => impl_unbig.l0 k ((v : Int) * 256 + rd l (i : Int)) l (l.length : Int) ((i + 1 : Nat) : Int)) r → Ev (fun k => impl_unbig.l0 k (v : Int) l (l.length : Int) (i : Int)) r := by
    intro v i r hi h1 he
    obtain ⟨x, e, hx⟩ := byte_at hb (i := i) (by omega)
    have a1 : Go.bits .or .i64 (wrap64 ((v : Int) * 256)) (wrap64 (rd l (i : Int))) = (v : Int) * 256 + rd l (i : Int) := by
      rw [e, w64 (n := (v : Int) * 256) (by omega) (by omega), w64 (n := (x : Int)) (by omega) (by omega), show (v : Int) * 256 = ((v * 256 : Nat) : Int) by omega, or_n _ _ (by omega) (by omega)]
      have := (Nat.two_pow_add_eq_or_of_lt (i := 8) (b := x) (by omega) v).symm
      rw [show v * 256 ||| x = v * 256 + x by rw [Nat.mul_comm v]; exact this]
      omega
    refine Ev.step (fun k => rfl) (evpos (by omega) (evpos (by omega) (evpos (by omega) ?_)))
    rw [a1, w64s (by omega)]
    exact he
  obtain ⟨x0, e0, h0⟩ := byte_at hb (i := 0) (by omega)
  obtain ⟨x1, e1, h1⟩ := byte_at hb (i := 1) (by omega)
  obtain ⟨x2, e2, h2⟩ := byte_at hb (i := 2) (by omega)
  obtain ⟨x3, e3, h3⟩ := byte_at hb (i := 3) (by omega)
  unfold q4
  rw [show rd l 0 = (x0 : Int) from e0, show rd l 1 = (x1 : Int) from e1, show rd l 2 = (x2 : Int) from e2, show rd l 3 = (x3 : Int) from e3]
  refine ⟨?_, by omega, by omega⟩
  have z3 : Ev (fun k => impl_unbig.l0 k (((((x0 : Int) * 256 + x1) * 256 + x2) * 256) + x3) l (l.length : Int) ((4 : Nat) : Int)) (((((x0 : Int) * 256 + x1) * 256 + x2) * 256) + x3) := by
    generalize hN : ((4 : Nat) : Int) = N
    exact Ev.step (fun k => rfl) (evneg (by omega) (Ev.now _))
  have y3 : ((x0 : Int) * 256 + x1) * 256 + x2 = ((((x0 * 256 + x1) * 256 + x2 : Nat)) : Int) := by omega
  have y2 : (x0 : Int) * 256 + x1 = ((x0 * 256 + x1 : Nat) : Int) := by omega
  have g3 := st ((x0 * 256 + x1) * 256 + x2) 3 _ (by omega) (by omega) (by rw [e3, ← y3]; exact z3)
  have g2 := st (x0 * 256 + x1) 2 _ (by omega) (by omega) (by rw [e2, ← y2, y3]; exact g3)
  have g1 := st x0 1 _ (by omega) (by omega) (by rw [e1, y2]; exact g2)
  have g0 := st 0 0 _ (by omega) (by omega) (by rw [e0, show (((0 : Nat) : Int)) * 256 + (x0 : Int) = (x0 : Int) by omega]; exact g1)
  exact g0
theorem q4_take (y : List Int) (hy : 4 ≤ y.length) : q4 (y.take 4) = q4 y := by
  match y, hy with
  | a :: b :: c :: d :: t, _ => rfl
/-! ### one chunk -/
abbrev Res := Int × List S46
def okR (r : Res) : Prop := r.2.length ≤ 60000 ∧ ∀ y ∈ r.2, y.f1.length ≤ 60000
def Two (f g : Nat → Option Res) : Prop := ∃ r : Res, Ev f r ∧ Ev g r ∧ okR r
theorem two_bad {f g : Nat → Option Res} (e : Int) (h : Ev f (e, [])) (k : Ev g (e, [])) : Two f g := ⟨(e, []), h, k, Nat.zero_le _, fun y hy => by cases hy⟩
theorem wn {a : Int} {n : Nat} (h : a = (n : Int)) (hn : n ≤ 4611686018427387904) : wrap64 a = (n : Int) := by rw [h]; exact w64 (by omega) (by omega)
section
variable (l : List Int) (hb : ∀ y ∈ l, 0 ≤ y ∧ y ≤ 255) (hl : l.length ≤ 60000)
def At (at_ : Nat) : Prop := ∀ (cs : List S46), cs.length ≤ at_ → (∀ y ∈ cs, y.f1.length ≤ 60000) → Two (fun k => spec_ReadChunks.l1 k l cs (at_ : Int)) (fun k => impl_ReadChunks.l0 k cs (l.drop at_))
set_option maxHeartbeats 4000000 in
include hb hl in
theorem one_chunk (at_ : Nat) (ih : ∀ a, at_ < a → a ≤ l.length → At l a) (ha : at_ ≤ l.length) : At l at_ := by
  intro cs h1 h2
  obtain ⟨r, hr⟩ : ∃ r, l.drop at_ = r := ⟨_, rfl⟩
  have hrl : r.length = l.length - at_ := by rw [← hr]; exact List.length_drop
  have hrb : ∀ y ∈ r, 0 ≤ y ∧ y ≤ 255 := fun y hy => hb y (List.mem_of_mem_drop (hr ▸ hy))
  rw [hr]
  by_cases c0 : at_ = l.length
  · exact ⟨(0, cs), Ev.step (fun k => rfl) (evneg (by omega) (Ev.now _)), Ev.step (fun k => rfl) (evneg (by omega) (Ev.now _)), (show cs.length ≤ 60000 by omega), h2⟩
  have e0 : Aside0 (wrap64 ((l.length : Int) - (at_ : Int)) = (r.length : Int)) := ⟨wn (by omega) (by omega)⟩
  have sh : ∀ b : Bool, b = true → Ev (fun k => impl_ReadChunks.j1 k cs r b) ((2, []) : Res) := fun b hb' => Ev.step (fun k => rfl) (evpos hb' (Ev.now _))
  by_cases c12 : (r.length : Int) < 12
  · exact two_bad 2 (Ev.step (fun k => rfl) (evpos (by omega) (evpos (by rw [e0.out]; exact c12) (Ev.now _)))) (Ev.step (fun k => rfl) (evpos (by omega) (evpos c12 (sh true rfl))))
  have sub4 : ∀ m : Nat, m + 4 ≤ r.length → ((r.drop m).take 4).length = 4 := fun m hm => by rw [List.length_take, List.length_drop]; omega
  have subb : ∀ m n : Nat, ∀ y ∈ (r.drop m).take n, 0 ≤ y ∧ y ≤ 255 := fun m n y hy => hrb y (List.mem_of_mem_drop (List.mem_of_mem_take hy))
  have cut : ∀ m n : Nat, (l.take (at_ + m + n)).drop (at_ + m) = (r.drop m).take n := fun m n => by rw [← hr, List.drop_drop, List.take_drop]
  obtain ⟨g1, g2, g3⟩ := unbig4 ((r.drop 0).take 4) (sub4 0 (by omega)) (subb 0 4)
  have f1 := l5_four ((r.drop 0).take 4) (sub4 0 (by omega)) (subb 0 4)
  have n12 : Aside0 (wrap64 ((r.length : Int) - 12) = (r.length : Int) - 12) := ⟨w64 (by omega) (by omega)⟩
  have s4 : Aside0 (wrap64 ((at_ : Int) + 4) = ((at_ + 4 : Nat) : Int)) := ⟨wn (by omega) (by omega)⟩
  have s8 : Aside0 (wrap64 ((at_ : Int) + 8) = ((at_ + 8 : Nat) : Int)) := ⟨wn (by omega) (by omega)⟩
  have s12 : Aside0 (wrap64 ((at_ : Int) + 12) = ((at_ + 12 : Nat) : Int)) := ⟨wn (by omega) (by omega)⟩
  obtain ⟨v, hv⟩ : ∃ v : Nat, q4 ((r.drop 0).take 4) = (v : Int) := ⟨(q4 ((r.drop 0).take 4)).toNat, by omega⟩
  rw [hv] at g1 g2 g3 f1
  have t0 : (l.take (at_ + 4)).drop at_ = (r.drop 0).take 4 := cut 0 4
  rw [List.drop_zero] at t0 g1 f1
  by_cases cv : (v : Int) > (r.length : Int) - 12
  · refine two_bad 2 (Ev.step (fun k => rfl) (evpos (by omega) ?_)) (Ev.step (fun k => rfl) (evpos (by omega) (evneg c12 (evpos (by omega) (Ev.bind g1 (sh _ (decide_eq_true (by rw [n12.out]; exact cv))))))))
    rw [e0.out, s4.out]
    refine evneg c12 (evpos (by omega) (evpos (by omega) (evpos (by omega) ?_)))
    simp only [Int.toNat_natCast]
    rw [t0]
    refine Ev.bind f1 (evpos ?_ (Ev.now _))
    rw [n12.out]; exact cv
  have u8 : Aside0 (wrap64 (((at_ + 8 : Nat) : Int) + (v : Int)) = ((at_ + 8 + v : Nat) : Int)) := ⟨wn (by omega) (by omega)⟩
  have u12 : Aside0 (wrap64 (((at_ + 12 : Nat) : Int) + (v : Int)) = ((at_ + 12 + v : Nat) : Int)) := ⟨wn (by omega) (by omega)⟩
  have u13 : Aside0 (wrap64 ((at_ : Int) + wrap64 (12 + (v : Int))) = ((at_ + 12 + v : Nat) : Int)) := ⟨by
    rw [wn (a := 12 + (v : Int)) (n := 12 + v) (by omega) (by omega)]; exact wn (by omega) (by omega)⟩
  have i8 : Aside0 (wrap64 (8 + (v : Int)) = ((8 + v : Nat) : Int)) := ⟨wn (by omega) (by omega)⟩
  have i12 : Aside0 (wrap64 (12 + (v : Int)) = ((12 + v : Nat) : Int)) := ⟨wn (by omega) (by omega)⟩
  -- the pieces
  obtain ⟨B, hB⟩ : ∃ B, (r.drop 4).take (4 + v) = B := ⟨_, rfl⟩
  have hBl : B.length = 4 + v := by rw [← hB, List.length_take, List.length_drop]; omega
  have hBb : ∀ y ∈ B, 0 ≤ y ∧ y ≤ 255 := fun y hy => subb 4 (4 + v) y (hB ▸ hy)
  have t1 : (l.take (at_ + 8 + v)).drop (at_ + 4) = B := by rw [← hB, ← cut 4 (4 + v), show at_ + 4 + (4 + v) = at_ + 8 + v by omega]
  have t2 : (l.take (at_ + 12 + v)).drop (at_ + 8 + v) = (r.drop (8 + v)).take 4 := by rw [← cut (8 + v) 4, show at_ + (8 + v) + 4 = at_ + 12 + v by omega, show at_ + (8 + v) = at_ + 8 + v by omega]
  have y1 : (r.take 8).drop 4 = B.take 4 := by rw [← hB, List.take_take, Nat.min_eq_left (by omega), List.take_drop]
  have y2 : (r.take (8 + v)).drop 8 = B.drop 4 := by rw [← hB, List.take_drop, List.drop_drop, show 4 + (4 + v) = 8 + v by omega]
  have y3 : (r.take (12 + v)).drop (8 + v) = (r.drop (8 + v)).take 4 := by rw [List.take_drop, show 8 + v + 4 = 12 + v by omega]
  have y4 : (r.take (8 + v)).drop 4 = B := by rw [← hB, List.take_drop, show 4 + (4 + v) = 8 + v by omega]
  obtain ⟨nm, p1, p2, _⟩ := name_both (strOfNums (B.take 4)) (by rw [strOfNums_size, List.length_take]; omega)
  obtain ⟨k1, k2, k3⟩ := unbig4 ((r.drop (8 + v)).take 4) (sub4 (8 + v) (by omega)) (subb (8 + v) 4)
  have f2 := l5_four ((r.drop (8 + v)).take 4) (sub4 (8 + v) (by omega)) (subb (8 + v) 4)
  obtain ⟨q, hq, cs1, cs2⟩ := crc_both B hBb (by omega)
  have wq : Aside0 (wrap64 (q : Int) = (q : Int)) := ⟨w64 (by omega) (by omega)⟩
  have mq : q4 ((r.drop (8 + v)).take 4) % 4294967296 = q4 ((r.drop (8 + v)).take 4) := by omega
  generalize q4 ((r.drop (8 + v)).take 4) = z at k1 k2 k3 f2 mq
  -- the reference up to the name
  have toS : ∀ R : Res, Ev (fun k => if nm = true then (if z % 4294967296 = (q : Int) then (spec_ReadChunks.l1 k l (cs ++ [(⟨strOfNums (B.take 4), ([] : List Int) ++ B.drop 4⟩ : S46)]) ((at_ + 12 + v : Nat) : Int)) else (some (3, ([] : List S46)))) else (some (4, ([] : List S46)))) R → Ev (fun k => spec_ReadChunks.l1 k l cs (at_ : Int)) R := by
    intro R h
    refine Ev.step (fun k => rfl) (evpos (by omega) ?_)
    rw [e0.out, s4.out, s8.out, s12.out]
    refine evneg c12 (evpos (by omega) (evpos (by omega) (evpos (by omega) ?_)))
    simp only [Int.toNat_natCast]
    rw [t0]
    refine Ev.bind f1 ?_
    rw [n12.out, u8.out, u12.out, u13.out]
    refine evneg cv (evpos (by omega) (evpos (by omega) (evpos (by omega) ?_)))
    simp only [Int.toNat_natCast]
    rw [t1, t2]
    refine evlet rfl (evpos (by omega) (Ev.bind p1 ?_))
    by_cases cn : nm = true
    · replace h := Ev.congr (fun _ => (if_pos cn).symm) h
      refine evpos cn (evpos (by omega) (evpos (by omega) (evpos (by omega) (Ev.bind f2 (Ev.bind cs1 ?_)))))
      by_cases cz : z % 4294967296 = (q : Int)
      · replace h := Ev.congr (fun _ => (if_pos cz).symm) h
        exact evpos cz (evlet rfl (evpos (by rw [List.length_drop, List.length_nil]; omega) (evpos (by omega) h)))
      · replace h := Ev.congr (fun _ => (if_neg cz).symm) h
        exact evneg cz h
    · replace h := Ev.congr (fun _ => (if_neg cn).symm) h
      exact evneg cn h
  have dI : decide ((v : Int) > wrap64 ((r.length : Int) - 12)) = false := decide_eq_false (by rw [n12.out]; exact cv)
  have toI : ∀ R : Res, Ev (fun k => if nm = true then (if z = (q : Int) then (impl_ReadChunks.l0 k (cs ++ [(⟨strOfNums (B.take 4), ([] : List Int) ++ B.drop 4⟩ : S46)]) (r.drop (12 + v))) else (some (3, ([] : List S46)))) else (some (4, ([] : List S46)))) R → Ev (fun k => impl_ReadChunks.l0 k cs r) R := by
    intro R h
    refine Ev.step (fun k => rfl) (evpos (by omega) (evneg c12 (evpos (by omega) (Ev.bind g1 (Ev.step (fun k => rfl) (evneg (by rw [dI]; decide) (evpos (by omega) (Ev.bind g1 (evpos (by decide) (evpos (by omega) ?_))))))))))
    rw [i8.out, i12.out, y1]
    simp only [Int.toNat_natCast]
    rw [y2, y3, y4]
    refine evlet rfl (evpos (by omega) (evpos (by omega) (evlet rfl (evpos (by rw [List.length_drop, List.length_nil]; omega) (Ev.bind p2 ?_)))))
    by_cases cn : nm = true
    · replace h := Ev.congr (fun _ => (if_pos cn).symm) h
      refine evpos cn (evpos (by omega) (evpos (by omega) (evpos (by omega) (Ev.bind k1 (evpos (by omega) (Ev.bind cs2 ?_))))))
      rw [wq.out]
      by_cases cz : z = (q : Int)
      · replace h := Ev.congr (fun _ => (if_pos cz).symm) h
        exact evpos cz (evpos (by omega) (evpos (by omega) h))
      · replace h := Ev.congr (fun _ => (if_neg cz).symm) h
        exact evneg cz h
    · replace h := Ev.congr (fun _ => (if_neg cn).symm) h
      exact evneg cn h
  rw [mq] at toS
  by_cases cn : nm = true
  · by_cases cz : z = (q : Int)
    · obtain ⟨R, r1, r2, r3⟩ := ih (at_ + 12 + v) (by omega) (by omega) (cs ++ [(⟨strOfNums (B.take 4), ([] : List Int) ++ B.drop 4⟩ : S46)]) (by rw [List.length_append, List.length_singleton]; omega) (fun y hy => by
        rcases List.mem_append.1 hy with h | h
        · exact h2 y h
        · rw [List.mem_singleton] at h
          rw [h]
          show ([] ++ B.drop 4).length ≤ 60000
          rw [List.nil_append, List.length_drop]; omega)
      refine ⟨R, toS R (evpos cn (evpos cz r1)), toI R (evpos cn (evpos cz ?_)), r3⟩
      rw [← hr, List.drop_drop, show at_ + (12 + v) = at_ + 12 + v by omega]; exact r2
    · exact two_bad 3 (toS _ (evpos cn (evneg cz (Ev.now _)))) (toI _ (evpos cn (evneg cz (Ev.now _))))
  · exact two_bad 4 (toS _ (evneg cn (Ev.now _))) (toI _ (evneg cn (Ev.now _)))
include hb hl in
theorem chunks (d : Nat) : ∀ at_, at_ ≤ l.length → l.length - at_ ≤ d → At l at_ := by
  induction d with
  | zero => exact fun at_ h1 h2 => one_chunk l hb hl at_ (fun a h3 h4 => by omega) h1
  | succ d ih => exact fun at_ h1 h2 => one_chunk l hb hl at_ (fun a h3 h4 => ih a h4 (by omega)) h1
end
/-! ### the mark -/
theorem nums_inj (a b : List Int) (ha : ∀ y ∈ a, 0 ≤ y ∧ y ≤ 255) (hb : ∀ y ∈ b, 0 ≤ y ∧ y ≤ 255) (h : (strOfNums a).toList = (strOfNums b).toList) : a = b := by
  rw [Go.Lib.strOfNums_toList, Go.Lib.strOfNums_toList] at h
  have hl := congrArg List.length h
  simp only [Go.Lib.bytesOf, List.length_map] at hl
  apply List.ext_getElem hl
  intro i h1 h2
  have e := congrArg (fun l => l[i]?) h
  simp only [Go.Lib.bytesOf, List.getElem?_map, List.getElem?_eq_getElem h1, List.getElem?_eq_getElem h2, Option.map_some, Option.some.injEq] at e
  have e2 := congrArg UInt8.toNat e
  rw [show (UInt8.ofNat a[i].toNat).toNat = a[i].toNat % 256 from UInt8.toNat_ofNat', show (UInt8.ofNat b[i].toNat).toNat = b[i].toNat % 256 from UInt8.toNat_ofNat'] at e2
  have a1 := ha _ (List.getElem_mem h1)
  have b1 := hb _ (List.getElem_mem h2)
  omega
theorem shL_len : shL.length = 8 := rfl
theorem shL_b : ∀ y ∈ shL, 0 ≤ y ∧ y ≤ 255 := by decide
theorem mark_spec (l : List Int) (h8 : 8 ≤ l.length) : (l.take 8 = shL ∧ ∀ r : Res, Ev (fun k => spec_ReadChunks.l1 k l [] 8) r → Ev (fun k => spec_ReadChunks.l0 k l shL (shL.length : Int) 0) r) ∨ (l.take 8 ≠ shL ∧ Ev (fun k => spec_ReadChunks.l0 k l shL (shL.length : Int) 0) ((4, []) : Res)) := by
  have main := down (n := 8) (P := fun i => ((∀ j : Nat, i ≤ j → j < 8 → rd l (j : Int) = rd shL (j : Int)) ∧ ∀ r : Res, Ev (fun k => spec_ReadChunks.l1 k l [] 8) r → Ev (fun k => spec_ReadChunks.l0 k l shL (shL.length : Int) (i : Int)) r) ∨ ((∃ j : Nat, j < 8 ∧ rd l (j : Int) ≠ rd shL (j : Int)) ∧ Ev (fun k => spec_ReadChunks.l0 k l shL (shL.length : Int) (i : Int)) ((4, []) : Res))) ?_ ?_
  · rcases main with ⟨h, k⟩ | ⟨⟨j, hj, hn⟩, k⟩
    · refine .inl ⟨?_, k⟩
      apply List.ext_getElem
      · rw [List.length_take, shL_len]; omega
      · intro i h1 h2
        rw [shL_len] at h2
        have := h i (by omega) h2
        rw [rd_nat, rd_nat, getD_lt (by omega), getD_lt (by rw [shL_len]; omega)] at this
        rw [List.getElem_take]; exact this
    · refine .inr ⟨fun e => hn ?_, k⟩
      rw [← e, rd_nat, rd_nat, getD_lt (by omega), getD_lt (by rw [List.length_take]; omega), List.getElem_take]
  · refine .inl ⟨fun j h1 h2 => by omega, fun r h => ?_⟩
    generalize hN : ((8 : Nat) : Int) = N
    exact Ev.step (fun k => rfl) (evneg (by rw [shL_len]; omega) h)
  · intro i hi h
    have hs : (i : Int) < (shL.length : Int) := by rw [shL_len]; omega
    by_cases c : rd l (i : Int) = rd shL (i : Int)
    · rcases h with ⟨h, k⟩ | ⟨h, k⟩
      · refine .inl ⟨fun j h1 h2 => ?_, fun r hr => Ev.step (fun k => rfl) (evpos hs (evpos (by omega) (evpos hs (evpos (by omega) (evpos c ?_)))))⟩
        · by_cases e : j = i
          · rw [e]; exact c
          · exact h j (by omega) h2
        · rw [w64s (by omega)]; exact k r hr
      · refine .inr ⟨h, Ev.step (fun k => rfl) (evpos hs (evpos (by omega) (evpos hs (evpos (by omega) (evpos c ?_)))))⟩
        rw [w64s (by omega)]; exact k
    · exact .inr ⟨⟨i, hi, c⟩, Ev.step (fun k => rfl) (evpos hs (evpos (by omega) (evpos hs (evpos (by omega) (evneg c (Ev.now _))))))⟩
theorem read_both (l : List Int) (hb : ∀ y ∈ l, 0 ≤ y ∧ y ≤ 255) : Two (fun k => spec_ReadChunks.f k l) (fun k => impl_ReadChunks.f k l) := by
  by_cases c1 : (l.length : Int) > 60000
  · exact two_bad 1 (evpos c1 (Ev.now _)) (evpos c1 (Ev.now _))
  by_cases c2 : (l.length : Int) < 8
  · exact two_bad 2 (evneg c1 (evpos c2 (Ev.now _))) (evneg c1 (evpos c2 (Ev.now _)))
  rcases mark_spec l (by omega) with ⟨e, h⟩ | ⟨e, h⟩
  · obtain ⟨R, r1, r2, r3⟩ := chunks l hb (by omega) l.length 8 (by omega) (by omega) [] (by decide) (fun y hy => by cases hy)
    have he : bytes_Equal.f (l.take 8) shL = some true := by rw [e]; unfold bytes_Equal.f; rw [beq_self_eq_true]
    exact ⟨R, evneg c1 (evneg c2 (evlet rfl (h R r1))), evneg c1 (evneg c2 (evpos (by omega) (evlet he (evpos rfl r2)))), r3⟩
  · have he : bytes_Equal.f (l.take 8) shL = some false := by
      unfold bytes_Equal.f
      rw [beq_eq_false_iff_ne.2 (fun h => e (nums_inj _ _ (fun y hy => hb y (List.mem_of_mem_take hy)) shL_b h))]
    exact two_bad 4 (evneg c1 (evneg c2 (evlet rfl h))) (evneg c1 (evneg c2 (evpos (by omega) (evlet he (evneg (by decide) (Ev.now _))))))
theorem FnExactReadChunks : laws_FnExactReadChunks.Pure := by
  intro l0 _ _ hw
  show _ ∨ _
  by_cases cl : (l0.length : Int) > 1048576
  · exact .inl cl
  refine .inr ?_
  have hb : ∀ y ∈ l0, 0 ≤ y ∧ y ≤ 255 := fun y hy => wfb (hw y hy)
  obtain ⟨⟨r1, r2⟩, e1, e2, o1, o2⟩ := read_both l0 hb
  dsimp only at o1 o2
  obtain ⟨x', a1, _, _⟩ := mhByteS l0 1 (by omega) (by omega)
  obtain ⟨m, r2', b1, hm, b2⟩ := mhRes r1 r2 ⟨by omega, fun y hy => by have := o2 y hy; omega⟩
  have t1 := toByteS l0 (by omega)
  have t2 := eqChunkRes r1 r2 ⟨by omega, fun y hy => by have := o2 y hy; omega⟩
  have t3 := eqByteS l0 (by omega)
  obtain ⟨K1, h1⟩ := t1
  obtain ⟨K2, h2⟩ := e1
  obtain ⟨K3, h3⟩ := e2
  obtain ⟨K4, h4⟩ := t2
  obtain ⟨K5, h5⟩ := t3
  obtain ⟨K6, h6⟩ := a1
  obtain ⟨K7, h7⟩ := b1
  obtain ⟨K8, h8⟩ := b2
  let K := K1 + K2 + K3 + K4 + K5 + K6 + K7 + K8
  exact ⟨K, r1, r2, r2', x', 1 + l0.length, m, h1 K (by omega), h2 K (by omega), h3 K (by omega), h4 K (by omega), h5 K (by omega), h6 K (by omega), by omega, h7 K (by omega), hm, h8 K (by omega)⟩
end Go.Proofs.YtofkbjmbohgikaaDoor.Pure

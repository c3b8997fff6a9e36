/- FnExactMakeChunk: the program's MakeChunk answers as the reference at every argument. -/
import Derived.Test.YtmnihpedokeggaaPFnExactMakeChunkx0
import Derived.Test.YtmnihpedokeggaaPFnExactMakeChunkx1
import Derived.Test.YtmnihpedokeggaaPFnExactMakeChunkx2
import Derived.Test.YtmnihpedokeggaaPFnExactMakeChunkx3
import Derived.Test.YtmnihpedokeggaaK
import Derived.Laws.BitsLemmas
namespace Go.Proofs.Ytmnihpedokeggaa.Pure
open Go.RowKit Go.Proofs.Ytmnihpedokeggaa.PFnExactMakeChunk Go.Proofs.Ytmnihpedokeggaa.K Go.Proofs.YtmnihpedokeggaaW.PrintWords Go.Proofs.YtmnihpedokeggaaW.PrintLast Go.Proofs.YtmnihpedokeggaaW.PrintMore

theorem rdT31 (l : List S31) (i : Nat) : rd_T31 l (i : Int) = l.getD i z31 := by simp [rd_T31]
theorem rdL2n (l : List (List Int)) (i : Nat) : rd_L2 l (i : Int) = l.getD i ([] : List Int) := by simp [rd_L2]
theorem toByteS (l : List Int) (hl : l.length ≤ 1048576) : Ev (fun k => laws_toByteS.f k l) l := by
  refine evpos (by omega) (evpos (by omega) ?_)
  have := down (n := l.length) (P := fun i => Ev (fun k => laws_toByteS.l0 k l (fl 0 l.length (fun j => l.getD j 0) i) (i : Int)) l) ?_ ?_
  · rw [fl_zero] at this; exact this
  · refine Ev.step (fun k => rfl) (evneg (by omega) ?_)
    rw [fl_all]
    have e := map_range_get l 0 id
    try simp only [id_eq, List.map_id_fun] at e
    rw [e]; exact Ev.now _
  · intro i hi h
    refine Ev.step (fun k => rfl) (evpos (by omega) (evpos (by omega) (evpos (by rw [fl_len]; omega) ?_)))
    rw [w64s (by omega), rd_nat, getD_lt hi, Int.toNat_natCast]
    rw [← fl_set, getD_lt hi] at h
    exact h
theorem eqByteS (l : List Int) (hl : l.length ≤ 4611686018427387904) : Ev (fun k => laws_eqByteS.f k l l) true := by
  refine evpos rfl ?_
  refine down (n := l.length) (P := fun i => Ev (fun k => laws_eqByteS.l0 k l l (i : Int)) true) ?_ ?_
  · exact Ev.step (fun k => rfl) (evneg (by omega) (Ev.now _))
  · intro i hi h
    refine Ev.step (fun k => rfl) (evpos (by omega) (evpos (by omega) (evpos (by omega) (evpos rfl ?_))))
    rw [w64s (by omega)]; exact h
theorem szByteS (l : List Int) (a : Int) (hl : l.length ≤ maxLen) (h0 : 0 ≤ a) (h1 : a ≤ 1048576) : laws_szByteS.f l a = some (if a < l.length then -1 else a - l.length) := by
  unfold maxLen at hl
  unfold laws_szByteS.f
  rw [w64 (by omega) (by omega)]
  split <;> split <;> first | rfl | omega
theorem mhByteS (l : List Int) (a : Int) (h0 : 0 ≤ a) (h1 : a + l.length ≤ 4611686018427387904) : ∃ l' : List Int, Ev (fun k => laws_markByteS.f k l a) (a + l.length, l') ∧ Ev (fun k => laws_heldByteS.f k l' a) (a + l.length) ∧ l'.length = l.length := by
  refine ⟨(List.range l.length).map (fun (j : Nat) => (a + (j : Int)) % 256), ?_, ?_, by simp⟩
  · have := down (n := l.length) (P := fun i => Ev (fun k => laws_markByteS.l0 k (f2 l.length (fun (j : Nat) => (a + (j : Int)) % 256) (fun j => l.getD j 0) i) (a + (i : Int)) (i : Int)) (a + l.length, (List.range l.length).map (fun (j : Nat) => (a + (j : Int)) % 256))) ?_ ?_
    · rw [f2_zero] at this; rw [show a + ((0 : Nat) : Int) = a by omega] at this; exact this
    · refine Ev.step (fun k => rfl) (evneg (by rw [f2_len]; omega) ?_)
      rw [f2_all]; exact Ev.now _
    · intro i hi h
      refine Ev.step (fun k => rfl) (evpos (by rw [f2_len]; omega) (evpos (by omega) ?_))
      rw [w64s (by omega), w64 (by omega) (by omega), Int.toNat_natCast, show a + (i : Int) + 1 = a + ((i + 1 : Nat) : Int) by omega]
      rw [← f2_set] at h
      exact h
  · have := down (n := l.length) (P := fun i => Ev (fun k => laws_heldByteS.l0 k ((List.range l.length).map (fun (j : Nat) => (a + (j : Int)) % 256)) (a + (i : Int)) (i : Int)) (a + l.length)) ?_ ?_
    · rw [show a + ((0 : Nat) : Int) = a by omega] at this; exact this
    · exact Ev.step (fun k => rfl) (evneg (by simp) (Ev.now _))
    · intro i hi h
      refine Ev.step (fun k => rfl) (evpos (by simpa using hi) (evpos (by omega) (evpos (by rw [rd_nat, range_getD _ _ _ _ hi]) ?_)))
      rw [w64s (by omega), w64 (by omega) (by omega), show a + (i : Int) + 1 = a + ((i + 1 : Nat) : Int) by omega]
      exact h
theorem toChunk (a0_0 : ByteArray) (l0_1 : List Int) (hl0_1 : l0_1.length ≤ 1048576) : Ev (fun k => laws_toChunk.f k a0_0 l0_1) (a0_0, l0_1) :=
  Ev.bind (toByteS l0_1 hl0_1) (Ev.now _)
theorem eqChunk (a0_0 : ByteArray) (l0_1 : List Int) (hl0_1 : l0_1.length ≤ 4611686018427387904) : Ev (fun k => laws_eqChunk.f k a0_0 l0_1 a0_0 l0_1) true :=
  evpos rfl (Ev.bind (eqByteS l0_1 hl0_1) (evpos rfl (Ev.now _)))
theorem szChunk' (s : ByteArray) (l : List Int) (hs : s.size ≤ maxLen) (hl : l.length ≤ maxLen) : ∃ r, laws_szChunk.f s l 1048576 = some r ∧ (0 ≤ r → l.length ≤ 1048576 ∧ s.size ≤ 1048576) := by
  have hs' := hs
  unfold maxLen at hs'
  have e : wrap64 (1048576 - (s.size : Int)) = 1048576 - (s.size : Int) := w64 (by omega) (by omega)
  unfold laws_szChunk.f
  rw [e]
  by_cases c : (1048576 : Int) - (s.size : Int) < 0
  · exact ⟨-1, by rw [if_pos c], by omega⟩
  rw [if_neg c, szByteS l (1048576 - (s.size : Int)) hl (by omega) (by omega), Option.bind_some]
  by_cases c2 : (1048576 : Int) - (s.size : Int) < (l.length : Int)
  · exact ⟨-1, by rw [if_pos c2, if_pos (by decide)], by omega⟩
  · exact ⟨1048576 - (s.size : Int) - (l.length : Int), by rw [if_neg c2, if_neg (by omega)], by omega⟩
/-! ### the name -/
def okc (c : Int) : Prop := (97 ≤ c ∧ c ≤ 122) ∨ (65 ≤ c ∧ c ≤ 90)
set_option maxRecDepth 100000 in
theorem or32_nat : ∀ n : Nat, n < 256 → ((n ||| 32 < 97 ∨ 122 < n ||| 32) ↔ ¬ ((97 ≤ n ∧ n ≤ 122) ∨ (65 ≤ n ∧ n ≤ 90))) := by decide
theorem or32 (s : ByteArray) (i : Int) : (okc (bt s i) → ¬ (Go.bits .or .u8 (bt s i) 32 < 97) ∧ ¬ (Go.bits .or .u8 (bt s i) 32 > 122)) ∧ (¬ okc (bt s i) → Go.bits .or .u8 (bt s i) 32 < 97 ∨ Go.bits .or .u8 (bt s i) 32 > 122) := by
  have hr := bt_range s i
  generalize bt s i = c at hr
  obtain ⟨n, rfl⟩ : ∃ n : Nat, c = (n : Int) := ⟨c.toNat, by omega⟩
  have hn : n < 256 := by omega
  have e : Go.bits .or .u8 (n : Int) 32 = ((n ||| 32 : Nat) : Int) := (bits_nat .u8 8 (by decide) wraps_u8 n 32 (by omega) (by decide)).2
  have h := or32_nat n hn
  rw [e]
  unfold okc
  generalize n ||| 32 = m at h
  omega
theorem spec_ok {s : ByteArray} {i : Nat} {r : Bool} (hi : i < s.size) (h4 : i ≤ 4611686018427387904) (hc : okc (bt s i)) (h : Ev (fun k => spec_l5Name.l0 k s ((i + 1 : Nat) : Int)) r) : Ev (fun k => spec_l5Name.l0 k s (i : Int)) r := by
  unfold okc at hc
  refine Ev.step (fun _ => rfl) (evpos (by omega) (evpos (by omega) ?_))
  rw [w64s h4]
  by_cases c1 : bt s i ≥ 97
  · refine evpos c1 ?_
    by_cases c2 : bt s i ≤ 122
    · exact evpos c2 h
    · exact absurd hc (by omega)
  · refine evneg c1 ?_
    by_cases c2 : bt s i ≥ 65
    · refine evpos c2 ?_
      by_cases c3 : bt s i ≤ 90
      · exact evpos c3 h
      · exact absurd hc (by omega)
    · exact absurd hc (by omega)
theorem spec_bad {s : ByteArray} {i : Nat} (hi : i < s.size) (hc : ¬ okc (bt s i)) : Ev (fun k => spec_l5Name.l0 k s (i : Int)) false := by
  unfold okc at hc
  refine Ev.step (fun _ => rfl) (evpos (by omega) (evpos (by omega) ?_))
  by_cases c1 : bt s i ≥ 97
  · refine evpos c1 ?_
    by_cases c2 : bt s i ≤ 122
    · exact absurd hc (by omega)
    · refine evneg c2 (evpos (by omega) ?_)
      by_cases c3 : bt s i ≤ 90
      · exact absurd hc (by omega)
      · exact evneg c3 (Ev.now _)
  · refine evneg c1 ?_
    by_cases c2 : bt s i ≥ 65
    · refine evpos c2 ?_
      by_cases c3 : bt s i ≤ 90
      · exact absurd hc (by omega)
      · exact evneg c3 (Ev.now _)
    · exact evneg c2 (Ev.now _)
theorem spec_end {s : ByteArray} {i : Nat} (hi : ¬ i < s.size) {r : Bool} (hr : ((s.size : Int) == 4) = r) : Ev (fun k => spec_l5Name.l0 k s (i : Int)) r := by
  subst hr
  exact Ev.step (fun _ => rfl) (evneg (by omega) (Ev.now _))
theorem impl_end {s : ByteArray} {x : Int} (hx : ¬ x < 4) : Ev (fun k => impl_goodName.l0 k s x) true := Ev.step (fun _ => rfl) (evneg hx (Ev.now _))
theorem name_both (s : ByteArray) (hs : s.size ≤ 1048576) : ∃ q : Bool, Ev (fun k => spec_l5Name.f k s) q ∧ Ev (fun k => impl_goodName.f k s) q ∧ (q = true → s.size = 4) := by
  by_cases c : s.size = 4
  · have main := down (n := s.size) (P := fun i => ∃ q : Bool, Ev (fun k => spec_l5Name.l0 k s (i : Int)) q ∧ Ev (fun k => impl_goodName.l0 k s (i : Int)) q) ?_ ?_
    · obtain ⟨q, h1, h2⟩ := main
      exact ⟨q, h1, evpos (by omega) h2, fun _ => c⟩
    · exact ⟨true, spec_end (Nat.lt_irrefl _) (by rw [c]; rfl), impl_end (by omega)⟩
    · intro i hi ⟨q, h1, h2⟩
      by_cases k : okc (bt s i)
      · refine ⟨q, spec_ok hi (by omega) k h1, Ev.step (fun _ => rfl) (evpos (by omega) (evpos (by omega) (evpos (by omega) (evneg ((or32 s i).1 k).1 (evneg ((or32 s i).1 k).2 ?_)))))⟩
        rw [w64s (by omega)]; exact h2
      · refine ⟨false, spec_bad hi k, Ev.step (fun _ => rfl) (evpos (by omega) (evpos (by omega) (evpos (by omega) ?_)))⟩
        by_cases c1 : Go.bits .or .u8 (bt s i) 32 < 97
        · exact evpos c1 (Ev.now _)
        · exact evneg c1 (evpos (((or32 s i).2 k).resolve_left c1) (Ev.now _))
  · refine ⟨false, ?_, evneg (by omega) (Ev.now _), (fun h => by cases h)⟩
    refine down (n := s.size) (P := fun i => Ev (fun k => spec_l5Name.l0 k s (i : Int)) false) (spec_end (Nat.lt_irrefl _) (beq_eq_false_iff_ne.2 (by omega))) ?_
    intro i hi h
    by_cases k : okc (bt s i)
    · exact spec_ok hi (by omega) k h
    · exact spec_bad hi k
/-! ### the sum -/
theorem xor32 (a b : Nat) (ha : a < 4294967296) (hb : b < 4294967296) : Go.bits .xor .u32 (a : Int) (b : Int) = ((a ^^^ b : Nat) : Int) ∧ a ^^^ b < 4294967296 := by
  have hx : a ^^^ b < 2 ^ 32 := Nat.xor_lt_two_pow ha hb
  have h1 : (BitVec.ofInt 32 (a : Int)).toNat = a := by
    rw [BitVec.ofInt_natCast, BitVec.toNat_ofNat]; exact Nat.mod_eq_of_lt ha
  have h2 : (BitVec.ofInt 32 (b : Int)).toNat = b := by
    rw [BitVec.ofInt_natCast, BitVec.toNat_ofNat]; exact Nat.mod_eq_of_lt hb
  have e : Go.bits .xor .u32 (a : Int) (b : Int) = IntKind.u32.wrap ((BitVec.ofInt 32 (a : Int) ^^^ BitVec.ofInt 32 (b : Int)).toNat : Int) := rfl
  have hx' : a ^^^ b < 4294967296 := hx
  rw [e, BitVec.toNat_xor, h1, h2, IntKind.wrap_u32]
  generalize a ^^^ b = z at hx'
  omega
theorem and32 (a : Nat) (ha : a < 4294967296) : Go.bits .and .u32 (a : Int) 1 = ((a % 2 : Nat) : Int) := by
  have h1 : (BitVec.ofInt 32 (a : Int)).toNat = a := by
    rw [BitVec.ofInt_natCast, BitVec.toNat_ofNat]; exact Nat.mod_eq_of_lt ha
  have h2 : (BitVec.ofInt 32 1).toNat = 1 := by decide
  have e : Go.bits .and .u32 (a : Int) 1 = IntKind.u32.wrap ((BitVec.ofInt 32 (a : Int) &&& BitVec.ofInt 32 1).toNat : Int) := rfl
  rw [e, BitVec.toNat_and, h1, h2, Nat.and_one_is_mod, IntKind.wrap_u32]
  omega
def cs (x : Nat) : Nat := if x % 2 = 1 then (x / 2) ^^^ 3988292384 else x / 2
theorem cs_lt {x : Nat} (h : x < 4294967296) : cs x < 4294967296 := by
  unfold cs
  split
  · exact (xor32 _ _ (by omega) (by decide)).2
  · omega
def itr : Nat → Nat → Nat
  | 0, x => x
  | m + 1, x => itr m (cs x)
theorem itr_lt : ∀ (m x : Nat), x < 4294967296 → itr m x < 4294967296
  | 0, _, h => h
  | m + 1, _, h => itr_lt m _ (cs_lt h)
theorem spec_in (l : List Int) (n j : Int) (y : Nat) (r : Int) (h : Ev (fun k => spec_Crc.l0 k (y : Int) l n (wrap64 (j + 1))) r) (x : Nat) (hx : x < 4294967296) (hy : itr 8 x = y) : Ev (fun k => spec_Crc.l1 k (x : Int) 0 l n j) r := by
  have main := down (n := 8) (P := fun i => ∀ x : Nat, x < 4294967296 → itr (8 - i) x = y → Ev (fun k => spec_Crc.l1 k (x : Int) (i : Int) l n j) r) ?_ ?_
  · exact main x hx hy
  · intro x hx e
    obtain rfl : x = y := e
    generalize hN : ((8 : Nat) : Int) = N
    exact Ev.step (fun _ => rfl) (evneg (by omega) h)
  · intro i hi ih x hx e
    have e2 : itr (8 - (i + 1)) (cs x) = y := by
      rw [show 8 - i = (8 - (i + 1)) + 1 by omega] at e; exact e
    have g := ih (cs x) (cs_lt hx) e2
    refine Ev.step (fun _ => rfl) (evpos (by omega) ?_)
    rw [and32 x hx, w64s (by omega)]
    unfold cs at g
    by_cases c : x % 2 = 1
    · rw [if_pos c] at g
      refine evpos (by rw [c]; rfl) ?_
      rw [show (x : Int) / 2 = ((x / 2 : Nat) : Int) by omega, show (3988292384 : Int) = ((3988292384 : Nat) : Int) from rfl, (xor32 (x / 2) 3988292384 (by omega) (by decide)).1]
      exact g
    · rw [if_neg c] at g
      refine evneg (by omega) ?_
      rw [show (x : Int) / 2 = ((x / 2 : Nat) : Int) by omega]
      exact g
theorem impl_in (l : List Int) (n j : Int) (y : Nat) (r : Int) (h : Ev (fun k => impl_Crc.l0 k (y : Int) l n (wrap64 (j + 1))) r) (x : Nat) (hx : x < 4294967296) (hy : itr 8 x = y) : Ev (fun k => impl_Crc.l1 k (x : Int) l n j 0) r := by
  have main := down (n := 8) (P := fun i => ∀ x : Nat, x < 4294967296 → itr (8 - i) x = y → Ev (fun k => impl_Crc.l1 k (x : Int) l n j (i : Int)) r) ?_ ?_
  · exact main x hx hy
  · intro x hx e
    obtain rfl : x = y := e
    generalize hN : ((8 : Nat) : Int) = N
    exact Ev.step (fun _ => rfl) (evneg (by omega) h)
  · intro i hi ih x hx e
    have e2 : itr (8 - (i + 1)) (cs x) = y := by
      rw [show 8 - i = (8 - (i + 1)) + 1 by omega] at e; exact e
    have g := ih (cs x) (cs_lt hx) e2
    refine Ev.step (fun _ => rfl) (evpos (by omega) ?_)
    rw [and32 x hx, w64s (by omega), show (x : Int) / 2 = ((x / 2 : Nat) : Int) by omega]
    unfold cs at g
    by_cases c : x % 2 = 1
    · rw [if_pos c] at g
      rw [c, show ((3988292384 : Int) * ((1 : Nat) : Int)) % 4294967296 = ((3988292384 : Nat) : Int) from rfl, (xor32 (x / 2) 3988292384 (by omega) (by decide)).1]
      exact g
    · rw [if_neg c] at g
      rw [show x % 2 = 0 by omega, show ((3988292384 : Int) * ((0 : Nat) : Int)) % 4294967296 = ((0 : Nat) : Int) from rfl, (xor32 (x / 2) 0 (by omega) (by decide)).1, Nat.xor_zero]
      exact g
theorem crc_both (l : List Int) (hb : ∀ y ∈ l, 0 ≤ y ∧ y ≤ 255) (hl : l.length ≤ 4611686018427387904) : ∃ q : Nat, q < 4294967296 ∧ Ev (fun k => spec_Crc.f k l) (q : Int) ∧ Ev (fun k => impl_Crc.f k l) (q : Int) := by
  have main := down (n := l.length) (P := fun i => ∀ x : Nat, x < 4294967296 → ∃ q : Nat, q < 4294967296 ∧ Ev (fun k => spec_Crc.l0 k (x : Int) l (l.length : Int) (i : Int)) (q : Int) ∧ Ev (fun k => impl_Crc.l0 k (x : Int) l (l.length : Int) (i : Int)) (q : Int)) ?_ ?_
  · exact main 4294967295 (by decide)
  · intro x hx
    obtain ⟨e, h⟩ := xor32 4294967295 x (by decide) hx
    refine ⟨4294967295 ^^^ x, h, Ev.step (fun _ => rfl) (evneg (by omega) ?_), Ev.step (fun _ => rfl) (evneg (by omega) ?_)⟩
    · rw [show (4294967295 : Int) = ((4294967295 : Nat) : Int) from rfl, e]; exact Ev.now _
    · rw [show (4294967295 : Int) = ((4294967295 : Nat) : Int) from rfl, e]; exact Ev.now _
  · intro i hi ih x hx
    have hm := hb _ (List.getElem_mem hi)
    obtain ⟨b, hb'⟩ : ∃ b : Nat, l[i] = (b : Int) := ⟨l[i].toNat, by omega⟩
    have er : rd l (i : Int) % 4294967296 = ((b : Nat) : Int) := by rw [rd_nat, getD_lt hi, hb']; omega
    obtain ⟨e, h⟩ := xor32 x b hx (by omega)
    obtain ⟨q, h1, h2, h3⟩ := ih (itr 8 (x ^^^ b)) (itr_lt 8 _ h)
    refine ⟨q, h1, Ev.step (fun _ => rfl) (evpos (by omega) (evpos (by omega) (evpos (by omega) ?_))), Ev.step (fun _ => rfl) (evpos (by omega) (evpos (by omega) (evpos (by omega) ?_)))⟩
    · rw [er, e]
      exact spec_in l _ _ _ _ (by rw [w64s (by omega)]; exact h2) _ h rfl
    · rw [er, e]
      exact impl_in l _ _ _ _ (by rw [w64s (by omega)]; exact h3) _ h rfl
/-! ### four bytes -/
def four (n : Int) : List Int := [(n / 16777216) % 256, (n / 65536) % 256, (n / 256) % 256, n % 256]
theorem big_step {n x : Int} {l r : List Int} (h0 : x ≥ 0) (hs : 0 ≤ wrap64 (8 * x)) (hl : l.length < 140737488355328) (h : Ev (fun k => impl_big.l0 k n (l ++ [(shr .i64 n (wrap64 (8 * x))) % 256]) (wrap64 (x - 1))) r) : Ev (fun k => impl_big.l0 k n l x) r :=
  Ev.step (fun _ => rfl) (evpos h0 (evpos hs (evpos hl h)))
theorem big_end {n x : Int} {l : List Int} (h0 : ¬ x ≥ 0) : Ev (fun k => impl_big.l0 k n l x) l := Ev.step (fun _ => rfl) (evneg h0 (Ev.now _))
theorem big4 (n : Int) : Ev (fun k => impl_big.f k n 4) (four n) := by
  have k3 : wrap64 (8 * 3) = 24 := (w64 (by decide) (by decide)).trans rfl
  have k2 : wrap64 (8 * 2) = 16 := (w64 (by decide) (by decide)).trans rfl
  have k1 : wrap64 (8 * 1) = 8 := (w64 (by decide) (by decide)).trans rfl
  have k0 : wrap64 (8 * 0) = 0 := (w64 (by decide) (by decide)).trans rfl
  have m4 : wrap64 (4 - 1) = 3 := (w64 (by decide) (by decide)).trans rfl
  have m3 : wrap64 (3 - 1) = 2 := (w64 (by decide) (by decide)).trans rfl
  have m2 : wrap64 (2 - 1) = 1 := (w64 (by decide) (by decide)).trans rfl
  have m1 : wrap64 (1 - 1) = 0 := (w64 (by decide) (by decide)).trans rfl
  have m0 : wrap64 (0 - 1) = -1 := (w64 (by decide) (by decide)).trans rfl
  have s24 : shr .i64 n 24 = n / 16777216 := congrArg (n / ·) (show (2 : Int) ^ min (24 : Int).toNat IntKind.i64.bits = 16777216 by decide)
  have s16 : shr .i64 n 16 = n / 65536 := congrArg (n / ·) (show (2 : Int) ^ min (16 : Int).toNat IntKind.i64.bits = 65536 by decide)
  have s8 : shr .i64 n 8 = n / 256 := congrArg (n / ·) (show (2 : Int) ^ min (8 : Int).toNat IntKind.i64.bits = 256 by decide)
  have s0 : shr .i64 n 0 = n := (congrArg (n / ·) (show (2 : Int) ^ min (0 : Int).toNat IntKind.i64.bits = 1 by decide)).trans (Int.ediv_one n)
  have e0 : Ev (fun k => impl_big.l0 k n (four n) (-1)) (four n) := big_end (by decide)
  have e1 : Ev (fun k => impl_big.l0 k n [(n / 16777216) % 256, (n / 65536) % 256, (n / 256) % 256] 0) (four n) := big_step (by decide) (by rw [k0]; decide) (by simp only [List.length_cons, List.length_nil]; decide) (by rw [k0, m0, s0]; exact e0)
  have e2 : Ev (fun k => impl_big.l0 k n [(n / 16777216) % 256, (n / 65536) % 256] 1) (four n) := big_step (by decide) (by rw [k1]; decide) (by simp only [List.length_cons, List.length_nil]; decide) (by rw [k1, m1, s8]; exact e1)
  have e3 : Ev (fun k => impl_big.l0 k n [(n / 16777216) % 256] 2) (four n) := big_step (by decide) (by rw [k2]; decide) (by simp only [List.length_cons, List.length_nil]; decide) (by rw [k2, m2, s16]; exact e2)
  unfold impl_big.f
  rw [m4]
  exact big_step (by decide) (by rw [k3]; decide) (by decide) (by rw [k3, m3, s24]; exact e3)
theorem four_len (n : Int) : (four n).length = 4 := rfl
def res (s : ByteArray) (l : List Int) (q : Int) : List Int := (four (l.length : Int) ++ (bytesOf s ++ l)) ++ four q
theorem spec_body {b : Bool} (hb : ¬ b = true) {s : ByteArray} {l : List Int} {q : Int} (hs : s.size = 4) (hl : l.length ≤ 60000) (hc : Ev (fun k => spec_Crc.f k (bytesOf s ++ l)) q) : Ev (fun k => spec_MakeChunk.j0 k b s l) (res s l q) := by
  have l1 : (bytesOf s).length = 4 := by rw [bytesOf_length, hs]
  have l2 : (bytesOf s ++ l).length = 4 + l.length := by rw [List.length_append, l1]
  have em : (l.length : Int) % 4294967296 = (l.length : Int) := by omega
  refine Ev.step (fun _ => rfl) (evneg hb (evpos (by rw [hs]; decide) (evlet rfl (evpos (by rw [List.nil_append, l1]; omega) (evlet rfl (evlet (a := four (l.length : Int)) (by rw [em]; rfl) (evpos (by rw [List.nil_append, four_len, l2]; omega) (evlet rfl (Ev.bind hc (evlet (a := four q) rfl (evpos ?_ (Ev.now _))))))))))))
  rw [List.nil_append, List.length_append, four_len, four_len, l2]; omega
theorem impl_body {b : Bool} (hb : ¬ b = true) {s : ByteArray} {l : List Int} {q : Int} (hs : s.size = 4) (hl : l.length ≤ 60000) (hq : wrap64 q = q) (hc : Ev (fun k => impl_Crc.f k (bytesOf s ++ l)) q) : Ev (fun k => impl_MakeChunk.j0 k b s l) (res s l q) := by
  have l1 : (bytesOf s).length = 4 := by rw [bytesOf_length, hs]
  have l2 : (bytesOf s ++ l).length = 4 + l.length := by rw [List.length_append, l1]
  have b4 := big4 q
  rw [← hq] at b4
  have e : four (wrap64 q) = four q := by rw [hq]
  rw [e] at b4
  refine Ev.step (fun _ => rfl) (evneg hb (evpos (by rw [l1]; omega) (evlet rfl (Ev.bind (big4 _) (evpos (by rw [four_len, l2]; omega) (evlet rfl (Ev.bind hc (Ev.bind b4 (evpos ?_ (Ev.now _))))))))))
  rw [List.length_append, four_len, four_len, l2]; omega
theorem spec_none {b : Bool} (hb : b = true) (s : ByteArray) (l : List Int) : Ev (fun k => spec_MakeChunk.j0 k b s l) [] := Ev.step (fun _ => rfl) (evpos hb (Ev.now _))
theorem impl_none {b : Bool} (hb : b = true) (s : ByteArray) (l : List Int) : Ev (fun k => impl_MakeChunk.j0 k b s l) [] := Ev.step (fun _ => rfl) (evpos hb (Ev.now _))
theorem bytes_bd (s : ByteArray) : ∀ y ∈ bytesOf s, 0 ≤ y ∧ y ≤ 255 := by
  intro y hy
  unfold bytesOf at hy
  obtain ⟨b, _, rfl⟩ := List.mem_map.1 hy
  have := b.toNat_lt
  omega
theorem chunk_both (s : ByteArray) (l : List Int) (hs : s.size ≤ 1048576) (hl : ∀ y ∈ l, 0 ≤ y ∧ y ≤ 255) : ∃ r : List Int, r.length ≤ 100000 ∧ Ev (fun k => spec_MakeChunk.f k s l) r ∧ Ev (fun k => impl_MakeChunk.f k s l) r := by
  obtain ⟨q, h1, h2, h3⟩ := name_both s hs
  cases q with
  | false => exact ⟨[], by decide, Ev.bind h1 (evneg (by decide) (spec_none rfl s l)), Ev.bind h2 (evneg (by decide) (impl_none rfl s l))⟩
  | true =>
    by_cases c : (l.length : Int) > 60000
    · exact ⟨[], by decide, Ev.bind h1 (evpos rfl (spec_none (decide_eq_true c) s l)), Ev.bind h2 (evpos rfl (impl_none (decide_eq_true c) s l))⟩
    have h4 := h3 rfl
    have l2 : (bytesOf s ++ l).length = 4 + l.length := by rw [List.length_append, bytesOf_length, h4]
    obtain ⟨q, g1, g2, g3⟩ := crc_both (bytesOf s ++ l) (fun y hy => (List.mem_append.1 hy).elim (bytes_bd s y) (hl y)) (by omega)
    refine ⟨res s l (q : Int), ?_, Ev.bind h1 (evpos rfl (spec_body (by rw [decide_eq_false c]; decide) h4 (by omega) g2)), Ev.bind h2 (evpos rfl (impl_body (by rw [decide_eq_false c]; decide) h4 (by omega) (w64 (by omega) (by omega)) g3))⟩
    unfold res
    rw [List.length_append, List.length_append, four_len, four_len, l2]
    omega
theorem FnExactMakeChunk : laws_FnExactMakeChunk.Pure := by
  intro s l ⟨hs, hl, hy⟩
  refine Ev.rounds ?_
  obtain ⟨z, s0, hz⟩ := szChunk' s l hs hl
  by_cases c : z < 0
  · exact evlet s0 (evpos c (Ev.now _))
  obtain ⟨hl', hs'⟩ := hz (by omega)
  have t := toChunk s l hl'
  obtain ⟨r, hr, h1, h2⟩ := chunk_both s l hs' (fun y h => wfb (hy y h))
  have er := eqByteS r (by omega)
  have ec := eqChunk s l (by omega)
  obtain ⟨m, hm, _, _⟩ := mhByteS l 1 (by omega) (by omega)
  obtain ⟨g, hg1, hg2, _⟩ := mhByteS r 1 (by omega) (by omega)
  have jn : ∀ b : Bool, ¬ b = true → Ev (fun k => laws_FnExactMakeChunk.j0 k r r b s l) true := fun b hb =>
    Ev.step (fun _ => rfl) (evneg hb (Ev.bind hg1 (Ev.bind hg2 (evneg (by omega) (evpos rfl (Ev.bind t (Ev.bind h2 (Ev.bind er (evpos rfl (Ev.bind hg2 (evneg (by omega) (evpos rfl (Ev.now _)))))))))))))
  exact evlet s0 (evneg c (Ev.bind t (Ev.bind h1 (Ev.bind t (Ev.bind h2 (Ev.bind er (evpos rfl (Ev.bind t (Ev.bind ec (evpos rfl (Ev.bind (Ev.bind hm (Ev.now _)) (evneg (by simp only; omega) (Ev.bind er (jn _ (by decide)))))))))))))))
end Go.Proofs.Ytmnihpedokeggaa.Pure

/- For all inputs OddsUnpack of the program answers as the reference's; no conditions. -/
import Derived.Test.YtggokppfhkebkaaPFnExactOddsUnpackx0
import Derived.Test.YtggokppfhkebkaaPFnExactOddsUnpackx1
import Derived.Test.YtggokppfhkebkaaPFnExactOddsUnpackx2
import Derived.Test.YtggokppfhkebkaaPFnExactOddsUnpackx3
import Derived.Test.YtggokppfhkebkaaPFnExactOddsUnpackx4
import Derived.Test.YtggokppfhkebkaaPFnExactOddsUnpackx5
import Derived.Test.YtggokppfhkebkaaPFnExactOddsUnpackx6
import Derived.Test.YtggokppfhkebkaaTFEOUK
import Derived.Laws.Bits64b
namespace Go.Proofs.Ytggokppfhkebkaa.Pure
open Go.RowKit Go.Proofs.Ytggokppfhkebkaa.PFnExactOddsUnpack Go.Proofs.Ytggokppfhkebkaa.K Go.Proofs.YtggokppfhkebkaaW.PrintWords Go.Proofs.YtggokppfhkebkaaW.PrintLast Go.Proofs.YtggokppfhkebkaaW.PrintMore

theorem rdT84 (l : List S84) (i : Nat) : rd_T84 l (i : Int) = l.getD i z84 := by simp [rd_T84]
theorem rdL2n (l : List (List Int)) (i : Nat) : rd_L2 l (i : Int) = l.getD i ([] : List Int) := by simp [rd_L2]
theorem toIntS (l : List Int) (hl : l.length ≤ 1048576) : Ev (fun k => laws_toIntS.f k l) l := by
  refine evpos (by omega) (evpos (by omega) ?_)
  have := down (n := l.length) (P := fun i => Ev (fun k => laws_toIntS.l0 k l (fl 0 l.length (fun j => l.getD j 0) i) (i : Int)) l) ?_ ?_
  · rw [fl_zero] at this; exact this
  · refine Ev.step (fun k => rfl) (evneg (by omega) ?_)
    rw [fl_all]
    have e := map_range_get l 0 id
    try simp only [id_eq, List.map_id_fun] at e
    rw [e]; exact Ev.now _
  · intro i hi h
    refine Ev.step (fun k => rfl) (evpos (by omega) (evpos (by omega) (evpos (by rw [fl_len]; omega) ?_)))
    rw [w64s (by omega), rd_nat, getD_lt hi, Int.toNat_natCast]
    rw [← fl_set, getD_lt hi] at h
    exact h
theorem eqIntS (l : List Int) (hl : l.length ≤ 4611686018427387904) : Ev (fun k => laws_eqIntS.f k l l) true := by
  refine evpos rfl ?_
  refine down (n := l.length) (P := fun i => Ev (fun k => laws_eqIntS.l0 k l l (i : Int)) true) ?_ ?_
  · exact Ev.step (fun k => rfl) (evneg (by omega) (Ev.now _))
  · intro i hi h
    refine Ev.step (fun k => rfl) (evpos (by omega) (evpos (by omega) (evpos (by omega) (evpos rfl ?_))))
    rw [w64s (by omega)]; exact h
theorem mhIntS (l : List Int) (a : Int) (h0 : 0 ≤ a) (h1 : a + l.length ≤ 4611686018427387904) : ∃ l' : List Int, Ev (fun k => laws_markIntS.f k l a) (a + l.length, l') ∧ Ev (fun k => laws_heldIntS.f k l' a) (a + l.length) ∧ l'.length = l.length := by
  refine ⟨(List.range l.length).map (fun (j : Nat) => a + (j : Int)), ?_, ?_, by simp⟩
  · have := down (n := l.length) (P := fun i => Ev (fun k => laws_markIntS.l0 k (f2 l.length (fun (j : Nat) => a + (j : Int)) (fun j => l.getD j 0) i) (a + (i : Int)) (i : Int)) (a + l.length, (List.range l.length).map (fun (j : Nat) => a + (j : Int)))) ?_ ?_
    · rw [f2_zero] at this; rw [show a + ((0 : Nat) : Int) = a by omega] at this; exact this
    · refine Ev.step (fun k => rfl) (evneg (by rw [f2_len]; omega) ?_)
      rw [f2_all]; exact Ev.now _
    · intro i hi h
      refine Ev.step (fun k => rfl) (evpos (by rw [f2_len]; omega) (evpos (by omega) ?_))
      rw [w64s (by omega), w64 (by omega) (by omega), Int.toNat_natCast, show a + (i : Int) + 1 = a + ((i + 1 : Nat) : Int) by omega]
      rw [← f2_set] at h
      exact h
  · have := down (n := l.length) (P := fun i => Ev (fun k => laws_heldIntS.l0 k ((List.range l.length).map (fun (j : Nat) => a + (j : Int))) (a + (i : Int)) (i : Int)) (a + l.length)) ?_ ?_
    · rw [show a + ((0 : Nat) : Int) = a by omega] at this; exact this
    · exact Ev.step (fun k => rfl) (evneg (by simp) (Ev.now _))
    · intro i hi h
      refine Ev.step (fun k => rfl) (evpos (by simpa using hi) (evpos (by omega) (evpos (by rw [rd_nat, range_getD _ _ _ _ hi]) ?_)))
      rw [w64s (by omega), w64 (by omega) (by omega), show a + (i : Int) + 1 = a + ((i + 1 : Nat) : Int) by omega]
      exact h
theorem toByteS (l : List Int) (hl : l.length ≤ 1048576) : Ev (fun k => laws_toByteS.f k l) l := by
  refine evpos (by omega) (evpos (by omega) ?_)
  have := down (n := l.length) (P := fun i => Ev (fun k => laws_toByteS.l0 k l (fl 0 l.length (fun j => l.getD j 0) i) (i : Int)) l) ?_ ?_
  · rw [fl_zero] at this; exact this
  · refine Ev.step (fun k => rfl) (evneg (by omega) ?_)
    rw [fl_all]
    have e := map_range_get l 0 id
    try simp only [id_eq, List.map_id_fun] at e
    rw [e]; exact Ev.now _
  · intro i hi h
    refine Ev.step (fun k => rfl) (evpos (by omega) (evpos (by omega) (evpos (by rw [fl_len]; omega) ?_)))
    rw [w64s (by omega), rd_nat, getD_lt hi, Int.toNat_natCast]
    rw [← fl_set, getD_lt hi] at h
    exact h
theorem eqByteS (l : List Int) (hl : l.length ≤ 4611686018427387904) : Ev (fun k => laws_eqByteS.f k l l) true := by
  refine evpos rfl ?_
  refine down (n := l.length) (P := fun i => Ev (fun k => laws_eqByteS.l0 k l l (i : Int)) true) ?_ ?_
  · exact Ev.step (fun k => rfl) (evneg (by omega) (Ev.now _))
  · intro i hi h
    refine Ev.step (fun k => rfl) (evpos (by omega) (evpos (by omega) (evpos (by omega) (evpos rfl ?_))))
    rw [w64s (by omega)]; exact h
theorem eqChosen (a0_0 : Int) (l0_1 : List Int) (a0_2 : Int) (hl0_1 : l0_1.length ≤ 4611686018427387904) : Ev (fun k => laws_eqChosen.f k a0_0 l0_1 a0_2 a0_0 l0_1 a0_2) true :=
  evpos rfl (Ev.bind (eqIntS l0_1 hl0_1) (evpos rfl (evpos rfl (Ev.now _))))
theorem markByteS (l : List Int) (a : Int) (h0 : 0 ≤ a) (h1 : a + l.length ≤ 4611686018427387904) : ∃ l' : List Int, Ev (fun k => laws_markByteS.f k l a) (a + l.length, l') ∧ l'.length = l.length := by
  refine ⟨(List.range l.length).map (fun (j : Nat) => (a + (j : Int)) % 256), ?_, by simp⟩
  have := down (n := l.length) (P := fun i => Ev (fun k => laws_markByteS.l0 k (f2 l.length (fun (j : Nat) => (a + (j : Int)) % 256) (fun j => l.getD j 0) i) (a + (i : Int)) (i : Int)) (a + l.length, (List.range l.length).map (fun (j : Nat) => (a + (j : Int)) % 256))) ?_ ?_
  · rw [f2_zero] at this; rw [show a + ((0 : Nat) : Int) = a by omega] at this; exact this
  · refine Ev.step (fun k => rfl) (evneg (by rw [f2_len]; omega) ?_)
    rw [f2_all]; exact Ev.now _
  · intro i hi h
    refine Ev.step (fun k => rfl) (evpos (by rw [f2_len]; omega) (evpos (by omega) ?_))
    rw [w64s (by omega), w64 (by omega) (by omega), Int.toNat_natCast, show a + (i : Int) + 1 = a + ((i + 1 : Nat) : Int) by omega]
    rw [← f2_set] at h
    exact h
theorem odds_spec (a0 : Int) (h0 : 0 ≤ a0) (h1 : a0 ≤ 512) : Ev (fun k => spec_l12Odds.f k a0) (List.replicate a0.toNat 2048) := by
  refine evpos h0 (evpos (by omega) (evlet rfl ?_))
  have := down (n := a0.toNat) (P := fun i => Ev (fun k => spec_l12Odds.l0 k (fl 0 a0.toNat (fun _ => 2048) i) (a0.toNat : Int) (i : Int)) (List.replicate a0.toNat 2048)) ?_ ?_
  · rw [fl_zero] at this; rw [List.length_replicate]; exact this
  · refine Ev.step (fun k => rfl) (evneg (by omega) ?_)
    rw [fl_all, List.map_const', List.length_range]; exact Ev.now _
  · intro i hi h
    refine Ev.step (fun k => rfl) (evpos (by omega) (evpos (by omega) (evpos (by rw [fl_len]; omega) ?_)))
    rw [w64s (by omega), Int.toNat_natCast]
    rw [← fl_set] at h
    exact h
theorem odds_impl (a0 : Int) (h0 : 0 ≤ a0) (h1 : a0 ≤ 512) : Ev (fun k => impl_znewOdds.f k a0) (List.replicate a0.toNat 2048) := by
  refine evpos h0 (evpos (by omega) (evlet rfl ?_))
  have := down (n := a0.toNat) (P := fun i => Ev (fun k => impl_znewOdds.l0 k (fl 0 a0.toNat (fun _ => 2048) i) (a0.toNat : Int) (i : Int)) (List.replicate a0.toNat 2048)) ?_ ?_
  · rw [fl_zero] at this; rw [List.length_replicate]; exact this
  · refine Ev.step (fun k => rfl) (evneg (by omega) ?_)
    rw [fl_all, List.map_const', List.length_range]; exact Ev.now _
  · intro i hi h
    refine Ev.step (fun k => rfl) (evpos (by omega) (evpos (by omega) (evpos (by rw [fl_len]; omega) ?_)))
    rw [w64s (by omega), Int.toNat_natCast]
    rw [← fl_set] at h
    exact h
theorem or_u64 (a b : Nat) (ha : a < 18446744073709551616) (hb : b < 18446744073709551616) : Go.bits .or .u64 (a : Int) (b : Int) = ((a ||| b : Nat) : Int) := bits_or_u64_nat a b ha hb
theorem or_byte (c b : Int) (b0 : 0 ≤ b) (b1 : b ≤ 255) : Go.bits .or .u64 (IntKind.u64.wrap (c * 256)) (IntKind.u64.wrap b) = IntKind.u64.wrap ((IntKind.u64.wrap (c * 256)) + (IntKind.u64.wrap b)) := by
  obtain ⟨m, hm, hm2⟩ : ∃ m : Nat, IntKind.u64.wrap (c * 256) = ((2 ^ 8 * m : Nat) : Int) ∧ m < 72057594037927936 := by
    refine ⟨((c * 256) % 18446744073709551616 / 256).toNat, ?_, ?_⟩
    · rw [IntKind.wrap_u64]; omega
    · omega
  obtain ⟨n, hn⟩ : ∃ n : Nat, b = (n : Int) := ⟨b.toNat, by omega⟩
  have hw : IntKind.u64.wrap (n : Int) = (n : Int) := by rw [IntKind.wrap_u64]; omega
  rw [hm, hn, hw, or_u64 _ _ (by omega) (by omega), ← Nat.two_pow_add_eq_or_of_lt (show n < 2 ^ 8 by omega), IntKind.wrap_u64]
  omega
theorem uwe {n : Int} (h0 : 0 ≤ n) (h1 : n < 18446744073709551616) : IntKind.u64.wrap n = n := by rw [IntKind.wrap_u64]; omega
theorem byte_both (l : List Int) (hb : ∀ x ∈ l, 0 ≤ x ∧ x ≤ 255) (hl : l.length ≤ 1048576) (p : Nat) (hp : p ≤ l.length) (code err : Int) : ∃ (p' : Nat) (code' err' : Int), p' ≤ l.length ∧ Ev (fun k => spec_l12In_byte.f k l p code err) ((p' : Int), code', err') ∧ Ev (fun k => impl_zdecoder_more.f k l p code err) ((p' : Int), code', err') := by
  by_cases c : p < l.length
  · have hr : 0 ≤ rd l (p : Int) ∧ rd l (p : Int) ≤ 255 := by rw [rd_nat, getD_lt c]; exact hb _ (List.getElem_mem c)
    refine ⟨p + 1, IntKind.u64.wrap ((IntKind.u64.wrap (code * 256)) + (IntKind.u64.wrap (rd l p))), err, by omega, evneg (by omega) (evpos (by omega) (evsome ?_)), evneg (by omega) (evpos (by omega) (evsome ?_))⟩
    · rw [w64s (by omega)]
    · rw [w64s (by omega), or_byte _ _ hr.1 hr.2]
  · by_cases e : err = 0
    · exact ⟨p, code, 2, hp, evpos (by omega) (evpos e (Ev.now _)), evpos (by omega) (evpos e (Ev.now _))⟩
    · exact ⟨p, code, err, hp, evpos (by omega) (evneg e (Ev.now _)), evpos (by omega) (evneg e (Ev.now _))⟩
theorem more_both (l : List Int) (hb : ∀ x ∈ l, 0 ≤ x ∧ x ≤ 255) (hl : l.length ≤ 1048576) (p : Nat) (hp : p ≤ l.length) (code rng : Int) (r0 : 126976 ≤ rng) (r1 : rng < 4294967296) : ∃ (p' : Nat) (code' rng' err' : Int), p' ≤ l.length ∧ 16777216 ≤ rng' ∧ rng' < 4294967296 ∧ Ev (fun k => spec_l12In_bit.l0 k l p code rng 0) ((p' : Int), code', rng', err') ∧ Ev (fun k => impl_zdecoder_bit.l0 k l p code rng 0) ((p' : Int), code', rng', err') := by
  by_cases c : rng < 16777216
  · obtain ⟨p', c', e', h1, h2, h3⟩ := byte_both l hb hl p hp code 0
    have e : IntKind.u64.wrap (rng * 256) = rng * 256 := uwe (by omega) (by omega)
    have n1 : ¬ rng * 256 < 16777216 := by omega
    refine ⟨p', c', rng * 256, e', h1, by omega, by omega, Ev.step (fun k => rfl) (evpos c (evpos rfl (Ev.bind h2 ?_))), Ev.step (fun k => rfl) (evpos c (evpos rfl (Ev.bind h3 ?_)))⟩
    · rw [e]; exact Ev.step (fun k => rfl) (evneg n1 (Ev.now _))
    · rw [e]; exact Ev.step (fun k => rfl) (evneg n1 (Ev.now _))
  · exact ⟨p, code, rng, 0, hp, by omega, r1, Ev.step (fun k => rfl) (evneg c (Ev.now _)), Ev.step (fun k => rfl) (evneg c (Ev.now _))⟩
theorem part_in {rg q : Int} (r0 : 16777216 ≤ rg) (r1 : rg < 4294967296) (q0 : 31 ≤ q) (q1 : q ≤ 4065) : 126976 ≤ (rg / 4096) * q ∧ (rg / 4096) * q ≤ rg - 126976 := by
  have a0 : 4096 ≤ rg / 4096 := by omega
  have h1 : 4096 * 31 ≤ (rg / 4096) * q := Int.mul_le_mul a0 q0 (by omega) (by omega)
  have h2 : (rg / 4096) * q ≤ (rg / 4096) * 4065 := Int.mul_le_mul_of_nonneg_left q1 (by omega)
  omega
/-- The odds lie where they may. -/
def InO (od : List Int) : Prop := ∀ j, j < od.length → 31 ≤ od.getD j 0 ∧ od.getD j 0 ≤ 4065
theorem InO.set {od : List Int} (h : InO od) (i : Nat) {v : Int} (v0 : 31 ≤ v) (v1 : v ≤ 4065) : InO (od.set i v) := by
  intro j hj
  rw [List.length_set] at hj
  rw [List.getD_eq_getElem?_getD, List.getElem?_set]
  split
  · rw [if_pos (by omega)]; exact ⟨v0, v1⟩
  · rw [← List.getD_eq_getElem?_getD]; exact h j hj
theorem bit_both (l : List Int) (hb : ∀ x ∈ l, 0 ≤ x ∧ x ≤ 255) (hl : l.length ≤ 1048576) (p : Nat) (hp : p ≤ l.length) (code rng : Int) (od : List Int) (q : Int) (r0 : 16777216 ≤ rng) (r1 : rng < 4294967296) (ho : InO od) (q0 : 0 ≤ q) (q1 : q < od.length) :
    ∃ (b : Int) (p' : Nat) (code' rng' : Int) (od' : List Int) (err' : Int), p' ≤ l.length ∧ 16777216 ≤ rng' ∧ rng' < 4294967296 ∧ od'.length = od.length ∧ InO od' ∧ Ev (fun k => spec_l12In_bit.f k l p code rng od 0 q) (b, (p' : Int), code', rng', od', err') ∧ Ev (fun k => impl_zdecoder_bit.f k l p code rng od 0 q) (b, (p' : Int), code', rng', od', err') := by
  have hv := ho q.toNat (by omega)
  have hrd : od.getD q.toNat 0 = rd od q := by unfold rd; rfl
  rw [hrd] at hv
  obtain ⟨v, hV⟩ : ∃ v, v = rd od q := ⟨_, rfl⟩
  rw [← hV] at hv
  have pt := part_in r0 r1 hv.1 hv.2
  have up : IntKind.u64.wrap v = v := uwe (by omega) (by omega)
  obtain ⟨s, hS⟩ : ∃ s, s = (rng / 4096) * v := ⟨_, rfl⟩
  rw [← hS] at pt
  have us : IntKind.u64.wrap s = s := uwe (by omega) (by omega)
  have uq : IntKind.u64.wrap (rng - s) = rng - s := uwe (by omega) (by omega)
  have e : IntKind.u64.wrap ((rng / 4096) * (IntKind.u64.wrap (rd od q))) = s := by rw [← hV, up, ← hS, us]
  have E := Aside0.mk e
  have UQ := Aside0.mk uq
  clear up us uq e hS
  by_cases c : code < s
  · obtain ⟨p', c', r', e', h1, h2, h3, h4, h5⟩ := more_both l hb hl p hp code s (by omega) (by omega)
    have hn : 31 ≤ v + (4096 - v) / 32 ∧ v + (4096 - v) / 32 ≤ 4065 := by omega
    refine ⟨0, p', c', r', od.set q.toNat (v + (4096 - v) / 32), e', h1, h2, h3, List.length_set, ho.set _ hn.1 hn.2, evpos rfl (evpos q0 (evpos q1 (evpos (by rw [E.out]; exact c) (evlet (a := od.set q.toNat (v + (4096 - v) / 32)) ?_ ?_)))), evpos rfl (evpos q0 (evpos q1 (evpos (by rw [E.out]; exact c) (evlet (a := od.set q.toNat (v + (4096 - v) / 32)) ?_ ?_))))⟩
    · unfold spec_l12In_bit.learn spec_l12Learn.f
      rw [if_pos rfl, ← hV, w64 (n := 4096 - v) (by omega) (by omega), w64 (by omega) (by omega)]; rfl
    · rw [E.out]; exact Ev.bind h4 (Ev.now _)
    · unfold impl_zdecoder_bit.learn impl_zodds_learn.f
      rw [if_pos rfl, if_pos q0, if_pos q1, ← hV, w64 (n := 4096 - v) (by omega) (by omega), w64 (by omega) (by omega)]
    · rw [E.out]; exact Ev.bind h5 (Ev.now _)
  · obtain ⟨p', c', r', e', h1, h2, h3, h4, h5⟩ := more_both l hb hl p hp (IntKind.u64.wrap (code - s)) (rng - s) (by omega) (by omega)
    have hn : 31 ≤ v - v / 32 ∧ v - v / 32 ≤ 4065 := by omega
    have n1 : ¬ (1 : Int) = 0 := by decide
    refine ⟨1, p', c', r', od.set q.toNat (v - v / 32), e', h1, h2, h3, List.length_set, ho.set _ hn.1 hn.2, evpos rfl (evpos q0 (evpos q1 (evneg (by rw [E.out]; exact c) (evlet (a := od.set q.toNat (v - v / 32)) ?_ ?_)))), evpos rfl (evpos q0 (evpos q1 (evneg (by rw [E.out]; exact c) (evlet (a := od.set q.toNat (v - v / 32)) ?_ ?_))))⟩
    · unfold spec_l12In_bit.learn spec_l12Learn.f
      rw [if_neg n1, ← hV, w64 (by omega) (by omega)]; rfl
    · rw [E.out, UQ.out]; exact Ev.bind h4 (Ev.now _)
    · unfold impl_zdecoder_bit.learn impl_zodds_learn.f
      rw [if_neg n1, if_pos q0, if_pos q1, ← hV, w64 (by omega) (by omega)]
    · rw [E.out, UQ.out]; exact Ev.bind h5 (Ev.now _)
theorem open_both (a0 : Int) (h0 : 0 < a0) (h1 : a0 ≤ 512) (l : List Int) (hb : ∀ x ∈ l, 0 ≤ x ∧ x ≤ 255) (hl : l.length ≤ 1048576) : ∃ (p : Nat) (code err : Int), p ≤ l.length ∧ Ev (fun k => spec_l12Open.f k a0 l) ((p : Int), code, err, List.replicate a0.toNat 2048) ∧ Ev (fun k => impl_znewDecoder.f k a0 l) ((p : Int), code, err, List.replicate a0.toNat 2048) := by
  have main := down (n := 4) (P := fun i => ∀ (p : Nat) (code err : Int), p ≤ l.length → ∃ (p' : Nat) (code' err' : Int), p' ≤ l.length ∧ Ev (fun k => spec_l12Open.l0 k (i : Int) l p code err) ((p' : Int), code', err') ∧ Ev (fun k => impl_znewDecoder.l0 k (i : Int) l p code err) ((p' : Int), code', err')) ?_ ?_
  · obtain ⟨p, c, e, g1, g2, g3⟩ := main 0 0 0 (by omega)
    have hlen : 0 < (List.replicate a0.toNat (2048 : Int)).length := by rw [List.length_replicate]; omega
    exact ⟨p, c, e, g1, Ev.bind (odds_spec a0 (by omega) h1) (evpos hlen (Ev.bind g2 (Ev.now _))), Ev.bind (odds_impl a0 (by omega) h1) (evpos hlen (Ev.bind g3 (Ev.now _)))⟩
  · intro p code err hp
    by_cases c : err = 0
    · by_cases d : code ≥ 4294967295
      · exact ⟨p, code, 4, hp, Ev.step (fun k => rfl) (evneg (by omega) (evpos c (evpos d (Ev.now _)))), Ev.step (fun k => rfl) (evneg (by omega) (evpos c (evpos d (Ev.now _))))⟩
      · exact ⟨p, code, err, hp, Ev.step (fun k => rfl) (evneg (by omega) (evpos c (evneg d (Ev.now _)))), Ev.step (fun k => rfl) (evneg (by omega) (evpos c (evneg d (Ev.now _))))⟩
    · exact ⟨p, code, err, hp, Ev.step (fun k => rfl) (evneg (by omega) (evneg c (Ev.now _))), Ev.step (fun k => rfl) (evneg (by omega) (evneg c (Ev.now _)))⟩
  · intro i hi ih p code err hp
    obtain ⟨p1, c1, e1, q1, q2, q3⟩ := byte_both l hb hl p hp code err
    obtain ⟨p', c', e', g1, g2, g3⟩ := ih p1 c1 e1 q1
    have w := Aside0.mk (show wrap64 ((i : Int) + 1) = ((i + 1 : Nat) : Int) from w64s (by omega))
    exact ⟨p', c', e', g1, Ev.step (fun k => rfl) (evpos (by omega) (Ev.bind q2 (by rw [w.out]; exact g2))), Ev.step (fun k => rfl) (evpos (by omega) (Ev.bind q3 (by rw [w.out]; exact g3)))⟩
theorem zrange_d (l : List Int) (a b n : Int) (hl : l.length ≤ 4611686018427387904) : Ev (fun k => impl_zrange.f k l a b n) (decide ((l.length : Int) ≤ n) && l.all (fun x => decide (a ≤ x ∧ x ≤ b))) := by
  by_cases c : (l.length : Int) ≤ n
  · rw [decide_eq_true c, Bool.true_and]
    refine evneg (by omega) ?_
    have := down (n := l.length) (P := fun i => Ev (fun k => impl_zrange.l0 k a b l (l.length : Int) (i : Int)) ((l.drop i).all (fun x => decide (a ≤ x ∧ x ≤ b)))) ?_ ?_
    · exact this
    · rw [drop_end_all]; exact Ev.step (fun k => rfl) (evneg (by omega) (Ev.now _))
    · intro i hi ih
      have er : rd l (i : Int) = l[i] := by rw [rd_nat, getD_lt hi]
      rw [drop_all hi]
      by_cases c1 : l[i] < a
      · rw [show decide (a ≤ l[i] ∧ l[i] ≤ b) = false from decide_eq_false (by omega), Bool.false_and]
        exact Ev.step (fun k => rfl) (evpos (by omega) (evpos (by omega) (evpos (by omega) (evpos (by rw [er]; omega) (Ev.now _)))))
      by_cases c2 : l[i] > b
      · rw [show decide (a ≤ l[i] ∧ l[i] ≤ b) = false from decide_eq_false (by omega), Bool.false_and]
        exact Ev.step (fun k => rfl) (evpos (by omega) (evpos (by omega) (evpos (by omega) (evneg (by rw [er]; omega) (evpos (by rw [er]; omega) (Ev.now _))))))
      rw [show decide (a ≤ l[i] ∧ l[i] ≤ b) = true from decide_eq_true (by omega), Bool.true_and]
      refine Ev.step (fun k => rfl) (evpos (by omega) (evpos (by omega) (evpos (by omega) (evneg (by rw [er]; omega) (evneg (by rw [er]; omega) ?_)))))
      rw [w64s (by omega)]; exact ih
  · rw [decide_eq_false c, Bool.false_and]
    exact evpos (by omega) (Ev.now _)
theorem tail_impl (l ls : List Int) (hs : ls.length ≤ 20000) (at_ code rng : Int) (od : List Int) (err : Int) (he : ¬ err = 0) (i : Nat) (hi : i ≤ ls.length) : ∀ bits : List Int, bits.length = i → Ev (fun k => impl_OddsUnpack.l1 k l ls (i : Int) bits at_ code rng od err) (err, [], 0) := by
  refine down_to (n := ls.length) (P := fun i => ∀ bits : List Int, bits.length = i → Ev (fun k => impl_OddsUnpack.l1 k l ls (i : Int) bits at_ code rng od err) (err, [], 0)) ?_ ?_ i hi
  · intro bits _
    exact Ev.step (fun k => rfl) (evneg (by omega) (evneg he (Ev.now _)))
  · intro i hi ih bits hbi
    have w := Aside0.mk (show wrap64 ((i : Int) + 1) = ((i + 1 : Nat) : Int) from w64s (by omega))
    have n := ih (bits ++ [0]) (by simp; omega)
    have hb : bits.length < 17592186044416 := by omega
    refine Ev.step (fun k => rfl) (evpos (by omega) (evpos (by omega) (Ev.bind (evneg he (Ev.now _)) (evpos hb ?_))))
    rw [w.out]; exact n
theorem list_both (l ls : List Int) (hb : ∀ x ∈ l, 0 ≤ x ∧ x ≤ 255) (hl : l.length ≤ 1048576) (hs : ls.length ≤ 20000) (n : Nat) (hx : ∀ x ∈ ls, 0 ≤ x ∧ x < (n : Int)) (p : Nat) (hp : p ≤ l.length) (code rng : Int) (od : List Int) (r0 : 16777216 ≤ rng) (r1 : rng < 4294967296) (hn : od.length = n) (ho : InO od) :
    ∃ r : Int × List Int × Int, r.2.1.length ≤ 20000 ∧ Ev (fun k => spec_OddsUnpack.l1 k l ls 0 [] p code rng od 0) r ∧ Ev (fun k => impl_OddsUnpack.l1 k l ls 0 [] p code rng od 0) r := by
  have main := down (n := ls.length) (P := fun i => ∀ (bits : List Int) (p : Nat) (code rng : Int) (od : List Int), bits.length = i → p ≤ l.length → 16777216 ≤ rng → rng < 4294967296 → od.length = n → InO od → ∃ r : Int × List Int × Int, r.2.1.length ≤ 20000 ∧ Ev (fun k => spec_OddsUnpack.l1 k l ls (i : Int) bits p code rng od 0) r ∧ Ev (fun k => impl_OddsUnpack.l1 k l ls (i : Int) bits p code rng od 0) r) ?_ ?_
  · exact main [] p code rng od rfl hp r0 r1 hn ho
  · intro bits p code rng od hbi hp r0 r1 hn ho
    exact ⟨(0, bits, (p : Int)), by simp only; omega, Ev.step (fun k => rfl) (evneg (by omega) (evpos rfl (Ev.now _))), Ev.step (fun k => rfl) (evneg (by omega) (evpos rfl (Ev.now _)))⟩
  · intro i hi ih bits p code rng od hbi hp r0 r1 hn ho
    have hxi := hx _ (List.getElem_mem hi)
    have er : rd ls (i : Int) = ls[i] := by rw [rd_nat, getD_lt hi]
    obtain ⟨b, p', c', r', od', e', g1, g2, g3, g4, g5, g6, g7⟩ := bit_both l hb hl p hp code rng od ls[i] r0 r1 ho hxi.1 (by omega)
    have w := Aside0.mk (show wrap64 ((i : Int) + 1) = ((i + 1 : Nat) : Int) from w64s (by omega))
    have hbl : bits.length < 17592186044416 := by omega
    have hbn : (bits ++ [b]).length = i + 1 := by simp; omega
    by_cases c : e' = 0
    · subst c
      obtain ⟨r, hr, n1, n2⟩ := ih (bits ++ [b]) p' c' r' od' hbn g1 g2 g3 (by omega) g5
      refine ⟨r, hr, Ev.step (fun k => rfl) (evpos (by omega) (evpos (by omega) (Ev.bind (a := (b, (p' : Int), c', r', od', 0)) (by rw [er]; exact g6) (evpos hbl (evpos rfl ?_))))), Ev.step (fun k => rfl) (evpos (by omega) (evpos (by omega) (Ev.bind (a := (b, (p' : Int), c', r', od', 0)) (by rw [er]; exact g7) (evpos hbl ?_))))⟩
      · rw [w.out]; exact n1
      · rw [w.out]; exact n2
    · have t := tail_impl l ls hs p' c' r' od' e' c (i + 1) (by omega) (bits ++ [b]) hbn
      refine ⟨(e', [], 0), by simp, Ev.step (fun k => rfl) (evpos (by omega) (evpos (by omega) (Ev.bind (a := (b, (p' : Int), c', r', od', e')) (by rw [er]; exact g6) (evpos hbl (evneg c (Ev.now _)))))), Ev.step (fun k => rfl) (evpos (by omega) (evpos (by omega) (Ev.bind (a := (b, (p' : Int), c', r', od', e')) (by rw [er]; exact g7) (evpos hbl ?_))))⟩
      rw [w.out]; exact t
/-- The error that opening leaves: no bit is read then. -/
theorem err_both (l ls : List Int) (hs : ls.length ≤ 20000) (at_ code rng : Int) (od : List Int) (err : Int) (he : ¬ err = 0) : Ev (fun k => spec_OddsUnpack.l1 k l ls 0 [] at_ code rng od err) (err, [], 0) ∧ Ev (fun k => impl_OddsUnpack.l1 k l ls 0 [] at_ code rng od err) (err, [], 0) := by
  refine ⟨?_, tail_impl l ls hs at_ code rng od err he 0 (by omega) [] rfl⟩
  by_cases c : (0 : Int) < ls.length
  · exact Ev.step (fun k => rfl) (evpos c (evpos (by omega) (Ev.bind (evneg he (Ev.now _)) (evpos (by simp) (evneg he (Ev.now _))))))
  · exact Ev.step (fun k => rfl) (evneg c (evneg he (Ev.now _)))
theorem body_both (a0 : Int) (h0 : 0 < a0) (h1 : a0 ≤ 512) (l ls : List Int) (hb : ∀ x ∈ l, 0 ≤ x ∧ x ≤ 255) (hl : l.length ≤ 1048576) (hs : ls.length ≤ 20000) (hx : ∀ x ∈ ls, 0 ≤ x ∧ x < a0) :
    ∃ r : Int × List Int × Int, r.2.1.length ≤ 20000 ∧ Ev (fun k => (spec_l12Open.f k a0 l).bind fun t => (spec_OddsUnpack.l1 k l ls 0 ([] : List Int) t.1 t.2.1 4294967295 t.2.2.2 t.2.2.1)) r ∧ Ev (fun k => (impl_znewDecoder.f k a0 l).bind fun t => (impl_OddsUnpack.l1 k l ls 0 ([] : List Int) t.1 t.2.1 4294967295 t.2.2.2 t.2.2.1)) r := by
  obtain ⟨p, c, e, g1, g2, g3⟩ := open_both a0 h0 h1 l hb hl
  by_cases he : e = 0
  · subst he
    obtain ⟨r, hr, n1, n2⟩ := list_both l ls hb hl hs a0.toNat (fun x hm => by have := hx x hm; omega) p g1 c 4294967295 (List.replicate a0.toNat 2048) (by omega) (by omega) (by simp) (fun j hj => by
      rw [getD_lt hj]; simp)
    exact ⟨r, hr, Ev.bind g2 n1, Ev.bind g3 n2⟩
  · obtain ⟨n1, n2⟩ := err_both l ls hs p c 4294967295 (List.replicate a0.toNat 2048) e he
    exact ⟨(e, [], 0), by simp, Ev.bind g2 n1, Ev.bind g3 n2⟩
theorem unp_both (a0 : Int) (l ls : List Int) (hb : ∀ x ∈ l, 0 ≤ x ∧ x ≤ 255) (hl : l.length ≤ 1048576) (hs : ls.length ≤ 1048576) :
    ∃ r : Int × List Int × Int, r.2.1.length ≤ 20000 ∧ Ev (fun k => spec_OddsUnpack.f k a0 l ls) r ∧ Ev (fun k => impl_OddsUnpack.f k a0 l ls) r := by
  by_cases c1 : a0 < 1
  · exact ⟨(1, [], 0), by simp, evpos c1 (Ev.now _), evpos c1 (Ev.now _)⟩
  by_cases c2 : a0 > 512
  · exact ⟨(1, [], 0), by simp, evneg c1 (evpos c2 (Ev.now _)), evneg c1 (evpos c2 (Ev.now _))⟩
  have z := zrange_d ls 0 (wrap64 (a0 - 1)) 20000 (by omega)
  have w1 : wrap64 (a0 - 1) = a0 - 1 := w64 (by omega) (by omega)
  by_cases c3 : (ls.length : Int) > 20000
  · rw [decide_eq_false (by omega : ¬ (ls.length : Int) ≤ 20000), Bool.false_and] at z
    exact ⟨(1, [], 0), by simp, evneg c1 (evneg c2 (evpos c3 (Ev.now _))), evneg c1 (evneg c2 (Ev.bind z (evneg (by simp) (Ev.now _))))⟩
  rw [decide_eq_true (by omega : (ls.length : Int) ≤ 20000), Bool.true_and] at z
  cases hz : ls.all (fun x => decide (0 ≤ x ∧ x ≤ wrap64 (a0 - 1))) with
  | true =>
    rw [List.all_eq_true] at hz
    have hx : ∀ x ∈ ls, 0 ≤ x ∧ x < a0 := fun x hm => by
      have := of_decide_eq_true (hz x hm)
      rw [w1] at this
      omega
    obtain ⟨r, hr, b1, b2⟩ := body_both a0 (by omega) (by omega) l ls hb hl (by omega) hx
    have hz' : ls.all (fun x => decide (0 ≤ x ∧ x ≤ wrap64 (a0 - 1))) = true := List.all_eq_true.mpr hz
    rw [hz'] at z
    refine ⟨r, hr, evneg c1 (evneg c2 (evneg c3 ?_)), evneg c1 (evneg c2 (Ev.bind z (evpos rfl b2)))⟩
    refine down (n := ls.length) (P := fun i => Ev (fun k => spec_OddsUnpack.l0 k a0 l ls (i : Int)) r) ?_ ?_
    · exact Ev.step (fun k => rfl) (evneg (by omega) b1)
    · intro i hi ih
      have hxi := hx _ (List.getElem_mem hi)
      have er : rd ls (i : Int) = ls[i] := by rw [rd_nat, getD_lt hi]
      refine Ev.step (fun k => rfl) (evpos (by omega) (evpos (by omega) (evneg (by rw [er]; omega) (evneg (by rw [er]; omega) ?_))))
      rw [w64s (by omega)]; exact ih
  | false =>
    rw [hz] at z
    refine ⟨(1, [], 0), by simp, evneg c1 (evneg c2 (evneg c3 ?_)), evneg c1 (evneg c2 (Ev.bind z (evneg (by simp) (Ev.now _))))⟩
    have main := down (n := ls.length) (P := fun i => (ls.drop i).all (fun x => decide (0 ≤ x ∧ x ≤ wrap64 (a0 - 1))) = false → Ev (fun k => spec_OddsUnpack.l0 k a0 l ls (i : Int)) (1, [], 0)) ?_ ?_
    · exact main hz
    · intro h; rw [drop_end_all] at h; exact absurd h (by simp)
    · intro i hi ih h
      have er : rd ls (i : Int) = ls[i] := by rw [rd_nat, getD_lt hi]
      rw [drop_all hi] at h
      by_cases d1 : ls[i] < 0
      · exact Ev.step (fun k => rfl) (evpos (by omega) (evpos (by omega) (evpos (by rw [er]; omega) (Ev.now _))))
      by_cases d2 : ls[i] ≥ a0
      · exact Ev.step (fun k => rfl) (evpos (by omega) (evpos (by omega) (evneg (by rw [er]; omega) (evpos (by rw [er]; omega) (Ev.now _)))))
      have hd : decide (0 ≤ ls[i] ∧ ls[i] ≤ wrap64 (a0 - 1)) = true := decide_eq_true (by omega)
      rw [hd, Bool.true_and] at h
      have n := ih h
      refine Ev.step (fun k => rfl) (evpos (by omega) (evpos (by omega) (evneg (by rw [er]; omega) (evneg (by rw [er]; omega) ?_))))
      rw [w64s (by omega)]; exact n
theorem FnExactOddsUnpack : laws_FnExactOddsUnpack.Pure := by
  intro a0 l1 l2 _ _ _ wb _ _ _
  by_cases c1 : (l1.length : Int) > 1048576
  · exact Ev.rounds (evpos c1 (Ev.now _))
  by_cases c2 : (l2.length : Int) > 1048576
  · exact Ev.rounds (evneg c1 (evpos c2 (Ev.now _)))
  have hb : ∀ x ∈ l1, 0 ≤ x ∧ x ≤ 255 := fun x hx => wfb (wb x hx)
  have t1 := toByteS l1 (by omega)
  have t2 := toIntS l2 (by omega)
  obtain ⟨⟨e, o, p⟩, hr, s, i⟩ := unp_both a0 l1 l2 hb (by omega) (by omega)
  dsimp only at hr
  have eo := eqChosen e o p (by omega)
  have e1 := eqByteS l1 (by omega)
  have e2 := eqIntS l2 (by omega)
  obtain ⟨m1, h1, _⟩ := markByteS l1 1 (by omega) (by omega)
  obtain ⟨m2, h2, _, _⟩ := mhIntS l2 (1 + l1.length) (by omega) (by omega)
  obtain ⟨g, g1, g2, _⟩ := mhIntS o 1 (by omega) (by omega)
  have hg1 : Ev (fun k => laws_markChosen.f k e o p 1) (1 + o.length, g) := Ev.bind g1 (Ev.now _)
  have hg2 : Ev (fun k => laws_heldChosen.f k e g p 1) (1 + o.length) := Ev.bind g2 (evneg (by omega) (Ev.now _))
  have jn : Ev (fun k => laws_FnExactOddsUnpack.j0 k a0 l1 l2 (!true) e o p e o p) true := by
    refine Ev.step (f := fun k => (laws_markChosen.f k e o p 1).bind fun bt179 => ((laws_heldChosen.f k e bt179.2 p 1).bind fun t181 => (if t181 < 0 then (some false) else (if t181 = bt179.1 then ((laws_toByteS.f k l1).bind fun t182 => ((laws_toIntS.f k l2).bind fun t185 => ((impl_OddsUnpack.f k a0 t182 t185).bind fun bt188 => ((laws_eqChosen.f k bt188.1 bt188.2.1 bt188.2.2 e o p).bind fun t194 => (if t194 = true then ((laws_heldChosen.f k e bt179.2 p 1).bind fun t195 => (if t195 < 0 then (some false) else (if t195 = bt179.1 then (some true) else (some false)))) else (some false)))))) else (some false))))) (fun k => by simp only [laws_FnExactOddsUnpack.j0, Bool.not_true, Bool.false_eq_true, if_false]) ?_
    exact Ev.bind hg1 (Ev.bind hg2 (evneg (by omega) (evpos rfl (Ev.bind t1 (Ev.bind t2 (Ev.bind i (Ev.bind eo (evpos rfl (Ev.bind hg2 (evneg (by omega) (evpos rfl (Ev.now _))))))))))))
  refine Ev.rounds (evneg c1 (evneg c2 (Ev.bind t1 (Ev.bind t2 (Ev.bind s (Ev.bind t1 (Ev.bind t2 (Ev.bind i (Ev.bind eo (evpos rfl (Ev.bind t1 (Ev.bind e1 (evpos rfl (Ev.bind t2 (Ev.bind e2 (evpos rfl (Ev.bind h1 (Ev.bind h2 ?_))))))))))))))))))
  exact evneg (by simp only; omega) (Ev.bind eo jn)
end Go.Proofs.Ytggokppfhkebkaa.Pure

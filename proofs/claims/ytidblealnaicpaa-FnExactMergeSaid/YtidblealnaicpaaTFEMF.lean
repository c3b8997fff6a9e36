/- A copy into the middle of a row of the call's own, as an event: the row behind it is told, the world is a letter. -/
import Derived.Test.YtidblealnaicpaaTFEME
import Derived.Laws.CopyOwn
namespace Go.Proofs.YtidblealnaicpaaW.PrintWords
open Go.RowKit Go.Proofs.YtidblealnaicpaaW.PrintLast
theorem sub_len {xs : List Int} {s m : Nat} (h : s + m ≤ xs.length) : ((xs.drop s).take m).length = m := by
  rw [List.length_take, List.length_drop]; omega
section
variable {P : Program} {ops : Array Oper} {rest : List Oper} {o : Oper} {a : Act} {Q : Exit → Act → World → Prop}
theorem copy_mid {W : World} {base e : Nat} {ok : Nat → Prop} (hgd : o.guard = none) (d s : Operand) (dT sT : TypeId) (ho : o.op = .call { callee := .builtin .copy, args := #[d, s], argTypes := #[dT, sT] }) (hu : P.underlying dT = some (.slice e)) (hsz : (P.info? e).map (·.size) = some 1)
    (gs n co : Nat) (out : List Int) (q m : Nat) (A : Option Addr) (c s0 : Nat) (xs : List Int) (hR : Kd.R (Kd.int .i64) e W base ok (.slice (some ⟨gs, 0, none⟩) n co) out) (hC : Kd.C (Kd.int .i64) W A xs.length xs) (hc : xs.length ≤ c)
    (hm : 0 < m) (hq : q + m ≤ out.length) (hs0 : s0 + m ≤ xs.length) (hde : a.eval d = .slice (if co = q then some ⟨gs, 0, none⟩ else (some (⟨gs, 0, none⟩ : Addr)).map (·.add (q * 1))) m (co - q)) (hse : a.eval s = .slice (if c = s0 then A else A.map (·.add (s0 * 1))) (xs.length - s0) (c - s0))
    (h : ∀ w1, Kd.R (Kd.int .i64) e w1 base ok (.slice (some ⟨gs, 0, none⟩) n co) (out.take q ++ ((xs.drop s0).take m ++ out.drop (q + m))) → Kept W w1 (fun k => k = gs) → (∀ B w0, Below B w0 W → B ≤ gs → Below B w0 w1) → wpList P ops Q rest (a.put o.dst (goInt m)) w1) : wpList P ops Q (o :: rest) a W := by
  have hown := Kd.own_of_R hR
  rcases hown.2 with ⟨hv, _⟩ | ⟨g, cap, cur, hv, hb, hh, hnc, hcm, hcs, htk⟩
  · cases hv
  injection hv with hv1 hv2 hv3
  injection hv1 with hv1
  injection hv1 with hv1
  subst hv1
  subst hv2
  subst hv3
  obtain ⟨ad, hA, _⟩ := Kd.at_int hC (s0 : Int) (by omega) (by omega)
  subst hA
  rw [Nat.mul_one] at hde hse htk hcs
  rw [if_neg (by omega)] at hde hse
  obtain ⟨cs, hcseq⟩ : ∃ cs : List Value, cs = encs (Value.int .i64) ((xs.drop s0).take m) := ⟨_, rfl⟩
  have hcl : cs.length = m := by rw [hcseq, encs_length, sub_len hs0]
  have hz : ((⟨gs, 0, none⟩ : Addr).add q) = ⟨gs, q, none⟩ := by
    simp [Addr.add]
    exact fun h => h.symm
  refine wpList_copy_own hgd d s dT sT ho e hu hsz gs q m (co - q) (ad.add s0) (xs.length - s0) (c - s0) (by rw [hde, Option.map_some, hz]) (by rw [hse]; rfl) cur e hh cs ?_ ?_ ?_ ?_ ?_
  · rw [hcl]; exact (Nat.min_eq_right (show m ≤ xs.length - s0 by omega)).symm
  · intro j v hj
    have hjl : j < cs.length := (List.getElem?_eq_some_iff.1 hj).1
    obtain ⟨ad', e', hx⟩ := Kd.at_int hC ((s0 + j : Nat) : Int) (by omega) (by omega)
    cases e'
    rw [Int.toNat_natCast] at hx
    rw [add_add, hx, ← hj, hcseq, encs_get (d := (0 : Int)) _ j (by rw [sub_len hs0]; omega)]
    congr 2
    simp only [rd, Int.toNat_natCast, List.getD_eq_getElem?_getD]
    rw [List.getElem?_take_of_lt (by omega), List.getElem?_drop]
  · rw [hcl]; omega
  · intro v hv
    rw [hcseq] at hv
    simp only [encs, List.mem_map] at hv
    obtain ⟨x, _, rfl⟩ := hv
    rfl
  · rw [hcl]
    obtain ⟨new, hnew⟩ : ∃ new, new = (cur.toList.take q ++ (cs ++ cur.toList.drop (q + m))).toArray := ⟨_, rfl⟩
    rw [← hnew]
    have hlen : new.size = cur.size := by rw [hnew]; simp; omega
    have hlo : (out.take q ++ ((xs.drop s0).take m ++ out.drop (q + m))).length = out.length := by simp; omega
    refine h _ (Kd.R_of_own ⟨by rw [encs_length, hlo]; omega, .inr ⟨gs, co, new, ?_, hb, setRow_heap W gs cur new e (0, 0) hh, ?_, hcm, by omega, ?_⟩⟩ hR.1) ⟨by rw [setRow_size]; exact Nat.le_refl _, fun k _ hk => setRow_other W gs k new hk⟩ (fun B w0 hB hg => below_setRow hB hg new)
    · rw [hlo]
    · rw [hlo]; exact hnc
    · rw [hlo, Nat.mul_one, hnew, encs_append, encs_append, ← hcseq]
      have h1 : encs (Value.int .i64) (out.take q) = cur.toList.take q := by
        have : encs (Value.int .i64) (out.take q) = (encs (Value.int .i64) out).take q := by simp [encs, List.map_take]
        rw [this, ← htk, List.take_take, Nat.min_eq_left (by omega)]
      have h2 : encs (Value.int .i64) (out.drop (q + m)) = (cur.toList.drop (q + m)).take (out.length - (q + m)) := by
        have : encs (Value.int .i64) (out.drop (q + m)) = (encs (Value.int .i64) out).drop (q + m) := by simp [encs, List.map_drop]
        rw [this, ← htk, List.drop_take]
      rw [h1, h2]
      show List.take out.length (cur.toList.take q ++ (cs ++ cur.toList.drop (q + m))) = _
      have hl1 : (cur.toList.take q).length = q := by rw [List.length_take, Array.length_toList]; omega
      rw [List.take_append, hl1, List.take_of_length_le (by rw [hl1]; omega), List.take_append, hcl, List.take_of_length_le (show cs.length ≤ out.length - q by omega)]
      congr 3
      omega
end
end Go.Proofs.YtidblealnaicpaaW.PrintWords

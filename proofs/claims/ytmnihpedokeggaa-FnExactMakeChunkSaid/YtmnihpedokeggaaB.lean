/-
What is proved: '[]byte(s)' and an append onto it, as two events of a walk; what is read behind them is a row of the new base world.
Conditions: none beyond each lemma's own.
-/
import Derived.Test.YtmnihpedokeggaaWWords
import Derived.ArgAppend
import Derived.Laws.IdiomStrings
namespace Go.Proofs.YtmnihpedokeggaaW.PrintWords
open Go.RowKit
section
variable {P : Program} {ops : Array Oper} {rest : List Oper} {o : Oper} {a : Act} {Q : Exit → Act → World → Prop}
theorem setCells_size (b : Nat) : ∀ (vs : List Value) (i : Nat) (w : World), (w.setCells b i vs).heap.size = w.heap.size
  | [], _, _ => rfl
  | v :: r, i, w => (setCells_size b r (i + 1) _).trans (by simp [World.setCell])
theorem setCells_block (b : Nat) : ∀ (vs : List Value) (i : Nat) (w : World) (k : Nat), k ≠ b → (w.setCells b i vs).heap[k]? = w.heap[k]?
  | [], _, _, _, _ => rfl
  | v :: r, i, w, k, h => (setCells_block b r (i + 1) _ k h).trans (Below.heap_setCell w ⟨b, i, none⟩ v k h)
theorem setCells_os (b : Nat) : ∀ (vs : List Value) (i : Nat) (w : World), (w.setCells b i vs).os = w.os ∧ (w.setCells b i vs).tape = w.tape ∧ (w.setCells b i vs).output = w.output
  | [], _, _ => ⟨rfl, rfl, rfl⟩
  | v :: r, i, w => by
    obtain ⟨h1, h2, h3⟩ := setCells_os b r (i + 1) (w.setCell ⟨b, i, none⟩ v)
    exact ⟨h1, h2, h3⟩
theorem add0_ (g j : Nat) : (⟨g, 0, none⟩ : Addr).add j = ⟨g, j, none⟩ := by rw [Addr.add_lit, Nat.zero_add]
theorem getD_some (l : List Int) (j : Nat) (hj : j < l.length) : l[j] = l.getD j 0 := by simp [List.getD_eq_getElem?_getD, hj]
theorem conv_event {W : World} (hgd : o.guard = none) (x : Operand) (src dst e : TypeId) (ho : o.op = .convert src dst x)
    (hs : P.underlying src = some .string) (hd : P.underlying dst = some (.slice e)) (he : P.underlying e = some (.int .u8)) (y : ByteArray) (hx : a.eval x = .string y)
    (h : ∀ g c w2, w2.heap[g]? = some (.cells (bytesRow y c) e ((bytesRow y c).size, (bytesRow y c).size + 1)) → y.size ≤ c → W.heap.size ≤ g → Below W.heap.size W w2 → wpList P ops Q rest (a.put o.dst (.slice (some ⟨g, 0, none⟩) y.size c)) w2) :
    wpList P ops Q (o :: rest) a W := by
  have hr := run_bytes_of_string (P := P) W src dst e y hs hd he
  refine Kd.event_run hgd (v := .slice (some ⟨W.heap.size, 0, none⟩) y.size (grownCap W y.size 0 e)) (w1 := (W.drew.alloc (.cells (bytesRow y (grownCap W y.size 0 e)) e ((bytesRow y (grownCap W y.size 0 e)).size, (bytesRow y (grownCap W y.size 0 e)).size + 1)))) ?_ (h _ _ _ (blk_new W.drew _) (grownCap_ge W y.size 0 e) (Nat.le_refl _) ?_)
  · simp [execOp, ho, hx, hr, Result.andThen]
  · exact below_alloc (below_drew (Below.refl _ _)) _
theorem bytesRow_cells (y : ByteArray) (c : Nat) : (bytesRow y c).toList = (bytesOf y).map (Value.int .u8) ++ List.replicate (c - y.size) (.int .u8 0) := by
  simp [bytesRow, bytesOf]
theorem append_marked {w0 W : World} (base : Nat) (hgd : o.guard = none) (s x : Operand) (t e : TypeId)
    (ho : o.op = .call { callee := .builtin .append, args := #[s, x], argTypes := #[t, t] })
    (ht : P.underlying t = some (.slice e)) (hinfo : (P.info? e).map (fun i => (i.zero, i.size, i.bytes)) = some (some (.int .u8 0), 1, 1))
    (y : ByteArray) (g c : Nat) (ys : List Int) (A : Option Addr) (m cx : Nat) (hs : a.eval s = .slice (some ⟨g, 0, none⟩) y.size c) (hx : a.eval x = .slice A m cx)
    (HM : W.heap[g]? = some (.cells (bytesRow y c) e ((bytesRow y c).size, (bytesRow y c).size + 1))) (hc : y.size ≤ c)
    (HR : (Kd.int .u8).C W A m ys) (HB : Below base w0 W) (hbase : base ≤ g) (hl : y.size + m ≤ 140737488355328) {zs : List Int} (hzs : zs = bytesOf y ++ ys)
    (h : ∀ A' c' w1, (Kd.int .u8).C w1 A' zs.length zs → zs.length ≤ c' → Below base w0 w1 → KeepBut W w1 g none → wpList P ops Q rest (a.put o.dst (.slice A' zs.length c')) w1) :
    wpList P ops Q (o :: rest) a W := by
  subst hzs
  obtain ⟨i0, hi, hzz⟩ := Option.map_eq_some_iff.1 hinfo
  simp only [Prod.mk.injEq] at hzz
  obtain ⟨hz0, hz1, hz2⟩ := hzz
  have hR : ReadsOf (Value.int .u8) 0 W A m ys := Kd.reads_of_C (d := (0 : Int)) HR
  have hm : ys.length = m := hR.1
  have hbl : (bytesOf y).length = y.size := bytesOf_length y
  have hln : (bytesOf y ++ ys).length = y.size + m := by rw [List.length_append, hbl, hm]
  have hgW : g < W.heap.size := blk_lt HM
  have hsz : (bytesRow y c).size = c := by
    have := congrArg List.length (bytesRow_cells y c)
    simp only [Array.length_toList, List.length_append, List.length_map, List.length_replicate, hbl] at this
    omega
  have hcell : ∀ j, W.cell? ⟨g, j, none⟩ = (bytesRow y c)[j]? := fun j => cell_of_row W g j (bytesRow y c) e _ HM
  have hcellB : ∀ j u, ((bytesOf y).map (Value.int .u8))[j]? = some u → W.cell? ⟨g, j, none⟩ = some u := by
    intro j u hu
    have hj : j < ((bytesOf y).map (Value.int .u8)).length := (List.getElem?_eq_some_iff.1 hu).1
    rw [hcell, ← Array.getElem?_toList, bytesRow_cells, List.getElem?_append_left hj, hu]
  have hfz : ∀ j, j < c → W.frozen? ⟨g, j, none⟩ = false := by
    intro j hj
    simp [World.frozen?, HM, hsz]
    omega
  have mkC : ∀ (A' : Option Addr) (w1 : World), (0 < (bytesOf y ++ ys).length → ∃ ad, A' = some ad ∧ ∀ j, j < (bytesOf y ++ ys).length → w1.cell? (ad.add j) = some (.int .u8 ((bytesOf y ++ ys).getD j 0))) → (Kd.int .u8).C w1 A' (bytesOf y ++ ys).length (bytesOf y ++ ys) := by
    intro A' w1 h1
    exact Kd.C_of_reads (d := (0 : Int)) ⟨rfl, by omega, h1⟩
  rcases A with _ | ad
  · have h0 : m = 0 := by
      rcases Nat.eq_zero_or_pos m with h0 | h0
      · exact h0
      · obtain ⟨ad, h, _⟩ := hR.2.2 h0
        cases h
    subst h0
    obtain rfl : ys = [] := List.eq_nil_of_length_eq_zero hm
    refine Kd.event_run hgd (v := .slice (some ⟨g, 0, none⟩) (bytesOf y ++ []).length c) (w1 := W) ?_ (h _ _ _ (mkC _ _ fun hp => ⟨_, rfl, fun j hj => ?_⟩) (by omega) HB (KeepBut.refl _ _ _))
    · rw [hln]
      simp [execOp, ho, hs, hx, resolve, invoke, builtin, Builtin.append_, run_underlying ht, sizeOf, typeInfo, hi, Builtin.lenOf, Builtin.firstCells, hc, storeCells, Result.andThen]
    · rw [add0_]
      refine hcellB j _ ?_
      simp only [List.append_nil] at hj ⊢
      rw [List.getElem?_map, List.getElem?_eq_getElem hj]
      simp [List.getD_eq_getElem?_getD, hj]
  · have hcells : ∀ j u, (ys.map (Value.int .u8))[j]? = some u → W.cell? (ad.add j) = some u := by
      intro j u hu
      have hj : j < ys.length := by simpa using (List.getElem?_eq_some_iff.1 hu).1
      obtain ⟨ad', h', hc'⟩ := hR.2.2 (by omega)
      injection h' with h'
      subst h'
      rw [hc' j (by omega)]
      rw [List.getElem?_map, List.getElem?_eq_getElem hj] at hu
      simp [List.getD_eq_getElem?_getD, hj] at hu ⊢
      exact hu
    refine wpList_append_arg W hgd s x t ho e i0 (.int .u8 0) 1 1 ht hi hz0 hz1 hz2 rfl (by decide) g 0 y.size c ((bytesOf y).map (Value.int .u8)) hs (by simp [hbl]) (fun j u hu => by rw [Nat.zero_add]; exact hcellB j u hu) ad m cx (ys.map (Value.int .u8)) hx (by simp [hm]) hcells (by intro u hu; simp only [List.mem_map] at hu; obtain ⟨q, _, rfl⟩ := hu; rfl) ?_ (by simp only [maxLen]; omega) (by omega) ?_ ?_
    · intro hroom j hj
      simp only [List.length_map] at hj
      refine ⟨?_, hfz _ (by omega)⟩
      rw [hcell]
      have : 0 + y.size * 1 + j < (bytesRow y c).size := by omega
      exact (congrArg Option.isSome (Array.getElem?_eq_getElem this)).trans rfl
    · intro hroom
      have hin : ∀ j, j < (ys.map (Value.int .u8)).length → (W.cell? ⟨g, 0 + y.size * 1 + j, none⟩).isSome = true := by
        intro j hj
        simp only [List.length_map] at hj
        rw [hcell]
        have : 0 + y.size * 1 + j < (bytesRow y c).size := by omega
        exact (congrArg Option.isSome (Array.getElem?_eq_getElem this)).trans rfl
      have key := h (some ⟨g, 0, none⟩) c (W.setCells g (0 + y.size * 1) (ys.map (Value.int .u8))) (mkC _ _ fun hp => ⟨_, rfl, fun j hj => ?_⟩) (by omega) ⟨(setCells_os _ _ _ _).1.trans HB.os, (setCells_os _ _ _ _).2.1.trans HB.tape, (setCells_os _ _ _ _).2.2.trans HB.output, by rw [setCells_size]; exact HB.size, fun k hk => (setCells_block _ _ _ _ _ (by omega)).trans (HB.block k hk)⟩ ⟨by rw [setCells_size]; exact Nat.le_refl _, fun i hi hg _ => setCells_block _ _ _ _ _ hg⟩
      · rw [hln] at key
        exact key
      · rw [add0_]
        rcases Nat.lt_or_ge j y.size with h1 | h1
        · rw [World.cell?_setCells_out _ _ _ _ _ (fun _ _ => Or.inl (by show j < 0 + y.size * 1; omega)), hcellB j (.int .u8 ((bytesOf y ++ ys).getD j 0))]
          rw [List.getElem?_map, List.getElem?_eq_getElem (by omega)]
          simp [List.getD_eq_getElem?_getD, List.getElem?_append_left (show j < (bytesOf y).length by omega), show j < (bytesOf y).length by omega]
        · obtain ⟨q, rfl⟩ : ∃ q, j = y.size + q := ⟨j - y.size, by omega⟩
          have hq : q < (ys.map (Value.int .u8)).length := by simp only [List.length_map]; omega
          have := World.cell?_setCells_in g (ys.map (Value.int .u8)) (0 + y.size * 1) W hin q hq
          refine (congrArg (fun z => (W.setCells g (0 + y.size * 1) (ys.map (Value.int .u8))).cell? ⟨g, z, none⟩) (show y.size + q = 0 + y.size * 1 + q by omega)).trans (this.trans ?_)
          simp only [List.length_map] at hq
          simp [hbl, hq]
    · intro hgrow v1 w1 hown hgr
      obtain ⟨hlen, hv⟩ := hown
      rcases hv with ⟨rfl, h0⟩ | ⟨g2, cap, cur, rfl, hg2, hh, hnc, hcap, hcs, htk⟩
      · omega
      have key := h (some ⟨g2, 0, none⟩) cap w1 (mkC _ _ fun hp => ⟨_, rfl, fun j hj => ?_⟩) (by omega) (HB.grown hgr (by omega) (by simp)) (KeepBut.of_grown hgr g)
      · rw [hln] at key
        exact key
      · rw [add0_]
        have hc2 : w1.cell? ⟨g2, j, none⟩ = cur[j]? := cell_of_row w1 g2 j cur e _ hh
        rw [hc2, ← Array.getElem?_toList]
        have ht : (cur.toList.take ((y.size + m) * 1))[j]? = cur.toList[j]? := List.getElem?_take_of_lt (by omega)
        rw [← ht, htk, ← List.map_append, List.getElem?_map, List.getElem?_eq_getElem hj]
        exact congrArg some (congrArg (Value.int .u8) (getD_some _ _ hj))
theorem rebR {α : Type} {d : Kd α} {t : Nat} {w wB w' : World} {ok : Nat → Prop} {p : Value → Prop} {r : List α} (hB : Below w.heap.size w wB)
    (h : ∃ v, p v ∧ d.R t w' wB.heap.size ok v r ∧ Below wB.heap.size wB w') : ∃ v, p v ∧ d.R t w' w.heap.size ok v r ∧ Below w.heap.size w w' := by
  obtain ⟨v, h1, h2, h3⟩ := h
  exact ⟨v, h1, Kd.R_lower h2 hB.size, below_step hB h3⟩
end
end Go.Proofs.YtmnihpedokeggaaW.PrintWords

/-
What is proved: a local array of bools (or whole numbers) is a row of the call's own, as long as its type says.
Conditions: none beyond each lemma's own.
-/
import Derived.Test.YtglaedjadlappaaWWords
namespace Go.Proofs.YtglaedjadlappaaW.PrintWords
open Go.RowKit
section
variable {P : Program} {ops : Array Oper} {rest : List Oper} {o : Oper} {a : Act} {Q : Exit → Act → World → Prop}
theorem arr_event {α : Type} (enc : α → Value) (h1 : ∀ x : α, (enc x).oneCell' = true) {W : World} (hgd : o.guard = none) {N : Tmp} (_hd : o.dst = some N) (t n : Nat) (z : Value) (sz bytes : Nat) (d : α) (ho : o.op = .alloc t)
    (hinfo : (P.info? t).map (fun i => (i.zero, i.size, i.bytes)) = some (some z, sz, bytes)) (hz : z.cells.toList = (List.replicate n d).map enc) (hn : n ≤ maxLen)
    (h : ∀ g w1, (Kd.scalar enc h1).R t w1 W.heap.size (fun _ => True) (.slice (some ⟨g, 0, none⟩) n n) (List.replicate n d) → Below W.heap.size W w1 → wpList P ops Q rest (a.put o.dst (.pointer (some ⟨g, 0, none⟩))) w1) :
    wpList P ops Q (o :: rest) a W := by
  obtain ⟨i0, hi, hzz⟩ := Option.map_eq_some_iff.1 hinfo
  simp only [Prod.mk.injEq] at hzz
  obtain ⟨hz0, _, _⟩ := hzz
  have hsz : z.cells.size = n := by
    have := congrArg List.length hz
    simpa using this
  refine Kd.event_run hgd (v := .pointer (some ⟨W.heap.size, 0, none⟩)) (w1 := W.alloc (.cells z.cells t)) ?_ (h _ _ (Kd.R_of_own ⟨?_, .inr ⟨W.heap.size, n, z.cells, by simp, Nat.le_refl _, heap_alloc_new W _, by simp, hn, by omega, ?_⟩⟩ (fun _ _ => trivial)) (below_alloc (Below.refl _ _) _))
  · simp [execOp, ho, Instr.alloc, zeroValue, typeInfo, hi, hz0, newVar, newRow]
  · simp [encs]
  · rw [hz]
    simp [encs]
end
end Go.Proofs.YtglaedjadlappaaW.PrintWords

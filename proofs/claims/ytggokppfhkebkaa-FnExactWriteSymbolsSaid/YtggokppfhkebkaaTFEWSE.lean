/- Two steps of the walk as events: a store into a cell of a block that is known whole (the world behind it is a letter), and a store into a row of the call's own. -/
import Derived.Test.YtggokppfhkebkaaTFEWSWWords
import Derived.Test.YtggokppfhkebkaaTFEWSWLast
import Derived.Test.YtggokppfhkebkaaTFEWSWKept
import Derived.StillTailTactics
namespace Go.Proofs.YtggokppfhkebkaaW.PrintWords
open Go.RowKit Go.Proofs.YtggokppfhkebkaaW.PrintLast
/-- A region that draws: reads, then one operation that may write; the world that is drawn is a letter. -/
theorem still_tail_ {P : Program} {id : Nat} {Q : Exit → Act → World → Prop} {a : Act} {w : World} {l : List Oper} (n : Nat) (hm : P.follows .mixedOrders = true) (hB : Region.lexTailB .any l.toArray n = true)
    (h : ∀ w1, w1 = w.drew → wpStill P l.toArray w1 (fun a' => wpList P l.toArray Q (l.drop n) a' w1) (l.take n) a) : (Code.region id l.toArray true).wp P Q a w := wp_region_still_tail n hm hB (h _ rfl)
/-! The variables that a function has made since world w0: block, cells, type. -/
structure St (w0 w : World) (L : List (Nat × Array Value × TypeId)) : Prop where
  below : Below w0.heap.size w0 w
  apart : (L.map (fun x => x.1)).Nodup
  here : ∀ (j g : Nat) (cs : Array Value) (t : TypeId), L[j]? = some (g, cs, t) → w0.heap.size ≤ g ∧ w.heap[g]? = some (.cells cs t (0, 0))
theorem St.new (w : World) : St w w [] := ⟨Below.refl _ _, by simp, fun _ _ _ _ h => by simp at h⟩
section
variable {w0 w w1 : World} {L : List (Nat × Array Value × TypeId)} {g j : Nat} {cs cs' : Array Value} {t : TypeId}
theorem St.at_ (h : St w0 w L) (j : Nat) (hj : L[j]? = some (g, cs, t)) : w.heap[g]? = some (.cells cs t (0, 0)) := (h.here j g cs t hj).2
theorem St.lt (h : St w0 w L) (j : Nat) (hj : L[j]? = some (g, cs, t)) : g < w.heap.size := blk_lt (h.at_ j hj)
theorem St.call (h : St w0 w L) (hb : Below w.heap.size w w1) : St w0 w1 L := ⟨below_step h.below hb, h.apart, fun j g cs t hj => ⟨(h.here j g cs t hj).1, blk_below (h.here j g cs t hj).2 hb⟩⟩
theorem St.box (h : St w0 w L) (hg : g = w.heap.size) (hn : w1.heap[g]? = some (.cells cs t (0, 0))) (hb : Below w.heap.size w w1) : St w0 w1 ((g, cs, t) :: L) := by
  refine ⟨below_step h.below hb, ?_, fun j g' cs' t' hj => ?_⟩
  · rw [List.map_cons, List.nodup_cons]
    refine ⟨fun hm => ?_, h.apart⟩
    obtain ⟨⟨g', cs', t'⟩, hx, he⟩ := List.mem_map.1 hm
    obtain ⟨j, hj⟩ := List.getElem?_of_mem hx
    have := h.lt j hj
    dsimp only at he
    omega
  · cases j with
    | zero =>
      rw [List.getElem?_cons_zero] at hj
      cases hj
      exact ⟨by rw [hg]; exact h.below.size, hn⟩
    | succ j =>
      rw [List.getElem?_cons_succ] at hj
      exact ⟨(h.here j g' cs' t' hj).1, blk_below (h.here j g' cs' t' hj).2 hb⟩
theorem St.put (h : St w0 w L) (j : Nat) (hj : L[j]? = some (g, cs, t)) (hn : w1.heap[g]? = some (.cells cs' t (0, 0))) (hk : Kept w w1 (fun k => k = g)) (hb : ∀ B w0, Below B w0 w → B ≤ g → Below B w0 w1) : St w0 w1 (L.set j (g, cs', t)) := by
  have hlt := (List.getElem?_eq_some_iff.1 hj).1
  have hm : (L.set j (g, cs', t)).map (fun x => x.1) = L.map (fun x => x.1) := by
    rw [List.map_set]
    apply List.ext_getElem?
    intro i
    rw [List.getElem?_set]
    split
    · rename_i e
      subst e
      rw [if_pos (by simpa using hlt), List.getElem?_map, hj]; rfl
    · rfl
  refine ⟨hb _ _ h.below (h.here j g cs t hj).1, by rw [hm]; exact h.apart, fun i g' c' t' hi => ?_⟩
  rw [List.getElem?_set] at hi
  by_cases e : j = i
  · subst e
    rw [if_pos rfl, if_pos hlt] at hi
    cases hi
    exact ⟨(h.here j g cs t hj).1, hn⟩
  · rw [if_neg e] at hi
    refine ⟨(h.here i g' c' t' hi).1, blk_kept (h.here i g' c' t' hi).2 hk (fun hg => e ?_)⟩
    have h1 : (L.map (fun x => x.1))[i]? = some g := by rw [List.getElem?_map, hi]; simpa using hg
    have h2 : (L.map (fun x => x.1))[j]? = some g := by rw [List.getElem?_map, hj]; rfl
    have hl : j < (L.map (fun x => x.1)).length := by simpa using hlt
    exact ((List.getElem?_inj hl h.apart).1 (h2.trans h1.symm))
theorem St.kept {S : Nat → Prop} (h : St w0 w L) (hk : Kept w w1 S) (hs : ∀ k, k ∈ L.map (fun x => x.1) → ¬ S k) (hb : Below w0.heap.size w0 w1) : St w0 w1 L :=
  ⟨hb, h.apart, fun j g cs t hj => ⟨(h.here j g cs t hj).1, blk_kept (h.here j g cs t hj).2 hk (hs g (List.mem_map.2 ⟨_, List.mem_of_getElem? hj, rfl⟩))⟩⟩
theorem St.drew (h : St w0 w L) : St w0 w.drew L := h.call (below_drew (Below.refl _ _))
theorem St.cell (h : St w0 w L) (j : Nat) (hj : L[j]? = some (g, cs, t)) (i : Nat) : w.cell? ⟨g, i, none⟩ = cs[i]? := blk_cell (h.at_ j hj) i
end
end Go.Proofs.YtggokppfhkebkaaW.PrintWords

/- Two steps of the walk as events: a store into a cell of a block that is known whole (the world behind it is a letter), and a store into a row of the call's own. -/
import Derived.Test.YtofkbjmbohgikaaDoorTFERCWWords
import Derived.Test.YtofkbjmbohgikaaDoorTFERCWLast
import Derived.Test.YtofkbjmbohgikaaDoorTFERCWKept
import Derived.StillTailTactics
namespace Go.Proofs.YtofkbjmbohgikaaDoorW.PrintWords
open Go.RowKit Go.Proofs.YtofkbjmbohgikaaDoorW.PrintLast
section
variable {P : Program} {ops : Array Oper} {rest : List Oper} {o : Oper} {a : Act} {Q : Exit → Act → World → Prop}
/-- A store of a value of several cells over a whole block. -/
theorem put_all {W : World} (hgd : o.guard = none) (t : TypeId) (p x : Operand) (ho : o.op = .store t p x) (hN : o.dst = none) (g : Nat) (cs : Array Value) (ty : TypeId) (u : Value) (us : List Value)
    (hp : a.eval p = .pointer (some ⟨g, 0, none⟩)) (hx : a.eval x = u) (hu : u.cells.toList = us) (h1 : ∀ q ∈ us, q.oneCell' = true) (ht : (P.info? t).map (·.size) = some us.length) (hh : W.heap[g]? = some (.cells cs ty (0, 0))) (hi : us.length = cs.size)
    (h : ∀ w1, w1.heap[g]? = some (.cells us.toArray ty (0, 0)) → Kept W w1 (fun k => k = g) → (∀ B w0, Below B w0 W → B ≤ g → Below B w0 w1) → wpList P ops Q rest a w1) : wpList P ops Q (o :: rest) a W := by
  have hrun := run_store_run (P := P) (o := 0) t u us hh hu ht (by omega) h1
  obtain ⟨cur', h3, h4, h5⟩ := setCells_row us 0 W cs hh (by omega)
  obtain ⟨s1, s2, s3, s4⟩ := setCells_same g us 0 W
  have hd : cs.toList.drop us.length = [] := List.drop_eq_nil_of_le (by rw [hi, Array.length_toList]; exact Nat.le_refl _)
  have hc : cur' = us.toArray := by
    apply Array.ext'
    rw [h5, Nat.zero_add, hd, List.take_zero, List.nil_append, List.append_nil]
  subst hc
  refine wpList_plain hgd fun K hK => ?_
  unfold Oper.wp execOp
  simp only [ho, hp, hx, Sem.run_bind, Sem.run_pure, Result.andThen_ok, hrun]
  show K (a.put o.dst undef) _
  rw [hN]
  have hk : Kept W (W.setCells g 0 us) (fun k => k = g) := ⟨by rw [s4]; exact Nat.le_refl _, fun k _ hne => setCells_far us 0 k hne⟩
  exact hK a _ (h (W.setCells g 0 us) h3 hk (fun B w0 hB hg => hB.trans ⟨s1, s2, s3, by rw [s4]; exact Nat.le_refl _, fun k hk => setCells_far us 0 k (by omega)⟩))
end
/-! What a method keeps: all but its variable's block and the rows of type e (what is new since may be written). -/
def KT (g : Nat) (e : TypeId) (wa W : World) : Prop := Kept wa W (fun k => k = g ∨ ∃ cells, wa.heap[k]? = some (.cells cells e (0, 0)))
section
variable {g : Nat} {e : TypeId} {wa W W2 : World}
theorem KT.refl (g : Nat) (e : TypeId) (wa : World) : KT g e wa wa := Kept.refl _ _
theorem KT.typed (h : KT g e wa W) {k : Nat} {cells : Array Value} (hk : W.heap[k]? = some (.cells cells e (0, 0))) : (k = g ∨ ∃ cells, wa.heap[k]? = some (.cells cells e (0, 0))) ∨ wa.heap.size ≤ k := by
  rcases Nat.lt_or_ge k wa.heap.size with hlt | hge
  · by_cases hS : k = g ∨ ∃ cells, wa.heap[k]? = some (.cells cells e (0, 0))
    · exact .inl hS
    · exact absurd (.inr ⟨cells, (h.2 k hlt hS).symm.trans hk⟩) hS
  · exact .inr hge
theorem KT.grown {row : Option Nat} (h : KT g e wa W) (hg : W.grownBy W2 row) (hty : ∀ k, row = some k → ∃ cells, W.heap[k]? = some (.cells cells e (0, 0))) : KT g e wa W2 :=
  Kept.of_grown hg h (fun k hk => by
    obtain ⟨cells, hc⟩ := hty k hk
    exact h.typed hc)
theorem KT.below (h : KT g e wa W) (hb : Below W.heap.size W W2) : KT g e wa W2 := Kept.below h hb
theorem KT.drew (h : KT g e wa W) : KT g e wa W.drew := h.below (below_drew (Below.refl _ _))
theorem KT.drewN (h : KT g e wa W) (m : Nat) : KT g e wa (W.drewN m) := h.below (pw_below_drewN (Below.refl _ _) m)
theorem KT.alloc (h : KT g e wa W) (o : Obj) : KT g e wa (W.alloc o) := h.below (below_alloc (Below.refl _ _) o)
theorem KT.set (h : KT g e wa W) (i : Nat) (u : Value) : KT g e wa (W.setCell ⟨g, i, none⟩ u) := Kept.setCell (p := ⟨g, i, none⟩) h (Or.inl (Or.inl rfl)) u
theorem KT.trans (h : KT g e wa W) (k : KT g e W W2) : KT g e wa W2 :=
  Kept.then_ h k (fun k hk => by
    rcases hk with rfl | ⟨cells, hc⟩
    · exact .inl (.inl rfl)
    · exact h.typed hc)
/-- Another block, of another type, is as it was. -/
theorem KT.blk {g' : Nat} {o : Obj} (h : KT g e wa W) (hb : wa.heap[g']? = some o) (hne : g' ≠ g) (ht : ∀ cells, o ≠ .cells cells e (0, 0)) : W.heap[g']? = some o :=
  blk_kept hb h (fun hs => hs.elim hne (fun ⟨cells, hc⟩ => ht cells (by rw [hb] at hc; exact Option.some.inj hc)))
theorem KT.cells {g' : Nat} {cs : Array Value} {t : TypeId} (h : KT g e wa W) (hb : wa.heap[g']? = some (.cells cs t (0, 0))) (hne : g' ≠ g) (ht : t ≠ e) : W.heap[g']? = some (.cells cs t (0, 0)) :=
  h.blk hb hne (fun cells hc => by injection hc with _ h2; exact ht h2)
theorem KT.R {α : Type} {d : Kd α} {e' base : Nat} {ok : Nat → Prop} {v : Value} {xs : List α} {cells : Array Value} {t : TypeId} (h : KT g e wa W) (hr : d.R e' wa base ok v xs) (hb : wa.heap[g]? = some (.cells cells t (0, 0))) (hq : ∀ q, q ∈ e' :: d.E → q ≠ e) (hq2 : ∀ q, q ∈ e' :: d.E → q ≠ t) : d.R e' W base ok v xs :=
  Kd.R_mono (Kd.R_kept (Kd.R_bound hr) h (fun k hk hs => by
    obtain ⟨_, _, _, q, hq', c', hc'⟩ := hk
    rcases hs with rfl | ⟨cells', hc⟩
    · rw [hb] at hc'
      injection hc' with hc'
      injection hc' with _ h2
      exact hq2 q hq' h2.symm
    · rw [hc] at hc'
      injection hc' with hc'
      injection hc' with _ h2
      exact hq q hq' h2.symm)) (fun k hk => hk.1)
end
/-- The same for several variables (G). -/
def KG (G : Nat → Prop) (e : TypeId) (wa W : World) : Prop := Kept wa W (fun k => G k ∨ ∃ cells, wa.heap[k]? = some (.cells cells e (0, 0)))
section
variable {G : Nat → Prop} {e : TypeId} {wa W W2 : World}
theorem KG.refl (G : Nat → Prop) (e : TypeId) (wa : World) : KG G e wa wa := Kept.refl _ _
theorem KG.typed (h : KG G e wa W) {k : Nat} {cells : Array Value} (hk : W.heap[k]? = some (.cells cells e (0, 0))) : (G k ∨ ∃ cells, wa.heap[k]? = some (.cells cells e (0, 0))) ∨ wa.heap.size ≤ k := by
  rcases Nat.lt_or_ge k wa.heap.size with hlt | hge
  · by_cases hS : G k ∨ ∃ cells, wa.heap[k]? = some (.cells cells e (0, 0))
    · exact .inl hS
    · exact absurd (.inr ⟨cells, (h.2 k hlt hS).symm.trans hk⟩) hS
  · exact .inr hge
theorem KG.grown {row : Option Nat} (h : KG G e wa W) (hg : W.grownBy W2 row) (hty : ∀ k, row = some k → ∃ cells, W.heap[k]? = some (.cells cells e (0, 0))) : KG G e wa W2 :=
  Kept.of_grown hg h (fun k hk => by
    obtain ⟨cells, hc⟩ := hty k hk
    exact h.typed hc)
theorem KG.put {g : Nat} (h : KG G e wa W) (hk : Kept W W2 (fun k => k = g)) (hg : G g) : KG G e wa W2 := Kept.then_ h hk (fun k hk => by
  subst hk
  exact .inl (.inl hg))
theorem KG.R {α : Type} {d : Kd α} {e' base : Nat} {ok : Nat → Prop} {v : Value} {xs : List α} (h : KG G e wa W) (hr : d.R e' wa base ok v xs) (hG : ∀ k, G k → ∃ cells t, wa.heap[k]? = some (.cells cells t (0, 0)) ∧ ∀ q, q ∈ e' :: d.E → q ≠ t) (hq : ∀ q, q ∈ e' :: d.E → q ≠ e) : d.R e' W base ok v xs :=
  Kd.R_mono (Kd.R_kept (Kd.R_bound hr) h (fun k hk hs => by
    obtain ⟨_, _, _, q, hq', c', hc'⟩ := hk
    rcases hs with hs | ⟨cells', hc⟩
    · obtain ⟨cells, t, hb, ht⟩ := hG k hs
      rw [hb] at hc'
      injection hc' with hc'
      injection hc' with _ h2
      exact ht q hq' h2.symm
    · rw [hc] at hc'
      injection hc' with hc'
      injection hc' with _ h2
      exact hq q hq' h2.symm)) (fun k hk => hk.1)
end
/-! The variables that a function has made since world w0: block, cells, type. -/
structure St (w0 w : World) (L : List (Nat × Array Value × TypeId)) : Prop where
  below : Below w0.heap.size w0 w
  apart : (L.map (fun x => x.1)).Nodup
  here : ∀ (j g : Nat) (cs : Array Value) (t : TypeId), L[j]? = some (g, cs, t) → w0.heap.size ≤ g ∧ w.heap[g]? = some (.cells cs t (0, 0))
theorem St.new (w : World) : St w w [] := ⟨Below.refl _ _, by simp, fun _ _ _ _ h => by simp at h⟩
section
variable {w0 w w1 : World} {L : List (Nat × Array Value × TypeId)} {g j : Nat} {cs cs' : Array Value} {t : TypeId}
theorem St.at_ (h : St w0 w L) (j : Nat) (hj : L[j]? = some (g, cs, t)) : w.heap[g]? = some (.cells cs t (0, 0)) := (h.here j g cs t hj).2
theorem St.lt (h : St w0 w L) (j : Nat) (hj : L[j]? = some (g, cs, t)) : g < w.heap.size := blk_lt (h.at_ j hj)
theorem St.call (h : St w0 w L) (hb : Below w.heap.size w w1) : St w0 w1 L := ⟨below_step h.below hb, h.apart, fun j g cs t hj => ⟨(h.here j g cs t hj).1, blk_below (h.here j g cs t hj).2 hb⟩⟩
theorem St.box (h : St w0 w L) (hg : g = w.heap.size) (hn : w1.heap[g]? = some (.cells cs t (0, 0))) (hb : Below w.heap.size w w1) : St w0 w1 ((g, cs, t) :: L) := by
  refine ⟨below_step h.below hb, ?_, fun j g' cs' t' hj => ?_⟩
  · rw [List.map_cons, List.nodup_cons]
    refine ⟨fun hm => ?_, h.apart⟩
    obtain ⟨⟨g', cs', t'⟩, hx, he⟩ := List.mem_map.1 hm
    obtain ⟨j, hj⟩ := List.getElem?_of_mem hx
    have := h.lt j hj
    dsimp only at he
    omega
  · cases j with
    | zero =>
      rw [List.getElem?_cons_zero] at hj
      cases hj
      exact ⟨by rw [hg]; exact h.below.size, hn⟩
    | succ j =>
      rw [List.getElem?_cons_succ] at hj
      exact ⟨(h.here j g' cs' t' hj).1, blk_below (h.here j g' cs' t' hj).2 hb⟩
theorem St.put (h : St w0 w L) (j : Nat) (hj : L[j]? = some (g, cs, t)) (hn : w1.heap[g]? = some (.cells cs' t (0, 0))) (hk : Kept w w1 (fun k => k = g)) (hb : ∀ B w0, Below B w0 w → B ≤ g → Below B w0 w1) : St w0 w1 (L.set j (g, cs', t)) := by
  have hlt := (List.getElem?_eq_some_iff.1 hj).1
  have hm : (L.set j (g, cs', t)).map (fun x => x.1) = L.map (fun x => x.1) := by
    rw [List.map_set]
    apply List.ext_getElem?
    intro i
    rw [List.getElem?_set]
    split
    · rename_i e
      subst e
      rw [if_pos (by simpa using hlt), List.getElem?_map, hj]; rfl
    · rfl
  refine ⟨hb _ _ h.below (h.here j g cs t hj).1, by rw [hm]; exact h.apart, fun i g' c' t' hi => ?_⟩
  rw [List.getElem?_set] at hi
  by_cases e : j = i
  · subst e
    rw [if_pos rfl, if_pos hlt] at hi
    cases hi
    exact ⟨(h.here j g cs t hj).1, hn⟩
  · rw [if_neg e] at hi
    refine ⟨(h.here i g' c' t' hi).1, blk_kept (h.here i g' c' t' hi).2 hk (fun hg => e ?_)⟩
    have h1 : (L.map (fun x => x.1))[i]? = some g := by rw [List.getElem?_map, hi]; simpa using hg
    have h2 : (L.map (fun x => x.1))[j]? = some g := by rw [List.getElem?_map, hj]; rfl
    have hl : j < (L.map (fun x => x.1)).length := by simpa using hlt
    exact ((List.getElem?_inj hl h.apart).1 (h2.trans h1.symm))
theorem St.kept {S : Nat → Prop} (h : St w0 w L) (hk : Kept w w1 S) (hs : ∀ k, k ∈ L.map (fun x => x.1) → ¬ S k) (hb : Below w0.heap.size w0 w1) : St w0 w1 L :=
  ⟨hb, h.apart, fun j g cs t hj => ⟨(h.here j g cs t hj).1, blk_kept (h.here j g cs t hj).2 hk (hs g (List.mem_map.2 ⟨_, List.mem_of_getElem? hj, rfl⟩))⟩⟩
theorem St.drew (h : St w0 w L) : St w0 w.drew L := h.call (below_drew (Below.refl _ _))
theorem St.cell (h : St w0 w L) (j : Nat) (hj : L[j]? = some (g, cs, t)) (i : Nat) : w.cell? ⟨g, i, none⟩ = cs[i]? := blk_cell (h.at_ j hj) i
end
end Go.Proofs.YtofkbjmbohgikaaDoorW.PrintWords

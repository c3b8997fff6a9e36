/- Words of this session for the rows of laws over structs, slices of structs and slices of slices: what can be read as data reads as a value of its kind (Kd.K), for any nesting. -/
import Derived.Deep.Slices
import Derived.ChangeSlices
import Derived.Test.YtidblealnaicpaaTFEMWWords
import Derived.Test.YtidblealnaicpaaTFEMWMore
import Derived.Test.YtidblealnaicpaaTFEMWSized
namespace Go.Proofs.Ytidblealnaicpaa.Q
open Go Go.ChangeShapes Go.WideShapes Go.Deep Go.RowKit Go.Proofs.YtidblealnaicpaaW.PrintWords Go.Proofs.YtidblealnaicpaaW.PrintMore

/-- Whatever reads as data of type t is told by a value of the kind d that meets ok. -/
def OpenK (P : Program) (t : TypeId) {α : Type} (d : Kd α) (ok : α → Prop) : Prop :=
  ∀ (H : Type) (enc : TypeId × Value → H) (w : World) (base : Nat) (held : Bool) (fuel : Nat) (cs : List Value) (x : DataW H × List MemPlace),
    DataW.trod enc P w base (fun _ => true) held fuel t cs = some x → ∃ a, d.K w a cs ∧ ok a

theorem openK_int {P : Program} {t : TypeId} {k : IntKind} (ht : P.underlying t = some (.int k)) : OpenK P t (Kd.int k) (fun n => (Lit.int k n).wf = true) := by
  intro H enc w base held fuel cs x h
  obtain ⟨m, rfl, rfl, hw⟩ := DataW.trod_int ht h
  exact ⟨m, rfl, hw⟩
theorem choose_list {α : Type} {p : Nat → α → Prop} (n : Nat) : (∀ i, i < n → ∃ a, p i a) → ∃ l : List α, l.length = n ∧ ∀ i a, l[i]? = some a → p i a := by
  induction n with
  | zero => exact fun _ => ⟨[], rfl, fun i a h => by simp at h⟩
  | succ n ih =>
    intro h
    obtain ⟨l, hl, hp⟩ := ih (fun i hi => h i (by omega))
    obtain ⟨a, ha⟩ := h n (by omega)
    refine ⟨l ++ [a], by simp [hl], fun i b hb => ?_⟩
    rw [List.getElem?_append] at hb
    split at hb
    · exact hp i b hb
    · have : i = n := by
        have := (List.getElem?_eq_some_iff.1 hb).1
        simp at this
        omega
      subst this
      simp [hl] at hb
      exact hb ▸ ha
theorem openK_slice {P : Program} {t e : TypeId} {α : Type} {d : Kd α} {ok : α → Prop} (ht : P.underlying t = some (.slice e)) (hc : P.cellsOf e = d.sz) (he : OpenK P e d ok) :
    OpenK P t (Kd.slice e d) (fun xs => xs.length ≤ maxLen ∧ ∀ x ∈ xs, ok x) := by
  intro H enc w base held fuel cs x h
  rcases open_slice ht h with ⟨rfl, _⟩ | ⟨a, len, cap, m, n, D, Pl, rfl, hb, hl, hm, hmm, rfl, hx⟩
  · exact ⟨[], ⟨none, 0, rfl, Nat.le_refl _, rfl, by simp, fun hp => absurd hp (by simp)⟩, by simp [maxLen], by simp⟩
  · simp only [if_true] at hmm
    subst hmm
    have each : ∀ i, i < len → ∃ v : α, ∃ c, w.cells? base (a.add (i * P.cellsOf e)) (P.cellsOf e) = some c ∧ d.K w v c ∧ ok v := by
      intro i hi
      obtain ⟨c, h1, h2⟩ := hx i (by omega)
      obtain ⟨v, h3, h4⟩ := he H enc w base held n c _ h2
      exact ⟨v, c, h1, h3, h4⟩
    obtain ⟨l, hll, hp⟩ := choose_list _ each
    have hml : len ≤ 9223372036854775807 := by unfold maxLen at hm; omega
    refine ⟨l, ⟨some a, m, by rw [hll], by omega, by rw [hll], ?_⟩, by rw [hll]; unfold maxLen at hm ⊢; omega, fun x hx => ?_⟩
    · rw [hll]
      refine ⟨hml, fun _ => ⟨a, rfl, fun j p hj => ?_⟩⟩
      obtain ⟨c, h1, h2, _⟩ := hp j p hj
      refine ⟨c, d.K_len h2, h2, fun i u hu => ?_⟩
      obtain ⟨_, hlen, hcell⟩ := World.cells?_some h1
      have hi : i < P.cellsOf e := by have := (List.getElem?_eq_some_iff.1 hu).1; omega
      have := hcell i hi
      rw [hu] at this
      rw [← hc, ← this]
      congr 1
      unfold Addr.add
      by_cases h1 : j * P.cellsOf e = 0 <;> by_cases h2 : i = 0 <;> simp [h1, h2, Nat.add_assoc]
    · obtain ⟨i, hi⟩ := List.getElem?_of_mem hx
      obtain ⟨_, _, _, h4⟩ := hp i x hi
      exact h4
/-- The fields from cell o on. -/
def OpenFs (P : Program) (fs : List Field) (o : Nat) {α : Type} (d : Kd α) (ok : α → Prop) : Prop :=
  ∀ (H : Type) (enc : TypeId × Value → H) (w : World) (base : Nat) (held : Bool) (fuel : Nat) (cs : List Value) (xs : List (DataW H × List MemPlace)),
    cs.length = o + d.sz → fs.mapM (fun f => DataW.trod enc P w base (fun _ => true) held fuel f.type ((cs.drop f.offset).take (P.cellsOf f.type))) = some xs → ∃ a, d.K w a (cs.drop o) ∧ ok a
theorem openFs_last {P : Program} {f : Field} {o : Nat} {α : Type} {d : Kd α} {ok : α → Prop} (ho : f.offset = o) (hc : P.cellsOf f.type = d.sz) (h : OpenK P f.type d ok) : OpenFs P [f] o d ok := by
  intro H enc w base held fuel cs xs hl hm
  simp only [List.mapM_cons, List.mapM_nil] at hm
  obtain ⟨y, hy, _⟩ := Option.bind_eq_some_iff.1 hm
  rw [ho, hc, List.take_of_length_le (by simp; omega)] at hy
  exact h H enc w base held fuel _ _ hy
theorem openFs_cons {P : Program} {f : Field} {fs : List Field} {o : Nat} {α β : Type} {a : Kd α} {b : Kd β} {oka : α → Prop} {okb : β → Prop} (ho : f.offset = o) (hc : P.cellsOf f.type = a.sz)
    (h : OpenK P f.type a oka) (hs : OpenFs P fs (o + a.sz) b okb) : OpenFs P (f :: fs) o (Kd.pair a b) (fun x => oka x.1 ∧ okb x.2) := by
  intro H enc w base held fuel cs xs hl hm
  have hl' : cs.length = o + (a.sz + b.sz) := hl
  simp only [List.mapM_cons] at hm
  obtain ⟨y, hy, hm⟩ := Option.bind_eq_some_iff.1 hm
  obtain ⟨ys, hys, _⟩ := Option.bind_eq_some_iff.1 hm
  rw [ho, hc] at hy
  obtain ⟨p, hp, okp⟩ := h H enc w base held fuel _ _ hy
  obtain ⟨q, hq, okq⟩ := hs H enc w base held fuel cs ys (by omega) hys
  refine ⟨(p, q), ⟨_, _, ?_, hp, hq⟩, okp, okq⟩
  rw [← List.drop_drop, List.take_append_drop]
theorem openK_struct {P : Program} {t : TypeId} {fs : Array Field} {α β : Type} {d : Kd α} {ok : α → Prop} (f : β → α) (g : α → β) (hg : ∀ a, f (g a) = a) (ht : P.underlying t = some (.struct fs)) (hc : P.cellsOf t = d.sz) (h : OpenFs P fs.toList 0 d ok) :
    OpenK P t (Kd.iso d f) (fun x => ok (f x)) := by
  intro H enc w base held fuel cs x hx
  cases fuel with
  | zero => simp [DataW.trod] at hx
  | succ fuel =>
    unfold DataW.trod at hx
    rw [ht] at hx
    simp only at hx
    split at hx
    · rename_i hlen
      obtain ⟨ys, hys, _⟩ := Option.map_eq_some_iff.1 hx
      obtain ⟨a, ha, oka⟩ := h H enc w base held fuel cs ys (by omega) hys
      exact ⟨g a, by show d.K w (f (g a)) cs; rw [hg]; simpa using ha, by show ok (f (g a)); rw [hg]; exact oka⟩
    · cases hx
theorem openK_mono {P : Program} {t : TypeId} {α : Type} {d : Kd α} {ok ok' : α → Prop} (h : OpenK P t d ok) (hk : ∀ a, ok a → ok' a) : OpenK P t d ok' := fun H enc w base held fuel cs x hx => by
  obtain ⟨a, h1, h2⟩ := h H enc w base held fuel cs x hx
  exact ⟨a, h1, hk a h2⟩
/-- A slice argument. -/
theorem open_slice_arg {P : Program} {t e : TypeId} {α : Type} {d : Kd α} {ok : List α → Prop} (h : OpenK P t (Kd.slice e d) ok) {H : Type} {enc : TypeId × Value → H} {w : World} {base : Nat} {held : Bool} {a : Option Addr} {len cap : Nat} {x : DataW H} {ps : List MemPlace}
    (hx : DataW.Trod enc P w base (fun _ => true) held t (.slice a len cap) x ps) : ∃ xs : List α, xs.length = len ∧ len ≤ cap ∧ d.C w a len xs ∧ ok xs := by
  obtain ⟨fuel, hf⟩ := hx
  obtain ⟨xs, ⟨A, c, he, hl, hC⟩, hok⟩ := h H enc w base held fuel _ _ hf
  simp [Value.cells] at he
  obtain ⟨rfl, rfl, rfl⟩ := he
  exact ⟨xs, rfl, hl, hC, hok⟩
end Go.Proofs.Ytidblealnaicpaa.Q

/- Words of this session for the pure proofs: what holds from some number of rounds on (Ev), loops walked downwards, lists. -/
import Derived.Test.YtofkbjmbohgikaaDoorTFERCWWords
import Derived.Test.YtofkbjmbohgikaaDoorTFERCWMore
namespace Go.Proofs.YtofkbjmbohgikaaDoor.K
open Go Go.RowKit Go.Proofs.YtofkbjmbohgikaaDoorW.PrintWords Go.Proofs.YtofkbjmbohgikaaDoorW.PrintMore

theorem evpos {α : Type} {c : Prop} [Decidable c] {f g : Nat → Option α} {r : α} (hc : c) (h : Ev f r) : Ev (fun k => if c then f k else g k) r :=
  Ev.congr (fun _ => if_pos hc) h
theorem evneg {α : Type} {c : Prop} [Decidable c] {f g : Nat → Option α} {r : α} (hc : ¬ c) (h : Ev g r) : Ev (fun k => if c then f k else g k) r :=
  Ev.congr (fun _ => if_neg hc) h
theorem evlet {α β : Type} {x : Option α} {a : α} {f : Nat → α → Option β} {r : β} (hx : x = some a) (h : Ev (fun k => f k a) r) : Ev (fun k => x.bind (f k)) r :=
  Ev.congr (fun _ => by rw [hx]; rfl) h
theorem w64 {n : Int} (h0 : -9223372036854775808 ≤ n) (h1 : n ≤ 9223372036854775807) : wrap64 n = n := by unfold wrap64; omega
theorem w64s {i : Nat} (h : i ≤ 4611686018427387904) : wrap64 ((i : Int) + 1) = ((i + 1 : Nat) : Int) := by rw [w64 (by omega) (by omega)]; omega
theorem wfb {n : Int} (h : (Lit.int .u8 n).wf = true) : 0 ≤ n ∧ n ≤ 255 := by
  simp [Lit.wf, IntKind.min, IntKind.max, IntKind.signed, IntKind.bits] at h
  omega
/-- Downwards. -/
theorem down {n : Nat} {P : Nat → Prop} (hn : P n) (hs : ∀ i, i < n → P (i + 1) → P i) : P 0 := by
  have : ∀ d i, i + d = n → P i := by
    intro d
    induction d with
    | zero =>
      intro i h
      obtain rfl : i = n := by omega
      exact hn
    | succ d ih => intro i h; exact hs i (by omega) (ih (i + 1) (by omega))
  exact this n 0 (by omega)
theorem rd_nat (l : List Int) (i : Nat) : rd l (i : Int) = l.getD i 0 := by simp [rd]
theorem getD_lt {α : Type} {l : List α} {i : Nat} {d : α} (h : i < l.length) : l.getD i d = l[i] := by simp [List.getD_eq_getElem?_getD, h]
/-- The state of a list that is filled: i of its elements are told by f. -/
def fl {α : Type} (z : α) (n : Nat) (f : Nat → α) (i : Nat) : List α := (List.range n).map fun j => if j < i then f j else z
theorem fl_zero {α : Type} (z : α) (n : Nat) (f : Nat → α) : fl z n f 0 = List.replicate n z := by
  unfold fl
  apply List.ext_getElem <;> simp
theorem fl_len {α : Type} (z : α) (n : Nat) (f : Nat → α) (i : Nat) : (fl z n f i).length = n := by simp [fl]
theorem fl_set {α : Type} (z : α) (n : Nat) (f : Nat → α) (i : Nat) : (fl z n f i).set i (f i) = fl z n f (i + 1) := by
  unfold fl
  apply List.ext_getElem?
  intro j
  rw [List.getElem?_set]
  simp only [List.length_map, List.length_range, List.getElem?_map]
  by_cases hj : i = j
  · subst hj
    rw [if_pos rfl]
    by_cases hi : i < n
    · rw [if_pos hi, List.getElem?_range hi]; simp
    · rw [if_neg hi, List.getElem?_eq_none (by simp; omega)]; rfl
  · rw [if_neg hj]
    by_cases hjn : j < n
    · rw [List.getElem?_range hjn]; simp only [Option.map_some, Option.some.injEq]
      by_cases h1 : j < i
      · rw [if_pos h1, if_pos (by omega)]
      · rw [if_neg h1, if_neg (by omega)]
    · rw [List.getElem?_eq_none (by simp; omega)]; rfl
theorem fl_all {α : Type} (z : α) (n : Nat) (f : Nat → α) : fl z n f n = (List.range n).map f := by
  unfold fl
  apply List.map_congr_left
  intro j hj
  rw [if_pos (List.mem_range.1 hj)]
theorem map_range_get {α β : Type} (l : List α) (d : α) (g : α → β) : ((List.range l.length).map fun j => g (l.getD j d)) = l.map g := by
  apply List.ext_getElem <;> simp
  intro i hi
  rw [List.getElem?_eq_getElem hi]; intro _; rfl
/-- The state of a list that is written over: i of its elements are told by f, the others by g. -/
def f2 {α : Type} (n : Nat) (f g : Nat → α) (i : Nat) : List α := (List.range n).map fun j => if j < i then f j else g j
theorem f2_zero {α : Type} (l : List α) (d : α) (f : Nat → α) : f2 l.length f (fun j => l.getD j d) 0 = l := by
  have := map_range_get l d id
  simpa [f2] using this
theorem f2_len {α : Type} (n : Nat) (f g : Nat → α) (i : Nat) : (f2 n f g i).length = n := by simp [f2]
theorem f2_set {α : Type} (n : Nat) (f g : Nat → α) (i : Nat) : (f2 n f g i).set i (f i) = f2 n f g (i + 1) := by
  unfold f2
  apply List.ext_getElem?
  intro j
  rw [List.getElem?_set]
  simp only [List.length_map, List.length_range, List.getElem?_map]
  by_cases hj : i = j
  · subst hj
    rw [if_pos rfl]
    by_cases hi : i < n
    · rw [if_pos hi, List.getElem?_range hi]; simp
    · rw [if_neg hi, List.getElem?_eq_none (by simp; omega)]; rfl
  · rw [if_neg hj]
    by_cases hjn : j < n
    · rw [List.getElem?_range hjn]; simp only [Option.map_some, Option.some.injEq]
      by_cases h1 : j < i
      · rw [if_pos h1, if_pos (by omega)]
      · rw [if_neg h1, if_neg (by omega)]
    · rw [List.getElem?_eq_none (by simp; omega)]; rfl
theorem f2_all {α : Type} (n : Nat) (f g : Nat → α) : f2 n f g n = (List.range n).map f := by
  unfold f2
  apply List.map_congr_left
  intro j hj
  rw [if_pos (List.mem_range.1 hj)]
theorem range_getD {α : Type} (n : Nat) (f : Nat → α) (d : α) (i : Nat) (h : i < n) : ((List.range n).map f).getD i d = f i := by
  rw [getD_lt (by simpa using h)]; simp
theorem set_getD {α : Type} {l : List α} {i : Nat} {v d : α} (h : i < l.length) : (l.set i v).getD i d = v := by
  rw [getD_lt (by simpa using h)]; simp
/-- Two functions that from some round on answer the same. -/
def Both {α : Type} (f g : Nat → Option α) : Prop := ∃ r, Ev f r ∧ Ev g r
theorem Both.of {α : Type} {f g : Nat → Option α} {r : α} (h : Ev f r) (k : Ev g r) : Both f g := ⟨r, h, k⟩
end Go.Proofs.YtofkbjmbohgikaaDoor.K

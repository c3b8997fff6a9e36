/- Words of this session for the pure proofs: what holds from some number of rounds on (Ev), loops walked downwards, lists. -/
import Derived.Test.YtidblealnaicpaaTFSWWords
import Derived.Test.YtidblealnaicpaaTFSWMore
namespace Go.Proofs.Ytidblealnaicpaa.K
open Go Go.RowKit Go.Proofs.YtidblealnaicpaaW.PrintWords Go.Proofs.YtidblealnaicpaaW.PrintMore

theorem evpos {α : Type} {c : Prop} [Decidable c] {f g : Nat → Option α} {r : α} (hc : c) (h : Ev f r) : Ev (fun k => if c then f k else g k) r :=
  Ev.congr (fun _ => if_pos hc) h
theorem evneg {α : Type} {c : Prop} [Decidable c] {f g : Nat → Option α} {r : α} (hc : ¬ c) (h : Ev g r) : Ev (fun k => if c then f k else g k) r :=
  Ev.congr (fun _ => if_neg hc) h
theorem evlet {α β : Type} {x : Option α} {a : α} {f : Nat → α → Option β} {r : β} (hx : x = some a) (h : Ev (fun k => f k a) r) : Ev (fun k => x.bind (f k)) r :=
  Ev.congr (fun _ => by rw [hx]; rfl) h
theorem w64 {n : Int} (h0 : -9223372036854775808 ≤ n) (h1 : n ≤ 9223372036854775807) : wrap64 n = n := by unfold wrap64; omega
theorem w64s {i : Nat} (h : i ≤ 4611686018427387904) : wrap64 ((i : Int) + 1) = ((i + 1 : Nat) : Int) := by rw [w64 (by omega) (by omega)]; omega
theorem wfb {n : Int} (h : (Lit.int .u8 n).wf = true) : 0 ≤ n ∧ n ≤ 255 := by
  simp [Lit.wf, IntKind.min, IntKind.max, IntKind.signed, IntKind.bits] at h
  omega
/-- Downwards. -/
theorem down {n : Nat} {P : Nat → Prop} (hn : P n) (hs : ∀ i, i < n → P (i + 1) → P i) : P 0 := by
  have : ∀ d i, i + d = n → P i := by
    intro d
    induction d with
    | zero =>
      intro i h
      obtain rfl : i = n := by omega
      exact hn
    | succ d ih => intro i h; exact hs i (by omega) (ih (i + 1) (by omega))
  exact this n 0 (by omega)
/-- Downwards, to any place. -/
theorem down_to {n : Nat} {P : Nat → Prop} (hn : P n) (hs : ∀ i, i < n → P (i + 1) → P i) (j : Nat) (hj : j ≤ n) : P j := by
  have := down (n := n - j) (P := fun i => P (j + i)) (by rw [show j + (n - j) = n by omega]; exact hn) (fun i hi h => hs (j + i) (by omega) h)
  exact this
theorem rd_nat (l : List Int) (i : Nat) : rd l (i : Int) = l.getD i 0 := by simp [rd]
theorem getD_lt {α : Type} {l : List α} {i : Nat} {d : α} (h : i < l.length) : l.getD i d = l[i] := by simp [List.getD_eq_getElem?_getD, h]
/-- The state of a list that is filled: i of its elements are told by f. -/
def fl {α : Type} (z : α) (n : Nat) (f : Nat → α) (i : Nat) : List α := (List.range n).map fun j => if j < i then f j else z
/-- The state of a list that is written over: i of its elements are told by f, the others by g. -/
def f2 {α : Type} (n : Nat) (f g : Nat → α) (i : Nat) : List α := (List.range n).map fun j => if j < i then f j else g j
/-- Two functions that from some round on answer the same. -/
def Both {α : Type} (f g : Nat → Option α) : Prop := ∃ r, Ev f r ∧ Ev g r
theorem Both.of {α : Type} {f g : Nat → Option α} {r : α} (h : Ev f r) (k : Ev g r) : Both f g := ⟨r, h, k⟩
end Go.Proofs.Ytidblealnaicpaa.K

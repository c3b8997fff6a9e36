/- FnExactBestKind: for every step, row above and row (bytes, each list at most 1048576 long, else the law is true at once) the program's BestKind answers what the reference's answers, and writes into no argument. -/
import Derived.Test.YtmnihpedokeggaaPFnExactBestKindx4
namespace Go.Proofs.Ytmnihpedokeggaa.Pure
open Go.RowKit Go.Proofs.Ytmnihpedokeggaa.PFnExactBestKind Go.Proofs.YtmnihpedokeggaaW.PrintWords Go.Proofs.YtmnihpedokeggaaW.PrintLast Go.Proofs.YtmnihpedokeggaaW.PrintMore

theorem evpos {α : Type} {c : Prop} [Decidable c] {f g : Nat → Option α} {r : α} (hc : c) (h : Ev f r) : Ev (fun k => if c then f k else g k) r :=
  Ev.congr (fun _ => if_pos hc) h
theorem evneg {α : Type} {c : Prop} [Decidable c] {f g : Nat → Option α} {r : α} (hc : ¬ c) (h : Ev g r) : Ev (fun k => if c then f k else g k) r :=
  Ev.congr (fun _ => if_neg hc) h
theorem evval {α : Type} {c : Prop} [Decidable c] {x y : α} : Ev (fun _ => if c then some x else some y) (if c then x else y) := by
  by_cases h : c
  · exact Ev.congr (fun _ => by rw [if_pos h, if_pos h]) (Ev.now _)
  · exact Ev.congr (fun _ => by rw [if_neg h, if_neg h]) (Ev.now _)
theorem evlet {α β : Type} {x : Option α} {a : α} {f : Nat → α → Option β} {r : β} (hx : x = some a) (h : Ev (fun k => f k a) r) : Ev (fun k => x.bind (f k)) r :=
  Ev.congr (fun _ => by rw [hx]; rfl) h
theorem w64 {n : Int} (h0 : -9223372036854775808 ≤ n) (h1 : n ≤ 9223372036854775807) : wrap64 n = n := by unfold wrap64; omega
theorem w64s {i : Nat} (h : i ≤ 4611686018427387904) : wrap64 ((i : Int) + 1) = ((i + 1 : Nat) : Int) := by rw [w64 (by omega) (by omega)]; omega
/-- Downwards. -/
theorem down {n : Nat} {P : Nat → Prop} (hn : P n) (hs : ∀ i, i < n → P (i + 1) → P i) : P 0 := by
  have : ∀ d i, i + d = n → P i := by
    intro d
    induction d with
    | zero => intro i h; obtain rfl : i = n := by omega
              exact hn
    | succ d ih => intro i h; exact hs i (by omega) (ih (i + 1) (by omega))
  exact this n 0 (by omega)
theorem rd_nat (l : List Int) (i : Nat) : rd l (i : Int) = l.getD i 0 := by simp [rd]
theorem getD_lt {α : Type} {l : List α} {i : Nat} {d : α} (h : i < l.length) : l.getD i d = l[i] := by simp [List.getD_eq_getElem?_getD, h]
/-- the state of a copy -/
def cp {α : Type} (z : α) (l : List α) (i : Nat) : List α := l.take i ++ List.replicate (l.length - i) z
theorem cp_zero {α : Type} (z : α) (l : List α) : cp z l 0 = List.replicate l.length z := by simp [cp]
theorem cp_all {α : Type} (z : α) (l : List α) : cp z l l.length = l := by simp [cp]
theorem cp_len {α : Type} (z : α) (l : List α) (i : Nat) (h : i ≤ l.length) : (cp z l i).length = l.length := by simp [cp]; omega
theorem cp_set {α : Type} (z : α) (l : List α) (i : Nat) (h : i < l.length) : (cp z l i).set i l[i] = cp z l (i + 1) := by
  unfold cp
  apply List.ext_getElem?
  intro j
  rw [List.getElem?_set]
  simp only [List.length_append, List.length_take, List.length_replicate, List.getElem?_append, List.getElem?_take, List.getElem?_replicate]
  split
  · rename_i h1; subst h1; split
    · rw [if_pos (by omega), if_pos (by omega)]; simp
    · omega
  · by_cases hj : j < i
    · rw [if_pos (by omega), if_pos (by omega), if_pos (by omega), if_pos (by omega)]
    · rw [if_neg (by omega)]
      by_cases hj2 : j < l.length
      · rw [if_pos (by omega), if_neg (by omega), if_pos (by omega)]
      · rw [if_neg (by omega), if_neg (by omega), if_neg (by omega)]
def Byt (l : List Int) : Prop := ∀ x ∈ l, 0 ≤ x ∧ x ≤ 255
theorem Byt.of {l : List Int} (h : ∀ x ∈ l, (Lit.int .u8 x).wf = true) : Byt l := fun x hx => by
  have := h x hx
  simp [Lit.wf, IntKind.min, IntKind.max, IntKind.signed, IntKind.bits] at this
  omega
theorem Byt.getD {l : List Int} (h : Byt l) (i : Nat) : 0 ≤ l.getD i 0 ∧ l.getD i 0 ≤ 255 := by
  by_cases hi : i < l.length
  · rw [getD_lt hi]; exact h _ (List.getElem_mem hi)
  · rw [List.getD_eq_getElem?_getD, List.getElem?_eq_none (by omega)]; simp
theorem Byt.rd {l : List Int} (h : Byt l) (i : Int) : 0 ≤ rd l i ∧ rd l i ≤ 255 := h.getD _

theorem toByteS (l : List Int) (hl : l.length ≤ 1048576) : Ev (fun k => laws_toByteS.f k l) l := by
  refine evpos (by omega) (evpos (by omega) ?_)
  have := down (n := l.length) (P := fun i => Ev (fun k => laws_toByteS.l0 k l (cp 0 l i) (i : Int)) l) ?_ ?_
  · rw [cp_zero] at this; exact this
  · refine Ev.step (fun k => rfl) (evneg (by omega) ?_)
    rw [cp_all]; exact Ev.now _
  · intro i hi h
    refine Ev.step (fun k => rfl) (evpos (by omega) (evpos (by omega) (evpos (by rw [cp_len _ _ _ (by omega)]; omega) ?_)))
    rw [w64s (by omega), rd_nat, getD_lt hi, Int.toNat_natCast, cp_set _ _ _ hi]
    exact h
theorem eqByteS_same (l : List Int) (hl : l.length ≤ 1048576) : Ev (fun k => laws_eqByteS.f k l l) true := by
  refine evpos rfl ?_
  refine down (n := l.length) (P := fun i => Ev (fun k => laws_eqByteS.l0 k l l (i : Int)) true) ?_ ?_
  · exact Ev.step (fun k => rfl) (evneg (by omega) (Ev.now _))
  · intro i hi h
    refine Ev.step (fun k => rfl) (evpos (by omega) (evpos (by omega) (evpos (by omega) (evpos rfl ?_))))
    rw [w64s (by omega)]; exact h

/-- what a filter takes off -/
def gs (kind a b c : Int) : Int :=
  if kind = 1 then a else if kind = 2 then b else if kind = 3 then (a + b) / 2 else if kind = 4 then
    (let g := a + b - c
     let x := if g - a < 0 then -(g - a) else g - a
     let y := if g - b < 0 then -(g - b) else g - b
     let z := if g - c < 0 then -(g - c) else g - c
     if x ≤ y ∧ x ≤ z then a else if y ≤ z then b else c) else 0
theorem abs_some (n : Int) (h0 : -100000 ≤ n) (h1 : n ≤ 100000) : spec_l4Abs.f n = some (if n < 0 then -n else n) := by
  unfold spec_l4Abs.f
  split
  · rw [w64 (by omega) (by omega)]
  · rfl
theorem away_some (a b : Int) (h0 : -100000 ≤ a - b) (h1 : a - b ≤ 100000) : impl_away.f a b = some (if a - b < 0 then -(a - b) else a - b) := by
  unfold impl_away.f mx
  rw [w64 (by omega) (by omega), w64 (by omega) (by omega)]
  congr 1
  split <;> split <;> omega
theorem guess_spec (kind a b c : Int) (ha : 0 ≤ a ∧ a ≤ 255) (hb : 0 ≤ b ∧ b ≤ 255) (hc : 0 ≤ c ∧ c ≤ 255) : Ev (fun k => spec_l4Guess.f k kind a b c) (gs kind a b c) := by
  unfold gs
  by_cases h1 : kind = 1
  · rw [if_pos h1]; exact evpos h1 (Ev.now _)
  rw [if_neg h1]; refine evneg h1 ?_
  by_cases h2 : kind = 2
  · rw [if_pos h2]; exact evpos h2 (Ev.now _)
  rw [if_neg h2]; refine evneg h2 ?_
  by_cases h3 : kind = 3
  · rw [if_pos h3]; refine evpos h3 ?_
    rw [w64 (n := a + b) (by omega) (by omega), Int.tdiv_eq_ediv_of_nonneg (by omega), w64 (by omega) (by omega)]
    exact Ev.now _
  rw [if_neg h3]; refine evneg h3 ?_
  by_cases h4 : kind = 4
  · rw [if_pos h4]; refine evpos h4 ?_
    rw [w64 (n := a + b) (by omega) (by omega), w64 (n := a + b - c) (by omega) (by omega), w64 (n := a + b - c - a) (by omega) (by omega), w64 (n := a + b - c - b) (by omega) (by omega), w64 (n := a + b - c - c) (by omega) (by omega)]
    refine evlet (abs_some _ (by omega) (by omega)) (evlet (abs_some _ (by omega) (by omega)) (evlet (abs_some _ (by omega) (by omega)) ?_))
    dsimp only
    generalize (if a + b - c - a < 0 then -(a + b - c - a) else a + b - c - a) = x
    generalize (if a + b - c - b < 0 then -(a + b - c - b) else a + b - c - b) = y
    generalize (if a + b - c - c < 0 then -(a + b - c - c) else a + b - c - c) = z
    by_cases hxy : x ≤ y
    · refine evpos hxy (Ev.step (fun k => rfl) ?_)
      by_cases hxz : x ≤ z
      · rw [if_pos ⟨hxy, hxz⟩]; exact evpos (by simpa using hxz) (Ev.now _)
      · rw [show (if x ≤ y ∧ x ≤ z then a else if y ≤ z then b else c) = (if y ≤ z then b else c) from if_neg (by omega)]; refine evneg (by simpa using hxz) ?_
        exact evval
    · refine evneg hxy (Ev.step (fun k => rfl) ?_)
      rw [show (if x ≤ y ∧ x ≤ z then a else if y ≤ z then b else c) = (if y ≤ z then b else c) from if_neg (by omega)]
      exact evval
  rw [if_neg h4]; exact evneg h4 (Ev.now _)
/-- the byte step ahead of i, 0 where there is none -/
def back (l : List Int) (step : Int) (i : Nat) : Int := if (i : Int) ≥ step then l.getD ((i : Int) - step).toNat 0 else 0
theorem back_byt {l : List Int} (h : Byt l) (step : Int) (i : Nat) : 0 ≤ back l step i ∧ back l step i ≤ 255 := by
  unfold back; split
  · exact h.getD _
  · omega
theorem at_back {l : List Int} (h : Byt l) {step : Int} (hs : 1 ≤ step ∧ step ≤ 8) {i : Nat} (hi : i ≤ 4096) : spec_l4At.f l (wrap64 ((i : Int) - step)) = some (back l step i) := by
  rw [w64 (by omega) (by omega)]
  unfold spec_l4At.f back
  by_cases h0 : (i : Int) - step < 0
  · rw [if_pos h0, if_neg (by omega)]
  · rw [if_neg h0]
    rw [if_pos (by omega : (i : Int) ≥ step)]
    by_cases h1 : (i : Int) - step ≥ (l.length : Int)
    · rw [if_pos h1, List.getD_eq_getElem?_getD, List.getElem?_eq_none (by omega)]; rfl
    · have := h.getD ((i : Int) - step).toNat
      rw [if_neg h1, if_pos (by omega), if_pos (by omega)]; unfold rd; rw [w64 (by omega) (by omega)]
theorem at_here {l : List Int} (h : Byt l) {i : Nat} : spec_l4At.f l (i : Int) = some (l.getD i 0) := by
  unfold spec_l4At.f
  rw [if_neg (by omega)]
  by_cases h1 : (i : Int) ≥ (l.length : Int)
  · rw [if_pos h1, List.getD_eq_getElem?_getD, List.getElem?_eq_none (by omega)]; rfl
  · have := h.getD i
    rw [if_neg h1, if_pos (by omega), if_pos (by omega), rd_nat, w64 (by omega) (by omega)]
theorem gs_byt (kind a b c : Int) (ha : 0 ≤ a ∧ a ≤ 255) (hb : 0 ≤ b ∧ b ≤ 255) (hc : 0 ≤ c ∧ c ≤ 255) : 0 ≤ gs kind a b c ∧ gs kind a b c ≤ 255 := by
  unfold gs
  dsimp only
  repeat' split
  all_goals omega
theorem guess_impl {kind step : Int} {above row : List Int} {i : Nat} (ha : Byt above) (hr : Byt row) (hs : 1 ≤ step ∧ step ≤ 8) (hi : i < row.length) (hl : row.length ≤ 4096) (hab : above.length = 0 ∨ above.length = row.length) :
    Ev (fun k => impl_guess.f k kind step above row (i : Int)) (gs kind (back row step i) (above.getD i 0) (back above step i)) := by
  have j1 : ∀ a b c : Int, 0 ≤ a ∧ a ≤ 255 → 0 ≤ b ∧ b ≤ 255 → 0 ≤ c ∧ c ≤ 255 → Ev (fun k => impl_guess.j1 k kind a b c) (gs kind a b c) := by
    intro a b c ha hb hc
    refine Ev.step (fun k => rfl) ?_
    unfold gs
    by_cases h1 : kind = 1
    · rw [if_pos h1]; refine evpos h1 ?_; rw [Int.emod_eq_of_lt (by omega) (by omega)]; exact Ev.now _
    rw [if_neg h1]; refine evneg h1 ?_
    by_cases h2 : kind = 2
    · rw [if_pos h2]; refine evpos h2 ?_; rw [Int.emod_eq_of_lt (by omega) (by omega)]; exact Ev.now _
    rw [if_neg h2]; refine evneg h2 ?_
    by_cases h3 : kind = 3
    · rw [if_pos h3]; refine evpos h3 ?_
      rw [w64 (n := a + b) (by omega) (by omega), Int.tdiv_eq_ediv_of_nonneg (by omega), w64 (by omega) (by omega), Int.emod_eq_of_lt (by omega) (by omega)]
      exact Ev.now _
    rw [if_neg h3]; refine evneg h3 ?_
    by_cases h4 : kind = 4
    · rw [if_pos h4]; refine evpos h4 ?_
      rw [w64 (n := a + b) (by omega) (by omega), w64 (n := a + b - c) (by omega) (by omega)]
      refine evlet (away_some _ _ (by omega) (by omega)) (evlet (away_some _ _ (by omega) (by omega)) ?_)
      have e1 := away_some (a + b - c) a (by omega) (by omega)
      have e2 := away_some (a + b - c) b (by omega) (by omega)
      have e3 := away_some (a + b - c) c (by omega) (by omega)
      dsimp only
      generalize (if a + b - c - a < 0 then -(a + b - c - a) else a + b - c - a) = x at e1 ⊢
      generalize (if a + b - c - b < 0 then -(a + b - c - b) else a + b - c - b) = y at e2 ⊢
      generalize (if a + b - c - c < 0 then -(a + b - c - c) else a + b - c - c) = z at e3 ⊢
      by_cases hxy : x ≤ y
      · refine evpos hxy (evlet e1 (evlet e3 (Ev.step (fun k => rfl) ?_)))
        by_cases hxz : x ≤ z
        · rw [if_pos ⟨hxy, hxz⟩]; refine evpos (by simpa using hxz) ?_; rw [Int.emod_eq_of_lt (by omega) (by omega)]; exact Ev.now _
        · rw [show (if x ≤ y ∧ x ≤ z then a else if y ≤ z then b else c) = (if y ≤ z then b else c) from if_neg (by omega)]; refine evneg (by simpa using hxz) (evlet e2 (evlet e3 ?_))
          rw [Int.emod_eq_of_lt (a := b) (by omega) (by omega), Int.emod_eq_of_lt (a := c) (by omega) (by omega)]; exact evval
      · rw [show (if x ≤ y ∧ x ≤ z then a else if y ≤ z then b else c) = (if y ≤ z then b else c) from if_neg (by omega)]
        refine evneg hxy (Ev.step (f := fun _ => if y ≤ z then some (b % 256) else some (c % 256)) (fun k => by simp only [impl_guess.j2, e2, e3, Option.bind_some, Bool.false_eq_true, if_false]) ?_)
        rw [Int.emod_eq_of_lt (a := b) (by omega) (by omega), Int.emod_eq_of_lt (a := c) (by omega) (by omega)]; exact evval
    rw [if_neg h4]; exact evneg h4 (Ev.now _)
  have j0 : ∀ a : Int, 0 ≤ a ∧ a ≤ 255 → Ev (fun k => impl_guess.j0 k kind step above (i : Int) a 0 0) (gs kind a (above.getD i 0) (back above step i)) := by
    intro a h0
    have hb := ha.getD i
    refine Ev.step (fun k => rfl) ?_
    rcases hab with h | h
    · refine evneg (by omega) ?_
      have e1 : above.getD i 0 = 0 := by rw [List.getD_eq_getElem?_getD, List.getElem?_eq_none (by omega)]; rfl
      have e2 : back above step i = 0 := by
        unfold back; split
        · rw [List.getD_eq_getElem?_getD, List.getElem?_eq_none (by omega)]; rfl
        · rfl
      rw [e1, e2]; exact j1 a 0 0 h0 (by omega) (by omega)
    · refine evpos (by omega) (evpos (by omega) (evpos (by omega) ?_))
      rw [rd_nat, w64 (n := above.getD i 0) (by omega) (by omega)]
      by_cases hge : (i : Int) ≥ step
      · have hc := ha.getD ((i : Int) - step).toNat
        rw [w64 (n := (i : Int) - step) (by omega) (by omega)]
        refine evpos hge (evpos (by omega) (evpos (by omega) ?_))
        unfold rd back
        rw [if_pos hge, w64 (by omega) (by omega)]
        exact j1 _ _ _ h0 hb hc
      · refine evneg hge ?_
        unfold back
        rw [if_neg hge]
        exact j1 _ _ _ h0 hb (by omega)
  by_cases hge : (i : Int) ≥ step
  · have hc := hr.getD ((i : Int) - step).toNat
    refine evpos hge ?_
    rw [w64 (n := (i : Int) - step) (by omega) (by omega)]
    refine evpos (by omega) (evpos (by omega) ?_)
    unfold rd
    rw [w64 (by omega) (by omega)]
    have := j0 (row.getD ((i : Int) - step).toNat 0) hc
    unfold back at this ⊢
    rw [if_pos hge]; exact this
  · refine evneg hge ?_
    have := j0 0 (by omega)
    unfold back at this ⊢
    rw [if_neg hge (c := (i : Int) ≥ step)]; exact this

theorem rowOk (kind step : Int) (above row : List Int) : (spec_l4FilterOk.f kind step above row = some true ∧ impl_goodRow.f kind step above row = some true ∧ 0 ≤ kind ∧ kind ≤ 4 ∧ 1 ≤ step ∧ step ≤ 8 ∧ row.length ≤ 4096 ∧ (above.length = 0 ∨ above.length = row.length)) ∨
    (spec_l4FilterOk.f kind step above row = some false ∧ impl_goodRow.f kind step above row = some false ∧ ¬ (0 ≤ kind ∧ kind ≤ 4 ∧ 1 ≤ step ∧ step ≤ 8 ∧ row.length ≤ 4096 ∧ (above.length = 0 ∨ above.length = row.length))) := by
  unfold spec_l4FilterOk.f impl_goodRow.f
  by_cases h : 0 ≤ kind ∧ kind ≤ 4 ∧ 1 ≤ step ∧ step ≤ 8 ∧ row.length ≤ 4096 ∧ (above.length = 0 ∨ above.length = row.length)
  · left
    obtain ⟨h1, h2, h3, h4, h5, h6⟩ := h
    have e : (if (above.length : Int) = 0 then some true else some ((above.length : Int) == (row.length : Int))) = some true := by
      split
      · rfl
      · rw [show above.length = row.length by omega]; simp
    rw [if_pos h1, if_pos h2, if_pos h3, if_pos h4, if_pos (by omega), e]
    exact ⟨rfl, rfl, h1, h2, h3, h4, h5, h6⟩
  · right
    have e : (if kind ≥ 0 then (if kind ≤ 4 then (if step ≥ 1 then (if step ≤ 8 then (if (row.length : Int) ≤ 4096 then (if (above.length : Int) = 0 then (some true) else (some ((above.length : Int) == (row.length : Int)))) else (some false)) else (some false)) else (some false)) else (some false)) else (some false)) = some false := by
      repeat' split
      all_goals first | rfl | (exfalso; omega) | (congr 1; rw [beq_eq_false_iff_ne]; omega)
    exact ⟨e, e, h⟩
/-- both do, to the same list of bytes -/
theorem filter_both (kind step : Int) (above row : List Int) (ha : Byt above) (hr : Byt row) (hk : 0 ≤ kind ∧ kind ≤ 4 ∧ 1 ≤ step ∧ step ≤ 8 ∧ row.length ≤ 4096 ∧ (above.length = 0 ∨ above.length = row.length)) :
    ∃ r, Ev (fun k => spec_FilterRow.f k kind step above row) r ∧ Ev (fun k => impl_FilterRow.f k kind step above row) r ∧ Byt r ∧ r.length = row.length := by
  obtain ⟨k0, k1, s0, s1, hl, hab⟩ := hk
  have ok : spec_l4FilterOk.f kind step above row = some true ∧ impl_goodRow.f kind step above row = some true := by
    rcases rowOk kind step above row with h | h
    · exact ⟨h.1, h.2.1⟩
    · exact absurd ⟨k0, k1, s0, s1, hl, hab⟩ h.2.2
  have main : ∀ acc : List Int, Byt acc → acc.length = row.length → ∃ r, Ev (fun k => spec_FilterRow.l0 k kind step above row acc (row.length : Int) 0) r ∧ Ev (fun k => impl_FilterRow.l0 k kind step above row acc row (row.length : Int) 0) r ∧ Byt r ∧ r.length = row.length := by
    have := down (n := row.length) (P := fun i => ∀ acc : List Int, Byt acc → acc.length = row.length → ∃ r, Ev (fun k => spec_FilterRow.l0 k kind step above row acc (row.length : Int) (i : Int)) r ∧ Ev (fun k => impl_FilterRow.l0 k kind step above row acc row (row.length : Int) (i : Int)) r ∧ Byt r ∧ r.length = row.length) ?_ ?_
    · exact this
    · intro acc hb hl
      exact ⟨acc, Ev.step (fun k => rfl) (evneg (by omega) (Ev.now _)), Ev.step (fun k => rfl) (evneg (by omega) (Ev.now _)), hb, hl⟩
    · intro i hi ih acc hb hacc
      have hg := gs_byt kind (back row step i) (above.getD i 0) (back above step i) (back_byt hr _ _) (ha.getD i) (back_byt ha _ _)
      obtain ⟨r, h1, h2, h3⟩ := ih (acc.set i ((rd row (i : Int) - gs kind (back row step i) (above.getD i 0) (back above step i)) % 256)) (by
        intro x hx
        rcases List.mem_or_eq_of_mem_set hx with h | h
        · exact hb x h
        · subst h; omega) (by simpa using hacc)
      refine ⟨r, ?_, ?_, h3⟩
      · refine Ev.step (fun k => rfl) (evpos (by omega) (evpos (by omega) (evpos (by omega) ?_)))
        refine evlet (at_back hr ⟨s0, s1⟩ (by omega)) (evlet (at_here ha) (evlet (at_back ha ⟨s0, s1⟩ (by omega)) ?_))
        refine Ev.bind (guess_spec kind _ _ _ (back_byt hr _ _) (ha.getD i) (back_byt ha _ _)) (evpos (by omega) ?_)
        rw [w64s (by omega), Int.toNat_natCast, Int.emod_eq_of_lt (b := 256) hg.1 (by omega)]
        exact h1
      · refine Ev.step (fun k => rfl) (evpos (by omega) (evpos (by omega) (evpos (by omega) ?_)))
        refine Ev.bind (guess_impl ha hr ⟨s0, s1⟩ hi hl hab) (evpos (by omega) ?_)
        rw [w64s (by omega), Int.toNat_natCast]
        exact h2
  obtain ⟨r, h1, h2, h3⟩ := main (List.replicate row.length 0) (by intro x hx; obtain rfl := List.eq_of_mem_replicate hx; omega) (by simp)
  refine ⟨r, evlet ok.1 (evpos rfl (evpos (by omega) (evpos (by omega) ?_))), evlet ok.2 (evpos rfl (evpos (by omega) (evpos (by omega) ?_))), h3⟩
  · exact h1
  · exact h2
theorem best_both (step : Int) (above row : List Int) (ha : Byt above) (hr : Byt row) :
    ∃ r, Ev (fun k => spec_BestKind.f k step above row) r ∧ Ev (fun k => impl_BestKind.f k step above row) r := by
  rcases rowOk 0 step above row with ⟨o1, o2, h⟩ | ⟨o1, o2, _⟩
  case inr => exact ⟨-1, evlet o1 (evneg (by simp) (Ev.now _)), evlet o2 (evneg (by simp) (Ev.now _))⟩
  have main := down (n := 5) (P := fun i => ∀ x7 x8 : Int, ∃ r, Ev (fun k => spec_BestKind.l0 k step above row x7 x8 (i : Int)) r ∧ Ev (fun k => impl_BestKind.l0 k step above row x7 x8 (i : Int)) r) ?_ ?_
  · obtain ⟨r, h1, h2⟩ := main 0 (-1)
    exact ⟨r, evlet o1 (evpos rfl h1), evlet o2 (evpos rfl h2)⟩
  · intro x7 x8
    exact ⟨x7, Ev.step (f := fun _ => some x7) (fun k => by simp only [spec_BestKind.l0]; rw [if_neg (by omega)]) (Ev.now _), Ev.step (f := fun _ => some x7) (fun k => by simp only [impl_BestKind.l0]; rw [if_neg (by omega)]) (Ev.now _)⟩
  · intro i hi ih x7 x8
    obtain ⟨f, f1, f2, fb, fl⟩ := filter_both (i : Int) step above row ha hr ⟨by omega, by omega, h.2.2⟩
    have inner := down (n := f.length) (P := fun j => ∀ x10 : Int, ∃ r, Ev (fun k => spec_BestKind.l1 k step above row x7 x8 (i : Int) x10 f (f.length : Int) (j : Int)) r ∧ Ev (fun k => impl_BestKind.l1 k step above row x7 x8 (i : Int) x10 (i : Int) f (f.length : Int) (j : Int)) r) ?_ ?_
    · obtain ⟨r, h1, h2⟩ := inner 0
      exact ⟨r, Ev.step (fun k => rfl) (evpos (by omega) (Ev.bind f1 h1)), Ev.step (fun k => rfl) (evpos (by omega) (Ev.bind f2 h2))⟩
    · intro x10
      by_cases c : x8 < 0
      · obtain ⟨r, h1, h2⟩ := ih (i : Int) x10
        exact ⟨r, Ev.step (fun k => rfl) (evneg (by omega) (evpos c (by rw [w64s (by omega)]; exact h1))), Ev.step (fun k => rfl) (evneg (by omega) (evpos c (by rw [w64s (by omega)]; exact h2)))⟩
      by_cases c2 : x10 < x8
      · obtain ⟨r, h1, h2⟩ := ih (i : Int) x10
        exact ⟨r, Ev.step (fun k => rfl) (evneg (by omega) (evneg c (evpos c2 (by rw [w64s (by omega)]; exact h1)))), Ev.step (fun k => rfl) (evneg (by omega) (evneg c (evpos c2 (by rw [w64s (by omega)]; exact h2))))⟩
      · obtain ⟨r, h1, h2⟩ := ih x7 x8
        exact ⟨r, Ev.step (fun k => rfl) (evneg (by omega) (evneg c (evneg c2 (by rw [w64s (by omega)]; exact h1)))), Ev.step (fun k => rfl) (evneg (by omega) (evneg c (evneg c2 (by rw [w64s (by omega)]; exact h2))))⟩
    · intro j hj ihj x10
      have hb := fb.rd (j : Int)
      obtain ⟨r, h1, h2⟩ := ihj (wrap64 (x10 + (if rd f (j : Int) > 127 then 256 - rd f (j : Int) else rd f (j : Int))))
      refine ⟨r, Ev.step (fun k => rfl) (evpos (by omega) (evpos (by omega) (evpos (by omega) ?_))), Ev.step (fun k => rfl) (evpos (by omega) (evpos (by omega) (evpos (by omega) ?_)))⟩
      · by_cases c : rd f (j : Int) > 127
        · refine evpos c ?_
          rw [if_pos c] at h1
          rw [w64s (by omega), w64 (n := rd f (j : Int)) (by omega) (by omega), w64 (n := 256 - rd f (j : Int)) (by omega) (by omega)]
          exact h1
        · refine evneg c ?_
          rw [if_neg c] at h1
          rw [w64s (by omega), w64 (n := rd f (j : Int)) (by omega) (by omega)]
          exact h1
      · rw [w64s (by omega), w64 (n := rd f (j : Int)) (by omega) (by omega), w64 (n := 256 - rd f (j : Int)) (by omega) (by omega)]
        have e : mn (rd f (j : Int)) (256 - rd f (j : Int)) = (if rd f (j : Int) > 127 then 256 - rd f (j : Int) else rd f (j : Int)) := by
          unfold mn; split <;> split <;> omega
        rw [e]; exact h2
theorem FnExactBestKind : laws_FnExactBestKind.Pure := by
  intro a0 l1 l2 _ _ _ b1 _ _ b2
  refine Ev.rounds ?_
  by_cases c1 : (l1.length : Int) > 1048576
  · exact evpos c1 (Ev.now _)
  by_cases c2 : (l2.length : Int) > 1048576
  · exact evneg c1 (evpos c2 (Ev.now _))
  have t1 := toByteS l1 (by omega)
  have t2 := toByteS l2 (by omega)
  obtain ⟨r, h1, h2⟩ := best_both a0 l1 l2 (Byt.of b1) (Byt.of b2)
  exact evneg c1 (evneg c2 (Ev.bind t1 (Ev.bind t2 (Ev.bind h1 (Ev.bind t1 (Ev.bind t2 (Ev.bind h2 (evpos rfl (Ev.bind t1 (Ev.bind (eqByteS_same l1 (by omega)) (evpos rfl (Ev.bind t2 (Ev.bind (eqByteS_same l2 (by omega)) (evpos rfl (Ev.now _)))))))))))))))
end Go.Proofs.Ytmnihpedokeggaa.Pure

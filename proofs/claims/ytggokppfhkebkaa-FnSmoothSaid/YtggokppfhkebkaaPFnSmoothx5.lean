-- written by myprint.py (a program of this session's over the kit's print)
import Derived.Test.YtggokppfhkebkaaPFnSmoothx0
import Derived.Test.YtggokppfhkebkaaPFnSmoothx4
namespace Go.Proofs.Ytggokppfhkebkaa.PFnSmooth
open Go.RowKit Go.Proofs.YtggokppfhkebkaaW.PrintWords Go.Proofs.YtggokppfhkebkaaW.PrintLast Go.Proofs.YtggokppfhkebkaaW.PrintMore
attribute [local go_sem] max2_int min2_int max_two min_two max_three min_three max_four min_four   -- for this text's walks alone
set_option linter.unusedVariables false
set_option linter.unusedSimpArgs false

/-! ### impl_Smooth: function 45 -/
/-! The variables that impl.Smooth's literal holds. -/
structure EBx (u : Value) (big small most : Int) (gs ga gb gm gt : Nat) (w : World) : Prop where
  s : w.heap[gs]? = some (.cells #[u] 22 (0, 0))
  a : w.heap[ga]? = some (.cells #[.func (.func 108) #[] #[]] 125 (0, 0))
  b : w.heap[gb]? = some (.cells #[.int .i64 big] 3 (0, 0))
  m : w.heap[gm]? = some (.cells #[.int .i64 small] 3 (0, 0))
  t : w.heap[gt]? = some (.cells #[.int .i64 most] 3 (0, 0))
theorem EBx.below {u : Value} {big small most : Int} {gs ga gb gm gt : Nat} {w w1 : World} (h : EBx u big small most gs ga gb gm gt w) (hb : Below w.heap.size w w1) : EBx u big small most gs ga gb gm gt w1 := ⟨blk_below h.s hb, blk_below h.a hb, blk_below h.b hb, blk_below h.m hb, blk_below h.t hb⟩
theorem EBx.drew {u : Value} {big small most : Int} {gs ga gb gm gt : Nat} {w : World} (h : EBx u big small most gs ga gb gm gt w) : EBx u big small most gs ga gb gm gt w.drew := ⟨blk_drew h.s, blk_drew h.a, blk_drew h.b, blk_drew h.m, blk_drew h.t⟩
theorem EBx.set {u : Value} {big small most : Int} {gs ga gb gm gt : Nat} {w : World} (h : EBx u big small most gs ga gb gm gt w) (g i : Nat) (v : Value) (hn : g ≠ gs ∧ g ≠ ga ∧ g ≠ gb ∧ g ≠ gm ∧ g ≠ gt) : EBx u big small most gs ga gb gm gt (w.setCell ⟨g, i, none⟩ v) := ⟨blk_far (p := ⟨g, i, none⟩) h.s (fun e => hn.1 e.symm) v, blk_far (p := ⟨g, i, none⟩) h.a (fun e => hn.2.1 e.symm) v, blk_far (p := ⟨g, i, none⟩) h.b (fun e => hn.2.2.1 e.symm) v, blk_far (p := ⟨g, i, none⟩) h.m (fun e => hn.2.2.2.1 e.symm) v, blk_far (p := ⟨g, i, none⟩) h.t (fun e => hn.2.2.2.2 e.symm) v⟩
theorem EBx.cells {u : Value} {big small most : Int} {gs ga gb gm gt : Nat} {w : World} (h : EBx u big small most gs ga gb gm gt w) : w.cell? ⟨gs, 0, none⟩ = some u ∧ w.cell? ⟨ga, 0, none⟩ = some (.func (.func 108) #[] #[]) ∧ w.cell? ⟨gb, 0, none⟩ = some (.int .i64 big) ∧ w.cell? ⟨gm, 0, none⟩ = some (.int .i64 small) ∧ w.cell? ⟨gt, 0, none⟩ = some (.int .i64 most) := ⟨(blk_cell h.s 0).trans rfl, (blk_cell h.a 0).trans rfl, (blk_cell h.b 0).trans rfl, (blk_cell h.m 0).trans rfl, (blk_cell h.t 0).trans rfl⟩
def impl_Smooth_2.j0 : Nat → Int → Int → List Int → Int → Int → Int → Int → Int → Bool → Option (List Int)
  | 0, _, _, _, _, _, _, _, _, _ => none
  | k + 1, x0, x1, x2, x5, x9, x10, x11, x12, x61 => if x61 = true then ((impl_zclip.f (wrap64 (x10 + (mn (mx ((wrap64 ((wrap64 ((wrap64 (4 * (wrap64 (x11 - x10)))) + (wrap64 (x9 - x12)))) + 4)) / 8) (wrap64 (-x5))) x5)))).bind fun t179 => ((impl_zclip.f (wrap64 (x11 - (mn (mx ((wrap64 ((wrap64 ((wrap64 (4 * (wrap64 (x11 - x10)))) + (wrap64 (x9 - x12)))) + 4)) / 8) (wrap64 (-x5))) x5)))).bind fun t180 => (if 0 ≤ (wrap64 (x0 - x1)) then (if (wrap64 (x0 - x1)) < (x2.length : Int) then (if 0 ≤ x0 then (if x0 < (x2.length : Int) then (some ((x2.set ((wrap64 (x0 - x1)) : Int).toNat t179).set (x0 : Int).toNat t180)) else (none)) else (none)) else (none)) else (none)))) else (some x2)
def impl_Smooth_2.f (k : Nat) (a0 : Int) (a1 : Int) (l2 : List Int) (a3 : Int) (a4 : Int) (a5 : Int) : Option (List Int) := if 0 ≤ (wrap64 (a0 - (wrap64 (2 * a1)))) then (if (wrap64 (a0 - (wrap64 (2 * a1)))) < (l2.length : Int) then (if 0 ≤ (wrap64 (a0 - a1)) then (if (wrap64 (a0 - a1)) < (l2.length : Int) then (if 0 ≤ a0 then (if a0 < (l2.length : Int) then (if 0 ≤ (wrap64 (a0 + a1)) then (if (wrap64 (a0 + a1)) < (l2.length : Int) then ((impl_Smooth_1.f (wrap64 ((rd l2 a0) - (rd l2 (wrap64 (a0 - a1)))))).bind fun t176 => (if t176 < a3 then ((impl_Smooth_1.f (wrap64 ((rd l2 (wrap64 (a0 - a1))) - (rd l2 (wrap64 (a0 - (wrap64 (2 * a1)))))))).bind fun t177 => (if t177 < a4 then ((impl_Smooth_1.f (wrap64 ((rd l2 (wrap64 (a0 + a1))) - (rd l2 a0)))).bind fun t178 => (impl_Smooth_2.j0 k a0 a1 l2 a5 (rd l2 (wrap64 (a0 - (wrap64 (2 * a1))))) (rd l2 (wrap64 (a0 - a1))) (rd l2 a0) (rd l2 (wrap64 (a0 + a1))) (decide (t178 < a4)))) else (impl_Smooth_2.j0 k a0 a1 l2 a5 (rd l2 (wrap64 (a0 - (wrap64 (2 * a1))))) (rd l2 (wrap64 (a0 - a1))) (rd l2 a0) (rd l2 (wrap64 (a0 + a1))) false))) else (impl_Smooth_2.j0 k a0 a1 l2 a5 (rd l2 (wrap64 (a0 - (wrap64 (2 * a1))))) (rd l2 (wrap64 (a0 - a1))) (rd l2 a0) (rd l2 (wrap64 (a0 + a1))) false))) else (none)) else (none)) else (none)) else (none)) else (none)) else (none)) else (none)) else (none)
theorem impl_Smooth_2.mono_l : ∀ k, (∀ y0 y1 y2 y3 y4 y5 y6 y7 y8, LeO (impl_Smooth_2.j0 k y0 y1 y2 y3 y4 y5 y6 y7 y8) (impl_Smooth_2.j0 (k + 1) y0 y1 y2 y3 y4 y5 y6 y7 y8))
  | 0 => fun _ _ _ _ _ _ _ _ _ r h => by simp [impl_Smooth_2.j0] at h
  | k + 1 => by
    have ih0 := impl_Smooth_2.mono_l k
    · intro y0 y1 y2 y3 y4 y5 y6 y7 y8
      unfold impl_Smooth_2.j0
      repeat' first
      | (with_reducible exact ih0 _ _ _ _ _ _ _ _ _)
      | (with_reducible exact LeO.refl _)
      | (with_reducible exact LeO.none _)
      | (with_reducible refine LeO.ite ?_ ?_)
      | (with_reducible refine LeO.bind ?_ (fun _ => ?_))
      | exact ih0 _ _ _ _ _ _ _ _ _
      | exact LeO.none _
      | refine LeO.ite ?_ ?_
      | refine LeO.bind ?_ (fun _ => ?_)
theorem impl_Smooth_2.mono : ∀ a0 a1 a2 a3 a4 a5 k, LeO (impl_Smooth_2.f k a0 a1 a2 a3 a4 a5) (impl_Smooth_2.f (k + 1) a0 a1 a2 a3 a4 a5) := by
  intro a0 a1 a2 a3 a4 a5 k
  have ih0 := impl_Smooth_2.mono_l k
  unfold impl_Smooth_2.f
  repeat' first
      | (with_reducible exact ih0 _ _ _ _ _ _ _ _ _)
      | (with_reducible exact LeO.refl _)
      | (with_reducible exact LeO.none _)
      | (with_reducible refine LeO.ite ?_ ?_)
      | (with_reducible refine LeO.bind ?_ (fun _ => ?_))
      | exact ih0 _ _ _ _ _ _ _ _ _
      | exact LeO.none _
      | refine LeO.ite ?_ ?_
      | refine LeO.bind ?_ (fun _ => ?_)
def impl_Smooth_2.T0 : Bool × List (List Nat × List Nat) := (true, [([], []), ([], []), ([], []), ([2], [2]), ([1, 3], [1, 3]), ([0, 4], [0, 4]), ([5], [5]), ([], []), ([], []), ([], []), ([8, 9], [8, 9]), ([7, 10], [7, 10]), ([11], [11]), ([], []), ([], []), ([13, 14], [13, 14]), ([15], [15]), ([], []), ([], []), ([], []), ([18, 19], [18, 19]), ([17, 20], [17, 20]), ([21], [21]), ([6, 0, 1, 2, 3, 4, 5, 6], [6]), ([12, 23, 0, 1, 2, 3, 4, 5, 6, 7, 8, 9, 10, 11, 12, 23], [12]), ([16, 24, 0, 1, 2, 3, 4, 5, 6, 7, 8, 9, 10, 11, 12, 13, 14, 15, 16, 23, 24], [16]), ([22, 25, 0, 1, 2, 3, 4, 5, 6, 7, 8, 9, 10, 11, 12, 13, 14, 15, 16, 17, 18, 19, 20, 21, 22, 23, 24, 25], [22])])
def impl_Smooth_2.B0 : List Nat := [0, 0, 0, 4, 14, 31, 63, 0, 0, 0, 768, 1920, 3968, 0, 0, 24576, 57344, 0, 0, 0, 786432, 1966080, 4063232, 127, 8396799, 25296895, 67108863]
theorem impl_Smooth_2.tab0 : rtab .any (opsOf Try.f109 0) = impl_Smooth_2.T0 := by kernel_rfl
theorem impl_Smooth_2.bits0 : waitsOk impl_Smooth_2.T0.2 impl_Smooth_2.B0 = true := by kernel_rfl
def impl_Smooth_2.T1 : Bool × List (List Nat × List Nat) := (true, [([], []), ([], []), ([], []), ([1, 2], [1, 2]), ([0, 3], [0, 3]), ([], []), ([4, 5], [4, 5]), ([6, 4], [6]), ([7], [7]), ([7], [7]), ([7], [7]), ([9, 10, 7], [7, 9, 10]), ([8, 11, 7, 7], [7, 8, 11]), ([7], [7]), ([12, 13, 7], [7, 12, 13]), ([7, 14], [7, 14]), ([15, 12], [15]), ([16], [16]), ([16], [16]), ([16], [16]), ([18, 19, 16], [16, 18, 19]), ([17, 20, 16, 16], [16, 17, 20]), ([16], [16]), ([21, 22, 16], [16, 21, 22]), ([16, 23], [16, 23])])
def impl_Smooth_2.B1 : List Nat := [0, 0, 0, 6, 15, 0, 63, 127, 255, 255, 255, 1791, 4095, 255, 16383, 32767, 65535, 131071, 131071, 131071, 917503, 2097151, 131071, 8388607, 16777215]
theorem impl_Smooth_2.tab1 : rtab .any (opsOf Try.f109 1) = impl_Smooth_2.T1 := by kernel_rfl
theorem impl_Smooth_2.bits1 : waitsOk impl_Smooth_2.T1.2 impl_Smooth_2.B1 = true := by kernel_rfl
def impl_Smooth_2.T3 : Bool × List (List Nat × List Nat) := (true, [([], []), ([], []), ([], []), ([1, 2], [1, 2]), ([], []), ([], []), ([], []), ([], []), ([6, 7], [6, 7]), ([8], [8]), ([], []), ([], []), ([10, 11], [10, 11]), ([12, 9], [12]), ([0, 3, 0, 1, 2, 3, 6, 7, 8, 9, 13], [0, 3]), ([14, 9, 13, 0, 1, 2, 3, 6, 7, 8, 9, 13], [9, 14]), ([4, 5, 0, 1, 2, 3, 4, 5, 6, 7, 8, 9, 10, 11, 12, 13, 14, 15], [4, 5]), ([16, 13, 15, 0, 1, 2, 3, 4, 5, 6, 7, 8, 9, 10, 11, 12, 13, 14, 15], [13, 16])])
def impl_Smooth_2.B3 : List Nat := [0, 0, 0, 6, 0, 0, 0, 0, 192, 448, 0, 0, 3072, 8128, 16335, 32719, 65535, 131071]
theorem impl_Smooth_2.tab3 : rtab .any (opsOf Try.f109 3) = impl_Smooth_2.T3 := by kernel_rfl
theorem impl_Smooth_2.bits3 : waitsOk impl_Smooth_2.T3.2 impl_Smooth_2.B3 = true := by kernel_rfl
set_option maxHeartbeats 8000000 in
set_option maxRecDepth 100000 in
theorem impl_Smooth_2.calls (k : Nat) (a0 : Int) (a1 : Int) (P2_ : Nat → Prop) (u9000_ : Value) (l2 : List Int) (a3 : Int) (a4 : Int) (a5 : Int) (r : List Int) (w0 w : World) (gs ga gb gm gt : Nat) (hx : EBx u9000_ a3 a4 a5 gs ga gb gm gt w) (hfar : ∀ k, P2_ k → k ≠ gs ∧ k ≠ ga ∧ k ≠ gb ∧ k ≠ gm ∧ k ≠ gt) (hB : Below w0.heap.size w0 w) (ho2 : Kd.R (Kd.int .i64) 3 w w0.heap.size P2_ u9000_ l2) (h : impl_Smooth_2.f k a0 a1 l2 a3 a4 a5 = some r) :
    Calls Try.prog 109 #[.int .i64 a0, .int .i64 a1, .pointer (some ⟨gs, 0, none⟩), .pointer (some ⟨ga, 0, none⟩), .pointer (some ⟨gb, 0, none⟩), .pointer (some ⟨gm, 0, none⟩), .pointer (some ⟨gt, 0, none⟩)] w fun e w' => e = .returned (.tuple #[]) ∧ Kd.R (Kd.int .i64) 3 w' w0.heap.size (fun k_ => (P2_ k_ ∨ w.heap.size ≤ k_)) u9000_ r ∧ Below w0.heap.size w0 w' ∧ Kept w w' (fun k_ => P2_ k_) := by
  have HFAR := Aside0.mk (show ∀ k, P2_ k ∨ w.heap.size ≤ k → k ≠ gs ∧ k ≠ ga ∧ k ≠ gb ∧ k ≠ gm ∧ k ≠ gt from fun k hk => hk.elim (hfar k) (fun z => ⟨by have := blk_lt hx.s; omega, by have := blk_lt hx.a; omega, by have := blk_lt hx.b; omega, by have := blk_lt hx.m; omega, by have := blk_lt hx.t; omega⟩))
  clear hfar
  have HX := Aside0.mk hx
  clear hx
  have HO2 := Aside0.mk (show Kd.R (Kd.int .i64) 3 w w0.heap.size (fun k_ => (P2_ k_ ∨ w.heap.size ≤ k_)) u9000_ l2 from Kd.R_mono ho2 (fun k_ hk => (.inl hk)))
  have HK := Aside0.mk (Kept.refl w (fun k_ => P2_ k_))
  have HW0 := Aside0.mk hB.size
  have HB := Aside0.mk hB
  clear hB
  have H : (if 0 ≤ (wrap64 (a0 - (wrap64 (2 * a1)))) then (if (wrap64 (a0 - (wrap64 (2 * a1)))) < (l2.length : Int) then (if 0 ≤ (wrap64 (a0 - a1)) then (if (wrap64 (a0 - a1)) < (l2.length : Int) then (if 0 ≤ a0 then (if a0 < (l2.length : Int) then (if 0 ≤ (wrap64 (a0 + a1)) then (if (wrap64 (a0 + a1)) < (l2.length : Int) then ((impl_Smooth_1.f (wrap64 ((rd l2 a0) - (rd l2 (wrap64 (a0 - a1)))))).bind fun t176 => (if t176 < a3 then ((impl_Smooth_1.f (wrap64 ((rd l2 (wrap64 (a0 - a1))) - (rd l2 (wrap64 (a0 - (wrap64 (2 * a1)))))))).bind fun t177 => (if t177 < a4 then ((impl_Smooth_1.f (wrap64 ((rd l2 (wrap64 (a0 + a1))) - (rd l2 a0)))).bind fun t178 => (impl_Smooth_2.j0 k a0 a1 l2 a5 (rd l2 (wrap64 (a0 - (wrap64 (2 * a1))))) (rd l2 (wrap64 (a0 - a1))) (rd l2 a0) (rd l2 (wrap64 (a0 + a1))) (decide (t178 < a4)))) else (impl_Smooth_2.j0 k a0 a1 l2 a5 (rd l2 (wrap64 (a0 - (wrap64 (2 * a1))))) (rd l2 (wrap64 (a0 - a1))) (rd l2 a0) (rd l2 (wrap64 (a0 + a1))) false))) else (impl_Smooth_2.j0 k a0 a1 l2 a5 (rd l2 (wrap64 (a0 - (wrap64 (2 * a1))))) (rd l2 (wrap64 (a0 - a1))) (rd l2 a0) (rd l2 (wrap64 (a0 + a1))) false))) else (none)) else (none)) else (none)) else (none)) else (none)) else (none)) else (none)) else (none)) = some r := h
  clear h
  obtain ⟨ji7, hji7⟩ : ∃ j_ : Int, (wrap64 (a0 - (wrap64 (2 * a1)))) = j_ := ⟨_, rfl⟩
  replace H : (if 0 ≤ (ji7) then (if (ji7) < (l2.length : Int) then (if 0 ≤ (wrap64 (a0 - a1)) then (if (wrap64 (a0 - a1)) < (l2.length : Int) then (if 0 ≤ a0 then (if a0 < (l2.length : Int) then (if 0 ≤ (wrap64 (a0 + a1)) then (if (wrap64 (a0 + a1)) < (l2.length : Int) then ((impl_Smooth_1.f (wrap64 ((rd l2 a0) - (rd l2 (wrap64 (a0 - a1)))))).bind fun t176 => (if t176 < a3 then ((impl_Smooth_1.f (wrap64 ((rd l2 (wrap64 (a0 - a1))) - (rd l2 (ji7))))).bind fun t177 => (if t177 < a4 then ((impl_Smooth_1.f (wrap64 ((rd l2 (wrap64 (a0 + a1))) - (rd l2 a0)))).bind fun t178 => (impl_Smooth_2.j0 k a0 a1 l2 a5 (rd l2 (ji7)) (rd l2 (wrap64 (a0 - a1))) (rd l2 a0) (rd l2 (wrap64 (a0 + a1))) (decide (t178 < a4)))) else (impl_Smooth_2.j0 k a0 a1 l2 a5 (rd l2 (ji7)) (rd l2 (wrap64 (a0 - a1))) (rd l2 a0) (rd l2 (wrap64 (a0 + a1))) false))) else (impl_Smooth_2.j0 k a0 a1 l2 a5 (rd l2 (ji7)) (rd l2 (wrap64 (a0 - a1))) (rd l2 a0) (rd l2 (wrap64 (a0 + a1))) false))) else (none)) else (none)) else (none)) else (none)) else (none)) else (none)) else (none)) else (none)) = some r := by first | (rw [hji7] at H; exact H) | (simp only [hji7] at H ⊢; exact H)
  have hji7w : (IntKind.i64.wrap (a0 - (wrap64 (2 * a1)))) = ji7 := (i64_w _).trans hji7
  by_cases c8 : 0 ≤ (ji7)
  rotate_left
  · rw [if_neg c8] at H
    exact absurd H (by simp)
  rw [if_pos c8] at H
  have c8b0 : decide (0 ≤ (ji7)) = true := decide_eq_true c8
  clear c8
  by_cases c9 : (ji7) < (l2.length : Int)
  rotate_left
  · rw [if_neg c9] at H
    exact absurd H (by simp)
  rw [if_pos c9] at H
  have c9b0 : decide ((ji7) < (l2.length : Int)) = true := decide_eq_true c9
  clear c9
  obtain ⟨ji10, hji10⟩ : ∃ j_ : Int, (wrap64 (a0 - a1)) = j_ := ⟨_, rfl⟩
  replace H : (if 0 ≤ (ji10) then (if (ji10) < (l2.length : Int) then (if 0 ≤ a0 then (if a0 < (l2.length : Int) then (if 0 ≤ (wrap64 (a0 + a1)) then (if (wrap64 (a0 + a1)) < (l2.length : Int) then ((impl_Smooth_1.f (wrap64 ((rd l2 a0) - (rd l2 (ji10))))).bind fun t176 => (if t176 < a3 then ((impl_Smooth_1.f (wrap64 ((rd l2 (ji10)) - (rd l2 (ji7))))).bind fun t177 => (if t177 < a4 then ((impl_Smooth_1.f (wrap64 ((rd l2 (wrap64 (a0 + a1))) - (rd l2 a0)))).bind fun t178 => (impl_Smooth_2.j0 k a0 a1 l2 a5 (rd l2 (ji7)) (rd l2 (ji10)) (rd l2 a0) (rd l2 (wrap64 (a0 + a1))) (decide (t178 < a4)))) else (impl_Smooth_2.j0 k a0 a1 l2 a5 (rd l2 (ji7)) (rd l2 (ji10)) (rd l2 a0) (rd l2 (wrap64 (a0 + a1))) false))) else (impl_Smooth_2.j0 k a0 a1 l2 a5 (rd l2 (ji7)) (rd l2 (ji10)) (rd l2 a0) (rd l2 (wrap64 (a0 + a1))) false))) else (none)) else (none)) else (none)) else (none)) else (none)) else (none)) = some r := by first | (rw [hji10] at H; exact H) | (simp only [hji10] at H ⊢; exact H)
  have hji10w : (IntKind.i64.wrap (a0 - a1)) = ji10 := (i64_w _).trans hji10
  by_cases c11 : 0 ≤ (ji10)
  rotate_left
  · rw [if_neg c11] at H
    exact absurd H (by simp)
  rw [if_pos c11] at H
  have c11b0 : decide (0 ≤ (ji10)) = true := decide_eq_true c11
  clear c11
  by_cases c12 : (ji10) < (l2.length : Int)
  rotate_left
  · rw [if_neg c12] at H
    exact absurd H (by simp)
  rw [if_pos c12] at H
  have c12b0 : decide ((ji10) < (l2.length : Int)) = true := decide_eq_true c12
  clear c12
  by_cases c13 : 0 ≤ a0
  rotate_left
  · rw [if_neg c13] at H
    exact absurd H (by simp)
  rw [if_pos c13] at H
  have c13b0 : decide (0 ≤ a0) = true := decide_eq_true c13
  clear c13
  by_cases c14 : a0 < (l2.length : Int)
  rotate_left
  · rw [if_neg c14] at H
    exact absurd H (by simp)
  rw [if_pos c14] at H
  have c14b0 : decide (a0 < (l2.length : Int)) = true := decide_eq_true c14
  clear c14
  obtain ⟨ji15, hji15⟩ : ∃ j_ : Int, (wrap64 (a0 + a1)) = j_ := ⟨_, rfl⟩
  replace H : (if 0 ≤ (ji15) then (if (ji15) < (l2.length : Int) then ((impl_Smooth_1.f (wrap64 ((rd l2 a0) - (rd l2 (ji10))))).bind fun t176 => (if t176 < a3 then ((impl_Smooth_1.f (wrap64 ((rd l2 (ji10)) - (rd l2 (ji7))))).bind fun t177 => (if t177 < a4 then ((impl_Smooth_1.f (wrap64 ((rd l2 (ji15)) - (rd l2 a0)))).bind fun t178 => (impl_Smooth_2.j0 k a0 a1 l2 a5 (rd l2 (ji7)) (rd l2 (ji10)) (rd l2 a0) (rd l2 (ji15)) (decide (t178 < a4)))) else (impl_Smooth_2.j0 k a0 a1 l2 a5 (rd l2 (ji7)) (rd l2 (ji10)) (rd l2 a0) (rd l2 (ji15)) false))) else (impl_Smooth_2.j0 k a0 a1 l2 a5 (rd l2 (ji7)) (rd l2 (ji10)) (rd l2 a0) (rd l2 (ji15)) false))) else (none)) else (none)) = some r := by first | (rw [hji15] at H; exact H) | (simp only [hji15] at H ⊢; exact H)
  have hji15w : (IntKind.i64.wrap (a0 + a1)) = ji15 := (i64_w _).trans hji15
  by_cases c16 : 0 ≤ (ji15)
  rotate_left
  · rw [if_neg c16] at H
    exact absurd H (by simp)
  rw [if_pos c16] at H
  have c16b0 : decide (0 ≤ (ji15)) = true := decide_eq_true c16
  clear c16
  by_cases c17 : (ji15) < (l2.length : Int)
  rotate_left
  · rw [if_neg c17] at H
    exact absurd H (by simp)
  rw [if_pos c17] at H
  have c17b0 : decide ((ji15) < (l2.length : Int)) = true := decide_eq_true c17
  clear c17
  have HC18 := Aside0.mk H
  clear H
  go_enter Try.func109, Try.ntmps109
  try go_wp2
  have n0_ := Aside0.mk (Kd.R_drew HO2.out)
  have n1_ := Aside0.mk (Kept.drew HK.out)
  have n2_ := Aside0.mk (below_drew1 HB.out)
  clear HO2
  clear HK
  clear HB
  have HO2 := n0_
  have HK := n1_
  have HB := n2_
  clear n0_ n1_ n2_
  obtain ⟨Ao20, co20, eo20⟩ := Kd.R_slice HO2.out
  (first | subst eo20 | (injection eo20 with f1_ f2_ f3_; have f4_ := f1_.symm; have f5_ := f3_.symm; clear f1_ f2_ f3_; subst f4_; subst f5_))
  have p172 : 0 ≤ ((ji7) : Int) := of_decide_eq_true (by first | (with_reducible assumption) | assumption)
  have q172 : (ji7) < (l2.length : Int) := of_decide_eq_true (by first | (with_reducible assumption) | assumption)
  obtain ⟨ad172, e172, hx172_0⟩ := Kd.at_int (Kd.R_reads' HO2.out).2.2 (ji7) p172 q172
  cases e172
  replace p172 := eq_true p172
  replace q172 := eq_true q172
  have p173 : 0 ≤ ((ji10) : Int) := of_decide_eq_true (by first | (with_reducible assumption) | assumption)
  have q173 : (ji10) < (l2.length : Int) := of_decide_eq_true (by first | (with_reducible assumption) | assumption)
  obtain ⟨ad173, e173, hx173_0⟩ := Kd.at_int (Kd.R_reads' HO2.out).2.2 (ji10) p173 q173
  obtain rfl : ad172 = ad173 := (by injection e173)
  replace p173 := eq_true p173
  replace q173 := eq_true q173
  have p174 : 0 ≤ (a0 : Int) := of_decide_eq_true (by first | (with_reducible assumption) | assumption)
  have q174 : a0 < (l2.length : Int) := of_decide_eq_true (by first | (with_reducible assumption) | assumption)
  obtain ⟨ad174, e174, hx174_0⟩ := Kd.at_int (Kd.R_reads' HO2.out).2.2 a0 p174 q174
  obtain rfl : ad172 = ad174 := (by injection e174)
  replace p174 := eq_true p174
  replace q174 := eq_true q174
  have p175 : 0 ≤ ((ji15) : Int) := of_decide_eq_true (by first | (with_reducible assumption) | assumption)
  have q175 : (ji15) < (l2.length : Int) := of_decide_eq_true (by first | (with_reducible assumption) | assumption)
  obtain ⟨ad175, e175, hx175_0⟩ := Kd.at_int (Kd.R_reads' HO2.out).2.2 (ji15) p175 q175
  obtain rfl : ad172 = ad175 := (by injection e175)
  replace p175 := eq_true p175
  replace q175 := eq_true q175
  have nx_ := Aside0.mk (EBx.drew HX.out)
  clear HX
  have HX := nx_
  clear nx_
  refine start_ (n := 27) (S := fun w' => w'.cell? ⟨gs, 0, none⟩ = some (.slice (some ad172) l2.length co20) ∧ w'.cell? ⟨ga, 0, none⟩ = some (.func (.func 108) #[] #[]) ∧ w'.cell? ⟨gb, 0, none⟩ = some (.int .i64 a3) ∧ w'.cell? ⟨gm, 0, none⟩ = some (.int .i64 a4) ∧ w'.cell? ⟨gt, 0, none⟩ = some (.int .i64 a5) ∧ w'.cell? (ad172.add ((ji7)).toNat) = some (.int .i64 (rd l2 (ji7))) ∧ w'.cell? (ad172.add ((ji10)).toNat) = some (.int .i64 (rd l2 (ji10))) ∧ w'.cell? (ad172.add (a0).toNat) = some (.int .i64 (rd l2 a0)) ∧ w'.cell? (ad172.add ((ji15)).toNat) = some (.int .i64 (rd l2 (ji15)))) (ds := []) #[false, false, false, false, false, false, false, false, false, false, false, false, false, false, false, false, false, false, false, false, false, false, false, false, false, false, false] (by kernel_rfl) rfl rfl ⟨HX.out.cells.1, HX.out.cells.2.1, HX.out.cells.2.2.1, HX.out.cells.2.2.2.1, HX.out.cells.2.2.2.2, hx172_0, hx173_0, hx174_0, hx175_0⟩ (fun hHeld => ?_); refine with_tabW impl_Smooth_2.tab0 impl_Smooth_2.bits0 (fun HT_ HW_ => ?_)
  generalize w.drew = w19 at HX HO2 HK HB hx172_0 hx173_0 hx174_0 hx175_0 hHeld ⊢
  refine take_ (i := 0) (N := some 14) (v := ?_) (a' := ?_) #[true, false, false, false, false, false, false, false, false, false, false, false, false, false, false, false, false, false, false, false, false, false, false, false, false, false, false] rfl rfl (take_ofW HT_.out HW_.out (by kernel_rfl)) (fun _ _ _ h => h) (Or.inl ⟨by rfl, ?_⟩) hHeld ?_ ?_
  rotate_left
  · rintro w' ⟨x0, x1, x2, x3, x4, s0, s1, s2, s3⟩
    go_simp
    with_reducible rfl
  rotate_left
  · simp only [Act.put, List.setIfInBounds_toArray, List.set_cons_zero, List.set_cons_succ, i64_w, i32_w]
    rfl
  refine pure_ (i := 1) (N := some 15) (v := ?_) (a' := ?_) #[true, true, false, false, false, false, false, false, false, false, false, false, false, false, false, false, false, false, false, false, false, false, false, false, false, false, false] rfl rfl (any_of HT_.out (by kernel_rfl)) (fun _ _ _ h => h) (Or.inl ⟨by rfl, ?_⟩) ?_ ?_
  rotate_left
  · intro w'
    go_simp
    with_reducible rfl
  rotate_left
  · simp only [Act.put, List.setIfInBounds_toArray, List.set_cons_zero, List.set_cons_succ, i64_w, i32_w]
    rfl
  refine pure_ (i := 2) (N := some 16) (v := ?_) (a' := ?_) #[true, true, true, false, false, false, false, false, false, false, false, false, false, false, false, false, false, false, false, false, false, false, false, false, false, false, false] rfl rfl (any_of HT_.out (by kernel_rfl)) (fun _ _ _ h => h) (Or.inl ⟨by rfl, ?_⟩) ?_ ?_
  rotate_left
  · intro w'
    go_simp
    with_reducible rfl
  rotate_left
  · simp only [Act.put, List.setIfInBounds_toArray, List.set_cons_zero, List.set_cons_succ, i64_w, i32_w]
    rfl
  refine pure_ (i := 3) (N := some 17) (v := ?_) (a' := ?_) #[true, true, true, true, false, false, false, false, false, false, false, false, false, false, false, false, false, false, false, false, false, false, false, false, false, false, false] rfl rfl (any_of HT_.out (by kernel_rfl)) (fun _ _ _ h => h) (Or.inl ⟨by rfl, ?_⟩) ?_ ?_
  rotate_left
  · intro w'
    go_simp
    with_reducible rfl
  rotate_left
  · simp only [Act.put, List.setIfInBounds_toArray, List.set_cons_zero, List.set_cons_succ, i64_w, i32_w]
    rfl
  refine pure_ (i := 4) (N := some 18) (v := ?_) (a' := ?_) #[true, true, true, true, true, false, false, false, false, false, false, false, false, false, false, false, false, false, false, false, false, false, false, false, false, false, false] rfl rfl (any_of HT_.out (by kernel_rfl)) (fun _ _ _ h => h) (Or.inl ⟨by rfl, ?_⟩) ?_ ?_
  rotate_left
  · intro w'
    go_simp
    with_reducible rfl
  rotate_left
  · simp only [Act.put, List.setIfInBounds_toArray, List.set_cons_zero, List.set_cons_succ, i64_w, i32_w]
    rfl
  refine pure_ (i := 5) (N := some 19) (v := ?_) (a' := ?_) #[true, true, true, true, true, true, false, false, false, false, false, false, false, false, false, false, false, false, false, false, false, false, false, false, false, false, false] rfl rfl (any_of HT_.out (by kernel_rfl)) (fun _ _ _ h => h) (Or.inl ⟨by rfl, ?_⟩) ?_ ?_
  rotate_left
  · intro w'
    go_simp
    with_reducible rfl
  rotate_left
  · simp only [Act.put, List.setIfInBounds_toArray, List.set_cons_zero, List.set_cons_succ, i64_w, i32_w]
    rfl
  refine take_ (i := 7) (N := some 21) (v := ?_) (a' := ?_) #[true, true, true, true, true, true, false, true, false, false, false, false, false, false, false, false, false, false, false, false, false, false, false, false, false, false, false] rfl rfl (take_ofW HT_.out HW_.out (by kernel_rfl)) (fun _ _ _ h => h) (Or.inl ⟨by rfl, ?_⟩) hHeld ?_ ?_
  rotate_left
  · rintro w' ⟨x0, x1, x2, x3, x4, s0, s1, s2, s3⟩
    go_simp
    with_reducible rfl
  rotate_left
  · simp only [Act.put, List.setIfInBounds_toArray, List.set_cons_zero, List.set_cons_succ, i64_w, i32_w]
    rfl
  refine pure_ (i := 8) (N := some 22) (v := ?_) (a' := ?_) #[true, true, true, true, true, true, false, true, true, false, false, false, false, false, false, false, false, false, false, false, false, false, false, false, false, false, false] rfl rfl (any_of HT_.out (by kernel_rfl)) (fun _ _ _ h => h) (Or.inl ⟨by rfl, ?_⟩) ?_ ?_
  rotate_left
  · intro w'
    go_simp
    with_reducible rfl
  rotate_left
  · simp only [Act.put, List.setIfInBounds_toArray, List.set_cons_zero, List.set_cons_succ, i64_w, i32_w]
    rfl
  refine pure_ (i := 9) (N := some 23) (v := ?_) (a' := ?_) #[true, true, true, true, true, true, false, true, true, true, false, false, false, false, false, false, false, false, false, false, false, false, false, false, false, false, false] rfl rfl (any_of HT_.out (by kernel_rfl)) (fun _ _ _ h => h) (Or.inl ⟨by rfl, ?_⟩) ?_ ?_
  rotate_left
  · intro w'
    go_simp
    with_reducible rfl
  rotate_left
  · simp only [Act.put, List.setIfInBounds_toArray, List.set_cons_zero, List.set_cons_succ, i64_w, i32_w]
    rfl
  refine pure_ (i := 10) (N := some 24) (v := ?_) (a' := ?_) #[true, true, true, true, true, true, false, true, true, true, true, false, false, false, false, false, false, false, false, false, false, false, false, false, false, false, false] rfl rfl (any_of HT_.out (by kernel_rfl)) (fun _ _ _ h => h) (Or.inl ⟨by rfl, ?_⟩) ?_ ?_
  rotate_left
  · intro w'
    go_simp
    with_reducible rfl
  rotate_left
  · simp only [Act.put, List.setIfInBounds_toArray, List.set_cons_zero, List.set_cons_succ, i64_w, i32_w]
    rfl
  refine pure_ (i := 11) (N := some 25) (v := ?_) (a' := ?_) #[true, true, true, true, true, true, false, true, true, true, true, true, false, false, false, false, false, false, false, false, false, false, false, false, false, false, false] rfl rfl (any_of HT_.out (by kernel_rfl)) (fun _ _ _ h => h) (Or.inl ⟨by rfl, ?_⟩) ?_ ?_
  rotate_left
  · intro w'
    go_simp
    with_reducible rfl
  rotate_left
  · simp only [Act.put, List.setIfInBounds_toArray, List.set_cons_zero, List.set_cons_succ, i64_w, i32_w]
    rfl
  refine take_ (i := 13) (N := some 27) (v := ?_) (a' := ?_) #[true, true, true, true, true, true, false, true, true, true, true, true, false, true, false, false, false, false, false, false, false, false, false, false, false, false, false] rfl rfl (take_ofW HT_.out HW_.out (by kernel_rfl)) (fun _ _ _ h => h) (Or.inl ⟨by rfl, ?_⟩) hHeld ?_ ?_
  rotate_left
  · rintro w' ⟨x0, x1, x2, x3, x4, s0, s1, s2, s3⟩
    go_simp
    with_reducible rfl
  rotate_left
  · simp only [Act.put, List.setIfInBounds_toArray, List.set_cons_zero, List.set_cons_succ, i64_w, i32_w]
    rfl
  refine pure_ (i := 14) (N := some 28) (v := ?_) (a' := ?_) #[true, true, true, true, true, true, false, true, true, true, true, true, false, true, true, false, false, false, false, false, false, false, false, false, false, false, false] rfl rfl (any_of HT_.out (by kernel_rfl)) (fun _ _ _ h => h) (Or.inl ⟨by rfl, ?_⟩) ?_ ?_
  rotate_left
  · intro w'
    go_simp
    with_reducible rfl
  rotate_left
  · simp only [Act.put, List.setIfInBounds_toArray, List.set_cons_zero, List.set_cons_succ, i64_w, i32_w]
    rfl
  refine pure_ (i := 15) (N := some 29) (v := ?_) (a' := ?_) #[true, true, true, true, true, true, false, true, true, true, true, true, false, true, true, true, false, false, false, false, false, false, false, false, false, false, false] rfl rfl (any_of HT_.out (by kernel_rfl)) (fun _ _ _ h => h) (Or.inl ⟨by rfl, ?_⟩) ?_ ?_
  rotate_left
  · intro w'
    go_simp
    with_reducible rfl
  rotate_left
  · simp only [Act.put, List.setIfInBounds_toArray, List.set_cons_zero, List.set_cons_succ, i64_w, i32_w]
    rfl
  refine take_ (i := 17) (N := some 31) (v := ?_) (a' := ?_) #[true, true, true, true, true, true, false, true, true, true, true, true, false, true, true, true, false, true, false, false, false, false, false, false, false, false, false] rfl rfl (take_ofW HT_.out HW_.out (by kernel_rfl)) (fun _ _ _ h => h) (Or.inl ⟨by rfl, ?_⟩) hHeld ?_ ?_
  rotate_left
  · rintro w' ⟨x0, x1, x2, x3, x4, s0, s1, s2, s3⟩
    go_simp
    with_reducible rfl
  rotate_left
  · simp only [Act.put, List.setIfInBounds_toArray, List.set_cons_zero, List.set_cons_succ, i64_w, i32_w]
    rfl
  refine pure_ (i := 18) (N := some 32) (v := ?_) (a' := ?_) #[true, true, true, true, true, true, false, true, true, true, true, true, false, true, true, true, false, true, true, false, false, false, false, false, false, false, false] rfl rfl (any_of HT_.out (by kernel_rfl)) (fun _ _ _ h => h) (Or.inl ⟨by rfl, ?_⟩) ?_ ?_
  rotate_left
  · intro w'
    go_simp
    with_reducible rfl
  rotate_left
  · simp only [Act.put, List.setIfInBounds_toArray, List.set_cons_zero, List.set_cons_succ, i64_w, i32_w]
    rfl
  refine pure_ (i := 19) (N := some 33) (v := ?_) (a' := ?_) #[true, true, true, true, true, true, false, true, true, true, true, true, false, true, true, true, false, true, true, true, false, false, false, false, false, false, false] rfl rfl (any_of HT_.out (by kernel_rfl)) (fun _ _ _ h => h) (Or.inl ⟨by rfl, ?_⟩) ?_ ?_
  rotate_left
  · intro w'
    go_simp
    with_reducible rfl
  rotate_left
  · simp only [Act.put, List.setIfInBounds_toArray, List.set_cons_zero, List.set_cons_succ, i64_w, i32_w]
    rfl
  refine pure_ (i := 20) (N := some 34) (v := ?_) (a' := ?_) #[true, true, true, true, true, true, false, true, true, true, true, true, false, true, true, true, false, true, true, true, true, false, false, false, false, false, false] rfl rfl (any_of HT_.out (by kernel_rfl)) (fun _ _ _ h => h) (Or.inl ⟨by rfl, ?_⟩) ?_ ?_
  rotate_left
  · intro w'
    go_simp
    with_reducible rfl
  rotate_left
  · simp only [Act.put, List.setIfInBounds_toArray, List.set_cons_zero, List.set_cons_succ, i64_w, i32_w]
    rfl
  refine pure_ (i := 21) (N := some 35) (v := ?_) (a' := ?_) #[true, true, true, true, true, true, false, true, true, true, true, true, false, true, true, true, false, true, true, true, true, true, false, false, false, false, false] rfl rfl (any_of HT_.out (by kernel_rfl)) (fun _ _ _ h => h) (Or.inl ⟨by rfl, ?_⟩) ?_ ?_
  rotate_left
  · intro w'
    go_simp
    with_reducible rfl
  rotate_left
  · simp only [Act.put, List.setIfInBounds_toArray, List.set_cons_zero, List.set_cons_succ, i64_w, i32_w]
    rfl
  refine take_ (i := 6) (N := some 20) (v := ?_) (a' := ?_) #[true, true, true, true, true, true, true, true, true, true, true, true, false, true, true, true, false, true, true, true, true, true, false, false, false, false, false] rfl rfl (take_ofW HT_.out HW_.out (by kernel_rfl)) (fun _ _ _ h => h) (Or.inl ⟨by rfl, ?_⟩) hHeld ?_ ?_
  rotate_left
  · rintro w' ⟨x0, x1, x2, x3, x4, s0, s1, s2, s3⟩
    go_simp
    with_reducible rfl
  rotate_left
  · simp only [Act.put, List.setIfInBounds_toArray, List.set_cons_zero, List.set_cons_succ, i64_w, i32_w]
    rfl
  refine pure_ (i := 23) (N := some 9) (v := ?_) (a' := ?_) #[true, true, true, true, true, true, true, true, true, true, true, true, false, true, true, true, false, true, true, true, true, true, false, true, false, false, false] rfl rfl (any_of HT_.out (by kernel_rfl)) (fun _ _ _ h => h) (Or.inl ⟨by rfl, ?_⟩) ?_ ?_
  rotate_left
  · intro w'
    go_simp
    with_reducible rfl
  rotate_left
  · simp only [Act.put, List.setIfInBounds_toArray, List.set_cons_zero, List.set_cons_succ, i64_w, i32_w]
    rfl
  refine take_ (i := 12) (N := some 26) (v := ?_) (a' := ?_) #[true, true, true, true, true, true, true, true, true, true, true, true, true, true, true, true, false, true, true, true, true, true, false, true, false, false, false] rfl rfl (take_ofW HT_.out HW_.out (by kernel_rfl)) (fun _ _ _ h => h) (Or.inl ⟨by rfl, ?_⟩) hHeld ?_ ?_
  rotate_left
  · rintro w' ⟨x0, x1, x2, x3, x4, s0, s1, s2, s3⟩
    go_simp
    with_reducible rfl
  rotate_left
  · simp only [Act.put, List.setIfInBounds_toArray, List.set_cons_zero, List.set_cons_succ, i64_w, i32_w]
    rfl
  refine pure_ (i := 24) (N := some 10) (v := ?_) (a' := ?_) #[true, true, true, true, true, true, true, true, true, true, true, true, true, true, true, true, false, true, true, true, true, true, false, true, true, false, false] rfl rfl (any_of HT_.out (by kernel_rfl)) (fun _ _ _ h => h) (Or.inl ⟨by rfl, ?_⟩) ?_ ?_
  rotate_left
  · intro w'
    go_simp
    with_reducible rfl
  rotate_left
  · simp only [Act.put, List.setIfInBounds_toArray, List.set_cons_zero, List.set_cons_succ, i64_w, i32_w]
    rfl
  refine take_ (i := 16) (N := some 30) (v := ?_) (a' := ?_) #[true, true, true, true, true, true, true, true, true, true, true, true, true, true, true, true, true, true, true, true, true, true, false, true, true, false, false] rfl rfl (take_ofW HT_.out HW_.out (by kernel_rfl)) (fun _ _ _ h => h) (Or.inl ⟨by rfl, ?_⟩) hHeld ?_ ?_
  rotate_left
  · rintro w' ⟨x0, x1, x2, x3, x4, s0, s1, s2, s3⟩
    go_simp
    with_reducible rfl
  rotate_left
  · simp only [Act.put, List.setIfInBounds_toArray, List.set_cons_zero, List.set_cons_succ, i64_w, i32_w]
    rfl
  refine pure_ (i := 25) (N := some 11) (v := ?_) (a' := ?_) #[true, true, true, true, true, true, true, true, true, true, true, true, true, true, true, true, true, true, true, true, true, true, false, true, true, true, false] rfl rfl (any_of HT_.out (by kernel_rfl)) (fun _ _ _ h => h) (Or.inl ⟨by rfl, ?_⟩) ?_ ?_
  rotate_left
  · intro w'
    go_simp
    with_reducible rfl
  rotate_left
  · simp only [Act.put, List.setIfInBounds_toArray, List.set_cons_zero, List.set_cons_succ, i64_w, i32_w]
    rfl
  refine take_ (i := 22) (N := some 36) (v := ?_) (a' := ?_) #[true, true, true, true, true, true, true, true, true, true, true, true, true, true, true, true, true, true, true, true, true, true, true, true, true, true, false] rfl rfl (take_ofW HT_.out HW_.out (by kernel_rfl)) (fun _ _ _ h => h) (Or.inl ⟨by rfl, ?_⟩) hHeld ?_ ?_
  rotate_left
  · rintro w' ⟨x0, x1, x2, x3, x4, s0, s1, s2, s3⟩
    go_simp
    with_reducible rfl
  rotate_left
  · simp only [Act.put, List.setIfInBounds_toArray, List.set_cons_zero, List.set_cons_succ, i64_w, i32_w]
    rfl
  refine pure_ (i := 26) (N := some 12) (v := ?_) (a' := ?_) #[true, true, true, true, true, true, true, true, true, true, true, true, true, true, true, true, true, true, true, true, true, true, true, true, true, true, true] rfl rfl (any_of HT_.out (by kernel_rfl)) (fun _ _ _ h => h) (Or.inl ⟨by rfl, ?_⟩) ?_ ?_
  rotate_left
  · intro w'
    go_simp
    with_reducible rfl
  rotate_left
  · simp only [Act.put, List.setIfInBounds_toArray, List.set_cons_zero, List.set_cons_succ, i64_w, i32_w]
    rfl
  refine done_ (done_of HT_.out (by kernel_rfl)) ?_
  go_upto_region 1 with (fail)
  go_cut [61] (fun v61 wc => ∃ (kq : Nat) (x61_17 : Bool), v61 = .bool x61_17 ∧ Aside0 (impl_Smooth_2.j0 kq a0 a1 l2 a5 (rd l2 (ji7)) (rd l2 (ji10)) (rd l2 a0) (rd l2 (ji15)) x61_17 = some r) ∧ Aside0 (kq ≤ k) ∧ Aside0 (Kd.R (Kd.int .i64) 3 wc w0.heap.size (fun k_ => (P2_ k_ ∨ w.heap.size ≤ k_)) (.slice (some ad172) l2.length co20) l2) ∧ Aside0 (Kept w wc (fun k_ => P2_ k_)) ∧ Aside0 (Below w0.heap.size w0 wc) ∧ Aside0 (EBx (.slice (some ad172) l2.length co20) a3 a4 a5 gs ga gb gm gt wc))
  case first =>
    have H := HC18.out
    clear HC18
    replace H := Option.bind_eq_some_iff.mp H
    obtain ⟨t176, A210, H⟩ := H
    replace H : (if t176 < a3 then ((impl_Smooth_1.f (wrap64 ((rd l2 (ji10)) - (rd l2 (ji7))))).bind fun t177 => (if t177 < a4 then ((impl_Smooth_1.f (wrap64 ((rd l2 (ji15)) - (rd l2 a0)))).bind fun t178 => (impl_Smooth_2.j0 k a0 a1 l2 a5 (rd l2 (ji7)) (rd l2 (ji10)) (rd l2 a0) (rd l2 (ji15)) (decide (t178 < a4)))) else (impl_Smooth_2.j0 k a0 a1 l2 a5 (rd l2 (ji7)) (rd l2 (ji10)) (rd l2 a0) (rd l2 (ji15)) false))) else (impl_Smooth_2.j0 k a0 a1 l2 a5 (rd l2 (ji7)) (rd l2 (ji10)) (rd l2 a0) (rd l2 (ji15)) false)) = some r := H
    have A21 := Aside0.mk A210
    clear A210
    by_cases c22 : t176 < a3
    rotate_left
    · rw [if_neg c22] at H
      have c22b0 : decide (t176 < a3) = false := decide_eq_false c22
      clear c22
      (first | rw [c22b0] | (simp only [i64_w, i32_w]; rw [c22b0]) | skip)
      have H' := Aside0.mk H
      clear H
      try go_wp2
      have n0_ := Aside0.mk (Kd.R_drew HO2.out)
      have n1_ := Aside0.mk (Kept.drew HK.out)
      have n2_ := Aside0.mk (below_drew1 HB.out)
      clear HO2
      clear HK
      clear HB
      have HO2 := n0_
      have HK := n1_
      have HB := n2_
      clear n0_ n1_ n2_
      have nx_ := Aside0.mk (EBx.drew HX.out)
      clear HX
      have HX := nx_
      clear nx_
      refine start_ (n := 25) (S := fun w' => w'.cell? ⟨gs, 0, none⟩ = some (.slice (some ad172) l2.length co20) ∧ w'.cell? ⟨ga, 0, none⟩ = some (.func (.func 108) #[] #[]) ∧ w'.cell? ⟨gb, 0, none⟩ = some (.int .i64 a3) ∧ w'.cell? ⟨gm, 0, none⟩ = some (.int .i64 a4) ∧ w'.cell? ⟨gt, 0, none⟩ = some (.int .i64 a5) ∧ True) (ds := []) #[false, false, false, false, false, false, false, false, false, false, false, false, false, false, false, false, false, false, false, false, false, false, false, false, false] (by kernel_rfl) rfl rfl ⟨HX.out.cells.1, HX.out.cells.2.1, HX.out.cells.2.2.1, HX.out.cells.2.2.2.1, HX.out.cells.2.2.2.2, trivial⟩ (fun hHeld => ?_); refine with_tabW impl_Smooth_2.tab1 impl_Smooth_2.bits1 (fun HT_ HW_ => ?_)
      generalize w19.drew = w33 at HX HO2 HK HB hHeld ⊢
      refine take_ (i := 0) (N := some 37) (v := ?_) (a' := ?_) #[true, false, false, false, false, false, false, false, false, false, false, false, false, false, false, false, false, false, false, false, false, false, false, false, false] rfl rfl (take_ofW HT_.out HW_.out (by kernel_rfl)) (fun _ _ _ h => h) (Or.inl ⟨by rfl, ?_⟩) hHeld ?_ ?_
      rotate_left
      · rintro w' ⟨x0, x1, x2, x3, x4, -⟩
        go_simp
        with_reducible rfl
      rotate_left
      · simp only [Act.put, List.setIfInBounds_toArray, List.set_cons_zero, List.set_cons_succ, i64_w, i32_w]
        rfl
      refine pure_ (i := 1) (N := some 38) (v := ?_) (a' := ?_) #[true, true, false, false, false, false, false, false, false, false, false, false, false, false, false, false, false, false, false, false, false, false, false, false, false] rfl rfl (any_of HT_.out (by kernel_rfl)) (fun _ _ _ h => h) (Or.inl ⟨by rfl, ?_⟩) ?_ ?_
      rotate_left
      · intro w'
        go_simp
        with_reducible rfl
      rotate_left
      · simp only [Act.put, List.setIfInBounds_toArray, List.set_cons_zero, List.set_cons_succ, i64_w, i32_w]
        rfl
      refine pure_ (i := 2) (N := some 39) (v := ?_) (a' := ?_) #[true, true, true, false, false, false, false, false, false, false, false, false, false, false, false, false, false, false, false, false, false, false, false, false, false] rfl rfl (any_of HT_.out (by kernel_rfl)) (fun _ _ _ h => h) (Or.inl ⟨by rfl, ?_⟩) ?_ ?_
      rotate_left
      · intro w'
        go_simp
        with_reducible rfl
      rotate_left
      · simp only [Act.put, List.setIfInBounds_toArray, List.set_cons_zero, List.set_cons_succ, i64_w, i32_w]
        rfl
      refine pure_ (i := 3) (N := some 40) (v := ?_) (a' := ?_) #[true, true, true, true, false, false, false, false, false, false, false, false, false, false, false, false, false, false, false, false, false, false, false, false, false] rfl rfl (any_of HT_.out (by kernel_rfl)) (fun _ _ _ h => h) (Or.inl ⟨by rfl, ?_⟩) ?_ ?_
      rotate_left
      · intro w'
        go_simp
        with_reducible rfl
      rotate_left
      · simp only [Act.put, List.setIfInBounds_toArray, List.set_cons_zero, List.set_cons_succ, i64_w, i32_w]
        rfl
      refine take_ (i := 5) (N := some 42) (v := ?_) (a' := ?_) #[true, true, true, true, false, true, false, false, false, false, false, false, false, false, false, false, false, false, false, false, false, false, false, false, false] rfl rfl (take_ofW HT_.out HW_.out (by kernel_rfl)) (fun _ _ _ h => h) (Or.inl ⟨by rfl, ?_⟩) hHeld ?_ ?_
      rotate_left
      · rintro w' ⟨x0, x1, x2, x3, x4, -⟩
        go_simp
        with_reducible rfl
      rotate_left
      · simp only [Act.put, List.setIfInBounds_toArray, List.set_cons_zero, List.set_cons_succ, i64_w, i32_w]
        rfl
      refine one_ (i := 4) (N := some 41) #[true, true, true, true, true, true, false, false, false, false, false, false, false, false, false, false, false, false, false, false, false, false, false, false, false] rfl rfl (one_of HT_.out (by kernel_rfl)) (by decide) (fun K hK => ?_)
      refine goesC_ (n := 37) Try.func108 (by kernel_rfl) rfl #[.int .i64 (wrap64 ((rd l2 a0) - (rd l2 (ji10))))] (by rfl) rfl rfl (by rfl) (by simp only [List.map_toArray, List.map_cons, List.map_nil, List.append_toArray, List.cons_append, List.nil_append]; first | rfl | (simp only [hji10]; rfl)) ?_
      with_reducible refine (impl_Smooth_1.calls (wrap64 ((rd l2 a0) - (rd l2 (ji10)))) t176 _ A21.out).mono ?_
      rintro e w34 ⟨rfl, hb⟩
      replace hb := hb.below
      have nx_ := Aside0.mk (EBx.below HX.out hb)
      clear HX
      have HX := nx_
      clear nx_
      refine ⟨_, rfl, ?_⟩
      have n0_ := Aside0.mk (Kd.R_below (by (with_reducible repeat (first | apply Kd.R_alloc | apply Kd.R_drewN | apply Kd.R_drew)); exact HO2.out) hb)
      have n1_ := Aside0.mk (Kept.below (S := (fun k_ => P2_ k_)) (by repeat (first | (with_reducible first | exact HK.out | apply Kept.alloc | apply Kept.drewN | apply Kept.drew) | exact HK.out)) hb)
      have n2_ := Aside0.mk (below_step (by repeat (first | (with_reducible first | exact HB.out | apply below_alloc | apply pw_below_drewN | apply below_drew1) | exact HB.out)) hb)
      clear HO2
      clear HK
      clear HB
      have HO2 := n0_
      have HK := n1_
      have HB := n2_
      clear n0_ n1_ n2_
      (try clear hb)
      (try clear hb2)
      (try clear hk)
      (try clear hi)
      refine hK.out _ _ ⟨HX.out.cells.1, HX.out.cells.2.1, HX.out.cells.2.2.1, HX.out.cells.2.2.2.1, HX.out.cells.2.2.2.2, trivial⟩ (fun hHeld => ?_)
      clear hK K
      refine norm_ (a' := ?_) ?_ ?_
      rotate_left
      · show Act.put _ (some 41) _ = _
        simp only [Act.put, List.setIfInBounds_toArray, List.set_cons_zero, List.set_cons_succ, i64_w, i32_w]
        rfl
      refine pure_ (i := 6) (N := some 43) (v := ?_) (a' := ?_) #[true, true, true, true, true, true, true, false, false, false, false, false, false, false, false, false, false, false, false, false, false, false, false, false, false] rfl rfl (any_of HT_.out (by kernel_rfl)) (fun _ _ _ h => h) (Or.inl ⟨by rfl, ?_⟩) ?_ ?_
      rotate_left
      · intro w'
        go_simp
        with_reducible rfl
      rotate_left
      · simp only [Act.put, List.setIfInBounds_toArray, List.set_cons_zero, List.set_cons_succ, i64_w, i32_w]
        rfl
      refine pure_ (i := 7) (N := some 44) (v := ?_) (a' := ?_) #[true, true, true, true, true, true, true, true, false, false, false, false, false, false, false, false, false, false, false, false, false, false, false, false, false] rfl rfl (any_of HT_.out (by kernel_rfl)) (fun _ _ _ h => h) (Or.inl ⟨by rfl, ?_⟩) ?_ ?_
      rotate_left
      · intro w'
        go_simp
        with_reducible rfl
      rotate_left
      · simp only [Act.put, List.setIfInBounds_toArray, List.set_cons_zero, List.set_cons_succ, i64_w, i32_w]
        rfl
      refine pure_ (i := 8) (N := some 45) (v := undef) (a' := ?_) #[true, true, true, true, true, true, true, true, true, false, false, false, false, false, false, false, false, false, false, false, false, false, false, false, false] rfl rfl (any_of HT_.out (by kernel_rfl)) (fun _ _ _ h => h) (Or.inr ⟨by rfl, rfl⟩) ?_ ?_
      rotate_left
      · simp only [Act.put, List.setIfInBounds_toArray, List.set_cons_zero, List.set_cons_succ, i64_w, i32_w]
        rfl
      refine pure_ (i := 9) (N := some 46) (v := undef) (a' := ?_) #[true, true, true, true, true, true, true, true, true, true, false, false, false, false, false, false, false, false, false, false, false, false, false, false, false] rfl rfl (any_of HT_.out (by kernel_rfl)) (fun _ _ _ h => h) (Or.inr ⟨by rfl, rfl⟩) ?_ ?_
      rotate_left
      · simp only [Act.put, List.setIfInBounds_toArray, List.set_cons_zero, List.set_cons_succ, i64_w, i32_w]
        rfl
      refine pure_ (i := 10) (N := some 47) (v := undef) (a' := ?_) #[true, true, true, true, true, true, true, true, true, true, true, false, false, false, false, false, false, false, false, false, false, false, false, false, false] rfl rfl (any_of HT_.out (by kernel_rfl)) (fun _ _ _ h => h) (Or.inr ⟨by rfl, rfl⟩) ?_ ?_
      rotate_left
      · simp only [Act.put, List.setIfInBounds_toArray, List.set_cons_zero, List.set_cons_succ, i64_w, i32_w]
        rfl
      refine pure_ (i := 11) (N := some 48) (v := undef) (a' := ?_) #[true, true, true, true, true, true, true, true, true, true, true, true, false, false, false, false, false, false, false, false, false, false, false, false, false] rfl rfl (any_of HT_.out (by kernel_rfl)) (fun _ _ _ h => h) (Or.inr ⟨by rfl, rfl⟩) ?_ ?_
      rotate_left
      · simp only [Act.put, List.setIfInBounds_toArray, List.set_cons_zero, List.set_cons_succ, i64_w, i32_w]
        rfl
      refine pure_ (i := 12) (N := some 49) (v := undef) (a' := ?_) #[true, true, true, true, true, true, true, true, true, true, true, true, true, false, false, false, false, false, false, false, false, false, false, false, false] rfl rfl (any_of HT_.out (by kernel_rfl)) (fun _ _ _ h => h) (Or.inr ⟨by rfl, rfl⟩) ?_ ?_
      rotate_left
      · simp only [Act.put, List.setIfInBounds_toArray, List.set_cons_zero, List.set_cons_succ, i64_w, i32_w]
        rfl
      refine pure_ (i := 13) (N := some 50) (v := undef) (a' := ?_) #[true, true, true, true, true, true, true, true, true, true, true, true, true, true, false, false, false, false, false, false, false, false, false, false, false] rfl rfl (any_of HT_.out (by kernel_rfl)) (fun _ _ _ h => h) (Or.inr ⟨by rfl, rfl⟩) ?_ ?_
      rotate_left
      · simp only [Act.put, List.setIfInBounds_toArray, List.set_cons_zero, List.set_cons_succ, i64_w, i32_w]
        rfl
      refine pure_ (i := 14) (N := some 51) (v := undef) (a' := ?_) #[true, true, true, true, true, true, true, true, true, true, true, true, true, true, true, false, false, false, false, false, false, false, false, false, false] rfl rfl (any_of HT_.out (by kernel_rfl)) (fun _ _ _ h => h) (Or.inr ⟨by rfl, rfl⟩) ?_ ?_
      rotate_left
      · simp only [Act.put, List.setIfInBounds_toArray, List.set_cons_zero, List.set_cons_succ, i64_w, i32_w]
        rfl
      refine pure_ (i := 15) (N := some 52) (v := ?_) (a' := ?_) #[true, true, true, true, true, true, true, true, true, true, true, true, true, true, true, true, false, false, false, false, false, false, false, false, false] rfl rfl (any_of HT_.out (by kernel_rfl)) (fun _ _ _ h => h) (Or.inl ⟨by rfl, ?_⟩) ?_ ?_
      rotate_left
      · intro w'
        go_simp
        with_reducible rfl
      rotate_left
      · simp only [Act.put, List.setIfInBounds_toArray, List.set_cons_zero, List.set_cons_succ, i64_w, i32_w]
        rfl
      refine pure_ (i := 16) (N := some 53) (v := ?_) (a' := ?_) #[true, true, true, true, true, true, true, true, true, true, true, true, true, true, true, true, true, false, false, false, false, false, false, false, false] rfl rfl (any_of HT_.out (by kernel_rfl)) (fun _ _ _ h => h) (Or.inl ⟨by rfl, ?_⟩) ?_ ?_
      rotate_left
      · intro w'
        go_simp
        with_reducible rfl
      rotate_left
      · simp only [Act.put, List.setIfInBounds_toArray, List.set_cons_zero, List.set_cons_succ, i64_w, i32_w]
        rfl
      refine pure_ (i := 17) (N := some 54) (v := undef) (a' := ?_) #[true, true, true, true, true, true, true, true, true, true, true, true, true, true, true, true, true, true, false, false, false, false, false, false, false] rfl rfl (any_of HT_.out (by kernel_rfl)) (fun _ _ _ h => h) (Or.inr ⟨by rfl, rfl⟩) ?_ ?_
      rotate_left
      · simp only [Act.put, List.setIfInBounds_toArray, List.set_cons_zero, List.set_cons_succ, i64_w, i32_w]
        rfl
      refine pure_ (i := 18) (N := some 55) (v := undef) (a' := ?_) #[true, true, true, true, true, true, true, true, true, true, true, true, true, true, true, true, true, true, true, false, false, false, false, false, false] rfl rfl (any_of HT_.out (by kernel_rfl)) (fun _ _ _ h => h) (Or.inr ⟨by rfl, rfl⟩) ?_ ?_
      rotate_left
      · simp only [Act.put, List.setIfInBounds_toArray, List.set_cons_zero, List.set_cons_succ, i64_w, i32_w]
        rfl
      refine pure_ (i := 19) (N := some 56) (v := undef) (a' := ?_) #[true, true, true, true, true, true, true, true, true, true, true, true, true, true, true, true, true, true, true, true, false, false, false, false, false] rfl rfl (any_of HT_.out (by kernel_rfl)) (fun _ _ _ h => h) (Or.inr ⟨by rfl, rfl⟩) ?_ ?_
      rotate_left
      · simp only [Act.put, List.setIfInBounds_toArray, List.set_cons_zero, List.set_cons_succ, i64_w, i32_w]
        rfl
      refine pure_ (i := 20) (N := some 57) (v := undef) (a' := ?_) #[true, true, true, true, true, true, true, true, true, true, true, true, true, true, true, true, true, true, true, true, true, false, false, false, false] rfl rfl (any_of HT_.out (by kernel_rfl)) (fun _ _ _ h => h) (Or.inr ⟨by rfl, rfl⟩) ?_ ?_
      rotate_left
      · simp only [Act.put, List.setIfInBounds_toArray, List.set_cons_zero, List.set_cons_succ, i64_w, i32_w]
        rfl
      refine pure_ (i := 21) (N := some 58) (v := undef) (a' := ?_) #[true, true, true, true, true, true, true, true, true, true, true, true, true, true, true, true, true, true, true, true, true, true, false, false, false] rfl rfl (any_of HT_.out (by kernel_rfl)) (fun _ _ _ h => h) (Or.inr ⟨by rfl, rfl⟩) ?_ ?_
      rotate_left
      · simp only [Act.put, List.setIfInBounds_toArray, List.set_cons_zero, List.set_cons_succ, i64_w, i32_w]
        rfl
      refine pure_ (i := 22) (N := some 59) (v := undef) (a' := ?_) #[true, true, true, true, true, true, true, true, true, true, true, true, true, true, true, true, true, true, true, true, true, true, true, false, false] rfl rfl (any_of HT_.out (by kernel_rfl)) (fun _ _ _ h => h) (Or.inr ⟨by rfl, rfl⟩) ?_ ?_
      rotate_left
      · simp only [Act.put, List.setIfInBounds_toArray, List.set_cons_zero, List.set_cons_succ, i64_w, i32_w]
        rfl
      refine pure_ (i := 23) (N := some 60) (v := undef) (a' := ?_) #[true, true, true, true, true, true, true, true, true, true, true, true, true, true, true, true, true, true, true, true, true, true, true, true, false] rfl rfl (any_of HT_.out (by kernel_rfl)) (fun _ _ _ h => h) (Or.inr ⟨by rfl, rfl⟩) ?_ ?_
      rotate_left
      · simp only [Act.put, List.setIfInBounds_toArray, List.set_cons_zero, List.set_cons_succ, i64_w, i32_w]
        rfl
      refine pure_ (i := 24) (N := some 61) (v := ?_) (a' := ?_) #[true, true, true, true, true, true, true, true, true, true, true, true, true, true, true, true, true, true, true, true, true, true, true, true, true] rfl rfl (any_of HT_.out (by kernel_rfl)) (fun _ _ _ h => h) (Or.inl ⟨by rfl, ?_⟩) ?_ ?_
      rotate_left
      · intro w'
        go_simp
        with_reducible rfl
      rotate_left
      · simp only [Act.put, List.setIfInBounds_toArray, List.set_cons_zero, List.set_cons_succ, i64_w, i32_w]
        rfl
      refine done_ (done_of HT_.out (by kernel_rfl)) ?_
      try go_wp2
      go_meet
      case rel => exact ⟨_, (false), (by first | rfl | (simp; done) | (simp [*]; done)), H', ⟨by first | omega | exact Nat.le_refl _⟩, ⟨by (with_reducible repeat (first | apply Kd.R_alloc | apply Kd.R_drewN | apply Kd.R_drew)); exact HO2.out⟩, ⟨by repeat (first | (with_reducible first | exact HK.out | apply Kept.alloc | apply Kept.drewN | apply Kept.drew) | exact HK.out)⟩, ⟨by repeat (first | (with_reducible first | exact HB.out | apply below_alloc | apply pw_below_drewN | apply below_drew1) | exact HB.out)⟩, HX⟩
    rw [if_pos c22] at H
    have c22b0 : decide (t176 < a3) = true := decide_eq_true c22
    clear c22
    (first | rw [c22b0] | (simp only [i64_w, i32_w]; rw [c22b0]) | skip)
    replace H := Option.bind_eq_some_iff.mp H
    obtain ⟨t177, A230, H⟩ := H
    replace H : (if t177 < a4 then ((impl_Smooth_1.f (wrap64 ((rd l2 (ji15)) - (rd l2 a0)))).bind fun t178 => (impl_Smooth_2.j0 k a0 a1 l2 a5 (rd l2 (ji7)) (rd l2 (ji10)) (rd l2 a0) (rd l2 (ji15)) (decide (t178 < a4)))) else (impl_Smooth_2.j0 k a0 a1 l2 a5 (rd l2 (ji7)) (rd l2 (ji10)) (rd l2 a0) (rd l2 (ji15)) false)) = some r := H
    have A23 := Aside0.mk A230
    clear A230
    by_cases c24 : t177 < a4
    rw [if_pos c24] at H
    have c24b0 : decide (t177 < a4) = true := decide_eq_true c24
    clear c24
    replace H := Option.bind_eq_some_iff.mp H
    obtain ⟨t178, A250, H⟩ := H
    replace H : (impl_Smooth_2.j0 k a0 a1 l2 a5 (rd l2 (ji7)) (rd l2 (ji10)) (rd l2 a0) (rd l2 (ji15)) (decide (t178 < a4))) = some r := H
    have A25 := Aside0.mk A250
    clear A250
    have H' := Aside0.mk H
    clear H
    rotate_left
    rw [if_neg c24] at H
    have c24b0 : decide (t177 < a4) = false := decide_eq_false c24
    clear c24
    have H' := Aside0.mk H
    clear H
    all_goals
      try go_wp2
      have n0_ := Aside0.mk (Kd.R_drew HO2.out)
      have n1_ := Aside0.mk (Kept.drew HK.out)
      have n2_ := Aside0.mk (below_drew1 HB.out)
      clear HO2
      clear HK
      clear HB
      have HO2 := n0_
      have HK := n1_
      have HB := n2_
      clear n0_ n1_ n2_
      have nx_ := Aside0.mk (EBx.drew HX.out)
      clear HX
      have HX := nx_
      clear nx_
      refine start_ (n := 25) (S := fun w' => w'.cell? ⟨gs, 0, none⟩ = some (.slice (some ad172) l2.length co20) ∧ w'.cell? ⟨ga, 0, none⟩ = some (.func (.func 108) #[] #[]) ∧ w'.cell? ⟨gb, 0, none⟩ = some (.int .i64 a3) ∧ w'.cell? ⟨gm, 0, none⟩ = some (.int .i64 a4) ∧ w'.cell? ⟨gt, 0, none⟩ = some (.int .i64 a5) ∧ True) (ds := []) #[false, false, false, false, false, false, false, false, false, false, false, false, false, false, false, false, false, false, false, false, false, false, false, false, false] (by kernel_rfl) rfl rfl ⟨HX.out.cells.1, HX.out.cells.2.1, HX.out.cells.2.2.1, HX.out.cells.2.2.2.1, HX.out.cells.2.2.2.2, trivial⟩ (fun hHeld => ?_); refine with_tabW impl_Smooth_2.tab1 impl_Smooth_2.bits1 (fun HT_ HW_ => ?_)
      generalize w19.drew = w26 at HX HO2 HK HB hHeld ⊢
      refine take_ (i := 0) (N := some 37) (v := ?_) (a' := ?_) #[true, false, false, false, false, false, false, false, false, false, false, false, false, false, false, false, false, false, false, false, false, false, false, false, false] rfl rfl (take_ofW HT_.out HW_.out (by kernel_rfl)) (fun _ _ _ h => h) (Or.inl ⟨by rfl, ?_⟩) hHeld ?_ ?_
      rotate_left
      · rintro w' ⟨x0, x1, x2, x3, x4, -⟩
        go_simp
        with_reducible rfl
      rotate_left
      · simp only [Act.put, List.setIfInBounds_toArray, List.set_cons_zero, List.set_cons_succ, i64_w, i32_w]
        rfl
      refine pure_ (i := 1) (N := some 38) (v := ?_) (a' := ?_) #[true, true, false, false, false, false, false, false, false, false, false, false, false, false, false, false, false, false, false, false, false, false, false, false, false] rfl rfl (any_of HT_.out (by kernel_rfl)) (fun _ _ _ h => h) (Or.inl ⟨by rfl, ?_⟩) ?_ ?_
      rotate_left
      · intro w'
        go_simp
        with_reducible rfl
      rotate_left
      · simp only [Act.put, List.setIfInBounds_toArray, List.set_cons_zero, List.set_cons_succ, i64_w, i32_w]
        rfl
      refine pure_ (i := 2) (N := some 39) (v := ?_) (a' := ?_) #[true, true, true, false, false, false, false, false, false, false, false, false, false, false, false, false, false, false, false, false, false, false, false, false, false] rfl rfl (any_of HT_.out (by kernel_rfl)) (fun _ _ _ h => h) (Or.inl ⟨by rfl, ?_⟩) ?_ ?_
      rotate_left
      · intro w'
        go_simp
        with_reducible rfl
      rotate_left
      · simp only [Act.put, List.setIfInBounds_toArray, List.set_cons_zero, List.set_cons_succ, i64_w, i32_w]
        rfl
      refine pure_ (i := 3) (N := some 40) (v := ?_) (a' := ?_) #[true, true, true, true, false, false, false, false, false, false, false, false, false, false, false, false, false, false, false, false, false, false, false, false, false] rfl rfl (any_of HT_.out (by kernel_rfl)) (fun _ _ _ h => h) (Or.inl ⟨by rfl, ?_⟩) ?_ ?_
      rotate_left
      · intro w'
        go_simp
        with_reducible rfl
      rotate_left
      · simp only [Act.put, List.setIfInBounds_toArray, List.set_cons_zero, List.set_cons_succ, i64_w, i32_w]
        rfl
      refine take_ (i := 5) (N := some 42) (v := ?_) (a' := ?_) #[true, true, true, true, false, true, false, false, false, false, false, false, false, false, false, false, false, false, false, false, false, false, false, false, false] rfl rfl (take_ofW HT_.out HW_.out (by kernel_rfl)) (fun _ _ _ h => h) (Or.inl ⟨by rfl, ?_⟩) hHeld ?_ ?_
      rotate_left
      · rintro w' ⟨x0, x1, x2, x3, x4, -⟩
        go_simp
        with_reducible rfl
      rotate_left
      · simp only [Act.put, List.setIfInBounds_toArray, List.set_cons_zero, List.set_cons_succ, i64_w, i32_w]
        rfl
      refine one_ (i := 4) (N := some 41) #[true, true, true, true, true, true, false, false, false, false, false, false, false, false, false, false, false, false, false, false, false, false, false, false, false] rfl rfl (one_of HT_.out (by kernel_rfl)) (by decide) (fun K hK => ?_)
      refine goesC_ (n := 37) Try.func108 (by kernel_rfl) rfl #[.int .i64 (wrap64 ((rd l2 a0) - (rd l2 (ji10))))] (by rfl) rfl rfl (by rfl) (by simp only [List.map_toArray, List.map_cons, List.map_nil, List.append_toArray, List.cons_append, List.nil_append]; first | rfl | (simp only [hji10]; rfl)) ?_
      with_reducible refine (impl_Smooth_1.calls (wrap64 ((rd l2 a0) - (rd l2 (ji10)))) t176 _ A21.out).mono ?_
      rintro e w27 ⟨rfl, hb⟩
      replace hb := hb.below
      have nx_ := Aside0.mk (EBx.below HX.out hb)
      clear HX
      have HX := nx_
      clear nx_
      refine ⟨_, rfl, ?_⟩
      have n0_ := Aside0.mk (Kd.R_below (by (with_reducible repeat (first | apply Kd.R_alloc | apply Kd.R_drewN | apply Kd.R_drew)); exact HO2.out) hb)
      have n1_ := Aside0.mk (Kept.below (S := (fun k_ => P2_ k_)) (by repeat (first | (with_reducible first | exact HK.out | apply Kept.alloc | apply Kept.drewN | apply Kept.drew) | exact HK.out)) hb)
      have n2_ := Aside0.mk (below_step (by repeat (first | (with_reducible first | exact HB.out | apply below_alloc | apply pw_below_drewN | apply below_drew1) | exact HB.out)) hb)
      clear HO2
      clear HK
      clear HB
      have HO2 := n0_
      have HK := n1_
      have HB := n2_
      clear n0_ n1_ n2_
      (try clear hb)
      (try clear hb2)
      (try clear hk)
      (try clear hi)
      refine hK.out _ _ ⟨HX.out.cells.1, HX.out.cells.2.1, HX.out.cells.2.2.1, HX.out.cells.2.2.2.1, HX.out.cells.2.2.2.2, trivial⟩ (fun hHeld => ?_)
      clear hK K
      refine norm_ (a' := ?_) ?_ ?_
      rotate_left
      · show Act.put _ (some 41) _ = _
        simp only [Act.put, List.setIfInBounds_toArray, List.set_cons_zero, List.set_cons_succ, i64_w, i32_w]
        rfl
      refine pure_ (i := 6) (N := some 43) (v := ?_) (a' := ?_) #[true, true, true, true, true, true, true, false, false, false, false, false, false, false, false, false, false, false, false, false, false, false, false, false, false] rfl rfl (any_of HT_.out (by kernel_rfl)) (fun _ _ _ h => h) (Or.inl ⟨by rfl, ?_⟩) ?_ ?_
      rotate_left
      · intro w'
        go_simp
        with_reducible rfl
      rotate_left
      · simp only [Act.put, List.setIfInBounds_toArray, List.set_cons_zero, List.set_cons_succ, i64_w, i32_w]
        rfl
      refine pure_ (i := 7) (N := some 44) (v := ?_) (a' := ?_) #[true, true, true, true, true, true, true, true, false, false, false, false, false, false, false, false, false, false, false, false, false, false, false, false, false] rfl rfl (any_of HT_.out (by kernel_rfl)) (fun _ _ _ h => h) (Or.inl ⟨by rfl, ?_⟩) ?_ ?_
      rotate_left
      · intro w'
        go_simp
        with_reducible rfl
      rotate_left
      · simp only [Act.put, List.setIfInBounds_toArray, List.set_cons_zero, List.set_cons_succ, i64_w, i32_w]
        rfl
      refine take_ (i := 8) (N := some 45) (v := ?_) (a' := ?_) #[true, true, true, true, true, true, true, true, true, false, false, false, false, false, false, false, false, false, false, false, false, false, false, false, false] rfl rfl (take_ofW HT_.out HW_.out (by kernel_rfl)) (fun _ _ _ h => h) (Or.inl ⟨by rfl, ?_⟩) hHeld ?_ ?_
      rotate_left
      · rintro w' ⟨x0, x1, x2, x3, x4, -⟩
        go_simp
        with_reducible rfl
      rotate_left
      · simp only [Act.put, List.setIfInBounds_toArray, List.set_cons_zero, List.set_cons_succ, i64_w, i32_w]
        rfl
      refine pure_ (i := 9) (N := some 46) (v := ?_) (a' := ?_) #[true, true, true, true, true, true, true, true, true, true, false, false, false, false, false, false, false, false, false, false, false, false, false, false, false] rfl rfl (any_of HT_.out (by kernel_rfl)) (fun _ _ _ h => h) (Or.inl ⟨by rfl, ?_⟩) ?_ ?_
      rotate_left
      · intro w'
        go_simp
        with_reducible rfl
      rotate_left
      · simp only [Act.put, List.setIfInBounds_toArray, List.set_cons_zero, List.set_cons_succ, i64_w, i32_w]
        rfl
      refine pure_ (i := 10) (N := some 47) (v := ?_) (a' := ?_) #[true, true, true, true, true, true, true, true, true, true, true, false, false, false, false, false, false, false, false, false, false, false, false, false, false] rfl rfl (any_of HT_.out (by kernel_rfl)) (fun _ _ _ h => h) (Or.inl ⟨by rfl, ?_⟩) ?_ ?_
      rotate_left
      · intro w'
        go_simp
        with_reducible rfl
      rotate_left
      · simp only [Act.put, List.setIfInBounds_toArray, List.set_cons_zero, List.set_cons_succ, i64_w, i32_w]
        rfl
      refine pure_ (i := 11) (N := some 48) (v := ?_) (a' := ?_) #[true, true, true, true, true, true, true, true, true, true, true, true, false, false, false, false, false, false, false, false, false, false, false, false, false] rfl rfl (any_of HT_.out (by kernel_rfl)) (fun _ _ _ h => h) (Or.inl ⟨by rfl, ?_⟩) ?_ ?_
      rotate_left
      · intro w'
        go_simp
        with_reducible rfl
      rotate_left
      · simp only [Act.put, List.setIfInBounds_toArray, List.set_cons_zero, List.set_cons_succ, i64_w, i32_w]
        rfl
      refine take_ (i := 13) (N := some 50) (v := ?_) (a' := ?_) #[true, true, true, true, true, true, true, true, true, true, true, true, false, true, false, false, false, false, false, false, false, false, false, false, false] rfl rfl (take_ofW HT_.out HW_.out (by kernel_rfl)) (fun _ _ _ h => h) (Or.inl ⟨by rfl, ?_⟩) hHeld ?_ ?_
      rotate_left
      · rintro w' ⟨x0, x1, x2, x3, x4, -⟩
        go_simp
        with_reducible rfl
      rotate_left
      · simp only [Act.put, List.setIfInBounds_toArray, List.set_cons_zero, List.set_cons_succ, i64_w, i32_w]
        rfl
      refine one_ (i := 12) (N := some 49) #[true, true, true, true, true, true, true, true, true, true, true, true, true, true, false, false, false, false, false, false, false, false, false, false, false] rfl rfl (one_of HT_.out (by kernel_rfl)) (by decide) (fun K hK => ?_)
      refine goesC_ (n := 45) Try.func108 (by kernel_rfl) rfl #[.int .i64 (wrap64 ((rd l2 (ji10)) - (rd l2 (ji7))))] (by rfl) rfl rfl (by rfl) (by simp only [List.map_toArray, List.map_cons, List.map_nil, List.append_toArray, List.cons_append, List.nil_append]; first | rfl | (simp only [hji10, hji7]; rfl)) ?_
      with_reducible refine (impl_Smooth_1.calls (wrap64 ((rd l2 (ji10)) - (rd l2 (ji7)))) t177 _ A23.out).mono ?_
      rintro e w28 ⟨rfl, hb⟩
      replace hb := hb.below
      have nx_ := Aside0.mk (EBx.below HX.out hb)
      clear HX
      have HX := nx_
      clear nx_
      refine ⟨_, rfl, ?_⟩
      have n0_ := Aside0.mk (Kd.R_below (by (with_reducible repeat (first | apply Kd.R_alloc | apply Kd.R_drewN | apply Kd.R_drew)); exact HO2.out) hb)
      have n1_ := Aside0.mk (Kept.below (S := (fun k_ => P2_ k_)) (by repeat (first | (with_reducible first | exact HK.out | apply Kept.alloc | apply Kept.drewN | apply Kept.drew) | exact HK.out)) hb)
      have n2_ := Aside0.mk (below_step (by repeat (first | (with_reducible first | exact HB.out | apply below_alloc | apply pw_below_drewN | apply below_drew1) | exact HB.out)) hb)
      clear HO2
      clear HK
      clear HB
      have HO2 := n0_
      have HK := n1_
    · have HB := n2_
      clear n0_ n1_ n2_
      (try clear hb)
      (try clear hb2)
      (try clear hk)
      (try clear hi)
      refine hK.out _ _ ⟨HX.out.cells.1, HX.out.cells.2.1, HX.out.cells.2.2.1, HX.out.cells.2.2.2.1, HX.out.cells.2.2.2.2, trivial⟩ (fun hHeld => ?_)
      clear hK K
      refine norm_ (a' := ?_) ?_ ?_
      rotate_left
      · show Act.put _ (some 49) _ = _
        simp only [Act.put, List.setIfInBounds_toArray, List.set_cons_zero, List.set_cons_succ, i64_w, i32_w]
        rfl
      refine pure_ (i := 14) (N := some 51) (v := ?_) (a' := ?_) #[true, true, true, true, true, true, true, true, true, true, true, true, true, true, true, false, false, false, false, false, false, false, false, false, false] rfl rfl (any_of HT_.out (by kernel_rfl)) (fun _ _ _ h => h) (Or.inl ⟨by rfl, ?_⟩) ?_ ?_
      rotate_left
      · intro w'
        go_simp
        with_reducible rfl
      rotate_left
      · simp only [Act.put, List.setIfInBounds_toArray, List.set_cons_zero, List.set_cons_succ, i64_w, i32_w]
        rfl
      refine pure_ (i := 15) (N := some 52) (v := ?_) (a' := ?_) #[true, true, true, true, true, true, true, true, true, true, true, true, true, true, true, true, false, false, false, false, false, false, false, false, false] rfl rfl (any_of HT_.out (by kernel_rfl)) (fun _ _ _ h => h) (Or.inl ⟨by rfl, ?_⟩) ?_ ?_
      rotate_left
      · intro w'
        go_simp
        with_reducible rfl
      rotate_left
      · simp only [Act.put, List.setIfInBounds_toArray, List.set_cons_zero, List.set_cons_succ, i64_w, i32_w]
        rfl
      refine pure_ (i := 16) (N := some 53) (v := ?_) (a' := ?_) #[true, true, true, true, true, true, true, true, true, true, true, true, true, true, true, true, true, false, false, false, false, false, false, false, false] rfl rfl (any_of HT_.out (by kernel_rfl)) (fun _ _ _ h => h) (Or.inl ⟨by rfl, ?_⟩) ?_ ?_
      rotate_left
      · intro w'
        go_simp
        with_reducible rfl
      rotate_left
      · simp only [Act.put, List.setIfInBounds_toArray, List.set_cons_zero, List.set_cons_succ, i64_w, i32_w]
        rfl
      refine pure_ (i := 17) (N := some 54) (v := undef) (a' := ?_) #[true, true, true, true, true, true, true, true, true, true, true, true, true, true, true, true, true, true, false, false, false, false, false, false, false] rfl rfl (any_of HT_.out (by kernel_rfl)) (fun _ _ _ h => h) (Or.inr ⟨by rfl, rfl⟩) ?_ ?_
      rotate_left
      · simp only [Act.put, List.setIfInBounds_toArray, List.set_cons_zero, List.set_cons_succ, i64_w, i32_w]
        rfl
      refine pure_ (i := 18) (N := some 55) (v := undef) (a' := ?_) #[true, true, true, true, true, true, true, true, true, true, true, true, true, true, true, true, true, true, true, false, false, false, false, false, false] rfl rfl (any_of HT_.out (by kernel_rfl)) (fun _ _ _ h => h) (Or.inr ⟨by rfl, rfl⟩) ?_ ?_
      rotate_left
      · simp only [Act.put, List.setIfInBounds_toArray, List.set_cons_zero, List.set_cons_succ, i64_w, i32_w]
        rfl
      refine pure_ (i := 19) (N := some 56) (v := undef) (a' := ?_) #[true, true, true, true, true, true, true, true, true, true, true, true, true, true, true, true, true, true, true, true, false, false, false, false, false] rfl rfl (any_of HT_.out (by kernel_rfl)) (fun _ _ _ h => h) (Or.inr ⟨by rfl, rfl⟩) ?_ ?_
      rotate_left
      · simp only [Act.put, List.setIfInBounds_toArray, List.set_cons_zero, List.set_cons_succ, i64_w, i32_w]
        rfl
      refine pure_ (i := 20) (N := some 57) (v := undef) (a' := ?_) #[true, true, true, true, true, true, true, true, true, true, true, true, true, true, true, true, true, true, true, true, true, false, false, false, false] rfl rfl (any_of HT_.out (by kernel_rfl)) (fun _ _ _ h => h) (Or.inr ⟨by rfl, rfl⟩) ?_ ?_
      rotate_left
      · simp only [Act.put, List.setIfInBounds_toArray, List.set_cons_zero, List.set_cons_succ, i64_w, i32_w]
        rfl
      refine pure_ (i := 21) (N := some 58) (v := undef) (a' := ?_) #[true, true, true, true, true, true, true, true, true, true, true, true, true, true, true, true, true, true, true, true, true, true, false, false, false] rfl rfl (any_of HT_.out (by kernel_rfl)) (fun _ _ _ h => h) (Or.inr ⟨by rfl, rfl⟩) ?_ ?_
      rotate_left
      · simp only [Act.put, List.setIfInBounds_toArray, List.set_cons_zero, List.set_cons_succ, i64_w, i32_w]
        rfl
      refine pure_ (i := 22) (N := some 59) (v := undef) (a' := ?_) #[true, true, true, true, true, true, true, true, true, true, true, true, true, true, true, true, true, true, true, true, true, true, true, false, false] rfl rfl (any_of HT_.out (by kernel_rfl)) (fun _ _ _ h => h) (Or.inr ⟨by rfl, rfl⟩) ?_ ?_
      rotate_left
      · simp only [Act.put, List.setIfInBounds_toArray, List.set_cons_zero, List.set_cons_succ, i64_w, i32_w]
        rfl
      refine pure_ (i := 23) (N := some 60) (v := undef) (a' := ?_) #[true, true, true, true, true, true, true, true, true, true, true, true, true, true, true, true, true, true, true, true, true, true, true, true, false] rfl rfl (any_of HT_.out (by kernel_rfl)) (fun _ _ _ h => h) (Or.inr ⟨by rfl, rfl⟩) ?_ ?_
      rotate_left
      · simp only [Act.put, List.setIfInBounds_toArray, List.set_cons_zero, List.set_cons_succ, i64_w, i32_w]
        rfl
      refine pure_ (i := 24) (N := some 61) (v := ?_) (a' := ?_) #[true, true, true, true, true, true, true, true, true, true, true, true, true, true, true, true, true, true, true, true, true, true, true, true, true] rfl rfl (any_of HT_.out (by kernel_rfl)) (fun _ _ _ h => h) (Or.inl ⟨by rfl, ?_⟩) ?_ ?_
      rotate_left
      · intro w'
        go_simp
        with_reducible rfl
      rotate_left
      · simp only [Act.put, List.setIfInBounds_toArray, List.set_cons_zero, List.set_cons_succ, i64_w, i32_w]
        rfl
      refine done_ (done_of HT_.out (by kernel_rfl)) ?_
      try go_wp2
      go_meet
      case rel => exact ⟨_, (false), (by first | rfl | (simp; done) | (simp [*]; done)), H', ⟨by first | omega | exact Nat.le_refl _⟩, ⟨by (with_reducible repeat (first | apply Kd.R_alloc | apply Kd.R_drewN | apply Kd.R_drew)); exact HO2.out⟩, ⟨by repeat (first | (with_reducible first | exact HK.out | apply Kept.alloc | apply Kept.drewN | apply Kept.drew) | exact HK.out)⟩, ⟨by repeat (first | (with_reducible first | exact HB.out | apply below_alloc | apply pw_below_drewN | apply below_drew1) | exact HB.out)⟩, HX⟩
    · have HB := n2_
      clear n0_ n1_ n2_
      (try clear hb)
      (try clear hb2)
      (try clear hk)
      (try clear hi)
      refine hK.out _ _ ⟨HX.out.cells.1, HX.out.cells.2.1, HX.out.cells.2.2.1, HX.out.cells.2.2.2.1, HX.out.cells.2.2.2.2, trivial⟩ (fun hHeld => ?_)
      clear hK K
      refine norm_ (a' := ?_) ?_ ?_
      rotate_left
      · show Act.put _ (some 49) _ = _
        simp only [Act.put, List.setIfInBounds_toArray, List.set_cons_zero, List.set_cons_succ, i64_w, i32_w]
        rfl
      refine pure_ (i := 14) (N := some 51) (v := ?_) (a' := ?_) #[true, true, true, true, true, true, true, true, true, true, true, true, true, true, true, false, false, false, false, false, false, false, false, false, false] rfl rfl (any_of HT_.out (by kernel_rfl)) (fun _ _ _ h => h) (Or.inl ⟨by rfl, ?_⟩) ?_ ?_
      rotate_left
      · intro w'
        go_simp
        with_reducible rfl
      rotate_left
      · simp only [Act.put, List.setIfInBounds_toArray, List.set_cons_zero, List.set_cons_succ, i64_w, i32_w]
        rfl
      refine pure_ (i := 15) (N := some 52) (v := ?_) (a' := ?_) #[true, true, true, true, true, true, true, true, true, true, true, true, true, true, true, true, false, false, false, false, false, false, false, false, false] rfl rfl (any_of HT_.out (by kernel_rfl)) (fun _ _ _ h => h) (Or.inl ⟨by rfl, ?_⟩) ?_ ?_
      rotate_left
      · intro w'
        go_simp
        with_reducible rfl
      rotate_left
      · simp only [Act.put, List.setIfInBounds_toArray, List.set_cons_zero, List.set_cons_succ, i64_w, i32_w]
        rfl
      refine pure_ (i := 16) (N := some 53) (v := ?_) (a' := ?_) #[true, true, true, true, true, true, true, true, true, true, true, true, true, true, true, true, true, false, false, false, false, false, false, false, false] rfl rfl (any_of HT_.out (by kernel_rfl)) (fun _ _ _ h => h) (Or.inl ⟨by rfl, ?_⟩) ?_ ?_
      rotate_left
      · intro w'
        go_simp
        with_reducible rfl
      rotate_left
      · simp only [Act.put, List.setIfInBounds_toArray, List.set_cons_zero, List.set_cons_succ, i64_w, i32_w]
        rfl
      refine take_ (i := 17) (N := some 54) (v := ?_) (a' := ?_) #[true, true, true, true, true, true, true, true, true, true, true, true, true, true, true, true, true, true, false, false, false, false, false, false, false] rfl rfl (take_ofW HT_.out HW_.out (by kernel_rfl)) (fun _ _ _ h => h) (Or.inl ⟨by rfl, ?_⟩) hHeld ?_ ?_
      rotate_left
      · rintro w' ⟨x0, x1, x2, x3, x4, -⟩
        go_simp
        with_reducible rfl
      rotate_left
      · simp only [Act.put, List.setIfInBounds_toArray, List.set_cons_zero, List.set_cons_succ, i64_w, i32_w]
        rfl
      refine pure_ (i := 18) (N := some 55) (v := ?_) (a' := ?_) #[true, true, true, true, true, true, true, true, true, true, true, true, true, true, true, true, true, true, true, false, false, false, false, false, false] rfl rfl (any_of HT_.out (by kernel_rfl)) (fun _ _ _ h => h) (Or.inl ⟨by rfl, ?_⟩) ?_ ?_
      rotate_left
      · intro w'
        go_simp
        with_reducible rfl
      rotate_left
      · simp only [Act.put, List.setIfInBounds_toArray, List.set_cons_zero, List.set_cons_succ, i64_w, i32_w]
        rfl
      refine pure_ (i := 19) (N := some 56) (v := ?_) (a' := ?_) #[true, true, true, true, true, true, true, true, true, true, true, true, true, true, true, true, true, true, true, true, false, false, false, false, false] rfl rfl (any_of HT_.out (by kernel_rfl)) (fun _ _ _ h => h) (Or.inl ⟨by rfl, ?_⟩) ?_ ?_
      rotate_left
      · intro w'
        go_simp
        with_reducible rfl
      rotate_left
      · simp only [Act.put, List.setIfInBounds_toArray, List.set_cons_zero, List.set_cons_succ, i64_w, i32_w]
        rfl
      refine pure_ (i := 20) (N := some 57) (v := ?_) (a' := ?_) #[true, true, true, true, true, true, true, true, true, true, true, true, true, true, true, true, true, true, true, true, true, false, false, false, false] rfl rfl (any_of HT_.out (by kernel_rfl)) (fun _ _ _ h => h) (Or.inl ⟨by rfl, ?_⟩) ?_ ?_
      rotate_left
      · intro w'
        go_simp
        with_reducible rfl
      rotate_left
      · simp only [Act.put, List.setIfInBounds_toArray, List.set_cons_zero, List.set_cons_succ, i64_w, i32_w]
        rfl
      refine take_ (i := 22) (N := some 59) (v := ?_) (a' := ?_) #[true, true, true, true, true, true, true, true, true, true, true, true, true, true, true, true, true, true, true, true, true, false, true, false, false] rfl rfl (take_ofW HT_.out HW_.out (by kernel_rfl)) (fun _ _ _ h => h) (Or.inl ⟨by rfl, ?_⟩) hHeld ?_ ?_
      rotate_left
      · rintro w' ⟨x0, x1, x2, x3, x4, -⟩
        go_simp
        with_reducible rfl
      rotate_left
      · simp only [Act.put, List.setIfInBounds_toArray, List.set_cons_zero, List.set_cons_succ, i64_w, i32_w]
        rfl
      refine one_ (i := 21) (N := some 58) #[true, true, true, true, true, true, true, true, true, true, true, true, true, true, true, true, true, true, true, true, true, true, true, false, false] rfl rfl (one_of HT_.out (by kernel_rfl)) (by decide) (fun K hK => ?_)
      refine goesC_ (n := 54) Try.func108 (by kernel_rfl) rfl #[.int .i64 (wrap64 ((rd l2 (ji15)) - (rd l2 a0)))] (by rfl) rfl rfl (by rfl) (by simp only [List.map_toArray, List.map_cons, List.map_nil, List.append_toArray, List.cons_append, List.nil_append]; first | rfl | (simp only [hji15]; rfl)) ?_
      with_reducible refine (impl_Smooth_1.calls (wrap64 ((rd l2 (ji15)) - (rd l2 a0))) t178 _ A25.out).mono ?_
      rintro e w29 ⟨rfl, hb⟩
      replace hb := hb.below
      have nx_ := Aside0.mk (EBx.below HX.out hb)
      clear HX
      have HX := nx_
      clear nx_
      refine ⟨_, rfl, ?_⟩
      have n0_ := Aside0.mk (Kd.R_below (by (with_reducible repeat (first | apply Kd.R_alloc | apply Kd.R_drewN | apply Kd.R_drew)); exact HO2.out) hb)
      have n1_ := Aside0.mk (Kept.below (S := (fun k_ => P2_ k_)) (by repeat (first | (with_reducible first | exact HK.out | apply Kept.alloc | apply Kept.drewN | apply Kept.drew) | exact HK.out)) hb)
      have n2_ := Aside0.mk (below_step (by repeat (first | (with_reducible first | exact HB.out | apply below_alloc | apply pw_below_drewN | apply below_drew1) | exact HB.out)) hb)
      clear HO2
      clear HK
      clear HB
      have HO2 := n0_
      have HK := n1_
      have HB := n2_
      clear n0_ n1_ n2_
      (try clear hb)
      (try clear hb2)
      (try clear hk)
      (try clear hi)
      refine hK.out _ _ ⟨HX.out.cells.1, HX.out.cells.2.1, HX.out.cells.2.2.1, HX.out.cells.2.2.2.1, HX.out.cells.2.2.2.2, trivial⟩ (fun hHeld => ?_)
      clear hK K
      refine norm_ (a' := ?_) ?_ ?_
      rotate_left
      · show Act.put _ (some 58) _ = _
        simp only [Act.put, List.setIfInBounds_toArray, List.set_cons_zero, List.set_cons_succ, i64_w, i32_w]
        rfl
      refine pure_ (i := 23) (N := some 60) (v := ?_) (a' := ?_) #[true, true, true, true, true, true, true, true, true, true, true, true, true, true, true, true, true, true, true, true, true, true, true, true, false] rfl rfl (any_of HT_.out (by kernel_rfl)) (fun _ _ _ h => h) (Or.inl ⟨by rfl, ?_⟩) ?_ ?_
      rotate_left
      · intro w'
        go_simp
        with_reducible rfl
      rotate_left
      · simp only [Act.put, List.setIfInBounds_toArray, List.set_cons_zero, List.set_cons_succ, i64_w, i32_w]
        rfl
      refine pure_ (i := 24) (N := some 61) (v := ?_) (a' := ?_) #[true, true, true, true, true, true, true, true, true, true, true, true, true, true, true, true, true, true, true, true, true, true, true, true, true] rfl rfl (any_of HT_.out (by kernel_rfl)) (fun _ _ _ h => h) (Or.inl ⟨by rfl, ?_⟩) ?_ ?_
      rotate_left
      · intro w'
        go_simp
        with_reducible rfl
      rotate_left
      · simp only [Act.put, List.setIfInBounds_toArray, List.set_cons_zero, List.set_cons_succ, i64_w, i32_w]
        rfl
      refine done_ (done_of HT_.out (by kernel_rfl)) ?_
      try go_wp2
      go_meet
      case rel => exact ⟨_, (decide (t178 < a4)), (by first | rfl | (simp; done) | (simp [*]; done)), H', ⟨by first | omega | exact Nat.le_refl _⟩, ⟨by (with_reducible repeat (first | apply Kd.R_alloc | apply Kd.R_drewN | apply Kd.R_drew)); exact HO2.out⟩, ⟨by repeat (first | (with_reducible first | exact HK.out | apply Kept.alloc | apply Kept.drewN | apply Kept.drew) | exact HK.out)⟩, ⟨by repeat (first | (with_reducible first | exact HB.out | apply below_alloc | apply pw_below_drewN | apply below_drew1) | exact HB.out)⟩, HX⟩
  case rest =>
    clear HC18
    try clear c1
    try clear c2
    try clear p2
    try clear p6
    try clear c13
    try clear c22
    try clear c22b0
    try clear c24
    try clear c24b0
    obtain ⟨kq, x61_17, rfl, HA, HJ17, HO_2, HK, HB, HX⟩ := hcut
    cases kq with
    | zero => exact absurd HA.out (by simp [impl_Smooth_2.j0])
    | succ kj17 =>
      have H := HA.out
      clear HA
      simp only [impl_Smooth_2.j0] at H
      by_cases c35 : x61_17 = true
      rotate_left
      · replace c35 := Bool.eq_false_iff.mpr c35
        subst c35
        have H1 : (some l2) = some r := by rw [if_neg (show ¬ (false = true) by decide)] at H; exact H
        clear H
        have H := H1
        clear H1
        obtain rfl := Option.some.inj H
        go_wp2
        first | go_end0 | ((try simp only [Exit.inBlock, Exit.then]); refine bodyPost_ret (results_none rfl _ _ _) rfl ?_)
        exact ⟨by first | rfl | (simp [errW_none, errW_some] <;> rfl) | (simp only [← hji7, ← hji10, ← hji15]; first | rfl | (simp [errW_none, errW_some] <;> rfl)) | (simp [*, errW_none, errW_some] <;> rfl), by (with_reducible repeat (first | apply Kd.R_alloc | apply Kd.R_drewN | apply Kd.R_drew)); exact HO_2.out, by repeat (first | (with_reducible first | exact HB.out | apply below_alloc | apply pw_below_drewN | apply below_drew1) | exact HB.out), by repeat (first | (with_reducible first | exact HK.out | apply Kept.alloc | apply Kept.drewN | apply Kept.drew) | exact HK.out)⟩
      subst c35
      have hct_ := HX.out.cells.2.2.2.2
      have H1 : ((impl_zclip.f (wrap64 ((rd l2 (ji10)) + (mn (mx ((wrap64 ((wrap64 ((wrap64 (4 * (wrap64 ((rd l2 a0) - (rd l2 (ji10)))))) + (wrap64 ((rd l2 (ji7)) - (rd l2 (ji15)))))) + 4)) / 8) (wrap64 (-a5))) a5)))).bind fun t179 => ((impl_zclip.f (wrap64 ((rd l2 a0) - (mn (mx ((wrap64 ((wrap64 ((wrap64 (4 * (wrap64 ((rd l2 a0) - (rd l2 (ji10)))))) + (wrap64 ((rd l2 (ji7)) - (rd l2 (ji15)))))) + 4)) / 8) (wrap64 (-a5))) a5)))).bind fun t180 => (if 0 ≤ (wrap64 (a0 - a1)) then (if (wrap64 (a0 - a1)) < (l2.length : Int) then (if 0 ≤ a0 then (if a0 < (l2.length : Int) then (some ((l2.set ((wrap64 (a0 - a1)) : Int).toNat t179).set (a0 : Int).toNat t180)) else (none)) else (none)) else (none)) else (none)))) = some r := by rw [if_pos rfl] at H; exact H
      clear H
      have H := H1
      clear H1
      obtain ⟨ji36, hji36⟩ : ∃ j_ : Int, (mx ((wrap64 ((wrap64 ((wrap64 (4 * (wrap64 ((rd l2 a0) - (rd l2 (ji10)))))) + (wrap64 ((rd l2 (ji7)) - (rd l2 (ji15)))))) + 4)) / 8) (wrap64 (-a5))) = j_ := ⟨_, rfl⟩
      replace H : ((impl_zclip.f (wrap64 ((rd l2 (ji10)) + (mn (ji36) a5)))).bind fun t179 => ((impl_zclip.f (wrap64 ((rd l2 a0) - (mn (ji36) a5)))).bind fun t180 => (if 0 ≤ (wrap64 (a0 - a1)) then (if (wrap64 (a0 - a1)) < (l2.length : Int) then (if 0 ≤ a0 then (if a0 < (l2.length : Int) then (some ((l2.set ((wrap64 (a0 - a1)) : Int).toNat t179).set (a0 : Int).toNat t180)) else (none)) else (none)) else (none)) else (none)))) = some r := by first | (rw [hji36] at H; exact H) | (simp only [hji36] at H ⊢; exact H)
      have hji36_ : (if ((wrap64 ((wrap64 ((wrap64 (4 * (wrap64 ((rd l2 a0) - (rd l2 (ji10)))))) + (wrap64 ((rd l2 (ji7)) - (rd l2 (ji15)))))) + 4)) / 8) < (wrap64 (-a5)) then (wrap64 (-a5)) else ((wrap64 ((wrap64 ((wrap64 (4 * (wrap64 ((rd l2 a0) - (rd l2 (ji10)))))) + (wrap64 ((rd l2 (ji7)) - (rd l2 (ji15)))))) + 4)) / 8)) = ji36 := hji36
      obtain ⟨ji37, hji37⟩ : ∃ j_ : Int, (mn (ji36) a5) = j_ := ⟨_, rfl⟩
      replace H : ((impl_zclip.f (wrap64 ((rd l2 (ji10)) + (ji37)))).bind fun t179 => ((impl_zclip.f (wrap64 ((rd l2 a0) - (ji37)))).bind fun t180 => (if 0 ≤ (wrap64 (a0 - a1)) then (if (wrap64 (a0 - a1)) < (l2.length : Int) then (if 0 ≤ a0 then (if a0 < (l2.length : Int) then (some ((l2.set ((wrap64 (a0 - a1)) : Int).toNat t179).set (a0 : Int).toNat t180)) else (none)) else (none)) else (none)) else (none)))) = some r := by first | (rw [hji37] at H; exact H) | (simp only [hji37] at H ⊢; exact H)
      have hji37_ : (if a5 < (ji36) then a5 else (ji36)) = ji37 := hji37
      replace H := Option.bind_eq_some_iff.mp H
      obtain ⟨t179, A380, H⟩ := H
      replace H : ((impl_zclip.f (wrap64 ((rd l2 a0) - (ji37)))).bind fun t180 => (if 0 ≤ (wrap64 (a0 - a1)) then (if (wrap64 (a0 - a1)) < (l2.length : Int) then (if 0 ≤ a0 then (if a0 < (l2.length : Int) then (some ((l2.set ((wrap64 (a0 - a1)) : Int).toNat t179).set (a0 : Int).toNat t180)) else (none)) else (none)) else (none)) else (none))) = some r := H
      have A38 := Aside0.mk A380
      clear A380
      replace H := Option.bind_eq_some_iff.mp H
      obtain ⟨t180, A390, H⟩ := H
      replace H : (if 0 ≤ (wrap64 (a0 - a1)) then (if (wrap64 (a0 - a1)) < (l2.length : Int) then (if 0 ≤ a0 then (if a0 < (l2.length : Int) then (some ((l2.set ((wrap64 (a0 - a1)) : Int).toNat t179).set (a0 : Int).toNat t180)) else (none)) else (none)) else (none)) else (none)) = some r := H
      have A39 := Aside0.mk A390
      clear A390
      replace H : (if 0 ≤ (ji10) then (if (ji10) < (l2.length : Int) then (if 0 ≤ a0 then (if a0 < (l2.length : Int) then (some ((l2.set ((ji10) : Int).toNat t179).set (a0 : Int).toNat t180)) else (none)) else (none)) else (none)) else (none)) = some r := by first | (rw [hji10] at H; exact H) | (simp only [hji10] at H ⊢; exact H)
      (try rw [hji10] at A38)
      (try rw [hji10] at A39)
      by_cases c41 : 0 ≤ (ji10)
      rotate_left
      · rw [if_neg c41] at H
        exact absurd H (by simp)
      rw [if_pos c41] at H
      have c41b0 : decide (0 ≤ (ji10)) = true := decide_eq_true c41
      clear c41
      by_cases c42 : (ji10) < (l2.length : Int)
      rotate_left
      · rw [if_neg c42] at H
        exact absurd H (by simp)
      rw [if_pos c42] at H
      have c42b0 : decide ((ji10) < (l2.length : Int)) = true := decide_eq_true c42
      clear c42
      obtain ⟨y181, hy181⟩ : ∃ y_ : List Int, y_ = (l2.set ((ji10) : Int).toNat t179) := ⟨_, rfl⟩
      replace H : (if 0 ≤ a0 then (if a0 < (l2.length : Int) then (some (y181.set (a0 : Int).toNat t180)) else (none)) else (none)) = some r := by first | (rw [hy181]; with_reducible exact H) | (have H2_ := (Option.bind_some _ _).symm.trans H; rw [hy181]; with_reducible exact H2_) | (have H2_ := (Option.bind_some _ _).symm.trans H; with_reducible exact H2_) | with_reducible exact H | (rw [hy181]; exact H) | exact H
      have Ny181 := Aside0.mk hy181
      clear hy181
      by_cases c44 : 0 ≤ a0
      rotate_left
      · rw [if_neg c44] at H
        exact absurd H (by simp)
      rw [if_pos c44] at H
      have c44b0 : decide (0 ≤ a0) = true := decide_eq_true c44
      clear c44
      by_cases c45 : a0 < (l2.length : Int)
      rotate_left
      · rw [if_neg c45] at H
        exact absurd H (by simp)
      rw [if_pos c45] at H
      have c45b0 : decide (a0 < (l2.length : Int)) = true := decide_eq_true c45
      clear c45
      obtain ⟨y182, hy182⟩ : ∃ y_ : List Int, y_ = (y181.set (a0 : Int).toNat t180) := ⟨_, rfl⟩
      replace H : (some y182) = some r := by first | (rw [hy182]; with_reducible exact H) | (have H2_ := (Option.bind_some _ _).symm.trans H; rw [hy182]; with_reducible exact H2_) | (have H2_ := (Option.bind_some _ _).symm.trans H; with_reducible exact H2_) | with_reducible exact H | (rw [hy182]; exact H) | exact H
      have Ny182 := Aside0.mk hy182
      clear hy182
      obtain rfl := Option.some.inj H
      try go_wp2
      have n0_ := Aside0.mk (Kd.R_drew HO_2.out)
      have n1_ := Aside0.mk (Kept.drew HK.out)
      have n2_ := Aside0.mk (below_drew1 HB.out)
      clear HO_2
      clear HK
      clear HB
      have HO_2 := n0_
      have HK := n1_
      have HB := n2_
      clear n0_ n1_ n2_
      have nx_ := Aside0.mk (EBx.drew HX.out)
      clear HX
      have HX := nx_
      clear nx_
      refine start_ (n := 18) (S := fun w' => w'.cell? ⟨gs, 0, none⟩ = some (.slice (some ad172) l2.length co20) ∧ w'.cell? ⟨ga, 0, none⟩ = some (.func (.func 108) #[] #[]) ∧ w'.cell? ⟨gb, 0, none⟩ = some (.int .i64 a3) ∧ w'.cell? ⟨gm, 0, none⟩ = some (.int .i64 a4) ∧ w'.cell? ⟨gt, 0, none⟩ = some (.int .i64 a5) ∧ True) (ds := [17]) #[false, false, false, false, false, false, false, false, false, false, false, false, false, false, false, false, false, false] (by kernel_rfl) rfl rfl ⟨HX.out.cells.1, HX.out.cells.2.1, HX.out.cells.2.2.1, HX.out.cells.2.2.2.1, HX.out.cells.2.2.2.2, trivial⟩ (fun hHeld => ?_); refine with_tabW impl_Smooth_2.tab3 impl_Smooth_2.bits3 (fun HT_ HW_ => ?_)
      generalize wc.drew = w47 at HX HO_2 HK HB hHeld ⊢
      refine take_ (i := 0) (N := some 77) (v := ?_) (a' := ?_) #[true, false, false, false, false, false, false, false, false, false, false, false, false, false, false, false, false, false] rfl rfl (take_ofW HT_.out HW_.out (by kernel_rfl)) (fun _ _ _ h => h) (Or.inl ⟨by rfl, ?_⟩) hHeld ?_ ?_
      rotate_left
      · rintro w' ⟨x0, x1, x2, x3, x4, -⟩
        go_simp
        with_reducible rfl
      rotate_left
      · simp only [Act.put, List.setIfInBounds_toArray, List.set_cons_zero, List.set_cons_succ, i64_w, i32_w]
        rfl
      refine pure_ (i := 1) (N := some 78) (v := ?_) (a' := ?_) #[true, true, false, false, false, false, false, false, false, false, false, false, false, false, false, false, false, false] rfl rfl (any_of HT_.out (by kernel_rfl)) (fun _ _ _ h => h) (Or.inl ⟨by rfl, ?_⟩) ?_ ?_
      rotate_left
      · intro w'
        go_simp
        with_reducible rfl
      rotate_left
      · simp only [Act.put, List.setIfInBounds_toArray, List.set_cons_zero, List.set_cons_succ, i64_w, i32_w]
        rfl
      refine pure_ (i := 2) (N := some 79) (v := ?_) (a' := ?_) #[true, true, true, false, false, false, false, false, false, false, false, false, false, false, false, false, false, false] rfl rfl (any_of HT_.out (by kernel_rfl)) (fun _ _ _ h => h) (Or.inl ⟨by rfl, ?_⟩) ?_ ?_
      rotate_left
      · intro w'
        go_simp
        with_reducible rfl
      rotate_left
      · simp only [Act.put, List.setIfInBounds_toArray, List.set_cons_zero, List.set_cons_succ, i64_w, i32_w]
        rfl
      refine pure_ (i := 3) (N := some 80) (v := ?_) (a' := ?_) #[true, true, true, true, false, false, false, false, false, false, false, false, false, false, false, false, false, false] rfl rfl (any_of HT_.out (by kernel_rfl)) (fun _ _ _ h => h) (Or.inl ⟨by rfl, ?_⟩) ?_ ?_
      rotate_left
      · intro w'
        go_simp
        with_reducible rfl
      rotate_left
      · simp only [Act.put, List.setIfInBounds_toArray, List.set_cons_zero, List.set_cons_succ, i64_w, i32_w]
        rfl
      refine take_ (i := 4) (N := some 81) (v := ?_) (a' := ?_) #[true, true, true, true, true, false, false, false, false, false, false, false, false, false, false, false, false, false] rfl rfl (take_ofW HT_.out HW_.out (by kernel_rfl)) (fun _ _ _ h => h) (Or.inl ⟨by rfl, ?_⟩) hHeld ?_ ?_
      rotate_left
      · rintro w' ⟨x0, x1, x2, x3, x4, -⟩
        go_simp
        with_reducible rfl
      rotate_left
      · simp only [Act.put, List.setIfInBounds_toArray, List.set_cons_zero, List.set_cons_succ, i64_w, i32_w]
        rfl
      refine pure_ (i := 5) (N := some 82) (v := ?_) (a' := ?_) #[true, true, true, true, true, true, false, false, false, false, false, false, false, false, false, false, false, false] rfl rfl (any_of HT_.out (by kernel_rfl)) (fun _ _ _ h => h) (Or.inl ⟨by rfl, ?_⟩) ?_ ?_
      rotate_left
      · intro w'
        go_simp
        with_reducible rfl
      rotate_left
      · simp only [Act.put, List.setIfInBounds_toArray, List.set_cons_zero, List.set_cons_succ, i64_w, i32_w]
        rfl
      refine pure_ (i := 6) (N := some 83) (v := ?_) (a' := ?_) #[true, true, true, true, true, true, true, false, false, false, false, false, false, false, false, false, false, false] rfl rfl (any_of HT_.out (by kernel_rfl)) (fun _ _ _ h => h) (Or.inl ⟨by rfl, ?_⟩) ?_ ?_
      rotate_left
      · intro w'
        go_simp
        with_reducible rfl
      rotate_left
      · simp only [Act.put, List.setIfInBounds_toArray, List.set_cons_zero, List.set_cons_succ, i64_w, i32_w]
        rfl
      refine pure_ (i := 7) (N := some 84) (v := ?_) (a' := ?_) #[true, true, true, true, true, true, true, true, false, false, false, false, false, false, false, false, false, false] rfl rfl (any_of HT_.out (by kernel_rfl)) (fun _ _ _ h => h) (Or.inl ⟨by rfl, ?_⟩) ?_ ?_
      rotate_left
      · intro w'
        go_simp
        with_reducible rfl
      rotate_left
      · simp only [Act.put, List.setIfInBounds_toArray, List.set_cons_zero, List.set_cons_succ, i64_w, i32_w]
        rfl
      refine pure_ (i := 8) (N := some 85) (v := ?_) (a' := ?_) #[true, true, true, true, true, true, true, true, true, false, false, false, false, false, false, false, false, false] rfl rfl (any_of HT_.out (by kernel_rfl)) (fun _ _ _ h => h) (Or.inl ⟨by rfl, ?_⟩) ?_ ?_
      rotate_left
      · intro w'
        go_simp
        with_reducible rfl
      rotate_left
      · simp only [Act.put, List.setIfInBounds_toArray, List.set_cons_zero, List.set_cons_succ, i64_w, i32_w]
        rfl
      refine pure_ (i := 10) (N := some 87) (v := ?_) (a' := ?_) #[true, true, true, true, true, true, true, true, true, false, true, false, false, false, false, false, false, false] rfl rfl (any_of HT_.out (by kernel_rfl)) (fun _ _ _ h => h) (Or.inl ⟨by rfl, ?_⟩) ?_ ?_
      rotate_left
      · intro w'
        go_simp
        with_reducible rfl
      rotate_left
      · simp only [Act.put, List.setIfInBounds_toArray, List.set_cons_zero, List.set_cons_succ, i64_w, i32_w]
        rfl
      refine pure_ (i := 11) (N := some 88) (v := ?_) (a' := ?_) #[true, true, true, true, true, true, true, true, true, false, true, true, false, false, false, false, false, false] rfl rfl (any_of HT_.out (by kernel_rfl)) (fun _ _ _ h => h) (Or.inl ⟨by rfl, ?_⟩) ?_ ?_
      rotate_left
      · intro w'
        go_simp
        with_reducible rfl
      rotate_left
      · simp only [Act.put, List.setIfInBounds_toArray, List.set_cons_zero, List.set_cons_succ, i64_w, i32_w]
        rfl
      refine pure_ (i := 12) (N := some 89) (v := ?_) (a' := ?_) #[true, true, true, true, true, true, true, true, true, false, true, true, true, false, false, false, false, false] rfl rfl (any_of HT_.out (by kernel_rfl)) (fun _ _ _ h => h) (Or.inl ⟨by rfl, ?_⟩) ?_ ?_
      rotate_left
      · intro w'
        go_simp
        with_reducible rfl
      rotate_left
      · simp only [Act.put, List.setIfInBounds_toArray, List.set_cons_zero, List.set_cons_succ, i64_w, i32_w]
        rfl
      refine one_ (i := 9) (N := some 86) #[true, true, true, true, true, true, true, true, true, true, true, true, true, false, false, false, false, false] rfl rfl (one_of HT_.out (by kernel_rfl)) (by decide) (fun K hK => ?_)
      refine goes_ Try.func110 (by kernel_rfl) rfl #[.int .i64 (wrap64 ((rd l2 (ji10)) + (ji37)))] (by rfl) rfl rfl (by (try simp only [List.map_toArray, List.map_cons, List.map_nil]); first | done | (simp only [hji10, hji37]; rfl) | rfl | (simp only [List.length_drop, List.length_take]; rfl)) ?_
      with_reducible refine (impl_zclip.calls (wrap64 ((rd l2 (ji10)) + (ji37))) t179 _ A38.out).mono ?_
      rintro e w48 ⟨rfl, hb⟩
      have nx_ := Aside0.mk (EBx.below HX.out hb)
      clear HX
      have HX := nx_
      clear nx_
      refine ⟨_, rfl, ?_⟩
      have n0_ := Aside0.mk (Kd.R_below (by (with_reducible repeat (first | apply Kd.R_alloc | apply Kd.R_drewN | apply Kd.R_drew)); exact HO_2.out) hb)
      have n1_ := Aside0.mk (Kept.below (S := (fun k_ => P2_ k_)) (by repeat (first | (with_reducible first | exact HK.out | apply Kept.alloc | apply Kept.drewN | apply Kept.drew) | exact HK.out)) hb)
      have n2_ := Aside0.mk (below_step (by repeat (first | (with_reducible first | exact HB.out | apply below_alloc | apply pw_below_drewN | apply below_drew1) | exact HB.out)) hb)
      clear HO_2
      clear HK
      clear HB
      have HO_2 := n0_
      have HK := n1_
      have HB := n2_
      clear n0_ n1_ n2_
      (try clear hb)
      (try clear hb2)
      (try clear hk)
      (try clear hi)
      refine hK.out _ _ ⟨HX.out.cells.1, HX.out.cells.2.1, HX.out.cells.2.2.1, HX.out.cells.2.2.2.1, HX.out.cells.2.2.2.2, trivial⟩ (fun hHeld => ?_)
      clear hK K
      refine norm_ (a' := ?_) ?_ ?_
      rotate_left
      · show Act.put _ (some 86) _ = _
        simp only [Act.put, List.setIfInBounds_toArray, List.set_cons_zero, List.set_cons_succ, i64_w, i32_w]
        rfl
      refine one_ (i := 13) (N := some 90) #[true, true, true, true, true, true, true, true, true, true, true, true, true, true, false, false, false, false] rfl rfl (one_of HT_.out (by kernel_rfl)) (by decide) (fun K hK => ?_)
      refine goes_ Try.func110 (by kernel_rfl) rfl #[.int .i64 (wrap64 ((rd l2 a0) - (ji37)))] (by rfl) rfl rfl (by (try simp only [List.map_toArray, List.map_cons, List.map_nil]); first | done | (simp only [hji37]; rfl) | rfl | (simp only [List.length_drop, List.length_take]; rfl)) ?_
      with_reducible refine (impl_zclip.calls (wrap64 ((rd l2 a0) - (ji37))) t180 _ A39.out).mono ?_
      rintro e w49 ⟨rfl, hb⟩
      have nx_ := Aside0.mk (EBx.below HX.out hb)
      clear HX
      have HX := nx_
      clear nx_
      refine ⟨_, rfl, ?_⟩
      have n0_ := Aside0.mk (Kd.R_below (by (with_reducible repeat (first | apply Kd.R_alloc | apply Kd.R_drewN | apply Kd.R_drew)); exact HO_2.out) hb)
      have n1_ := Aside0.mk (Kept.below (S := (fun k_ => P2_ k_)) (by repeat (first | (with_reducible first | exact HK.out | apply Kept.alloc | apply Kept.drewN | apply Kept.drew) | exact HK.out)) hb)
      have n2_ := Aside0.mk (below_step (by repeat (first | (with_reducible first | exact HB.out | apply below_alloc | apply pw_below_drewN | apply below_drew1) | exact HB.out)) hb)
      clear HO_2
      clear HK
      clear HB
      have HO_2 := n0_
      have HK := n1_
      have HB := n2_
      clear n0_ n1_ n2_
      (try clear hb)
      (try clear hb2)
      (try clear hk)
      (try clear hi)
      have p43 : 0 ≤ ((ji10) : Int) := of_decide_eq_true (by first | (with_reducible assumption) | assumption)
      have q43 : ((ji10) : Int) < ((l2.length : Int) : Int) := of_decide_eq_true (by first | (with_reducible assumption) | assumption)
      obtain ⟨go43, co43, eo43, gb43, gl43, cl43, HG43⟩ := Kd.R_form HO_2.out (by omega)
      (first | cases eo43 | (injection eo43 with ea_ en_ ec_; (first | subst ea_ | (injection ea_ with ea_; subst ea_)); subst ec_; clear en_))
      have GB43 := Aside0.mk gb43
      have GG43 := Aside0.mk HG43
      clear gb43 gl43 HG43
      have HMgo43 := Aside0.mk (show (P2_ go43 ∨ w.heap.size ≤ go43) from (HO_2.out.1 _ rfl))
      (first | simp only [add_plain] at hx172_0 | skip)
      (first | simp only [add_plain] at hx173_0 | skip)
      (first | simp only [add_plain] at hx174_0 | skip)
      (first | simp only [add_plain] at hx175_0 | skip)
      obtain ⟨hx43_0, hf43_0⟩ := Kd.R_celln 0 HO_2.out ((ji10) : Int) p43 q43
      replace p43 := eq_true p43
      replace q43 := eq_true q43
      have HP50 := Kd.R_putn HO_2.out ((ji10) : Int) t179
      rw [← Ny181.out] at HP50
      have HQ50 := Aside0.mk HP50
      clear HP50
      have p46 : 0 ≤ (a0 : Int) := of_decide_eq_true (by first | (with_reducible assumption) | assumption)
      have q46 : (a0 : Int) < ((l2.length : Int) : Int) := of_decide_eq_true (by first | (with_reducible assumption) | assumption)
      obtain ⟨hx46_0, hf46_0⟩ := Kd.R_celln 0 HQ50.out (a0 : Int) p46 q46
      replace p46 := eq_true p46
      replace q46 := eq_true q46
      have HP51 := Kd.R_putn HQ50.out (a0 : Int) t180
      rw [← Ny182.out] at HP51
      have HQ51 := Aside0.mk HP51
      clear HP51
      refine hK.out _ _ ⟨HX.out.cells.1, HX.out.cells.2.1, HX.out.cells.2.2.1, HX.out.cells.2.2.2.1, HX.out.cells.2.2.2.2, trivial⟩ (fun hHeld => ?_)
      clear hK K
      refine norm_ (a' := ?_) ?_ ?_
      rotate_left
      · show Act.put _ (some 90) _ = _
        simp only [Act.put, List.setIfInBounds_toArray, List.set_cons_zero, List.set_cons_succ, i64_w, i32_w]
        rfl
      refine pure_ (i := 14) (N := some 91) (v := ?_) (a' := ?_) #[true, true, true, true, true, true, true, true, true, true, true, true, true, true, true, false, false, false] rfl rfl (any_of HT_.out (by kernel_rfl)) (fun _ _ _ h => h) (Or.inl ⟨by rfl, ?_⟩) ?_ ?_
      rotate_left
      · intro w'
        go_simp
        with_reducible rfl
      rotate_left
      · simp only [Act.put, List.setIfInBounds_toArray, List.set_cons_zero, List.set_cons_succ, i64_w, i32_w]
        rfl
      refine one_ (i := 15) (N := none) #[true, true, true, true, true, true, true, true, true, true, true, true, true, true, true, true, false, false] rfl rfl (one_of HT_.out (by kernel_rfl)) (by decide) (fun K hK => ?_)
      refine skip_ (w1 := ?_) (by rfl) rfl ?_ ?_
      rotate_left
      · go_simp
        rfl
      have hne_ := HFAR.out go43 HMgo43.out
      have HX2 := Aside0.mk (EBx.set HX.out (go43) ((ji10) : Int).toNat (.int .i64 t179) hne_)
      refine hK.out _ _ ⟨HX2.out.cells.1, HX2.out.cells.2.1, HX2.out.cells.2.2.1, HX2.out.cells.2.2.2.1, HX2.out.cells.2.2.2.2, trivial⟩ (fun hHeld => ?_)
      clear hK K
      refine pure_ (i := 16) (N := some 92) (v := ?_) (a' := ?_) #[true, true, true, true, true, true, true, true, true, true, true, true, true, true, true, true, true, false] rfl rfl (any_of HT_.out (by kernel_rfl)) (fun _ _ _ h => h) (Or.inl ⟨by rfl, ?_⟩) ?_ ?_
      rotate_left
      · intro w'
        go_simp
        with_reducible rfl
      rotate_left
      · simp only [Act.put, List.setIfInBounds_toArray, List.set_cons_zero, List.set_cons_succ, i64_w, i32_w]
        rfl
      refine last_ (i := 17) (N := none) #[true, true, true, true, true, true, true, true, true, true, true, true, true, true, true, true, true, true] rfl rfl (one_of HT_.out (by kernel_rfl)) (by decide) (fun K hK => ?_)
      refine skip_ (w1 := ?_) (by rfl) rfl ?_ ?_
      rotate_left
      · go_simp
        rfl
      refine hK.out _ _ ?_
      clear hK K
      refine done_ (done_of HT_.out (by kernel_rfl)) ?_
      try go_wp2
      first | go_end0 | ((try simp only [Exit.inBlock, Exit.then]); refine bodyPost_ret (results_none rfl _ _ _) rfl ?_)
      exact ⟨by first | rfl | (simp [errW_none, errW_some] <;> rfl) | (simp only [← hji7, ← hji10, ← hji15, ← hji36, ← hji37, ← hji10]; first | rfl | (simp [errW_none, errW_some] <;> rfl)) | (simp [*, errW_none, errW_some] <;> rfl), by (with_reducible repeat (first | apply Kd.R_alloc | apply Kd.R_drewN | apply Kd.R_drew)); exact HQ51.out, by repeat (first | (with_reducible first | exact HB.out | apply below_alloc | apply pw_below_drewN | apply below_drew1 | refine below_set ?_ GB43.out | refine below_set ?_ GB43.out) | exact HB.out), by repeat (first | (with_reducible first | exact HK.out | apply Kept.alloc | apply Kept.drewN | apply Kept.drew | refine Kept.setCell ?_ HMgo43.out _ | refine Kept.setCell ?_ HMgo43.out _) | exact HK.out)⟩
theorem EBx.kept {u : Value} {big small most : Int} {gs ga gb gm gt : Nat} {w w1 : World} {P : Nat → Prop} (h : EBx u big small most gs ga gb gm gt w) (hk : Kept w w1 P) (hfar : ∀ k, P k → k ≠ gs ∧ k ≠ ga ∧ k ≠ gb ∧ k ≠ gm ∧ k ≠ gt) : EBx u big small most gs ga gb gm gt w1 := ⟨blk_kept h.s hk (fun z => (hfar _ z).1 rfl), blk_kept h.a hk (fun z => (hfar _ z).2.1 rfl), blk_kept h.b hk (fun z => (hfar _ z).2.2.1 rfl), blk_kept h.m hk (fun z => (hfar _ z).2.2.2.1 rfl), blk_kept h.t hk (fun z => (hfar _ z).2.2.2.2 rfl)⟩
/-! ### impl_Smooth: function 63 -/
mutual
def impl_Smooth.j0 : Nat → Int → Bool → Int → Int → List Int → Option (Int × Int × List Int)
  | 0, _, _, _, _, _ => none
  | k + 1, x1, x26, x184000, x184001, x184002 => if x26 = true then (some (0, 0, ([] : List Int))) else ((impl_zcopy.f x184002).bind fun t186 => (if x1 < 8 then (some (x184000, x184001, t186)) else (impl_Smooth.l0 k (wrap64 (x1 + (wrap64 (Int.tdiv (wrap64 (x1 * x1)) 16)))) (wrap64 (Int.tdiv x1 2)) (wrap64 ((wrap64 (Int.tdiv x1 4)) + 1)) x184001 0 x184000 x184001 x184002 x184000 x184001 t186)))
def impl_Smooth.l0 : Nat → Int → Int → Int → Int → Int → Int → Int → List Int → Int → Int → List Int → Option (Int × Int × List Int)
  | 0, _, _, _, _, _, _, _, _, _, _, _ => none
  | k + 1, x7, x8, x9, x54, x55, x184000, x184001, x184002, x190000, x190001, x190002 => if x55 < x54 then (impl_Smooth.l1 k x7 x8 x9 x55 4 x54 x55 x184000 x184001 x184002 x190000 x190001 x190002) else (impl_Smooth.l2 k x7 x8 x9 x184000 0 x184000 x184001 x184002 x190000 x190001 x190002)
def impl_Smooth.l1 : Nat → Int → Int → Int → Int → Int → Int → Int → Int → Int → List Int → Int → Int → List Int → Option (Int × Int × List Int)
  | 0, _, _, _, _, _, _, _, _, _, _, _, _, _ => none
  | k + 1, x7, x8, x9, x12, x13, x54, x55, x184000, x184001, x184002, x190000, x190001, x190002 => if (wrap64 (x13 + 1)) < x184000 then ((impl_Smooth_2.f k (wrap64 ((wrap64 (x12 * x184000)) + x13)) 1 x190002 x7 x8 x9).bind fun t190 => (impl_Smooth.l1 k x7 x8 x9 x12 (wrap64 (x13 + 4)) x54 x55 x184000 x184001 x184002 x190000 x190001 t190)) else (impl_Smooth.l0 k x7 x8 x9 x54 (wrap64 (x55 + 1)) x184000 x184001 x184002 x190000 x190001 x190002)
def impl_Smooth.l2 : Nat → Int → Int → Int → Int → Int → Int → Int → List Int → Int → Int → List Int → Option (Int × Int × List Int)
  | 0, _, _, _, _, _, _, _, _, _, _, _ => none
  | k + 1, x7, x8, x9, x75, x76, x184000, x184001, x184002, x190000, x190001, x190002 => if x76 < x75 then (impl_Smooth.l3 k x7 x8 x9 x76 4 x75 x76 x184000 x184001 x184002 x190000 x190001 x190002) else (some (x190000, x190001, x190002))
def impl_Smooth.l3 : Nat → Int → Int → Int → Int → Int → Int → Int → Int → Int → List Int → Int → Int → List Int → Option (Int × Int × List Int)
  | 0, _, _, _, _, _, _, _, _, _, _, _, _, _ => none
  | k + 1, x7, x8, x9, x14, x15, x75, x76, x184000, x184001, x184002, x190000, x190001, x190002 => if (wrap64 (x15 + 1)) < x184001 then ((impl_Smooth_2.f k (wrap64 ((wrap64 (x15 * x184000)) + x14)) x184000 x190002 x7 x8 x9).bind fun t191 => (impl_Smooth.l3 k x7 x8 x9 x14 (wrap64 (x15 + 4)) x75 x76 x184000 x184001 x184002 x190000 x190001 t191)) else (impl_Smooth.l2 k x7 x8 x9 x75 (wrap64 (x76 + 1)) x184000 x184001 x184002 x190000 x190001 x190002)
end
def impl_Smooth.f (k : Nat) (a0_0 : Int) (a0_1 : Int) (l0_2 : List Int) (a1 : Int) : Option (Int × Int × List Int) := (impl_GoodPlane.f k a0_0 a0_1 l0_2).bind fun t185 => (if t185 = true then (if a1 < 0 then (impl_Smooth.j0 k a1 true a0_0 a0_1 l0_2) else (impl_Smooth.j0 k a1 (decide (a1 > 40)) a0_0 a0_1 l0_2)) else (impl_Smooth.j0 k a1 true a0_0 a0_1 l0_2))
theorem impl_Smooth.mono_l : ∀ k, (∀ y0 y1 y2 y3 y4, LeO (impl_Smooth.j0 k y0 y1 y2 y3 y4) (impl_Smooth.j0 (k + 1) y0 y1 y2 y3 y4)) ∧ (∀ y0 y1 y2 y3 y4 y5 y6 y7 y8 y9 y10, LeO (impl_Smooth.l0 k y0 y1 y2 y3 y4 y5 y6 y7 y8 y9 y10) (impl_Smooth.l0 (k + 1) y0 y1 y2 y3 y4 y5 y6 y7 y8 y9 y10)) ∧ (∀ y0 y1 y2 y3 y4 y5 y6 y7 y8 y9 y10 y11 y12, LeO (impl_Smooth.l1 k y0 y1 y2 y3 y4 y5 y6 y7 y8 y9 y10 y11 y12) (impl_Smooth.l1 (k + 1) y0 y1 y2 y3 y4 y5 y6 y7 y8 y9 y10 y11 y12)) ∧ (∀ y0 y1 y2 y3 y4 y5 y6 y7 y8 y9 y10, LeO (impl_Smooth.l2 k y0 y1 y2 y3 y4 y5 y6 y7 y8 y9 y10) (impl_Smooth.l2 (k + 1) y0 y1 y2 y3 y4 y5 y6 y7 y8 y9 y10)) ∧ (∀ y0 y1 y2 y3 y4 y5 y6 y7 y8 y9 y10 y11 y12, LeO (impl_Smooth.l3 k y0 y1 y2 y3 y4 y5 y6 y7 y8 y9 y10 y11 y12) (impl_Smooth.l3 (k + 1) y0 y1 y2 y3 y4 y5 y6 y7 y8 y9 y10 y11 y12))
  | 0 => ⟨fun _ _ _ _ _ r h => by simp [impl_Smooth.j0] at h, fun _ _ _ _ _ _ _ _ _ _ _ r h => by simp [impl_Smooth.l0] at h, fun _ _ _ _ _ _ _ _ _ _ _ _ _ r h => by simp [impl_Smooth.l1] at h, fun _ _ _ _ _ _ _ _ _ _ _ r h => by simp [impl_Smooth.l2] at h, fun _ _ _ _ _ _ _ _ _ _ _ _ _ r h => by simp [impl_Smooth.l3] at h⟩
  | k + 1 => by
    obtain ⟨ih0, ih1, ih2, ih3, ih4⟩ := impl_Smooth.mono_l k
    refine ⟨?_, ?_, ?_, ?_, ?_⟩
    · intro y0 y1 y2 y3 y4
      unfold impl_Smooth.j0
      repeat' first
      | (with_reducible exact ih0 _ _ _ _ _)
      | (with_reducible exact ih1 _ _ _ _ _ _ _ _ _ _ _)
      | (with_reducible exact ih2 _ _ _ _ _ _ _ _ _ _ _ _ _)
      | (with_reducible exact ih3 _ _ _ _ _ _ _ _ _ _ _)
      | (with_reducible exact ih4 _ _ _ _ _ _ _ _ _ _ _ _ _)
      | (with_reducible exact impl_GoodPlane.mono _ _ _ _)
      | (with_reducible exact impl_Smooth_2.mono _ _ _ _ _ _ _)
      | (with_reducible exact LeO.refl _)
      | (with_reducible exact LeO.none _)
      | (with_reducible refine LeO.ite ?_ ?_)
      | (with_reducible refine LeO.bind ?_ (fun _ => ?_))
      | exact ih0 _ _ _ _ _
      | exact ih1 _ _ _ _ _ _ _ _ _ _ _
      | exact ih2 _ _ _ _ _ _ _ _ _ _ _ _ _
      | exact ih3 _ _ _ _ _ _ _ _ _ _ _
      | exact ih4 _ _ _ _ _ _ _ _ _ _ _ _ _
      | exact impl_GoodPlane.mono _ _ _ _
      | exact impl_Smooth_2.mono _ _ _ _ _ _ _
      | exact LeO.none _
      | refine LeO.ite ?_ ?_
      | refine LeO.bind ?_ (fun _ => ?_)
    · intro y0 y1 y2 y3 y4 y5 y6 y7 y8 y9 y10
      unfold impl_Smooth.l0
      repeat' first
      | (with_reducible exact ih0 _ _ _ _ _)
      | (with_reducible exact ih1 _ _ _ _ _ _ _ _ _ _ _)
      | (with_reducible exact ih2 _ _ _ _ _ _ _ _ _ _ _ _ _)
      | (with_reducible exact ih3 _ _ _ _ _ _ _ _ _ _ _)
      | (with_reducible exact ih4 _ _ _ _ _ _ _ _ _ _ _ _ _)
      | (with_reducible exact impl_GoodPlane.mono _ _ _ _)
      | (with_reducible exact impl_Smooth_2.mono _ _ _ _ _ _ _)
      | (with_reducible exact LeO.refl _)
      | (with_reducible exact LeO.none _)
      | (with_reducible refine LeO.ite ?_ ?_)
      | (with_reducible refine LeO.bind ?_ (fun _ => ?_))
      | exact ih0 _ _ _ _ _
      | exact ih1 _ _ _ _ _ _ _ _ _ _ _
      | exact ih2 _ _ _ _ _ _ _ _ _ _ _ _ _
      | exact ih3 _ _ _ _ _ _ _ _ _ _ _
      | exact ih4 _ _ _ _ _ _ _ _ _ _ _ _ _
      | exact impl_GoodPlane.mono _ _ _ _
      | exact impl_Smooth_2.mono _ _ _ _ _ _ _
      | exact LeO.none _
      | refine LeO.ite ?_ ?_
      | refine LeO.bind ?_ (fun _ => ?_)
    · intro y0 y1 y2 y3 y4 y5 y6 y7 y8 y9 y10 y11 y12
      unfold impl_Smooth.l1
      repeat' first
      | (with_reducible exact ih0 _ _ _ _ _)
      | (with_reducible exact ih1 _ _ _ _ _ _ _ _ _ _ _)
      | (with_reducible exact ih2 _ _ _ _ _ _ _ _ _ _ _ _ _)
      | (with_reducible exact ih3 _ _ _ _ _ _ _ _ _ _ _)
      | (with_reducible exact ih4 _ _ _ _ _ _ _ _ _ _ _ _ _)
      | (with_reducible exact impl_GoodPlane.mono _ _ _ _)
      | (with_reducible exact impl_Smooth_2.mono _ _ _ _ _ _ _)
      | (with_reducible exact LeO.refl _)
      | (with_reducible exact LeO.none _)
      | (with_reducible refine LeO.ite ?_ ?_)
      | (with_reducible refine LeO.bind ?_ (fun _ => ?_))
      | exact ih0 _ _ _ _ _
      | exact ih1 _ _ _ _ _ _ _ _ _ _ _
      | exact ih2 _ _ _ _ _ _ _ _ _ _ _ _ _
      | exact ih3 _ _ _ _ _ _ _ _ _ _ _
      | exact ih4 _ _ _ _ _ _ _ _ _ _ _ _ _
      | exact impl_GoodPlane.mono _ _ _ _
      | exact impl_Smooth_2.mono _ _ _ _ _ _ _
      | exact LeO.none _
      | refine LeO.ite ?_ ?_
      | refine LeO.bind ?_ (fun _ => ?_)
    · intro y0 y1 y2 y3 y4 y5 y6 y7 y8 y9 y10
      unfold impl_Smooth.l2
      repeat' first
      | (with_reducible exact ih0 _ _ _ _ _)
      | (with_reducible exact ih1 _ _ _ _ _ _ _ _ _ _ _)
      | (with_reducible exact ih2 _ _ _ _ _ _ _ _ _ _ _ _ _)
      | (with_reducible exact ih3 _ _ _ _ _ _ _ _ _ _ _)
      | (with_reducible exact ih4 _ _ _ _ _ _ _ _ _ _ _ _ _)
      | (with_reducible exact impl_GoodPlane.mono _ _ _ _)
      | (with_reducible exact impl_Smooth_2.mono _ _ _ _ _ _ _)
      | (with_reducible exact LeO.refl _)
      | (with_reducible exact LeO.none _)
      | (with_reducible refine LeO.ite ?_ ?_)
      | (with_reducible refine LeO.bind ?_ (fun _ => ?_))
      | exact ih0 _ _ _ _ _
      | exact ih1 _ _ _ _ _ _ _ _ _ _ _
      | exact ih2 _ _ _ _ _ _ _ _ _ _ _ _ _
      | exact ih3 _ _ _ _ _ _ _ _ _ _ _
      | exact ih4 _ _ _ _ _ _ _ _ _ _ _ _ _
      | exact impl_GoodPlane.mono _ _ _ _
      | exact impl_Smooth_2.mono _ _ _ _ _ _ _
      | exact LeO.none _
      | refine LeO.ite ?_ ?_
      | refine LeO.bind ?_ (fun _ => ?_)
    · intro y0 y1 y2 y3 y4 y5 y6 y7 y8 y9 y10 y11 y12
      unfold impl_Smooth.l3
      repeat' first
      | (with_reducible exact ih0 _ _ _ _ _)
      | (with_reducible exact ih1 _ _ _ _ _ _ _ _ _ _ _)
      | (with_reducible exact ih2 _ _ _ _ _ _ _ _ _ _ _ _ _)
      | (with_reducible exact ih3 _ _ _ _ _ _ _ _ _ _ _)
      | (with_reducible exact ih4 _ _ _ _ _ _ _ _ _ _ _ _ _)
      | (with_reducible exact impl_GoodPlane.mono _ _ _ _)
      | (with_reducible exact impl_Smooth_2.mono _ _ _ _ _ _ _)
      | (with_reducible exact LeO.refl _)
      | (with_reducible exact LeO.none _)
      | (with_reducible refine LeO.ite ?_ ?_)
      | (with_reducible refine LeO.bind ?_ (fun _ => ?_))
      | exact ih0 _ _ _ _ _
      | exact ih1 _ _ _ _ _ _ _ _ _ _ _
      | exact ih2 _ _ _ _ _ _ _ _ _ _ _ _ _
      | exact ih3 _ _ _ _ _ _ _ _ _ _ _
      | exact ih4 _ _ _ _ _ _ _ _ _ _ _ _ _
      | exact impl_GoodPlane.mono _ _ _ _
      | exact impl_Smooth_2.mono _ _ _ _ _ _ _
      | exact LeO.none _
      | refine LeO.ite ?_ ?_
      | refine LeO.bind ?_ (fun _ => ?_)
theorem impl_Smooth.mono : ∀ a0 a1 a2 a3 k, LeO (impl_Smooth.f k a0 a1 a2 a3) (impl_Smooth.f (k + 1) a0 a1 a2 a3) := by
  intro a0 a1 a2 a3 k
  obtain ⟨ih0, ih1, ih2, ih3, ih4⟩ := impl_Smooth.mono_l k
  unfold impl_Smooth.f
  repeat' first
      | (with_reducible exact ih0 _ _ _ _ _)
      | (with_reducible exact ih1 _ _ _ _ _ _ _ _ _ _ _)
      | (with_reducible exact ih2 _ _ _ _ _ _ _ _ _ _ _ _ _)
      | (with_reducible exact ih3 _ _ _ _ _ _ _ _ _ _ _)
      | (with_reducible exact ih4 _ _ _ _ _ _ _ _ _ _ _ _ _)
      | (with_reducible exact impl_GoodPlane.mono _ _ _ _)
      | (with_reducible exact impl_Smooth_2.mono _ _ _ _ _ _ _)
      | (with_reducible exact LeO.refl _)
      | (with_reducible exact LeO.none _)
      | (with_reducible refine LeO.ite ?_ ?_)
      | (with_reducible refine LeO.bind ?_ (fun _ => ?_))
      | exact ih0 _ _ _ _ _
      | exact ih1 _ _ _ _ _ _ _ _ _ _ _
      | exact ih2 _ _ _ _ _ _ _ _ _ _ _ _ _
      | exact ih3 _ _ _ _ _ _ _ _ _ _ _
      | exact ih4 _ _ _ _ _ _ _ _ _ _ _ _ _
      | exact impl_GoodPlane.mono _ _ _ _
      | exact impl_Smooth_2.mono _ _ _ _ _ _ _
      | exact LeO.none _
      | refine LeO.ite ?_ ?_
      | refine LeO.bind ?_ (fun _ => ?_)
def impl_Smooth.T3 : Bool × List (List Nat × List Nat) := (true, [([], []), ([0], [0]), ([], []), ([2], [2]), ([], []), ([4], [4]), ([5], [5]), ([1, 3, 6], [1, 3, 6]), ([], []), ([8, 7, 6, 0, 1, 2, 3, 4, 5, 6, 7, 8], [7, 8])])
def impl_Smooth.B3 : List Nat := [0, 1, 0, 4, 0, 16, 48, 127, 0, 511]
theorem impl_Smooth.tab3 : rtab .any (opsOf Try.f45 3) = impl_Smooth.T3 := by kernel_rfl
theorem impl_Smooth.bits3 : waitsOk impl_Smooth.T3.2 impl_Smooth.B3 = true := by kernel_rfl
set_option maxHeartbeats 8000000 in
set_option maxRecDepth 100000 in
theorem impl_Smooth.calls (k : Nat) (a0_0 : Int) (a0_1 : Int) (A0_2 : Option Addr) (c0_2 : Nat) (l0_2 : List Int) (a1 : Int) (r1 : Int) (r2 : Int) (r3 : List Int) (w : World) (hr0_2 : Kd.C (Kd.int .i64) w A0_2 l0_2.length l0_2) (hc0_2 : l0_2.length ≤ c0_2) (h : impl_Smooth.f k a0_0 a0_1 l0_2 a1 = some (r1, r2, r3)) :
    Calls Try.prog 45 #[.agg #[.int .i64 a0_0, .int .i64 a0_1, .slice A0_2 l0_2.length c0_2], .int .i64 a1] w fun e w' => ∃ v2_ : Value, e = .returned (.agg #[.int .i64 r1, .int .i64 r2, v2_]) ∧ Kd.R (Kd.int .i64) 3 w' w.heap.size (fun _ => True) v2_ r3 ∧ Below w.heap.size w w' := by
  have huP := Try.underlying66
  have HR0_2 := Aside0.mk hr0_2
  have HC0_2 := Aside0.mk hc0_2
  clear hr0_2 hc0_2
  have HB := Aside0.mk (Below.refl w.heap.size w)
  have H : ((impl_GoodPlane.f k a0_0 a0_1 l0_2).bind fun t185 => (if t185 = true then (if a1 < 0 then (impl_Smooth.j0 k a1 true a0_0 a0_1 l0_2) else (impl_Smooth.j0 k a1 (decide (a1 > 40)) a0_0 a0_1 l0_2)) else (impl_Smooth.j0 k a1 true a0_0 a0_1 l0_2))) = some (r1, r2, r3) := h
  clear h
  have HC3 := Aside0.mk H
  clear H
  go_enter Try.func45, Try.ntmps45
  go_upto_region 1 with (first | ((with_reducible refine gate_dst (N := 2) rfl ?_); refine box_event ?hg (N := 2) ?hd (cs := #[.int .i64 a0_0, .int .i64 a0_1, .slice A0_2 l0_2.length c0_2]) (t := 66) ?hr ?_; (case hd => rfl); (case hg => rfl); (case hr => first | (go_simp; done) | (go_simp; rfl)); intro gb183 hg w4 hbox hb; have n0_ := Aside0.mk (below_step (by repeat (first | (with_reducible first | exact HB.out | apply below_alloc | apply pw_below_drewN | apply below_drew1) | exact HB.out)) hb); have n1_ := Aside0.mk (hbox); have n2_ := Aside0.mk ((by rw [hg]; exact (below_size (by repeat (first | (with_reducible first | exact HB.out | apply below_alloc | apply pw_below_drewN | apply below_drew1) | exact HB.out))) : w.heap.size ≤ gb183)); have n3_ := n2_; clear HB; have HB := n0_; have BK183 := n1_; have GW183 := n2_; have GE183 := n3_; clear n0_ n1_ n2_ n3_; clear hb hbox hg) | ((with_reducible refine gate_dst (N := 4) rfl ?_); refine box_event ?hg (N := 4) ?hd (cs := #[.int .i64 0, .int .i64 0, .slice none 0 0]) (t := 66) ?hr ?_; (case hd => rfl); (case hg => rfl); (case hr => first | (go_simp; done) | (go_simp; rfl)); intro gb184 hg w5 hbox hb; have n0_ := Aside0.mk (blk_below (g := gb183) (o := .cells #[.int .i64 a0_0, .int .i64 a0_1, .slice A0_2 l0_2.length c0_2] 66 (0, 0)) (by (with_reducible repeat (first | refine blk_drewN ?_ _ | refine blk_drew ?_ | refine blk_alloc ?_ _)); exact BK183.out) hb); have n1_ := Aside0.mk (below_step (by repeat (first | (with_reducible first | exact HB.out | apply below_alloc | apply pw_below_drewN | apply below_drew1 | refine below_set ?_ GE183.out) | exact HB.out)) hb); have n2_ := Aside0.mk (hbox); have n3_ := Aside0.mk ((by rw [hg]; exact (below_size (by repeat (first | (with_reducible first | exact HB.out | apply below_alloc | apply pw_below_drewN | apply below_drew1 | refine below_set ?_ GE183.out) | exact HB.out))) : w.heap.size ≤ gb184)); have n4_ := n3_; have n5_ := Aside0.mk ((by rw [hg]; exact Nat.ne_of_lt (blk_lt (g := gb183) (o := .cells #[.int .i64 a0_0, .int .i64 a0_1, .slice A0_2 l0_2.length c0_2] 66 (0, 0)) (by (with_reducible repeat (first | refine blk_drewN ?_ _ | refine blk_drew ?_ | refine blk_alloc ?_ _)); exact BK183.out)) : gb183 ≠ gb184)); have n6_ := Aside0.mk ((by rw [hg]; exact Nat.ne_of_gt (blk_lt (g := gb183) (o := .cells #[.int .i64 a0_0, .int .i64 a0_1, .slice A0_2 l0_2.length c0_2] 66 (0, 0)) (by (with_reducible repeat (first | refine blk_drewN ?_ _ | refine blk_drew ?_ | refine blk_alloc ?_ _)); exact BK183.out)) : gb184 ≠ gb183)); clear BK183; clear HB; have BK183 := n0_; have HB := n1_; have BK184 := n2_; have GW184 := n3_; have GE184 := n4_; have NB183_184 := n5_; have NB184_183 := n6_; clear n0_ n1_ n2_ n3_ n4_ n5_ n6_; clear hb hbox hg))
  (try simp only [Act.put, List.setIfInBounds_toArray, List.set_cons_zero, List.set_cons_succ])
  go_cut [26] (fun v26 wc => ∃ (kq : Nat) (x26_2 : Bool), v26 = .bool x26_2 ∧ Aside0 (impl_Smooth.j0 kq a1 x26_2 a0_0 a0_1 l0_2 = some (r1, r2, r3)) ∧ Aside0 (kq ≤ k) ∧ Aside0 (wc.heap[gb183]? = some (.cells #[.int .i64 a0_0, .int .i64 a0_1, (.slice A0_2 l0_2.length c0_2)] 66 (0, 0))) ∧ Aside0 (wc.heap[gb184]? = some (.cells #[.int .i64 0, .int .i64 0, (.slice none 0 0)] 66 (0, 0))) ∧ Aside0 (Below w.heap.size w wc))
  case first =>
    have H := HC3.out
    clear HC3
    replace H := Option.bind_eq_some_iff.mp H
    obtain ⟨t185, A60, H⟩ := H
    replace H : (if t185 = true then (if a1 < 0 then (impl_Smooth.j0 k a1 true a0_0 a0_1 l0_2) else (impl_Smooth.j0 k a1 (decide (a1 > 40)) a0_0 a0_1 l0_2)) else (impl_Smooth.j0 k a1 true a0_0 a0_1 l0_2)) = some (r1, r2, r3) := H
    have A6 := Aside0.mk A60
    clear A60
    by_cases c7 : t185 = true
    rotate_left
    · replace c7 := Bool.eq_false_iff.mpr c7
      subst c7
      have H1 : (impl_Smooth.j0 k a1 true a0_0 a0_1 l0_2) = some (r1, r2, r3) := by rw [if_neg (show ¬ (false = true) by decide)] at H; exact H
      clear H
      have H := H1
      clear H1
      have H' := Aside0.mk H
      clear H
      have hnb15 := NB183_184.out
      have hnc15 := NB184_183.out
      have hcz16_0 : w5.cell? ⟨gb183, 0, none⟩ = some (.int .i64 a0_0) := (blk_cell BK183.out 0).trans rfl
      have hcz16_1 : w5.cell? ⟨gb183, 1, none⟩ = some (.int .i64 a0_1) := (blk_cell BK183.out 1).trans rfl
      have hcz16_2 : w5.cell? ⟨gb183, 2, none⟩ = some (.slice A0_2 l0_2.length c0_2) := (blk_cell BK183.out 2).trans rfl
      have hfz16_0 := blk_frozen BK183.out 0
      have hfz16_1 := blk_frozen BK183.out 1
      have hfz16_2 := blk_frozen BK183.out 2
      go_wp2_with (first | ((with_reducible refine gate_callee (f := 106) rfl ?_); refine goesL_ (some 17) rfl rfl Try.func106 (by kernel_rfl) rfl #[.agg #[.int .i64 a0_0, .int .i64 a0_1, .slice A0_2 l0_2.length c0_2]] rfl (by (try simp only [List.map_toArray, List.map_cons, List.map_nil]); first | done | rfl | (simp only [List.length_drop, List.length_take]; rfl)) ?_; (with_reducible refine (impl_GoodPlane.calls k a0_0 a0_1 _ _ l0_2 false _ ?side1 ?side2 A6.out).mono ?_); (case side1 => repeat (first | exact (Kd.C_below HR0_2.out HB.out) | (with_reducible refine Kd.C_alloc ?_ _) | (with_reducible refine Kd.C_drewN ?_ _) | (with_reducible refine Kd.C_drew ?_))); (case side2 => exact HC0_2.out); rintro e w17 ⟨rfl, hb⟩; refine ⟨_, rfl, ?_⟩; have n0_ := Aside0.mk (blk_below (g := gb183) (o := .cells #[.int .i64 a0_0, .int .i64 a0_1, .slice A0_2 l0_2.length c0_2] 66 (0, 0)) (by (with_reducible repeat (first | refine blk_drewN ?_ _ | refine blk_drew ?_ | refine blk_alloc ?_ _)); exact BK183.out) hb); have n1_ := Aside0.mk (blk_below (g := gb184) (o := .cells #[.int .i64 0, .int .i64 0, .slice none 0 0] 66 (0, 0)) (by (with_reducible repeat (first | refine blk_drewN ?_ _ | refine blk_drew ?_ | refine blk_alloc ?_ _)); exact BK184.out) hb); have n2_ := Aside0.mk (below_step (by repeat (first | (with_reducible first | exact HB.out | apply below_alloc | apply pw_below_drewN | apply below_drew1 | refine below_set ?_ GE183.out | refine below_set ?_ GE184.out) | exact HB.out)) hb); clear BK183; clear BK184; clear HB; have BK183 := n0_; have BK184 := n1_; have HB := n2_; clear n0_ n1_ n2_; (try clear hb); (try clear hb2); (try clear hk); (try clear hi)))
      go_meet
      case rel => exact ⟨_, (true), (by first | rfl | (simp; done) | (simp [*]; done)), H', ⟨by first | omega | exact Nat.le_refl _⟩, ⟨by (with_reducible repeat (first | refine blk_drewN ?_ _ | refine blk_drew ?_ | refine blk_alloc ?_ _)); exact BK183.out⟩, ⟨by (with_reducible repeat (first | refine blk_drewN ?_ _ | refine blk_drew ?_ | refine blk_alloc ?_ _)); exact BK184.out⟩, ⟨by repeat (first | (with_reducible first | exact HB.out | apply below_alloc | apply pw_below_drewN | apply below_drew1 | refine below_set ?_ GE183.out | refine below_set ?_ GE184.out) | exact HB.out)⟩⟩
    subst c7
    have H1 : (if a1 < 0 then (impl_Smooth.j0 k a1 true a0_0 a0_1 l0_2) else (impl_Smooth.j0 k a1 (decide (a1 > 40)) a0_0 a0_1 l0_2)) = some (r1, r2, r3) := by rw [if_pos rfl] at H; exact H
    clear H
    have H := H1
    clear H1
    by_cases c8 : a1 < 0
    · rw [if_pos c8] at H
      have c8b0 : decide (a1 < 0) = true := decide_eq_true c8
      clear c8
      (first | rw [c8b0] | (simp only [i64_w, i32_w]; rw [c8b0]) | skip)
      have H' := Aside0.mk H
      clear H
      have hnb9 := NB183_184.out
      have hnc9 := NB184_183.out
      have hcz10_0 : w5.cell? ⟨gb183, 0, none⟩ = some (.int .i64 a0_0) := (blk_cell BK183.out 0).trans rfl
      have hcz10_1 : w5.cell? ⟨gb183, 1, none⟩ = some (.int .i64 a0_1) := (blk_cell BK183.out 1).trans rfl
      have hcz10_2 : w5.cell? ⟨gb183, 2, none⟩ = some (.slice A0_2 l0_2.length c0_2) := (blk_cell BK183.out 2).trans rfl
      have hfz10_0 := blk_frozen BK183.out 0
      have hfz10_1 := blk_frozen BK183.out 1
      have hfz10_2 := blk_frozen BK183.out 2
      go_wp2_with (first | ((with_reducible refine gate_callee (f := 106) rfl ?_); refine goesL_ (some 17) rfl rfl Try.func106 (by kernel_rfl) rfl #[.agg #[.int .i64 a0_0, .int .i64 a0_1, .slice A0_2 l0_2.length c0_2]] rfl (by (try simp only [List.map_toArray, List.map_cons, List.map_nil]); first | done | rfl | (simp only [List.length_drop, List.length_take]; rfl)) ?_; (with_reducible refine (impl_GoodPlane.calls k a0_0 a0_1 _ _ l0_2 true _ ?side1 ?side2 A6.out).mono ?_); (case side1 => repeat (first | exact (Kd.C_below HR0_2.out HB.out) | (with_reducible refine Kd.C_alloc ?_ _) | (with_reducible refine Kd.C_drewN ?_ _) | (with_reducible refine Kd.C_drew ?_))); (case side2 => exact HC0_2.out); rintro e w11 ⟨rfl, hb⟩; refine ⟨_, rfl, ?_⟩; have n0_ := Aside0.mk (blk_below (g := gb183) (o := .cells #[.int .i64 a0_0, .int .i64 a0_1, .slice A0_2 l0_2.length c0_2] 66 (0, 0)) (by (with_reducible repeat (first | refine blk_drewN ?_ _ | refine blk_drew ?_ | refine blk_alloc ?_ _)); exact BK183.out) hb); have n1_ := Aside0.mk (blk_below (g := gb184) (o := .cells #[.int .i64 0, .int .i64 0, .slice none 0 0] 66 (0, 0)) (by (with_reducible repeat (first | refine blk_drewN ?_ _ | refine blk_drew ?_ | refine blk_alloc ?_ _)); exact BK184.out) hb); have n2_ := Aside0.mk (below_step (by repeat (first | (with_reducible first | exact HB.out | apply below_alloc | apply pw_below_drewN | apply below_drew1 | refine below_set ?_ GE183.out | refine below_set ?_ GE184.out) | exact HB.out)) hb); clear BK183; clear BK184; clear HB; have BK183 := n0_; have BK184 := n1_; have HB := n2_; clear n0_ n1_ n2_; (try clear hb); (try clear hb2); (try clear hk); (try clear hi)))
      go_meet
      case rel => exact ⟨_, (true), (by first | rfl | (simp; done) | (simp [*]; done)), H', ⟨by first | omega | exact Nat.le_refl _⟩, ⟨by (with_reducible repeat (first | refine blk_drewN ?_ _ | refine blk_drew ?_ | refine blk_alloc ?_ _)); exact BK183.out⟩, ⟨by (with_reducible repeat (first | refine blk_drewN ?_ _ | refine blk_drew ?_ | refine blk_alloc ?_ _)); exact BK184.out⟩, ⟨by repeat (first | (with_reducible first | exact HB.out | apply below_alloc | apply pw_below_drewN | apply below_drew1 | refine below_set ?_ GE183.out | refine below_set ?_ GE184.out) | exact HB.out)⟩⟩
    rw [if_neg c8] at H
    have c8b0 : decide (a1 < 0) = false := decide_eq_false c8
    clear c8
    (first | rw [c8b0] | (simp only [i64_w, i32_w]; rw [c8b0]) | skip)
    have H' := Aside0.mk H
    clear H
    have hnb12 := NB183_184.out
    have hnc12 := NB184_183.out
    have hcz13_0 : w5.cell? ⟨gb183, 0, none⟩ = some (.int .i64 a0_0) := (blk_cell BK183.out 0).trans rfl
    have hcz13_1 : w5.cell? ⟨gb183, 1, none⟩ = some (.int .i64 a0_1) := (blk_cell BK183.out 1).trans rfl
    have hcz13_2 : w5.cell? ⟨gb183, 2, none⟩ = some (.slice A0_2 l0_2.length c0_2) := (blk_cell BK183.out 2).trans rfl
    have hfz13_0 := blk_frozen BK183.out 0
    have hfz13_1 := blk_frozen BK183.out 1
    have hfz13_2 := blk_frozen BK183.out 2
    go_wp2_with (first | ((with_reducible refine gate_callee (f := 106) rfl ?_); refine goesL_ (some 17) rfl rfl Try.func106 (by kernel_rfl) rfl #[.agg #[.int .i64 a0_0, .int .i64 a0_1, .slice A0_2 l0_2.length c0_2]] rfl (by (try simp only [List.map_toArray, List.map_cons, List.map_nil]); first | done | rfl | (simp only [List.length_drop, List.length_take]; rfl)) ?_; (with_reducible refine (impl_GoodPlane.calls k a0_0 a0_1 _ _ l0_2 true _ ?side1 ?side2 A6.out).mono ?_); (case side1 => repeat (first | exact (Kd.C_below HR0_2.out HB.out) | (with_reducible refine Kd.C_alloc ?_ _) | (with_reducible refine Kd.C_drewN ?_ _) | (with_reducible refine Kd.C_drew ?_))); (case side2 => exact HC0_2.out); rintro e w14 ⟨rfl, hb⟩; refine ⟨_, rfl, ?_⟩; have n0_ := Aside0.mk (blk_below (g := gb183) (o := .cells #[.int .i64 a0_0, .int .i64 a0_1, .slice A0_2 l0_2.length c0_2] 66 (0, 0)) (by (with_reducible repeat (first | refine blk_drewN ?_ _ | refine blk_drew ?_ | refine blk_alloc ?_ _)); exact BK183.out) hb); have n1_ := Aside0.mk (blk_below (g := gb184) (o := .cells #[.int .i64 0, .int .i64 0, .slice none 0 0] 66 (0, 0)) (by (with_reducible repeat (first | refine blk_drewN ?_ _ | refine blk_drew ?_ | refine blk_alloc ?_ _)); exact BK184.out) hb); have n2_ := Aside0.mk (below_step (by repeat (first | (with_reducible first | exact HB.out | apply below_alloc | apply pw_below_drewN | apply below_drew1 | refine below_set ?_ GE183.out | refine below_set ?_ GE184.out) | exact HB.out)) hb); clear BK183; clear BK184; clear HB; have BK183 := n0_; have BK184 := n1_; have HB := n2_; clear n0_ n1_ n2_; (try clear hb); (try clear hb2); (try clear hk); (try clear hi)))
    go_meet
    case rel => exact ⟨_, (decide (a1 > 40)), (by first | rfl | (simp; done) | (simp [*]; done)), H', ⟨by first | omega | exact Nat.le_refl _⟩, ⟨by (with_reducible repeat (first | refine blk_drewN ?_ _ | refine blk_drew ?_ | refine blk_alloc ?_ _)); exact BK183.out⟩, ⟨by (with_reducible repeat (first | refine blk_drewN ?_ _ | refine blk_drew ?_ | refine blk_alloc ?_ _)); exact BK184.out⟩, ⟨by repeat (first | (with_reducible first | exact HB.out | apply below_alloc | apply pw_below_drewN | apply below_drew1 | refine below_set ?_ GE183.out | refine below_set ?_ GE184.out) | exact HB.out)⟩⟩
  case rest =>
    clear HC3
    try clear c1
    try clear p2
    try clear c6
    try clear c7
    try clear c8
    try clear c8b0
    try clear c9
    try clear c12
    try clear c15
    try clear hcz10_0
    try clear hcz10_1
    try clear hcz10_2
    try clear hcz13_0
    try clear hcz13_1
    try clear hcz13_2
    try clear hcz16_0
    try clear hcz16_1
    try clear hcz16_2
    try clear hfz10_0
    try clear hfz10_1
    try clear hfz10_2
    try clear hfz13_0
    try clear hfz13_1
    try clear hfz13_2
    try clear hfz16_0
    try clear hfz16_1
    try clear hfz16_2
    obtain ⟨kq, x26_2, rfl, HA, HJ2, BK183, BK184, HB⟩ := hcut
    cases kq with
    | zero => exact absurd HA.out (by simp [impl_Smooth.j0])
    | succ kj2 =>
      have H := HA.out
      clear HA
      simp only [impl_Smooth.j0] at H
      by_cases c18 : x26_2 = true
      · subst c18
        have H1 : (some (0, 0, ([] : List Int))) = some (r1, r2, r3) := by rw [if_pos rfl] at H; exact H
        clear H
        have H := H1
        clear H1
        simp only [Option.some.injEq, Prod.mk.injEq] at H
        obtain ⟨rfl, rfl, rfl⟩ := H
        have hnb19 := NB184_183.out
        have hnc19 := NB183_184.out
        have hcz20_0 : wc.cell? ⟨gb184, 0, none⟩ = some (.int .i64 0) := (blk_cell BK184.out 0).trans rfl
        have hcz20_1 : wc.cell? ⟨gb184, 1, none⟩ = some (.int .i64 0) := (blk_cell BK184.out 1).trans rfl
        have hcz20_2 : wc.cell? ⟨gb184, 2, none⟩ = some (.slice none 0 0) := (blk_cell BK184.out 2).trans rfl
        have hfz20_0 := blk_frozen BK184.out 0
        have hfz20_1 := blk_frozen BK184.out 1
        have hfz20_2 := blk_frozen BK184.out 2
        go_wp2
        refine bodyPost_ret (results_cell_row rfl _ _ gb184 66 #[.int .i64 0, .int .i64 0, .slice none 0 0] (0, 0) _ rfl (by (with_reducible repeat (first | refine blk_drewN ?_ _ | refine blk_drew ?_ | refine blk_alloc ?_ _)); refine blk_put (cs := #[.int .i64 0, .int .i64 0, .slice none 0 0]) ?_ 2 _ rfl; (with_reducible repeat (first | refine blk_drewN ?_ _ | refine blk_drew ?_ | refine blk_alloc ?_ _)); refine blk_put (cs := #[.int .i64 0, .int .i64 0, .slice none 0 0]) ?_ 1 _ rfl; (with_reducible repeat (first | refine blk_drewN ?_ _ | refine blk_drew ?_ | refine blk_alloc ?_ _)); refine blk_put (cs := #[.int .i64 0, .int .i64 0, .slice none 0 0]) ?_ 0 _ rfl; (with_reducible repeat (first | refine blk_drewN ?_ _ | refine blk_drew ?_ | refine blk_alloc ?_ _)); exact BK184.out) Try.underlying66 rfl (by kernel_rfl)) rfl ?_
        exact ⟨_, by first | rfl | (simp [errW_none, errW_some] <;> rfl) | (simp [*, errW_none, errW_some] <;> rfl), by first | exact Kd.R_nil _ _ _ _ _ | exact Kd.N_nil _ _ _ _ _ | exact Kd.V_nil _ _ _ _ _ | exact Kd.Q_nil _ _ _ _ _ | exact Kd.S_nil _ _ _ _ _, by repeat (first | (with_reducible first | exact HB.out | apply below_alloc | apply pw_below_drewN | apply below_drew1 | refine below_set ?_ GE183.out | refine below_set ?_ GE184.out) | exact HB.out)⟩
      replace c18 := Bool.eq_false_iff.mpr c18
      subst c18
      have H1 : ((impl_zcopy.f l0_2).bind fun t186 => (if a1 < 8 then (some (a0_0, a0_1, t186)) else (impl_Smooth.l0 kj2 (wrap64 (a1 + (wrap64 (Int.tdiv (wrap64 (a1 * a1)) 16)))) (wrap64 (Int.tdiv a1 2)) (wrap64 ((wrap64 (Int.tdiv a1 4)) + 1)) a0_1 0 a0_0 a0_1 l0_2 a0_0 a0_1 t186))) = some (r1, r2, r3) := by rw [if_neg (show ¬ (false = true) by decide)] at H; exact H
      clear H
      have H := H1
      clear H1
      replace H := Option.bind_eq_some_iff.mp H
      obtain ⟨t186, A210, H⟩ := H
      replace H : (if a1 < 8 then (some (a0_0, a0_1, t186)) else (impl_Smooth.l0 kj2 (wrap64 (a1 + (wrap64 (Int.tdiv (wrap64 (a1 * a1)) 16)))) (wrap64 (Int.tdiv a1 2)) (wrap64 ((wrap64 (Int.tdiv a1 4)) + 1)) a0_1 0 a0_0 a0_1 l0_2 a0_0 a0_1 t186)) = some (r1, r2, r3) := H
      have A21 := Aside0.mk A210
      clear A210
      by_cases c22 : a1 < 8
      · rw [if_pos c22] at H
        have c22b0 : decide (a1 < 8) = true := decide_eq_true c22
        clear c22
        simp only [Option.some.injEq, Prod.mk.injEq] at H
        obtain ⟨rfl, rfl, rfl⟩ := H
        try go_wp2
        have n0_ := Aside0.mk (blk_drew BK183.out)
        have n1_ := Aside0.mk (blk_drew BK184.out)
        have n2_ := Aside0.mk (below_drew1 HB.out)
        clear BK183
        clear BK184
        clear HB
        have BK183 := n0_
        have BK184 := n1_
        have HB := n2_
        clear n0_ n1_ n2_
        refine start_ (n := 10) (S := fun w' => w'.cell? ⟨gb183, 0, none⟩ = some (.int .i64 a0_0) ∧ w'.cell? ⟨gb183, 1, none⟩ = some (.int .i64 a0_1) ∧ w'.cell? ⟨gb183, 2, none⟩ = some (.slice A0_2 l0_2.length c0_2)) (ds := []) #[false, false, false, false, false, false, false, false, false, false] (by kernel_rfl) rfl rfl ⟨(blk_cell BK183.out 0).trans rfl, (blk_cell BK183.out 1).trans rfl, (blk_cell BK183.out 2).trans rfl⟩ (fun hHeld => ?_); refine with_tabW impl_Smooth.tab3 impl_Smooth.bits3 (fun HT_ HW_ => ?_)
        generalize wc.drew = w23 at BK183 BK184 HB hHeld ⊢
        refine pure_ (i := 0) (N := some 28) (v := ?_) (a' := ?_) #[true, false, false, false, false, false, false, false, false, false] rfl rfl (any_of HT_.out (by kernel_rfl)) (fun _ _ _ h => h) (Or.inl ⟨by rfl, ?_⟩) ?_ ?_
        rotate_left
        · intro w'
          go_simp
          with_reducible rfl
        rotate_left
        · simp only [Act.put, List.setIfInBounds_toArray, List.set_cons_zero, List.set_cons_succ, i64_w, i32_w]
          rfl
        refine pure_ (i := 2) (N := some 30) (v := ?_) (a' := ?_) #[true, false, true, false, false, false, false, false, false, false] rfl rfl (any_of HT_.out (by kernel_rfl)) (fun _ _ _ h => h) (Or.inl ⟨by rfl, ?_⟩) ?_ ?_
        rotate_left
        · intro w'
          go_simp
          with_reducible rfl
        rotate_left
        · simp only [Act.put, List.setIfInBounds_toArray, List.set_cons_zero, List.set_cons_succ, i64_w, i32_w]
          rfl
        refine pure_ (i := 4) (N := some 32) (v := ?_) (a' := ?_) #[true, false, true, false, true, false, false, false, false, false] rfl rfl (any_of HT_.out (by kernel_rfl)) (fun _ _ _ h => h) (Or.inl ⟨by rfl, ?_⟩) ?_ ?_
        rotate_left
        · intro w'
          go_simp
          with_reducible rfl
        rotate_left
        · simp only [Act.put, List.setIfInBounds_toArray, List.set_cons_zero, List.set_cons_succ, i64_w, i32_w]
          rfl
        refine take_ (i := 1) (N := some 29) (v := ?_) (a' := ?_) #[true, true, true, false, true, false, false, false, false, false] rfl rfl (take_ofW HT_.out HW_.out (by kernel_rfl)) (fun _ _ _ h => h) (Or.inl ⟨by rfl, ?_⟩) hHeld ?_ ?_
        rotate_left
        · rintro w' ⟨s0, s1, s2⟩
          go_simp
          with_reducible rfl
        rotate_left
        · simp only [Act.put, List.setIfInBounds_toArray, List.set_cons_zero, List.set_cons_succ, i64_w, i32_w]
          rfl
        refine take_ (i := 3) (N := some 31) (v := ?_) (a' := ?_) #[true, true, true, true, true, false, false, false, false, false] rfl rfl (take_ofW HT_.out HW_.out (by kernel_rfl)) (fun _ _ _ h => h) (Or.inl ⟨by rfl, ?_⟩) hHeld ?_ ?_
        rotate_left
        · rintro w' ⟨s0, s1, s2⟩
          go_simp
          with_reducible rfl
        rotate_left
        · simp only [Act.put, List.setIfInBounds_toArray, List.set_cons_zero, List.set_cons_succ, i64_w, i32_w]
          rfl
        refine take_ (i := 5) (N := some 33) (v := ?_) (a' := ?_) #[true, true, true, true, true, true, false, false, false, false] rfl rfl (take_ofW HT_.out HW_.out (by kernel_rfl)) (fun _ _ _ h => h) (Or.inl ⟨by rfl, ?_⟩) hHeld ?_ ?_
        rotate_left
        · rintro w' ⟨s0, s1, s2⟩
          go_simp
          with_reducible rfl
        rotate_left
        · simp only [Act.put, List.setIfInBounds_toArray, List.set_cons_zero, List.set_cons_succ, i64_w, i32_w]
          rfl
        refine join_ (σ := Value × Nat) 1 #[true, true, true, true, true, true, true, true, true, false] (fun s_ => [(34, s_.1), (5, .pointer (some ⟨s_.2, 0, none⟩)), (35, .agg #[.int .i64 a0_0, .int .i64 a0_1, s_.1])]) (fun s_ w' => (w'.cell? ⟨gb183, 0, none⟩ = some (.int .i64 a0_0) ∧ w'.cell? ⟨gb183, 1, none⟩ = some (.int .i64 a0_1) ∧ w'.cell? ⟨gb183, 2, none⟩ = some (.slice A0_2 l0_2.length c0_2)) ∧ (Kd.R (Kd.int .i64) 3 w' w.heap.size (fun _ => True) s_.1 t186) ∧ (w'.heap[gb183]? = some (.cells #[.int .i64 a0_0, .int .i64 a0_1, .slice A0_2 l0_2.length c0_2] 66 (0, 0))) ∧ (w'.heap[gb184]? = some (.cells #[.int .i64 0, .int .i64 0, .slice none 0 0] 66 (0, 0))) ∧ (w'.heap[s_.2]? = some (.cells #[.int .i64 0, .int .i64 0, .slice none 0 0] 66 (0, 0))) ∧ (w.heap.size ≤ s_.2) ∧ (w.heap.size ≤ s_.2) ∧ (gb183 ≠ s_.2) ∧ (s_.2 ≠ gb183) ∧ (gb184 ≠ s_.2) ∧ (s_.2 ≠ gb184) ∧ (Below w.heap.size w w')) ?_ ?_
        rotate_left
        · intro hCont
          refine two_ (i := 6) (j := 8) (Ni := some 34) (Nj := some 5) #[true, true, true, true, true, true, true, false, false, false] #[true, true, true, true, true, true, false, false, true, false] rfl rfl rfl rfl (two_of HT_.out (by kernel_rfl)) (by decide) (by decide) (fun K hK => ?_) (fun K hK => ?_)
          · skip
            refine goes_ Try.func107 (by kernel_rfl) rfl #[.slice A0_2 l0_2.length c0_2] (by rfl) rfl rfl (by (try simp only [List.map_toArray, List.map_cons, List.map_nil]); first | done | rfl | (simp only [List.length_drop, List.length_take]; rfl)) ?_
            with_reducible refine (impl_zcopy.calls _ _ l0_2 t186 _ ?side1 ?side2 A21.out).mono ?_
            (case side1 => repeat (first | exact (Kd.C_below HR0_2.out HB.out) | (with_reducible refine Kd.C_alloc ?_ _) | (with_reducible refine Kd.C_drewN ?_ _) | (with_reducible refine Kd.C_drew ?_)))
            (case side2 => exact HC0_2.out)
            rintro e w24 ⟨v187, rfl, ho0, hb⟩
            refine ⟨_, rfl, ?_⟩
            have n0_ := Aside0.mk (Kd.R_lower ho0 (below_size (by repeat (first | (with_reducible first | exact HB.out | apply below_alloc | apply pw_below_drewN | apply below_drew1 | refine below_set ?_ GE183.out | refine below_set ?_ GE184.out) | exact HB.out))))
            have n1_ := Aside0.mk (blk_below (g := gb183) (o := .cells #[.int .i64 a0_0, .int .i64 a0_1, .slice A0_2 l0_2.length c0_2] 66 (0, 0)) (by (with_reducible repeat (first | refine blk_drewN ?_ _ | refine blk_drew ?_ | refine blk_alloc ?_ _)); exact BK183.out) hb)
            have n2_ := Aside0.mk (blk_below (g := gb184) (o := .cells #[.int .i64 0, .int .i64 0, .slice none 0 0] 66 (0, 0)) (by (with_reducible repeat (first | refine blk_drewN ?_ _ | refine blk_drew ?_ | refine blk_alloc ?_ _)); exact BK184.out) hb)
            have n3_ := Aside0.mk (below_step (by repeat (first | (with_reducible first | exact HB.out | apply below_alloc | apply pw_below_drewN | apply below_drew1 | refine below_set ?_ GE183.out | refine below_set ?_ GE184.out) | exact HB.out)) hb)
            clear BK183
            clear BK184
            clear HB
            have HO188 := n0_
            have BK183 := n1_
            have BK184 := n2_
            have HB := n3_
            clear n0_ n1_ n2_ n3_
            (try clear hb)
            (try clear hb2)
            (try clear hk)
            (try clear hi)
            (try clear ho0)
            obtain ⟨Ao25, co25, eo25⟩ := Kd.R_slice HO188.out
            (first | subst eo25 | (injection eo25 with f1_ f2_ f3_; have f4_ := f1_.symm; have f5_ := f3_.symm; clear f1_ f2_ f3_; subst f4_; subst f5_))
            refine hK.out _ _ ⟨(blk_cell BK183.out 0).trans rfl, (blk_cell BK183.out 1).trans rfl, (blk_cell BK183.out 2).trans rfl⟩ (fun hHeld => ?_)
            clear hK K
            refine norm_ (a' := ?_) ?_ ?_
            rotate_left
            · show Act.put _ (some 34) _ = _
              simp only [Act.put, List.setIfInBounds_toArray, List.set_cons_zero, List.set_cons_succ, i64_w, i32_w]
              rfl
            refine pure_ (i := 7) (N := some 35) (v := ?_) (a' := ?_) #[true, true, true, true, true, true, true, true, false, false] rfl rfl (any_of HT_.out (by kernel_rfl)) (fun _ _ _ h => h) (Or.inl ⟨by rfl, ?_⟩) ?_ ?_
            rotate_left
            · intro w'
              go_simp
              with_reducible rfl
            rotate_left
            · simp only [Act.put, List.setIfInBounds_toArray, List.set_cons_zero, List.set_cons_succ, i64_w, i32_w]
              rfl
            refine one_ (i := 8) (N := some 5) #[true, true, true, true, true, true, true, true, true, false] rfl rfl (one_of HT_.out (by kernel_rfl)) (by decide) (fun K hK => ?_)
            refine box_step ?hg (N := 5) ?hd (cs := #[.int .i64 0, .int .i64 0, .slice none 0 0]) (t := 66) ?hr ?_; (case hd => rfl); (case hg => rfl); (case hr => first | (go_simp; done) | (go_simp; rfl))
            intro gb189 hg w26 hbox hb
            have n0_ := Aside0.mk (Kd.R_below (by (with_reducible repeat (first | apply Kd.R_alloc | apply Kd.R_drewN | apply Kd.R_drew)); exact HO188.out) hb)
            have n1_ := Aside0.mk (blk_below (g := gb183) (o := .cells #[.int .i64 a0_0, .int .i64 a0_1, .slice A0_2 l0_2.length c0_2] 66 (0, 0)) (by (with_reducible repeat (first | refine blk_drewN ?_ _ | refine blk_drew ?_ | refine blk_alloc ?_ _)); exact BK183.out) hb)
            have n2_ := Aside0.mk (blk_below (g := gb184) (o := .cells #[.int .i64 0, .int .i64 0, .slice none 0 0] 66 (0, 0)) (by (with_reducible repeat (first | refine blk_drewN ?_ _ | refine blk_drew ?_ | refine blk_alloc ?_ _)); exact BK184.out) hb)
            have n3_ := Aside0.mk (below_step (by repeat (first | (with_reducible first | exact HB.out | apply below_alloc | apply pw_below_drewN | apply below_drew1 | refine below_set ?_ GE183.out | refine below_set ?_ GE184.out) | exact HB.out)) hb)
            have n4_ := Aside0.mk (hbox)
            have n5_ := Aside0.mk ((by rw [hg]; exact (below_size (by repeat (first | (with_reducible first | exact HB.out | apply below_alloc | apply pw_below_drewN | apply below_drew1 | refine below_set ?_ GE183.out | refine below_set ?_ GE184.out) | exact HB.out))) : w.heap.size ≤ gb189))
            have n6_ := Aside0.mk ((by rw [hg]; exact (below_size (by repeat (first | (with_reducible first | exact HB.out | apply below_alloc | apply pw_below_drewN | apply below_drew1 | refine below_set ?_ GE183.out | refine below_set ?_ GE184.out) | exact HB.out))) : w.heap.size ≤ gb189))
            have n7_ := Aside0.mk ((by rw [hg]; exact Nat.ne_of_lt (blk_lt (g := gb183) (o := .cells #[.int .i64 a0_0, .int .i64 a0_1, .slice A0_2 l0_2.length c0_2] 66 (0, 0)) (by (with_reducible repeat (first | refine blk_drewN ?_ _ | refine blk_drew ?_ | refine blk_alloc ?_ _)); exact BK183.out)) : gb183 ≠ gb189))
            have n8_ := Aside0.mk ((by rw [hg]; exact Nat.ne_of_gt (blk_lt (g := gb183) (o := .cells #[.int .i64 a0_0, .int .i64 a0_1, .slice A0_2 l0_2.length c0_2] 66 (0, 0)) (by (with_reducible repeat (first | refine blk_drewN ?_ _ | refine blk_drew ?_ | refine blk_alloc ?_ _)); exact BK183.out)) : gb189 ≠ gb183))
            have n9_ := Aside0.mk ((by rw [hg]; exact Nat.ne_of_lt (blk_lt (g := gb184) (o := .cells #[.int .i64 0, .int .i64 0, .slice none 0 0] 66 (0, 0)) (by (with_reducible repeat (first | refine blk_drewN ?_ _ | refine blk_drew ?_ | refine blk_alloc ?_ _)); exact BK184.out)) : gb184 ≠ gb189))
            have n10_ := Aside0.mk ((by rw [hg]; exact Nat.ne_of_gt (blk_lt (g := gb184) (o := .cells #[.int .i64 0, .int .i64 0, .slice none 0 0] 66 (0, 0)) (by (with_reducible repeat (first | refine blk_drewN ?_ _ | refine blk_drew ?_ | refine blk_alloc ?_ _)); exact BK184.out)) : gb189 ≠ gb184))
            clear HO188
            clear BK183
            clear BK184
            clear HB
            have HO188 := n0_
            have BK183 := n1_
            have BK184 := n2_
            have HB := n3_
            have BK189 := n4_
            have GW189 := n5_
            have GE189 := n6_
            have NB183_189 := n7_
            have NB189_183 := n8_
            have NB184_189 := n9_
            have NB189_184 := n10_
            clear n0_ n1_ n2_ n3_ n4_ n5_ n6_ n7_ n8_ n9_ n10_
            clear hb hbox hg
            refine hK.out _ _ ⟨(blk_cell BK183.out 0).trans rfl, (blk_cell BK183.out 1).trans rfl, (blk_cell BK183.out 2).trans rfl⟩ (fun hHeld => ?_)
            clear hK K
            refine norm_ (a' := ?_) ?_ ?_
            rotate_left
            · show Act.put _ (some 5) _ = _
              simp only [Act.put, List.setIfInBounds_toArray, List.set_cons_zero, List.set_cons_succ, i64_w, i32_w]
              rfl
            exact norm_ (by simp only [putAll, Act.put, List.setIfInBounds_toArray, List.set_cons_zero, List.set_cons_succ]) (hCont (.slice Ao25 t186.length co25, gb189) _ ⟨hHeld, (by (with_reducible repeat (first | apply Kd.R_alloc | apply Kd.R_drewN | apply Kd.R_drew)); exact HO188.out), (by (with_reducible repeat (first | refine blk_drewN ?_ _ | refine blk_drew ?_ | refine blk_alloc ?_ _)); exact BK183.out), (by (with_reducible repeat (first | refine blk_drewN ?_ _ | refine blk_drew ?_ | refine blk_alloc ?_ _)); exact BK184.out), (by (with_reducible repeat (first | refine blk_drewN ?_ _ | refine blk_drew ?_ | refine blk_alloc ?_ _)); exact BK189.out), GW189.out, GE189.out, NB183_189.out, NB189_183.out, NB184_189.out, NB189_184.out, (by repeat (first | (with_reducible first | exact HB.out | apply below_alloc | apply pw_below_drewN | apply below_drew1 | refine below_set ?_ GE183.out | refine below_set ?_ GE184.out | refine below_set ?_ GE189.out) | exact HB.out))⟩)
          · skip
            refine box_step ?hg (N := 5) ?hd (cs := #[.int .i64 0, .int .i64 0, .slice none 0 0]) (t := 66) ?hr ?_; (case hd => rfl); (case hg => rfl); (case hr => first | (go_simp; done) | (go_simp; rfl))
            intro gb189 hg w24 hbox hb
            have n0_ := Aside0.mk (blk_below (g := gb183) (o := .cells #[.int .i64 a0_0, .int .i64 a0_1, .slice A0_2 l0_2.length c0_2] 66 (0, 0)) (by (with_reducible repeat (first | refine blk_drewN ?_ _ | refine blk_drew ?_ | refine blk_alloc ?_ _)); exact BK183.out) hb)
            have n1_ := Aside0.mk (blk_below (g := gb184) (o := .cells #[.int .i64 0, .int .i64 0, .slice none 0 0] 66 (0, 0)) (by (with_reducible repeat (first | refine blk_drewN ?_ _ | refine blk_drew ?_ | refine blk_alloc ?_ _)); exact BK184.out) hb)
            have n2_ := Aside0.mk (below_step (by repeat (first | (with_reducible first | exact HB.out | apply below_alloc | apply pw_below_drewN | apply below_drew1 | refine below_set ?_ GE183.out | refine below_set ?_ GE184.out) | exact HB.out)) hb)
            have n3_ := Aside0.mk (hbox)
            have n4_ := Aside0.mk ((by rw [hg]; exact (below_size (by repeat (first | (with_reducible first | exact HB.out | apply below_alloc | apply pw_below_drewN | apply below_drew1 | refine below_set ?_ GE183.out | refine below_set ?_ GE184.out) | exact HB.out))) : w.heap.size ≤ gb189))
            have n5_ := Aside0.mk ((by rw [hg]; exact (below_size (by repeat (first | (with_reducible first | exact HB.out | apply below_alloc | apply pw_below_drewN | apply below_drew1 | refine below_set ?_ GE183.out | refine below_set ?_ GE184.out) | exact HB.out))) : w.heap.size ≤ gb189))
            have n6_ := Aside0.mk ((by rw [hg]; exact Nat.ne_of_lt (blk_lt (g := gb183) (o := .cells #[.int .i64 a0_0, .int .i64 a0_1, .slice A0_2 l0_2.length c0_2] 66 (0, 0)) (by (with_reducible repeat (first | refine blk_drewN ?_ _ | refine blk_drew ?_ | refine blk_alloc ?_ _)); exact BK183.out)) : gb183 ≠ gb189))
            have n7_ := Aside0.mk ((by rw [hg]; exact Nat.ne_of_gt (blk_lt (g := gb183) (o := .cells #[.int .i64 a0_0, .int .i64 a0_1, .slice A0_2 l0_2.length c0_2] 66 (0, 0)) (by (with_reducible repeat (first | refine blk_drewN ?_ _ | refine blk_drew ?_ | refine blk_alloc ?_ _)); exact BK183.out)) : gb189 ≠ gb183))
            have n8_ := Aside0.mk ((by rw [hg]; exact Nat.ne_of_lt (blk_lt (g := gb184) (o := .cells #[.int .i64 0, .int .i64 0, .slice none 0 0] 66 (0, 0)) (by (with_reducible repeat (first | refine blk_drewN ?_ _ | refine blk_drew ?_ | refine blk_alloc ?_ _)); exact BK184.out)) : gb184 ≠ gb189))
            have n9_ := Aside0.mk ((by rw [hg]; exact Nat.ne_of_gt (blk_lt (g := gb184) (o := .cells #[.int .i64 0, .int .i64 0, .slice none 0 0] 66 (0, 0)) (by (with_reducible repeat (first | refine blk_drewN ?_ _ | refine blk_drew ?_ | refine blk_alloc ?_ _)); exact BK184.out)) : gb189 ≠ gb184))
            clear BK183
            clear BK184
            clear HB
            have BK183 := n0_
            have BK184 := n1_
            have HB := n2_
            have BK189 := n3_
            have GW189 := n4_
            have GE189 := n5_
            have NB183_189 := n6_
            have NB189_183 := n7_
            have NB184_189 := n8_
            have NB189_184 := n9_
            clear n0_ n1_ n2_ n3_ n4_ n5_ n6_ n7_ n8_ n9_
            clear hb hbox hg
            refine hK.out _ _ ⟨(blk_cell BK183.out 0).trans rfl, (blk_cell BK183.out 1).trans rfl, (blk_cell BK183.out 2).trans rfl⟩ (fun hHeld => ?_)
            clear hK K
            refine norm_ (a' := ?_) ?_ ?_
            rotate_left
            · show Act.put _ (some 5) _ = _
              simp only [Act.put, List.setIfInBounds_toArray, List.set_cons_zero, List.set_cons_succ, i64_w, i32_w]
              rfl
            refine one_ (i := 6) (N := some 34) #[true, true, true, true, true, true, true, false, true, false] rfl rfl (one_of HT_.out (by kernel_rfl)) (by decide) (fun K hK => ?_)
            refine goes_ Try.func107 (by kernel_rfl) rfl #[.slice A0_2 l0_2.length c0_2] (by rfl) rfl rfl (by (try simp only [List.map_toArray, List.map_cons, List.map_nil]); first | done | rfl | (simp only [List.length_drop, List.length_take]; rfl)) ?_
            with_reducible refine (impl_zcopy.calls _ _ l0_2 t186 _ ?side1 ?side2 A21.out).mono ?_
            (case side1 => repeat (first | exact (Kd.C_below HR0_2.out HB.out) | (with_reducible refine Kd.C_alloc ?_ _) | (with_reducible refine Kd.C_drewN ?_ _) | (with_reducible refine Kd.C_drew ?_)))
            (case side2 => exact HC0_2.out)
            rintro e w25 ⟨v187, rfl, ho0, hb⟩
            refine ⟨_, rfl, ?_⟩
            have n0_ := Aside0.mk (Kd.R_lower ho0 (below_size (by repeat (first | (with_reducible first | exact HB.out | apply below_alloc | apply pw_below_drewN | apply below_drew1 | refine below_set ?_ GE183.out | refine below_set ?_ GE184.out | refine below_set ?_ GE189.out) | exact HB.out))))
            have n1_ := Aside0.mk (blk_below (g := gb183) (o := .cells #[.int .i64 a0_0, .int .i64 a0_1, .slice A0_2 l0_2.length c0_2] 66 (0, 0)) (by (with_reducible repeat (first | refine blk_drewN ?_ _ | refine blk_drew ?_ | refine blk_alloc ?_ _)); exact BK183.out) hb)
            have n2_ := Aside0.mk (blk_below (g := gb184) (o := .cells #[.int .i64 0, .int .i64 0, .slice none 0 0] 66 (0, 0)) (by (with_reducible repeat (first | refine blk_drewN ?_ _ | refine blk_drew ?_ | refine blk_alloc ?_ _)); exact BK184.out) hb)
            have n3_ := Aside0.mk (blk_below (g := gb189) (o := .cells #[.int .i64 0, .int .i64 0, .slice none 0 0] 66 (0, 0)) (by (with_reducible repeat (first | refine blk_drewN ?_ _ | refine blk_drew ?_ | refine blk_alloc ?_ _)); exact BK189.out) hb)
            have n4_ := Aside0.mk (below_step (by repeat (first | (with_reducible first | exact HB.out | apply below_alloc | apply pw_below_drewN | apply below_drew1 | refine below_set ?_ GE183.out | refine below_set ?_ GE184.out | refine below_set ?_ GE189.out) | exact HB.out)) hb)
            clear BK183
            clear BK184
            clear BK189
            clear HB
            have HO188 := n0_
            have BK183 := n1_
            have BK184 := n2_
            have BK189 := n3_
            have HB := n4_
            clear n0_ n1_ n2_ n3_ n4_
            (try clear hb)
            (try clear hb2)
            (try clear hk)
            (try clear hi)
            (try clear ho0)
            obtain ⟨Ao26, co26, eo26⟩ := Kd.R_slice HO188.out
            (first | subst eo26 | (injection eo26 with f1_ f2_ f3_; have f4_ := f1_.symm; have f5_ := f3_.symm; clear f1_ f2_ f3_; subst f4_; subst f5_))
            refine hK.out _ _ ⟨(blk_cell BK183.out 0).trans rfl, (blk_cell BK183.out 1).trans rfl, (blk_cell BK183.out 2).trans rfl⟩ (fun hHeld => ?_)
            clear hK K
            refine norm_ (a' := ?_) ?_ ?_
            rotate_left
            · show Act.put _ (some 34) _ = _
              simp only [Act.put, List.setIfInBounds_toArray, List.set_cons_zero, List.set_cons_succ, i64_w, i32_w]
              rfl
            refine pure_ (i := 7) (N := some 35) (v := ?_) (a' := ?_) #[true, true, true, true, true, true, true, true, true, false] rfl rfl (any_of HT_.out (by kernel_rfl)) (fun _ _ _ h => h) (Or.inl ⟨by rfl, ?_⟩) ?_ ?_
            rotate_left
            · intro w'
              go_simp
              with_reducible rfl
            rotate_left
            · simp only [Act.put, List.setIfInBounds_toArray, List.set_cons_zero, List.set_cons_succ, i64_w, i32_w]
              rfl
            exact norm_ (by simp only [putAll, Act.put, List.setIfInBounds_toArray, List.set_cons_zero, List.set_cons_succ]) (hCont (.slice Ao26 t186.length co26, gb189) _ ⟨hHeld, (by (with_reducible repeat (first | apply Kd.R_alloc | apply Kd.R_drewN | apply Kd.R_drew)); exact HO188.out), (by (with_reducible repeat (first | refine blk_drewN ?_ _ | refine blk_drew ?_ | refine blk_alloc ?_ _)); exact BK183.out), (by (with_reducible repeat (first | refine blk_drewN ?_ _ | refine blk_drew ?_ | refine blk_alloc ?_ _)); exact BK184.out), (by (with_reducible repeat (first | refine blk_drewN ?_ _ | refine blk_drew ?_ | refine blk_alloc ?_ _)); exact BK189.out), GW189.out, GE189.out, NB183_189.out, NB189_183.out, NB184_189.out, NB189_184.out, (by repeat (first | (with_reducible first | exact HB.out | apply below_alloc | apply pw_below_drewN | apply below_drew1 | refine below_set ?_ GE183.out | refine below_set ?_ GE184.out | refine below_set ?_ GE189.out) | exact HB.out))⟩)
        rintro ⟨v187, gb189⟩ w27 ⟨hS_, h0_, h1_, h2_, h3_, h4_, h5_, h6_, h7_, h8_, h9_, h10_⟩
        have n0_ : Aside0 (Kd.R (Kd.int .i64) 3 w27 w.heap.size (fun _ => True) v187 t186) := ⟨h0_⟩
        have n1_ : Aside0 (w27.heap[gb183]? = some (.cells #[.int .i64 a0_0, .int .i64 a0_1, .slice A0_2 l0_2.length c0_2] 66 (0, 0))) := ⟨h1_⟩
        have n2_ : Aside0 (w27.heap[gb184]? = some (.cells #[.int .i64 0, .int .i64 0, .slice none 0 0] 66 (0, 0))) := ⟨h2_⟩
        have n3_ : Aside0 (w27.heap[gb189]? = some (.cells #[.int .i64 0, .int .i64 0, .slice none 0 0] 66 (0, 0))) := ⟨h3_⟩
        have n4_ : Aside0 (w.heap.size ≤ gb189) := ⟨h4_⟩
        have n5_ : Aside0 (w.heap.size ≤ gb189) := ⟨h5_⟩
        have n6_ : Aside0 (gb183 ≠ gb189) := ⟨h6_⟩
        have n7_ : Aside0 (gb189 ≠ gb183) := ⟨h7_⟩
        have n8_ : Aside0 (gb184 ≠ gb189) := ⟨h8_⟩
        have n9_ : Aside0 (gb189 ≠ gb184) := ⟨h9_⟩
        have n10_ : Aside0 (Below w.heap.size w w27) := ⟨h10_⟩
        clear BK183
        clear BK184
        clear HB
        clear h0_ h1_ h2_ h3_ h4_ h5_ h6_ h7_ h8_ h9_ h10_
        have HO188 := n0_
        have BK183 := n1_
        have BK184 := n2_
        have BK189 := n3_
        have GW189 := n4_
        have GE189 := n5_
        have NB183_189 := n6_
        have NB189_183 := n7_
        have NB184_189 := n8_
        have NB189_184 := n9_
        have HB := n10_
        clear n0_ n1_ n2_ n3_ n4_ n5_ n6_ n7_ n8_ n9_ n10_
        have hHeld : w27.cell? ⟨gb183, 0, none⟩ = some (.int .i64 a0_0) ∧ w27.cell? ⟨gb183, 1, none⟩ = some (.int .i64 a0_1) ∧ w27.cell? ⟨gb183, 2, none⟩ = some (.slice A0_2 l0_2.length c0_2) := hS_
        obtain ⟨Ao28, co28, eo28⟩ := Kd.R_slice HO188.out
        (first | subst eo28 | (injection eo28 with f1_ f2_ f3_; have f4_ := f1_.symm; have f5_ := f3_.symm; clear f1_ f2_ f3_; subst f4_; subst f5_))
        refine norm_ (a' := ?_) ?_ ?_
        rotate_left
        · simp only [putAll, Act.put, List.setIfInBounds_toArray, List.set_cons_zero, List.set_cons_succ]
          rfl
        refine one_ (i := 9) (N := none) #[true, true, true, true, true, true, true, true, true, true] rfl rfl (one_of HT_.out (by kernel_rfl)) (by decide) (fun K hK => ?_)
        have hs29 : w27.cell? ⟨gb189, 0, none⟩ = some (.int .i64 0) := (blk_cell BK189.out 0).trans rfl
        have hfs29 := blk_frozen BK189.out 0
        have hns29_0 := NB183_189.out
        have hns29_1 := NB184_189.out
        have hms29_0 := NB189_183.out
        have hms29_1 := NB189_184.out
        have hs30 : w27.cell? ⟨gb189, 1, none⟩ = some (.int .i64 0) := (blk_cell BK189.out 1).trans rfl
        have hfs30 := blk_frozen BK189.out 1
        have hns30_0 := NB183_189.out
        have hns30_1 := NB184_189.out
        have hms30_0 := NB189_183.out
        have hms30_1 := NB189_184.out
        have hs31 : w27.cell? ⟨gb189, 2, none⟩ = some (.slice none 0 0) := (blk_cell BK189.out 2).trans rfl
        have hfs31 := blk_frozen BK189.out 2
        have hns31_0 := NB183_189.out
        have hns31_1 := NB184_189.out
        have hms31_0 := NB189_183.out
        have hms31_1 := NB189_184.out
        refine skip_ (w1 := ?_) (by rfl) rfl ?_ ?_
        rotate_left
        · go_simp
          rfl
        refine hK.out _ _ ⟨((cell_far (p := ⟨gb189, _, none⟩) NB183_189.out _).trans (((cell_far (p := ⟨gb189, _, none⟩) NB183_189.out _).trans (((cell_far (p := ⟨gb189, _, none⟩) NB183_189.out _).trans (hHeld.1)))))), ((cell_far (p := ⟨gb189, _, none⟩) NB183_189.out _).trans (((cell_far (p := ⟨gb189, _, none⟩) NB183_189.out _).trans (((cell_far (p := ⟨gb189, _, none⟩) NB183_189.out _).trans (hHeld.2.1)))))), ((cell_far (p := ⟨gb189, _, none⟩) NB183_189.out _).trans (((cell_far (p := ⟨gb189, _, none⟩) NB183_189.out _).trans (((cell_far (p := ⟨gb189, _, none⟩) NB183_189.out _).trans (hHeld.2.2))))))⟩ (fun hHeld => ?_)
        clear hK K
        refine done_ (done_of HT_.out (by kernel_rfl)) ?_
        have hnb32 := NB189_183.out
        have hnc32 := NB183_189.out
        have hnb33 := NB189_184.out
        have hnc33 := NB184_189.out
        have hcz34_0 : w27.cell? ⟨gb189, 0, none⟩ = some (.int .i64 0) := (blk_cell BK189.out 0).trans rfl
        have hcz34_1 : w27.cell? ⟨gb189, 1, none⟩ = some (.int .i64 0) := (blk_cell BK189.out 1).trans rfl
        have hcz34_2 : w27.cell? ⟨gb189, 2, none⟩ = some (.slice none 0 0) := (blk_cell BK189.out 2).trans rfl
        have hfz34_0 := blk_frozen BK189.out 0
        have hfz34_1 := blk_frozen BK189.out 1
        have hfz34_2 := blk_frozen BK189.out 2
        have hnb35 := NB184_183.out
        have hnc35 := NB183_184.out
        have hcz36_0 : w27.cell? ⟨gb184, 0, none⟩ = some (.int .i64 0) := (blk_cell BK184.out 0).trans rfl
        have hcz36_1 : w27.cell? ⟨gb184, 1, none⟩ = some (.int .i64 0) := (blk_cell BK184.out 1).trans rfl
        have hcz36_2 : w27.cell? ⟨gb184, 2, none⟩ = some (.slice none 0 0) := (blk_cell BK184.out 2).trans rfl
        have hfz36_0 := blk_frozen BK184.out 0
        have hfz36_1 := blk_frozen BK184.out 1
        have hfz36_2 := blk_frozen BK184.out 2
        try go_wp2
        refine bodyPost_ret (results_cell_row rfl _ _ gb184 66 #[.int .i64 a0_0, .int .i64 a0_1, .slice Ao28 t186.length co28] (0, 0) _ rfl (by (with_reducible repeat (first | refine blk_drewN ?_ _ | refine blk_drew ?_ | refine blk_alloc ?_ _)); refine blk_put (cs := #[.int .i64 a0_0, .int .i64 a0_1, .slice none 0 0]) ?_ 2 _ rfl; (with_reducible repeat (first | refine blk_drewN ?_ _ | refine blk_drew ?_ | refine blk_alloc ?_ _)); refine blk_put (cs := #[.int .i64 a0_0, .int .i64 0, .slice none 0 0]) ?_ 1 _ rfl; (with_reducible repeat (first | refine blk_drewN ?_ _ | refine blk_drew ?_ | refine blk_alloc ?_ _)); refine blk_put (cs := #[.int .i64 0, .int .i64 0, .slice none 0 0]) ?_ 0 _ rfl; (with_reducible repeat (first | refine blk_drewN ?_ _ | refine blk_drew ?_ | refine blk_alloc ?_ _)); refine blk_far ?_ NB184_189.out _; (with_reducible repeat (first | refine blk_drewN ?_ _ | refine blk_drew ?_ | refine blk_alloc ?_ _)); refine blk_far ?_ NB184_189.out _; (with_reducible repeat (first | refine blk_drewN ?_ _ | refine blk_drew ?_ | refine blk_alloc ?_ _)); refine blk_far ?_ NB184_189.out _; (with_reducible repeat (first | refine blk_drewN ?_ _ | refine blk_drew ?_ | refine blk_alloc ?_ _)); exact BK184.out) Try.underlying66 rfl (by kernel_rfl)) rfl ?_
        exact ⟨_, by first | rfl | (simp [errW_none, errW_some] <;> rfl) | (simp [*, errW_none, errW_some] <;> rfl), by (with_reducible repeat (first | apply Kd.R_alloc | apply Kd.R_drewN | apply Kd.R_drew)); exact Kd.R_mono (Kd.R_far (p := ⟨gb184, 2, none⟩) (Kd.R_far (p := ⟨gb184, 1, none⟩) (Kd.R_far (p := ⟨gb184, 0, none⟩) (Kd.R_far (p := ⟨gb189, 2, none⟩) (Kd.R_far (p := ⟨gb189, 1, none⟩) (Kd.R_far (p := ⟨gb189, 0, none⟩) (Kd.R_types (Kd.R_types HO188.out BK189.out (by decide)) BK184.out (by decide)) (fun _ hk => hk.1.2) (.int .i64 a0_0)) (fun _ hk => hk.1.2) (.int .i64 a0_1)) (fun _ hk => hk.1.2) (.slice Ao28 t186.length co28)) (fun _ hk => hk.2) (.int .i64 a0_0)) (fun _ hk => hk.2) (.int .i64 a0_1)) (fun _ hk => hk.2) (.slice Ao28 t186.length co28)) (fun _ hk => trivial), by repeat (first | (with_reducible first | exact HB.out | apply below_alloc | apply pw_below_drewN | apply below_drew1 | refine below_set ?_ GE183.out | refine below_set ?_ GE184.out | refine below_set ?_ GE189.out) | exact HB.out)⟩
      rw [if_neg c22] at H
      have c22b0 : decide (a1 < 8) = false := decide_eq_false c22
      clear c22
      have H' := Aside0.mk H
      clear H
      try go_wp2
      have n0_ := Aside0.mk (blk_drew BK183.out)
      have n1_ := Aside0.mk (blk_drew BK184.out)
      have n2_ := Aside0.mk (below_drew1 HB.out)
      clear BK183
      clear BK184
      clear HB
      have BK183 := n0_
      have BK184 := n1_
      have HB := n2_
      clear n0_ n1_ n2_
      refine start_ (n := 10) (S := fun w' => w'.cell? ⟨gb183, 0, none⟩ = some (.int .i64 a0_0) ∧ w'.cell? ⟨gb183, 1, none⟩ = some (.int .i64 a0_1) ∧ w'.cell? ⟨gb183, 2, none⟩ = some (.slice A0_2 l0_2.length c0_2)) (ds := []) #[false, false, false, false, false, false, false, false, false, false] (by kernel_rfl) rfl rfl ⟨(blk_cell BK183.out 0).trans rfl, (blk_cell BK183.out 1).trans rfl, (blk_cell BK183.out 2).trans rfl⟩ (fun hHeld => ?_); refine with_tabW impl_Smooth.tab3 impl_Smooth.bits3 (fun HT_ HW_ => ?_)
      generalize wc.drew = w37 at BK183 BK184 HB hHeld ⊢
      refine pure_ (i := 0) (N := some 28) (v := ?_) (a' := ?_) #[true, false, false, false, false, false, false, false, false, false] rfl rfl (any_of HT_.out (by kernel_rfl)) (fun _ _ _ h => h) (Or.inl ⟨by rfl, ?_⟩) ?_ ?_
      rotate_left
      · intro w'
        go_simp
        with_reducible rfl
      rotate_left
      · simp only [Act.put, List.setIfInBounds_toArray, List.set_cons_zero, List.set_cons_succ, i64_w, i32_w]
        rfl
      refine pure_ (i := 2) (N := some 30) (v := ?_) (a' := ?_) #[true, false, true, false, false, false, false, false, false, false] rfl rfl (any_of HT_.out (by kernel_rfl)) (fun _ _ _ h => h) (Or.inl ⟨by rfl, ?_⟩) ?_ ?_
      rotate_left
      · intro w'
        go_simp
        with_reducible rfl
      rotate_left
      · simp only [Act.put, List.setIfInBounds_toArray, List.set_cons_zero, List.set_cons_succ, i64_w, i32_w]
        rfl
      refine pure_ (i := 4) (N := some 32) (v := ?_) (a' := ?_) #[true, false, true, false, true, false, false, false, false, false] rfl rfl (any_of HT_.out (by kernel_rfl)) (fun _ _ _ h => h) (Or.inl ⟨by rfl, ?_⟩) ?_ ?_
      rotate_left
      · intro w'
        go_simp
        with_reducible rfl
      rotate_left
      · simp only [Act.put, List.setIfInBounds_toArray, List.set_cons_zero, List.set_cons_succ, i64_w, i32_w]
        rfl
      refine take_ (i := 1) (N := some 29) (v := ?_) (a' := ?_) #[true, true, true, false, true, false, false, false, false, false] rfl rfl (take_ofW HT_.out HW_.out (by kernel_rfl)) (fun _ _ _ h => h) (Or.inl ⟨by rfl, ?_⟩) hHeld ?_ ?_
      rotate_left
      · rintro w' ⟨s0, s1, s2⟩
        go_simp
        with_reducible rfl
      rotate_left
      · simp only [Act.put, List.setIfInBounds_toArray, List.set_cons_zero, List.set_cons_succ, i64_w, i32_w]
        rfl
      refine take_ (i := 3) (N := some 31) (v := ?_) (a' := ?_) #[true, true, true, true, true, false, false, false, false, false] rfl rfl (take_ofW HT_.out HW_.out (by kernel_rfl)) (fun _ _ _ h => h) (Or.inl ⟨by rfl, ?_⟩) hHeld ?_ ?_
      rotate_left
      · rintro w' ⟨s0, s1, s2⟩
        go_simp
        with_reducible rfl
      rotate_left
      · simp only [Act.put, List.setIfInBounds_toArray, List.set_cons_zero, List.set_cons_succ, i64_w, i32_w]
        rfl
      refine take_ (i := 5) (N := some 33) (v := ?_) (a' := ?_) #[true, true, true, true, true, true, false, false, false, false] rfl rfl (take_ofW HT_.out HW_.out (by kernel_rfl)) (fun _ _ _ h => h) (Or.inl ⟨by rfl, ?_⟩) hHeld ?_ ?_
      rotate_left
      · rintro w' ⟨s0, s1, s2⟩
        go_simp
        with_reducible rfl
      rotate_left
      · simp only [Act.put, List.setIfInBounds_toArray, List.set_cons_zero, List.set_cons_succ, i64_w, i32_w]
        rfl
      refine join_ (σ := Value × Nat) 1 #[true, true, true, true, true, true, true, true, true, false] (fun s_ => [(34, s_.1), (5, .pointer (some ⟨s_.2, 0, none⟩)), (35, .agg #[.int .i64 a0_0, .int .i64 a0_1, s_.1])]) (fun s_ w' => (w'.cell? ⟨gb183, 0, none⟩ = some (.int .i64 a0_0) ∧ w'.cell? ⟨gb183, 1, none⟩ = some (.int .i64 a0_1) ∧ w'.cell? ⟨gb183, 2, none⟩ = some (.slice A0_2 l0_2.length c0_2)) ∧ (Kd.R (Kd.int .i64) 3 w' w.heap.size (fun _ => True) s_.1 t186) ∧ (w'.heap[gb183]? = some (.cells #[.int .i64 a0_0, .int .i64 a0_1, .slice A0_2 l0_2.length c0_2] 66 (0, 0))) ∧ (w'.heap[gb184]? = some (.cells #[.int .i64 0, .int .i64 0, .slice none 0 0] 66 (0, 0))) ∧ (w'.heap[s_.2]? = some (.cells #[.int .i64 0, .int .i64 0, .slice none 0 0] 66 (0, 0))) ∧ (w.heap.size ≤ s_.2) ∧ (w.heap.size ≤ s_.2) ∧ (gb183 ≠ s_.2) ∧ (s_.2 ≠ gb183) ∧ (gb184 ≠ s_.2) ∧ (s_.2 ≠ gb184) ∧ (Below w.heap.size w w')) ?_ ?_
      rotate_left
      · intro hCont
        refine two_ (i := 6) (j := 8) (Ni := some 34) (Nj := some 5) #[true, true, true, true, true, true, true, false, false, false] #[true, true, true, true, true, true, false, false, true, false] rfl rfl rfl rfl (two_of HT_.out (by kernel_rfl)) (by decide) (by decide) (fun K hK => ?_) (fun K hK => ?_)
        · skip
          refine goes_ Try.func107 (by kernel_rfl) rfl #[.slice A0_2 l0_2.length c0_2] (by rfl) rfl rfl (by (try simp only [List.map_toArray, List.map_cons, List.map_nil]); first | done | rfl | (simp only [List.length_drop, List.length_take]; rfl)) ?_
          with_reducible refine (impl_zcopy.calls _ _ l0_2 t186 _ ?side1 ?side2 A21.out).mono ?_
          (case side1 => repeat (first | exact (Kd.C_below HR0_2.out HB.out) | (with_reducible refine Kd.C_alloc ?_ _) | (with_reducible refine Kd.C_drewN ?_ _) | (with_reducible refine Kd.C_drew ?_)))
          (case side2 => exact HC0_2.out)
          rintro e w38 ⟨v187, rfl, ho0, hb⟩
          refine ⟨_, rfl, ?_⟩
          have n0_ := Aside0.mk (Kd.R_lower ho0 (below_size (by repeat (first | (with_reducible first | exact HB.out | apply below_alloc | apply pw_below_drewN | apply below_drew1 | refine below_set ?_ GE183.out | refine below_set ?_ GE184.out) | exact HB.out))))
          have n1_ := Aside0.mk (blk_below (g := gb183) (o := .cells #[.int .i64 a0_0, .int .i64 a0_1, .slice A0_2 l0_2.length c0_2] 66 (0, 0)) (by (with_reducible repeat (first | refine blk_drewN ?_ _ | refine blk_drew ?_ | refine blk_alloc ?_ _)); exact BK183.out) hb)
          have n2_ := Aside0.mk (blk_below (g := gb184) (o := .cells #[.int .i64 0, .int .i64 0, .slice none 0 0] 66 (0, 0)) (by (with_reducible repeat (first | refine blk_drewN ?_ _ | refine blk_drew ?_ | refine blk_alloc ?_ _)); exact BK184.out) hb)
          have n3_ := Aside0.mk (below_step (by repeat (first | (with_reducible first | exact HB.out | apply below_alloc | apply pw_below_drewN | apply below_drew1 | refine below_set ?_ GE183.out | refine below_set ?_ GE184.out) | exact HB.out)) hb)
          clear BK183
          clear BK184
          clear HB
          have HO188 := n0_
          have BK183 := n1_
          have BK184 := n2_
          have HB := n3_
          clear n0_ n1_ n2_ n3_
          (try clear hb)
          (try clear hb2)
          (try clear hk)
          (try clear hi)
          (try clear ho0)
          obtain ⟨Ao39, co39, eo39⟩ := Kd.R_slice HO188.out
          (first | subst eo39 | (injection eo39 with f1_ f2_ f3_; have f4_ := f1_.symm; have f5_ := f3_.symm; clear f1_ f2_ f3_; subst f4_; subst f5_))
          refine hK.out _ _ ⟨(blk_cell BK183.out 0).trans rfl, (blk_cell BK183.out 1).trans rfl, (blk_cell BK183.out 2).trans rfl⟩ (fun hHeld => ?_)
          clear hK K
          refine norm_ (a' := ?_) ?_ ?_
          rotate_left
          · show Act.put _ (some 34) _ = _
            simp only [Act.put, List.setIfInBounds_toArray, List.set_cons_zero, List.set_cons_succ, i64_w, i32_w]
            rfl
          refine pure_ (i := 7) (N := some 35) (v := ?_) (a' := ?_) #[true, true, true, true, true, true, true, true, false, false] rfl rfl (any_of HT_.out (by kernel_rfl)) (fun _ _ _ h => h) (Or.inl ⟨by rfl, ?_⟩) ?_ ?_
          rotate_left
          · intro w'
            go_simp
            with_reducible rfl
          rotate_left
          · simp only [Act.put, List.setIfInBounds_toArray, List.set_cons_zero, List.set_cons_succ, i64_w, i32_w]
            rfl
          refine one_ (i := 8) (N := some 5) #[true, true, true, true, true, true, true, true, true, false] rfl rfl (one_of HT_.out (by kernel_rfl)) (by decide) (fun K hK => ?_)
          refine box_step ?hg (N := 5) ?hd (cs := #[.int .i64 0, .int .i64 0, .slice none 0 0]) (t := 66) ?hr ?_; (case hd => rfl); (case hg => rfl); (case hr => first | (go_simp; done) | (go_simp; rfl))
          intro gb189 hg w40 hbox hb
          have n0_ := Aside0.mk (Kd.R_below (by (with_reducible repeat (first | apply Kd.R_alloc | apply Kd.R_drewN | apply Kd.R_drew)); exact HO188.out) hb)
          have n1_ := Aside0.mk (blk_below (g := gb183) (o := .cells #[.int .i64 a0_0, .int .i64 a0_1, .slice A0_2 l0_2.length c0_2] 66 (0, 0)) (by (with_reducible repeat (first | refine blk_drewN ?_ _ | refine blk_drew ?_ | refine blk_alloc ?_ _)); exact BK183.out) hb)
          have n2_ := Aside0.mk (blk_below (g := gb184) (o := .cells #[.int .i64 0, .int .i64 0, .slice none 0 0] 66 (0, 0)) (by (with_reducible repeat (first | refine blk_drewN ?_ _ | refine blk_drew ?_ | refine blk_alloc ?_ _)); exact BK184.out) hb)
          have n3_ := Aside0.mk (below_step (by repeat (first | (with_reducible first | exact HB.out | apply below_alloc | apply pw_below_drewN | apply below_drew1 | refine below_set ?_ GE183.out | refine below_set ?_ GE184.out) | exact HB.out)) hb)
          have n4_ := Aside0.mk (hbox)
          have n5_ := Aside0.mk ((by rw [hg]; exact (below_size (by repeat (first | (with_reducible first | exact HB.out | apply below_alloc | apply pw_below_drewN | apply below_drew1 | refine below_set ?_ GE183.out | refine below_set ?_ GE184.out) | exact HB.out))) : w.heap.size ≤ gb189))
          have n6_ := Aside0.mk ((by rw [hg]; exact (below_size (by repeat (first | (with_reducible first | exact HB.out | apply below_alloc | apply pw_below_drewN | apply below_drew1 | refine below_set ?_ GE183.out | refine below_set ?_ GE184.out) | exact HB.out))) : w.heap.size ≤ gb189))
          have n7_ := Aside0.mk ((by rw [hg]; exact Nat.ne_of_lt (blk_lt (g := gb183) (o := .cells #[.int .i64 a0_0, .int .i64 a0_1, .slice A0_2 l0_2.length c0_2] 66 (0, 0)) (by (with_reducible repeat (first | refine blk_drewN ?_ _ | refine blk_drew ?_ | refine blk_alloc ?_ _)); exact BK183.out)) : gb183 ≠ gb189))
          have n8_ := Aside0.mk ((by rw [hg]; exact Nat.ne_of_gt (blk_lt (g := gb183) (o := .cells #[.int .i64 a0_0, .int .i64 a0_1, .slice A0_2 l0_2.length c0_2] 66 (0, 0)) (by (with_reducible repeat (first | refine blk_drewN ?_ _ | refine blk_drew ?_ | refine blk_alloc ?_ _)); exact BK183.out)) : gb189 ≠ gb183))
          have n9_ := Aside0.mk ((by rw [hg]; exact Nat.ne_of_lt (blk_lt (g := gb184) (o := .cells #[.int .i64 0, .int .i64 0, .slice none 0 0] 66 (0, 0)) (by (with_reducible repeat (first | refine blk_drewN ?_ _ | refine blk_drew ?_ | refine blk_alloc ?_ _)); exact BK184.out)) : gb184 ≠ gb189))
          have n10_ := Aside0.mk ((by rw [hg]; exact Nat.ne_of_gt (blk_lt (g := gb184) (o := .cells #[.int .i64 0, .int .i64 0, .slice none 0 0] 66 (0, 0)) (by (with_reducible repeat (first | refine blk_drewN ?_ _ | refine blk_drew ?_ | refine blk_alloc ?_ _)); exact BK184.out)) : gb189 ≠ gb184))
          clear HO188
          clear BK183
          clear BK184
          clear HB
          have HO188 := n0_
          have BK183 := n1_
          have BK184 := n2_
          have HB := n3_
          have BK189 := n4_
          have GW189 := n5_
          have GE189 := n6_
          have NB183_189 := n7_
          have NB189_183 := n8_
          have NB184_189 := n9_
          have NB189_184 := n10_
          clear n0_ n1_ n2_ n3_ n4_ n5_ n6_ n7_ n8_ n9_ n10_
          clear hb hbox hg
          refine hK.out _ _ ⟨(blk_cell BK183.out 0).trans rfl, (blk_cell BK183.out 1).trans rfl, (blk_cell BK183.out 2).trans rfl⟩ (fun hHeld => ?_)
          clear hK K
          refine norm_ (a' := ?_) ?_ ?_
          rotate_left
          · show Act.put _ (some 5) _ = _
            simp only [Act.put, List.setIfInBounds_toArray, List.set_cons_zero, List.set_cons_succ, i64_w, i32_w]
            rfl
          exact norm_ (by simp only [putAll, Act.put, List.setIfInBounds_toArray, List.set_cons_zero, List.set_cons_succ]) (hCont (.slice Ao39 t186.length co39, gb189) _ ⟨hHeld, (by (with_reducible repeat (first | apply Kd.R_alloc | apply Kd.R_drewN | apply Kd.R_drew)); exact HO188.out), (by (with_reducible repeat (first | refine blk_drewN ?_ _ | refine blk_drew ?_ | refine blk_alloc ?_ _)); exact BK183.out), (by (with_reducible repeat (first | refine blk_drewN ?_ _ | refine blk_drew ?_ | refine blk_alloc ?_ _)); exact BK184.out), (by (with_reducible repeat (first | refine blk_drewN ?_ _ | refine blk_drew ?_ | refine blk_alloc ?_ _)); exact BK189.out), GW189.out, GE189.out, NB183_189.out, NB189_183.out, NB184_189.out, NB189_184.out, (by repeat (first | (with_reducible first | exact HB.out | apply below_alloc | apply pw_below_drewN | apply below_drew1 | refine below_set ?_ GE183.out | refine below_set ?_ GE184.out | refine below_set ?_ GE189.out) | exact HB.out))⟩)
        · skip
          refine box_step ?hg (N := 5) ?hd (cs := #[.int .i64 0, .int .i64 0, .slice none 0 0]) (t := 66) ?hr ?_; (case hd => rfl); (case hg => rfl); (case hr => first | (go_simp; done) | (go_simp; rfl))
          intro gb189 hg w38 hbox hb
          have n0_ := Aside0.mk (blk_below (g := gb183) (o := .cells #[.int .i64 a0_0, .int .i64 a0_1, .slice A0_2 l0_2.length c0_2] 66 (0, 0)) (by (with_reducible repeat (first | refine blk_drewN ?_ _ | refine blk_drew ?_ | refine blk_alloc ?_ _)); exact BK183.out) hb)
          have n1_ := Aside0.mk (blk_below (g := gb184) (o := .cells #[.int .i64 0, .int .i64 0, .slice none 0 0] 66 (0, 0)) (by (with_reducible repeat (first | refine blk_drewN ?_ _ | refine blk_drew ?_ | refine blk_alloc ?_ _)); exact BK184.out) hb)
          have n2_ := Aside0.mk (below_step (by repeat (first | (with_reducible first | exact HB.out | apply below_alloc | apply pw_below_drewN | apply below_drew1 | refine below_set ?_ GE183.out | refine below_set ?_ GE184.out) | exact HB.out)) hb)
          have n3_ := Aside0.mk (hbox)
          have n4_ := Aside0.mk ((by rw [hg]; exact (below_size (by repeat (first | (with_reducible first | exact HB.out | apply below_alloc | apply pw_below_drewN | apply below_drew1 | refine below_set ?_ GE183.out | refine below_set ?_ GE184.out) | exact HB.out))) : w.heap.size ≤ gb189))
          have n5_ := Aside0.mk ((by rw [hg]; exact (below_size (by repeat (first | (with_reducible first | exact HB.out | apply below_alloc | apply pw_below_drewN | apply below_drew1 | refine below_set ?_ GE183.out | refine below_set ?_ GE184.out) | exact HB.out))) : w.heap.size ≤ gb189))
          have n6_ := Aside0.mk ((by rw [hg]; exact Nat.ne_of_lt (blk_lt (g := gb183) (o := .cells #[.int .i64 a0_0, .int .i64 a0_1, .slice A0_2 l0_2.length c0_2] 66 (0, 0)) (by (with_reducible repeat (first | refine blk_drewN ?_ _ | refine blk_drew ?_ | refine blk_alloc ?_ _)); exact BK183.out)) : gb183 ≠ gb189))
          have n7_ := Aside0.mk ((by rw [hg]; exact Nat.ne_of_gt (blk_lt (g := gb183) (o := .cells #[.int .i64 a0_0, .int .i64 a0_1, .slice A0_2 l0_2.length c0_2] 66 (0, 0)) (by (with_reducible repeat (first | refine blk_drewN ?_ _ | refine blk_drew ?_ | refine blk_alloc ?_ _)); exact BK183.out)) : gb189 ≠ gb183))
          have n8_ := Aside0.mk ((by rw [hg]; exact Nat.ne_of_lt (blk_lt (g := gb184) (o := .cells #[.int .i64 0, .int .i64 0, .slice none 0 0] 66 (0, 0)) (by (with_reducible repeat (first | refine blk_drewN ?_ _ | refine blk_drew ?_ | refine blk_alloc ?_ _)); exact BK184.out)) : gb184 ≠ gb189))
          have n9_ := Aside0.mk ((by rw [hg]; exact Nat.ne_of_gt (blk_lt (g := gb184) (o := .cells #[.int .i64 0, .int .i64 0, .slice none 0 0] 66 (0, 0)) (by (with_reducible repeat (first | refine blk_drewN ?_ _ | refine blk_drew ?_ | refine blk_alloc ?_ _)); exact BK184.out)) : gb189 ≠ gb184))
          clear BK183
          clear BK184
          clear HB
          have BK183 := n0_
          have BK184 := n1_
          have HB := n2_
          have BK189 := n3_
          have GW189 := n4_
          have GE189 := n5_
          have NB183_189 := n6_
          have NB189_183 := n7_
          have NB184_189 := n8_
          have NB189_184 := n9_
          clear n0_ n1_ n2_ n3_ n4_ n5_ n6_ n7_ n8_ n9_
          clear hb hbox hg
          refine hK.out _ _ ⟨(blk_cell BK183.out 0).trans rfl, (blk_cell BK183.out 1).trans rfl, (blk_cell BK183.out 2).trans rfl⟩ (fun hHeld => ?_)
          clear hK K
          refine norm_ (a' := ?_) ?_ ?_
          rotate_left
          · show Act.put _ (some 5) _ = _
            simp only [Act.put, List.setIfInBounds_toArray, List.set_cons_zero, List.set_cons_succ, i64_w, i32_w]
            rfl
          refine one_ (i := 6) (N := some 34) #[true, true, true, true, true, true, true, false, true, false] rfl rfl (one_of HT_.out (by kernel_rfl)) (by decide) (fun K hK => ?_)
          refine goes_ Try.func107 (by kernel_rfl) rfl #[.slice A0_2 l0_2.length c0_2] (by rfl) rfl rfl (by (try simp only [List.map_toArray, List.map_cons, List.map_nil]); first | done | rfl | (simp only [List.length_drop, List.length_take]; rfl)) ?_
          with_reducible refine (impl_zcopy.calls _ _ l0_2 t186 _ ?side1 ?side2 A21.out).mono ?_
          (case side1 => repeat (first | exact (Kd.C_below HR0_2.out HB.out) | (with_reducible refine Kd.C_alloc ?_ _) | (with_reducible refine Kd.C_drewN ?_ _) | (with_reducible refine Kd.C_drew ?_)))
          (case side2 => exact HC0_2.out)
          rintro e w39 ⟨v187, rfl, ho0, hb⟩
          refine ⟨_, rfl, ?_⟩
          have n0_ := Aside0.mk (Kd.R_lower ho0 (below_size (by repeat (first | (with_reducible first | exact HB.out | apply below_alloc | apply pw_below_drewN | apply below_drew1 | refine below_set ?_ GE183.out | refine below_set ?_ GE184.out | refine below_set ?_ GE189.out) | exact HB.out))))
          have n1_ := Aside0.mk (blk_below (g := gb183) (o := .cells #[.int .i64 a0_0, .int .i64 a0_1, .slice A0_2 l0_2.length c0_2] 66 (0, 0)) (by (with_reducible repeat (first | refine blk_drewN ?_ _ | refine blk_drew ?_ | refine blk_alloc ?_ _)); exact BK183.out) hb)
          have n2_ := Aside0.mk (blk_below (g := gb184) (o := .cells #[.int .i64 0, .int .i64 0, .slice none 0 0] 66 (0, 0)) (by (with_reducible repeat (first | refine blk_drewN ?_ _ | refine blk_drew ?_ | refine blk_alloc ?_ _)); exact BK184.out) hb)
          have n3_ := Aside0.mk (blk_below (g := gb189) (o := .cells #[.int .i64 0, .int .i64 0, .slice none 0 0] 66 (0, 0)) (by (with_reducible repeat (first | refine blk_drewN ?_ _ | refine blk_drew ?_ | refine blk_alloc ?_ _)); exact BK189.out) hb)
          have n4_ := Aside0.mk (below_step (by repeat (first | (with_reducible first | exact HB.out | apply below_alloc | apply pw_below_drewN | apply below_drew1 | refine below_set ?_ GE183.out | refine below_set ?_ GE184.out | refine below_set ?_ GE189.out) | exact HB.out)) hb)
          clear BK183
          clear BK184
          clear BK189
          clear HB
          have HO188 := n0_
          have BK183 := n1_
          have BK184 := n2_
          have BK189 := n3_
          have HB := n4_
          clear n0_ n1_ n2_ n3_ n4_
          (try clear hb)
          (try clear hb2)
          (try clear hk)
          (try clear hi)
          (try clear ho0)
          obtain ⟨Ao40, co40, eo40⟩ := Kd.R_slice HO188.out
          (first | subst eo40 | (injection eo40 with f1_ f2_ f3_; have f4_ := f1_.symm; have f5_ := f3_.symm; clear f1_ f2_ f3_; subst f4_; subst f5_))
          refine hK.out _ _ ⟨(blk_cell BK183.out 0).trans rfl, (blk_cell BK183.out 1).trans rfl, (blk_cell BK183.out 2).trans rfl⟩ (fun hHeld => ?_)
          clear hK K
          refine norm_ (a' := ?_) ?_ ?_
          rotate_left
          · show Act.put _ (some 34) _ = _
            simp only [Act.put, List.setIfInBounds_toArray, List.set_cons_zero, List.set_cons_succ, i64_w, i32_w]
            rfl
          refine pure_ (i := 7) (N := some 35) (v := ?_) (a' := ?_) #[true, true, true, true, true, true, true, true, true, false] rfl rfl (any_of HT_.out (by kernel_rfl)) (fun _ _ _ h => h) (Or.inl ⟨by rfl, ?_⟩) ?_ ?_
          rotate_left
          · intro w'
            go_simp
            with_reducible rfl
          rotate_left
          · simp only [Act.put, List.setIfInBounds_toArray, List.set_cons_zero, List.set_cons_succ, i64_w, i32_w]
            rfl
          exact norm_ (by simp only [putAll, Act.put, List.setIfInBounds_toArray, List.set_cons_zero, List.set_cons_succ]) (hCont (.slice Ao40 t186.length co40, gb189) _ ⟨hHeld, (by (with_reducible repeat (first | apply Kd.R_alloc | apply Kd.R_drewN | apply Kd.R_drew)); exact HO188.out), (by (with_reducible repeat (first | refine blk_drewN ?_ _ | refine blk_drew ?_ | refine blk_alloc ?_ _)); exact BK183.out), (by (with_reducible repeat (first | refine blk_drewN ?_ _ | refine blk_drew ?_ | refine blk_alloc ?_ _)); exact BK184.out), (by (with_reducible repeat (first | refine blk_drewN ?_ _ | refine blk_drew ?_ | refine blk_alloc ?_ _)); exact BK189.out), GW189.out, GE189.out, NB183_189.out, NB189_183.out, NB184_189.out, NB189_184.out, (by repeat (first | (with_reducible first | exact HB.out | apply below_alloc | apply pw_below_drewN | apply below_drew1 | refine below_set ?_ GE183.out | refine below_set ?_ GE184.out | refine below_set ?_ GE189.out) | exact HB.out))⟩)
      rintro ⟨v187, gb189⟩ w41 ⟨hS_, h0_, h1_, h2_, h3_, h4_, h5_, h6_, h7_, h8_, h9_, h10_⟩
      have n0_ : Aside0 (Kd.R (Kd.int .i64) 3 w41 w.heap.size (fun _ => True) v187 t186) := ⟨h0_⟩
      have n1_ : Aside0 (w41.heap[gb183]? = some (.cells #[.int .i64 a0_0, .int .i64 a0_1, .slice A0_2 l0_2.length c0_2] 66 (0, 0))) := ⟨h1_⟩
      have n2_ : Aside0 (w41.heap[gb184]? = some (.cells #[.int .i64 0, .int .i64 0, .slice none 0 0] 66 (0, 0))) := ⟨h2_⟩
      have n3_ : Aside0 (w41.heap[gb189]? = some (.cells #[.int .i64 0, .int .i64 0, .slice none 0 0] 66 (0, 0))) := ⟨h3_⟩
      have n4_ : Aside0 (w.heap.size ≤ gb189) := ⟨h4_⟩
      have n5_ : Aside0 (w.heap.size ≤ gb189) := ⟨h5_⟩
      have n6_ : Aside0 (gb183 ≠ gb189) := ⟨h6_⟩
      have n7_ : Aside0 (gb189 ≠ gb183) := ⟨h7_⟩
      have n8_ : Aside0 (gb184 ≠ gb189) := ⟨h8_⟩
      have n9_ : Aside0 (gb189 ≠ gb184) := ⟨h9_⟩
      have n10_ : Aside0 (Below w.heap.size w w41) := ⟨h10_⟩
      clear BK183
      clear BK184
      clear HB
      clear h0_ h1_ h2_ h3_ h4_ h5_ h6_ h7_ h8_ h9_ h10_
      have HO188 := n0_
      have BK183 := n1_
      have BK184 := n2_
      have BK189 := n3_
      have GW189 := n4_
      have GE189 := n5_
      have NB183_189 := n6_
      have NB189_183 := n7_
      have NB184_189 := n8_
      have NB189_184 := n9_
      have HB := n10_
      clear n0_ n1_ n2_ n3_ n4_ n5_ n6_ n7_ n8_ n9_ n10_
      have hHeld : w41.cell? ⟨gb183, 0, none⟩ = some (.int .i64 a0_0) ∧ w41.cell? ⟨gb183, 1, none⟩ = some (.int .i64 a0_1) ∧ w41.cell? ⟨gb183, 2, none⟩ = some (.slice A0_2 l0_2.length c0_2) := hS_
      obtain ⟨Ao42, co42, eo42⟩ := Kd.R_slice HO188.out
      (first | subst eo42 | (injection eo42 with f1_ f2_ f3_; have f4_ := f1_.symm; have f5_ := f3_.symm; clear f1_ f2_ f3_; subst f4_; subst f5_))
      refine norm_ (a' := ?_) ?_ ?_
      rotate_left
      · simp only [putAll, Act.put, List.setIfInBounds_toArray, List.set_cons_zero, List.set_cons_succ]
        rfl
      refine one_ (i := 9) (N := none) #[true, true, true, true, true, true, true, true, true, true] rfl rfl (one_of HT_.out (by kernel_rfl)) (by decide) (fun K hK => ?_)
      have hs43 : w41.cell? ⟨gb189, 0, none⟩ = some (.int .i64 0) := (blk_cell BK189.out 0).trans rfl
      have hfs43 := blk_frozen BK189.out 0
      have hns43_0 := NB183_189.out
      have hns43_1 := NB184_189.out
      have hms43_0 := NB189_183.out
      have hms43_1 := NB189_184.out
      have hs44 : w41.cell? ⟨gb189, 1, none⟩ = some (.int .i64 0) := (blk_cell BK189.out 1).trans rfl
      have hfs44 := blk_frozen BK189.out 1
      have hns44_0 := NB183_189.out
      have hns44_1 := NB184_189.out
      have hms44_0 := NB189_183.out
      have hms44_1 := NB189_184.out
      have hs45 : w41.cell? ⟨gb189, 2, none⟩ = some (.slice none 0 0) := (blk_cell BK189.out 2).trans rfl
      have hfs45 := blk_frozen BK189.out 2
      have hns45_0 := NB183_189.out
      have hns45_1 := NB184_189.out
      have hms45_0 := NB189_183.out
      have hms45_1 := NB189_184.out
      refine skip_ (w1 := ?_) (by rfl) rfl ?_ ?_
      rotate_left
      · go_simp
        rfl
      refine hK.out _ _ ⟨((cell_far (p := ⟨gb189, _, none⟩) NB183_189.out _).trans (((cell_far (p := ⟨gb189, _, none⟩) NB183_189.out _).trans (((cell_far (p := ⟨gb189, _, none⟩) NB183_189.out _).trans (hHeld.1)))))), ((cell_far (p := ⟨gb189, _, none⟩) NB183_189.out _).trans (((cell_far (p := ⟨gb189, _, none⟩) NB183_189.out _).trans (((cell_far (p := ⟨gb189, _, none⟩) NB183_189.out _).trans (hHeld.2.1)))))), ((cell_far (p := ⟨gb189, _, none⟩) NB183_189.out _).trans (((cell_far (p := ⟨gb189, _, none⟩) NB183_189.out _).trans (((cell_far (p := ⟨gb189, _, none⟩) NB183_189.out _).trans (hHeld.2.2))))))⟩ (fun hHeld => ?_)
      clear hK K
      refine done_ (done_of HT_.out (by kernel_rfl)) ?_
      have hnb46 := NB189_183.out
      have hnc46 := NB183_189.out
      have hnb47 := NB189_184.out
      have hnc47 := NB184_189.out
      have hcz48_0 : w41.cell? ⟨gb189, 0, none⟩ = some (.int .i64 0) := (blk_cell BK189.out 0).trans rfl
      have hcz48_1 : w41.cell? ⟨gb189, 1, none⟩ = some (.int .i64 0) := (blk_cell BK189.out 1).trans rfl
      have hcz48_2 : w41.cell? ⟨gb189, 2, none⟩ = some (.slice none 0 0) := (blk_cell BK189.out 2).trans rfl
      have hfz48_0 := blk_frozen BK189.out 0
      have hfz48_1 := blk_frozen BK189.out 1
      have hfz48_2 := blk_frozen BK189.out 2
      have hnb49 := NB183_184.out
      have hnc49 := NB184_183.out
      have hcz50_0 : w41.cell? ⟨gb183, 0, none⟩ = some (.int .i64 a0_0) := (blk_cell BK183.out 0).trans rfl
      have hcz50_1 : w41.cell? ⟨gb183, 1, none⟩ = some (.int .i64 a0_1) := (blk_cell BK183.out 1).trans rfl
      have hcz50_2 : w41.cell? ⟨gb183, 2, none⟩ = some (.slice A0_2 l0_2.length c0_2) := (blk_cell BK183.out 2).trans rfl
      have hfz50_0 := blk_frozen BK183.out 0
      have hfz50_1 := blk_frozen BK183.out 1
      have hfz50_2 := blk_frozen BK183.out 2
      go_upto_region 6 with (fail)
      have m0_ : Aside0 (Kd.R (Kd.int .i64) 3 (World.setCell (World.setCell (World.setCell w41 ⟨gb189, 0, none⟩ (.int .i64 a0_0)) ⟨gb189, 1, none⟩ (.int .i64 a0_1)) ⟨gb189, 2, none⟩ (.slice Ao42 t186.length co42)) w.heap.size (fun _ => True) (.slice Ao42 t186.length co42) t186) := ⟨by (with_reducible repeat (first | apply Kd.R_alloc | apply Kd.R_drewN | apply Kd.R_drew)); exact Kd.R_mono (Kd.R_far (p := ⟨gb189, 2, none⟩) (Kd.R_far (p := ⟨gb189, 1, none⟩) (Kd.R_far (p := ⟨gb189, 0, none⟩) (Kd.R_types HO188.out BK189.out (by decide)) (fun _ hk => hk.2) (.int .i64 a0_0)) (fun _ hk => hk.2) (.int .i64 a0_1)) (fun _ hk => hk.2) (.slice Ao42 t186.length co42)) (fun _ hk => trivial)⟩
      have m1_ : Aside0 ((World.setCell (World.setCell (World.setCell w41 ⟨gb189, 0, none⟩ (.int .i64 a0_0)) ⟨gb189, 1, none⟩ (.int .i64 a0_1)) ⟨gb189, 2, none⟩ (.slice Ao42 t186.length co42)).heap[gb183]? = some (.cells #[.int .i64 a0_0, .int .i64 a0_1, (.slice A0_2 l0_2.length c0_2)] 66 (0, 0))) := ⟨by (with_reducible repeat (first | refine blk_drewN ?_ _ | refine blk_drew ?_ | refine blk_alloc ?_ _)); refine blk_far ?_ NB183_189.out _; (with_reducible repeat (first | refine blk_drewN ?_ _ | refine blk_drew ?_ | refine blk_alloc ?_ _)); refine blk_far ?_ NB183_189.out _; (with_reducible repeat (first | refine blk_drewN ?_ _ | refine blk_drew ?_ | refine blk_alloc ?_ _)); refine blk_far ?_ NB183_189.out _; (with_reducible repeat (first | refine blk_drewN ?_ _ | refine blk_drew ?_ | refine blk_alloc ?_ _)); exact BK183.out⟩
      have m2_ : Aside0 ((World.setCell (World.setCell (World.setCell w41 ⟨gb189, 0, none⟩ (.int .i64 a0_0)) ⟨gb189, 1, none⟩ (.int .i64 a0_1)) ⟨gb189, 2, none⟩ (.slice Ao42 t186.length co42)).heap[gb184]? = some (.cells #[.int .i64 0, .int .i64 0, (.slice none 0 0)] 66 (0, 0))) := ⟨by (with_reducible repeat (first | refine blk_drewN ?_ _ | refine blk_drew ?_ | refine blk_alloc ?_ _)); refine blk_far ?_ NB184_189.out _; (with_reducible repeat (first | refine blk_drewN ?_ _ | refine blk_drew ?_ | refine blk_alloc ?_ _)); refine blk_far ?_ NB184_189.out _; (with_reducible repeat (first | refine blk_drewN ?_ _ | refine blk_drew ?_ | refine blk_alloc ?_ _)); refine blk_far ?_ NB184_189.out _; (with_reducible repeat (first | refine blk_drewN ?_ _ | refine blk_drew ?_ | refine blk_alloc ?_ _)); exact BK184.out⟩
      have m3_ : Aside0 ((World.setCell (World.setCell (World.setCell w41 ⟨gb189, 0, none⟩ (.int .i64 a0_0)) ⟨gb189, 1, none⟩ (.int .i64 a0_1)) ⟨gb189, 2, none⟩ (.slice Ao42 t186.length co42)).heap[gb189]? = some (.cells #[.int .i64 a0_0, .int .i64 a0_1, (.slice Ao42 t186.length co42)] 66 (0, 0))) := ⟨by (with_reducible repeat (first | refine blk_drewN ?_ _ | refine blk_drew ?_ | refine blk_alloc ?_ _)); refine blk_put (cs := #[.int .i64 a0_0, .int .i64 a0_1, .slice none 0 0]) ?_ 2 _ rfl; (with_reducible repeat (first | refine blk_drewN ?_ _ | refine blk_drew ?_ | refine blk_alloc ?_ _)); refine blk_put (cs := #[.int .i64 a0_0, .int .i64 0, .slice none 0 0]) ?_ 1 _ rfl; (with_reducible repeat (first | refine blk_drewN ?_ _ | refine blk_drew ?_ | refine blk_alloc ?_ _)); refine blk_put (cs := #[.int .i64 0, .int .i64 0, .slice none 0 0]) ?_ 0 _ rfl; (with_reducible repeat (first | refine blk_drewN ?_ _ | refine blk_drew ?_ | refine blk_alloc ?_ _)); exact BK189.out⟩
      have m4_ : Aside0 (Below w.heap.size w (World.setCell (World.setCell (World.setCell w41 ⟨gb189, 0, none⟩ (.int .i64 a0_0)) ⟨gb189, 1, none⟩ (.int .i64 a0_1)) ⟨gb189, 2, none⟩ (.slice Ao42 t186.length co42))) := ⟨by repeat (first | (with_reducible first | exact HB.out | apply below_alloc | apply pw_below_drewN | apply below_drew1 | refine below_set ?_ GE183.out | refine below_set ?_ GE184.out | refine below_set ?_ GE189.out) | exact HB.out)⟩
      clear hnb46 hnc46 hnb47 hnc47 hcz48_0 hcz48_1 hcz48_2 hfz48_0 hfz48_1 hfz48_2 hnb49 hnc49 hcz50_0 hcz50_1 hcz50_2 hfz50_0 hfz50_1 hfz50_2
      clear HO188 BK183 BK184 BK189 HB
      generalize (World.setCell (World.setCell (World.setCell w41 ⟨gb189, 0, none⟩ (.int .i64 a0_0)) ⟨gb189, 1, none⟩ (.int .i64 a0_1)) ⟨gb189, 2, none⟩ (.slice Ao42 t186.length co42)) = wz at m0_ m1_ m2_ m3_ m4_ ⊢
      have HOs := m0_
      have BK183 := m1_
      have BK184 := m2_
      have BK189 := m3_
      have HB := m4_
      clear m0_ m1_ m2_ m3_ m4_
      have HOz := Aside0.mk (show Kd.R (Kd.int .i64) 3 wz w.heap.size (fun k_ => k_ < wz.heap.size) (.slice Ao42 t186.length co42) t186 from Kd.R_mono (Kd.R_bound HOs.out) (fun k_ hk => hk.2.2.1))
      clear HOs
      have hcq2 : wz.cell? ⟨gb189, 2, none⟩ = some (.slice Ao42 t186.length co42) := (blk_cell BK189.out 2).trans rfl
      have HS0 := Aside0.mk (St.new wz)
      go_upto_region 7 with (first | ((with_reducible refine gate_dst (N := 6) rfl ?_); refine box_event ?hg (N := 6) ?hd (cs := #[.slice none 0 0]) (t := 22) ?hr ?_; (case hd => rfl); (case hg => rfl); (case hr => first | (go_simp; done) | (go_simp; rfl)); intro gs hg wn6 hbox hb; have HS1 := Aside0.mk (St.box HS0.out hg hbox hb); clear HS0 hg hb hbox) | ((with_reducible refine gate_store (t := 22) (p := 6) (v := Operand.tmp 40) rfl ?_); refine put_event rfl 22 (.tmp 6) (Operand.tmp 40) rfl rfl gs 0 #[.slice none 0 0] 22 (.slice Ao42 t186.length co42) rfl rfl rfl rfl (by kernel_rfl) (St.at_ HS1.out 0 rfl) (by simp) ?_; intro wp6 h1 hk hbb; have HS2 := Aside0.mk (show St wz wp6 [(gs, #[.slice Ao42 t186.length co42], 22)] from St.put HS1.out 0 rfl h1 hk hbb); clear HS1 h1 hk hbb))
      clear hcq2
      go_upto_region 8 with (first | ((with_reducible refine gate_dst (N := 7) rfl ?_); refine box_event ?hg (N := 7) ?hd (cs := #[.int .i64 0]) (t := 3) ?hr ?_; (case hd => rfl); (case hg => rfl); (case hr => first | (go_simp; done) | (go_simp; rfl)); intro g7 hg wn7 hbox hb; have HS3 := Aside0.mk (St.box HS2.out hg hbox hb); clear HS2 hg hb hbox) | ((with_reducible refine gate_dst (N := 8) rfl ?_); refine box_event ?hg (N := 8) ?hd (cs := #[.int .i64 0]) (t := 3) ?hr ?_; (case hd => rfl); (case hg => rfl); (case hr => first | (go_simp; done) | (go_simp; rfl)); intro g8 hg wn8 hbox hb; have HS4 := Aside0.mk (St.box HS3.out hg hbox hb); clear HS3 hg hb hbox) | ((with_reducible refine gate_dst (N := 9) rfl ?_); refine box_event ?hg (N := 9) ?hd (cs := #[.int .i64 0]) (t := 3) ?hr ?_; (case hd => rfl); (case hg => rfl); (case hr => first | (go_simp; done) | (go_simp; rfl)); intro g9 hg wn9 hbox hb; have HS5 := Aside0.mk (St.box HS4.out hg hbox hb); clear HS4 hg hb hbox) | ((with_reducible refine gate_store (t := 3) (p := 7) (v := Operand.tmp 46) rfl ?_); refine put_event rfl 3 (.tmp 7) (Operand.tmp 46) rfl rfl g7 0 #[.int .i64 0] 3 (.int .i64 (wrap64 (a1 + (wrap64 (Int.tdiv (wrap64 (a1 * a1)) 16))))) rfl rfl rfl rfl (by kernel_rfl) (St.at_ HS5.out 2 rfl) (by simp) ?_; intro wp7 h1 hk hbb; have HS6 := Aside0.mk (show St wz wp7 [(g9, #[.int .i64 0], 3), (g8, #[.int .i64 0], 3), (g7, #[.int .i64 (wrap64 (a1 + (wrap64 (Int.tdiv (wrap64 (a1 * a1)) 16))))], 3), (gs, #[.slice Ao42 t186.length co42], 22)] from St.put HS5.out 2 rfl h1 hk hbb); clear HS5 h1 hk hbb) | ((with_reducible refine gate_store (t := 3) (p := 8) (v := Operand.tmp 48) rfl ?_); refine put_event rfl 3 (.tmp 8) (Operand.tmp 48) rfl rfl g8 0 #[.int .i64 0] 3 (.int .i64 (wrap64 (Int.tdiv a1 2))) rfl rfl rfl rfl (by kernel_rfl) (St.at_ HS6.out 1 rfl) (by simp) ?_; intro wp8 h1 hk hbb; have HS7 := Aside0.mk (show St wz wp8 [(g9, #[.int .i64 0], 3), (g8, #[.int .i64 (wrap64 (Int.tdiv a1 2))], 3), (g7, #[.int .i64 (wrap64 (a1 + (wrap64 (Int.tdiv (wrap64 (a1 * a1)) 16))))], 3), (gs, #[.slice Ao42 t186.length co42], 22)] from St.put HS6.out 1 rfl h1 hk hbb); clear HS6 h1 hk hbb) | ((with_reducible refine gate_store (t := 3) (p := 9) (v := Operand.tmp 51) rfl ?_); refine put_event rfl 3 (.tmp 9) (Operand.tmp 51) rfl rfl g9 0 #[.int .i64 0] 3 (.int .i64 (wrap64 ((wrap64 (Int.tdiv a1 4)) + 1))) rfl rfl rfl rfl (by kernel_rfl) (St.at_ HS7.out 0 rfl) (by simp) ?_; intro wp9 h1 hk hbb; have HS8 := Aside0.mk (show St wz wp9 [(g9, #[.int .i64 (wrap64 ((wrap64 (Int.tdiv a1 4)) + 1))], 3), (g8, #[.int .i64 (wrap64 (Int.tdiv a1 2))], 3), (g7, #[.int .i64 (wrap64 (a1 + (wrap64 (Int.tdiv (wrap64 (a1 * a1)) 16))))], 3), (gs, #[.slice Ao42 t186.length co42], 22)] from St.put HS7.out 0 rfl h1 hk hbb); clear HS7 h1 hk hbb))
      go_upto_region 9 with (first | ((with_reducible refine gate_dst (N := 10) rfl ?_); refine box_event ?hg (N := 10) ?hd (cs := #[.nilFunc]) (t := 125) ?hr ?_; (case hd => rfl); (case hg => rfl); (case hr => first | (go_simp; done) | (go_simp; rfl)); intro g10 hg wn10 hbox hb; have HS9 := Aside0.mk (St.box HS8.out hg hbox hb); clear HS8 hg hb hbox) | ((with_reducible refine gate_store (t := 125) (p := 10) (v := (Operand.func 108)) rfl ?_); refine put_event rfl 125 (.tmp 10) ((Operand.func 108)) rfl rfl g10 0 #[.nilFunc] 125 (.func (.func 108) #[] #[]) rfl rfl rfl rfl (by kernel_rfl) (St.at_ HS9.out 0 rfl) (by simp) ?_; intro wp10 h1 hk hbb; have HS10 := Aside0.mk (show St wz wp10 [(g10, #[.func (.func 108) #[] #[]], 125), (g9, #[.int .i64 (wrap64 ((wrap64 (Int.tdiv a1 4)) + 1))], 3), (g8, #[.int .i64 (wrap64 (Int.tdiv a1 2))], 3), (g7, #[.int .i64 (wrap64 (a1 + (wrap64 (Int.tdiv (wrap64 (a1 * a1)) 16))))], 3), (gs, #[.slice Ao42 t186.length co42], 22)] from St.put HS9.out 0 rfl h1 hk hbb); clear HS9 h1 hk hbb))
      have HFAR := Aside0.mk (show ∀ k, k < wz.heap.size → k ≠ gs ∧ k ≠ g10 ∧ k ≠ g7 ∧ k ≠ g8 ∧ k ≠ g9 from fun k hk => ⟨Nat.ne_of_lt (Nat.lt_of_lt_of_le hk (St.ge HS10.out 4 rfl)), Nat.ne_of_lt (Nat.lt_of_lt_of_le hk (St.ge HS10.out 0 rfl)), Nat.ne_of_lt (Nat.lt_of_lt_of_le hk (St.ge HS10.out 3 rfl)), Nat.ne_of_lt (Nat.lt_of_lt_of_le hk (St.ge HS10.out 2 rfl)), Nat.ne_of_lt (Nat.lt_of_lt_of_le hk (St.ge HS10.out 1 rfl))⟩)
      have HX := Aside0.mk (show EBx (.slice Ao42 t186.length co42) (wrap64 (a1 + (wrap64 (Int.tdiv (wrap64 (a1 * a1)) 16)))) (wrap64 (Int.tdiv a1 2)) (wrap64 ((wrap64 (Int.tdiv a1 4)) + 1)) gs g10 g7 g8 g9 wp10 from ⟨St.at_ HS10.out 4 rfl, St.at_ HS10.out 0 rfl, St.at_ HS10.out 3 rfl, St.at_ HS10.out 2 rfl, St.at_ HS10.out 1 rfl⟩)
      have hbz := HS10.out.below
      replace HOz := Aside0.mk (Kd.R_below HOz.out hbz)
      replace BK183 := Aside0.mk (blk_below BK183.out hbz)
      replace BK184 := Aside0.mk (blk_below BK184.out hbz)
      replace BK189 := Aside0.mk (blk_below BK189.out hbz)
      replace HB := Aside0.mk (below_step HB.out hbz)
      clear hbz HS10
      have hcp_ : wp10.cell? ⟨gb183, 1, none⟩ = some (.int .i64 a0_1) := (blk_cell BK183.out 1).trans rfl
      go_wp2
      clear hcp_
      go_loopg [55] kj2 (fun kq v55 w' => ∃ (x55_2 : Int) (x190002_2 : List Int), v55 = .int .i64 x55_2 ∧ Aside0 (impl_Smooth.l0 kq (wrap64 (a1 + (wrap64 (Int.tdiv (wrap64 (a1 * a1)) 16)))) (wrap64 (Int.tdiv a1 2)) (wrap64 ((wrap64 (Int.tdiv a1 4)) + 1)) a0_1 x55_2 a0_0 a0_1 l0_2 a0_0 a0_1 x190002_2 = some (r1, r2, r3)) ∧ Aside0 (kq ≤ kj2) ∧ Aside0 (Kd.R (Kd.int .i64) 3 w' w.heap.size (fun k_ => k_ < wz.heap.size) (.slice Ao42 t186.length co42) x190002_2) ∧ Aside0 (w'.heap[gb183]? = some (.cells #[.int .i64 a0_0, .int .i64 a0_1, (.slice A0_2 l0_2.length c0_2)] 66 (0, 0))) ∧ Aside0 (w'.heap[gb184]? = some (.cells #[.int .i64 0, .int .i64 0, (.slice none 0 0)] 66 (0, 0))) ∧ Aside0 (w'.heap[gb189]? = some (.cells #[.int .i64 a0_0, .int .i64 a0_1, (.slice Ao42 t186.length co42)] 66 (0, 0))) ∧ Aside0 (Below w.heap.size w w') ∧ Aside0 (EBx (.slice Ao42 t186.length co42) (wrap64 (a1 + (wrap64 (Int.tdiv (wrap64 (a1 * a1)) 16)))) (wrap64 (Int.tdiv a1 2)) (wrap64 ((wrap64 (Int.tdiv a1 4)) + 1)) gs g10 g7 g8 g9 w'))
      case atStart => exact ⟨(0), (t186), (by first | rfl | (simp; done) | (simp [*]; done)), H', ⟨Nat.le_refl _⟩, HOz, BK183, BK184, BK189, HB, HX⟩
      case round =>
        clear H'
        try clear c1
        try clear c2
        try clear p2
        try clear c3
        try clear c4
        try clear p6
        try clear c13
        try clear c22
        try clear c22b0
        try clear c32
        try clear c33
        try clear c35
        try clear c46
        try clear c47
        try clear c49
        try clear hcz34_0
        try clear hcz34_1
        try clear hcz34_2
        try clear hcz36_0
        try clear hcz36_1
        try clear hcz36_2
        try clear hcz48_0
        try clear hcz48_1
        try clear hcz48_2
        try clear hcz50_0
        try clear hcz50_1
        try clear hcz50_2
        try clear hfz34_0
        try clear hfz34_1
        try clear hfz34_2
        try clear hfz36_0
        try clear hfz36_1
        try clear hfz36_2
        try clear hfz48_0
        try clear hfz48_1
        try clear hfz48_2
        try clear hfz50_0
        try clear hfz50_1
        try clear hfz50_2
        obtain ⟨x55_2, x190002_2, rfl, HA, HK2, HO_190002, BK183, BK184, BK189, HB, HX⟩ := hrel
        have hl190002_2 := (Kd.R_reads' HO_190002.out).1
        rw [hl190002_2] at HO_190002
        (try simp only [hl190002_2])
        (try simp only [hl190002_2] at BK183)
        (try simp only [hl190002_2] at BK184)
        (try simp only [hl190002_2] at BK189)
        (try simp only [hl190002_2] at HX)
        cases gk with
        | zero => exact absurd HA.out (by simp [impl_Smooth.l0])
        | succ k2 =>
          have H := HA.out
          clear HA
          simp only [impl_Smooth.l0] at H
          by_cases c51 : x55_2 < a0_1
          · rw [if_pos c51] at H
            have c51b0 : decide (x55_2 < a0_1) = true := decide_eq_true c51
            clear c51
            have H' := Aside0.mk H
            clear H
            go_wp2
            go_loopg [13] k2 (fun kq v13 w' => ∃ (x13_3 : Int) (x190002_3 : List Int), v13 = .int .i64 x13_3 ∧ Aside0 (impl_Smooth.l1 kq (wrap64 (a1 + (wrap64 (Int.tdiv (wrap64 (a1 * a1)) 16)))) (wrap64 (Int.tdiv a1 2)) (wrap64 ((wrap64 (Int.tdiv a1 4)) + 1)) x55_2 x13_3 a0_1 x55_2 a0_0 a0_1 l0_2 a0_0 a0_1 x190002_3 = some (r1, r2, r3)) ∧ Aside0 (kq ≤ k2) ∧ Aside0 (Kd.R (Kd.int .i64) 3 w' w.heap.size (fun k_ => k_ < wz.heap.size) (.slice Ao42 x190002_2.length co42) x190002_3) ∧ Aside0 (w'.heap[gb183]? = some (.cells #[.int .i64 a0_0, .int .i64 a0_1, (.slice A0_2 l0_2.length c0_2)] 66 (0, 0))) ∧ Aside0 (w'.heap[gb184]? = some (.cells #[.int .i64 0, .int .i64 0, (.slice none 0 0)] 66 (0, 0))) ∧ Aside0 (w'.heap[gb189]? = some (.cells #[.int .i64 a0_0, .int .i64 a0_1, (.slice Ao42 x190002_2.length co42)] 66 (0, 0))) ∧ Aside0 (Below w.heap.size w w') ∧ Aside0 (EBx (.slice Ao42 x190002_2.length co42) (wrap64 (a1 + (wrap64 (Int.tdiv (wrap64 (a1 * a1)) 16)))) (wrap64 (Int.tdiv a1 2)) (wrap64 ((wrap64 (Int.tdiv a1 4)) + 1)) gs g10 g7 g8 g9 w'))
            case atStart => exact ⟨(4), (x190002_2), (by first | rfl | (simp; done) | (simp [*]; done)), H', ⟨Nat.le_refl _⟩, ⟨by (try simp only [hl190002_2]); (with_reducible repeat (first | apply Kd.R_alloc | apply Kd.R_drewN | apply Kd.R_drew)); exact HO_190002.out⟩, ⟨by (try simp only [hl190002_2]); (with_reducible repeat (first | refine blk_drewN ?_ _ | refine blk_drew ?_ | refine blk_alloc ?_ _)); exact BK183.out⟩, ⟨by (try simp only [hl190002_2]); (with_reducible repeat (first | refine blk_drewN ?_ _ | refine blk_drew ?_ | refine blk_alloc ?_ _)); exact BK184.out⟩, ⟨by (try simp only [hl190002_2]); (with_reducible repeat (first | refine blk_drewN ?_ _ | refine blk_drew ?_ | refine blk_alloc ?_ _)); exact BK189.out⟩, ⟨by repeat (first | (with_reducible first | exact HB.out | apply below_alloc | apply pw_below_drewN | apply below_drew1 | refine below_set ?_ GE183.out | refine below_set ?_ GE184.out | refine below_set ?_ GE189.out) | exact HB.out)⟩, ⟨by (try simp only [hl190002_2]); exact HX.out⟩⟩
            case round =>
              clear H'
              try clear c1
              try clear c2
              try clear p2
              try clear c3
              try clear c4
              try clear c5
              try clear p6
              try clear c13
              try clear c22
              try clear c22b0
              try clear c32
              try clear c33
              try clear c35
              try clear c46
              try clear c47
              try clear c49
              try clear c51
              try clear c51b0
              try clear hcz34_0
              try clear hcz34_1
              try clear hcz34_2
              try clear hcz36_0
              try clear hcz36_1
              try clear hcz36_2
              try clear hcz48_0
              try clear hcz48_1
              try clear hcz48_2
              try clear hcz50_0
              try clear hcz50_1
              try clear hcz50_2
              try clear hfz34_0
              try clear hfz34_1
              try clear hfz34_2
              try clear hfz36_0
              try clear hfz36_1
              try clear hfz36_2
              try clear hfz48_0
              try clear hfz48_1
              try clear hfz48_2
              try clear hfz50_0
              try clear hfz50_1
              try clear hfz50_2
              try clear p2
              try clear p6
              obtain ⟨x13_3, x190002_3, rfl, HA, HK3, HO_190002, BK183, BK184, BK189, HB, HX⟩ := hrel
              have hl190002_3 := (Kd.R_reads' HO_190002.out).1
              rw [hl190002_3] at HO_190002
              (try simp only [hl190002_3])
              (try simp only [hl190002_3] at BK183)
              (try simp only [hl190002_3] at BK184)
              (try simp only [hl190002_3] at BK189)
              (try simp only [hl190002_3] at HX)
              cases gk with
              | zero => exact absurd HA.out (by simp [impl_Smooth.l1])
              | succ k3 =>
                have H := HA.out
                clear HA
                simp only [impl_Smooth.l1] at H
                by_cases c52 : (wrap64 (x13_3 + 1)) < a0_0
                rotate_left
                · rw [if_neg c52] at H
                  have c52b0 : decide ((wrap64 (x13_3 + 1)) < a0_0) = false := decide_eq_false c52
                  clear c52
                  have H' := Aside0.mk H
                  clear H
                  have hnb58 := NB183_184.out
                  have hnc58 := NB184_183.out
                  have hnb59 := NB183_189.out
                  have hnc59 := NB189_183.out
                  have hcz60_0 : wr.cell? ⟨gb183, 0, none⟩ = some (.int .i64 a0_0) := (blk_cell BK183.out 0).trans rfl
                  have hcz60_1 : wr.cell? ⟨gb183, 1, none⟩ = some (.int .i64 a0_1) := (blk_cell BK183.out 1).trans rfl
                  have hcz60_2 : wr.cell? ⟨gb183, 2, none⟩ = some (.slice A0_2 l0_2.length c0_2) := (blk_cell BK183.out 2).trans rfl
                  have hfz60_0 := blk_frozen BK183.out 0
                  have hfz60_1 := blk_frozen BK183.out 1
                  have hfz60_2 := blk_frozen BK183.out 2
                  go_wp2
                  (try simp only [← hl190002_2, ← hl190002_3])
                  go_roundg k3
                  case measure => have := HJ2.out; have := HK2.out; have := HK3.out; omega
                  case rel => exact ⟨(wrap64 (x55_2 + 1)), (x190002_3), (by first | rfl | (simp; done) | (simp [*]; done)), H', ⟨by have := HJ2.out; have := HK2.out; have := HK3.out; omega⟩, ⟨by (try simp only [hl190002_2]); (try simp only [hl190002_3]); (with_reducible repeat (first | apply Kd.R_alloc | apply Kd.R_drewN | apply Kd.R_drew)); exact HO_190002.out⟩, ⟨by (try simp only [hl190002_2]); (try simp only [hl190002_3]); (with_reducible repeat (first | refine blk_drewN ?_ _ | refine blk_drew ?_ | refine blk_alloc ?_ _)); exact BK183.out⟩, ⟨by (try simp only [hl190002_2]); (try simp only [hl190002_3]); (with_reducible repeat (first | refine blk_drewN ?_ _ | refine blk_drew ?_ | refine blk_alloc ?_ _)); exact BK184.out⟩, ⟨by (try simp only [hl190002_2]); (try simp only [hl190002_3]); (with_reducible repeat (first | refine blk_drewN ?_ _ | refine blk_drew ?_ | refine blk_alloc ?_ _)); exact BK189.out⟩, ⟨by repeat (first | (with_reducible first | exact HB.out | apply below_alloc | apply pw_below_drewN | apply below_drew1 | refine below_set ?_ GE183.out | refine below_set ?_ GE184.out | refine below_set ?_ GE189.out) | exact HB.out)⟩, ⟨by (try simp only [hl190002_2]); (try simp only [hl190002_3]); exact HX.out⟩⟩
                rw [if_pos c52] at H
                have c52b0 : decide ((wrap64 (x13_3 + 1)) < a0_0) = true := decide_eq_true c52
                clear c52
                replace H := Option.bind_eq_some_iff.mp H
                obtain ⟨t190, A530, H⟩ := H
                replace H : (impl_Smooth.l1 k3 (wrap64 (a1 + (wrap64 (Int.tdiv (wrap64 (a1 * a1)) 16)))) (wrap64 (Int.tdiv a1 2)) (wrap64 ((wrap64 (Int.tdiv a1 4)) + 1)) x55_2 (wrap64 (x13_3 + 4)) a0_1 x55_2 a0_0 a0_1 l0_2 a0_0 a0_1 t190) = some (r1, r2, r3) := H
                have A53 := Aside0.mk A530
                clear A530
                have H' := Aside0.mk H
                clear H
                have hnb54 := NB183_184.out
                have hnc54 := NB184_183.out
                have hnb55 := NB183_189.out
                have hnc55 := NB189_183.out
                have hcz56_0 : wr.cell? ⟨gb183, 0, none⟩ = some (.int .i64 a0_0) := (blk_cell BK183.out 0).trans rfl
                have hcz56_1 : wr.cell? ⟨gb183, 1, none⟩ = some (.int .i64 a0_1) := (blk_cell BK183.out 1).trans rfl
                have hcz56_2 : wr.cell? ⟨gb183, 2, none⟩ = some (.slice A0_2 l0_2.length c0_2) := (blk_cell BK183.out 2).trans rfl
                have hfz56_0 := blk_frozen BK183.out 0
                have hfz56_1 := blk_frozen BK183.out 1
                have hfz56_2 := blk_frozen BK183.out 2
                go_wp2_with (first | ((with_reducible refine gate_dst (N := 72) rfl ?_); refine goesLC_ (n := 65) (some 72) rfl rfl Try.func109 (by kernel_rfl) rfl #[.int .i64 (wrap64 ((wrap64 (x55_2 * a0_0)) + x13_3)), .int .i64 1, .pointer (some ⟨gs, 0, none⟩), .pointer (some ⟨g10, 0, none⟩), .pointer (some ⟨g7, 0, none⟩), .pointer (some ⟨g8, 0, none⟩), .pointer (some ⟨g9, 0, none⟩)] rfl rfl (by simp only [List.map_toArray, List.map_cons, List.map_nil, List.append_toArray, List.cons_append, List.nil_append]; rfl) ?_; have hfx_ := fun (k : Nat) (e_ : some k = (.slice Ao42 x190002_3.length co42 : Value).ownBlock) => HFAR.out k (HO_190002.out.1 k e_.symm); (with_reducible refine (impl_Smooth_2.calls k3 (wrap64 ((wrap64 (x55_2 * a0_0)) + x13_3)) 1 (fun k_ => some k_ = (.slice Ao42 x190002_3.length co42 : Value).ownBlock) (.slice Ao42 x190002_3.length co42) x190002_3 (wrap64 (a1 + (wrap64 (Int.tdiv (wrap64 (a1 * a1)) 16)))) (wrap64 (Int.tdiv a1 2)) (wrap64 ((wrap64 (Int.tdiv a1 4)) + 1)) t190 w _ gs g10 g7 g8 g9 HX.out hfx_ ?side1 ?side2 A53.out).mono ?_); (case side1 => repeat (first | (with_reducible first | exact HB.out | apply below_alloc | apply pw_below_drewN | apply below_drew1 | refine below_set ?_ GE183.out | refine below_set ?_ GE184.out | refine below_set ?_ GE189.out) | exact HB.out)); (case side2 => exact Kd.R_tight rfl HO_190002.out); rintro e w57 ⟨rfl, hy0, hb, hkp⟩; refine ⟨_, rfl, ?_⟩; have n0_ := Aside0.mk (Kd.R_reok rfl hy0 (fun k_ e_ => HO_190002.out.1 k_ e_)); have n1_ := Aside0.mk (blk_kept (by (with_reducible repeat (first | refine blk_drewN ?_ _ | refine blk_drew ?_ | refine blk_alloc ?_ _)); exact BK183.out) hkp (fun hs_ => (fun e_ => (Kd.R_ne HO_190002.out BK183.out (by decide)) e_) hs_)); have n2_ := Aside0.mk (blk_kept (by (with_reducible repeat (first | refine blk_drewN ?_ _ | refine blk_drew ?_ | refine blk_alloc ?_ _)); exact BK184.out) hkp (fun hs_ => (fun e_ => (Kd.R_ne HO_190002.out BK184.out (by decide)) e_) hs_)); have n3_ := Aside0.mk (blk_kept (by (with_reducible repeat (first | refine blk_drewN ?_ _ | refine blk_drew ?_ | refine blk_alloc ?_ _)); exact BK189.out) hkp (fun hs_ => (fun e_ => (Kd.R_ne HO_190002.out BK189.out (by decide)) e_) hs_)); have n4_ := Aside0.mk (hb); have n5_ := Aside0.mk (EBx.kept HX.out hkp hfx_); clear HX; have HX := n5_; clear n5_ hfx_; clear HO_190002; clear BK183; clear BK184; clear BK189; clear HB; have HO_190002 := n0_; have BK183 := n1_; have BK184 := n2_; have BK189 := n3_; have HB := n4_; clear n0_ n1_ n2_ n3_ n4_; (try clear hb); (try clear hkp); (try clear hy0)))
                (try simp only [← hl190002_3])
                go_roundg k3
                case measure => have := HJ2.out; have := HK2.out; have := HK3.out; omega
                case rel => exact ⟨(wrap64 (x13_3 + 4)), (t190), (by first | rfl | (simp; done) | (simp [*]; done)), H', ⟨by have := HJ2.out; have := HK2.out; have := HK3.out; omega⟩, ⟨by (try simp only [hl190002_2]); (try simp only [hl190002_3]); (with_reducible repeat (first | apply Kd.R_alloc | apply Kd.R_drewN | apply Kd.R_drew)); exact HO_190002.out⟩, ⟨by (try simp only [hl190002_2]); (try simp only [hl190002_3]); (with_reducible repeat (first | refine blk_drewN ?_ _ | refine blk_drew ?_ | refine blk_alloc ?_ _)); exact BK183.out⟩, ⟨by (try simp only [hl190002_2]); (try simp only [hl190002_3]); (with_reducible repeat (first | refine blk_drewN ?_ _ | refine blk_drew ?_ | refine blk_alloc ?_ _)); exact BK184.out⟩, ⟨by (try simp only [hl190002_2]); (try simp only [hl190002_3]); (with_reducible repeat (first | refine blk_drewN ?_ _ | refine blk_drew ?_ | refine blk_alloc ?_ _)); exact BK189.out⟩, ⟨by repeat (first | (with_reducible first | exact HB.out | apply below_alloc | apply pw_below_drewN | apply below_drew1 | refine below_set ?_ GE183.out | refine below_set ?_ GE184.out | refine below_set ?_ GE189.out) | exact HB.out)⟩, ⟨by (try simp only [hl190002_2]); (try simp only [hl190002_3]); exact HX.out⟩⟩
          rw [if_neg c51] at H
          have c51b0 : decide (x55_2 < a0_1) = false := decide_eq_false c51
          clear c51
          have H' := Aside0.mk H
          clear H
          have hnb61 := NB183_184.out
          have hnc61 := NB184_183.out
          have hnb62 := NB183_189.out
          have hnc62 := NB189_183.out
          have hcz63_0 : wr.cell? ⟨gb183, 0, none⟩ = some (.int .i64 a0_0) := (blk_cell BK183.out 0).trans rfl
          have hcz63_1 : wr.cell? ⟨gb183, 1, none⟩ = some (.int .i64 a0_1) := (blk_cell BK183.out 1).trans rfl
          have hcz63_2 : wr.cell? ⟨gb183, 2, none⟩ = some (.slice A0_2 l0_2.length c0_2) := (blk_cell BK183.out 2).trans rfl
          have hfz63_0 := blk_frozen BK183.out 0
          have hfz63_1 := blk_frozen BK183.out 1
          have hfz63_2 := blk_frozen BK183.out 2
          go_wp2
          go_loopg [76] k2 (fun kq v76 w' => ∃ (x76_3 : Int) (x190002_3 : List Int), v76 = .int .i64 x76_3 ∧ Aside0 (impl_Smooth.l2 kq (wrap64 (a1 + (wrap64 (Int.tdiv (wrap64 (a1 * a1)) 16)))) (wrap64 (Int.tdiv a1 2)) (wrap64 ((wrap64 (Int.tdiv a1 4)) + 1)) a0_0 x76_3 a0_0 a0_1 l0_2 a0_0 a0_1 x190002_3 = some (r1, r2, r3)) ∧ Aside0 (kq ≤ k2) ∧ Aside0 (Kd.R (Kd.int .i64) 3 w' w.heap.size (fun k_ => k_ < wz.heap.size) (.slice Ao42 x190002_2.length co42) x190002_3) ∧ Aside0 (w'.heap[gb183]? = some (.cells #[.int .i64 a0_0, .int .i64 a0_1, (.slice A0_2 l0_2.length c0_2)] 66 (0, 0))) ∧ Aside0 (w'.heap[gb184]? = some (.cells #[.int .i64 0, .int .i64 0, (.slice none 0 0)] 66 (0, 0))) ∧ Aside0 (w'.heap[gb189]? = some (.cells #[.int .i64 a0_0, .int .i64 a0_1, (.slice Ao42 x190002_2.length co42)] 66 (0, 0))) ∧ Aside0 (Below w.heap.size w w') ∧ Aside0 (EBx (.slice Ao42 x190002_2.length co42) (wrap64 (a1 + (wrap64 (Int.tdiv (wrap64 (a1 * a1)) 16)))) (wrap64 (Int.tdiv a1 2)) (wrap64 ((wrap64 (Int.tdiv a1 4)) + 1)) gs g10 g7 g8 g9 w'))
          case atStart => exact ⟨(0), (x190002_2), (by first | rfl | (simp; done) | (simp [*]; done)), H', ⟨Nat.le_refl _⟩, ⟨by (try simp only [hl190002_2]); (with_reducible repeat (first | apply Kd.R_alloc | apply Kd.R_drewN | apply Kd.R_drew)); exact HO_190002.out⟩, ⟨by (try simp only [hl190002_2]); (with_reducible repeat (first | refine blk_drewN ?_ _ | refine blk_drew ?_ | refine blk_alloc ?_ _)); exact BK183.out⟩, ⟨by (try simp only [hl190002_2]); (with_reducible repeat (first | refine blk_drewN ?_ _ | refine blk_drew ?_ | refine blk_alloc ?_ _)); exact BK184.out⟩, ⟨by (try simp only [hl190002_2]); (with_reducible repeat (first | refine blk_drewN ?_ _ | refine blk_drew ?_ | refine blk_alloc ?_ _)); exact BK189.out⟩, ⟨by repeat (first | (with_reducible first | exact HB.out | apply below_alloc | apply pw_below_drewN | apply below_drew1 | refine below_set ?_ GE183.out | refine below_set ?_ GE184.out | refine below_set ?_ GE189.out) | exact HB.out)⟩, ⟨by (try simp only [hl190002_2]); exact HX.out⟩⟩
          case round =>
            clear H'
            try clear c1
            try clear c2
            try clear p2
            try clear c3
            try clear c4
            try clear c5
            try clear c6
            try clear p6
            try clear c13
            try clear c22
            try clear c22b0
            try clear c32
            try clear c33
            try clear c35
            try clear c46
            try clear c47
            try clear c49
            try clear c51
            try clear c51b0
            try clear c52
            try clear c52b0
            try clear c54
            try clear c55
            try clear c58
            try clear c59
            try clear c61
            try clear c62
            try clear hcz34_0
            try clear hcz34_1
            try clear hcz34_2
            try clear hcz36_0
            try clear hcz36_1
            try clear hcz36_2
            try clear hcz48_0
            try clear hcz48_1
            try clear hcz48_2
            try clear hcz50_0
            try clear hcz50_1
            try clear hcz50_2
            try clear hcz56_0
            try clear hcz56_1
            try clear hcz56_2
            try clear hcz60_0
            try clear hcz60_1
            try clear hcz60_2
            try clear hcz63_0
            try clear hcz63_1
            try clear hcz63_2
            try clear hfz34_0
            try clear hfz34_1
            try clear hfz34_2
            try clear hfz36_0
            try clear hfz36_1
            try clear hfz36_2
            try clear hfz48_0
            try clear hfz48_1
            try clear hfz48_2
            try clear hfz50_0
            try clear hfz50_1
            try clear hfz50_2
            try clear hfz56_0
            try clear hfz56_1
            try clear hfz56_2
            try clear hfz60_0
            try clear hfz60_1
            try clear hfz60_2
            try clear hfz63_0
            try clear hfz63_1
            try clear hfz63_2
            try clear p2
            try clear p6
            obtain ⟨x76_3, x190002_3, rfl, HA, HK3, HO_190002, BK183, BK184, BK189, HB, HX⟩ := hrel
            have hl190002_3 := (Kd.R_reads' HO_190002.out).1
            rw [hl190002_3] at HO_190002
            (try simp only [hl190002_3])
            (try simp only [hl190002_3] at BK183)
            (try simp only [hl190002_3] at BK184)
            (try simp only [hl190002_3] at BK189)
            (try simp only [hl190002_3] at HX)
            cases gk with
            | zero => exact absurd HA.out (by simp [impl_Smooth.l2])
            | succ k3 =>
              have H := HA.out
              clear HA
              simp only [impl_Smooth.l2] at H
              by_cases c64 : x76_3 < a0_0
              rotate_left
              · rw [if_neg c64] at H
                have c64b0 : decide (x76_3 < a0_0) = false := decide_eq_false c64
                clear c64
                simp only [Option.some.injEq, Prod.mk.injEq] at H
                obtain ⟨rfl, rfl, rfl⟩ := H
                have hnb74 := NB189_183.out
                have hnc74 := NB183_189.out
                have hnb75 := NB189_184.out
                have hnc75 := NB184_189.out
                have hcz76_0 : wr.cell? ⟨gb189, 0, none⟩ = some (.int .i64 a0_0) := (blk_cell BK189.out 0).trans rfl
                have hcz76_1 : wr.cell? ⟨gb189, 1, none⟩ = some (.int .i64 a0_1) := (blk_cell BK189.out 1).trans rfl
                have hcz76_2 : wr.cell? ⟨gb189, 2, none⟩ = some (.slice Ao42 x190002_3.length co42) := (blk_cell BK189.out 2).trans rfl
                have hfz76_0 := blk_frozen BK189.out 0
                have hfz76_1 := blk_frozen BK189.out 1
                have hfz76_2 := blk_frozen BK189.out 2
                have hnb77 := NB184_183.out
                have hnc77 := NB183_184.out
                have hcz78_0 : wr.cell? ⟨gb184, 0, none⟩ = some (.int .i64 0) := (blk_cell BK184.out 0).trans rfl
                have hcz78_1 : wr.cell? ⟨gb184, 1, none⟩ = some (.int .i64 0) := (blk_cell BK184.out 1).trans rfl
                have hcz78_2 : wr.cell? ⟨gb184, 2, none⟩ = some (.slice none 0 0) := (blk_cell BK184.out 2).trans rfl
                have hfz78_0 := blk_frozen BK184.out 0
                have hfz78_1 := blk_frozen BK184.out 1
                have hfz78_2 := blk_frozen BK184.out 2
                go_wp2
                refine bodyPost_ret (results_cell_row rfl _ _ gb184 66 #[.int .i64 a0_0, .int .i64 a0_1, .slice Ao42 x190002_3.length co42] (0, 0) _ rfl (by (with_reducible repeat (first | refine blk_drewN ?_ _ | refine blk_drew ?_ | refine blk_alloc ?_ _)); refine blk_put (cs := #[.int .i64 a0_0, .int .i64 a0_1, .slice none 0 0]) ?_ 2 _ rfl; (with_reducible repeat (first | refine blk_drewN ?_ _ | refine blk_drew ?_ | refine blk_alloc ?_ _)); refine blk_put (cs := #[.int .i64 a0_0, .int .i64 0, .slice none 0 0]) ?_ 1 _ rfl; (with_reducible repeat (first | refine blk_drewN ?_ _ | refine blk_drew ?_ | refine blk_alloc ?_ _)); refine blk_put (cs := #[.int .i64 0, .int .i64 0, .slice none 0 0]) ?_ 0 _ rfl; (with_reducible repeat (first | refine blk_drewN ?_ _ | refine blk_drew ?_ | refine blk_alloc ?_ _)); exact BK184.out) Try.underlying66 rfl (by kernel_rfl)) rfl ?_
                exact ⟨_, by first | rfl | (simp [errW_none, errW_some] <;> rfl) | (simp [*, errW_none, errW_some] <;> rfl), by (with_reducible repeat (first | apply Kd.R_alloc | apply Kd.R_drewN | apply Kd.R_drew)); exact Kd.R_mono (Kd.R_far (p := ⟨gb184, 2, none⟩) (Kd.R_far (p := ⟨gb184, 1, none⟩) (Kd.R_far (p := ⟨gb184, 0, none⟩) (Kd.R_types HO_190002.out BK184.out (by decide)) (fun _ hk => hk.2) (.int .i64 a0_0)) (fun _ hk => hk.2) (.int .i64 a0_1)) (fun _ hk => hk.2) (.slice Ao42 x190002_3.length co42)) (fun _ hk => trivial), by repeat (first | (with_reducible first | exact HB.out | apply below_alloc | apply pw_below_drewN | apply below_drew1 | refine below_set ?_ GE183.out | refine below_set ?_ GE184.out | refine below_set ?_ GE189.out) | exact HB.out)⟩
              rw [if_pos c64] at H
              have c64b0 : decide (x76_3 < a0_0) = true := decide_eq_true c64
              clear c64
              have H' := Aside0.mk H
              clear H
              go_wp2
              go_loopg [15] k3 (fun kq v15 w' => ∃ (x15_4 : Int) (x190002_4 : List Int), v15 = .int .i64 x15_4 ∧ Aside0 (impl_Smooth.l3 kq (wrap64 (a1 + (wrap64 (Int.tdiv (wrap64 (a1 * a1)) 16)))) (wrap64 (Int.tdiv a1 2)) (wrap64 ((wrap64 (Int.tdiv a1 4)) + 1)) x76_3 x15_4 a0_0 x76_3 a0_0 a0_1 l0_2 a0_0 a0_1 x190002_4 = some (r1, r2, r3)) ∧ Aside0 (kq ≤ k3) ∧ Aside0 (Kd.R (Kd.int .i64) 3 w' w.heap.size (fun k_ => k_ < wz.heap.size) (.slice Ao42 x190002_3.length co42) x190002_4) ∧ Aside0 (w'.heap[gb183]? = some (.cells #[.int .i64 a0_0, .int .i64 a0_1, (.slice A0_2 l0_2.length c0_2)] 66 (0, 0))) ∧ Aside0 (w'.heap[gb184]? = some (.cells #[.int .i64 0, .int .i64 0, (.slice none 0 0)] 66 (0, 0))) ∧ Aside0 (w'.heap[gb189]? = some (.cells #[.int .i64 a0_0, .int .i64 a0_1, (.slice Ao42 x190002_3.length co42)] 66 (0, 0))) ∧ Aside0 (Below w.heap.size w w') ∧ Aside0 (EBx (.slice Ao42 x190002_3.length co42) (wrap64 (a1 + (wrap64 (Int.tdiv (wrap64 (a1 * a1)) 16)))) (wrap64 (Int.tdiv a1 2)) (wrap64 ((wrap64 (Int.tdiv a1 4)) + 1)) gs g10 g7 g8 g9 w'))
              case atStart => exact ⟨(4), (x190002_3), (by first | rfl | (simp; done) | (simp [*]; done)), H', ⟨Nat.le_refl _⟩, ⟨by (try simp only [hl190002_2]); (try simp only [hl190002_3]); (with_reducible repeat (first | apply Kd.R_alloc | apply Kd.R_drewN | apply Kd.R_drew)); exact HO_190002.out⟩, ⟨by (try simp only [hl190002_2]); (try simp only [hl190002_3]); (with_reducible repeat (first | refine blk_drewN ?_ _ | refine blk_drew ?_ | refine blk_alloc ?_ _)); exact BK183.out⟩, ⟨by (try simp only [hl190002_2]); (try simp only [hl190002_3]); (with_reducible repeat (first | refine blk_drewN ?_ _ | refine blk_drew ?_ | refine blk_alloc ?_ _)); exact BK184.out⟩, ⟨by (try simp only [hl190002_2]); (try simp only [hl190002_3]); (with_reducible repeat (first | refine blk_drewN ?_ _ | refine blk_drew ?_ | refine blk_alloc ?_ _)); exact BK189.out⟩, ⟨by repeat (first | (with_reducible first | exact HB.out | apply below_alloc | apply pw_below_drewN | apply below_drew1 | refine below_set ?_ GE183.out | refine below_set ?_ GE184.out | refine below_set ?_ GE189.out) | exact HB.out)⟩, ⟨by (try simp only [hl190002_2]); (try simp only [hl190002_3]); exact HX.out⟩⟩
              case round =>
                clear H'
                try clear c1
                try clear c2
                try clear p2
                try clear c3
                try clear c4
                try clear c5
                try clear c6
                try clear p6
                try clear c13
                try clear c22
                try clear c22b0
                try clear c32
                try clear c33
                try clear c35
                try clear c46
                try clear c47
                try clear c49
                try clear c51
                try clear c51b0
                try clear c52
                try clear c52b0
                try clear c54
                try clear c55
                try clear c58
                try clear c59
                try clear c61
                try clear c62
                try clear c64
                try clear c64b0
                try clear p64
                try clear hcz34_0
                try clear hcz34_1
                try clear hcz34_2
                try clear hcz36_0
                try clear hcz36_1
                try clear hcz36_2
                try clear hcz48_0
                try clear hcz48_1
                try clear hcz48_2
                try clear hcz50_0
                try clear hcz50_1
                try clear hcz50_2
                try clear hcz56_0
                try clear hcz56_1
                try clear hcz56_2
                try clear hcz60_0
                try clear hcz60_1
                try clear hcz60_2
                try clear hcz63_0
                try clear hcz63_1
                try clear hcz63_2
                try clear hfz34_0
                try clear hfz34_1
                try clear hfz34_2
                try clear hfz36_0
                try clear hfz36_1
                try clear hfz36_2
                try clear hfz48_0
                try clear hfz48_1
                try clear hfz48_2
                try clear hfz50_0
                try clear hfz50_1
                try clear hfz50_2
                try clear hfz56_0
                try clear hfz56_1
                try clear hfz56_2
                try clear hfz60_0
                try clear hfz60_1
                try clear hfz60_2
                try clear hfz63_0
                try clear hfz63_1
                try clear hfz63_2
                try clear p2
                try clear p6
                obtain ⟨x15_4, x190002_4, rfl, HA, HK4, HO_190002, BK183, BK184, BK189, HB, HX⟩ := hrel
                have hl190002_4 := (Kd.R_reads' HO_190002.out).1
                rw [hl190002_4] at HO_190002
                (try simp only [hl190002_4])
                (try simp only [hl190002_4] at BK183)
                (try simp only [hl190002_4] at BK184)
                (try simp only [hl190002_4] at BK189)
                (try simp only [hl190002_4] at HX)
                cases gk with
                | zero => exact absurd HA.out (by simp [impl_Smooth.l3])
                | succ k4 =>
                  have H := HA.out
                  clear HA
                  simp only [impl_Smooth.l3] at H
                  by_cases c65 : (wrap64 (x15_4 + 1)) < a0_1
                  rotate_left
                  · rw [if_neg c65] at H
                    have c65b0 : decide ((wrap64 (x15_4 + 1)) < a0_1) = false := decide_eq_false c65
                    clear c65
                    have H' := Aside0.mk H
                    clear H
                    have hnb71 := NB183_184.out
                    have hnc71 := NB184_183.out
                    have hnb72 := NB183_189.out
                    have hnc72 := NB189_183.out
                    have hcz73_0 : wr.cell? ⟨gb183, 0, none⟩ = some (.int .i64 a0_0) := (blk_cell BK183.out 0).trans rfl
                    have hcz73_1 : wr.cell? ⟨gb183, 1, none⟩ = some (.int .i64 a0_1) := (blk_cell BK183.out 1).trans rfl
                    have hcz73_2 : wr.cell? ⟨gb183, 2, none⟩ = some (.slice A0_2 l0_2.length c0_2) := (blk_cell BK183.out 2).trans rfl
                    have hfz73_0 := blk_frozen BK183.out 0
                    have hfz73_1 := blk_frozen BK183.out 1
                    have hfz73_2 := blk_frozen BK183.out 2
                    go_wp2
                    (try simp only [← hl190002_3, ← hl190002_4])
                    go_roundg k4
                    case measure => have := HJ2.out; have := HK2.out; have := HK3.out; have := HK4.out; omega
                    case rel => exact ⟨(wrap64 (x76_3 + 1)), (x190002_4), (by first | rfl | (simp; done) | (simp [*]; done)), H', ⟨by have := HJ2.out; have := HK2.out; have := HK3.out; have := HK4.out; omega⟩, ⟨by (try simp only [hl190002_2]); (try simp only [hl190002_3]); (try simp only [hl190002_4]); (with_reducible repeat (first | apply Kd.R_alloc | apply Kd.R_drewN | apply Kd.R_drew)); exact HO_190002.out⟩, ⟨by (try simp only [hl190002_2]); (try simp only [hl190002_3]); (try simp only [hl190002_4]); (with_reducible repeat (first | refine blk_drewN ?_ _ | refine blk_drew ?_ | refine blk_alloc ?_ _)); exact BK183.out⟩, ⟨by (try simp only [hl190002_2]); (try simp only [hl190002_3]); (try simp only [hl190002_4]); (with_reducible repeat (first | refine blk_drewN ?_ _ | refine blk_drew ?_ | refine blk_alloc ?_ _)); exact BK184.out⟩, ⟨by (try simp only [hl190002_2]); (try simp only [hl190002_3]); (try simp only [hl190002_4]); (with_reducible repeat (first | refine blk_drewN ?_ _ | refine blk_drew ?_ | refine blk_alloc ?_ _)); exact BK189.out⟩, ⟨by repeat (first | (with_reducible first | exact HB.out | apply below_alloc | apply pw_below_drewN | apply below_drew1 | refine below_set ?_ GE183.out | refine below_set ?_ GE184.out | refine below_set ?_ GE189.out) | exact HB.out)⟩, ⟨by (try simp only [hl190002_2]); (try simp only [hl190002_3]); (try simp only [hl190002_4]); exact HX.out⟩⟩
                  rw [if_pos c65] at H
                  have c65b0 : decide ((wrap64 (x15_4 + 1)) < a0_1) = true := decide_eq_true c65
                  clear c65
                  replace H := Option.bind_eq_some_iff.mp H
                  obtain ⟨t191, A660, H⟩ := H
                  replace H : (impl_Smooth.l3 k4 (wrap64 (a1 + (wrap64 (Int.tdiv (wrap64 (a1 * a1)) 16)))) (wrap64 (Int.tdiv a1 2)) (wrap64 ((wrap64 (Int.tdiv a1 4)) + 1)) x76_3 (wrap64 (x15_4 + 4)) a0_0 x76_3 a0_0 a0_1 l0_2 a0_0 a0_1 t191) = some (r1, r2, r3) := H
                  have A66 := Aside0.mk A660
                  clear A660
                  have H' := Aside0.mk H
                  clear H
                  have hnb67 := NB183_184.out
                  have hnc67 := NB184_183.out
                  have hnb68 := NB183_189.out
                  have hnc68 := NB189_183.out
                  have hcz69_0 : wr.cell? ⟨gb183, 0, none⟩ = some (.int .i64 a0_0) := (blk_cell BK183.out 0).trans rfl
                  have hcz69_1 : wr.cell? ⟨gb183, 1, none⟩ = some (.int .i64 a0_1) := (blk_cell BK183.out 1).trans rfl
                  have hcz69_2 : wr.cell? ⟨gb183, 2, none⟩ = some (.slice A0_2 l0_2.length c0_2) := (blk_cell BK183.out 2).trans rfl
                  have hfz69_0 := blk_frozen BK183.out 0
                  have hfz69_1 := blk_frozen BK183.out 1
                  have hfz69_2 := blk_frozen BK183.out 2
                  go_wp2_with (first | ((with_reducible refine gate_dst (N := 95) rfl ?_); refine goesLC_ (n := 86) (some 95) rfl rfl Try.func109 (by kernel_rfl) rfl #[.int .i64 (wrap64 ((wrap64 (x15_4 * a0_0)) + x76_3)), .int .i64 a0_0, .pointer (some ⟨gs, 0, none⟩), .pointer (some ⟨g10, 0, none⟩), .pointer (some ⟨g7, 0, none⟩), .pointer (some ⟨g8, 0, none⟩), .pointer (some ⟨g9, 0, none⟩)] rfl rfl (by simp only [List.map_toArray, List.map_cons, List.map_nil, List.append_toArray, List.cons_append, List.nil_append]; rfl) ?_; have hfx_ := fun (k : Nat) (e_ : some k = (.slice Ao42 x190002_4.length co42 : Value).ownBlock) => HFAR.out k (HO_190002.out.1 k e_.symm); (with_reducible refine (impl_Smooth_2.calls k4 (wrap64 ((wrap64 (x15_4 * a0_0)) + x76_3)) a0_0 (fun k_ => some k_ = (.slice Ao42 x190002_4.length co42 : Value).ownBlock) (.slice Ao42 x190002_4.length co42) x190002_4 (wrap64 (a1 + (wrap64 (Int.tdiv (wrap64 (a1 * a1)) 16)))) (wrap64 (Int.tdiv a1 2)) (wrap64 ((wrap64 (Int.tdiv a1 4)) + 1)) t191 w _ gs g10 g7 g8 g9 HX.out hfx_ ?side1 ?side2 A66.out).mono ?_); (case side1 => repeat (first | (with_reducible first | exact HB.out | apply below_alloc | apply pw_below_drewN | apply below_drew1 | refine below_set ?_ GE183.out | refine below_set ?_ GE184.out | refine below_set ?_ GE189.out) | exact HB.out)); (case side2 => exact Kd.R_tight rfl HO_190002.out); rintro e w70 ⟨rfl, hy0, hb, hkp⟩; refine ⟨_, rfl, ?_⟩; have n0_ := Aside0.mk (Kd.R_reok rfl hy0 (fun k_ e_ => HO_190002.out.1 k_ e_)); have n1_ := Aside0.mk (blk_kept (by (with_reducible repeat (first | refine blk_drewN ?_ _ | refine blk_drew ?_ | refine blk_alloc ?_ _)); exact BK183.out) hkp (fun hs_ => (fun e_ => (Kd.R_ne HO_190002.out BK183.out (by decide)) e_) hs_)); have n2_ := Aside0.mk (blk_kept (by (with_reducible repeat (first | refine blk_drewN ?_ _ | refine blk_drew ?_ | refine blk_alloc ?_ _)); exact BK184.out) hkp (fun hs_ => (fun e_ => (Kd.R_ne HO_190002.out BK184.out (by decide)) e_) hs_)); have n3_ := Aside0.mk (blk_kept (by (with_reducible repeat (first | refine blk_drewN ?_ _ | refine blk_drew ?_ | refine blk_alloc ?_ _)); exact BK189.out) hkp (fun hs_ => (fun e_ => (Kd.R_ne HO_190002.out BK189.out (by decide)) e_) hs_)); have n4_ := Aside0.mk (hb); have n5_ := Aside0.mk (EBx.kept HX.out hkp hfx_); clear HX; have HX := n5_; clear n5_ hfx_; clear HO_190002; clear BK183; clear BK184; clear BK189; clear HB; have HO_190002 := n0_; have BK183 := n1_; have BK184 := n2_; have BK189 := n3_; have HB := n4_; clear n0_ n1_ n2_ n3_ n4_; (try clear hb); (try clear hkp); (try clear hy0)))
                  (try simp only [← hl190002_4])
                  go_roundg k4
                  case measure => have := HJ2.out; have := HK2.out; have := HK3.out; have := HK4.out; omega
                  case rel => exact ⟨(wrap64 (x15_4 + 4)), (t191), (by first | rfl | (simp; done) | (simp [*]; done)), H', ⟨by have := HJ2.out; have := HK2.out; have := HK3.out; have := HK4.out; omega⟩, ⟨by (try simp only [hl190002_2]); (try simp only [hl190002_3]); (try simp only [hl190002_4]); (with_reducible repeat (first | apply Kd.R_alloc | apply Kd.R_drewN | apply Kd.R_drew)); exact HO_190002.out⟩, ⟨by (try simp only [hl190002_2]); (try simp only [hl190002_3]); (try simp only [hl190002_4]); (with_reducible repeat (first | refine blk_drewN ?_ _ | refine blk_drew ?_ | refine blk_alloc ?_ _)); exact BK183.out⟩, ⟨by (try simp only [hl190002_2]); (try simp only [hl190002_3]); (try simp only [hl190002_4]); (with_reducible repeat (first | refine blk_drewN ?_ _ | refine blk_drew ?_ | refine blk_alloc ?_ _)); exact BK184.out⟩, ⟨by (try simp only [hl190002_2]); (try simp only [hl190002_3]); (try simp only [hl190002_4]); (with_reducible repeat (first | refine blk_drewN ?_ _ | refine blk_drew ?_ | refine blk_alloc ?_ _)); exact BK189.out⟩, ⟨by repeat (first | (with_reducible first | exact HB.out | apply below_alloc | apply pw_below_drewN | apply below_drew1 | refine below_set ?_ GE183.out | refine below_set ?_ GE184.out | refine below_set ?_ GE189.out) | exact HB.out)⟩, ⟨by (try simp only [hl190002_2]); (try simp only [hl190002_3]); (try simp only [hl190002_4]); exact HX.out⟩⟩


end Go.Proofs.Ytggokppfhkebkaa.PFnSmooth

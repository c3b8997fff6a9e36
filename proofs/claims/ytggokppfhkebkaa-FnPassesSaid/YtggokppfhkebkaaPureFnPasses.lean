/- For all codes: each pixel of a drawn good image is in just one picture of its Split, and Merge puts them together again; no conditions. -/
import Derived.Test.YtggokppfhkebkaaPFnPassesx0
import Derived.Test.YtggokppfhkebkaaPFnPassesx1
import Derived.Test.YtggokppfhkebkaaPFnPassesx2
import Derived.Test.YtggokppfhkebkaaPFnPassesx3
import Derived.Test.YtggokppfhkebkaaPFnPassesx4
import Derived.Test.YtggokppfhkebkaaPFnPassesx5
import Derived.Test.YtggokppfhkebkaaPFnPassesx6
import Derived.Test.YtggokppfhkebkaaPFnPassesx7
import Derived.Test.YtggokppfhkebkaaPFnPassesx8
import Derived.Test.YtggokppfhkebkaaPFnPassesx9
import Derived.Test.YtggokppfhkebkaaTFPK
import Derived.Laws.Bits64b
namespace Go.Proofs.Ytggokppfhkebkaa.Pure
open Go.RowKit Go.Proofs.Ytggokppfhkebkaa.PFnPasses Go.Proofs.Ytggokppfhkebkaa.K Go.Proofs.YtggokppfhkebkaaW.PrintWords Go.Proofs.YtggokppfhkebkaaW.PrintLast Go.Proofs.YtggokppfhkebkaaW.PrintMore

theorem rdT39 (l : List S39) (i : Nat) : rd_T39 l (i : Int) = l.getD i z39 := by simp [rd_T39]
theorem rdT31 (l : List S31) (i : Nat) : rd_T31 l (i : Int) = l.getD i z31 := by simp [rd_T31]
theorem rdL3n (l : List (List Int)) (i : Nat) : rd_L3 l (i : Int) = l.getD i ([] : List Int) := by simp [rd_L3]
/-! What a good image is. -/
structure ImgOk (W H PL : Int) (l : List Int) : Prop where
  w : 1 ≤ W ∧ W ≤ 512
  h : 1 ≤ H ∧ H ≤ 512
  wh : W * H ≤ 4096
  pl : 1 ≤ PL ∧ PL ≤ 4
  len : (l.length : Int) = W * H * PL
theorem depth_shl {d : Int} (h : d = 1 ∨ d = 2 ∨ d = 4 ∨ d = 8 ∨ d = 16) : ∃ m : Int, shl .i64 1 d = m ∧ shl .i64 1 (IntKind.u64.wrap d) = m ∧ 1 ≤ m ∧ m ≤ 65536 ∧ 0 ≤ IntKind.u64.wrap d := by
  rcases h with rfl | rfl | rfl | rfl | rfl
  · exact ⟨2, rfl, rfl, by decide, by decide, by decide⟩
  · exact ⟨4, rfl, rfl, by decide, by decide, by decide⟩
  · exact ⟨16, rfl, rfl, by decide, by decide, by decide⟩
  · exact ⟨256, rfl, rfl, by decide, by decide, by decide⟩
  · exact ⟨65536, rfl, rfl, by decide, by decide, by decide⟩
theorem rng_both (l : List Int) (hl : l.length ≤ 1048576) (w h pl d m : Int) (h1 : shl .i64 1 (IntKind.u64.wrap d) = m) (h2 : 0 ≤ IntKind.u64.wrap d) (h3 : 1 ≤ m ∧ m ≤ 65536) : ∃ q : Bool, Ev (fun k => spec_GoodImage.l0 k l (l.length : Int) 0 w h pl d l) q ∧ Ev (fun k => impl_inRange.f k l (wrap64 (m - 1))) q := by
  have hw : wrap64 (m - 1) = m - 1 := w64 (by omega) (by omega)
  rw [hw]
  have main := down (n := l.length) (P := fun i => ∃ q : Bool, Ev (fun k => spec_GoodImage.l0 k l (l.length : Int) (i : Int) w h pl d l) q ∧ Ev (fun k => impl_inRange.l0 k (m - 1) l (l.length : Int) (i : Int)) q) ?_ ?_
  · exact main
  · exact ⟨true, Ev.step (fun k => rfl) (evneg (by omega) (Ev.now _)), Ev.step (fun k => rfl) (evneg (by omega) (Ev.now _))⟩
  · intro i hi ⟨q, a1, a2⟩
    generalize er : rd l (i : Int) = v
    by_cases c1 : v < 0
    · refine ⟨false, Ev.step (fun k => rfl) (evpos (by omega) (evpos (by omega) (evpos (by omega) ?_))), Ev.step (fun k => rfl) (evpos (by omega) (evpos (by omega) (evpos (by omega) ?_)))⟩
      · rw [er]; exact evpos c1 (Ev.now _)
      · rw [er]; exact evpos c1 (Ev.now _)
    by_cases c2 : v ≥ m
    · refine ⟨false, Ev.step (fun k => rfl) (evpos (by omega) (evpos (by omega) (evpos (by omega) ?_))), Ev.step (fun k => rfl) (evpos (by omega) (evpos (by omega) (evpos (by omega) ?_)))⟩
      · rw [er, h1]; exact evneg c1 (evpos h2 (evpos c2 (Ev.now _)))
      · rw [er]; exact evneg c1 (evpos (by omega) (Ev.now _))
    refine ⟨q, Ev.step (fun k => rfl) (evpos (by omega) (evpos (by omega) (evpos (by omega) ?_))), Ev.step (fun k => rfl) (evpos (by omega) (evpos (by omega) (evpos (by omega) ?_)))⟩
    · rw [er, h1, w64s (by omega)]; exact evneg c1 (evpos h2 (evneg c2 a1))
    · rw [er, w64s (by omega)]; exact evneg c1 (evneg (by omega) a2)
theorem goodSide_eq (n : Int) : impl_goodSide.f n = some (decide (1 ≤ n ∧ n ≤ 512)) := by
  unfold impl_goodSide.f
  by_cases c : n ≥ 1
  · rw [if_pos c]
    congr 1
    by_cases e : n ≤ 512
    · rw [decide_eq_true e, decide_eq_true ⟨by omega, e⟩]
    · rw [decide_eq_false e, decide_eq_false (fun z => e z.2)]
  · rw [if_neg c, decide_eq_false (fun z => c z.1)]
theorem depths (d : Int) : ∃ q : Bool, impl_goodDepth.f d = some q ∧ spec_l4Depth.f d = some q ∧ (q = true → d = 1 ∨ d = 2 ∨ d = 4 ∨ d = 8 ∨ d = 16) := by
  unfold impl_goodDepth.f spec_l4Depth.f
  by_cases c1 : d = 1
  · exact ⟨true, by rw [if_pos c1], by rw [if_pos c1], fun _ => by omega⟩
  by_cases c2 : d = 2
  · exact ⟨true, by rw [if_neg c1, if_pos c2], by rw [if_neg c1, if_pos c2], fun _ => by omega⟩
  by_cases c3 : d = 4
  · exact ⟨true, by rw [if_neg c1, if_neg c2, if_pos c3], by rw [if_neg c1, if_neg c2, if_pos c3], fun _ => by omega⟩
  by_cases c4 : d = 8
  · exact ⟨true, by rw [if_neg c1, if_neg c2, if_neg c3, if_pos c4], by rw [if_neg c1, if_neg c2, if_neg c3, if_pos c4], fun _ => by omega⟩
  exact ⟨d == 16, by rw [if_neg c1, if_neg c2, if_neg c3, if_neg c4], by rw [if_neg c1, if_neg c2, if_neg c3, if_neg c4], fun h => by have := beq_iff_eq.1 h; omega⟩
/-- Of a shape that is good: what the program says of the samples. -/
theorem shape_bad {w h pl d : Int} (l : List Int) (hs : impl_goodShape.f w h pl d = some false) : Ev (fun k => impl_GoodImage.f k w h pl d l) false := evlet hs (evneg (by simp) (Ev.now _))
theorem sides_false {w h : Int} (c : ¬ (1 ≤ w ∧ w ≤ 512 ∧ 1 ≤ h ∧ h ≤ 512)) : impl_goodSides.f w h = some false ∧ spec_l4Sides.f w h = some false := by
  unfold impl_goodSides.f spec_l4Sides.f
  rw [goodSide_eq, goodSide_eq]
  simp only [Option.bind_some]
  by_cases c1 : 1 ≤ w ∧ w ≤ 512
  · have c2 : ¬ (1 ≤ h ∧ h ≤ 512) := fun z => c ⟨c1.1, c1.2, z.1, z.2⟩
    rw [decide_eq_true c1, decide_eq_false c2]
    refine ⟨rfl, ?_⟩
    rw [if_pos (by omega), if_pos (by omega)]
    by_cases e : h ≥ 1
    · rw [if_pos e, decide_eq_false (by omega)]
    · rw [if_neg e]
  · rw [decide_eq_false c1]
    refine ⟨rfl, ?_⟩
    by_cases e : w ≥ 1
    · rw [if_pos e, if_neg (by omega)]
    · rw [if_neg e]
theorem good_img (w h pl d : Int) (l : List Int) (hl : l.length ≤ 1048576) : ∃ q : Bool, Ev (fun k => spec_GoodImage.f k w h pl d l) q ∧ Ev (fun k => impl_GoodImage.f k w h pl d l) q ∧ (q = true → ImgOk w h pl l) := by
  have j0t : Ev (fun k => spec_GoodImage.j0 k true w h pl d l) false := Ev.step (f := fun _ => some false) (fun k => by simp only [spec_GoodImage.j0, if_true]) (Ev.now _)
  have j1t : Ev (fun k => spec_GoodImage.j1 k true w h pl d l) false := Ev.step (f := fun _ => some false) (fun k => by simp only [spec_GoodImage.j1, if_true]) (Ev.now _)
  have no : ∀ {P : Prop}, (false = true) → P := fun h => by cases h
  by_cases cs : 1 ≤ w ∧ w ≤ 512 ∧ 1 ≤ h ∧ h ≤ 512
  rotate_left
  · obtain ⟨s1, s2⟩ := sides_false cs
    refine ⟨false, evlet s2 (evneg (by simp) j0t), shape_bad l ?_, no⟩
    unfold impl_goodShape.f; rw [s1]; rfl
  obtain ⟨w1, w2, h1, h2⟩ := cs
  have s2 : spec_l4Sides.f w h = some true := by
    unfold spec_l4Sides.f; rw [if_pos (by omega), if_pos (by omega), if_pos (by omega), decide_eq_true (by omega)]
  have wh0 : 1 ≤ w * h := by have := Int.mul_le_mul_of_nonneg_left h1 (show 0 ≤ w by omega); omega
  have wh1 : w * h ≤ 512 * 512 := by
    have a := Int.mul_le_mul_of_nonneg_right w2 (show 0 ≤ h by omega)
    omega
  have hw : wrap64 (w * h) = w * h := w64 (by omega) (by omega)
  have gs : impl_goodSides.f w h = some (decide (w * h ≤ 4096)) := by
    unfold impl_goodSides.f
    rw [goodSide_eq, goodSide_eq, decide_eq_true ⟨w1, w2⟩, decide_eq_true ⟨h1, h2⟩]
    simp only [Option.bind_some, if_true]
    rw [hw]
  have shp : ∀ q, (if decide (w * h ≤ 4096) = true then (if pl ≥ 1 then (if pl ≤ 4 then ((impl_goodDepth.f d).bind fun t114 => (if t114 = true then (if pl = 1 then (some true) else (some (decide (d ≥ 8)))) else (some false))) else (some false)) else (some false)) else (some false)) = some q → impl_goodShape.f w h pl d = some q := fun q hq => by
    unfold impl_goodShape.f; rw [gs]; exact hq
  by_cases c1 : w * h > 4096
  · exact ⟨false, evlet s2 (evpos rfl (evpos (by rw [hw]; exact c1) j0t)), shape_bad l (shp _ (by rw [decide_eq_false (by omega)]; rfl)), no⟩
  by_cases c2 : pl < 1
  · exact ⟨false, evlet s2 (evpos rfl (evneg (by rw [hw]; exact c1) (evpos c2 j0t))), shape_bad l (shp _ (by rw [if_pos (decide_eq_true (by omega)), if_neg (by omega)])), no⟩
  by_cases c3 : pl > 4
  · exact ⟨false, evlet s2 (evpos rfl (evneg (by rw [hw]; exact c1) (evneg c2 (evpos c3 j0t)))), shape_bad l (shp _ (by rw [if_pos (decide_eq_true (by omega)), if_pos (by omega), if_neg (by omega)])), no⟩
  obtain ⟨qd, d1, d2, d3⟩ := depths d
  have toj : ∀ {q : Bool}, Ev (fun k => spec_GoodImage.j0 k (!qd) w h pl d l) q → Ev (fun k => spec_GoodImage.f k w h pl d l) q := fun h => evlet s2 (evpos rfl (evneg (by rw [hw]; exact c1) (evneg c2 (evneg c3 (evlet d2 h)))))
  have shp2 : ∀ q, (if qd = true then (if pl = 1 then (some true) else (some (decide (d ≥ 8)))) else (some false)) = some q → impl_goodShape.f w h pl d = some q := fun q hq => shp q (by
    rw [if_pos (decide_eq_true (by omega)), if_pos (by omega), if_pos (by omega), d1]; exact hq)
  cases qd with
  | false => exact ⟨false, toj j0t, shape_bad l (shp2 _ rfl), no⟩
  | true =>
    have dd := d3 rfl
    have wp : w * h * pl ≤ 4096 * 4 := by
      have a := Int.mul_le_mul_of_nonneg_right (show w * h ≤ 4096 by omega) (show 0 ≤ pl by omega)
      omega
    have wp0 : 0 ≤ w * h * pl := Int.mul_nonneg (by omega) (by omega)
    have hwp : wrap64 (wrap64 (w * h) * pl) = w * h * pl := by rw [hw, w64 (by omega) (by omega)]
    obtain ⟨m, m1, m2, m3, m4, m5⟩ := depth_shl dd
    obtain ⟨q, r1, r2⟩ := rng_both l hl w h pl d m m2 m5 ⟨m3, m4⟩
    have jf : ∀ {f : Nat → Option Bool} {q : Bool}, (∀ k, spec_GoodImage.j0 (k + 1) false w h pl d l = f k) → Ev f q → Ev (fun k => spec_GoodImage.j0 k (!true) w h pl d l) q := fun hf he => Ev.step hf he
    by_cases c4 : pl > 1 ∧ d < 8
    · refine ⟨false, toj (jf (f := fun k => spec_GoodImage.j1 k true w h pl d l) (fun k => by simp only [spec_GoodImage.j0, Bool.false_eq_true, if_false]; rw [if_pos c4.1, if_pos c4.2]) j1t), shape_bad l (shp2 _ ?_), no⟩
      rw [if_pos rfl, if_neg (by omega), decide_eq_false (by omega)]
    have hj0 : ∀ {q : Bool}, Ev (fun k => spec_GoodImage.j1 k ((l.length : Int) != w * h * pl) w h pl d l) q → Ev (fun k => spec_GoodImage.f k w h pl d l) q := fun he => toj (jf (f := fun k => spec_GoodImage.j1 k ((l.length : Int) != w * h * pl) w h pl d l) (fun k => by
      simp only [spec_GoodImage.j0, Bool.false_eq_true, if_false]
      rw [hwp]
      by_cases c5 : pl > 1
      · rw [if_pos c5, if_neg (by omega)]
      · rw [if_neg c5]) he)
    have hsh : impl_goodShape.f w h pl d = some true := shp2 _ (by
      rw [if_pos rfl]
      by_cases c5 : pl = 1
      · rw [if_pos c5]
      · rw [if_neg c5, decide_eq_true (by omega)])
    by_cases c6 : (l.length : Int) = w * h * pl
    · refine ⟨q, hj0 ?_, evlet hsh (evpos rfl (evpos (by rw [hwp]; exact c6) (evpos (by omega) ?_))), fun _ => ⟨⟨w1, w2⟩, ⟨h1, h2⟩, by omega, by omega, c6⟩⟩
      · rw [show ((l.length : Int) != w * h * pl) = false by rw [c6]; simp]
        exact Ev.step (f := fun k => spec_GoodImage.l0 k l (l.length : Int) 0 w h pl d l) (fun k => by simp only [spec_GoodImage.j1, Bool.false_eq_true, if_false]) r1
      · rw [m1]
        exact Ev.bind r2 (Ev.now _)
    · refine ⟨false, hj0 ?_, evlet hsh (evpos rfl (evneg (by rw [hwp]; exact c6) (Ev.now _))), no⟩
      rw [show ((l.length : Int) != w * h * pl) = true by simp; exact c6]
      exact j1t
/-! The passes. -/
def PL : List S39 := [(⟨0, 0, 8, 8, 0, 0⟩ : S39), (⟨4, 0, 8, 8, 0, 0⟩ : S39), (⟨0, 4, 4, 8, 0, 0⟩ : S39), (⟨2, 0, 4, 4, 0, 0⟩ : S39), (⟨0, 2, 2, 4, 0, 0⟩ : S39), (⟨1, 0, 2, 2, 0, 0⟩ : S39), (⟨0, 1, 1, 2, 0, 0⟩ : S39)]
def cnt (w x s : Int) : Int := if w ≤ x then 0 else (w - x + s - 1) / s
def psz (w h : Int) (e : S39) : S39 := ⟨e.f0, e.f1, e.f2, e.f3, cnt w e.f0 e.f2, cnt h e.f1 e.f3⟩
def accP (w h : Int) : Nat → List S39
  | 0 => []
  | i + 1 => if 0 < cnt w (PL.getD i z39).f0 (PL.getD i z39).f2 ∧ 0 < cnt h (PL.getD i z39).f1 (PL.getD i z39).f3 then accP w h i ++ [psz w h (PL.getD i z39)] else accP w h i
theorem accP_len (w h : Int) : ∀ i, (accP w h i).length ≤ i
  | 0 => Nat.le_refl _
  | i + 1 => by
    have := accP_len w h i
    unfold accP
    split
    · rw [List.length_append]; simp; omega
    · omega
/-- Where the columns (or rows) of a pass lie. -/
def inP (n x s c : Int) : Prop := 1 ≤ c ∧ c ≤ n ∧ ∀ j : Int, 0 ≤ j → j < c → 0 ≤ j * s ∧ j * s ≤ 1024 ∧ 0 ≤ x + j * s ∧ x + j * s < n
theorem cnt_in {n x s : Int} (hx : 0 ≤ x) (hx4 : x ≤ 4) (hn : n ≤ 512) (hs : 1 ≤ s) (hc : 0 < cnt n x s) : inP n x s (cnt n x s) := by
  unfold cnt at hc ⊢
  by_cases h : n ≤ x
  · rw [if_pos h] at hc; omega
  rw [if_neg h] at hc ⊢
  have hd : (n - x + s - 1) / s * s ≤ n - x + s - 1 := Int.ediv_mul_le _ (by omega)
  generalize (n - x + s - 1) / s = q at hc hd
  have hq : q ≤ n - x := by
    have h1 : q * 1 ≤ q * s := Int.mul_le_mul_of_nonneg_left hs (by omega)
    by_cases hq1 : q = 1
    · omega
    · have h2 : (q - 1) * 1 ≤ (q - 1) * s := Int.mul_le_mul_of_nonneg_left hs (by omega)
      have e2 : (q - 1) * s = q * s - s := by rw [Int.sub_mul, Int.one_mul]
      omega
  refine ⟨by omega, by omega, fun j h0 h1 => ?_⟩
  have h2 : j * s ≤ (q - 1) * s := Int.mul_le_mul_of_nonneg_right (by omega) (by omega)
  have h3 : 0 ≤ j * s := Int.mul_nonneg h0 (by omega)
  rw [Int.sub_mul] at h2
  omega
theorem PL_ok : ∀ i : Nat, i < 7 → 0 ≤ (PL.getD i z39).f0 ∧ (PL.getD i z39).f0 ≤ 4 ∧ 0 ≤ (PL.getD i z39).f1 ∧ (PL.getD i z39).f1 ≤ 4 ∧ 1 ≤ (PL.getD i z39).f2 ∧ (PL.getD i z39).f2 ≤ 8 ∧ 1 ≤ (PL.getD i z39).f3 ∧ (PL.getD i z39).f3 ≤ 8 ∧ (PL.getD i z39).f0 < (PL.getD i z39).f2 + 1 ∧ (PL.getD i z39).f1 < (PL.getD i z39).f3 + 1 := by decide
structure PassOk (w h : Int) (p : S39) : Prop where
  x : inP w p.f0 p.f2 p.f4
  y : inP h p.f1 p.f3 p.f5
  b : 0 ≤ p.f0 ∧ p.f0 ≤ 4 ∧ 0 ≤ p.f1 ∧ p.f1 ≤ 4 ∧ 1 ≤ p.f2 ∧ p.f2 ≤ 8 ∧ 1 ≤ p.f3 ∧ p.f3 ≤ 8
theorem accP_ok (w h : Int) (hw : w ≤ 512) (hh : h ≤ 512) : ∀ i, i ≤ 7 → ∀ p ∈ accP w h i, PassOk w h p
  | 0, _ => fun p hp => by simp [accP] at hp
  | i + 1, hi => fun p hp => by
    have ih := accP_ok w h hw hh i (by omega)
    have o := PL_ok i (by omega)
    unfold accP at hp
    generalize PL.getD i z39 = e at hp o
    split at hp
    · rename_i c
      rcases List.mem_append.1 hp with hp | hp
      · exact ih p hp
      · rw [List.mem_singleton.1 hp]
        exact ⟨show inP w e.f0 e.f2 (cnt w e.f0 e.f2) from cnt_in (by omega) (by omega) hw (by omega) c.1, show inP h e.f1 e.f3 (cnt h e.f1 e.f3) from cnt_in (by omega) (by omega) hh (by omega) c.2, by show 0 ≤ e.f0 ∧ e.f0 ≤ 4 ∧ 0 ≤ e.f1 ∧ e.f1 ≤ 4 ∧ 1 ≤ e.f2 ∧ e.f2 ≤ 8 ∧ 1 ≤ e.f3 ∧ e.f3 ≤ 8; omega⟩
    · exact ih p hp
theorem cnt_impl {n x s : Int} (hn : 1 ≤ n) (hn2 : n ≤ 512) (hx : 0 ≤ x) (hx4 : x ≤ 4) (hs : 1 ≤ s) (hs8 : s ≤ 8) (hxs : x < s + 1) :
    ∃ v, wrap64 (Int.tdiv (wrap64 ((wrap64 ((wrap64 (n - x)) + s)) - 1)) s) = v ∧ (v > 0 ↔ 0 < cnt n x s) ∧ (0 < cnt n x s → v = cnt n x s) := by
  have hq0 : 0 ≤ (n - x + s - 1) / s := Int.ediv_nonneg (by omega) (by omega)
  have hq1 : (n - x + s - 1) / s ≤ n - x + s - 1 := Int.ediv_le_self _ (by omega)
  refine ⟨(n - x + s - 1) / s, ?_, ?_, ?_⟩
  · rw [w64 (n := n - x) (by omega) (by omega), w64 (n := n - x + s) (by omega) (by omega), w64 (n := n - x + s - 1) (by omega) (by omega), Int.tdiv_eq_ediv_of_nonneg (by omega), w64 (by omega) (by omega)]
  · unfold cnt
    split
    · rename_i h
      have : (n - x + s - 1) / s < 1 := Int.ediv_lt_of_lt_mul (by omega) (by omega)
      omega
    · omega
  · unfold cnt
    split
    · intro h; omega
    · intro _; rfl
theorem passes_impl (w h : Int) (hw : 1 ≤ w ∧ w ≤ 512) (hh : 1 ≤ h ∧ h ≤ 512) : Ev (fun k => impl_Passes.f k w h) (accP w h 7) := by
  have gs : ∀ n : Int, 1 ≤ n ∧ n ≤ 512 → impl_goodSide.f n = some true := fun n hn => by
    unfold impl_goodSide.f; rw [if_pos (by omega), decide_eq_true (by omega)]
  have main := down (n := 7) (P := fun i => Ev (fun k => impl_Passes.l0 k w h (accP w h i) PL ((7 : Nat) : Int) (i : Int)) (accP w h 7)) ?_ ?_
  · refine evlet (gs w hw) (evpos rfl (evlet (gs h hh) ?_))
    exact Ev.step (f := fun k => impl_Passes.l0 k w h [] PL ((7 : Nat) : Int) 0) (fun k => by simp only [impl_Passes.j0, Bool.not_true, Bool.false_eq_true, if_false]; rfl) main
  · generalize ((7 : Nat) : Int) = N
    refine Ev.step (fun k => rfl) (evneg (by omega) (Ev.now _))
  · intro i hi ih
    have hc : (i : Int) < ((7 : Nat) : Int) := Int.ofNat_lt.2 hi
    generalize ((7 : Nat) : Int) = N at hc ih
    have o := PL_ok i hi
    have hl := accP_len w h i
    have e0 : rd_T39 PL (i : Int) = PL.getD i z39 := rdT39 PL i
    have hPL : PL.length = 7 := rfl
    have ea : accP w h (i + 1) = if 0 < cnt w (PL.getD i z39).f0 (PL.getD i z39).f2 ∧ 0 < cnt h (PL.getD i z39).f1 (PL.getD i z39).f3 then accP w h i ++ [psz w h (PL.getD i z39)] else accP w h i := rfl
    rw [ea] at ih
    generalize PL.getD i z39 = e at e0 o ih
    obtain ⟨v1, a1, a2, a3⟩ := cnt_impl (n := w) (x := e.f0) (s := e.f2) (by omega) (by omega) (by omega) (by omega) (by omega) (by omega) (by omega)
    obtain ⟨v2, b1, b2, b3⟩ := cnt_impl (n := h) (x := e.f1) (s := e.f3) (by omega) (by omega) (by omega) (by omega) (by omega) (by omega) (by omega)
    refine Ev.step (fun k => rfl) (evpos hc (evpos (by omega) (evpos (by omega) ?_)))
    rw [e0, a1, b1, w64s (by omega)]
    refine evneg (by omega) (evneg (by omega) ?_)
    by_cases c1 : 0 < cnt w e.f0 e.f2
    · by_cases c2 : 0 < cnt h e.f1 e.f3
      · rw [if_pos ⟨c1, c2⟩] at ih
        refine evpos (a2.2 c1) (evpos (b2.2 c2) (evpos (by omega) ?_))
        rw [a3 c1, b3 c2]
        exact ih
      · rw [if_neg (fun z => c2 z.2)] at ih
        exact evpos (a2.2 c1) (evneg (fun z => c2 (b2.1 z)) ih)
    · rw [if_neg (fun z => c1 z.1)] at ih
      exact evneg (fun z => c1 (a2.1 z)) ih
/-! The pictures. -/
/-- Where the pixel i of row j of a pass begins, as both have it. -/
def at_ (W pl : Int) (p : S39) (j i : Int) : Int := wrap64 ((wrap64 ((wrap64 ((wrap64 ((wrap64 (p.f1 + (wrap64 (j * p.f3)))) * W)) + p.f0)) + (wrap64 (i * p.f2)))) * pl)
theorem at_in {W H pl : Int} {l : List Int} {p : S39} (ho : ImgOk W H pl l) (hp : PassOk W H p) {j i : Int} (j0 : 0 ≤ j) (j1 : j < p.f5) (i0 : 0 ≤ i) (i1 : i < p.f4) :
    at_ W pl p j i = ((p.f1 + j * p.f3) * W + (p.f0 + i * p.f2)) * pl ∧ 0 ≤ at_ W pl p j i ∧ at_ W pl p j i + pl ≤ l.length := by
  obtain ⟨w1, w2⟩ := ho.w
  obtain ⟨h1, h2⟩ := ho.h
  obtain ⟨p1, p2⟩ := ho.pl
  obtain ⟨a0, a1, a2, a3⟩ := hp.y.2.2 j j0 j1
  obtain ⟨b0, b1, b2, b3⟩ := hp.x.2.2 i i0 i1
  obtain ⟨o0, o1, o2, o3, _⟩ := hp.b
  have hwh := ho.wh
  have hlen := ho.len
  unfold at_
  generalize hu : p.f1 + j * p.f3 = u at a2 a3
  have m1 : u * W ≤ (H - 1) * W := Int.mul_le_mul_of_nonneg_right (by omega) (by omega)
  have m0 : 0 ≤ u * W := Int.mul_nonneg a2 (by omega)
  rw [Int.sub_mul, Int.one_mul, Int.mul_comm H W] at m1
  rw [w64 (n := j * p.f3) (by omega) (by omega), w64 (n := p.f1 + j * p.f3) (by omega) (by omega), hu, w64 (n := u * W) (by omega) (by omega), w64 (n := u * W + p.f0) (by omega) (by omega), w64 (n := i * p.f2) (by omega) (by omega), w64 (n := u * W + p.f0 + i * p.f2) (by omega) (by omega)]
  rw [show u * W + p.f0 + i * p.f2 = u * W + (p.f0 + i * p.f2) by omega]
  generalize hv : u * W + (p.f0 + i * p.f2) = v
  have v0 : 0 ≤ v := by omega
  have v1 : v + 1 ≤ W * H := by omega
  have n0 : 0 ≤ v * pl := Int.mul_nonneg v0 (by omega)
  have n1 : (v + 1) * pl ≤ W * H * pl := Int.mul_le_mul_of_nonneg_right v1 (by omega)
  rw [Int.add_mul, Int.one_mul] at n1
  have n2 : W * H * pl ≤ 4096 * pl := Int.mul_le_mul_of_nonneg_right hwh (by omega)
  rw [w64 (by omega) (by omega)]
  omega
def pc (W pl : Int) (l : List Int) (p : S39) (j i : Nat) : List Int := (l.take ((wrap64 (at_ W pl p (j : Int) (i : Int) + pl)) : Int).toNat).drop (at_ W pl p (j : Int) (i : Int)).toNat
def rowS (W pl : Int) (l : List Int) (p : S39) (j : Nat) : Nat → List Int
  | 0 => []
  | i + 1 => rowS W pl l p j i ++ pc W pl l p j i
def colS (W pl : Int) (l : List Int) (p : S39) : Nat → List Int
  | 0 => []
  | j + 1 => colS W pl l p j ++ rowS W pl l p j p.f4.toNat
theorem pc_len {W H pl : Int} {l : List Int} {p : S39} (ho : ImgOk W H pl l) (hp : PassOk W H p) (j i : Nat) (hj : (j : Int) < p.f5) (hi : (i : Int) < p.f4) : ((pc W pl l p j i).length : Int) = pl := by
  obtain ⟨e, h0, h1⟩ := at_in ho hp (Int.natCast_nonneg j) hj (Int.natCast_nonneg i) hi
  have p1 := ho.pl
  have hl : (l.length : Int) ≤ 16384 := by
    rw [ho.len]
    have a := Int.mul_le_mul_of_nonneg_right ho.wh (show 0 ≤ pl by omega)
    omega
  unfold pc
  rw [w64 (by omega) (by omega), List.length_drop, List.length_take]
  omega
theorem rowS_len {W H pl : Int} {l : List Int} {p : S39} (ho : ImgOk W H pl l) (hp : PassOk W H p) (j : Nat) (hj : (j : Int) < p.f5) : ∀ i : Nat, (i : Int) ≤ p.f4 → ((rowS W pl l p j i).length : Int) = pl * i
  | 0, _ => by show ((0 : Nat) : Int) = _; simp
  | i + 1, h => by
    show ((rowS W pl l p j i ++ pc W pl l p j i).length : Int) = _
    have a := rowS_len ho hp j hj i (by omega)
    have b := pc_len ho hp j i hj (by omega)
    rw [List.length_append, Int.natCast_add, a, b, Int.natCast_add, Int.mul_add]; simp
theorem colS_len {W H pl : Int} {l : List Int} {p : S39} (ho : ImgOk W H pl l) (hp : PassOk W H p) : ∀ j : Nat, (j : Int) ≤ p.f5 → ((colS W pl l p j).length : Int) = pl * p.f4 * j
  | 0, _ => by show ((0 : Nat) : Int) = _; simp
  | j + 1, h => by
    show ((colS W pl l p j ++ rowS W pl l p j p.f4.toNat).length : Int) = _
    have x1 := hp.x.1
    have a := colS_len ho hp j (by omega)
    have b := rowS_len ho hp j (by omega) p.f4.toNat (by omega)
    rw [List.length_append, Int.natCast_add, a, b, Int.natCast_add, Int.mul_add, Int.toNat_of_nonneg (by omega)]; simp
theorem colS_le {W H pl : Int} {l : List Int} {p : S39} (ho : ImgOk W H pl l) (hp : PassOk W H p) (j : Nat) (hj : (j : Int) ≤ p.f5) : (colS W pl l p j).length ≤ 1048576 := by
  have e := colS_len ho hp j hj
  have p1 := ho.pl
  have x1 := hp.x.1
  have x2 := hp.x.2.1
  have y2 := hp.y.2.1
  have w2 := ho.w
  have h2 := ho.h
  have a : pl * p.f4 ≤ 4 * p.f4 := Int.mul_le_mul_of_nonneg_right (by omega) (by omega)
  have b : pl * p.f4 * (j : Int) ≤ 2048 * (j : Int) := Int.mul_le_mul_of_nonneg_right (by omega) (by omega)
  omega
def pict (W pl d : Int) (l : List Int) (p : S39) : S31 := ⟨p.f4, p.f5, pl, d, colS W pl l p p.f5.toNat⟩
def splitS (W H pl d : Int) (l : List Int) : List S31 := (accP W H 7).map (pict W pl d l)
section
variable {W H pl d : Int} {l : List Int}
theorem impl_split (ho : ImgOk W H pl l) : Ev (fun k => impl_Split.l0 k ([] : List (S31)) (accP W H 7) ((accP W H 7).length : Int) 0 W H pl d l) (splitS W H pl d l) := by
  have hok := accP_ok W H ho.w.2 ho.h.2 7 (by omega)
  have hlen := accP_len W H 7
  unfold splitS
  generalize accP W H 7 = P at hok hlen
  have p1 := ho.pl
  have main := down (n := P.length) (P := fun i => Ev (fun k => impl_Split.l0 k ((P.take i).map (pict W pl d l)) P (P.length : Int) (i : Int) W H pl d l) (P.map (pict W pl d l))) ?_ ?_
  · exact main
  · refine Ev.step (fun k => rfl) (evneg (by omega) ?_)
    rw [List.take_length]; exact Ev.now _
  · intro n hn ih
    have hp := hok _ (List.getElem_mem hn)
    have er : rd_T39 P (n : Int) = P[n] := by rw [rdT39, getD_lt hn]
    have et : (P.take (n + 1)).map (pict W pl d l) = (P.take n).map (pict W pl d l) ++ [pict W pl d l P[n]] := by
      rw [List.take_succ_eq_append_getElem hn, List.map_append]; rfl
    rw [et] at ih
    have ht : ((P.take n).map (pict W pl d l)).length ≤ 7 := by rw [List.length_map, List.length_take]; omega
    generalize (P.take n).map (pict W pl d l) = acc at ih ht
    refine Ev.step (fun k => rfl) (evpos (by omega) (evpos (by omega) (evpos (by omega) ?_)))
    rw [er]
    generalize P[n] = p at hp ih
    have x1 := hp.x.1
    have y1 := hp.y.1
    have x2 := hp.x.2.1
    have y2 := hp.y.2.1
    have w2 := ho.w
    have h2 := ho.h
    have rows := down (n := p.f5.toNat) (P := fun j => Ev (fun k => impl_Split.l1 k acc P (P.length : Int) (n : Int) p.f5 (j : Int) W H pl d l p.f0 p.f1 p.f2 p.f3 p.f4 p.f5 p.f4 p.f5 pl d (colS W pl l p j)) (P.map (pict W pl d l))) ?_ ?_
    · exact rows
    · refine Ev.step (fun k => rfl) (evneg (by omega) (evpos (by omega) ?_))
      rw [w64s (by omega)]
      exact ih
    · intro j hj jh
      have hj5 : (j : Int) < p.f5 := by omega
      refine Ev.step (fun k => rfl) (evpos (by omega) ?_)
      have cols := down (n := p.f4.toNat) (P := fun i => Ev (fun k => impl_Split.l2 k acc (j : Int) P (P.length : Int) (n : Int) p.f5 (j : Int) p.f4 (i : Int) W H pl d l p.f0 p.f1 p.f2 p.f3 p.f4 p.f5 p.f4 p.f5 pl d (colS W pl l p j ++ rowS W pl l p j i)) (P.map (pict W pl d l))) ?_ ?_
      · rw [show rowS W pl l p j 0 = [] from rfl, List.append_nil] at cols; exact cols
      · refine Ev.step (fun k => rfl) (evneg (by omega) ?_)
        rw [w64s (by omega)]
        exact jh
      · intro i hi jh2
        have hi4 : (i : Int) < p.f4 := by omega
        obtain ⟨_, a0, a1⟩ := at_in ho hp (Int.natCast_nonneg j) hj5 (Int.natCast_nonneg i) hi4
        have hl : (l.length : Int) ≤ 16384 := by
          rw [ho.len]
          have a := Int.mul_le_mul_of_nonneg_right ho.wh (show 0 ≤ pl by omega)
          omega
        have hwp : wrap64 (at_ W pl p (j : Int) (i : Int) + pl) = at_ W pl p (j : Int) (i : Int) + pl := w64 (by omega) (by omega)
        have lc := colS_le ho hp j (by omega)
        have lr := rowS_len ho hp j hj5 i (by omega)
        have lp := pc_len ho hp j i hj5 hi4
        have lr2 : pl * (i : Int) ≤ 4 * (i : Int) := Int.mul_le_mul_of_nonneg_right (by omega) (by omega)
        rw [show rowS W pl l p j (i + 1) = rowS W pl l p j i ++ pc W pl l p j i from rfl, ← List.append_assoc] at jh2
        have lim : (colS W pl l p j ++ rowS W pl l p j i).length + (pc W pl l p j i).length < 17592186044416 := by rw [List.length_append]; omega
        have c1 : at_ W pl p (j : Int) (i : Int) ≤ wrap64 (at_ W pl p (j : Int) (i : Int) + pl) := by omega
        have c2 : wrap64 (at_ W pl p (j : Int) (i : Int) + pl) ≤ (l.length : Int) := by omega
        refine Ev.step (fun k => rfl) (evpos (by omega) (evpos a0 (evpos c1 (evpos c2 (evpos lim ?_)))))
        rw [w64s (by omega)]
        exact jh2
end
theorem splitS_ok {W H pl d : Int} {l : List Int} (ho : ImgOk W H pl l) : (splitS W H pl d l).length ≤ 7 ∧ ∀ y ∈ splitS W H pl d l, y.f4.length ≤ 1048576 := by
  have hok := accP_ok W H ho.w.2 ho.h.2 7 (by omega)
  refine ⟨by unfold splitS; rw [List.length_map]; exact accP_len W H 7, fun y hy => ?_⟩
  obtain ⟨p, hp, rfl⟩ := List.mem_map.1 hy
  have y1 := (hok p hp).y.1
  exact colS_le ho (hok p hp) p.f5.toNat (by omega)
/-! The program's own words on a good image. -/
theorem sides_true {w h : Int} (hw : 1 ≤ w ∧ w ≤ 512) (hh : 1 ≤ h ∧ h ≤ 512) (hwh : w * h ≤ 4096) : impl_goodSides.f w h = some true := by
  unfold impl_goodSides.f
  rw [goodSide_eq, goodSide_eq, decide_eq_true hw, decide_eq_true hh]
  simp only [Option.bind_some, if_true]
  have wh0 : 0 ≤ w * h := Int.mul_nonneg (by omega) (by omega)
  rw [w64 (by omega) (by omega), decide_eq_true hwh]
theorem shape_same {w h w' h' pl d : Int} (h1 : impl_goodSides.f w h = some true) (h2 : impl_goodSides.f w' h' = some true) : impl_goodShape.f w h pl d = impl_goodShape.f w' h' pl d := by
  unfold impl_goodShape.f; rw [h1, h2]
def inr (m : Int) (x : Int) : Bool := decide (0 ≤ x ∧ x ≤ m)
theorem inr_ev (l : List Int) (m : Int) (hl : l.length ≤ 4611686018427387904) : Ev (fun k => impl_inRange.f k l m) (l.all (inr m)) := by
  have := down (n := l.length) (P := fun i => Ev (fun k => impl_inRange.l0 k m l (l.length : Int) (i : Int)) ((l.drop i).all (inr m))) ?_ ?_
  · exact this
  · rw [drop_end_all]; exact Ev.step (fun k => rfl) (evneg (by omega) (Ev.now _))
  · intro i hi ih
    have er : rd l (i : Int) = l[i] := by rw [rd_nat, getD_lt hi]
    rw [drop_all hi]
    by_cases c1 : l[i] < 0
    · rw [show inr m l[i] = false from decide_eq_false (by omega), Bool.false_and]
      exact Ev.step (fun k => rfl) (evpos (by omega) (evpos (by omega) (evpos (by omega) (evpos (by rw [er]; omega) (Ev.now _)))))
    by_cases c2 : l[i] > m
    · rw [show inr m l[i] = false from decide_eq_false (by omega), Bool.false_and]
      exact Ev.step (fun k => rfl) (evpos (by omega) (evpos (by omega) (evpos (by omega) (evneg (by rw [er]; omega) (evpos (by rw [er]; omega) (Ev.now _))))))
    rw [show inr m l[i] = true from decide_eq_true (by omega), Bool.true_and]
    refine Ev.step (fun k => rfl) (evpos (by omega) (evpos (by omega) (evpos (by omega) (evneg (by rw [er]; omega) (evneg (by rw [er]; omega) ?_)))))
    rw [w64s (by omega)]; exact ih
structure GoodI (W H pl d : Int) (l : List Int) : Prop where
  shape : impl_goodShape.f W H pl d = some true
  dp : 0 ≤ d
  rng : l.all (inr (wrap64 ((shl .i64 1 d) - 1))) = true
theorem len_wrap {W H pl : Int} (hw : 1 ≤ W) (hh : 1 ≤ H) (hwh : W * H ≤ 4096) (hp : 1 ≤ pl ∧ pl ≤ 4) : wrap64 ((wrap64 (W * H)) * pl) = W * H * pl ∧ 1 ≤ W * H * pl ∧ W * H * pl ≤ 16384 := by
  have a0 : 1 * 1 ≤ W * H := Int.mul_le_mul hw hh (by omega) (by omega)
  have a1 : 1 * 1 ≤ W * H * pl := Int.mul_le_mul (by omega) hp.1 (by omega) (by omega)
  have a2 : W * H * pl ≤ 4096 * 4 := Int.mul_le_mul hwh hp.2 (by omega) (by omega)
  rw [w64 (n := W * H) (by omega) (by omega), w64 (by omega) (by omega)]
  omega
theorem good_facts {W H pl d : Int} {l : List Int} (ho : ImgOk W H pl l) (hg : Ev (fun k => impl_GoodImage.f k W H pl d l) true) : GoodI W H pl d l := by
  have hs := sides_true ho.w ho.h ho.wh
  have lw := len_wrap ho.w.1 ho.h.1 ho.wh ho.pl
  have hlen := ho.len
  obtain ⟨p1, p2⟩ := ho.pl
  obtain ⟨q, hq, _, hq3⟩ := depths d
  have e : impl_goodShape.f W H pl d = (if q = true then (if pl = 1 then (some true) else (some (decide (d ≥ 8)))) else (some false)) := by
    unfold impl_goodShape.f
    rw [hs]
    simp only [Option.bind_some, if_true]
    rw [if_pos (by omega), if_pos (by omega), hq]
    rfl
  cases q with
  | false =>
    rw [if_neg (by simp)] at e
    exact absurd (ev_one hg (shape_bad l e)) (by simp)
  | true =>
    rw [if_pos rfl] at e
    obtain ⟨b, hb⟩ : ∃ b, impl_goodShape.f W H pl d = some b := by
      rw [e]
      by_cases c : pl = 1
      · exact ⟨true, if_pos c⟩
      · exact ⟨_, if_neg c⟩
    cases b with
    | false => exact absurd (ev_one hg (shape_bad l hb)) (by simp)
    | true =>
      have hd : 0 ≤ d := by have := hq3 rfl; omega
      refine ⟨hb, hd, ?_⟩
      have := inr_ev l (wrap64 ((shl .i64 1 d) - 1)) (by omega)
      exact ev_one (f := fun k => impl_GoodImage.f k W H pl d l) (evlet hb (evpos rfl (evpos (by rw [lw.1]; exact hlen) (evpos hd (Ev.bind this (Ev.now _)))))) hg
theorem part_sides {W H pl : Int} {l : List Int} {p : S39} (ho : ImgOk W H pl l) (hp : PassOk W H p) : (1 ≤ p.f4 ∧ p.f4 ≤ 512) ∧ (1 ≤ p.f5 ∧ p.f5 ≤ 512) ∧ p.f4 * p.f5 ≤ 4096 := by
  obtain ⟨x1, x2, _⟩ := hp.x
  obtain ⟨y1, y2, _⟩ := hp.y
  have a := Int.mul_le_mul x2 y2 (by omega) (show 0 ≤ W by have := ho.w; omega)
  have b := ho.wh
  have c := ho.w
  have e := ho.h
  omega
theorem good_part {W H pl d : Int} {l : List Int} {p : S39} (ho : ImgOk W H pl l) (g : GoodI W H pl d l) (hp : PassOk W H p) (xs : List Int) (hx : (xs.length : Int) = p.f4 * p.f5 * pl) (hm : ∀ x ∈ xs, x ∈ l) : Ev (fun k => impl_GoodImage.f k p.f4 p.f5 pl d xs) true := by
  obtain ⟨s1, s2, s3⟩ := part_sides ho hp
  have hs := sides_true ho.w ho.h ho.wh
  have lw := len_wrap s1.1 s2.1 s3 ho.pl
  have sh : impl_goodShape.f p.f4 p.f5 pl d = some true := by rw [shape_same (sides_true s1 s2 s3) hs]; exact g.shape
  have e := inr_ev xs (wrap64 ((shl .i64 1 d) - 1)) (by omega)
  have ht : xs.all (inr (wrap64 ((shl .i64 1 d) - 1))) = true := by
    rw [List.all_eq_true]
    intro x h
    exact (List.all_eq_true.1 g.rng) x (hm x h)
  rw [ht] at e
  exact evlet sh (evpos rfl (evpos (by rw [lw.1]; exact hx) (evpos g.dp (Ev.bind e (Ev.now _)))))
theorem row_mem {W pl : Int} {l : List Int} {p : S39} (j : Nat) : ∀ i, ∀ x ∈ rowS W pl l p j i, x ∈ l
  | 0 => fun x hx => by simp [rowS] at hx
  | i + 1 => fun x hx => by
    rcases List.mem_append.1 (show x ∈ rowS W pl l p j i ++ pc W pl l p j i from hx) with h | h
    · exact row_mem j i x h
    · exact List.mem_of_mem_take (List.mem_of_mem_drop h)
theorem col_mem {W pl : Int} {l : List Int} {p : S39} : ∀ j, ∀ x ∈ colS W pl l p j, x ∈ l
  | 0 => fun x hx => by simp [colS] at hx
  | j + 1 => fun x hx => by
    rcases List.mem_append.1 (show x ∈ colS W pl l p j ++ rowS W pl l p j p.f4.toNat from hx) with h | h
    · exact col_mem j x h
    · exact row_mem j _ x h
/-! A piece lies in its part. -/
theorem seg_app {A B : List Int} {a m : Nat} (h : a + m ≤ A.length) : ((A ++ B).drop a).take m = (A.drop a).take m := by
  rw [List.drop_append_of_le_length (by omega), List.take_append_of_le_length (by rw [List.length_drop]; omega)]
theorem seg_end {A B : List Int} {a m : Nat} (h : A.length = a) (hb : B.length = m) : ((A ++ B).drop a).take m = B := by
  subst h; subst hb
  rw [List.drop_left, List.take_length]
theorem nat_of {n q m : Nat} {pl : Int} (hq : (q : Int) = pl) (h : (n : Int) = pl * (m : Int)) : n = q * m := by
  subst hq
  rw [← Int.natCast_mul] at h
  exact Int.ofNat.inj h
theorem nat_of2 {n q c m : Nat} {pl w : Int} (hq : (q : Int) = pl) (hc : (c : Int) = w) (h : (n : Int) = pl * w * (m : Int)) : n = q * c * m := by
  subst hq
  subst hc
  rw [← Int.natCast_mul, ← Int.natCast_mul] at h
  exact Int.ofNat.inj h
theorem row_seg {W H pl : Int} {l : List Int} {p : S39} (ho : ImgOk W H pl l) (hp : PassOk W H p) (j : Nat) (hj : (j : Int) < p.f5) (q : Nat) (hq : (q : Int) = pl) : ∀ m : Nat, (m : Int) ≤ p.f4 → ∀ i, i < m → ((rowS W pl l p j m).drop (q * i)).take q = pc W pl l p j i
  | 0, _, i, h => by omega
  | m + 1, hm, i, h => by
    show ((rowS W pl l p j m ++ pc W pl l p j m).drop (q * i)).take q = _
    have a := rowS_len ho hp j hj m (by omega)
    have b := pc_len ho hp j m hj (by omega)
    have a' : (rowS W pl l p j m).length = q * m := nat_of hq a
    by_cases c : i < m
    · have h1 : q * (i + 1) ≤ q * m := Nat.mul_le_mul_left q c
      rw [Nat.mul_add, Nat.mul_one] at h1
      rw [seg_app (by omega)]
      exact row_seg ho hp j hj q hq m (by omega) i c
    · have e : i = m := by omega
      subst e
      exact seg_end a' (by omega)
theorem col_seg {W H pl : Int} {l : List Int} {p : S39} (ho : ImgOk W H pl l) (hp : PassOk W H p) (q c : Nat) (hq : (q : Int) = pl) (hc : (c : Int) = p.f4) : ∀ m : Nat, (m : Int) ≤ p.f5 → ∀ j, j < m → ((colS W pl l p m).drop (q * c * j)).take (q * c) = rowS W pl l p j c
  | 0, _, j, h => by omega
  | m + 1, hm, j, h => by
    have ec : p.f4.toNat = c := by omega
    show ((colS W pl l p m ++ rowS W pl l p m p.f4.toNat).drop (q * c * j)).take (q * c) = _
    rw [ec]
    have a := colS_len ho hp m (by omega)
    have b := rowS_len ho hp m (by omega) c (by omega)
    have a' : (colS W pl l p m).length = q * c * m := nat_of2 hq hc a
    have b' : (rowS W pl l p m c).length = q * c := nat_of hq b
    by_cases d : j < m
    · have h1 : q * c * (j + 1) ≤ q * c * m := Nat.mul_le_mul_left _ d
      rw [Nat.mul_add, Nat.mul_one] at h1
      rw [seg_app (by omega)]
      exact col_seg ho hp q c hq hc m (by omega) j d
    · have e : j = m := by omega
      subst e
      exact seg_end a' b'
theorem part_seg {W H pl : Int} {l : List Int} {p : S39} (ho : ImgOk W H pl l) (hp : PassOk W H p) (q c m : Nat) (hq : (q : Int) = pl) (hc : (c : Int) = p.f4) (hm : (m : Int) = p.f5) (j i : Nat) (hj : j < m) (hi : i < c) : ((colS W pl l p m).drop ((j * c + i) * q)).take q = pc W pl l p j i := by
  have e : (j * c + i) * q = q * c * j + q * i := by rw [Nat.add_mul, Nat.mul_comm j c, Nat.mul_comm (c * j) q, ← Nat.mul_assoc, Nat.mul_comm i q]
  have h1 : q * (i + 1) ≤ q * c := Nat.mul_le_mul_left q hi
  rw [Nat.mul_add, Nat.mul_one] at h1
  rw [← row_seg ho hp j (by omega) q hq c (by omega) i hi, ← col_seg ho hp q c hq hc m (by omega) j hj, List.drop_take, List.take_take, Nat.min_eq_left (by omega), List.drop_drop, e]
/-! What has been put back. -/
def InvL (l out : List Int) (S : Nat → Prop) : Prop := out.length = l.length ∧ ∀ t, t < l.length → S t → out.getD t 0 = l.getD t 0
def Pc (W pl : Int) (p : S39) (j i : Nat) (t : Nat) : Prop := at_ W pl p (j : Int) (i : Int) ≤ (t : Int) ∧ (t : Int) < at_ W pl p (j : Int) (i : Int) + pl
theorem InvL.weaken {l out : List Int} {S T : Nat → Prop} (h : InvL l out S) (hs : ∀ t, t < l.length → T t → S t) : InvL l out T := ⟨h.1, fun t ht hT => h.2 t ht (hs t ht hT)⟩
theorem put_get (out cs : List Int) (a q : Nat) (hc : cs.length = q) (h : a + q ≤ out.length) (t : Nat) : (out.take a ++ (cs ++ out.drop (a + q))).getD t 0 = if a ≤ t ∧ t < a + q then cs.getD (t - a) 0 else out.getD t 0 := by
  simp only [List.getD_eq_getElem?_getD]
  have ha : (out.take a).length = a := by rw [List.length_take]; omega
  by_cases c1 : t < a
  · rw [if_neg (by omega), List.getElem?_append_left (by omega), List.getElem?_take_of_lt c1]
  · rw [List.getElem?_append_right (by omega), ha]
    by_cases c2 : t < a + q
    · rw [if_pos ⟨by omega, c2⟩, List.getElem?_append_left (by omega)]
    · rw [if_neg (by omega), List.getElem?_append_right (by omega), hc, List.getElem?_drop]
      congr 2; omega
theorem cp_ok {W H pl : Int} {l : List Int} {p : S39} (ho : ImgOk W H pl l) (hp : PassOk W H p) (j i : Nat) (hj : (j : Int) < p.f5) (hi : (i : Int) < p.f4) (out : List Int) (S : Nat → Prop) (hI : InvL l out S) :
    ∃ o2, impl_Merge.cp W pl p (colS W pl l p p.f5.toNat) (j : Int) (i : Int) out = some o2 ∧ InvL l o2 (fun t => S t ∨ Pc W pl p j i t) := by
  obtain ⟨s1, s2, s3⟩ := part_sides ho hp
  obtain ⟨_, h0, h1⟩ := at_in ho hp (Int.natCast_nonneg j) hj (Int.natCast_nonneg i) hi
  obtain ⟨p1, p2⟩ := ho.pl
  have lw := len_wrap ho.w.1 ho.h.1 ho.wh ho.pl
  have hlen := ho.len
  have hol := hI.1
  obtain ⟨q, hq⟩ : ∃ q : Nat, (q : Int) = pl := ⟨pl.toNat, by omega⟩
  obtain ⟨c, hc⟩ : ∃ c : Nat, (c : Int) = p.f4 := ⟨p.f4.toNat, by omega⟩
  obtain ⟨m, hm⟩ : ∃ m : Nat, (m : Int) = p.f5 := ⟨p.f5.toNat, by omega⟩
  have em : p.f5.toNat = m := by omega
  have eq_ : pl.toNat = q := by omega
  have xl : (colS W pl l p m).length = q * c * m := nat_of2 hq hc (colS_len ho hp m (by omega))
  have jm : (j + 1) * c ≤ m * c := Nat.mul_le_mul_right c (by omega)
  have mc : m * c ≤ 512 * 512 := Nat.mul_le_mul (by omega) (by omega)
  rw [Nat.add_mul, Nat.one_mul] at jm
  have hX : (j * c + i + 1) * q ≤ m * c * q := Nat.mul_le_mul_right q (by omega)
  have hX2 : m * c * q ≤ 262144 * 4 := Nat.mul_le_mul mc (by omega)
  rw [Nat.add_mul, Nat.one_mul] at hX
  have hs : wrap64 ((wrap64 ((wrap64 ((j : Int) * p.f4)) + (i : Int))) * pl) = (((j * c + i) * q : Nat) : Int) := by
    rw [← hc, ← hq, ← Int.natCast_mul, w64 (n := ((j * c : Nat) : Int)) (by omega) (by omega), ← Int.natCast_add, w64 (n := ((j * c + i : Nat) : Int)) (by omega) (by omega), ← Int.natCast_mul, w64 (by omega) (by omega)]
  have sg := part_seg ho hp q c m hq hc hm j i (by omega) (by omega)
  have xl2 : q * c * m = m * c * q := by rw [Nat.mul_comm m c, Nat.mul_comm (c * m) q, Nat.mul_assoc]
  obtain ⟨a, ha⟩ : ∃ a : Nat, at_ W pl p (j : Int) (i : Int) = (a : Int) := ⟨(at_ W pl p (j : Int) (i : Int)).toNat, by omega⟩
  have epc : pc W pl l p j i = (l.take (a + q)).drop a := by
    unfold pc
    rw [ha, ← hq, ← Int.natCast_add, w64 (by omega) (by omega), Int.toNat_natCast, Int.toNat_natCast]
  have lp : ((l.take (a + q)).drop a).length = q := by rw [List.length_drop, List.length_take]; omega
  refine ⟨out.take a ++ ((l.take (a + q)).drop a ++ out.drop (a + q)), ?_, ?_, ?_⟩
  · have ha' := ha
    unfold at_ at ha'
    unfold impl_Merge.cp
    rw [ha', hs, em, if_pos p1, if_pos (by omega), if_pos (by omega), if_pos (by omega), if_pos (by omega), if_pos (by rw [xl, xl2]; omega), if_pos (by omega), Int.toNat_natCast, Int.toNat_natCast, eq_, sg, epc]
  · simp only [List.length_append, List.length_drop, List.length_take]; omega
  · intro t ht hT
    rw [put_get out _ a q lp (by omega)]
    by_cases ct : a ≤ t ∧ t < a + q
    · rw [if_pos ct]
      simp only [List.getD_eq_getElem?_getD]
      rw [List.getElem?_drop, show a + (t - a) = t by omega, List.getElem?_take_of_lt (by omega)]
    · rw [if_neg ct]
      rcases hT with hT | hT
      · exact hI.2 t ht hT
      · unfold Pc at hT
        rw [ha] at hT
        omega
/-! Each pixel lies in a pass. -/
theorem mem_accP (w h : Int) (q : Nat) (hc : 0 < cnt w (PL.getD q z39).f0 (PL.getD q z39).f2 ∧ 0 < cnt h (PL.getD q z39).f1 (PL.getD q z39).f3) : ∀ i, q < i → psz w h (PL.getD q z39) ∈ accP w h i
  | 0, hq => by omega
  | i + 1, hq => by
    unfold accP
    by_cases e : q = i
    · subst e
      rw [if_pos hc]; exact List.mem_append_right _ (List.mem_singleton.2 rfl)
    · have ih := mem_accP w h q hc i (by omega)
      split
      · exact List.mem_append_left _ ih
      · exact ih
theorem cnt_gt {n x s i : Int} (hs : 1 ≤ s) (hi : 0 ≤ i) (h : x + i * s < n) : i < cnt n x s := by
  have h0 : 0 ≤ i * s := Int.mul_nonneg hi (by omega)
  unfold cnt
  rw [if_neg (by omega)]
  have : (i + 1) * s ≤ n - x + s - 1 := by rw [Int.add_mul, Int.one_mul]; omega
  have := Int.le_ediv_of_mul_le (show 0 < s by omega) this
  omega
theorem find_case (w h : Int) (q : Nat) (hq : q < 7) (j i X Y : Int) (hj : 0 ≤ j) (hi : 0 ≤ i) (hx : (PL.getD q z39).f0 + i * (PL.getD q z39).f2 = X) (hy : (PL.getD q z39).f1 + j * (PL.getD q z39).f3 = Y) (hX : X < w) (hY : Y < h) :
    ∃ p ∈ accP w h 7, ∃ j i : Nat, (j : Int) < p.f5 ∧ (i : Int) < p.f4 ∧ p.f0 + i * p.f2 = X ∧ p.f1 + j * p.f3 = Y := by
  have o := PL_ok q hq
  have c1 := cnt_gt (n := w) (x := (PL.getD q z39).f0) (s := (PL.getD q z39).f2) (by omega) hi (by omega)
  have c2 := cnt_gt (n := h) (x := (PL.getD q z39).f1) (s := (PL.getD q z39).f3) (by omega) hj (by omega)
  refine ⟨_, mem_accP w h q ⟨by omega, by omega⟩ 7 hq, j.toNat, i.toNat, ?_, ?_, ?_, ?_⟩
  · rw [Int.toNat_of_nonneg hj]; exact c2
  · rw [Int.toNat_of_nonneg hi]; exact c1
  · rw [Int.toNat_of_nonneg hi]; exact hx
  · rw [Int.toNat_of_nonneg hj]; exact hy
theorem find (w h X Y : Int) (hX0 : 0 ≤ X) (hX : X < w) (hY0 : 0 ≤ Y) (hY : Y < h) : ∃ p ∈ accP w h 7, ∃ j i : Nat, (j : Int) < p.f5 ∧ (i : Int) < p.f4 ∧ p.f0 + i * p.f2 = X ∧ p.f1 + j * p.f3 = Y := by
  by_cases y1 : Y % 2 = 1
  · exact find_case w h 6 (by omega) (Y / 2) X X Y (by omega) hX0 (show 0 + X * 1 = X by omega) (show 1 + Y / 2 * 2 = Y by omega) hX hY
  by_cases x1 : X % 2 = 1
  · exact find_case w h 5 (by omega) (Y / 2) (X / 2) X Y (by omega) (by omega) (show 1 + X / 2 * 2 = X by omega) (show 0 + Y / 2 * 2 = Y by omega) hX hY
  by_cases y2 : Y % 4 = 2
  · exact find_case w h 4 (by omega) (Y / 4) (X / 2) X Y (by omega) (by omega) (show 0 + X / 2 * 2 = X by omega) (show 2 + Y / 4 * 4 = Y by omega) hX hY
  by_cases x2 : X % 4 = 2
  · exact find_case w h 3 (by omega) (Y / 4) (X / 4) X Y (by omega) (by omega) (show 2 + X / 4 * 4 = X by omega) (show 0 + Y / 4 * 4 = Y by omega) hX hY
  by_cases y4 : Y % 8 = 4
  · exact find_case w h 2 (by omega) (Y / 8) (X / 4) X Y (by omega) (by omega) (show 0 + X / 4 * 4 = X by omega) (show 4 + Y / 8 * 8 = Y by omega) hX hY
  by_cases x4 : X % 8 = 4
  · exact find_case w h 1 (by omega) (Y / 8) (X / 8) X Y (by omega) (by omega) (show 4 + X / 8 * 8 = X by omega) (show 0 + Y / 8 * 8 = Y by omega) hX hY
  · exact find_case w h 0 (by omega) (Y / 8) (X / 8) X Y (by omega) (by omega) (show 0 + X / 8 * 8 = X by omega) (show 0 + Y / 8 * 8 = Y by omega) hX hY
def S0 (W pl : Int) (L : List S39) (n : Nat) (t : Nat) : Prop := ∃ m, m < n ∧ ∃ j i : Nat, (j : Int) < (L.getD m z39).f5 ∧ (i : Int) < (L.getD m z39).f4 ∧ Pc W pl (L.getD m z39) j i t
theorem cover {W H pl : Int} {l : List Int} (ho : ImgOk W H pl l) (t : Nat) (ht : t < l.length) : S0 W pl (accP W H 7) (accP W H 7).length t := by
  obtain ⟨w1, w2⟩ := ho.w
  obtain ⟨h1, h2⟩ := ho.h
  obtain ⟨p1, p2⟩ := ho.pl
  have hlen := ho.len
  have ht' : (t : Int) < W * H * pl := by omega
  obtain ⟨x, hx⟩ : ∃ x : Int, x = (t : Int) / pl := ⟨_, rfl⟩
  have x0 : 0 ≤ x := by rw [hx]; exact Int.ediv_nonneg (by omega) (by omega)
  have xl : x < W * H := by rw [hx]; exact Int.ediv_lt_of_lt_mul (by omega) ht'
  have xa : x * pl ≤ (t : Int) := by rw [hx]; exact Int.ediv_mul_le _ (by omega)
  have xb : (t : Int) < x * pl + pl := by
    have := Int.lt_ediv_add_one_mul_self (t : Int) (show 0 < pl by omega)
    rw [← hx, Int.add_mul, Int.one_mul] at this
    exact this
  have y0 : 0 ≤ x / W := Int.ediv_nonneg x0 (by omega)
  have y1 : x / W < H := Int.ediv_lt_of_lt_mul (by omega) (by rw [Int.mul_comm]; exact xl)
  have z0 : 0 ≤ x % W := Int.emod_nonneg x (by omega)
  have z1 : x % W < W := Int.emod_lt_of_pos x (by omega)
  have e : x / W * W + x % W = x := by rw [Int.mul_comm]; exact Int.mul_ediv_add_emod x W
  obtain ⟨p, hp, j, i, hj, hi, e1, e2⟩ := find W H (x % W) (x / W) z0 z1 y0 y1
  obtain ⟨m, hm, em⟩ := List.getElem_of_mem hp
  have eg : (accP W H 7).getD m z39 = p := by rw [getD_lt hm, em]
  have ok := accP_ok W H w2 h2 7 (by omega) p hp
  refine ⟨m, hm, j, i, by rw [eg]; exact hj, by rw [eg]; exact hi, ?_⟩
  rw [eg]
  obtain ⟨a, _, _⟩ := at_in ho ok (Int.natCast_nonneg j) hj (Int.natCast_nonneg i) hi
  unfold Pc
  rw [a, e1, e2, e]
  exact ⟨xa, xb⟩
theorem inv_end {l out : List Int} {S : Nat → Prop} (h : InvL l out S) (hs : ∀ t, t < l.length → S t) : out = l := by
  apply List.ext_getElem h.1
  intro t h1 h2
  have := h.2 t h2 (hs t h2)
  rw [getD_lt h1, getD_lt h2] at this
  exact this
/-! Merge of the pictures. -/
section
variable {W H pl d : Int} {l : List Int}
theorem merge_loop (ho : ImgOk W H pl l) (g : GoodI W H pl d l) (n : Nat) (hn : n ≤ (accP W H 7).length) : ∀ out, InvL l out (S0 W pl (accP W H 7) n) → Ev (fun k => impl_Merge.l0 k W H pl d (splitS W H pl d l) (accP W H 7) (n : Int) out) (W, H, pl, d, l) := by
  have hok := accP_ok W H ho.w.2 ho.h.2 7 (by omega)
  have hL := accP_len W H 7
  have hps : (splitS W H pl d l).length = (accP W H 7).length := by unfold splitS; rw [List.length_map]
  have hcov := fun t ht => cover ho t ht
  obtain ⟨L, eL⟩ : ∃ L, L = accP W H 7 := ⟨_, rfl⟩
  rw [← eL] at hok hL hps hn hcov ⊢
  refine down_to (n := L.length) (P := fun n => ∀ out, InvL l out (S0 W pl L n) → Ev (fun k => impl_Merge.l0 k W H pl d (splitS W H pl d l) L (n : Int) out) (W, H, pl, d, l)) ?_ ?_ n hn
  · intro out hI
    have := inv_end hI hcov
    subst this
    exact Ev.step (fun k => rfl) (evneg (by omega) (Ev.now _))
  · intro n hn ih out hI
    have hp := hok _ (List.getElem_mem hn)
    obtain ⟨p, ep⟩ : ∃ p, p = L[n] := ⟨_, rfl⟩
    rw [← ep] at hp
    have e1 : rd_T39 L (n : Int) = p := by rw [rdT39, getD_lt hn, ep]
    have e2 : rd_T31 (splitS W H pl d l) (n : Int) = pict W pl d l p := by
      rw [rdT31, getD_lt (by rw [hps]; exact hn), ep]
      unfold splitS
      rw [List.getElem_map]
      congr 1
      simp only [eL]
    have eg : L.getD n z39 = p := by rw [getD_lt hn, ep]
    obtain ⟨s1, s2, s3⟩ := part_sides ho hp
    obtain ⟨c, hc⟩ : ∃ c : Nat, (c : Int) = p.f4 := ⟨p.f4.toNat, by omega⟩
    obtain ⟨m, hm⟩ : ∃ m : Nat, (m : Int) = p.f5 := ⟨p.f5.toNat, by omega⟩
    have em : p.f5.toNat = m := by omega
    have gp : Ev (fun k => impl_GoodImage.f k p.f4 p.f5 pl d (colS W pl l p p.f5.toNat)) true := good_part ho g hp _ (by rw [colS_len ho hp _ (by omega), em, hm, Int.mul_comm pl p.f4, Int.mul_assoc, Int.mul_comm pl p.f5, ← Int.mul_assoc]) (fun x hx => col_mem _ x hx)
    have w1 := Aside0.mk (show wrap64 ((n : Int) + 1) = ((n + 1 : Nat) : Int) from w64s (by omega))
    have main : Ev (fun k => impl_Merge.l1 k W H pl d (splitS W H pl d l) L (n : Int) p (colS W pl l p p.f5.toNat) out 0) (W, H, pl, d, l) := by
      refine down (n := m) (P := fun j => ∀ out, InvL l out (fun t => S0 W pl L n t ∨ ∃ j' : Nat, j' < j ∧ ∃ i : Nat, (i : Int) < p.f4 ∧ Pc W pl p j' i t) → Ev (fun k => impl_Merge.l1 k W H pl d (splitS W H pl d l) L (n : Int) p (colS W pl l p p.f5.toNat) out (j : Int)) (W, H, pl, d, l)) ?_ ?_ out (hI.weaken (fun t _ h => h.elim (fun h => h) (fun ⟨j', h, _⟩ => by omega)))
      · intro out hI
        refine Ev.step (fun k => rfl) (evneg (by omega) ?_)
        rw [w1.out]
        refine ih out (hI.weaken (fun t _ h => ?_))
        obtain ⟨m', hm', j, i, hj, hi, hpc⟩ := h
        by_cases e : m' = n
        · subst e
          rw [eg] at hj hi hpc
          exact .inr ⟨j, by omega, i, hi, hpc⟩
        · exact .inl ⟨m', by omega, j, i, hj, hi, hpc⟩
      · intro j hj ihj out hI
        have w2 := Aside0.mk (show wrap64 ((j : Int) + 1) = ((j + 1 : Nat) : Int) from w64s (by omega))
        refine Ev.step (fun k => rfl) (evpos (by omega) ?_)
        refine down (n := c) (P := fun i => ∀ out, InvL l out (fun t => (S0 W pl L n t ∨ ∃ j' : Nat, j' < j ∧ ∃ i : Nat, (i : Int) < p.f4 ∧ Pc W pl p j' i t) ∨ ∃ i' : Nat, i' < i ∧ Pc W pl p j i' t) → Ev (fun k => impl_Merge.l2 k W H pl d (splitS W H pl d l) L (n : Int) p (colS W pl l p p.f5.toNat) out (j : Int) (i : Int)) (W, H, pl, d, l)) ?_ ?_ out (hI.weaken (fun t _ h => h.elim (fun h => h) (fun ⟨i', h, _⟩ => by omega)))
        · intro out hI
          refine Ev.step (fun k => rfl) (evneg (by omega) ?_)
          rw [w2.out]
          refine ihj out (hI.weaken (fun t _ h => ?_))
          rcases h with h | ⟨j', h1, i, h2, h3⟩
          · exact .inl (.inl h)
          · by_cases e : j' = j
            · subst e
              exact .inr ⟨i, by omega, h3⟩
            · exact .inl (.inr ⟨j', by omega, i, h2, h3⟩)
        · intro i hi ihi out hI
          obtain ⟨o2, hcp, hI2⟩ := cp_ok ho hp j i (by omega) (by omega) out _ hI
          refine Ev.step (fun k => rfl) (evpos (by omega) (evlet hcp ?_))
          rw [w64s (by omega)]
          refine ihi o2 (hI2.weaken (fun t _ h => ?_))
          rcases h with h | ⟨i', h1, h2⟩
          · exact .inl (.inl h)
          · by_cases e : i' = i
            · subst e
              exact .inr h2
            · exact .inl (.inr ⟨i', by omega, h2⟩)
    refine Ev.step (fun k => rfl) (evpos (by omega) (evpos (by omega) (evpos (by omega) ?_)))
    rw [e1, e2]
    exact Ev.bind gp (evpos rfl (evpos rfl (evpos rfl (evpos rfl (evpos rfl main)))))
theorem first_pass (ho : ImgOk W H pl l) : 0 < (accP W H 7).length := by
  have := find W H 0 0 (by omega) (by have := ho.w; omega) (by omega) (by have := ho.h; omega)
  obtain ⟨p, hp, _⟩ := this
  exact List.length_pos_of_mem hp
theorem merge_split (ho : ImgOk W H pl l) (g : GoodI W H pl d l) : Ev (fun k => impl_Merge.f k W H (splitS W H pl d l)) (W, H, pl, d, l) := by
  have hps : (splitS W H pl d l).length = (accP W H 7).length := by unfold splitS; rw [List.length_map]
  have hf := first_pass ho
  have lw := len_wrap ho.w.1 ho.h.1 ho.wh ho.pl
  have hlen := ho.len
  have e2 : rd_T31 (splitS W H pl d l) 0 = pict W pl d l ((accP W H 7).getD 0 z39) := by
    have h0 := rdT31 (splitS W H pl d l) 0
    rw [show (((0 : Nat) : Int)) = 0 from rfl] at h0
    rw [h0, getD_lt (by rw [hps]; exact hf), getD_lt hf]
    unfold splitS
    rw [List.getElem_map]
  refine Ev.bind (passes_impl W H ho.w ho.h) (evneg (by omega) (evpos (by omega) ?_))
  rw [e2]
  refine evlet (a := true) g.shape (evpos rfl (evpos (by show 1 ≤ wrap64 ((wrap64 (W * H)) * pl); omega) (evpos (by show wrap64 ((wrap64 (W * H)) * pl) ≤ 4194304; omega) ?_)))
  show Ev (fun k => impl_Merge.l0 k W H pl d (splitS W H pl d l) (accP W H 7) 0 (List.replicate (wrap64 ((wrap64 (W * H)) * pl)).toNat 0)) _
  rw [lw.1, show (W * H * pl).toNat = l.length by omega]
  exact merge_loop ho g 0 (by omega) _ ⟨List.length_replicate, fun t _ h => by obtain ⟨m, hm, _⟩ := h; omega⟩
end
/-! The pixels' number. -/
theorem cnt_nn {n x s : Int} (hs : 1 ≤ s) : 0 ≤ cnt n x s := by
  unfold cnt
  split
  · omega
  · exact Int.ediv_nonneg (by omega) (by omega)
def sm : List S39 → Int
  | [] => 0
  | p :: r => p.f4 * p.f5 + sm r
theorem sm_app : ∀ (a b : List S39), sm (a ++ b) = sm a + sm b
  | [], b => by simp [sm]
  | p :: r, b => by
    show p.f4 * p.f5 + sm (r ++ b) = p.f4 * p.f5 + sm r + sm b
    rw [sm_app r b]; omega
theorem sm_acc (w h : Int) (i : Nat) (hi : i < 7) : sm (accP w h (i + 1)) = sm (accP w h i) + cnt w (PL.getD i z39).f0 (PL.getD i z39).f2 * cnt h (PL.getD i z39).f1 (PL.getD i z39).f3 := by
  have o := PL_ok i hi
  have a := cnt_nn (n := w) (x := (PL.getD i z39).f0) (s := (PL.getD i z39).f2) (by omega)
  have b := cnt_nn (n := h) (x := (PL.getD i z39).f1) (s := (PL.getD i z39).f3) (by omega)
  have ea : accP w h (i + 1) = if 0 < cnt w (PL.getD i z39).f0 (PL.getD i z39).f2 ∧ 0 < cnt h (PL.getD i z39).f1 (PL.getD i z39).f3 then accP w h i ++ [psz w h (PL.getD i z39)] else accP w h i := rfl
  rw [ea]
  by_cases c : 0 < cnt w (PL.getD i z39).f0 (PL.getD i z39).f2 ∧ 0 < cnt h (PL.getD i z39).f1 (PL.getD i z39).f3
  · rw [if_pos c, sm_app]
    show _ + (cnt w (PL.getD i z39).f0 (PL.getD i z39).f2 * cnt h (PL.getD i z39).f1 (PL.getD i z39).f3 + 0) = _
    omega
  · rw [if_neg c]
    have : cnt w (PL.getD i z39).f0 (PL.getD i z39).f2 = 0 ∨ cnt h (PL.getD i z39).f1 (PL.getD i z39).f3 = 0 := by omega
    rcases this with e | e
    · rw [e, Int.zero_mul]; omega
    · rw [e, Int.mul_zero]; omega
theorem sm_all (w h : Int) (hw : 1 ≤ w) (hh : 1 ≤ h) : sm (accP w h 7) = w * h := by
  have c2 : ∀ n : Int, 1 ≤ n → cnt n 0 8 + cnt n 4 8 = cnt n 0 4 ∧ cnt n 0 4 + cnt n 2 4 = cnt n 0 2 ∧ cnt n 0 2 + cnt n 1 2 = n ∧ cnt n 0 1 = n := by
    intro n hn
    unfold cnt
    refine ⟨?_, ?_, ?_, ?_⟩
    · rw [if_neg (by omega), if_neg (show ¬ n ≤ 0 by omega)]; split <;> omega
    · rw [if_neg (by omega), if_neg (show ¬ n ≤ 0 by omega)]; split <;> omega
    · rw [if_neg (by omega)]; split <;> omega
    · rw [if_neg (by omega)]; omega
  obtain ⟨a1, a2, a3, a4⟩ := c2 w hw
  obtain ⟨b1, b2, b3, _⟩ := c2 h hh
  rw [sm_acc w h 6 (by omega), sm_acc w h 5 (by omega), sm_acc w h 4 (by omega), sm_acc w h 3 (by omega), sm_acc w h 2 (by omega), sm_acc w h 1 (by omega), sm_acc w h 0 (by omega)]
  show 0 + cnt w 0 8 * cnt h 0 8 + cnt w 4 8 * cnt h 0 8 + cnt w 0 4 * cnt h 4 8 + cnt w 2 4 * cnt h 0 4 + cnt w 0 2 * cnt h 2 4 + cnt w 1 2 * cnt h 0 2 + cnt w 0 1 * cnt h 1 2 = w * h
  rw [Int.zero_add, ← Int.add_mul, a1, ← Int.mul_add, b1, ← Int.add_mul, a2, ← Int.mul_add, b2, ← Int.add_mul, a3, a4, ← Int.mul_add, b3]
/-- The bytes that a cursor reads. -/
structure ByteL (l : List Int) : Prop where
  len : l.length ≤ 1048576
  bd : ∀ x ∈ l, 0 ≤ x ∧ x ≤ 255
theorem bytel {l : List Int} (h : ∀ x ∈ l, (Lit.int .u8 x).wf = true) (hl : ¬ (l.length : Int) > 1048576) : ByteL l := ⟨by omega, fun x hx => wfb (h x hx)⟩
theorem rd_byte {l : List Int} (h : ByteL l) {i : Int} (h0 : 0 ≤ i) (h1 : i < l.length) : 0 ≤ rd l i ∧ rd l i ≤ 255 := by
  obtain ⟨j, rfl⟩ : ∃ j : Nat, i = (j : Int) := ⟨i.toNat, by omega⟩
  rw [rd_nat, getD_lt (show j < l.length by omega)]
  exact h.bd _ (List.getElem_mem _)
theorem and255 (x : Int) : 0 ≤ Go.bits .and .u64 x 255 ∧ Go.bits .and .u64 x 255 ≤ 255 := by
  have e : Go.bits .and .u64 x 255 = IntKind.u64.wrap ((BitVec.ofInt 64 x &&& BitVec.ofInt 64 255).toNat : Int) := rfl
  have h : (BitVec.ofInt 64 x &&& BitVec.ofInt 64 255).toNat ≤ 255 := by
    rw [BitVec.toNat_and]; exact Nat.and_le_right
  rw [e, IntKind.wrap_u64]
  omega
theorem w255 {x : Int} (h : 0 ≤ x ∧ x ≤ 255) : wrap64 x = x := w64 (by omega) (by omega)
theorem next_t {l : List Int} (hl : ByteL l) (a s : Int) (h0 : 0 ≤ a) (h1 : a ≤ 2000000000000) : ∃ v s', spec_l1Cur_next.f l a s = some (v, a + 1, s') ∧ 0 ≤ v ∧ v ≤ 255 := by
  unfold spec_l1Cur_next.f
  rw [show wrap64 (a + 1) = a + 1 from w64 (by omega) (by omega)]
  by_cases c : a < (l.length : Int)
  · rw [if_pos c, if_pos h0, if_pos (by omega)]
    have := rd_byte hl h0 c
    exact ⟨_, _, rfl, by rw [w255 this]; exact this.1, by rw [w255 this]; exact this.2⟩
  · rw [if_neg c, if_neg (by omega)]
    refine ⟨_, _, rfl, ?_, ?_⟩
    · rw [w255 (and255 _)]; exact (and255 _).1
    · rw [w255 (and255 _)]; exact (and255 _).2
theorem pick_t {l : List Int} (hl : ByteL l) (a s n : Int) (hn : 1 ≤ n) (h0 : 0 ≤ a) (h1 : a ≤ 1000000000000) : ∃ r a' s', spec_l1Cur_pick.f l a s n = some (r, a', s') ∧ 0 ≤ r ∧ r < n ∧ a ≤ a' ∧ a' ≤ a + 3 := by
  unfold spec_l1Cur_pick.f
  by_cases c : n ≤ 1
  · rw [if_pos c]
    exact ⟨0, a, s, rfl, by omega, by omega, by omega, by omega⟩
  rw [if_neg c]
  have nz : ¬ n = 0 := by omega
  obtain ⟨v, s1, e1, v0, v1⟩ := next_t hl a s h0 (by omega)
  rw [e1, Option.bind_some]
  have fin : ∀ x : Int, 0 ≤ x → 0 ≤ Int.tmod x n ∧ Int.tmod x n < n := fun x hx => ⟨Int.tmod_nonneg _ hx, Int.tmod_lt_of_pos _ (by omega)⟩
  by_cases c2 : n > 200
  · rw [if_pos c2]
    obtain ⟨u, s2, e2, u0, u1⟩ := next_t hl (a + 1) s1 (by omega) (by omega)
    simp only [e2, Option.bind_some]
    rw [w64 (n := v * 256) (by omega) (by omega), w64 (n := v * 256 + u) (by omega) (by omega)]
    by_cases c3 : n > 50000
    · rw [if_pos c3]
      obtain ⟨t, s3, e3, t0, t1⟩ := next_t hl (a + 1 + 1) s2 (by omega) (by omega)
      simp only [e3, Option.bind_some]
      rw [if_neg nz, w64 (n := (v * 256 + u) * 256) (by omega) (by omega), w64 (n := (v * 256 + u) * 256 + t) (by omega) (by omega)]
      exact ⟨_, _, _, rfl, (fin _ (by omega)).1, (fin _ (by omega)).2, by omega, by omega⟩
    · rw [if_neg c3, if_neg nz]
      exact ⟨_, _, _, rfl, (fin _ (by omega)).1, (fin _ (by omega)).2, by omega, by omega⟩
  · rw [if_neg c2, if_neg (by omega), if_neg nz]
    exact ⟨_, a + 1, s1, rfl, (fin _ (by omega)).1, (fin _ (by omega)).2, by omega, by omega⟩
theorem one_t {l : List Int} (hl : ByteL l) (a s n : Int) (hn : 1 ≤ n) (h0 : 0 ≤ a) (h1 : a ≤ 1000000000000) : ∃ (b : Bool) (a' s' : Int), spec_l1Cur_one.f l a s n = some (b, a', s') ∧ a ≤ a' ∧ a' ≤ a + 3 := by
  obtain ⟨r, a', s', e, _, _, h2, h3⟩ := pick_t hl a s n hn h0 h1
  unfold spec_l1Cur_one.f
  rw [e]
  exact ⟨_, _, _, rfl, h2, h3⟩
theorem set_bd {o : List Int} {i : Nat} {v m : Int} (hb : ∀ x ∈ o, 0 ≤ x ∧ x ≤ m) (h0 : 0 ≤ v) (h1 : v ≤ m) : ∀ x ∈ o.set i v, 0 ≤ x ∧ x ≤ m := by
  intro x hx
  rcases List.mem_or_eq_of_mem_set hx with hx | rfl
  · exact hb x hx
  · exact ⟨h0, h1⟩
theorem samples_loop {l : List Int} (hl : ByteL l) (W P top dx dy base noise : Int) (hW : ¬ W = 0) (hP : ¬ P = 0) (ht0 : 1 ≤ top) (ht1 : top ≤ 65535) (n : Nat) (hn : n ≤ 1000000) :
    ∀ (o : List Int) (a s : Int), o.length = n → (∀ x ∈ o, 0 ≤ x ∧ x ≤ top) → 0 ≤ a → a ≤ 200000000000 → ∃ (o' : List Int) (a' s' : Int), Ev (fun k => spec_l1Cur_samples.l0 k W P top o dx dy base noise (n : Int) ((0 : Nat) : Int) l a s) (o', a', s') ∧ o'.length = n ∧ (∀ x ∈ o', 0 ≤ x ∧ x ≤ top) ∧ a ≤ a' ∧ a' ≤ a + 6 * n := by
  have main := down (n := n) (P := fun i => ∀ (o : List Int) (a s : Int), o.length = n → (∀ x ∈ o, 0 ≤ x ∧ x ≤ top) → 0 ≤ a → a ≤ 200000000000 + 6 * i → ∃ (o' : List Int) (a' s' : Int), Ev (fun k => spec_l1Cur_samples.l0 k W P top o dx dy base noise (n : Int) (i : Int) l a s) (o', a', s') ∧ o'.length = n ∧ (∀ x ∈ o', 0 ≤ x ∧ x ≤ top) ∧ a ≤ a' ∧ a' ≤ a + 6 * (n - i : Int)) ?_ ?_
  · intro o a s ho hb h0 h1
    obtain ⟨o', a', s', e, h2, h3, h4, h5⟩ := main o a s ho hb h0 (by omega)
    exact ⟨o', a', s', e, h2, h3, h4, by omega⟩
  · intro o a s ho hb h0 h1
    exact ⟨o, a, s, Ev.step (fun k => rfl) (evneg (by omega) (Ev.now _)), ho, hb, by omega, by omega⟩
  · intro i hi ih o a s ho hb h0 h1
    have f0 : (0 : Int) ≤ (i : Int) := by omega
    have f1 : (i : Int) < (o.length : Int) := by omega
    have tn : ((i : Int)).toNat = i := Int.toNat_natCast i
    have j4 : ∀ (y a s : Int), 0 ≤ a → a ≤ 200000000000 + 6 * (i + 1) → ∃ (o' : List Int) (a' s' : Int), Ev (fun k => spec_l1Cur_samples.j4 k W P top o dx dy base noise (i : Int) y (n : Int) (i : Int) l a s) (o', a', s') ∧ o'.length = n ∧ (∀ x ∈ o', 0 ≤ x ∧ x ≤ top) ∧ a ≤ a' ∧ a' ≤ a + 6 * (n - i - 1 : Int) := by
      intro y a s h0 h1
      have st : ∀ v : Int, 0 ≤ v → v ≤ top → ∃ (o' : List Int) (a' s' : Int), Ev (fun k => spec_l1Cur_samples.l0 k W P top (o.set (i : Int).toNat v) dx dy base noise (n : Int) (wrap64 ((i : Int) + 1)) l a s) (o', a', s') ∧ o'.length = n ∧ (∀ x ∈ o', 0 ≤ x ∧ x ≤ top) ∧ a ≤ a' ∧ a' ≤ a + 6 * (n - i - 1 : Int) := by
        intro v v0 v1
        obtain ⟨o', a', s', e, h2, h3, h4, h5⟩ := ih (o.set i v) a s (by simpa using ho) (set_bd hb v0 v1) h0 (by omega)
        refine ⟨o', a', s', ?_, h2, h3, h4, by omega⟩
        rw [w64s (by omega), tn]; exact e
      by_cases c1 : y < 0
      · by_cases c2 : 0 > top
        · omega
        · obtain ⟨o', a', s', e, h⟩ := st 0 (by omega) (by omega)
          exact ⟨o', a', s', Ev.step (fun k => rfl) (evpos c1 (evneg c2 (evpos f0 (evpos f1 e)))), h⟩
      · by_cases c2 : y > top
        · obtain ⟨o', a', s', e, h⟩ := st top (by omega) (by omega)
          exact ⟨o', a', s', Ev.step (fun k => rfl) (evneg c1 (evpos c2 (evpos f0 (evpos f1 e)))), h⟩
        · obtain ⟨o', a', s', e, h⟩ := st y (by omega) (by omega)
          exact ⟨o', a', s', Ev.step (fun k => rfl) (evneg c1 (evneg c2 (evpos f0 (evpos f1 e)))), h⟩
    have j3 : ∀ (y a s : Int), 0 ≤ a → a ≤ 200000000000 + 6 * i + 3 → ∃ (o' : List Int) (a' s' : Int), Ev (fun k => spec_l1Cur_samples.j3 k W P top o dx dy base noise (i : Int) y (n : Int) (i : Int) l a s) (o', a', s') ∧ o'.length = n ∧ (∀ x ∈ o', 0 ≤ x ∧ x ≤ top) ∧ a ≤ a' ∧ a' ≤ a + 6 * (n - i - 1 : Int) + 3 := by
      intro y a s h0 h1
      by_cases c1 : noise = 3
      · obtain ⟨r, a1, s1, e1, r0, r1, p0, p1⟩ := pick_t hl a s (top + 1) (by omega) h0 (by omega)
        obtain ⟨o', a', s', e, h2, h3, h4, h5⟩ := j4 r a1 s1 (by omega) (by omega)
        refine ⟨o', a', s', Ev.step (fun k => rfl) (evpos c1 ?_), h2, h3, by omega, by omega⟩
        rw [show wrap64 (top + 1) = top + 1 from w64 (by omega) (by omega)]
        exact evlet e1 e
      · obtain ⟨o', a', s', e, h2, h3, h4, h5⟩ := j4 y a s h0 (by omega)
        exact ⟨o', a', s', Ev.step (fun k => rfl) (evneg c1 e), h2, h3, by omega, by omega⟩
    have j1 : ∀ (u y a s : Int), 0 ≤ a → a ≤ 200000000000 + 6 * i + 3 → ∃ (o' : List Int) (a' s' : Int), Ev (fun k => spec_l1Cur_samples.j1 k W P top o dx dy base noise (i : Int) u y (n : Int) (i : Int) l a s) (o', a', s') ∧ o'.length = n ∧ (∀ x ∈ o', 0 ≤ x ∧ x ≤ top) ∧ a ≤ a' ∧ a' ≤ a + 6 * (n - i - 1 : Int) + 3 := by
      intro u y a s h0 h1
      have j2 : ∀ b : Bool, ∃ (o' : List Int) (a' s' : Int), Ev (fun k => spec_l1Cur_samples.j2 k W P top o dx dy base noise (i : Int) y (n : Int) (i : Int) b l a s) (o', a', s') ∧ o'.length = n ∧ (∀ x ∈ o', 0 ≤ x ∧ x ≤ top) ∧ a ≤ a' ∧ a' ≤ a + 6 * (n - i - 1 : Int) + 3 := by
        intro b
        cases b with
        | true =>
          obtain ⟨o', a', s', e, h⟩ := j3 (wrap64 (top - y)) a s h0 h1
          exact ⟨o', a', s', Ev.step (fun k => rfl) e, h⟩
        | false =>
          obtain ⟨o', a', s', e, h⟩ := j3 y a s h0 h1
          exact ⟨o', a', s', Ev.step (fun k => rfl) e, h⟩
      by_cases c1 : noise = 2
      · obtain ⟨o', a', s', e, h⟩ := j2 (decide (u > wrap64 (Int.tdiv W 2)))
        exact ⟨o', a', s', Ev.step (fun k => rfl) (evpos c1 e), h⟩
      · obtain ⟨o', a', s', e, h⟩ := j2 false
        exact ⟨o', a', s', Ev.step (fun k => rfl) (evneg c1 e), h⟩
    by_cases c1 : noise = 1
    · obtain ⟨r, a1, s1, e1, r0, r1, p0, p1⟩ := pick_t hl a s 9 (by omega) h0 (by omega)
      obtain ⟨o', a', s', e, h2, h3, h4, h5⟩ := j1 (Int.tmod (wrap64 (Int.tdiv (i : Int) P)) W) (wrap64 ((wrap64 ((wrap64 ((wrap64 (base + (wrap64 ((Int.tmod (wrap64 (Int.tdiv (i : Int) P)) W) * dx)))) + (wrap64 ((wrap64 (Int.tdiv (wrap64 (Int.tdiv (i : Int) P)) W)) * dy)))) + (wrap64 ((Int.tmod (i : Int) P) * 20)))) + r)) a1 s1 (by omega) (by omega)
      exact ⟨o', a', s', Ev.step (fun k => rfl) (evpos (by omega) (evneg hP (evneg hW (evpos c1 (evlet e1 e))))), h2, h3, by omega, by omega⟩
    · obtain ⟨o', a', s', e, h2, h3, h4, h5⟩ := j1 (Int.tmod (wrap64 (Int.tdiv (i : Int) P)) W) (wrap64 ((wrap64 ((wrap64 (base + (wrap64 ((Int.tmod (wrap64 (Int.tdiv (i : Int) P)) W) * dx)))) + (wrap64 ((wrap64 (Int.tdiv (wrap64 (Int.tdiv (i : Int) P)) W)) * dy)))) + (wrap64 ((Int.tmod (i : Int) P) * 20)))) a s (by omega) (by omega)
      exact ⟨o', a', s', Ev.step (fun k => rfl) (evpos (by omega) (evneg hP (evneg hW (evneg c1 e)))), h2, h3, by omega, by omega⟩
theorem samples_t {l : List Int} (hl : ByteL l) (a s d T : Int) (W H P : Nat) (hT : shl .i64 1 (IntKind.u64.wrap d) = T) (hd : 0 ≤ IntKind.u64.wrap d) (hT0 : 2 ≤ T) (hT1 : T ≤ 65536) (hP : 1 ≤ P) (hwh : W * H * P ≤ 1000000) (h0 : 0 ≤ a) (h1 : a ≤ 100000000000) :
    ∃ (o : List Int) (a' s' : Int), Ev (fun k => spec_l1Cur_samples.f k l a s (W : Int) (H : Int) (P : Int) d) (o, a', s') ∧ o.length = W * H * P ∧ (∀ x ∈ o, 0 ≤ x ∧ x ≤ T - 1) ∧ a ≤ a' ∧ a' ≤ a + 12 + 6 * (W * H * P : Nat) := by
  have hwh2 : W * H ≤ 1000000 := Nat.le_trans (Nat.le_mul_of_pos_right _ hP) hwh
  have en : wrap64 (wrap64 ((W : Int) * (H : Int)) * (P : Int)) = ((W * H * P : Nat) : Int) := by
    rw [show (W : Int) * (H : Int) = ((W * H : Nat) : Int) by push_cast; rfl, w64 (n := ((W * H : Nat) : Int)) (by omega) (by omega), show ((W * H : Nat) : Int) * (P : Int) = ((W * H * P : Nat) : Int) by push_cast; rfl, w64 (by omega) (by omega)]
  obtain ⟨r1, a1, s1, e1, _, _, p1, q1⟩ := pick_t hl a s 30 (by omega) h0 (by omega)
  obtain ⟨r2, a2, s2, e2, _, _, p2, q2⟩ := pick_t hl a1 s1 30 (by omega) (by omega) (by omega)
  obtain ⟨r3, a3, s3, e3, _, _, p3, q3⟩ := pick_t hl a2 s2 T (by omega) (by omega) (by omega)
  obtain ⟨r4, a4, s4, e4, _, _, p4, q4⟩ := pick_t hl a3 s3 4 (by omega) (by omega) (by omega)
  have top : wrap64 (T - 1) = T - 1 := w64 (by omega) (by omega)
  have top1 : wrap64 (T - 1 + 1) = T := by rw [w64 (by omega) (by omega)]; omega
  have hlen : (List.replicate (W * H * P) (0 : Int)).length = W * H * P := by simp
  have hz : ∀ x ∈ List.replicate (W * H * P) (0 : Int), 0 ≤ x ∧ x ≤ T - 1 := fun x hx => by rw [List.eq_of_mem_replicate hx]; omega
  suffices hs : ∃ (o : List Int) (a' s' : Int), Ev (fun k => spec_l1Cur_samples.l0 k (W : Int) (P : Int) (T - 1) (List.replicate (W * H * P) 0) (wrap64 (r1 - 15)) (wrap64 (r2 - 15)) r3 r4 ((W * H * P : Nat) : Int) ((0 : Nat) : Int) l a4 s4) (o, a', s') ∧ o.length = W * H * P ∧ (∀ x ∈ o, 0 ≤ x ∧ x ≤ T - 1) ∧ a4 ≤ a' ∧ a' ≤ a4 + 6 * (W * H * P : Nat) by
    obtain ⟨o, a', s', e, h2, h3, h4, h5⟩ := hs
    refine ⟨o, a', s', ?_, h2, h3, by omega, by omega⟩
    unfold spec_l1Cur_samples.f
    rw [hT, en, top, top1, Int.toNat_natCast]
    refine evpos hd (evpos (by omega) (evpos (by omega) (evlet rfl (evlet e1 (evlet e2 (evlet e3 (evlet e4 ?_)))))))
    simp only [hlen]
    exact e
  by_cases c : W * H * P = 0
  · refine ⟨List.replicate (W * H * P) 0, a4, s4, Ev.step (fun k => rfl) (evneg (by omega) (Ev.now _)), hlen, hz, by omega, by omega⟩
  · exact samples_loop hl (W : Int) (P : Int) (T - 1) _ _ _ _ (by rintro h; obtain rfl : W = 0 := by omega
                                                                  simp at c) (by omega) (by omega) (by omega) (W * H * P) hwh _ a4 s4 hlen hz (by omega) (by omega)
theorem uw0 (n : Int) : 0 ≤ IntKind.u64.wrap n := by rw [IntKind.wrap_u64]; omega
/-- Samples of small sides, drawn. -/
theorem smp {l : List Int} (hl : ByteL l) (a s d T w h p : Int) (hT : shl .i64 1 (IntKind.u64.wrap d) = T) (hT0 : 2 ≤ T) (hT1 : T ≤ 65536) (hw : 1 ≤ w ∧ w ≤ 9) (hh : 1 ≤ h ∧ h ≤ 9) (hp : 1 ≤ p ∧ p ≤ 4) (h0 : 0 ≤ a) (h1 : a ≤ 1000000) :
    ∃ (o : List Int) (a' s' : Int), Ev (fun k => spec_l1Cur_samples.f k l a s w h p d) (o, a', s') ∧ o.length ≤ 324 ∧ a ≤ a' ∧ a' ≤ a + 3000 := by
  obtain ⟨W, hW⟩ : ∃ W : Nat, (W : Int) = w := ⟨w.toNat, by omega⟩
  obtain ⟨H, hH⟩ : ∃ H : Nat, (H : Int) = h := ⟨h.toNat, by omega⟩
  obtain ⟨P, hP⟩ : ∃ P : Nat, (P : Int) = p := ⟨p.toNat, by omega⟩
  have b1 : W * H ≤ 9 * 9 := Nat.mul_le_mul (by omega) (by omega)
  have b2 : W * H * P ≤ 81 * 4 := Nat.mul_le_mul b1 (by omega)
  obtain ⟨o, a', s', e, q1, _, q3, q4⟩ := samples_t hl a s d T W H P hT (uw0 d) hT0 hT1 (by omega) (by omega) h0 (by omega)
  subst hW; subst hH; subst hP
  exact ⟨o, a', s', e, by omega, q3, by omega⟩
theorem image_t {l : List Int} (hl : ByteL l) : ∃ (w h p d : Int) (o : List Int) (a' s' : Int), Ev (fun k => spec_l1Cur_image.f k l 0 0 9) (w, h, p, d, o, a', s') ∧ o.length ≤ 324 ∧ 0 ≤ a' ∧ a' ≤ 100000 := by
  obtain ⟨r1, a1, s1, e1, x1, x2, x3, x4⟩ := pick_t hl 0 0 9 (by omega) (by omega) (by omega)
  obtain ⟨r2, a2, s2, e2, y1, y2, y3, y4⟩ := pick_t hl a1 s1 9 (by omega) (by omega) (by omega)
  obtain ⟨r3, a3, s3, e3, z1, z2, z3, z4⟩ := pick_t hl a2 s2 4 (by omega) (by omega) (by omega)
  have w1 : wrap64 (1 + r1) = 1 + r1 := w64 (by omega) (by omega)
  have w2 : wrap64 (1 + r2) = 1 + r2 := w64 (by omega) (by omega)
  by_cases c0 : r3 = 0
  · obtain ⟨r4, a4, s4, e4, u1, u2, u3, u4⟩ := pick_t hl a3 s3 4 (by omega) (by omega) (by omega)
    obtain ⟨d, hd⟩ : ∃ d, rd ([1, 2, 4, 16] : List Int) r4 = d := ⟨_, rfl⟩
    obtain ⟨T, hT, t0, t1⟩ : ∃ T : Int, shl .i64 1 (IntKind.u64.wrap d) = T ∧ 2 ≤ T ∧ T ≤ 65536 := by
      have : r4 = 0 ∨ r4 = 1 ∨ r4 = 2 ∨ r4 = 3 := by omega
      rcases this with rfl | rfl | rfl | rfl <;> subst hd
      · exact ⟨2, by decide, by omega, by omega⟩
      · exact ⟨4, by decide, by omega, by omega⟩
      · exact ⟨16, by decide, by omega, by omega⟩
      · exact ⟨65536, by decide, by omega, by omega⟩
    obtain ⟨o, a', s', e, q1, q2, q3⟩ := smp hl a4 s4 d T (1 + r1) (1 + r2) 1 hT t0 t1 (by omega) (by omega) (by omega) (by omega) (by omega)
    refine ⟨1 + r1, 1 + r2, 1, d, o, a', s', evlet e1 (evlet e2 (evlet e3 (evpos c0 (evlet rfl (evlet e4 (evpos u1 (evpos u2 ?_))))))), q1, by omega, by omega⟩
    simp only [w1, w2, hd]
    exact Ev.bind e (Ev.now _)
  by_cases c1 : r3 = 1
  · obtain ⟨r4, a4, s4, e4, u1, u2, u3, u4⟩ := pick_t hl a3 s3 3 (by omega) (by omega) (by omega)
    obtain ⟨b, a5, s5, e5, v1, v2⟩ := one_t hl a4 s4 4 (by omega) (by omega) (by omega)
    have w3 : wrap64 (2 + r4) = 2 + r4 := w64 (by omega) (by omega)
    cases b with
    | true =>
      obtain ⟨o, a', s', e, q1, q2, q3⟩ := smp hl a5 s5 16 65536 (1 + r1) (1 + r2) (2 + r4) (by decide) (by omega) (by omega) (by omega) (by omega) (by omega) (by omega) (by omega)
      refine ⟨1 + r1, 1 + r2, 2 + r4, 16, o, a', s', evlet e1 (evlet e2 (evlet e3 (evneg c0 (evpos c1 (evlet e4 (evlet e5 (evpos rfl ?_))))))), q1, by omega, by omega⟩
      simp only [w1, w2, w3]
      exact Ev.bind e (Ev.now _)
    | false =>
      obtain ⟨o, a', s', e, q1, q2, q3⟩ := smp hl a5 s5 8 256 (1 + r1) (1 + r2) (2 + r4) (by decide) (by omega) (by omega) (by omega) (by omega) (by omega) (by omega) (by omega)
      refine ⟨1 + r1, 1 + r2, 2 + r4, 8, o, a', s', evlet e1 (evlet e2 (evlet e3 (evneg c0 (evpos c1 (evlet e4 (evlet e5 (evneg (by simp) ?_))))))), q1, by omega, by omega⟩
      simp only [w1, w2, w3]
      exact Ev.bind e (Ev.now _)
  · obtain ⟨o, a', s', e, q1, q2, q3⟩ := smp hl a3 s3 8 256 (1 + r1) (1 + r2) 1 (by decide) (by omega) (by omega) (by omega) (by omega) (by omega) (by omega) (by omega)
    refine ⟨1 + r1, 1 + r2, 1, 8, o, a', s', evlet e1 (evlet e2 (evlet e3 (evneg c0 (evneg c1 ?_)))), q1, by omega, by omega⟩
    simp only [w1, w2]
    exact Ev.bind e (Ev.now _)
theorem odd_t {l : List Int} (hl : ByteL l) (a s : Int) (h0 : 0 ≤ a) (h1 : a ≤ 1000000) (w h p d : Int) (o : List Int) (ho : o.length ≤ 324) : ∃ (w' h' p' d' : Int) (o' : List Int) (a' s' : Int), spec_l1Cur_oddImage.f l a s w h p d o = some (w', h', p', d', o', a', s') ∧ o'.length ≤ 325 := by
  obtain ⟨r1, a1, s1, e1, x1, x2, x3, x4⟩ := pick_t hl a s 9 (by omega) (by omega) (by omega)
  unfold spec_l1Cur_oddImage.f
  rw [e1]
  simp only [Option.bind_some]
  by_cases c0 : r1 = 0
  · obtain ⟨r2, a2, s2, e2, y1, y2, y3, y4⟩ := pick_t hl a1 s1 3 (by omega) (by omega) (by omega)
    rw [if_pos c0, e2]
    exact ⟨_, _, _, _, _, _, _, rfl, by omega⟩
  by_cases c1 : r1 = 1
  · obtain ⟨r2, a2, s2, e2, y1, y2, y3, y4⟩ := pick_t hl a1 s1 18 (by omega) (by omega) (by omega)
    rw [if_neg c0, if_pos c1, e2]
    exact ⟨_, _, _, _, _, _, _, rfl, by omega⟩
  by_cases c2 : r1 = 2
  · obtain ⟨r2, a2, s2, e2, y1, y2, y3, y4⟩ := pick_t hl a1 s1 6 (by omega) (by omega) (by omega)
    rw [if_neg c0, if_neg c1, if_pos c2, e2]
    exact ⟨_, _, _, _, _, _, _, rfl, by omega⟩
  by_cases c3 : r1 = 3
  · rw [if_neg c0, if_neg c1, if_neg c2, if_pos c3]
    by_cases c : (o.length : Int) > 0
    · obtain ⟨r2, a2, s2, e2, y1, y2, y3, y4⟩ := pick_t hl a1 s1 (o.length : Int) (by omega) (by omega) (by omega)
      obtain ⟨r3, a3, s3, e3, z1, z2, z3, z4⟩ := pick_t hl a2 s2 3 (by omega) (by omega) (by omega)
      rw [if_pos c, e2]
      simp only [Option.bind_some]
      rw [if_pos (uw0 _), e3]
      simp only [Option.bind_some]
      rw [if_pos z1, if_pos (by simp only [List.length_cons, List.length_nil]; omega), if_pos y1, if_pos y2]
      exact ⟨_, _, _, _, _, _, _, rfl, by rw [List.length_set]; omega⟩
    · rw [if_neg c]
      exact ⟨_, _, _, _, _, _, _, rfl, by omega⟩
  by_cases c4 : r1 = 4
  · rw [if_neg c0, if_neg c1, if_neg c2, if_neg c3, if_pos c4, if_pos (by omega)]
    exact ⟨_, _, _, _, _, _, _, rfl, by simp; omega⟩
  · rw [if_neg c0, if_neg c1, if_neg c2, if_neg c3, if_neg c4]
    exact ⟨_, _, _, _, _, _, _, rfl, by omega⟩
theorem drawGood_t {l : List Int} (hl : ByteL l) : ∃ (w h p d : Int) (o : List Int), Ev (fun k => spec_DrawGoodImage.f k l) (w, h, p, d, o) ∧ o.length ≤ 5000 := by
  obtain ⟨w, h, p, d, o, a1, s1, e1, q1, q2, q3⟩ := image_t hl
  obtain ⟨b, a2, s2, e2, v1, v2⟩ := one_t hl a1 s1 12 (by omega) (by omega) (by omega)
  cases b with
  | true =>
    obtain ⟨r, a3, s3, e3, y1, y2, y3, y4⟩ := pick_t hl a2 s2 3 (by omega) (by omega) (by omega)
    have w1 : wrap64 ((wrap64 (511 + r)) * 8) = (511 + r) * 8 := by rw [w64 (n := 511 + r) (by omega) (by omega), w64 (by omega) (by omega)]
    refine ⟨_, _, _, _, _, Ev.bind e1 (evlet e2 (evpos rfl (evlet e3 (evpos (by simp only; omega) (evpos (by simp only; omega) (Ev.now _)))))), ?_⟩
    simp only
    rw [List.length_replicate, w1]
    omega
  | false =>
    obtain ⟨b2, a3, s3, e3, v3, v4⟩ := one_t hl a2 s2 3 (by omega) (by omega) (by omega)
    cases b2 with
    | true =>
      obtain ⟨w', h', p', d', o', a', s', e4, q4⟩ := odd_t hl a3 s3 (by omega) (by omega) w h p d o q1
      exact ⟨w', h', p', d', o', Ev.bind e1 (evlet e2 (evneg (by simp) (evlet e3 (evpos rfl (evlet e4 (Ev.now _)))))), by omega⟩
    | false => exact ⟨w, h, p, d, o, Ev.bind e1 (evlet e2 (evneg (by simp) (evlet e3 (evneg (by simp) (Ev.now _))))), by omega⟩
theorem wInts_t (l : List Int) (hl : l.length ≤ 4611686018427387904) : Ev (fun k => laws_wInts.f k l l) true := by
  refine evpos rfl ?_
  refine down (n := l.length) (P := fun i => Ev (fun k => laws_wInts.l0 k l l (l.length : Int) (i : Int)) true) ?_ ?_
  · exact Ev.step (fun k => rfl) (evneg (by omega) (Ev.now _))
  · intro i hi h
    refine Ev.step (fun k => rfl) (evpos (by omega) (evpos (by omega) (evpos (by omega) (evpos (by omega) (evpos rfl ?_)))))
    rw [w64s (by omega)]; exact h
theorem sm_take {L : List S39} {n : Nat} (h : n < L.length) : sm (L.take (n + 1)) = sm (L.take n) + L[n].f4 * L[n].f5 := by
  rw [List.take_succ_eq_append_getElem h, sm_app]
  show _ + (L[n].f4 * L[n].f5 + 0) = _
  omega
theorem law_loop {W H pl d : Int} {l : List Int} (ho : ImgOk W H pl l) (g : GoodI W H pl d l) : Ev (fun k => laws_FnPasses.l0 k (splitS W H pl d l) 0 (accP W H 7) ((accP W H 7).length : Int) 0 W H pl d l) true := by
  have hok := accP_ok W H ho.w.2 ho.h.2 7 (by omega)
  have hL := accP_len W H 7
  have hps : (splitS W H pl d l).length = (accP W H 7).length := by unfold splitS; rw [List.length_map]
  have hsm := sm_all W H ho.w.1 ho.h.1
  have lw := len_wrap ho.w.1 ho.h.1 ho.wh ho.pl
  have hlen := ho.len
  have hwh := ho.wh
  have wh0 : 0 ≤ W * H := Int.mul_nonneg (by have := ho.w; omega) (by have := ho.h; omega)
  have hm := merge_split ho g
  have hwi : Ev (fun k => laws_wImage.f k W H pl d l W H pl d l) true := evpos rfl (evpos rfl (evpos rfl (evpos rfl (Ev.bind (wInts_t l (by omega)) (Ev.now _)))))
  have eL : splitS W H pl d l = (accP W H 7).map (pict W pl d l) := rfl
  generalize accP W H 7 = L at hok hL hps hsm eL ⊢
  generalize splitS W H pl d l = ps at hps hm eL ⊢
  have hb : ∀ n, n ≤ L.length → 0 ≤ sm (L.take n) ∧ sm (L.take n) ≤ 4096 * (n : Int) := by
    intro n
    induction n with
    | zero => intro _; simp [sm]
    | succ n ih =>
      intro h
      obtain ⟨s1, s2, s3⟩ := part_sides ho (hok _ (List.getElem_mem (show n < L.length by omega)))
      have := ih (by omega)
      have z := Int.mul_nonneg (show 0 ≤ (L[n]'(by omega)).f4 by omega) (show 0 ≤ (L[n]'(by omega)).f5 by omega)
      rw [sm_take (by omega)]
      omega
  have main := down (n := L.length) (P := fun n => Ev (fun k => laws_FnPasses.l0 k ps (sm (L.take n)) L (L.length : Int) (n : Int) W H pl d l) true) ?_ ?_
  · exact main
  · rw [List.take_length, hsm]
    refine Ev.step (fun k => rfl) (evneg (by omega) (evpos (by rw [w64 (by omega) (by omega)]) (Ev.bind hm (Ev.bind hwi (Ev.now _)))))
  · intro n hn ih
    have e1 : rd_T39 L (n : Int) = L[n] := by rw [rdT39, getD_lt hn]
    have e2 : rd_T31 ps (n : Int) = pict W pl d l L[n] := by
      rw [rdT31, getD_lt (by rw [hps]; exact hn)]
      simp only [eL, List.getElem_map]
    have b1 := hb (n + 1) (by omega)
    have b0 := hb n (by omega)
    rw [sm_take hn] at ih b1
    obtain ⟨s1, s2, s3⟩ := part_sides ho (hok _ (List.getElem_mem hn))
    have z := Int.mul_nonneg (show 0 ≤ L[n].f4 by omega) (show 0 ≤ L[n].f5 by omega)
    have w1 := Aside0.mk (show wrap64 (sm (L.take n) + (wrap64 (L[n].f4 * L[n].f5))) = sm (L.take n) + L[n].f4 * L[n].f5 from by rw [w64 (n := L[n].f4 * L[n].f5) (by omega) (by omega), w64 (by omega) (by omega)])
    have w2 := Aside0.mk (show wrap64 ((n : Int) + 1) = ((n + 1 : Nat) : Int) from w64s (by omega))
    refine Ev.step (fun k => rfl) (evpos (by omega) (evpos (by omega) (evpos (by omega) (evneg (by omega) (evpos (by omega) ?_)))))
    rw [e1, e2]
    refine evpos rfl (evpos rfl ?_)
    rw [w1.out, w2.out]
    exact ih
theorem FnPasses : laws_FnPasses.Pure := by
  intro l0 _ _ wb
  refine Ev.rounds ?_
  by_cases c : (l0.length : Int) > 1048576
  · exact evpos c (Ev.now _)
  have hl := bytel wb c
  refine evneg c ?_
  obtain ⟨W, H, pl, d, l, e, hlen⟩ := drawGood_t hl
  have e1 : Ev (fun k => spec_DrawSplit.f k l0) (W, H, pl, d, l) := Ev.bind e (Ev.now _)
  obtain ⟨q, g1, g2, g3⟩ := good_img W H pl d l (by omega)
  cases q with
  | false =>
    have es : Ev (fun k => impl_Split.f k W H pl d l) ([] : List S31) := Ev.bind g2 (evneg (by simp) (Ev.now _))
    exact Ev.bind e1 (Ev.bind es (Ev.bind g1 (evneg (by simp) (Ev.now _))))
  | true =>
    have ho := g3 rfl
    have g := good_facts ho g2
    have es : Ev (fun k => impl_Split.f k W H pl d l) (splitS W H pl d l) := Ev.bind g2 (evpos rfl (Ev.bind (passes_impl W H ho.w ho.h) (impl_split ho)))
    exact Ev.bind e1 (Ev.bind es (Ev.bind g1 (evpos rfl (Ev.bind (passes_impl W H ho.w ho.h) (law_loop ho g)))))
end Go.Proofs.Ytggokppfhkebkaa.Pure

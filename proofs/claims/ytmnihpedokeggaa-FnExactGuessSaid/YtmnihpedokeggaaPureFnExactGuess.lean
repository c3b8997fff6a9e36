/- FnExactGuess: the program's Guess answers as the reference at every argument. -/
import Derived.Test.YtmnihpedokeggaaPFnExactGuessx0
import Derived.Test.YtmnihpedokeggaaPFnExactGuessx1
import Derived.Test.YtmnihpedokeggaaPFnExactGuessx2
import Derived.Test.YtmnihpedokeggaaPFnExactGuessx3
import Derived.Test.YtmnihpedokeggaaPFnExactGuessx4
import Derived.Test.YtmnihpedokeggaaPFnExactGuessx5
import Derived.Test.YtmnihpedokeggaaK
namespace Go.Proofs.Ytmnihpedokeggaa.Pure
open Go.RowKit Go.Proofs.Ytmnihpedokeggaa.PFnExactGuess Go.Proofs.Ytmnihpedokeggaa.K Go.Proofs.YtmnihpedokeggaaW.PrintWords Go.Proofs.YtmnihpedokeggaaW.PrintLast Go.Proofs.YtmnihpedokeggaaW.PrintMore

theorem toIntS (l : List Int) (hl : l.length ≤ 1048576) : Ev (fun k => laws_toIntS.f k l) l := by
  refine evpos (by omega) (evpos (by omega) ?_)
  have := down (n := l.length) (P := fun i => Ev (fun k => laws_toIntS.l0 k l (fl 0 l.length (fun j => l.getD j 0) i) (i : Int)) l) ?_ ?_
  · rw [fl_zero] at this; exact this
  · refine Ev.step (fun k => rfl) (evneg (by omega) ?_)
    rw [fl_all]
    have e := map_range_get l 0 id
    try simp only [id_eq, List.map_id_fun] at e
    rw [e]; exact Ev.now _
  · intro i hi h
    refine Ev.step (fun k => rfl) (evpos (by omega) (evpos (by omega) (evpos (by rw [fl_len]; omega) ?_)))
    rw [w64s (by omega), rd_nat, getD_lt hi, Int.toNat_natCast]
    rw [← fl_set, getD_lt hi] at h
    exact h
theorem eqIntS (l : List Int) (hl : l.length ≤ 4611686018427387904) : Ev (fun k => laws_eqIntS.f k l l) true := by
  refine evpos rfl ?_
  refine down (n := l.length) (P := fun i => Ev (fun k => laws_eqIntS.l0 k l l (i : Int)) true) ?_ ?_
  · exact Ev.step (fun k => rfl) (evneg (by omega) (Ev.now _))
  · intro i hi h
    refine Ev.step (fun k => rfl) (evpos (by omega) (evpos (by omega) (evpos (by omega) (evpos rfl ?_))))
    rw [w64s (by omega)]; exact h
theorem mhIntS (l : List Int) (a : Int) (h0 : 0 ≤ a) (h1 : a + l.length ≤ 4611686018427387904) : ∃ l' : List Int, Ev (fun k => laws_markIntS.f k l a) (a + l.length, l') ∧ Ev (fun k => laws_heldIntS.f k l' a) (a + l.length) ∧ l'.length = l.length := by
  refine ⟨(List.range l.length).map (fun (j : Nat) => a + (j : Int)), ?_, ?_, by simp⟩
  · have := down (n := l.length) (P := fun i => Ev (fun k => laws_markIntS.l0 k (f2 l.length (fun (j : Nat) => a + (j : Int)) (fun j => l.getD j 0) i) (a + (i : Int)) (i : Int)) (a + l.length, (List.range l.length).map (fun (j : Nat) => a + (j : Int)))) ?_ ?_
    · rw [f2_zero] at this; rw [show a + ((0 : Nat) : Int) = a by omega] at this; exact this
    · refine Ev.step (fun k => rfl) (evneg (by rw [f2_len]; omega) ?_)
      rw [f2_all]; exact Ev.now _
    · intro i hi h
      refine Ev.step (fun k => rfl) (evpos (by rw [f2_len]; omega) (evpos (by omega) ?_))
      rw [w64s (by omega), w64 (by omega) (by omega), Int.toNat_natCast, show a + (i : Int) + 1 = a + ((i + 1 : Nat) : Int) by omega]
      rw [← f2_set] at h
      exact h
  · have := down (n := l.length) (P := fun i => Ev (fun k => laws_heldIntS.l0 k ((List.range l.length).map (fun (j : Nat) => a + (j : Int))) (a + (i : Int)) (i : Int)) (a + l.length)) ?_ ?_
    · rw [show a + ((0 : Nat) : Int) = a by omega] at this; exact this
    · exact Ev.step (fun k => rfl) (evneg (by simp) (Ev.now _))
    · intro i hi h
      refine Ev.step (fun k => rfl) (evpos (by simpa using hi) (evpos (by omega) (evpos (by rw [rd_nat, range_getD _ _ _ _ hi]) ?_)))
      rw [w64s (by omega), w64 (by omega) (by omega), show a + (i : Int) + 1 = a + ((i + 1 : Nat) : Int) by omega]
      exact h
theorem scan_both (l : List Int) (n : Int) (hl : l.length ≤ 1048576) : ∃ q : Bool, Ev (fun k => spec_l13In.l0 k l n l (l.length : Int) 0) (q && ((l.length : Int) == n)) ∧ Ev (fun k => impl_zrange.l0 k 0 255 l (l.length : Int) 0) q := by
  refine down (n := l.length) (P := fun i => ∃ q : Bool, Ev (fun k => spec_l13In.l0 k l n l (l.length : Int) (i : Int)) (q && ((l.length : Int) == n)) ∧ Ev (fun k => impl_zrange.l0 k 0 255 l (l.length : Int) (i : Int)) q) ?_ ?_
  · exact ⟨true, Ev.step (fun k => rfl) (evneg (by omega) (Ev.now _)), Ev.step (fun k => rfl) (evneg (by omega) (Ev.now _))⟩
  · intro i hi ⟨q, h1, h2⟩
    by_cases c1 : rd l (i : Int) < 0
    · exact ⟨false, Ev.step (fun k => rfl) (evpos (by omega) (evpos (by omega) (evpos (by omega) (evpos c1 (Ev.now _))))), Ev.step (fun k => rfl) (evpos (by omega) (evpos (by omega) (evpos (by omega) (evpos c1 (Ev.now _)))))⟩
    by_cases c2 : rd l (i : Int) > 255
    · exact ⟨false, Ev.step (fun k => rfl) (evpos (by omega) (evpos (by omega) (evpos (by omega) (evneg c1 (evpos c2 (Ev.now _)))))), Ev.step (fun k => rfl) (evpos (by omega) (evpos (by omega) (evpos (by omega) (evneg c1 (evpos c2 (Ev.now _))))))⟩
    refine ⟨q, Ev.step (fun k => rfl) (evpos (by omega) (evpos (by omega) (evpos (by omega) (evneg c1 (evneg c2 ?_))))), Ev.step (fun k => rfl) (evpos (by omega) (evpos (by omega) (evpos (by omega) (evneg c1 (evneg c2 ?_)))))⟩
    · rw [w64s (by omega)]; exact h1
    · rw [w64s (by omega)]; exact h2
theorem side_both (l : List Int) (n : Nat) (hn : n = 4 ∨ n = 8) (hl : l.length ≤ 1048576) :
    ∃ b : Bool, Ev (fun k => impl_Guess_1.f k l (n : Int)) b ∧ (0 < l.length → Ev (fun k => spec_l13In.f k l (n : Int)) b) ∧ (b = true → l.length = 0 ∨ l.length = n) ∧ (l.length = 0 → b = true) := by
  by_cases c0 : l.length = 0
  · exact ⟨true, evpos (by omega) (evneg (by omega) (Ev.step (fun k => rfl) (evneg (by omega) (Ev.now _)))), fun h => by omega, fun _ => Or.inl c0, fun _ => rfl⟩
  obtain ⟨q, h1, h2⟩ := scan_both l (n : Int) hl
  by_cases c1 : l.length = n
  · have e : ((l.length : Int) == (n : Int)) = true := by rw [beq_iff_eq]; omega
    rw [e, Bool.and_true] at h1
    exact ⟨q, evneg (by omega) (evpos (by omega) (evneg (by omega) h2)), fun _ => h1, fun _ => Or.inr c1, fun h => by omega⟩
  · have e : ((l.length : Int) == (n : Int)) = false := by rw [beq_eq_false_iff_ne]; omega
    rw [e, Bool.and_false] at h1
    exact ⟨false, evneg (by omega) (evneg (by omega) (Ev.now _)), fun _ => h1, (fun h => by cases h), fun h => by omega⟩
def clip (a : Int) : Int := if a < 0 then 0 else if a > 255 then 255 else a
theorem clip_spec (a : Int) : spec_l7Clip.f a = some (clip a) := by
  unfold spec_l7Clip.f clip
  split
  · rfl
  · split <;> rfl
theorem clip_impl (a : Int) : impl_zclip.f a = some (clip a) := by
  unfold impl_zclip.f clip mn mx
  congr 1
  (repeat' split) <;> omega
/-- What stands at place i. -/
def gv (m : Int) (n : Nat) (L A : List Int) (c mean : Int) (i : Nat) : Int :=
  if m = 0 then mean else if m = 1 then L.getD (i / n) 0 else if m = 2 then A.getD (i % n) 0 else clip (wrap64 (wrap64 (L.getD (i / n) 0 + A.getD (i % n) 0) - c))
theorem ar1 {n i : Nat} (h : n = 4 ∨ n = 8) (hi : i < n * n) : i / n < n ∧ i % n < n ∧ n * n ≤ 64 := by
  rcases h with rfl | rfl <;> refine ⟨?_, ?_, ?_⟩ <;> omega
theorem ar2 {n y x : Nat} (h : n = 4 ∨ n = 8) (hy : y < n) (hx : x < n) : y * n + x < 64 ∧ (y * n + x) / n = y ∧ (y * n + x) % n = x := by
  rcases h with rfl | rfl <;> refine ⟨?_, ?_, ?_⟩ <;> omega
theorem spec_loop (m : Int) (n : Nat) (L A : List Int) (c mean : Int) (hm : m = 0 ∨ m = 1 ∨ m = 2 ∨ m = 3) (hn : n = 4 ∨ n = 8) (h1 : m = 1 ∨ m = 3 → L.length = n) (h2 : m = 2 ∨ m = 3 → A.length = n) :
    Ev (fun k => spec_l13Guess.l2 k m (n : Int) L A c (List.replicate (n * n) 0) mean ((n * n : Nat) : Int) 0) ((List.range (n * n)).map (gv m n L A c mean), true) := by
  rw [← fl_zero (0 : Int) (n * n) (gv m n L A c mean)]
  refine down (n := n * n) (P := fun i => Ev (fun k => spec_l13Guess.l2 k m (n : Int) L A c (fl 0 (n * n) (gv m n L A c mean) i) mean ((n * n : Nat) : Int) (i : Int)) ((List.range (n * n)).map (gv m n L A c mean), true)) ?_ ?_
  · refine Ev.step (fun k => rfl) (evneg (by omega) ?_)
    rw [fl_all]; exact Ev.now _
  · intro i hi ih
    obtain ⟨a1, a2, a3⟩ := ar1 hn hi
    have n0 : ¬ (n : Int) = 0 := by omega
    have tq : Int.tdiv (i : Int) (n : Int) = ((i / n : Nat) : Int) := (Int.ofNat_tdiv i n).symm
    have r : Int.tmod (i : Int) (n : Int) = ((i % n : Nat) : Int) := (Int.ofNat_tmod i n).symm
    obtain ⟨p, hp⟩ : ∃ p, i / n = p := ⟨_, rfl⟩
    obtain ⟨u, hu⟩ : ∃ u, i % n = u := ⟨_, rfl⟩
    rw [hp] at tq a1
    rw [hu] at r a2
    have q : wrap64 (Int.tdiv (i : Int) (n : Int)) = (p : Int) := by rw [tq]; exact w64 (by omega) (by omega)
    have fin : ∀ v, v = gv m n L A c mean i → Ev (fun k => spec_l13Guess.l2 k m (n : Int) L A c ((fl 0 (n * n) (gv m n L A c mean) i).set (i : Int).toNat v) mean ((n * n : Nat) : Int) (wrap64 ((i : Int) + 1))) ((List.range (n * n)).map (gv m n L A c mean), true) := by
      intro v hv
      rw [hv, Int.toNat_natCast, fl_set, w64s (by omega)]; exact ih
    have il : (i : Int) < ((fl 0 (n * n) (gv m n L A c mean) i).length : Int) := by rw [fl_len]; omega
    refine Ev.step (fun k => rfl) (evpos (by omega) (evneg n0 ?_))
    rcases hm with rfl | rfl | rfl | rfl
    · exact evpos rfl (evpos (by omega) (evpos il (fin _ (by simp [gv]))))
    · have := h1 (Or.inl rfl)
      exact evneg (by decide) (evpos rfl (evpos (by rw [q]; omega) (evpos (by rw [q]; omega) (evpos (by omega) (evpos il (fin _ (by rw [q, rd_nat]; simp [gv, hp])))))))
    · have := h2 (Or.inl rfl)
      exact evneg (by decide) (evneg (by decide) (evpos rfl (evpos (by rw [r]; omega) (evpos (by rw [r]; omega) (evpos (by omega) (evpos il (fin _ (by rw [r, rd_nat]; simp [gv, hu]))))))))
    · have := h1 (Or.inr rfl)
      have := h2 (Or.inr rfl)
      exact evneg (by decide) (evneg (by decide) (evneg (by decide) (evpos (by rw [q]; omega) (evpos (by rw [q]; omega) (evpos (by rw [r]; omega) (evpos (by rw [r]; omega) (evlet (clip_spec _) (evpos (by omega) (evpos il (fin _ (by rw [q, r, rd_nat, rd_nat]; simp [gv, hp, hu])))))))))))
theorem impl_loop (m : Int) (n : Nat) (L A : List Int) (c mean : Int) (hm : m = 0 ∨ m = 1 ∨ m = 2 ∨ m = 3) (hn : n = 4 ∨ n = 8) (h1 : m = 1 ∨ m = 3 → L.length = n) (h2 : m = 2 ∨ m = 3 → A.length = n) :
    Ev (fun k => impl_Guess.l2 k m L A c mean [] (n : Int) 0 (n : Int)) ((List.range (n * n)).map (gv m n L A c mean)) := by
  have app : ∀ j, (List.range j).map (gv m n L A c mean) ++ [gv m n L A c mean j] = (List.range (j + 1)).map (gv m n L A c mean) := by
    intro j; rw [List.range_succ, List.map_append]; rfl
  have out := down (n := n) (P := fun y => Ev (fun k => impl_Guess.l2 k m L A c mean ((List.range (y * n)).map (gv m n L A c mean)) (n : Int) (y : Int) (n : Int)) ((List.range (n * n)).map (gv m n L A c mean))) ?_ ?_
  · rw [Nat.zero_mul] at out; exact out
  · exact Ev.step (fun k => rfl) (evneg (by omega) (Ev.now _))
  · intro y hy ihy
    refine Ev.step (fun k => rfl) (evpos (by omega) ?_)
    have inn := down (n := n) (P := fun x => Ev (fun k => impl_Guess.l3 k m L A c mean ((List.range (y * n + x)).map (gv m n L A c mean)) (y : Int) (n : Int) (y : Int) (n : Int) (x : Int) (n : Int)) ((List.range (n * n)).map (gv m n L A c mean))) ?_ ?_
    · exact inn
    · refine Ev.step (fun k => rfl) (evneg (by omega) ?_)
      rw [w64s (by omega), ← Nat.succ_mul]; exact ihy
    · intro x hx ihx
      obtain ⟨a1, a2, a3⟩ := ar2 hn hy hx
      have ln : ((List.range (y * n + x)).map (gv m n L A c mean)).length < 17592186044416 := by rw [List.length_map, List.length_range]; omega
      have fin : ∀ v, v = gv m n L A c mean (y * n + x) → Ev (fun k => impl_Guess.l3 k m L A c mean ((List.range (y * n + x)).map (gv m n L A c mean) ++ [v]) (y : Int) (n : Int) (y : Int) (n : Int) (wrap64 ((x : Int) + 1)) (n : Int)) ((List.range (n * n)).map (gv m n L A c mean)) := by
        intro v hv
        rw [hv, app, w64s (by omega)]; exact ihx
      refine Ev.step (fun k => rfl) (evpos (by omega) ?_)
      rcases hm with rfl | rfl | rfl | rfl
      · exact evpos rfl (evpos ln (fin _ (by simp [gv])))
      · have := h1 (Or.inl rfl)
        exact evneg (by decide) (evpos rfl (evpos (by omega) (evpos (by omega) (evpos ln (fin _ (by simp [gv, rd, a2]))))))
      · have := h2 (Or.inl rfl)
        exact evneg (by decide) (evneg (by decide) (evpos rfl (evpos (by omega) (evpos (by omega) (evpos ln (fin _ (by simp [gv, rd, a3])))))))
      · have := h1 (Or.inr rfl)
        have := h2 (Or.inr rfl)
        exact evneg (by decide) (evneg (by decide) (evneg (by decide) (evpos rfl (evpos (by omega) (evpos (by omega) (evpos (by omega) (evpos (by omega) (evlet (clip_impl _) (evpos ln (fin _ (by simp [gv, rd, a2, a3])))))))))))
theorem tail_both (m : Int) (n : Nat) (L A : List Int) (c nn : Int) (hA : A.length ≤ 1048576) (hnn : 0 ≤ nn) (hm : m = 0 ∨ m = 1 ∨ m = 2 ∨ m = 3) (hn : n = 4 ∨ n = 8) (h1 : m = 1 ∨ m = 3 → L.length = n) (h2 : m = 2 ∨ m = 3 → A.length = n) :
    ∀ s, ∃ r : List Int, Ev (fun k => spec_l13Guess.l1 k m (n : Int) L A c (List.replicate (n * n) 0) s nn A (A.length : Int) 0) (r, true) ∧ Ev (fun k => impl_Guess.l1 k m L A c s nn A (A.length : Int) 0 (n : Int)) r ∧ r.length ≤ 64 := by
  have n64 : n * n ≤ 64 := by rcases hn with rfl | rfl <;> decide
  refine down (n := A.length) (P := fun i => ∀ s, ∃ r : List Int, Ev (fun k => spec_l13Guess.l1 k m (n : Int) L A c (List.replicate (n * n) 0) s nn A (A.length : Int) (i : Int)) (r, true) ∧ Ev (fun k => impl_Guess.l1 k m L A c s nn A (A.length : Int) (i : Int) (n : Int)) r ∧ r.length ≤ 64) ?_ ?_
  · intro s
    have sp : ∀ mean, Ev (fun k => spec_l13Guess.j3 k m (n : Int) L A c (List.replicate (n * n) 0) mean) ((List.range (n * n)).map (gv m n L A c mean), true) := by
      intro mean
      refine Ev.step (fun k => rfl) ?_
      simp only [spec_l13Guess.j3]
      rw [List.length_replicate]; exact spec_loop m n L A c mean hm hn h1 h2
    have im : ∀ mean, Ev (fun k => impl_Guess.j4 k m L A c mean (n : Int)) ((List.range (n * n)).map (gv m n L A c mean)) := fun mean => Ev.step (fun k => rfl) (impl_loop m n L A c mean hm hn h1 h2)
    by_cases c0 : nn = 0
    · exact ⟨_, Ev.step (fun k => rfl) (evneg (by omega) (evneg (by omega) (sp 128))), Ev.step (fun k => rfl) (evneg (by omega) (evpos c0 (im 128))), by simpa using n64⟩
    · exact ⟨_, Ev.step (fun k => rfl) (evneg (by omega) (evpos (by omega) (evneg c0 (sp _)))), Ev.step (fun k => rfl) (evneg (by omega) (evneg c0 (im _))), by simpa using n64⟩
  · intro i hi ih s
    obtain ⟨r, g1, g2, g3⟩ := ih (wrap64 (s + rd A (i : Int)))
    refine ⟨r, Ev.step (fun k => rfl) (evpos (by omega) (evpos (by omega) (evpos (by omega) ?_))), Ev.step (fun k => rfl) (evpos (by omega) (evpos (by omega) (evpos (by omega) ?_))), g3⟩
    · rw [w64s (by omega)]; exact g1
    · rw [w64s (by omega)]; exact g2
theorem sums_both (m : Int) (n : Nat) (L A : List Int) (c nn : Int) (hL : L.length ≤ 1048576) (hA : A.length ≤ 1048576) (hnn : 0 ≤ nn) (hm : m = 0 ∨ m = 1 ∨ m = 2 ∨ m = 3) (hn : n = 4 ∨ n = 8) (h1 : m = 1 ∨ m = 3 → L.length = n) (h2 : m = 2 ∨ m = 3 → A.length = n) :
    ∀ s, ∃ r : List Int, Ev (fun k => spec_l13Guess.l0 k m (n : Int) L A c (List.replicate (n * n) 0) s nn L (L.length : Int) 0) (r, true) ∧ Ev (fun k => impl_Guess.l0 k m L A c s nn L (L.length : Int) 0 (n : Int)) r ∧ r.length ≤ 64 := by
  refine down (n := L.length) (P := fun i => ∀ s, ∃ r : List Int, Ev (fun k => spec_l13Guess.l0 k m (n : Int) L A c (List.replicate (n * n) 0) s nn L (L.length : Int) (i : Int)) (r, true) ∧ Ev (fun k => impl_Guess.l0 k m L A c s nn L (L.length : Int) (i : Int) (n : Int)) r ∧ r.length ≤ 64) ?_ ?_
  · intro s
    obtain ⟨r, g1, g2, g3⟩ := tail_both m n L A c nn hA hnn hm hn h1 h2 s
    exact ⟨r, Ev.step (fun k => rfl) (evneg (by omega) g1), Ev.step (fun k => rfl) (evneg (by omega) g2), g3⟩
  · intro i hi ih s
    obtain ⟨r, g1, g2, g3⟩ := ih (wrap64 (s + rd L (i : Int)))
    refine ⟨r, Ev.step (fun k => rfl) (evpos (by omega) (evpos (by omega) (evpos (by omega) ?_))), Ev.step (fun k => rfl) (evpos (by omega) (evpos (by omega) (evpos (by omega) ?_))), g3⟩
    · rw [w64s (by omega)]; exact g1
    · rw [w64s (by omega)]; exact g2
theorem part_both (m : Int) (n : Nat) (L A : List Int) (c : Int) (hm : m = 0 ∨ m = 1 ∨ m = 2 ∨ m = 3) (hn : n = 4 ∨ n = 8) (hL : L.length = 0 ∨ L.length = n) (hA : A.length = 0 ∨ A.length = n) :
    ∃ (r : List Int) (b : Bool), Ev (fun k => spec_l13Guess.f k m (n : Int) L A c) (r, b) ∧ Ev (fun k => impl_Guess.j0 k m L A c false (n : Int)) r ∧ r.length ≤ 64 ∧ (b = false → r = []) := by
  have n64 : n * n ≤ 64 := by rcases hn with rfl | rfl <;> decide
  have l8 : L.length ≤ 8 := by omega
  have a8 : A.length ≤ 8 := by omega
  have e : wrap64 ((n : Int) * (n : Int)) = ((n * n : Nat) : Int) := by rw [← Int.natCast_mul]; exact w64 (by omega) (by omega)
  have sp : ∀ r, Ev (fun k => if m = 0 then (if m > 1 then (spec_l13Guess.j0 k m (n : Int) L A c (List.replicate (n * n) 0) ((A.length : Int) == 0)) else (spec_l13Guess.j0 k m (n : Int) L A c (List.replicate (n * n) 0) false)) else (if m = 2 then (if m > 1 then (spec_l13Guess.j0 k m (n : Int) L A c (List.replicate (n * n) 0) ((A.length : Int) == 0)) else (spec_l13Guess.j0 k m (n : Int) L A c (List.replicate (n * n) 0) false)) else (if (L.length : Int) = 0 then (spec_l13Guess.j0 k m (n : Int) L A c (List.replicate (n * n) 0) true) else (if m > 1 then (spec_l13Guess.j0 k m (n : Int) L A c (List.replicate (n * n) 0) ((A.length : Int) == 0)) else (spec_l13Guess.j0 k m (n : Int) L A c (List.replicate (n * n) 0) false))))) r → Ev (fun k => spec_l13Guess.f k m (n : Int) L A c) r := by
    intro r hr
    refine evpos (by rw [e]; omega) (evpos (by rw [e, Int.toNat_natCast]; omega) (evlet rfl ?_))
    rw [e, Int.toNat_natCast]; exact hr
  have st : Ev (fun k => spec_l13Guess.j0 k m (n : Int) L A c (List.replicate (n * n) 0) true) ([], false) := Ev.step (fun k => rfl) (Ev.now _)
  have it : Ev (fun k => impl_Guess.j1 k m L A c true (n : Int)) [] := Ev.step (fun k => rfl) (Ev.now _)
  have ij : ∀ r, Ev (fun k => if m = 1 then (if (L.length : Int) = 0 then (impl_Guess.j1 k m L A c true (n : Int)) else (if m = 2 then (impl_Guess.j1 k m L A c ((A.length : Int) == 0) (n : Int)) else (if m = 3 then (impl_Guess.j1 k m L A c ((A.length : Int) == 0) (n : Int)) else (impl_Guess.j1 k m L A c false (n : Int))))) else (if m = 3 then (if (L.length : Int) = 0 then (impl_Guess.j1 k m L A c true (n : Int)) else (if m = 2 then (impl_Guess.j1 k m L A c ((A.length : Int) == 0) (n : Int)) else (impl_Guess.j1 k m L A c ((A.length : Int) == 0) (n : Int)))) else (if m = 2 then (impl_Guess.j1 k m L A c ((A.length : Int) == 0) (n : Int)) else (impl_Guess.j1 k m L A c false (n : Int))))) r → Ev (fun k => impl_Guess.j0 k m L A c false (n : Int)) r :=
    fun r hr => Ev.step (fun k => rfl) hr
  have go : (m = 1 ∨ m = 3 → L.length = n) → (m = 2 ∨ m = 3 → A.length = n) → ∃ r : List Int, Ev (fun k => spec_l13Guess.j0 k m (n : Int) L A c (List.replicate (n * n) 0) false) (r, true) ∧ Ev (fun k => impl_Guess.j1 k m L A c false (n : Int)) r ∧ r.length ≤ 64 := by
    intro h1 h2
    obtain ⟨r, g1, g2, g3⟩ := sums_both m n L A c (wrap64 ((L.length : Int) + (A.length : Int))) (by omega) (by omega) (by rw [w64 (by omega) (by omega)]; omega) hm hn h1 h2 0
    exact ⟨r, Ev.step (fun k => rfl) g1, Ev.step (fun k => rfl) g2, g3⟩
  by_cases cl : m = 1 ∨ m = 3
  · by_cases l0 : L.length = 0
    · refine ⟨[], false, sp _ ?_, ij _ ?_, by simp, fun _ => rfl⟩
      · rcases cl with rfl | rfl
        · exact evneg (by decide) (evneg (by decide) (evpos (by omega) st))
        · exact evneg (by decide) (evneg (by decide) (evpos (by omega) st))
      · rcases cl with rfl | rfl
        · exact evpos rfl (evpos (by omega) it)
        · exact evneg (by decide) (evpos rfl (evpos (by omega) it))
    · rcases cl with rfl | rfl
      · obtain ⟨r, g1, g2, g3⟩ := go (fun _ => hL.resolve_left l0) (fun h => absurd h (by decide))
        exact ⟨r, true, sp _ (evneg (by decide) (evneg (by decide) (evneg (by omega) (evneg (by decide) g1)))), ij _ (evpos rfl (evneg (by omega) (evneg (by decide) (evneg (by decide) g2)))), g3, fun h => by cases h⟩
      · by_cases a0 : A.length = 0
        · have ea : ((A.length : Int) == 0) = true := by rw [beq_iff_eq]; omega
          rw [ea] at sp ij
          exact ⟨[], false, sp _ (evneg (by decide) (evneg (by decide) (evneg (by omega) (evpos (by decide) st)))), ij _ (evneg (by decide) (evpos rfl (evneg (by omega) (evneg (by decide) it)))), by simp, fun _ => rfl⟩
        · have ea : ((A.length : Int) == 0) = false := by rw [beq_eq_false_iff_ne]; omega
          rw [ea] at sp ij
          obtain ⟨r, g1, g2, g3⟩ := go (fun _ => hL.resolve_left l0) (fun _ => hA.resolve_left a0)
          exact ⟨r, true, sp _ (evneg (by decide) (evneg (by decide) (evneg (by omega) (evpos (by decide) g1)))), ij _ (evneg (by decide) (evpos rfl (evneg (by omega) (evneg (by decide) g2)))), g3, fun h => by cases h⟩
  · have cm : m = 0 ∨ m = 2 := by
      rcases hm with h | h | h | h
      · exact Or.inl h
      · exact absurd (Or.inl h) cl
      · exact Or.inr h
      · exact absurd (Or.inr h) cl
    rcases cm with rfl | rfl
    · obtain ⟨r, g1, g2, g3⟩ := go (fun h => absurd h (by decide)) (fun h => absurd h (by decide))
      exact ⟨r, true, sp _ (evpos rfl (evneg (by decide) g1)), ij _ (evneg (by decide) (evneg (by decide) (evneg (by decide) g2))), g3, fun h => by cases h⟩
    · by_cases a0 : A.length = 0
      · have ea : ((A.length : Int) == 0) = true := by rw [beq_iff_eq]; omega
        rw [ea] at sp ij
        exact ⟨[], false, sp _ (evneg (by decide) (evpos rfl (evpos (by decide) st))), ij _ (evneg (by decide) (evneg (by decide) (evpos rfl it))), by simp, fun _ => rfl⟩
      · have ea : ((A.length : Int) == 0) = false := by rw [beq_eq_false_iff_ne]; omega
        rw [ea] at sp ij
        obtain ⟨r, g1, g2, g3⟩ := go (fun h => absurd h (by decide)) (fun _ => hA.resolve_left a0)
        exact ⟨r, true, sp _ (evneg (by decide) (evpos rfl (evpos (by decide) g1))), ij _ (evneg (by decide) (evneg (by decide) (evpos rfl g2))), g3, fun h => by cases h⟩
theorem guess_both (a b : Int) (L A : List Int) (c : Int) (hL : L.length ≤ 1048576) (hA : A.length ≤ 1048576) :
    ∃ r : List Int, Ev (fun k => spec_Guess.f k a b L A c) r ∧ Ev (fun k => impl_Guess.f k a b L A c) r ∧ r.length ≤ 64 := by
  have sr : Ev (fun k => spec_Guess.j0 k a b L A c true) [] := Ev.step (fun k => rfl) (Ev.now _)
  have sr1 : Ev (fun k => spec_Guess.j1 k a b L A c true) [] := Ev.step (fun k => rfl) (Ev.now _)
  have ir : Ev (fun k => impl_Guess.j0 k a L A c true b) [] := Ev.step (fun k => rfl) (Ev.now _)
  by_cases cb : b = 4 ∨ b = 8
  case neg =>
    refine ⟨[], ?_, evneg (by omega) (evneg (by omega) ir), by simp⟩
    by_cases c1 : a < 0
    · exact evpos c1 sr
    by_cases c2 : a > 3
    · exact evneg c1 (evpos c2 sr)
    exact evneg c1 (evneg c2 (evneg (by omega) (evneg (by omega) sr)))
  obtain ⟨n, rfl, hn⟩ : ∃ n : Nat, b = (n : Int) ∧ (n = 4 ∨ n = 8) := by
    rcases cb with rfl | rfl
    · exact ⟨4, rfl, Or.inl rfl⟩
    · exact ⟨8, rfl, Or.inr rfl⟩
  have im : ∀ r, Ev (fun k => if a < 0 then impl_Guess.j0 k a L A c true (n : Int) else if a > 3 then impl_Guess.j0 k a L A c true (n : Int) else (impl_Guess_1.f k L (n : Int)).bind fun t => if t = true then ((impl_Guess_1.f k A (n : Int)).bind fun t2 => if t2 = true then (if c < 0 then impl_Guess.j0 k a L A c true (n : Int) else impl_Guess.j0 k a L A c (decide (c > 255)) (n : Int)) else impl_Guess.j0 k a L A c true (n : Int)) else impl_Guess.j0 k a L A c true (n : Int)) r → Ev (fun k => impl_Guess.f k a (n : Int) L A c) r := by
    intro r hr
    rcases hn with rfl | rfl
    · exact evpos rfl hr
    · exact evneg (by decide) (evpos rfl hr)
  have sp : ∀ r, Ev (fun k => if a < 0 then spec_Guess.j0 k a (n : Int) L A c true else if a > 3 then spec_Guess.j0 k a (n : Int) L A c true else if c < 0 then spec_Guess.j0 k a (n : Int) L A c true else spec_Guess.j0 k a (n : Int) L A c (decide (c > 255))) r → Ev (fun k => spec_Guess.f k a (n : Int) L A c) r := by
    intro r hr
    by_cases c1 : a < 0
    · refine evpos c1 ?_
      exact Ev.congr (fun _ => by rw [if_pos c1]) hr
    by_cases c2 : a > 3
    · refine evneg c1 (evpos c2 ?_)
      exact Ev.congr (fun _ => by rw [if_neg c1, if_pos c2]) hr
    have hr : Ev (fun k => if c < 0 then spec_Guess.j0 k a (n : Int) L A c true else spec_Guess.j0 k a (n : Int) L A c (decide (c > 255))) r := Ev.congr (fun _ => by rw [if_neg c1, if_neg c2]) hr
    rcases hn with rfl | rfl
    · exact evneg c1 (evneg c2 (evpos rfl hr))
    · exact evneg c1 (evneg c2 (evneg (by decide) (evpos rfl hr)))
  by_cases c1 : a < 0
  · exact ⟨[], sp _ (evpos c1 sr), im _ (evpos c1 ir), by simp⟩
  by_cases c2 : a > 3
  · exact ⟨[], sp _ (evneg c1 (evpos c2 sr)), im _ (evneg c1 (evpos c2 ir)), by simp⟩
  obtain ⟨p, p1, p2, p3, p4⟩ := side_both L n hn hL
  obtain ⟨q, q1, q2, q3, q4⟩ := side_both A n hn hA
  by_cases c3 : c < 0
  · refine ⟨[], sp _ (evneg c1 (evneg c2 (evpos c3 sr))), im _ (evneg c1 (evneg c2 (Ev.bind p1 ?_))), by simp⟩
    cases p with
    | false => exact evneg (by decide) ir
    | true =>
      refine evpos rfl (Ev.bind q1 ?_)
      cases q with
      | false => exact evneg (by decide) ir
      | true => exact evpos rfl (evpos c3 ir)
  by_cases c4 : c > 255
  · rw [decide_eq_true c4] at sp im
    refine ⟨[], sp _ (evneg c1 (evneg c2 (evneg c3 sr))), im _ (evneg c1 (evneg c2 (Ev.bind p1 ?_))), by simp⟩
    cases p with
    | false => exact evneg (by decide) ir
    | true =>
      refine evpos rfl (Ev.bind q1 ?_)
      cases q with
      | false => exact evneg (by decide) ir
      | true => exact evpos rfl (evneg c3 ir)
  rw [decide_eq_false c4] at sp im
  have sf : ∀ r, Ev (fun k => if (L.length : Int) > 0 then ((spec_l13In.f k L (n : Int)).bind fun t => (if t = true then (if (A.length : Int) > 0 then ((spec_l13In.f k A (n : Int)).bind fun t2 => (spec_Guess.j1 k a (n : Int) L A c (!t2))) else (spec_Guess.j1 k a (n : Int) L A c false)) else (spec_Guess.j1 k a (n : Int) L A c true))) else (if (A.length : Int) > 0 then ((spec_l13In.f k A (n : Int)).bind fun t2 => (spec_Guess.j1 k a (n : Int) L A c (!t2))) else (spec_Guess.j1 k a (n : Int) L A c false))) r → Ev (fun k => spec_Guess.f k a (n : Int) L A c) r :=
    fun r hr => sp _ (evneg c1 (evneg c2 (evneg c3 (Ev.step (fun k => rfl) hr))))
  cases p with
  | false =>
    have hl : ¬ L.length = 0 := fun h => by have := p4 h; cases this
    exact ⟨[], sf _ (evpos (by omega) (Ev.bind (p2 (by omega)) (evneg (by decide) sr1))), im _ (evneg c1 (evneg c2 (Ev.bind p1 (evneg (by decide) ir)))), by simp⟩
  | true =>
    have sf2 : ∀ r, Ev (fun k => if (A.length : Int) > 0 then ((spec_l13In.f k A (n : Int)).bind fun t2 => (spec_Guess.j1 k a (n : Int) L A c (!t2))) else (spec_Guess.j1 k a (n : Int) L A c false)) r → Ev (fun k => spec_Guess.f k a (n : Int) L A c) r := by
      intro r hr
      by_cases l0 : (L.length : Int) > 0
      · exact sf _ (evpos l0 (Ev.bind (p2 (by omega)) (evpos rfl hr)))
      · exact sf _ (evneg l0 hr)
    cases q with
    | false =>
      have ha : ¬ A.length = 0 := fun h => by have := q4 h; cases this
      exact ⟨[], sf2 _ (evpos (by omega) (Ev.bind (q2 (by omega)) sr1)), im _ (evneg c1 (evneg c2 (Ev.bind p1 (evpos rfl (Ev.bind q1 (evneg (by decide) ir)))))), by simp⟩
    | true =>
      obtain ⟨r, t, g1, g2, g3, g4⟩ := part_both a n L A c (by omega) hn (p3 rfl) (q3 rfl)
      have s1 : Ev (fun k => spec_Guess.j1 k a (n : Int) L A c false) r := by
        refine Ev.step (fun k => rfl) (Ev.bind g1 ?_)
        cases t with
        | true => exact evpos rfl (Ev.now _)
        | false => rw [g4 rfl]; exact evneg (by decide) (Ev.now _)
      refine ⟨r, sf2 _ ?_, im _ (evneg c1 (evneg c2 (Ev.bind p1 (evpos rfl (Ev.bind q1 (evpos rfl (evneg c3 g2))))))), g3⟩
      by_cases a0 : (A.length : Int) > 0
      · exact evpos a0 (Ev.bind (q2 (by omega)) s1)
      · exact evneg a0 s1
theorem FnExactGuess : laws_FnExactGuess.Pure := by
  intro a b L A c _ _ _ _ _ _ _ _ _
  refine Ev.rounds ?_
  by_cases c1 : (L.length : Int) > 1048576
  · exact evpos c1 (Ev.now _)
  by_cases c2 : (A.length : Int) > 1048576
  · exact evneg c1 (evpos c2 (Ev.now _))
  have tl := toIntS L (by omega)
  have ta := toIntS A (by omega)
  have el := eqIntS L (by omega)
  have ea := eqIntS A (by omega)
  obtain ⟨r, h1, h2, h3⟩ := guess_both a b L A c (by omega) (by omega)
  have er := eqIntS r (by omega)
  obtain ⟨m, hm, _⟩ := mhIntS L 1 (by omega) (by omega)
  obtain ⟨m2, hm2, _⟩ := mhIntS A (1 + (L.length : Int)) (by omega) (by omega)
  obtain ⟨g, hg1, hg2, _⟩ := mhIntS r 1 (by omega) (by omega)
  refine evneg c1 (evneg c2 (Ev.bind tl (Ev.bind ta (Ev.bind h1 (Ev.bind tl (Ev.bind ta (Ev.bind h2 (Ev.bind er (evpos rfl (Ev.bind tl (Ev.bind el (evpos rfl (Ev.bind ta (Ev.bind ea (evpos rfl (Ev.bind hm (Ev.bind hm2 (evneg (by simp only; omega) (Ev.bind er ?_)))))))))))))))))))
  exact Ev.step (fun k => rfl) (Ev.bind hg1 (Ev.bind hg2 (evneg (by omega) (evpos rfl (Ev.bind tl (Ev.bind ta (Ev.bind h2 (Ev.bind er (evpos rfl (Ev.bind hg2 (evneg (by omega) (evpos rfl (Ev.now _))))))))))))) 
end Go.Proofs.Ytmnihpedokeggaa.Pure

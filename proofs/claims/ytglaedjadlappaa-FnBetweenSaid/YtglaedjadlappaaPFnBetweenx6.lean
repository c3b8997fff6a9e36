-- written by myprint.py (a program of this session's over the kit's print)
import Derived.Test.YtglaedjadlappaaPFnBetweenx0
import Derived.Test.YtglaedjadlappaaPFnBetweenx1
import Derived.Test.YtglaedjadlappaaPFnBetweenx2
import Derived.Test.YtglaedjadlappaaPFnBetweenx4
import Derived.Test.YtglaedjadlappaaPFnBetweenx5
namespace Go.Proofs.Ytglaedjadlappaa.PFnBetween
open Go.RowKit Go.Proofs.YtglaedjadlappaaW.PrintWords Go.Proofs.YtglaedjadlappaaW.PrintLast Go.Proofs.YtglaedjadlappaaW.PrintMore
attribute [local go_sem] max2_int min2_int max_two min_two max_three min_three max_four min_four   -- for this text's walks alone
set_option linter.unusedVariables false
set_option linter.unusedSimpArgs false

/-! ### laws_FnBetween: function 5 -/
mutual
def laws_FnBetween.j0 : Nat → Int → List Int → List Int → Bool → Int → Int → Int → Int → Int → Int → Int → List Int → Option (Bool)
  | 0, _, _, _, _, _, _, _, _, _, _, _, _ => none
  | k + 1, x3, x5, x6, x45, x212000, x212001, x212002, x212003, x212004, x212005, x212006, x212007 => if x45 = true then (some false) else (if x212002 = 0 then (some true) else ((some (([] : List Int) : List Int)).bind fun y224 => (if y224.length + x5.length < 17592186044416 then (laws_FnBetween.l0 k x3 x6 (y224 ++ x5) (x212007.length : Int) 0 x212000 x212001 x212002 x212003 x212004 x212005 x212006 x212007) else (none))))
def laws_FnBetween.l0 : Nat → Int → List Int → List Int → Int → Int → Int → Int → Int → Int → Int → Int → Int → List Int → Option (Bool)
  | 0, _, _, _, _, _, _, _, _, _, _, _, _, _ => none
  | k + 1, x3, x6, x9, x54, x55, x212000, x212001, x212002, x212003, x212004, x212005, x212006, x212007 => if x55 < x54 then (if 0 ≤ x55 then (if x55 < (x212007.length : Int) then (if (rd x212007 x55) = x212006 then (laws_FnBetween.l0 k x3 x6 x9 x54 (wrap64 (x55 + 1)) x212000 x212001 x212002 x212003 x212004 x212005 x212006 x212007) else (if x212002 = 0 then (none) else (if 0 ≤ (wrap64 ((wrap64 ((wrap64 ((wrap64 (x212001 + (wrap64 (Int.tdiv x55 x212002)))) * x3)) + x212000)) + (Int.tmod x55 x212002))) then (if (wrap64 ((wrap64 ((wrap64 ((wrap64 (x212001 + (wrap64 (Int.tdiv x55 x212002)))) * x3)) + x212000)) + (Int.tmod x55 x212002))) < (x9.length : Int) then (laws_FnBetween.l0 k x3 x6 (x9.set ((wrap64 ((wrap64 ((wrap64 ((wrap64 (x212001 + (wrap64 (Int.tdiv x55 x212002)))) * x3)) + x212000)) + (Int.tmod x55 x212002))) : Int).toNat (rd x212007 x55)) x54 (wrap64 (x55 + 1)) x212000 x212001 x212002 x212003 x212004 x212005 x212006 x212007) else (none)) else (none)))) else (none)) else (none)) else (laws_FnBetween.l1 k x6 x9 (x9.length : Int) 0)
def laws_FnBetween.l1 : Nat → List Int → List Int → Int → Int → Option (Bool)
  | 0, _, _, _, _ => none
  | k + 1, x6, x9, x86, x87 => if x87 < x86 then (if 0 ≤ x87 then (if x87 < (x9.length : Int) then (if x87 < (x6.length : Int) then (if (rd x9 x87) = (rd x6 x87) then (laws_FnBetween.l1 k x6 x9 x86 (wrap64 (x87 + 1))) else (if (rd x6 x87) ≥ 0 then (some false) else (laws_FnBetween.l1 k x6 x9 x86 (wrap64 (x87 + 1))))) else (none)) else (none)) else (none)) else (some true)
end
def laws_FnBetween.f (k : Nat) (l0 : List Int) : Option (Bool) := if (l0.length : Int) > 1048576 then (some true) else ((spec_DrawBetween.f k l0).bind fun bt193 => ((impl_Between.f k bt193.1 bt193.2.1 bt193.2.2.1 bt193.2.2.2).bind fun bt201 => ((spec_Between.f k bt193.1 bt193.2.1 bt193.2.2.1 bt193.2.2.2).bind fun bt212 => (if bt201.2.2.1 = bt212.2.2.1 then ((laws_wInts.f k bt201.2.2.2.2.2.2.2 bt212.2.2.2.2.2.2.2).bind fun t223 => (laws_FnBetween.j0 k bt193.1 bt193.2.2.1 bt193.2.2.2 (!t223) bt201.1 bt201.2.1 bt201.2.2.1 bt201.2.2.2.1 bt201.2.2.2.2.1 bt201.2.2.2.2.2.1 bt201.2.2.2.2.2.2.1 bt201.2.2.2.2.2.2.2)) else (laws_FnBetween.j0 k bt193.1 bt193.2.2.1 bt193.2.2.2 true bt201.1 bt201.2.1 bt201.2.2.1 bt201.2.2.2.1 bt201.2.2.2.2.1 bt201.2.2.2.2.2.1 bt201.2.2.2.2.2.2.1 bt201.2.2.2.2.2.2.2)))))
theorem laws_FnBetween.mono_l : ∀ k, (∀ y0 y1 y2 y3 y4 y5 y6 y7 y8 y9 y10 y11, LeO (laws_FnBetween.j0 k y0 y1 y2 y3 y4 y5 y6 y7 y8 y9 y10 y11) (laws_FnBetween.j0 (k + 1) y0 y1 y2 y3 y4 y5 y6 y7 y8 y9 y10 y11)) ∧ (∀ y0 y1 y2 y3 y4 y5 y6 y7 y8 y9 y10 y11 y12, LeO (laws_FnBetween.l0 k y0 y1 y2 y3 y4 y5 y6 y7 y8 y9 y10 y11 y12) (laws_FnBetween.l0 (k + 1) y0 y1 y2 y3 y4 y5 y6 y7 y8 y9 y10 y11 y12)) ∧ (∀ y0 y1 y2 y3, LeO (laws_FnBetween.l1 k y0 y1 y2 y3) (laws_FnBetween.l1 (k + 1) y0 y1 y2 y3))
  | 0 => ⟨fun _ _ _ _ _ _ _ _ _ _ _ _ r h => by simp [laws_FnBetween.j0] at h, fun _ _ _ _ _ _ _ _ _ _ _ _ _ r h => by simp [laws_FnBetween.l0] at h, fun _ _ _ _ r h => by simp [laws_FnBetween.l1] at h⟩
  | k + 1 => by
    obtain ⟨ih0, ih1, ih2⟩ := laws_FnBetween.mono_l k
    refine ⟨?_, ?_, ?_⟩
    · intro y0 y1 y2 y3 y4 y5 y6 y7 y8 y9 y10 y11
      unfold laws_FnBetween.j0
      repeat' first
      | (with_reducible exact ih0 _ _ _ _ _ _ _ _ _ _ _ _)
      | (with_reducible exact ih1 _ _ _ _ _ _ _ _ _ _ _ _ _)
      | (with_reducible exact ih2 _ _ _ _)
      | (with_reducible exact impl_Between.mono _ _ _ _ _)
      | (with_reducible exact laws_wInts.mono _ _ _)
      | (with_reducible exact spec_Between.mono _ _ _ _ _)
      | (with_reducible exact spec_DrawBetween.mono _ _)
      | (with_reducible exact LeO.refl _)
      | (with_reducible exact LeO.none _)
      | (with_reducible refine LeO.ite ?_ ?_)
      | (with_reducible refine LeO.bind ?_ (fun _ => ?_))
      | exact ih0 _ _ _ _ _ _ _ _ _ _ _ _
      | exact ih1 _ _ _ _ _ _ _ _ _ _ _ _ _
      | exact ih2 _ _ _ _
      | exact impl_Between.mono _ _ _ _ _
      | exact laws_wInts.mono _ _ _
      | exact spec_Between.mono _ _ _ _ _
      | exact spec_DrawBetween.mono _ _
      | exact LeO.none _
      | refine LeO.ite ?_ ?_
      | refine LeO.bind ?_ (fun _ => ?_)
    · intro y0 y1 y2 y3 y4 y5 y6 y7 y8 y9 y10 y11 y12
      unfold laws_FnBetween.l0
      repeat' first
      | (with_reducible exact ih0 _ _ _ _ _ _ _ _ _ _ _ _)
      | (with_reducible exact ih1 _ _ _ _ _ _ _ _ _ _ _ _ _)
      | (with_reducible exact ih2 _ _ _ _)
      | (with_reducible exact impl_Between.mono _ _ _ _ _)
      | (with_reducible exact laws_wInts.mono _ _ _)
      | (with_reducible exact spec_Between.mono _ _ _ _ _)
      | (with_reducible exact spec_DrawBetween.mono _ _)
      | (with_reducible exact LeO.refl _)
      | (with_reducible exact LeO.none _)
      | (with_reducible refine LeO.ite ?_ ?_)
      | (with_reducible refine LeO.bind ?_ (fun _ => ?_))
      | exact ih0 _ _ _ _ _ _ _ _ _ _ _ _
      | exact ih1 _ _ _ _ _ _ _ _ _ _ _ _ _
      | exact ih2 _ _ _ _
      | exact impl_Between.mono _ _ _ _ _
      | exact laws_wInts.mono _ _ _
      | exact spec_Between.mono _ _ _ _ _
      | exact spec_DrawBetween.mono _ _
      | exact LeO.none _
      | refine LeO.ite ?_ ?_
      | refine LeO.bind ?_ (fun _ => ?_)
    · intro y0 y1 y2 y3
      unfold laws_FnBetween.l1
      repeat' first
      | (with_reducible exact ih0 _ _ _ _ _ _ _ _ _ _ _ _)
      | (with_reducible exact ih1 _ _ _ _ _ _ _ _ _ _ _ _ _)
      | (with_reducible exact ih2 _ _ _ _)
      | (with_reducible exact impl_Between.mono _ _ _ _ _)
      | (with_reducible exact laws_wInts.mono _ _ _)
      | (with_reducible exact spec_Between.mono _ _ _ _ _)
      | (with_reducible exact spec_DrawBetween.mono _ _)
      | (with_reducible exact LeO.refl _)
      | (with_reducible exact LeO.none _)
      | (with_reducible refine LeO.ite ?_ ?_)
      | (with_reducible refine LeO.bind ?_ (fun _ => ?_))
      | exact ih0 _ _ _ _ _ _ _ _ _ _ _ _
      | exact ih1 _ _ _ _ _ _ _ _ _ _ _ _ _
      | exact ih2 _ _ _ _
      | exact impl_Between.mono _ _ _ _ _
      | exact laws_wInts.mono _ _ _
      | exact spec_Between.mono _ _ _ _ _
      | exact spec_DrawBetween.mono _ _
      | exact LeO.none _
      | refine LeO.ite ?_ ?_
      | refine LeO.bind ?_ (fun _ => ?_)
theorem laws_FnBetween.mono : ∀ a0 k, LeO (laws_FnBetween.f k a0) (laws_FnBetween.f (k + 1) a0) := by
  intro a0 k
  obtain ⟨ih0, ih1, ih2⟩ := laws_FnBetween.mono_l k
  unfold laws_FnBetween.f
  repeat' first
      | (with_reducible exact ih0 _ _ _ _ _ _ _ _ _ _ _ _)
      | (with_reducible exact ih1 _ _ _ _ _ _ _ _ _ _ _ _ _)
      | (with_reducible exact ih2 _ _ _ _)
      | (with_reducible exact impl_Between.mono _ _ _ _ _)
      | (with_reducible exact laws_wInts.mono _ _ _)
      | (with_reducible exact spec_Between.mono _ _ _ _ _)
      | (with_reducible exact spec_DrawBetween.mono _ _)
      | (with_reducible exact LeO.refl _)
      | (with_reducible exact LeO.none _)
      | (with_reducible refine LeO.ite ?_ ?_)
      | (with_reducible refine LeO.bind ?_ (fun _ => ?_))
      | exact ih0 _ _ _ _ _ _ _ _ _ _ _ _
      | exact ih1 _ _ _ _ _ _ _ _ _ _ _ _ _
      | exact ih2 _ _ _ _
      | exact impl_Between.mono _ _ _ _ _
      | exact laws_wInts.mono _ _ _
      | exact spec_Between.mono _ _ _ _ _
      | exact spec_DrawBetween.mono _ _
      | exact LeO.none _
      | refine LeO.ite ?_ ?_
      | refine LeO.bind ?_ (fun _ => ?_)
def laws_FnBetween.T15 : Bool × List (List Nat × List Nat) := (true, [([], []), ([], []), ([1], [1]), ([], []), ([], []), ([4], [4]), ([3, 5], [3, 5]), ([2, 6], [2, 6]), ([], []), ([7, 8], [7, 8]), ([], []), ([10], [10]), ([9, 11], [9, 11]), ([], []), ([], []), ([14], [14]), ([13, 15], [13, 15]), ([12, 16], [12, 16]), ([], []), ([0, 17, 0, 1, 2, 3, 4, 5, 6, 7, 8, 9, 10, 11, 12, 13, 14, 15, 16, 17, 18], [0, 17]), ([19, 18, 0, 1, 2, 3, 4, 5, 6, 7, 8, 9, 10, 11, 12, 13, 14, 15, 16, 17, 18], [18, 19])])
def laws_FnBetween.B15 : List Nat := [0, 0, 2, 0, 0, 16, 56, 126, 0, 510, 0, 1024, 4094, 0, 0, 16384, 57344, 131070, 0, 524287, 1048575]
theorem laws_FnBetween.tab15 : rtab .any (opsOf Try.f5 15) = laws_FnBetween.T15 := by kernel_rfl
theorem laws_FnBetween.bits15 : waitsOk laws_FnBetween.T15.2 laws_FnBetween.B15 = true := by kernel_rfl
def laws_FnBetween.T20 : Bool × List (List Nat × List Nat) := (true, [([], []), ([], []), ([0, 1], [0, 1]), ([2], [2]), ([], []), ([], []), ([4, 5], [4, 5]), ([6], [6]), ([3, 7], [3, 7]), ([8], [8]), ([9], [9]), ([9], [9]), ([10, 11, 9], [9, 10, 11]), ([12, 9], [9, 12]), ([13, 9], [9, 13]), ([9, 14], [9, 14])])
def laws_FnBetween.B20 : List Nat := [0, 0, 3, 7, 0, 0, 48, 112, 255, 511, 1023, 1023, 4095, 8191, 16383, 32767]
theorem laws_FnBetween.tab20 : rtab .any (opsOf Try.f5 20) = laws_FnBetween.T20 := by kernel_rfl
theorem laws_FnBetween.bits20 : waitsOk laws_FnBetween.T20.2 laws_FnBetween.B20 = true := by kernel_rfl
set_option maxHeartbeats 8000000 in
set_option maxRecDepth 100000 in
theorem laws_FnBetween.calls (k : Nat) (A0 : Option Addr) (c0 : Nat) (l0 : List Int) (r : Bool) (w : World) (hr0 : Kd.C (Kd.int .u8) w A0 l0.length l0) (hc0 : l0.length ≤ c0) (h : laws_FnBetween.f k l0 = some r) :
    Calls Try.prog 5 #[.slice A0 l0.length c0] w fun e w' => e = .returned (.bool r) ∧ Below w.heap.size w w' := by
  have hu50 := Try.underlying50
  have HR0 := Aside0.mk hr0
  have HC0 := Aside0.mk hc0
  clear hr0 hc0
  have HB := Aside0.mk (Below.refl w.heap.size w)
  have H : (if (l0.length : Int) > 1048576 then (some true) else ((spec_DrawBetween.f k l0).bind fun bt193 => ((impl_Between.f k bt193.1 bt193.2.1 bt193.2.2.1 bt193.2.2.2).bind fun bt201 => ((spec_Between.f k bt193.1 bt193.2.1 bt193.2.2.1 bt193.2.2.2).bind fun bt212 => (if bt201.2.2.1 = bt212.2.2.1 then ((laws_wInts.f k bt201.2.2.2.2.2.2.2 bt212.2.2.2.2.2.2.2).bind fun t223 => (laws_FnBetween.j0 k bt193.1 bt193.2.2.1 bt193.2.2.2 (!t223) bt201.1 bt201.2.1 bt201.2.2.1 bt201.2.2.2.1 bt201.2.2.2.2.1 bt201.2.2.2.2.2.1 bt201.2.2.2.2.2.2.1 bt201.2.2.2.2.2.2.2)) else (laws_FnBetween.j0 k bt193.1 bt193.2.2.1 bt193.2.2.2 true bt201.1 bt201.2.1 bt201.2.2.1 bt201.2.2.2.1 bt201.2.2.2.2.1 bt201.2.2.2.2.2.1 bt201.2.2.2.2.2.2.1 bt201.2.2.2.2.2.2.2)))))) = some r := h
  clear h
  by_cases c2 : (l0.length : Int) > 1048576
  · rw [if_pos c2] at H
    have c2b0 : decide (1048576 < (l0.length : Int)) = true := decide_eq_true c2
    have c2b1 : decide (1048576 < l0.length) = true := decide_eq_true (by omega)
    have c2b2 : 1048576 < l0.length := by omega
    clear c2
    obtain rfl := Option.some.inj H
    go_enter Try.func5, Try.ntmps5
    go_wp2
    go_ret
    exact ⟨by first | rfl | (simp [errW_none, errW_some] <;> rfl) | (simp [*, errW_none, errW_some] <;> rfl), by repeat (first | (with_reducible first | exact HB.out | apply below_alloc | apply pw_below_drewN | apply below_drew1) | exact HB.out)⟩
  rw [if_neg c2] at H
  have c2b0 : decide (1048576 < (l0.length : Int)) = false := decide_eq_false c2
  have c2b1 : decide (1048576 < l0.length) = false := decide_eq_false (by omega)
  have c2b2 : ¬ (1048576 < l0.length) := by omega
  clear c2
  replace H := Option.bind_eq_some_iff.mp H
  obtain ⟨⟨t193, t194, t195, t196⟩, A30, H⟩ := H
  replace H : ((impl_Between.f k t193 t194 t195 t196).bind fun bt201 => ((spec_Between.f k t193 t194 t195 t196).bind fun bt212 => (if bt201.2.2.1 = bt212.2.2.1 then ((laws_wInts.f k bt201.2.2.2.2.2.2.2 bt212.2.2.2.2.2.2.2).bind fun t223 => (laws_FnBetween.j0 k t193 t195 t196 (!t223) bt201.1 bt201.2.1 bt201.2.2.1 bt201.2.2.2.1 bt201.2.2.2.2.1 bt201.2.2.2.2.2.1 bt201.2.2.2.2.2.2.1 bt201.2.2.2.2.2.2.2)) else (laws_FnBetween.j0 k t193 t195 t196 true bt201.1 bt201.2.1 bt201.2.2.1 bt201.2.2.2.1 bt201.2.2.2.2.1 bt201.2.2.2.2.2.1 bt201.2.2.2.2.2.2.1 bt201.2.2.2.2.2.2.2)))) = some r := H
  have A3 := Aside0.mk A30
  clear A30
  replace H := Option.bind_eq_some_iff.mp H
  obtain ⟨⟨t201, t202, t203, t204, t205, t206, t207, t208⟩, A40, H⟩ := H
  replace H : ((spec_Between.f k t193 t194 t195 t196).bind fun bt212 => (if t203 = bt212.2.2.1 then ((laws_wInts.f k t208 bt212.2.2.2.2.2.2.2).bind fun t223 => (laws_FnBetween.j0 k t193 t195 t196 (!t223) t201 t202 t203 t204 t205 t206 t207 t208)) else (laws_FnBetween.j0 k t193 t195 t196 true t201 t202 t203 t204 t205 t206 t207 t208))) = some r := H
  have A4 := Aside0.mk A40
  clear A40
  replace H := Option.bind_eq_some_iff.mp H
  obtain ⟨⟨t212, t213, t214, t215, t216, t217, t218, t219⟩, A50, H⟩ := H
  replace H : (if t203 = t214 then ((laws_wInts.f k t208 t219).bind fun t223 => (laws_FnBetween.j0 k t193 t195 t196 (!t223) t201 t202 t203 t204 t205 t206 t207 t208)) else (laws_FnBetween.j0 k t193 t195 t196 true t201 t202 t203 t204 t205 t206 t207 t208)) = some r := H
  have A5 := Aside0.mk A50
  clear A50
  have HC6 := Aside0.mk H
  clear H
  go_enter Try.func5, Try.ntmps5
  go_upto_region 6 with (first | ((with_reducible refine gate_callee (f := 30) rfl ?_); refine goesL_ (some 18) rfl rfl Try.func30 (by kernel_rfl) rfl #[.slice A0 l0.length c0] rfl (by (try simp only [List.map_toArray, List.map_cons, List.map_nil]); first | done | rfl | (simp only [List.length_drop, List.length_take]; rfl)) ?_; (with_reducible refine (spec_DrawBetween.calls k _ _ l0 t193 t194 t195 t196 _ ?side1 ?side2 A3.out).mono ?_); (case side1 => repeat (first | exact HR0.out | (with_reducible refine Kd.C_alloc ?_ _) | (with_reducible refine Kd.C_drewN ?_ _) | (with_reducible refine Kd.C_drew ?_))); (case side2 => exact HC0.out); rintro e w7 ⟨v197, v199, rfl, ho0, ho1, hb⟩; refine ⟨_, rfl, ?_⟩; have n0_ := Aside0.mk (Kd.R_lower ho0 (below_size (by repeat (first | (with_reducible first | exact HB.out | apply below_alloc | apply pw_below_drewN | apply below_drew1) | exact HB.out)))); have n1_ := Aside0.mk (Kd.R_lower ho1 (below_size (by repeat (first | (with_reducible first | exact HB.out | apply below_alloc | apply pw_below_drewN | apply below_drew1) | exact HB.out)))); have n2_ := Aside0.mk (below_step (by repeat (first | (with_reducible first | exact HB.out | apply below_alloc | apply pw_below_drewN | apply below_drew1) | exact HB.out)) hb); clear HB; have HO198 := n0_; have HO200 := n1_; have HB := n2_; clear n0_ n1_ n2_; (try clear hb); (try clear hb2); (try clear hk); (try clear hi); (try clear ho0); (try clear ho1); obtain ⟨Ao8, co8, eo8⟩ := Kd.R_slice HO198.out; subst eo8; obtain ⟨Ao9, co9, eo9⟩ := Kd.R_slice HO200.out; subst eo9) | ((with_reducible refine gate_callee (f := 31) rfl ?_); refine goesL_ (some 27) rfl rfl Try.func31 (by kernel_rfl) rfl #[.int .i64 t193, .int .i64 t194, .slice Ao8 t195.length co8, .slice Ao9 t196.length co9] rfl (by (try simp only [List.map_toArray, List.map_cons, List.map_nil]); first | done | rfl | (simp only [List.length_drop, List.length_take]; rfl)) ?_; (with_reducible refine (impl_Between.calls k t193 t194 _ _ t195 _ _ t196 t201 t202 t203 t204 t205 t206 t207 t208 _ ?side1 ?side2 ?side3 ?side4 A4.out).mono ?_); (case side1 => repeat (first | exact (Kd.R_reads' HO198.out).2.2 | (with_reducible refine Kd.C_alloc ?_ _) | (with_reducible refine Kd.C_drewN ?_ _) | (with_reducible refine Kd.C_drew ?_))); (case side2 => exact (Kd.R_reads' HO198.out).2.1); (case side3 => repeat (first | exact (Kd.R_reads' HO200.out).2.2 | (with_reducible refine Kd.C_alloc ?_ _) | (with_reducible refine Kd.C_drewN ?_ _) | (with_reducible refine Kd.C_drew ?_))); (case side4 => exact (Kd.R_reads' HO200.out).2.1); rintro e w10 ⟨v209, rfl, ho0, hb⟩; refine ⟨_, rfl, ?_⟩; have n0_ := Aside0.mk (Kd.R_elder' (by (with_reducible repeat (first | apply Kd.R_alloc | apply Kd.R_drewN | apply Kd.R_drew)); exact HO198.out) (Kd.R_base ho0) hb); have n1_ := Aside0.mk (Kd.R_elder' (by (with_reducible repeat (first | apply Kd.R_alloc | apply Kd.R_drewN | apply Kd.R_drew)); exact HO200.out) (Kd.R_base ho0) hb); have n2_ := Aside0.mk (Kd.R_lower (Kd.R_new' (Kd.R_new' ho0 (Kd.R_lt (by (with_reducible repeat (first | apply Kd.R_alloc | apply Kd.R_drewN | apply Kd.R_drew)); exact HO198.out))) (Kd.R_lt (by (with_reducible repeat (first | apply Kd.R_alloc | apply Kd.R_drewN | apply Kd.R_drew)); exact HO200.out))) (below_size (by repeat (first | (with_reducible first | exact HB.out | apply below_alloc | apply pw_below_drewN | apply below_drew1) | exact HB.out)))); have n3_ := Aside0.mk (below_step (by repeat (first | (with_reducible first | exact HB.out | apply below_alloc | apply pw_below_drewN | apply below_drew1) | exact HB.out)) hb); clear HO198; clear HO200; clear HB; have HO198 := n0_; have HO200 := n1_; have HO210 := n2_; have HB := n3_; clear n0_ n1_ n2_ n3_; (try clear hb); (try clear hb2); (try clear hk); (try clear hi); (try clear ho0)) | ((with_reducible refine gate_dst (N := 7) rfl ?_); refine box_event ?hg (N := 7) ?hd (cs := #[.int .i64 0, .int .i64 0, .int .i64 0, .int .i64 0, .int .i64 0, .int .i64 0, .int .i64 0, .slice none 0 0]) (t := 50) ?hr ?_; (case hd => rfl); (case hg => rfl); (case hr => first | (go_simp; done) | (go_simp; rfl)); intro gb211 hg w11 hbox hb; have n0_ := Aside0.mk (Kd.R_below (by (with_reducible repeat (first | apply Kd.R_alloc | apply Kd.R_drewN | apply Kd.R_drew)); exact HO198.out) hb); have n1_ := Aside0.mk (Kd.R_below (by (with_reducible repeat (first | apply Kd.R_alloc | apply Kd.R_drewN | apply Kd.R_drew)); exact HO200.out) hb); have n2_ := Aside0.mk (Kd.R_below (by (with_reducible repeat (first | apply Kd.R_alloc | apply Kd.R_drewN | apply Kd.R_drew)); exact HO210.out) hb); have n3_ := Aside0.mk (below_step (by repeat (first | (with_reducible first | exact HB.out | apply below_alloc | apply pw_below_drewN | apply below_drew1) | exact HB.out)) hb); have n4_ := Aside0.mk (hbox); have n5_ := Aside0.mk ((by rw [hg]; exact (below_size (by repeat (first | (with_reducible first | exact HB.out | apply below_alloc | apply pw_below_drewN | apply below_drew1) | exact HB.out))) : w.heap.size ≤ gb211)); have n6_ := n5_; clear HO198; clear HO200; clear HO210; clear HB; have HO198 := n0_; have HO200 := n1_; have HO210 := n2_; have HB := n3_; have BK211 := n4_; have GW211 := n5_; have GE211 := n6_; clear n0_ n1_ n2_ n3_ n4_ n5_ n6_; clear hb hbox hg; have hcz12_0 : w11.cell? ⟨gb211, 0, none⟩ = some (.int .i64 0) := (blk_cell BK211.out 0).trans rfl; have hcz12_1 : w11.cell? ⟨gb211, 1, none⟩ = some (.int .i64 0) := (blk_cell BK211.out 1).trans rfl; have hcz12_2 : w11.cell? ⟨gb211, 2, none⟩ = some (.int .i64 0) := (blk_cell BK211.out 2).trans rfl; have hcz12_3 : w11.cell? ⟨gb211, 3, none⟩ = some (.int .i64 0) := (blk_cell BK211.out 3).trans rfl; have hcz12_4 : w11.cell? ⟨gb211, 4, none⟩ = some (.int .i64 0) := (blk_cell BK211.out 4).trans rfl; have hcz12_5 : w11.cell? ⟨gb211, 5, none⟩ = some (.int .i64 0) := (blk_cell BK211.out 5).trans rfl; have hcz12_6 : w11.cell? ⟨gb211, 6, none⟩ = some (.int .i64 0) := (blk_cell BK211.out 6).trans rfl; have hcz12_7 : w11.cell? ⟨gb211, 7, none⟩ = some (.slice none 0 0) := (blk_cell BK211.out 7).trans rfl; have hfz12_0 := blk_frozen BK211.out 0; have hfz12_1 := blk_frozen BK211.out 1; have hfz12_2 := blk_frozen BK211.out 2; have hfz12_3 := blk_frozen BK211.out 3; have hfz12_4 := blk_frozen BK211.out 4; have hfz12_5 := blk_frozen BK211.out 5; have hfz12_6 := blk_frozen BK211.out 6; have hfz12_7 := blk_frozen BK211.out 7; obtain ⟨Ao13, co13, eo13⟩ := Kd.R_slice HO210.out; subst eo13) | ((with_reducible refine gate_callee (f := 32) rfl ?_); refine goesL_ (some 32) rfl rfl Try.func32 (by kernel_rfl) rfl #[.int .i64 t193, .int .i64 t194, .slice Ao8 t195.length co8, .slice Ao9 t196.length co9] rfl (by (try simp only [List.map_toArray, List.map_cons, List.map_nil]); first | done | rfl | (simp only [List.length_drop, List.length_take]; rfl)) ?_; (with_reducible refine (spec_Between.calls k t193 t194 _ _ t195 _ _ t196 t212 t213 t214 t215 t216 t217 t218 t219 _ ?side1 ?side2 ?side3 ?side4 A5.out).mono ?_); (case side1 => refine (Kd.R_reads' (e := 3) (base := w.heap.size) (ok := fun k_ => (some k_ ≠ (.slice Ao9 t196.length co9 : Value).ownBlock ∧ some k_ ≠ (.slice Ao13 t208.length co13 : Value).ownBlock)) (n := t195.length) (c := co8) ?_).2.2; exact (by (with_reducible repeat (first | apply Kd.R_alloc | apply Kd.R_drewN | apply Kd.R_drew)); exact (Kd.R_mono (Kd.R_far (p := ⟨gb211, 7, none⟩) (Kd.R_far (p := ⟨gb211, 6, none⟩) (Kd.R_far (p := ⟨gb211, 5, none⟩) (Kd.R_far (p := ⟨gb211, 4, none⟩) (Kd.R_far (p := ⟨gb211, 3, none⟩) (Kd.R_far (p := ⟨gb211, 2, none⟩) (Kd.R_far (p := ⟨gb211, 1, none⟩) (Kd.R_far (p := ⟨gb211, 0, none⟩) (Kd.R_types HO198.out BK211.out (by decide)) (fun _ hk => hk.2) (.int .i64 t201)) (fun _ hk => hk.2) (.int .i64 t202)) (fun _ hk => hk.2) (.int .i64 t203)) (fun _ hk => hk.2) (.int .i64 t204)) (fun _ hk => hk.2) (.int .i64 t205)) (fun _ hk => hk.2) (.int .i64 t206)) (fun _ hk => hk.2) (.int .i64 t207)) (fun _ hk => hk.2) (.slice Ao13 t208.length co13)) (fun _ h_ => h_.1)))); (case side2 => exact (Kd.R_reads' HO198.out).2.1); (case side3 => refine (Kd.R_reads' (e := 3) (base := w.heap.size) (ok := fun k_ => (some k_ ≠ (.slice Ao8 t195.length co8 : Value).ownBlock ∧ some k_ ≠ (.slice Ao13 t208.length co13 : Value).ownBlock)) (n := t196.length) (c := co9) ?_).2.2; exact (by (with_reducible repeat (first | apply Kd.R_alloc | apply Kd.R_drewN | apply Kd.R_drew)); exact (Kd.R_mono (Kd.R_far (p := ⟨gb211, 7, none⟩) (Kd.R_far (p := ⟨gb211, 6, none⟩) (Kd.R_far (p := ⟨gb211, 5, none⟩) (Kd.R_far (p := ⟨gb211, 4, none⟩) (Kd.R_far (p := ⟨gb211, 3, none⟩) (Kd.R_far (p := ⟨gb211, 2, none⟩) (Kd.R_far (p := ⟨gb211, 1, none⟩) (Kd.R_far (p := ⟨gb211, 0, none⟩) (Kd.R_types HO200.out BK211.out (by decide)) (fun _ hk => hk.2) (.int .i64 t201)) (fun _ hk => hk.2) (.int .i64 t202)) (fun _ hk => hk.2) (.int .i64 t203)) (fun _ hk => hk.2) (.int .i64 t204)) (fun _ hk => hk.2) (.int .i64 t205)) (fun _ hk => hk.2) (.int .i64 t206)) (fun _ hk => hk.2) (.int .i64 t207)) (fun _ hk => hk.2) (.slice Ao13 t208.length co13)) (fun _ h_ => h_.1)))); (case side4 => exact (Kd.R_reads' HO200.out).2.1); rintro e w14 ⟨v220, rfl, ho0, hb⟩; refine ⟨_, rfl, ?_⟩; have n0_ := Aside0.mk (Kd.R_elder' (by (with_reducible repeat (first | apply Kd.R_alloc | apply Kd.R_drewN | apply Kd.R_drew)); exact (Kd.R_mono (Kd.R_far (p := ⟨gb211, 7, none⟩) (Kd.R_far (p := ⟨gb211, 6, none⟩) (Kd.R_far (p := ⟨gb211, 5, none⟩) (Kd.R_far (p := ⟨gb211, 4, none⟩) (Kd.R_far (p := ⟨gb211, 3, none⟩) (Kd.R_far (p := ⟨gb211, 2, none⟩) (Kd.R_far (p := ⟨gb211, 1, none⟩) (Kd.R_far (p := ⟨gb211, 0, none⟩) (Kd.R_types HO198.out BK211.out (by decide)) (fun _ hk => hk.2) (.int .i64 t201)) (fun _ hk => hk.2) (.int .i64 t202)) (fun _ hk => hk.2) (.int .i64 t203)) (fun _ hk => hk.2) (.int .i64 t204)) (fun _ hk => hk.2) (.int .i64 t205)) (fun _ hk => hk.2) (.int .i64 t206)) (fun _ hk => hk.2) (.int .i64 t207)) (fun _ hk => hk.2) (.slice Ao13 t208.length co13)) (fun _ h_ => h_.1))) (Kd.R_base ho0) hb); have n1_ := Aside0.mk (Kd.R_elder' (by (with_reducible repeat (first | apply Kd.R_alloc | apply Kd.R_drewN | apply Kd.R_drew)); exact (Kd.R_mono (Kd.R_far (p := ⟨gb211, 7, none⟩) (Kd.R_far (p := ⟨gb211, 6, none⟩) (Kd.R_far (p := ⟨gb211, 5, none⟩) (Kd.R_far (p := ⟨gb211, 4, none⟩) (Kd.R_far (p := ⟨gb211, 3, none⟩) (Kd.R_far (p := ⟨gb211, 2, none⟩) (Kd.R_far (p := ⟨gb211, 1, none⟩) (Kd.R_far (p := ⟨gb211, 0, none⟩) (Kd.R_types HO200.out BK211.out (by decide)) (fun _ hk => hk.2) (.int .i64 t201)) (fun _ hk => hk.2) (.int .i64 t202)) (fun _ hk => hk.2) (.int .i64 t203)) (fun _ hk => hk.2) (.int .i64 t204)) (fun _ hk => hk.2) (.int .i64 t205)) (fun _ hk => hk.2) (.int .i64 t206)) (fun _ hk => hk.2) (.int .i64 t207)) (fun _ hk => hk.2) (.slice Ao13 t208.length co13)) (fun _ h_ => h_.1))) (Kd.R_base ho0) hb); have n2_ := Aside0.mk (Kd.R_elder' (by (with_reducible repeat (first | apply Kd.R_alloc | apply Kd.R_drewN | apply Kd.R_drew)); exact (Kd.R_mono (Kd.R_far (p := ⟨gb211, 7, none⟩) (Kd.R_far (p := ⟨gb211, 6, none⟩) (Kd.R_far (p := ⟨gb211, 5, none⟩) (Kd.R_far (p := ⟨gb211, 4, none⟩) (Kd.R_far (p := ⟨gb211, 3, none⟩) (Kd.R_far (p := ⟨gb211, 2, none⟩) (Kd.R_far (p := ⟨gb211, 1, none⟩) (Kd.R_far (p := ⟨gb211, 0, none⟩) (Kd.R_types HO210.out BK211.out (by decide)) (fun _ hk => hk.2) (.int .i64 t201)) (fun _ hk => hk.2) (.int .i64 t202)) (fun _ hk => hk.2) (.int .i64 t203)) (fun _ hk => hk.2) (.int .i64 t204)) (fun _ hk => hk.2) (.int .i64 t205)) (fun _ hk => hk.2) (.int .i64 t206)) (fun _ hk => hk.2) (.int .i64 t207)) (fun _ hk => hk.2) (.slice Ao13 t208.length co13)) (fun _ h_ => h_.1))) (Kd.R_base ho0) hb); have n3_ := Aside0.mk (Kd.R_lower (Kd.R_new' (Kd.R_new' (Kd.R_new' ho0 (Kd.R_lt (by (with_reducible repeat (first | apply Kd.R_alloc | apply Kd.R_drewN | apply Kd.R_drew)); exact (Kd.R_mono (Kd.R_far (p := ⟨gb211, 7, none⟩) (Kd.R_far (p := ⟨gb211, 6, none⟩) (Kd.R_far (p := ⟨gb211, 5, none⟩) (Kd.R_far (p := ⟨gb211, 4, none⟩) (Kd.R_far (p := ⟨gb211, 3, none⟩) (Kd.R_far (p := ⟨gb211, 2, none⟩) (Kd.R_far (p := ⟨gb211, 1, none⟩) (Kd.R_far (p := ⟨gb211, 0, none⟩) (Kd.R_types HO198.out BK211.out (by decide)) (fun _ hk => hk.2) (.int .i64 t201)) (fun _ hk => hk.2) (.int .i64 t202)) (fun _ hk => hk.2) (.int .i64 t203)) (fun _ hk => hk.2) (.int .i64 t204)) (fun _ hk => hk.2) (.int .i64 t205)) (fun _ hk => hk.2) (.int .i64 t206)) (fun _ hk => hk.2) (.int .i64 t207)) (fun _ hk => hk.2) (.slice Ao13 t208.length co13)) (fun _ h_ => h_.1))))) (Kd.R_lt (by (with_reducible repeat (first | apply Kd.R_alloc | apply Kd.R_drewN | apply Kd.R_drew)); exact (Kd.R_mono (Kd.R_far (p := ⟨gb211, 7, none⟩) (Kd.R_far (p := ⟨gb211, 6, none⟩) (Kd.R_far (p := ⟨gb211, 5, none⟩) (Kd.R_far (p := ⟨gb211, 4, none⟩) (Kd.R_far (p := ⟨gb211, 3, none⟩) (Kd.R_far (p := ⟨gb211, 2, none⟩) (Kd.R_far (p := ⟨gb211, 1, none⟩) (Kd.R_far (p := ⟨gb211, 0, none⟩) (Kd.R_types HO200.out BK211.out (by decide)) (fun _ hk => hk.2) (.int .i64 t201)) (fun _ hk => hk.2) (.int .i64 t202)) (fun _ hk => hk.2) (.int .i64 t203)) (fun _ hk => hk.2) (.int .i64 t204)) (fun _ hk => hk.2) (.int .i64 t205)) (fun _ hk => hk.2) (.int .i64 t206)) (fun _ hk => hk.2) (.int .i64 t207)) (fun _ hk => hk.2) (.slice Ao13 t208.length co13)) (fun _ h_ => h_.1))))) (Kd.R_lt (by (with_reducible repeat (first | apply Kd.R_alloc | apply Kd.R_drewN | apply Kd.R_drew)); exact (Kd.R_mono (Kd.R_far (p := ⟨gb211, 7, none⟩) (Kd.R_far (p := ⟨gb211, 6, none⟩) (Kd.R_far (p := ⟨gb211, 5, none⟩) (Kd.R_far (p := ⟨gb211, 4, none⟩) (Kd.R_far (p := ⟨gb211, 3, none⟩) (Kd.R_far (p := ⟨gb211, 2, none⟩) (Kd.R_far (p := ⟨gb211, 1, none⟩) (Kd.R_far (p := ⟨gb211, 0, none⟩) (Kd.R_types HO210.out BK211.out (by decide)) (fun _ hk => hk.2) (.int .i64 t201)) (fun _ hk => hk.2) (.int .i64 t202)) (fun _ hk => hk.2) (.int .i64 t203)) (fun _ hk => hk.2) (.int .i64 t204)) (fun _ hk => hk.2) (.int .i64 t205)) (fun _ hk => hk.2) (.int .i64 t206)) (fun _ hk => hk.2) (.int .i64 t207)) (fun _ hk => hk.2) (.slice Ao13 t208.length co13)) (fun _ h_ => h_.1))))) (below_size (by repeat (first | (with_reducible first | exact HB.out | apply below_alloc | apply pw_below_drewN | apply below_drew1 | refine below_set ?_ GE211.out) | exact HB.out)))); have n4_ := Aside0.mk (blk_below (g := gb211) (o := .cells #[.int .i64 t201, .int .i64 t202, .int .i64 t203, .int .i64 t204, .int .i64 t205, .int .i64 t206, .int .i64 t207, .slice Ao13 t208.length co13] 50 (0, 0)) (by (with_reducible repeat (first | refine blk_drewN ?_ _ | refine blk_drew ?_ | refine blk_alloc ?_ _)); refine blk_put (cs := #[.int .i64 t201, .int .i64 t202, .int .i64 t203, .int .i64 t204, .int .i64 t205, .int .i64 t206, .int .i64 t207, .slice none 0 0]) ?_ 7 _ rfl; (with_reducible repeat (first | refine blk_drewN ?_ _ | refine blk_drew ?_ | refine blk_alloc ?_ _)); refine blk_put (cs := #[.int .i64 t201, .int .i64 t202, .int .i64 t203, .int .i64 t204, .int .i64 t205, .int .i64 t206, .int .i64 0, .slice none 0 0]) ?_ 6 _ rfl; (with_reducible repeat (first | refine blk_drewN ?_ _ | refine blk_drew ?_ | refine blk_alloc ?_ _)); refine blk_put (cs := #[.int .i64 t201, .int .i64 t202, .int .i64 t203, .int .i64 t204, .int .i64 t205, .int .i64 0, .int .i64 0, .slice none 0 0]) ?_ 5 _ rfl; (with_reducible repeat (first | refine blk_drewN ?_ _ | refine blk_drew ?_ | refine blk_alloc ?_ _)); refine blk_put (cs := #[.int .i64 t201, .int .i64 t202, .int .i64 t203, .int .i64 t204, .int .i64 0, .int .i64 0, .int .i64 0, .slice none 0 0]) ?_ 4 _ rfl; (with_reducible repeat (first | refine blk_drewN ?_ _ | refine blk_drew ?_ | refine blk_alloc ?_ _)); refine blk_put (cs := #[.int .i64 t201, .int .i64 t202, .int .i64 t203, .int .i64 0, .int .i64 0, .int .i64 0, .int .i64 0, .slice none 0 0]) ?_ 3 _ rfl; (with_reducible repeat (first | refine blk_drewN ?_ _ | refine blk_drew ?_ | refine blk_alloc ?_ _)); refine blk_put (cs := #[.int .i64 t201, .int .i64 t202, .int .i64 0, .int .i64 0, .int .i64 0, .int .i64 0, .int .i64 0, .slice none 0 0]) ?_ 2 _ rfl; (with_reducible repeat (first | refine blk_drewN ?_ _ | refine blk_drew ?_ | refine blk_alloc ?_ _)); refine blk_put (cs := #[.int .i64 t201, .int .i64 0, .int .i64 0, .int .i64 0, .int .i64 0, .int .i64 0, .int .i64 0, .slice none 0 0]) ?_ 1 _ rfl; (with_reducible repeat (first | refine blk_drewN ?_ _ | refine blk_drew ?_ | refine blk_alloc ?_ _)); refine blk_put (cs := #[.int .i64 0, .int .i64 0, .int .i64 0, .int .i64 0, .int .i64 0, .int .i64 0, .int .i64 0, .slice none 0 0]) ?_ 0 _ rfl; (with_reducible repeat (first | refine blk_drewN ?_ _ | refine blk_drew ?_ | refine blk_alloc ?_ _)); exact BK211.out) hb); have n5_ := Aside0.mk (below_step (by repeat (first | (with_reducible first | exact HB.out | apply below_alloc | apply pw_below_drewN | apply below_drew1 | refine below_set ?_ GE211.out) | exact HB.out)) hb); clear HO198; clear HO200; clear HO210; clear BK211; clear HB; have HO198 := n0_; have HO200 := n1_; have HO210 := n2_; have HO221 := n3_; have BK211 := n4_; have HB := n5_; clear n0_ n1_ n2_ n3_ n4_ n5_; (try clear hb); (try clear hb2); (try clear hk); (try clear hi); (try clear ho0)) | ((with_reducible refine gate_dst (N := 8) rfl ?_); refine box_event ?hg (N := 8) ?hd (cs := #[.int .i64 0, .int .i64 0, .int .i64 0, .int .i64 0, .int .i64 0, .int .i64 0, .int .i64 0, .slice none 0 0]) (t := 50) ?hr ?_; (case hd => rfl); (case hg => rfl); (case hr => first | (go_simp; done) | (go_simp; rfl)); intro gb222 hg w15 hbox hb; have n0_ := Aside0.mk (Kd.R_below (by (with_reducible repeat (first | apply Kd.R_alloc | apply Kd.R_drewN | apply Kd.R_drew)); exact HO198.out) hb); have n1_ := Aside0.mk (Kd.R_below (by (with_reducible repeat (first | apply Kd.R_alloc | apply Kd.R_drewN | apply Kd.R_drew)); exact HO200.out) hb); have n2_ := Aside0.mk (Kd.R_below (by (with_reducible repeat (first | apply Kd.R_alloc | apply Kd.R_drewN | apply Kd.R_drew)); exact HO210.out) hb); have n3_ := Aside0.mk (Kd.R_below (by (with_reducible repeat (first | apply Kd.R_alloc | apply Kd.R_drewN | apply Kd.R_drew)); exact HO221.out) hb); have n4_ := Aside0.mk (blk_below (g := gb211) (o := .cells #[.int .i64 t201, .int .i64 t202, .int .i64 t203, .int .i64 t204, .int .i64 t205, .int .i64 t206, .int .i64 t207, .slice Ao13 t208.length co13] 50 (0, 0)) (by (with_reducible repeat (first | refine blk_drewN ?_ _ | refine blk_drew ?_ | refine blk_alloc ?_ _)); exact BK211.out) hb); have n5_ := Aside0.mk (below_step (by repeat (first | (with_reducible first | exact HB.out | apply below_alloc | apply pw_below_drewN | apply below_drew1 | refine below_set ?_ GE211.out) | exact HB.out)) hb); have n6_ := Aside0.mk (hbox); have n7_ := Aside0.mk ((by rw [hg]; exact (below_size (by repeat (first | (with_reducible first | exact HB.out | apply below_alloc | apply pw_below_drewN | apply below_drew1 | refine below_set ?_ GE211.out) | exact HB.out))) : w.heap.size ≤ gb222)); have n8_ := n7_; have n9_ := Aside0.mk ((by rw [hg]; exact Nat.ne_of_lt (blk_lt (g := gb211) (o := .cells #[.int .i64 t201, .int .i64 t202, .int .i64 t203, .int .i64 t204, .int .i64 t205, .int .i64 t206, .int .i64 t207, .slice Ao13 t208.length co13] 50 (0, 0)) (by (with_reducible repeat (first | refine blk_drewN ?_ _ | refine blk_drew ?_ | refine blk_alloc ?_ _)); exact BK211.out)) : gb211 ≠ gb222)); have n10_ := Aside0.mk ((by rw [hg]; exact Nat.ne_of_gt (blk_lt (g := gb211) (o := .cells #[.int .i64 t201, .int .i64 t202, .int .i64 t203, .int .i64 t204, .int .i64 t205, .int .i64 t206, .int .i64 t207, .slice Ao13 t208.length co13] 50 (0, 0)) (by (with_reducible repeat (first | refine blk_drewN ?_ _ | refine blk_drew ?_ | refine blk_alloc ?_ _)); exact BK211.out)) : gb222 ≠ gb211)); clear HO198; clear HO200; clear HO210; clear HO221; clear BK211; clear HB; have HO198 := n0_; have HO200 := n1_; have HO210 := n2_; have HO221 := n3_; have BK211 := n4_; have HB := n5_; have BK222 := n6_; have GW222 := n7_; have GE222 := n8_; have NB211_222 := n9_; have NB222_211 := n10_; clear n0_ n1_ n2_ n3_ n4_ n5_ n6_ n7_ n8_ n9_ n10_; clear hb hbox hg; have hnb16 := NB222_211.out; have hnc16 := NB211_222.out; have hcz17_0 : w15.cell? ⟨gb222, 0, none⟩ = some (.int .i64 0) := (blk_cell BK222.out 0).trans rfl; have hcz17_1 : w15.cell? ⟨gb222, 1, none⟩ = some (.int .i64 0) := (blk_cell BK222.out 1).trans rfl; have hcz17_2 : w15.cell? ⟨gb222, 2, none⟩ = some (.int .i64 0) := (blk_cell BK222.out 2).trans rfl; have hcz17_3 : w15.cell? ⟨gb222, 3, none⟩ = some (.int .i64 0) := (blk_cell BK222.out 3).trans rfl; have hcz17_4 : w15.cell? ⟨gb222, 4, none⟩ = some (.int .i64 0) := (blk_cell BK222.out 4).trans rfl; have hcz17_5 : w15.cell? ⟨gb222, 5, none⟩ = some (.int .i64 0) := (blk_cell BK222.out 5).trans rfl; have hcz17_6 : w15.cell? ⟨gb222, 6, none⟩ = some (.int .i64 0) := (blk_cell BK222.out 6).trans rfl; have hcz17_7 : w15.cell? ⟨gb222, 7, none⟩ = some (.slice none 0 0) := (blk_cell BK222.out 7).trans rfl; have hfz17_0 := blk_frozen BK222.out 0; have hfz17_1 := blk_frozen BK222.out 1; have hfz17_2 := blk_frozen BK222.out 2; have hfz17_3 := blk_frozen BK222.out 3; have hfz17_4 := blk_frozen BK222.out 4; have hfz17_5 := blk_frozen BK222.out 5; have hfz17_6 := blk_frozen BK222.out 6; have hfz17_7 := blk_frozen BK222.out 7; obtain ⟨Ao18, co18, eo18⟩ := Kd.R_slice HO221.out; subst eo18))
  (try simp only [Act.put, List.setIfInBounds_toArray, List.set_cons_zero, List.set_cons_succ])
  go_cut [45] (fun v45 wc => ∃ (kq : Nat) (x45_5 : Bool), v45 = .bool x45_5 ∧ Aside0 (laws_FnBetween.j0 kq t193 t195 t196 x45_5 t201 t202 t203 t204 t205 t206 t207 t208 = some r) ∧ Aside0 (kq ≤ k) ∧ Aside0 (Kd.R (Kd.int .i64) 3 wc w.heap.size (fun k_ => some k_ ≠ ((.slice Ao9 t196.length co9) : Value).ownBlock ∧ some k_ ≠ ((.slice Ao13 t208.length co13) : Value).ownBlock ∧ some k_ ≠ ((.slice Ao18 t219.length co18) : Value).ownBlock) (.slice Ao8 t195.length co8) t195) ∧ Aside0 (Kd.R (Kd.int .i64) 3 wc w.heap.size (fun k_ => some k_ ≠ ((.slice Ao8 t195.length co8) : Value).ownBlock ∧ some k_ ≠ ((.slice Ao13 t208.length co13) : Value).ownBlock ∧ some k_ ≠ ((.slice Ao18 t219.length co18) : Value).ownBlock) (.slice Ao9 t196.length co9) t196) ∧ Aside0 (Kd.R (Kd.int .i64) 3 wc w.heap.size (fun k_ => some k_ ≠ ((.slice Ao8 t195.length co8) : Value).ownBlock ∧ some k_ ≠ ((.slice Ao9 t196.length co9) : Value).ownBlock ∧ some k_ ≠ ((.slice Ao18 t219.length co18) : Value).ownBlock) (.slice Ao13 t208.length co13) t208) ∧ Aside0 (Kd.R (Kd.int .i64) 3 wc w.heap.size (fun k_ => some k_ ≠ ((.slice Ao8 t195.length co8) : Value).ownBlock ∧ some k_ ≠ ((.slice Ao9 t196.length co9) : Value).ownBlock ∧ some k_ ≠ ((.slice Ao13 t208.length co13) : Value).ownBlock) (.slice Ao18 t219.length co18) t219) ∧ Aside0 (wc.heap[gb211]? = some (.cells #[.int .i64 t201, .int .i64 t202, .int .i64 t203, .int .i64 t204, .int .i64 t205, .int .i64 t206, .int .i64 t207, (.slice Ao13 t208.length co13)] 50 (0, 0))) ∧ Aside0 (wc.heap[gb222]? = some (.cells #[.int .i64 t212, .int .i64 t213, .int .i64 t214, .int .i64 t215, .int .i64 t216, .int .i64 t217, .int .i64 t218, (.slice Ao18 t219.length co18)] 50 (0, 0))) ∧ Aside0 (Below w.heap.size w wc))
  case first =>
    have H := HC6.out
    clear HC6
    by_cases c19 : t203 = t214
    rotate_left
    · rw [if_neg c19] at H
      have c19b0 : (t203 == t214) = false := beq_eq_false_iff_ne.mpr c19
      have c19b1 : (t203 != t214) = true := bne_iff_ne.mpr c19
      (first | rw [c19b0] | (simp only [i64_w, i32_w]; rw [c19b0]) | skip)
      have H' := Aside0.mk H
      clear H
      have hnb24 := NB211_222.out
      have hnc24 := NB222_211.out
      have hcz25_0 : w15.cell? ⟨gb211, 0, none⟩ = some (.int .i64 t201) := (blk_cell BK211.out 0).trans rfl
      have hcz25_1 : w15.cell? ⟨gb211, 1, none⟩ = some (.int .i64 t202) := (blk_cell BK211.out 1).trans rfl
      have hcz25_2 : w15.cell? ⟨gb211, 2, none⟩ = some (.int .i64 t203) := (blk_cell BK211.out 2).trans rfl
      have hcz25_3 : w15.cell? ⟨gb211, 3, none⟩ = some (.int .i64 t204) := (blk_cell BK211.out 3).trans rfl
      have hcz25_4 : w15.cell? ⟨gb211, 4, none⟩ = some (.int .i64 t205) := (blk_cell BK211.out 4).trans rfl
      have hcz25_5 : w15.cell? ⟨gb211, 5, none⟩ = some (.int .i64 t206) := (blk_cell BK211.out 5).trans rfl
      have hcz25_6 : w15.cell? ⟨gb211, 6, none⟩ = some (.int .i64 t207) := (blk_cell BK211.out 6).trans rfl
      have hcz25_7 : w15.cell? ⟨gb211, 7, none⟩ = some (.slice Ao13 t208.length co13) := (blk_cell BK211.out 7).trans rfl
      have hfz25_0 := blk_frozen BK211.out 0
      have hfz25_1 := blk_frozen BK211.out 1
      have hfz25_2 := blk_frozen BK211.out 2
      have hfz25_3 := blk_frozen BK211.out 3
      have hfz25_4 := blk_frozen BK211.out 4
      have hfz25_5 := blk_frozen BK211.out 5
      have hfz25_6 := blk_frozen BK211.out 6
      have hfz25_7 := blk_frozen BK211.out 7
      have hcz26_0 : w15.cell? ⟨gb222, 0, none⟩ = some (.int .i64 0) := (blk_cell BK222.out 0).trans rfl
      have hcz26_1 : w15.cell? ⟨gb222, 1, none⟩ = some (.int .i64 0) := (blk_cell BK222.out 1).trans rfl
      have hcz26_2 : w15.cell? ⟨gb222, 2, none⟩ = some (.int .i64 0) := (blk_cell BK222.out 2).trans rfl
      have hcz26_3 : w15.cell? ⟨gb222, 3, none⟩ = some (.int .i64 0) := (blk_cell BK222.out 3).trans rfl
      have hcz26_4 : w15.cell? ⟨gb222, 4, none⟩ = some (.int .i64 0) := (blk_cell BK222.out 4).trans rfl
      have hcz26_5 : w15.cell? ⟨gb222, 5, none⟩ = some (.int .i64 0) := (blk_cell BK222.out 5).trans rfl
      have hcz26_6 : w15.cell? ⟨gb222, 6, none⟩ = some (.int .i64 0) := (blk_cell BK222.out 6).trans rfl
      have hcz26_7 : w15.cell? ⟨gb222, 7, none⟩ = some (.slice none 0 0) := (blk_cell BK222.out 7).trans rfl
      have hfz26_0 := blk_frozen BK222.out 0
      have hfz26_1 := blk_frozen BK222.out 1
      have hfz26_2 := blk_frozen BK222.out 2
      have hfz26_3 := blk_frozen BK222.out 3
      have hfz26_4 := blk_frozen BK222.out 4
      have hfz26_5 := blk_frozen BK222.out 5
      have hfz26_6 := blk_frozen BK222.out 6
      have hfz26_7 := blk_frozen BK222.out 7
      go_wp2
      go_meet
      case rel => exact ⟨_, (true), (by first | rfl | (simp; done) | (simp [*]; done)), H', ⟨by first | omega | exact Nat.le_refl _⟩, ⟨by (with_reducible repeat (first | apply Kd.R_alloc | apply Kd.R_drewN | apply Kd.R_drew)); exact Kd.R_mono (Kd.R_far (p := ⟨gb222, 7, none⟩) (Kd.R_far (p := ⟨gb222, 6, none⟩) (Kd.R_far (p := ⟨gb222, 5, none⟩) (Kd.R_far (p := ⟨gb222, 4, none⟩) (Kd.R_far (p := ⟨gb222, 3, none⟩) (Kd.R_far (p := ⟨gb222, 2, none⟩) (Kd.R_far (p := ⟨gb222, 1, none⟩) (Kd.R_far (p := ⟨gb222, 0, none⟩) (Kd.R_types HO198.out BK222.out (by decide)) (fun _ hk => hk.2) (.int .i64 t212)) (fun _ hk => hk.2) (.int .i64 t213)) (fun _ hk => hk.2) (.int .i64 t214)) (fun _ hk => hk.2) (.int .i64 t215)) (fun _ hk => hk.2) (.int .i64 t216)) (fun _ hk => hk.2) (.int .i64 t217)) (fun _ hk => hk.2) (.int .i64 t218)) (fun _ hk => hk.2) (.slice Ao18 t219.length co18)) (fun _ hk => ⟨hk.1.1.1, ⟨hk.1.1.2, hk.1.2⟩⟩)⟩, ⟨by (with_reducible repeat (first | apply Kd.R_alloc | apply Kd.R_drewN | apply Kd.R_drew)); exact Kd.R_mono (Kd.R_far (p := ⟨gb222, 7, none⟩) (Kd.R_far (p := ⟨gb222, 6, none⟩) (Kd.R_far (p := ⟨gb222, 5, none⟩) (Kd.R_far (p := ⟨gb222, 4, none⟩) (Kd.R_far (p := ⟨gb222, 3, none⟩) (Kd.R_far (p := ⟨gb222, 2, none⟩) (Kd.R_far (p := ⟨gb222, 1, none⟩) (Kd.R_far (p := ⟨gb222, 0, none⟩) (Kd.R_types HO200.out BK222.out (by decide)) (fun _ hk => hk.2) (.int .i64 t212)) (fun _ hk => hk.2) (.int .i64 t213)) (fun _ hk => hk.2) (.int .i64 t214)) (fun _ hk => hk.2) (.int .i64 t215)) (fun _ hk => hk.2) (.int .i64 t216)) (fun _ hk => hk.2) (.int .i64 t217)) (fun _ hk => hk.2) (.int .i64 t218)) (fun _ hk => hk.2) (.slice Ao18 t219.length co18)) (fun _ hk => ⟨hk.1.1.1, ⟨hk.1.1.2, hk.1.2⟩⟩)⟩, ⟨by (with_reducible repeat (first | apply Kd.R_alloc | apply Kd.R_drewN | apply Kd.R_drew)); exact Kd.R_mono (Kd.R_far (p := ⟨gb222, 7, none⟩) (Kd.R_far (p := ⟨gb222, 6, none⟩) (Kd.R_far (p := ⟨gb222, 5, none⟩) (Kd.R_far (p := ⟨gb222, 4, none⟩) (Kd.R_far (p := ⟨gb222, 3, none⟩) (Kd.R_far (p := ⟨gb222, 2, none⟩) (Kd.R_far (p := ⟨gb222, 1, none⟩) (Kd.R_far (p := ⟨gb222, 0, none⟩) (Kd.R_types HO210.out BK222.out (by decide)) (fun _ hk => hk.2) (.int .i64 t212)) (fun _ hk => hk.2) (.int .i64 t213)) (fun _ hk => hk.2) (.int .i64 t214)) (fun _ hk => hk.2) (.int .i64 t215)) (fun _ hk => hk.2) (.int .i64 t216)) (fun _ hk => hk.2) (.int .i64 t217)) (fun _ hk => hk.2) (.int .i64 t218)) (fun _ hk => hk.2) (.slice Ao18 t219.length co18)) (fun _ hk => ⟨hk.1.1.1.2, ⟨hk.1.1.2, hk.1.2⟩⟩)⟩, ⟨by (with_reducible repeat (first | apply Kd.R_alloc | apply Kd.R_drewN | apply Kd.R_drew)); exact Kd.R_mono (Kd.R_far (p := ⟨gb222, 7, none⟩) (Kd.R_far (p := ⟨gb222, 6, none⟩) (Kd.R_far (p := ⟨gb222, 5, none⟩) (Kd.R_far (p := ⟨gb222, 4, none⟩) (Kd.R_far (p := ⟨gb222, 3, none⟩) (Kd.R_far (p := ⟨gb222, 2, none⟩) (Kd.R_far (p := ⟨gb222, 1, none⟩) (Kd.R_far (p := ⟨gb222, 0, none⟩) (Kd.R_types HO221.out BK222.out (by decide)) (fun _ hk => hk.2) (.int .i64 t212)) (fun _ hk => hk.2) (.int .i64 t213)) (fun _ hk => hk.2) (.int .i64 t214)) (fun _ hk => hk.2) (.int .i64 t215)) (fun _ hk => hk.2) (.int .i64 t216)) (fun _ hk => hk.2) (.int .i64 t217)) (fun _ hk => hk.2) (.int .i64 t218)) (fun _ hk => hk.2) (.slice Ao18 t219.length co18)) (fun _ hk => ⟨hk.1.1.1.2, ⟨hk.1.1.2, hk.1.2⟩⟩)⟩, ⟨by (with_reducible repeat (first | refine blk_drewN ?_ _ | refine blk_drew ?_ | refine blk_alloc ?_ _)); refine blk_far ?_ NB211_222.out _; (with_reducible repeat (first | refine blk_drewN ?_ _ | refine blk_drew ?_ | refine blk_alloc ?_ _)); refine blk_far ?_ NB211_222.out _; (with_reducible repeat (first | refine blk_drewN ?_ _ | refine blk_drew ?_ | refine blk_alloc ?_ _)); refine blk_far ?_ NB211_222.out _; (with_reducible repeat (first | refine blk_drewN ?_ _ | refine blk_drew ?_ | refine blk_alloc ?_ _)); refine blk_far ?_ NB211_222.out _; (with_reducible repeat (first | refine blk_drewN ?_ _ | refine blk_drew ?_ | refine blk_alloc ?_ _)); refine blk_far ?_ NB211_222.out _; (with_reducible repeat (first | refine blk_drewN ?_ _ | refine blk_drew ?_ | refine blk_alloc ?_ _)); refine blk_far ?_ NB211_222.out _; (with_reducible repeat (first | refine blk_drewN ?_ _ | refine blk_drew ?_ | refine blk_alloc ?_ _)); refine blk_far ?_ NB211_222.out _; (with_reducible repeat (first | refine blk_drewN ?_ _ | refine blk_drew ?_ | refine blk_alloc ?_ _)); refine blk_far ?_ NB211_222.out _; (with_reducible repeat (first | refine blk_drewN ?_ _ | refine blk_drew ?_ | refine blk_alloc ?_ _)); exact BK211.out⟩, ⟨by (with_reducible repeat (first | refine blk_drewN ?_ _ | refine blk_drew ?_ | refine blk_alloc ?_ _)); refine blk_put (cs := #[.int .i64 t212, .int .i64 t213, .int .i64 t214, .int .i64 t215, .int .i64 t216, .int .i64 t217, .int .i64 t218, .slice none 0 0]) ?_ 7 _ rfl; (with_reducible repeat (first | refine blk_drewN ?_ _ | refine blk_drew ?_ | refine blk_alloc ?_ _)); refine blk_put (cs := #[.int .i64 t212, .int .i64 t213, .int .i64 t214, .int .i64 t215, .int .i64 t216, .int .i64 t217, .int .i64 0, .slice none 0 0]) ?_ 6 _ rfl; (with_reducible repeat (first | refine blk_drewN ?_ _ | refine blk_drew ?_ | refine blk_alloc ?_ _)); refine blk_put (cs := #[.int .i64 t212, .int .i64 t213, .int .i64 t214, .int .i64 t215, .int .i64 t216, .int .i64 0, .int .i64 0, .slice none 0 0]) ?_ 5 _ rfl; (with_reducible repeat (first | refine blk_drewN ?_ _ | refine blk_drew ?_ | refine blk_alloc ?_ _)); refine blk_put (cs := #[.int .i64 t212, .int .i64 t213, .int .i64 t214, .int .i64 t215, .int .i64 0, .int .i64 0, .int .i64 0, .slice none 0 0]) ?_ 4 _ rfl; (with_reducible repeat (first | refine blk_drewN ?_ _ | refine blk_drew ?_ | refine blk_alloc ?_ _)); refine blk_put (cs := #[.int .i64 t212, .int .i64 t213, .int .i64 t214, .int .i64 0, .int .i64 0, .int .i64 0, .int .i64 0, .slice none 0 0]) ?_ 3 _ rfl; (with_reducible repeat (first | refine blk_drewN ?_ _ | refine blk_drew ?_ | refine blk_alloc ?_ _)); refine blk_put (cs := #[.int .i64 t212, .int .i64 t213, .int .i64 0, .int .i64 0, .int .i64 0, .int .i64 0, .int .i64 0, .slice none 0 0]) ?_ 2 _ rfl; (with_reducible repeat (first | refine blk_drewN ?_ _ | refine blk_drew ?_ | refine blk_alloc ?_ _)); refine blk_put (cs := #[.int .i64 t212, .int .i64 0, .int .i64 0, .int .i64 0, .int .i64 0, .int .i64 0, .int .i64 0, .slice none 0 0]) ?_ 1 _ rfl; (with_reducible repeat (first | refine blk_drewN ?_ _ | refine blk_drew ?_ | refine blk_alloc ?_ _)); refine blk_put (cs := #[.int .i64 0, .int .i64 0, .int .i64 0, .int .i64 0, .int .i64 0, .int .i64 0, .int .i64 0, .slice none 0 0]) ?_ 0 _ rfl; (with_reducible repeat (first | refine blk_drewN ?_ _ | refine blk_drew ?_ | refine blk_alloc ?_ _)); exact BK222.out⟩, ⟨by repeat (first | (with_reducible first | exact HB.out | apply below_alloc | apply pw_below_drewN | apply below_drew1 | refine below_set ?_ GE211.out | refine below_set ?_ GE222.out) | exact HB.out)⟩⟩
    rw [if_pos c19] at H
    have c19b0 : (t203 == t214) = true := beq_iff_eq.mpr c19
    have c19b1 : (t203 != t214) = false := bne_eq_false_iff_eq.mpr c19
    clear c19
    (first | rw [c19b0] | (simp only [i64_w, i32_w]; rw [c19b0]) | skip)
    replace H := Option.bind_eq_some_iff.mp H
    obtain ⟨t223, A200, H⟩ := H
    replace H : (laws_FnBetween.j0 k t193 t195 t196 (!t223) t201 t202 t203 t204 t205 t206 t207 t208) = some r := H
    have A20 := Aside0.mk A200
    clear A200
    have H' := Aside0.mk H
    clear H
    have hnb21 := NB211_222.out
    have hnc21 := NB222_211.out
    have hcz22_0 : w15.cell? ⟨gb211, 0, none⟩ = some (.int .i64 t201) := (blk_cell BK211.out 0).trans rfl
    have hcz22_1 : w15.cell? ⟨gb211, 1, none⟩ = some (.int .i64 t202) := (blk_cell BK211.out 1).trans rfl
    have hcz22_2 : w15.cell? ⟨gb211, 2, none⟩ = some (.int .i64 t203) := (blk_cell BK211.out 2).trans rfl
    have hcz22_3 : w15.cell? ⟨gb211, 3, none⟩ = some (.int .i64 t204) := (blk_cell BK211.out 3).trans rfl
    have hcz22_4 : w15.cell? ⟨gb211, 4, none⟩ = some (.int .i64 t205) := (blk_cell BK211.out 4).trans rfl
    have hcz22_5 : w15.cell? ⟨gb211, 5, none⟩ = some (.int .i64 t206) := (blk_cell BK211.out 5).trans rfl
    have hcz22_6 : w15.cell? ⟨gb211, 6, none⟩ = some (.int .i64 t207) := (blk_cell BK211.out 6).trans rfl
    have hcz22_7 : w15.cell? ⟨gb211, 7, none⟩ = some (.slice Ao13 t208.length co13) := (blk_cell BK211.out 7).trans rfl
    have hfz22_0 := blk_frozen BK211.out 0
    have hfz22_1 := blk_frozen BK211.out 1
    have hfz22_2 := blk_frozen BK211.out 2
    have hfz22_3 := blk_frozen BK211.out 3
    have hfz22_4 := blk_frozen BK211.out 4
    have hfz22_5 := blk_frozen BK211.out 5
    have hfz22_6 := blk_frozen BK211.out 6
    have hfz22_7 := blk_frozen BK211.out 7
    have hcz23_0 : w15.cell? ⟨gb222, 0, none⟩ = some (.int .i64 0) := (blk_cell BK222.out 0).trans rfl
    have hcz23_1 : w15.cell? ⟨gb222, 1, none⟩ = some (.int .i64 0) := (blk_cell BK222.out 1).trans rfl
    have hcz23_2 : w15.cell? ⟨gb222, 2, none⟩ = some (.int .i64 0) := (blk_cell BK222.out 2).trans rfl
    have hcz23_3 : w15.cell? ⟨gb222, 3, none⟩ = some (.int .i64 0) := (blk_cell BK222.out 3).trans rfl
    have hcz23_4 : w15.cell? ⟨gb222, 4, none⟩ = some (.int .i64 0) := (blk_cell BK222.out 4).trans rfl
    have hcz23_5 : w15.cell? ⟨gb222, 5, none⟩ = some (.int .i64 0) := (blk_cell BK222.out 5).trans rfl
    have hcz23_6 : w15.cell? ⟨gb222, 6, none⟩ = some (.int .i64 0) := (blk_cell BK222.out 6).trans rfl
    have hcz23_7 : w15.cell? ⟨gb222, 7, none⟩ = some (.slice none 0 0) := (blk_cell BK222.out 7).trans rfl
    have hfz23_0 := blk_frozen BK222.out 0
    have hfz23_1 := blk_frozen BK222.out 1
    have hfz23_2 := blk_frozen BK222.out 2
    have hfz23_3 := blk_frozen BK222.out 3
    have hfz23_4 := blk_frozen BK222.out 4
    have hfz23_5 := blk_frozen BK222.out 5
    have hfz23_6 := blk_frozen BK222.out 6
    have hfz23_7 := blk_frozen BK222.out 7
    go_wp2_with (first | (go_at_call 33; (with_reducible refine (laws_wInts.calls k _ _ t208 _ _ t219 t223 _ ?side1 ?side2 ?side3 ?side4 A20.out).mono ?_); (case side1 => refine (Kd.R_reads' (e := 3) (base := w.heap.size) (ok := fun k_ => (((True ∧ some k_ ≠ (.slice Ao8 t195.length co8 : Value).ownBlock) ∧ some k_ ≠ (.slice Ao9 t196.length co9 : Value).ownBlock) ∧ some k_ ≠ (.slice Ao18 t219.length co18 : Value).ownBlock)) (n := t208.length) (c := co13) ?_).2.2; exact (by (with_reducible repeat (first | apply Kd.R_alloc | apply Kd.R_drewN | apply Kd.R_drew)); exact (Kd.R_mono (Kd.R_far (p := ⟨gb222, 7, none⟩) (Kd.R_far (p := ⟨gb222, 6, none⟩) (Kd.R_far (p := ⟨gb222, 5, none⟩) (Kd.R_far (p := ⟨gb222, 4, none⟩) (Kd.R_far (p := ⟨gb222, 3, none⟩) (Kd.R_far (p := ⟨gb222, 2, none⟩) (Kd.R_far (p := ⟨gb222, 1, none⟩) (Kd.R_far (p := ⟨gb222, 0, none⟩) (Kd.R_types HO210.out BK222.out (by decide)) (fun _ hk => hk.2) (.int .i64 t212)) (fun _ hk => hk.2) (.int .i64 t213)) (fun _ hk => hk.2) (.int .i64 t214)) (fun _ hk => hk.2) (.int .i64 t215)) (fun _ hk => hk.2) (.int .i64 t216)) (fun _ hk => hk.2) (.int .i64 t217)) (fun _ hk => hk.2) (.int .i64 t218)) (fun _ hk => hk.2) (.slice Ao18 t219.length co18)) (fun _ h_ => h_.1)))); (case side2 => exact (Kd.R_reads' HO210.out).2.1); (case side3 => refine (Kd.R_reads' (e := 3) (base := w.heap.size) (ok := fun k_ => (((True ∧ some k_ ≠ (.slice Ao8 t195.length co8 : Value).ownBlock) ∧ some k_ ≠ (.slice Ao9 t196.length co9 : Value).ownBlock) ∧ some k_ ≠ (.slice Ao13 t208.length co13 : Value).ownBlock)) (n := t219.length) (c := co18) ?_).2.2; exact (by (with_reducible repeat (first | apply Kd.R_alloc | apply Kd.R_drewN | apply Kd.R_drew)); exact (Kd.R_mono (Kd.R_far (p := ⟨gb222, 7, none⟩) (Kd.R_far (p := ⟨gb222, 6, none⟩) (Kd.R_far (p := ⟨gb222, 5, none⟩) (Kd.R_far (p := ⟨gb222, 4, none⟩) (Kd.R_far (p := ⟨gb222, 3, none⟩) (Kd.R_far (p := ⟨gb222, 2, none⟩) (Kd.R_far (p := ⟨gb222, 1, none⟩) (Kd.R_far (p := ⟨gb222, 0, none⟩) (Kd.R_types HO221.out BK222.out (by decide)) (fun _ hk => hk.2) (.int .i64 t212)) (fun _ hk => hk.2) (.int .i64 t213)) (fun _ hk => hk.2) (.int .i64 t214)) (fun _ hk => hk.2) (.int .i64 t215)) (fun _ hk => hk.2) (.int .i64 t216)) (fun _ hk => hk.2) (.int .i64 t217)) (fun _ hk => hk.2) (.int .i64 t218)) (fun _ hk => hk.2) (.slice Ao18 t219.length co18)) (fun _ h_ => h_.1)))); (case side4 => exact (Kd.R_reads' HO221.out).2.1); rintro e w' ⟨rfl, ⟨nd, rfl⟩⟩))
    go_meet
    case rel => exact ⟨_, (!t223), (by first | rfl | (simp; done) | (simp [*]; done)), H', ⟨by first | omega | exact Nat.le_refl _⟩, ⟨by (with_reducible repeat (first | apply Kd.R_alloc | apply Kd.R_drewN | apply Kd.R_drew)); exact Kd.R_mono (Kd.R_far (p := ⟨gb222, 7, none⟩) (Kd.R_far (p := ⟨gb222, 6, none⟩) (Kd.R_far (p := ⟨gb222, 5, none⟩) (Kd.R_far (p := ⟨gb222, 4, none⟩) (Kd.R_far (p := ⟨gb222, 3, none⟩) (Kd.R_far (p := ⟨gb222, 2, none⟩) (Kd.R_far (p := ⟨gb222, 1, none⟩) (Kd.R_far (p := ⟨gb222, 0, none⟩) (Kd.R_types HO198.out BK222.out (by decide)) (fun _ hk => hk.2) (.int .i64 t212)) (fun _ hk => hk.2) (.int .i64 t213)) (fun _ hk => hk.2) (.int .i64 t214)) (fun _ hk => hk.2) (.int .i64 t215)) (fun _ hk => hk.2) (.int .i64 t216)) (fun _ hk => hk.2) (.int .i64 t217)) (fun _ hk => hk.2) (.int .i64 t218)) (fun _ hk => hk.2) (.slice Ao18 t219.length co18)) (fun _ hk => ⟨hk.1.1.1, ⟨hk.1.1.2, hk.1.2⟩⟩)⟩, ⟨by (with_reducible repeat (first | apply Kd.R_alloc | apply Kd.R_drewN | apply Kd.R_drew)); exact Kd.R_mono (Kd.R_far (p := ⟨gb222, 7, none⟩) (Kd.R_far (p := ⟨gb222, 6, none⟩) (Kd.R_far (p := ⟨gb222, 5, none⟩) (Kd.R_far (p := ⟨gb222, 4, none⟩) (Kd.R_far (p := ⟨gb222, 3, none⟩) (Kd.R_far (p := ⟨gb222, 2, none⟩) (Kd.R_far (p := ⟨gb222, 1, none⟩) (Kd.R_far (p := ⟨gb222, 0, none⟩) (Kd.R_types HO200.out BK222.out (by decide)) (fun _ hk => hk.2) (.int .i64 t212)) (fun _ hk => hk.2) (.int .i64 t213)) (fun _ hk => hk.2) (.int .i64 t214)) (fun _ hk => hk.2) (.int .i64 t215)) (fun _ hk => hk.2) (.int .i64 t216)) (fun _ hk => hk.2) (.int .i64 t217)) (fun _ hk => hk.2) (.int .i64 t218)) (fun _ hk => hk.2) (.slice Ao18 t219.length co18)) (fun _ hk => ⟨hk.1.1.1, ⟨hk.1.1.2, hk.1.2⟩⟩)⟩, ⟨by (with_reducible repeat (first | apply Kd.R_alloc | apply Kd.R_drewN | apply Kd.R_drew)); exact Kd.R_mono (Kd.R_far (p := ⟨gb222, 7, none⟩) (Kd.R_far (p := ⟨gb222, 6, none⟩) (Kd.R_far (p := ⟨gb222, 5, none⟩) (Kd.R_far (p := ⟨gb222, 4, none⟩) (Kd.R_far (p := ⟨gb222, 3, none⟩) (Kd.R_far (p := ⟨gb222, 2, none⟩) (Kd.R_far (p := ⟨gb222, 1, none⟩) (Kd.R_far (p := ⟨gb222, 0, none⟩) (Kd.R_types HO210.out BK222.out (by decide)) (fun _ hk => hk.2) (.int .i64 t212)) (fun _ hk => hk.2) (.int .i64 t213)) (fun _ hk => hk.2) (.int .i64 t214)) (fun _ hk => hk.2) (.int .i64 t215)) (fun _ hk => hk.2) (.int .i64 t216)) (fun _ hk => hk.2) (.int .i64 t217)) (fun _ hk => hk.2) (.int .i64 t218)) (fun _ hk => hk.2) (.slice Ao18 t219.length co18)) (fun _ hk => ⟨hk.1.1.1.2, ⟨hk.1.1.2, hk.1.2⟩⟩)⟩, ⟨by (with_reducible repeat (first | apply Kd.R_alloc | apply Kd.R_drewN | apply Kd.R_drew)); exact Kd.R_mono (Kd.R_far (p := ⟨gb222, 7, none⟩) (Kd.R_far (p := ⟨gb222, 6, none⟩) (Kd.R_far (p := ⟨gb222, 5, none⟩) (Kd.R_far (p := ⟨gb222, 4, none⟩) (Kd.R_far (p := ⟨gb222, 3, none⟩) (Kd.R_far (p := ⟨gb222, 2, none⟩) (Kd.R_far (p := ⟨gb222, 1, none⟩) (Kd.R_far (p := ⟨gb222, 0, none⟩) (Kd.R_types HO221.out BK222.out (by decide)) (fun _ hk => hk.2) (.int .i64 t212)) (fun _ hk => hk.2) (.int .i64 t213)) (fun _ hk => hk.2) (.int .i64 t214)) (fun _ hk => hk.2) (.int .i64 t215)) (fun _ hk => hk.2) (.int .i64 t216)) (fun _ hk => hk.2) (.int .i64 t217)) (fun _ hk => hk.2) (.int .i64 t218)) (fun _ hk => hk.2) (.slice Ao18 t219.length co18)) (fun _ hk => ⟨hk.1.1.1.2, ⟨hk.1.1.2, hk.1.2⟩⟩)⟩, ⟨by (with_reducible repeat (first | refine blk_drewN ?_ _ | refine blk_drew ?_ | refine blk_alloc ?_ _)); refine blk_far ?_ NB211_222.out _; (with_reducible repeat (first | refine blk_drewN ?_ _ | refine blk_drew ?_ | refine blk_alloc ?_ _)); refine blk_far ?_ NB211_222.out _; (with_reducible repeat (first | refine blk_drewN ?_ _ | refine blk_drew ?_ | refine blk_alloc ?_ _)); refine blk_far ?_ NB211_222.out _; (with_reducible repeat (first | refine blk_drewN ?_ _ | refine blk_drew ?_ | refine blk_alloc ?_ _)); refine blk_far ?_ NB211_222.out _; (with_reducible repeat (first | refine blk_drewN ?_ _ | refine blk_drew ?_ | refine blk_alloc ?_ _)); refine blk_far ?_ NB211_222.out _; (with_reducible repeat (first | refine blk_drewN ?_ _ | refine blk_drew ?_ | refine blk_alloc ?_ _)); refine blk_far ?_ NB211_222.out _; (with_reducible repeat (first | refine blk_drewN ?_ _ | refine blk_drew ?_ | refine blk_alloc ?_ _)); refine blk_far ?_ NB211_222.out _; (with_reducible repeat (first | refine blk_drewN ?_ _ | refine blk_drew ?_ | refine blk_alloc ?_ _)); refine blk_far ?_ NB211_222.out _; (with_reducible repeat (first | refine blk_drewN ?_ _ | refine blk_drew ?_ | refine blk_alloc ?_ _)); exact BK211.out⟩, ⟨by (with_reducible repeat (first | refine blk_drewN ?_ _ | refine blk_drew ?_ | refine blk_alloc ?_ _)); refine blk_put (cs := #[.int .i64 t212, .int .i64 t213, .int .i64 t214, .int .i64 t215, .int .i64 t216, .int .i64 t217, .int .i64 t218, .slice none 0 0]) ?_ 7 _ rfl; (with_reducible repeat (first | refine blk_drewN ?_ _ | refine blk_drew ?_ | refine blk_alloc ?_ _)); refine blk_put (cs := #[.int .i64 t212, .int .i64 t213, .int .i64 t214, .int .i64 t215, .int .i64 t216, .int .i64 t217, .int .i64 0, .slice none 0 0]) ?_ 6 _ rfl; (with_reducible repeat (first | refine blk_drewN ?_ _ | refine blk_drew ?_ | refine blk_alloc ?_ _)); refine blk_put (cs := #[.int .i64 t212, .int .i64 t213, .int .i64 t214, .int .i64 t215, .int .i64 t216, .int .i64 0, .int .i64 0, .slice none 0 0]) ?_ 5 _ rfl; (with_reducible repeat (first | refine blk_drewN ?_ _ | refine blk_drew ?_ | refine blk_alloc ?_ _)); refine blk_put (cs := #[.int .i64 t212, .int .i64 t213, .int .i64 t214, .int .i64 t215, .int .i64 0, .int .i64 0, .int .i64 0, .slice none 0 0]) ?_ 4 _ rfl; (with_reducible repeat (first | refine blk_drewN ?_ _ | refine blk_drew ?_ | refine blk_alloc ?_ _)); refine blk_put (cs := #[.int .i64 t212, .int .i64 t213, .int .i64 t214, .int .i64 0, .int .i64 0, .int .i64 0, .int .i64 0, .slice none 0 0]) ?_ 3 _ rfl; (with_reducible repeat (first | refine blk_drewN ?_ _ | refine blk_drew ?_ | refine blk_alloc ?_ _)); refine blk_put (cs := #[.int .i64 t212, .int .i64 t213, .int .i64 0, .int .i64 0, .int .i64 0, .int .i64 0, .int .i64 0, .slice none 0 0]) ?_ 2 _ rfl; (with_reducible repeat (first | refine blk_drewN ?_ _ | refine blk_drew ?_ | refine blk_alloc ?_ _)); refine blk_put (cs := #[.int .i64 t212, .int .i64 0, .int .i64 0, .int .i64 0, .int .i64 0, .int .i64 0, .int .i64 0, .slice none 0 0]) ?_ 1 _ rfl; (with_reducible repeat (first | refine blk_drewN ?_ _ | refine blk_drew ?_ | refine blk_alloc ?_ _)); refine blk_put (cs := #[.int .i64 0, .int .i64 0, .int .i64 0, .int .i64 0, .int .i64 0, .int .i64 0, .int .i64 0, .slice none 0 0]) ?_ 0 _ rfl; (with_reducible repeat (first | refine blk_drewN ?_ _ | refine blk_drew ?_ | refine blk_alloc ?_ _)); exact BK222.out⟩, ⟨by repeat (first | (with_reducible first | exact HB.out | apply below_alloc | apply pw_below_drewN | apply below_drew1 | refine below_set ?_ GE211.out | refine below_set ?_ GE222.out) | exact HB.out)⟩⟩
  case rest =>
    clear HC6
    try clear c1
    try clear c2
    try clear c2b0
    try clear c2b1
    try clear c2b2
    try clear p2
    try clear c3
    try clear c5
    try clear c16
    try clear c19
    try clear c19b0
    try clear c19b1
    try clear c21
    try clear c24
    try clear hcz12_0
    try clear hcz12_1
    try clear hcz12_2
    try clear hcz12_3
    try clear hcz12_4
    try clear hcz12_5
    try clear hcz12_6
    try clear hcz12_7
    try clear hcz17_0
    try clear hcz17_1
    try clear hcz17_2
    try clear hcz17_3
    try clear hcz17_4
    try clear hcz17_5
    try clear hcz17_6
    try clear hcz17_7
    try clear hcz22_0
    try clear hcz22_1
    try clear hcz22_2
    try clear hcz22_3
    try clear hcz22_4
    try clear hcz22_5
    try clear hcz22_6
    try clear hcz22_7
    try clear hcz23_0
    try clear hcz23_1
    try clear hcz23_2
    try clear hcz23_3
    try clear hcz23_4
    try clear hcz23_5
    try clear hcz23_6
    try clear hcz23_7
    try clear hcz25_0
    try clear hcz25_1
    try clear hcz25_2
    try clear hcz25_3
    try clear hcz25_4
    try clear hcz25_5
    try clear hcz25_6
    try clear hcz25_7
    try clear hcz26_0
    try clear hcz26_1
    try clear hcz26_2
    try clear hcz26_3
    try clear hcz26_4
    try clear hcz26_5
    try clear hcz26_6
    try clear hcz26_7
    try clear hfz12_0
    try clear hfz12_1
    try clear hfz12_2
    try clear hfz12_3
    try clear hfz12_4
    try clear hfz12_5
    try clear hfz12_6
    try clear hfz12_7
    try clear hfz17_0
    try clear hfz17_1
    try clear hfz17_2
    try clear hfz17_3
    try clear hfz17_4
    try clear hfz17_5
    try clear hfz17_6
    try clear hfz17_7
    try clear hfz22_0
    try clear hfz22_1
    try clear hfz22_2
    try clear hfz22_3
    try clear hfz22_4
    try clear hfz22_5
    try clear hfz22_6
    try clear hfz22_7
    try clear hfz23_0
    try clear hfz23_1
    try clear hfz23_2
    try clear hfz23_3
    try clear hfz23_4
    try clear hfz23_5
    try clear hfz23_6
    try clear hfz23_7
    try clear hfz25_0
    try clear hfz25_1
    try clear hfz25_2
    try clear hfz25_3
    try clear hfz25_4
    try clear hfz25_5
    try clear hfz25_6
    try clear hfz25_7
    try clear hfz26_0
    try clear hfz26_1
    try clear hfz26_2
    try clear hfz26_3
    try clear hfz26_4
    try clear hfz26_5
    try clear hfz26_6
    try clear hfz26_7
    obtain ⟨kq, x45_5, rfl, HA, HJ5, HO_5, HO_6, HO_212007, HO_223007, BK211, BK222, HB⟩ := hcut
    cases kq with
    | zero => exact absurd HA.out (by simp [laws_FnBetween.j0])
    | succ kj5 =>
      have H := HA.out
      clear HA
      simp only [laws_FnBetween.j0] at H
      by_cases c27 : x45_5 = true
      · subst c27
        have H1 : (some false) = some r := by rw [if_pos rfl] at H; exact H
        clear H
        have H := H1
        clear H1
        obtain rfl := Option.some.inj H
        go_wp2
        go_ret
        exact ⟨by first | rfl | (simp [errW_none, errW_some] <;> rfl) | (simp [*, errW_none, errW_some] <;> rfl), by repeat (first | (with_reducible first | exact HB.out | apply below_alloc | apply pw_below_drewN | apply below_drew1 | refine below_set ?_ GE211.out | refine below_set ?_ GE222.out) | exact HB.out)⟩
      replace c27 := Bool.eq_false_iff.mpr c27
      subst c27
      have H1 : (if t203 = 0 then (some true) else ((some (([] : List Int) : List Int)).bind fun y224 => (if y224.length + t195.length < 17592186044416 then (laws_FnBetween.l0 kj5 t193 t196 (y224 ++ t195) (t208.length : Int) 0 t201 t202 t203 t204 t205 t206 t207 t208) else (none)))) = some r := by rw [if_neg (show ¬ (false = true) by decide)] at H; exact H
      clear H
      have H := H1
      clear H1
      by_cases c28 : t203 = 0
      · rw [if_pos c28] at H
        have c28b0 : (t203 == 0) = true := beq_iff_eq.mpr c28
        have c28b1 : (t203 != 0) = false := bne_eq_false_iff_eq.mpr c28
        clear c28
        obtain rfl := Option.some.inj H
        have hnb29 := NB211_222.out
        have hnc29 := NB222_211.out
        have hcz30_0 : wc.cell? ⟨gb211, 0, none⟩ = some (.int .i64 t201) := (blk_cell BK211.out 0).trans rfl
        have hcz30_1 : wc.cell? ⟨gb211, 1, none⟩ = some (.int .i64 t202) := (blk_cell BK211.out 1).trans rfl
        have hcz30_2 : wc.cell? ⟨gb211, 2, none⟩ = some (.int .i64 t203) := (blk_cell BK211.out 2).trans rfl
        have hcz30_3 : wc.cell? ⟨gb211, 3, none⟩ = some (.int .i64 t204) := (blk_cell BK211.out 3).trans rfl
        have hcz30_4 : wc.cell? ⟨gb211, 4, none⟩ = some (.int .i64 t205) := (blk_cell BK211.out 4).trans rfl
        have hcz30_5 : wc.cell? ⟨gb211, 5, none⟩ = some (.int .i64 t206) := (blk_cell BK211.out 5).trans rfl
        have hcz30_6 : wc.cell? ⟨gb211, 6, none⟩ = some (.int .i64 t207) := (blk_cell BK211.out 6).trans rfl
        have hcz30_7 : wc.cell? ⟨gb211, 7, none⟩ = some (.slice Ao13 t208.length co13) := (blk_cell BK211.out 7).trans rfl
        have hfz30_0 := blk_frozen BK211.out 0
        have hfz30_1 := blk_frozen BK211.out 1
        have hfz30_2 := blk_frozen BK211.out 2
        have hfz30_3 := blk_frozen BK211.out 3
        have hfz30_4 := blk_frozen BK211.out 4
        have hfz30_5 := blk_frozen BK211.out 5
        have hfz30_6 := blk_frozen BK211.out 6
        have hfz30_7 := blk_frozen BK211.out 7
        go_wp2
        go_ret
        exact ⟨by first | rfl | (simp [errW_none, errW_some] <;> rfl) | (simp [*, errW_none, errW_some] <;> rfl), by repeat (first | (with_reducible first | exact HB.out | apply below_alloc | apply pw_below_drewN | apply below_drew1 | refine below_set ?_ GE211.out | refine below_set ?_ GE222.out) | exact HB.out)⟩
      rw [if_neg c28] at H
      have c28b0 : (t203 == 0) = false := beq_eq_false_iff_ne.mpr c28
      have c28b1 : (t203 != 0) = true := bne_iff_ne.mpr c28
      obtain ⟨y224, hy224⟩ : ∃ y_ : List Int, y_ = (([] : List Int)) := ⟨_, rfl⟩
      replace H : (if y224.length + t195.length < 17592186044416 then (laws_FnBetween.l0 kj5 t193 t196 (y224 ++ t195) (t208.length : Int) 0 t201 t202 t203 t204 t205 t206 t207 t208) else (none)) = some r := by first | (rw [hy224]; with_reducible exact H) | (have H2_ := (Option.bind_some _ _).symm.trans H; rw [hy224]; with_reducible exact H2_) | (have H2_ := (Option.bind_some _ _).symm.trans H; with_reducible exact H2_) | with_reducible exact H | (rw [hy224]; exact H) | exact H
      have Ny224 := Aside0.mk hy224
      clear hy224
      by_cases c31 : y224.length + t195.length < 17592186044416
      rotate_left
      · rw [if_neg c31] at H
        exact absurd H (by simp)
      rw [if_pos c31] at H
      have LMc31 := Aside0.mk c31
      clear c31
      obtain ⟨y227, hy227⟩ : ∃ y_ : List Int, y_ = (y224 ++ t195) := ⟨_, rfl⟩
      replace H : (laws_FnBetween.l0 kj5 t193 t196 y227 (t208.length : Int) 0 t201 t202 t203 t204 t205 t206 t207 t208) = some r := by first | (rw [hy227]; with_reducible exact H) | (have H2_ := (Option.bind_some _ _).symm.trans H; rw [hy227]; with_reducible exact H2_) | (have H2_ := (Option.bind_some _ _).symm.trans H; with_reducible exact H2_) | with_reducible exact H | (rw [hy227]; exact H) | exact H
      have Ny227 := Aside0.mk hy227
      clear hy227
      have H' := Aside0.mk H
      clear H
      have hnb32 := NB211_222.out
      have hnc32 := NB222_211.out
      have hcz33_0 : wc.cell? ⟨gb211, 0, none⟩ = some (.int .i64 t201) := (blk_cell BK211.out 0).trans rfl
      have hcz33_1 : wc.cell? ⟨gb211, 1, none⟩ = some (.int .i64 t202) := (blk_cell BK211.out 1).trans rfl
      have hcz33_2 : wc.cell? ⟨gb211, 2, none⟩ = some (.int .i64 t203) := (blk_cell BK211.out 2).trans rfl
      have hcz33_3 : wc.cell? ⟨gb211, 3, none⟩ = some (.int .i64 t204) := (blk_cell BK211.out 3).trans rfl
      have hcz33_4 : wc.cell? ⟨gb211, 4, none⟩ = some (.int .i64 t205) := (blk_cell BK211.out 4).trans rfl
      have hcz33_5 : wc.cell? ⟨gb211, 5, none⟩ = some (.int .i64 t206) := (blk_cell BK211.out 5).trans rfl
      have hcz33_6 : wc.cell? ⟨gb211, 6, none⟩ = some (.int .i64 t207) := (blk_cell BK211.out 6).trans rfl
      have hcz33_7 : wc.cell? ⟨gb211, 7, none⟩ = some (.slice Ao13 t208.length co13) := (blk_cell BK211.out 7).trans rfl
      have hfz33_0 := blk_frozen BK211.out 0
      have hfz33_1 := blk_frozen BK211.out 1
      have hfz33_2 := blk_frozen BK211.out 2
      have hfz33_3 := blk_frozen BK211.out 3
      have hfz33_4 := blk_frozen BK211.out 4
      have hfz33_5 := blk_frozen BK211.out 5
      have hfz33_6 := blk_frozen BK211.out 6
      have hfz33_7 := blk_frozen BK211.out 7
      go_wp2_with (first | ((with_reducible refine gate_dst (N := 49) rfl ?_); refine Kd.R_lit (Kd.int .i64) _ 3 ?hg (N := 49) ?hd (xs := ([] : List Int)) (inner := []) (ok := fun _ => True) (okp := fun _ => True) ?hr ?hp (fun _ hk => hk) trivial (Below.refl _ _) (Nat.le_refl _) (by simp) ?_; (case hd => rfl); (case hg => rfl); (case hr => first | (go_simp; done) | (go_simp; rfl)); (case hp => exact (Reps.none _ _)); intro v225 w34 ho35 hb hg_ hnew_; clear hg_ hnew_; (first | rw [← Ny224.out] at ho35 | (simp only [Int.reduceToNat] at ho35; rw [← Ny224.out] at ho35)); have n0_ := Aside0.mk (Kd.R_elder' (by (with_reducible repeat (first | apply Kd.R_alloc | apply Kd.R_drewN | apply Kd.R_drew)); exact HO_5.out) (Kd.R_base ho35) hb); have n1_ := Aside0.mk (Kd.R_elder' (by (with_reducible repeat (first | apply Kd.R_alloc | apply Kd.R_drewN | apply Kd.R_drew)); exact HO_6.out) (Kd.R_base ho35) hb); have n2_ := Aside0.mk (Kd.R_elder' (by (with_reducible repeat (first | apply Kd.R_alloc | apply Kd.R_drewN | apply Kd.R_drew)); exact HO_212007.out) (Kd.R_base ho35) hb); have n3_ := Aside0.mk (Kd.R_elder' (by (with_reducible repeat (first | apply Kd.R_alloc | apply Kd.R_drewN | apply Kd.R_drew)); exact HO_223007.out) (Kd.R_base ho35) hb); have n4_ := Aside0.mk (Kd.R_lower (Kd.R_new' (Kd.R_new' (Kd.R_new' (Kd.R_new' ho35 (Kd.R_lt (by (with_reducible repeat (first | apply Kd.R_alloc | apply Kd.R_drewN | apply Kd.R_drew)); exact HO_5.out))) (Kd.R_lt (by (with_reducible repeat (first | apply Kd.R_alloc | apply Kd.R_drewN | apply Kd.R_drew)); exact HO_6.out))) (Kd.R_lt (by (with_reducible repeat (first | apply Kd.R_alloc | apply Kd.R_drewN | apply Kd.R_drew)); exact HO_212007.out))) (Kd.R_lt (by (with_reducible repeat (first | apply Kd.R_alloc | apply Kd.R_drewN | apply Kd.R_drew)); exact HO_223007.out))) (below_size (by repeat (first | (with_reducible first | exact HB.out | apply below_alloc | apply pw_below_drewN | apply below_drew1 | refine below_set ?_ GE211.out | refine below_set ?_ GE222.out) | exact HB.out)))); have n5_ := Aside0.mk (blk_below (g := gb211) (o := .cells #[.int .i64 t201, .int .i64 t202, .int .i64 t203, .int .i64 t204, .int .i64 t205, .int .i64 t206, .int .i64 t207, .slice Ao13 t208.length co13] 50 (0, 0)) (by (with_reducible repeat (first | refine blk_drewN ?_ _ | refine blk_drew ?_ | refine blk_alloc ?_ _)); exact BK211.out) hb); have n6_ := Aside0.mk (blk_below (g := gb222) (o := .cells #[.int .i64 t212, .int .i64 t213, .int .i64 t214, .int .i64 t215, .int .i64 t216, .int .i64 t217, .int .i64 t218, .slice Ao18 t219.length co18] 50 (0, 0)) (by (with_reducible repeat (first | refine blk_drewN ?_ _ | refine blk_drew ?_ | refine blk_alloc ?_ _)); exact BK222.out) hb); have n7_ := Aside0.mk (below_step (by repeat (first | (with_reducible first | exact HB.out | apply below_alloc | apply pw_below_drewN | apply below_drew1 | refine below_set ?_ GE211.out | refine below_set ?_ GE222.out) | exact HB.out)) hb); clear HO_5; clear HO_6; clear HO_212007; clear HO_223007; clear BK211; clear BK222; clear HB; have HO_5 := n0_; have HO_6 := n1_; have HO_212007 := n2_; have HO_223007 := n3_; have HO226 := n4_; have BK211 := n5_; have BK222 := n6_; have HB := n7_; clear n0_ n1_ n2_ n3_ n4_ n5_ n6_ n7_; clear hb ho35) | ((with_reducible refine gate_builtin (b := .append) (xs := #[.tmp 49, .tmp 50]) rfl ?_); at_builtin; refine Kd.R_append_rows (Kd.int .i64) (w0 := w) w.heap.size rfl (.tmp 49) (.tmp 50) 22 3 (.int .i64 0) 8 rfl Try.underlying22 info3 rfl (by decide) (by omega) v225 y224 t195 _ _ _ (fun k_ => some k_ ≠ (.slice Ao8 t195.length co8 : Value).ownBlock ∧ some k_ ≠ (.slice Ao9 t196.length co9 : Value).ownBlock ∧ some k_ ≠ (.slice Ao13 t208.length co13 : Value).ownBlock ∧ some k_ ≠ (.slice Ao18 t219.length co18 : Value).ownBlock) (fun _ => False) rfl rfl ?aO ?aR (fun _ _ h => h) (fun _ h => h.elim) ?aF ?aB ?aS ?aL ?_; (case aR => repeat (first | exact (Kd.R_reads' HO_5.out).2.2 | (with_reducible refine Kd.C_alloc ?_ _) | (with_reducible refine Kd.C_drewN ?_ _) | (with_reducible refine Kd.C_drew ?_))); (case aB => exact (by repeat (first | (with_reducible first | exact HB.out | apply below_alloc | apply pw_below_drewN | apply below_drew1 | refine below_set ?_ GE211.out | refine below_set ?_ GE222.out) | exact HB.out))); (case aF => exact (fun k_ hk => ⟨Kd.fresh' (Kd.R_lt (by (with_reducible repeat (first | apply Kd.R_alloc | apply Kd.R_drewN | apply Kd.R_drew)); exact HO_5.out)) k_ hk, Kd.fresh' (Kd.R_lt (by (with_reducible repeat (first | apply Kd.R_alloc | apply Kd.R_drewN | apply Kd.R_drew)); exact HO_6.out)) k_ hk, Kd.fresh' (Kd.R_lt (by (with_reducible repeat (first | apply Kd.R_alloc | apply Kd.R_drewN | apply Kd.R_drew)); exact HO_212007.out)) k_ hk, Kd.fresh' (Kd.R_lt (by (with_reducible repeat (first | apply Kd.R_alloc | apply Kd.R_drewN | apply Kd.R_drew)); exact HO_223007.out)) k_ hk⟩)); (case aO => exact (by (with_reducible repeat (first | apply Kd.R_alloc | apply Kd.R_drewN | apply Kd.R_drew)); exact Kd.R_mono HO226.out (fun _ hk => ⟨hk.1.1.1.2, ⟨hk.1.1.2, ⟨hk.1.2, hk.2⟩⟩⟩))); (case aS => exact (below_size (by repeat (first | (with_reducible first | exact HB.out | apply below_alloc | apply pw_below_drewN | apply below_drew1 | refine below_set ?_ GE211.out | refine below_set ?_ GE222.out) | exact HB.out)))); (case aL => have := LMc31.out; omega); intro v228 w36 ho hb hg hat; rw [← Ny227.out] at ho; have n0_ := Aside0.mk (Kd.R_after (ok := (fun k_ => some k_ ≠ (.slice Ao9 t196.length co9 : Value).ownBlock ∧ some k_ ≠ (.slice Ao13 t208.length co13 : Value).ownBlock ∧ some k_ ≠ (.slice Ao18 t219.length co18 : Value).ownBlock)) (by (with_reducible repeat (first | apply Kd.R_alloc | apply Kd.R_drewN | apply Kd.R_drew)); exact HO_5.out) hg hat); have n1_ := Aside0.mk (Kd.R_after (ok := (fun k_ => some k_ ≠ (.slice Ao8 t195.length co8 : Value).ownBlock ∧ some k_ ≠ (.slice Ao13 t208.length co13 : Value).ownBlock ∧ some k_ ≠ (.slice Ao18 t219.length co18 : Value).ownBlock)) (by (with_reducible repeat (first | apply Kd.R_alloc | apply Kd.R_drewN | apply Kd.R_drew)); exact HO_6.out) hg hat); have n2_ := Aside0.mk (Kd.R_after (ok := (fun k_ => some k_ ≠ (.slice Ao8 t195.length co8 : Value).ownBlock ∧ some k_ ≠ (.slice Ao9 t196.length co9 : Value).ownBlock ∧ some k_ ≠ (.slice Ao18 t219.length co18 : Value).ownBlock)) (by (with_reducible repeat (first | apply Kd.R_alloc | apply Kd.R_drewN | apply Kd.R_drew)); exact HO_212007.out) hg hat); have n3_ := Aside0.mk (Kd.R_after (ok := (fun k_ => some k_ ≠ (.slice Ao8 t195.length co8 : Value).ownBlock ∧ some k_ ≠ (.slice Ao9 t196.length co9 : Value).ownBlock ∧ some k_ ≠ (.slice Ao13 t208.length co13 : Value).ownBlock)) (by (with_reducible repeat (first | apply Kd.R_alloc | apply Kd.R_drewN | apply Kd.R_drew)); exact HO_223007.out) hg hat); have n4_ := Aside0.mk (blk_grown (g := gb211) (o := .cells #[.int .i64 t201, .int .i64 t202, .int .i64 t203, .int .i64 t204, .int .i64 t205, .int .i64 t206, .int .i64 t207, .slice Ao13 t208.length co13] 50 (0, 0)) (by (with_reducible repeat (first | refine blk_drewN ?_ _ | refine blk_drew ?_ | refine blk_alloc ?_ _)); exact BK211.out) hg (Kd.R_ne HO226.out BK211.out (by decide))); have n5_ := Aside0.mk (blk_grown (g := gb222) (o := .cells #[.int .i64 t212, .int .i64 t213, .int .i64 t214, .int .i64 t215, .int .i64 t216, .int .i64 t217, .int .i64 t218, .slice Ao18 t219.length co18] 50 (0, 0)) (by (with_reducible repeat (first | refine blk_drewN ?_ _ | refine blk_drew ?_ | refine blk_alloc ?_ _)); exact BK222.out) hg (Kd.R_ne HO226.out BK222.out (by decide))); have n6_ := Aside0.mk (hb); have n7_ := Aside0.mk (ho); clear HO_5; clear HO_6; clear HO_212007; clear HO_223007; clear BK211; clear BK222; clear HB; clear HO226; have HO_5 := n0_; have HO_6 := n1_; have HO_212007 := n2_; have HO_223007 := n3_; have BK211 := n4_; have BK222 := n5_; have HB := n6_; have HO229 := n7_; clear n0_ n1_ n2_ n3_ n4_ n5_ n6_ n7_; clear ho hb hg hat; have hcz37_0 : w36.cell? ⟨gb211, 0, none⟩ = some (.int .i64 t201) := (blk_cell BK211.out 0).trans rfl; have hcz37_1 : w36.cell? ⟨gb211, 1, none⟩ = some (.int .i64 t202) := (blk_cell BK211.out 1).trans rfl; have hcz37_2 : w36.cell? ⟨gb211, 2, none⟩ = some (.int .i64 t203) := (blk_cell BK211.out 2).trans rfl; have hcz37_3 : w36.cell? ⟨gb211, 3, none⟩ = some (.int .i64 t204) := (blk_cell BK211.out 3).trans rfl; have hcz37_4 : w36.cell? ⟨gb211, 4, none⟩ = some (.int .i64 t205) := (blk_cell BK211.out 4).trans rfl; have hcz37_5 : w36.cell? ⟨gb211, 5, none⟩ = some (.int .i64 t206) := (blk_cell BK211.out 5).trans rfl; have hcz37_6 : w36.cell? ⟨gb211, 6, none⟩ = some (.int .i64 t207) := (blk_cell BK211.out 6).trans rfl; have hcz37_7 : w36.cell? ⟨gb211, 7, none⟩ = some (.slice Ao13 t208.length co13) := (blk_cell BK211.out 7).trans rfl; have hfz37_0 := blk_frozen BK211.out 0; have hfz37_1 := blk_frozen BK211.out 1; have hfz37_2 := blk_frozen BK211.out 2; have hfz37_3 := blk_frozen BK211.out 3; have hfz37_4 := blk_frozen BK211.out 4; have hfz37_5 := blk_frozen BK211.out 5; have hfz37_6 := blk_frozen BK211.out 6; have hfz37_7 := blk_frozen BK211.out 7))
      go_loopg [55] kj5 (fun kq v55 w' => ∃ (x9_2 : List Int) (x55_2 : Int), v55 = .int .i64 x55_2 ∧ Aside0 (laws_FnBetween.l0 kq t193 t196 x9_2 (t208.length : Int) x55_2 t201 t202 t203 t204 t205 t206 t207 t208 = some r) ∧ Aside0 (kq ≤ kj5) ∧ Aside0 (Kd.R (Kd.int .i64) 3 w' w.heap.size (fun k_ => some k_ ≠ (v228 : Value).ownBlock ∧ some k_ ≠ ((.slice Ao13 t208.length co13) : Value).ownBlock ∧ some k_ ≠ ((.slice Ao18 t219.length co18) : Value).ownBlock) (.slice Ao9 t196.length co9) t196) ∧ Aside0 (Kd.R (Kd.int .i64) 3 w' w.heap.size (fun k_ => some k_ ≠ ((.slice Ao9 t196.length co9) : Value).ownBlock ∧ some k_ ≠ ((.slice Ao13 t208.length co13) : Value).ownBlock ∧ some k_ ≠ ((.slice Ao18 t219.length co18) : Value).ownBlock) v228 x9_2) ∧ Aside0 (Kd.R (Kd.int .i64) 3 w' w.heap.size (fun k_ => some k_ ≠ ((.slice Ao9 t196.length co9) : Value).ownBlock ∧ some k_ ≠ (v228 : Value).ownBlock ∧ some k_ ≠ ((.slice Ao18 t219.length co18) : Value).ownBlock) (.slice Ao13 t208.length co13) t208) ∧ Aside0 (Kd.R (Kd.int .i64) 3 w' w.heap.size (fun k_ => some k_ ≠ ((.slice Ao9 t196.length co9) : Value).ownBlock ∧ some k_ ≠ (v228 : Value).ownBlock ∧ some k_ ≠ ((.slice Ao13 t208.length co13) : Value).ownBlock) (.slice Ao18 t219.length co18) t219) ∧ Aside0 (w'.heap[gb211]? = some (.cells #[.int .i64 t201, .int .i64 t202, .int .i64 t203, .int .i64 t204, .int .i64 t205, .int .i64 t206, .int .i64 t207, (.slice Ao13 t208.length co13)] 50 (0, 0))) ∧ Aside0 (w'.heap[gb222]? = some (.cells #[.int .i64 t212, .int .i64 t213, .int .i64 t214, .int .i64 t215, .int .i64 t216, .int .i64 t217, .int .i64 t218, (.slice Ao18 t219.length co18)] 50 (0, 0))) ∧ Aside0 (Below w.heap.size w w'))
      case atStart => exact ⟨(y227), (0), (by first | rfl | (simp; done) | (simp [*]; done)), H', ⟨Nat.le_refl _⟩, ⟨by (with_reducible repeat (first | apply Kd.R_alloc | apply Kd.R_drewN | apply Kd.R_drew)); exact Kd.R_mono HO_6.out (fun _ hk => ⟨hk.2, ⟨hk.1.2.1, hk.1.2.2⟩⟩)⟩, ⟨by (with_reducible repeat (first | apply Kd.R_alloc | apply Kd.R_drewN | apply Kd.R_drew)); exact Kd.R_mono HO229.out (fun _ hk => ⟨hk.2.1, ⟨hk.2.2.1, hk.2.2.2⟩⟩)⟩, ⟨by (with_reducible repeat (first | apply Kd.R_alloc | apply Kd.R_drewN | apply Kd.R_drew)); exact Kd.R_mono HO_212007.out (fun _ hk => ⟨hk.1.2.1, ⟨hk.2, hk.1.2.2⟩⟩)⟩, ⟨by (with_reducible repeat (first | apply Kd.R_alloc | apply Kd.R_drewN | apply Kd.R_drew)); exact Kd.R_mono HO_223007.out (fun _ hk => ⟨hk.1.2.1, ⟨hk.2, hk.1.2.2⟩⟩)⟩, ⟨by (with_reducible repeat (first | refine blk_drewN ?_ _ | refine blk_drew ?_ | refine blk_alloc ?_ _)); exact BK211.out⟩, ⟨by (with_reducible repeat (first | refine blk_drewN ?_ _ | refine blk_drew ?_ | refine blk_alloc ?_ _)); exact BK222.out⟩, ⟨by repeat (first | (with_reducible first | exact HB.out | apply below_alloc | apply pw_below_drewN | apply below_drew1 | refine below_set ?_ GE211.out | refine below_set ?_ GE222.out) | exact HB.out)⟩⟩
      case round =>
        clear H'
        try clear c1
        try clear c2
        try clear c2b0
        try clear c2b1
        try clear c2b2
        try clear p2
        try clear c3
        try clear c5
        try clear c16
        try clear c19
        try clear c19b0
        try clear c19b1
        try clear c21
        try clear c24
        try clear c27
        try clear c28
        try clear c28b0
        try clear c28b1
        try clear c29
        try clear c30
        try clear c31
        try clear c32
        try clear hcz12_0
        try clear hcz12_1
        try clear hcz12_2
        try clear hcz12_3
        try clear hcz12_4
        try clear hcz12_5
        try clear hcz12_6
        try clear hcz12_7
        try clear hcz17_0
        try clear hcz17_1
        try clear hcz17_2
        try clear hcz17_3
        try clear hcz17_4
        try clear hcz17_5
        try clear hcz17_6
        try clear hcz17_7
        try clear hcz22_0
        try clear hcz22_1
        try clear hcz22_2
        try clear hcz22_3
        try clear hcz22_4
        try clear hcz22_5
        try clear hcz22_6
        try clear hcz22_7
        try clear hcz23_0
        try clear hcz23_1
        try clear hcz23_2
        try clear hcz23_3
        try clear hcz23_4
        try clear hcz23_5
        try clear hcz23_6
        try clear hcz23_7
        try clear hcz25_0
        try clear hcz25_1
        try clear hcz25_2
        try clear hcz25_3
        try clear hcz25_4
        try clear hcz25_5
        try clear hcz25_6
        try clear hcz25_7
        try clear hcz26_0
        try clear hcz26_1
        try clear hcz26_2
        try clear hcz26_3
        try clear hcz26_4
        try clear hcz26_5
        try clear hcz26_6
        try clear hcz26_7
        try clear hcz30_0
        try clear hcz30_1
        try clear hcz30_2
        try clear hcz30_3
        try clear hcz30_4
        try clear hcz30_5
        try clear hcz30_6
        try clear hcz30_7
        try clear hcz33_0
        try clear hcz33_1
        try clear hcz33_2
        try clear hcz33_3
        try clear hcz33_4
        try clear hcz33_5
        try clear hcz33_6
        try clear hcz33_7
        try clear hcz37_0
        try clear hcz37_1
        try clear hcz37_2
        try clear hcz37_3
        try clear hcz37_4
        try clear hcz37_5
        try clear hcz37_6
        try clear hcz37_7
        try clear hfz12_0
        try clear hfz12_1
        try clear hfz12_2
        try clear hfz12_3
        try clear hfz12_4
        try clear hfz12_5
        try clear hfz12_6
        try clear hfz12_7
        try clear hfz17_0
        try clear hfz17_1
        try clear hfz17_2
        try clear hfz17_3
        try clear hfz17_4
        try clear hfz17_5
        try clear hfz17_6
        try clear hfz17_7
        try clear hfz22_0
        try clear hfz22_1
        try clear hfz22_2
        try clear hfz22_3
        try clear hfz22_4
        try clear hfz22_5
        try clear hfz22_6
        try clear hfz22_7
        try clear hfz23_0
        try clear hfz23_1
        try clear hfz23_2
        try clear hfz23_3
        try clear hfz23_4
        try clear hfz23_5
        try clear hfz23_6
        try clear hfz23_7
        try clear hfz25_0
        try clear hfz25_1
        try clear hfz25_2
        try clear hfz25_3
        try clear hfz25_4
        try clear hfz25_5
        try clear hfz25_6
        try clear hfz25_7
        try clear hfz26_0
        try clear hfz26_1
        try clear hfz26_2
        try clear hfz26_3
        try clear hfz26_4
        try clear hfz26_5
        try clear hfz26_6
        try clear hfz26_7
        try clear hfz30_0
        try clear hfz30_1
        try clear hfz30_2
        try clear hfz30_3
        try clear hfz30_4
        try clear hfz30_5
        try clear hfz30_6
        try clear hfz30_7
        try clear hfz33_0
        try clear hfz33_1
        try clear hfz33_2
        try clear hfz33_3
        try clear hfz33_4
        try clear hfz33_5
        try clear hfz33_6
        try clear hfz33_7
        try clear hfz37_0
        try clear hfz37_1
        try clear hfz37_2
        try clear hfz37_3
        try clear hfz37_4
        try clear hfz37_5
        try clear hfz37_6
        try clear hfz37_7
        try clear p2
        obtain ⟨x9_2, x55_2, rfl, HA, HK2, HO_6, HO_9, HO_212007, HO_223007, BK211, BK222, HB⟩ := hrel
        cases gk with
        | zero => exact absurd HA.out (by simp [laws_FnBetween.l0])
        | succ k2 =>
          have H := HA.out
          clear HA
          simp only [laws_FnBetween.l0] at H
          by_cases c38 : x55_2 < (t208.length : Int)
          · rw [if_pos c38] at H
            have c38b0 : decide (x55_2 < (t208.length : Int)) = true := decide_eq_true c38
            clear c38
            by_cases c39 : 0 ≤ x55_2
            rotate_left
            · rw [if_neg c39] at H
              exact absurd H (by simp)
            rw [if_pos c39] at H
            have c39b0 : decide (0 ≤ x55_2) = true := decide_eq_true c39
            clear c39
            by_cases c40 : x55_2 < (t208.length : Int)
            rotate_left
            · rw [if_neg c40] at H
              exact absurd H (by simp)
            rw [if_pos c40] at H
            have c40b0 : decide (x55_2 < (t208.length : Int)) = true := decide_eq_true c40
            clear c40
            by_cases c41 : (rd t208 x55_2) = t207
            · rw [if_pos c41] at H
              have c41b0 : ((rd t208 x55_2) == t207) = true := beq_iff_eq.mpr c41
              have c41b1 : ((rd t208 x55_2) != t207) = false := bne_eq_false_iff_eq.mpr c41
              clear c41
              have H' := Aside0.mk H
              clear H
              have p230 : 0 ≤ (x55_2 : Int) := of_decide_eq_true (by first | (with_reducible assumption) | assumption)
              have q230 : x55_2 < (t208.length : Int) := of_decide_eq_true (by first | (with_reducible assumption) | assumption)
              obtain ⟨ad230, e230, hx230_0⟩ := Kd.at_int (Kd.R_reads' HO_212007.out).2.2 x55_2 p230 q230
              cases e230
              replace p230 := eq_true p230
              replace q230 := eq_true q230
              have hnb42 := NB211_222.out
              have hnc42 := NB222_211.out
              have hcz43_0 : wr.cell? ⟨gb211, 0, none⟩ = some (.int .i64 t201) := (blk_cell BK211.out 0).trans rfl
              have hcz43_1 : wr.cell? ⟨gb211, 1, none⟩ = some (.int .i64 t202) := (blk_cell BK211.out 1).trans rfl
              have hcz43_2 : wr.cell? ⟨gb211, 2, none⟩ = some (.int .i64 t203) := (blk_cell BK211.out 2).trans rfl
              have hcz43_3 : wr.cell? ⟨gb211, 3, none⟩ = some (.int .i64 t204) := (blk_cell BK211.out 3).trans rfl
              have hcz43_4 : wr.cell? ⟨gb211, 4, none⟩ = some (.int .i64 t205) := (blk_cell BK211.out 4).trans rfl
              have hcz43_5 : wr.cell? ⟨gb211, 5, none⟩ = some (.int .i64 t206) := (blk_cell BK211.out 5).trans rfl
              have hcz43_6 : wr.cell? ⟨gb211, 6, none⟩ = some (.int .i64 t207) := (blk_cell BK211.out 6).trans rfl
              have hcz43_7 : wr.cell? ⟨gb211, 7, none⟩ = some (.slice (some ad230) t208.length co13) := (blk_cell BK211.out 7).trans rfl
              have hfz43_0 := blk_frozen BK211.out 0
              have hfz43_1 := blk_frozen BK211.out 1
              have hfz43_2 := blk_frozen BK211.out 2
              have hfz43_3 := blk_frozen BK211.out 3
              have hfz43_4 := blk_frozen BK211.out 4
              have hfz43_5 := blk_frozen BK211.out 5
              have hfz43_6 := blk_frozen BK211.out 6
              have hfz43_7 := blk_frozen BK211.out 7
              go_wp2
              go_roundg k2
              case measure => have := HJ5.out; have := HK2.out; omega
              case rel => exact ⟨(x9_2), (wrap64 (x55_2 + 1)), (by first | rfl | (simp; done) | (simp [*]; done)), H', ⟨by have := HJ5.out; have := HK2.out; omega⟩, ⟨by (with_reducible repeat (first | apply Kd.R_alloc | apply Kd.R_drewN | apply Kd.R_drew)); exact HO_6.out⟩, ⟨by (with_reducible repeat (first | apply Kd.R_alloc | apply Kd.R_drewN | apply Kd.R_drew)); exact HO_9.out⟩, ⟨by (with_reducible repeat (first | apply Kd.R_alloc | apply Kd.R_drewN | apply Kd.R_drew)); exact HO_212007.out⟩, ⟨by (with_reducible repeat (first | apply Kd.R_alloc | apply Kd.R_drewN | apply Kd.R_drew)); exact HO_223007.out⟩, ⟨by (with_reducible repeat (first | refine blk_drewN ?_ _ | refine blk_drew ?_ | refine blk_alloc ?_ _)); exact BK211.out⟩, ⟨by (with_reducible repeat (first | refine blk_drewN ?_ _ | refine blk_drew ?_ | refine blk_alloc ?_ _)); exact BK222.out⟩, ⟨by repeat (first | (with_reducible first | exact HB.out | apply below_alloc | apply pw_below_drewN | apply below_drew1 | refine below_set ?_ GE211.out | refine below_set ?_ GE222.out) | exact HB.out)⟩⟩
            rw [if_neg c41] at H
            have c41b0 : ((rd t208 x55_2) == t207) = false := beq_eq_false_iff_ne.mpr c41
            have c41b1 : ((rd t208 x55_2) != t207) = true := bne_iff_ne.mpr c41
            by_cases c44 : t203 = 0
            · rw [if_pos c44] at H
              exact absurd H (by simp)
            rw [if_neg c44] at H
            have c44b0 : (t203 == 0) = false := beq_eq_false_iff_ne.mpr c44
            have c44b1 : (t203 != 0) = true := bne_iff_ne.mpr c44
            obtain ⟨ji45, hji45⟩ : ∃ j_ : Int, (wrap64 ((wrap64 ((wrap64 ((wrap64 (t202 + (wrap64 (Int.tdiv x55_2 t203)))) * t193)) + t201)) + (Int.tmod x55_2 t203))) = j_ := ⟨_, rfl⟩
            replace H : (if 0 ≤ (ji45) then (if (ji45) < (x9_2.length : Int) then (laws_FnBetween.l0 k2 t193 t196 (x9_2.set ((ji45) : Int).toNat (rd t208 x55_2)) (t208.length : Int) (wrap64 (x55_2 + 1)) t201 t202 t203 t204 t205 t206 t207 t208) else (none)) else (none)) = some r := by first | (rw [hji45] at H; exact H) | (simp only [hji45] at H ⊢; exact H)
            have hji45w : (IntKind.i64.wrap ((wrap64 ((wrap64 ((wrap64 (t202 + (wrap64 (Int.tdiv x55_2 t203)))) * t193)) + t201)) + (Int.tmod x55_2 t203))) = ji45 := (i64_w _).trans hji45
            by_cases c46 : 0 ≤ (ji45)
            rotate_left
            · rw [if_neg c46] at H
              exact absurd H (by simp)
            rw [if_pos c46] at H
            have c46b0 : decide (0 ≤ (ji45)) = true := decide_eq_true c46
            clear c46
            by_cases c47 : (ji45) < (x9_2.length : Int)
            rotate_left
            · rw [if_neg c47] at H
              exact absurd H (by simp)
            rw [if_pos c47] at H
            have c47b0 : decide ((ji45) < (x9_2.length : Int)) = true := decide_eq_true c47
            clear c47
            obtain ⟨y231, hy231⟩ : ∃ y_ : List Int, y_ = (x9_2.set ((ji45) : Int).toNat (rd t208 x55_2)) := ⟨_, rfl⟩
            replace H : (laws_FnBetween.l0 k2 t193 t196 y231 (t208.length : Int) (wrap64 (x55_2 + 1)) t201 t202 t203 t204 t205 t206 t207 t208) = some r := by first | (rw [hy231]; with_reducible exact H) | (have H2_ := (Option.bind_some _ _).symm.trans H; rw [hy231]; with_reducible exact H2_) | (have H2_ := (Option.bind_some _ _).symm.trans H; with_reducible exact H2_) | with_reducible exact H | (rw [hy231]; exact H) | exact H
            have Ny231 := Aside0.mk hy231
            clear hy231
            have H' := Aside0.mk H
            clear H
            have p230 : 0 ≤ (x55_2 : Int) := of_decide_eq_true (by first | (with_reducible assumption) | assumption)
            have q230 : x55_2 < (t208.length : Int) := of_decide_eq_true (by first | (with_reducible assumption) | assumption)
            obtain ⟨ad230, e230, hx230_0⟩ := Kd.at_int (Kd.R_reads' HO_212007.out).2.2 x55_2 p230 q230
            cases e230
            replace p230 := eq_true p230
            replace q230 := eq_true q230
            have hnb49 := NB211_222.out
            have hnc49 := NB222_211.out
            have hcz50_0 : wr.cell? ⟨gb211, 0, none⟩ = some (.int .i64 t201) := (blk_cell BK211.out 0).trans rfl
            have hcz50_1 : wr.cell? ⟨gb211, 1, none⟩ = some (.int .i64 t202) := (blk_cell BK211.out 1).trans rfl
            have hcz50_2 : wr.cell? ⟨gb211, 2, none⟩ = some (.int .i64 t203) := (blk_cell BK211.out 2).trans rfl
            have hcz50_3 : wr.cell? ⟨gb211, 3, none⟩ = some (.int .i64 t204) := (blk_cell BK211.out 3).trans rfl
            have hcz50_4 : wr.cell? ⟨gb211, 4, none⟩ = some (.int .i64 t205) := (blk_cell BK211.out 4).trans rfl
            have hcz50_5 : wr.cell? ⟨gb211, 5, none⟩ = some (.int .i64 t206) := (blk_cell BK211.out 5).trans rfl
            have hcz50_6 : wr.cell? ⟨gb211, 6, none⟩ = some (.int .i64 t207) := (blk_cell BK211.out 6).trans rfl
            have hcz50_7 : wr.cell? ⟨gb211, 7, none⟩ = some (.slice (some ad230) t208.length co13) := (blk_cell BK211.out 7).trans rfl
            have hfz50_0 := blk_frozen BK211.out 0
            have hfz50_1 := blk_frozen BK211.out 1
            have hfz50_2 := blk_frozen BK211.out 2
            have hfz50_3 := blk_frozen BK211.out 3
            have hfz50_4 := blk_frozen BK211.out 4
            have hfz50_5 := blk_frozen BK211.out 5
            have hfz50_6 := blk_frozen BK211.out 6
            have hfz50_7 := blk_frozen BK211.out 7
            try go_wp2
            have n0_ := Aside0.mk (Kd.R_drew HO_6.out)
            have n1_ := Aside0.mk (Kd.R_drew HO_9.out)
            have n2_ := Aside0.mk (Kd.R_drew HO_212007.out)
            have n3_ := Aside0.mk (Kd.R_drew HO_223007.out)
            have n4_ := Aside0.mk (blk_drew BK211.out)
            have n5_ := Aside0.mk (blk_drew BK222.out)
            have n6_ := Aside0.mk (below_drew1 HB.out)
            clear HO_6
            clear HO_9
            clear HO_212007
            clear HO_223007
            clear BK211
            clear BK222
            clear HB
            have HO_6 := n0_
            have HO_9 := n1_
            have HO_212007 := n2_
            have HO_223007 := n3_
            have BK211 := n4_
            have BK222 := n5_
            have HB := n6_
            clear n0_ n1_ n2_ n3_ n4_ n5_ n6_
            have p48 : 0 ≤ ((ji45) : Int) := of_decide_eq_true (by first | (with_reducible assumption) | assumption)
            have q48 : ((ji45) : Int) < ((x9_2.length : Int) : Int) := of_decide_eq_true (by first | (with_reducible assumption) | assumption)
            obtain ⟨go48, co48, eo48, gb48, gl48, cl48, HG48⟩ := Kd.R_form HO_9.out (by omega)
            (first | cases eo48 | (injection eo48 with ea_ en_ ec_; (first | subst ea_ | (injection ea_ with ea_; subst ea_)); subst ec_; clear en_))
            have GB48 := Aside0.mk gb48
            have GG48 := Aside0.mk HG48
            clear gb48 gl48 HG48
            obtain ⟨hx48_0, hf48_0⟩ := Kd.R_celln 0 HO_9.out ((ji45) : Int) p48 q48
            replace p48 := eq_true p48
            replace q48 := eq_true q48
            have HP52 := Kd.R_putn HO_9.out ((ji45) : Int) (rd t208 x55_2)
            rw [← Ny231.out] at HP52
            have HQ52 := Aside0.mk HP52
            clear HP52
            refine start_ (n := 21) (S := fun w' => w'.cell? ⟨gb211, 0, none⟩ = some (.int .i64 t201) ∧ w'.cell? ⟨gb211, 1, none⟩ = some (.int .i64 t202) ∧ w'.cell? ⟨gb211, 2, none⟩ = some (.int .i64 t203) ∧ w'.cell? ⟨gb211, 3, none⟩ = some (.int .i64 t204) ∧ w'.cell? ⟨gb211, 4, none⟩ = some (.int .i64 t205) ∧ w'.cell? ⟨gb211, 5, none⟩ = some (.int .i64 t206) ∧ w'.cell? ⟨gb211, 6, none⟩ = some (.int .i64 t207) ∧ w'.cell? ⟨gb211, 7, none⟩ = some (.slice (some ad230) t208.length co13)) (ds := [20]) #[false, false, false, false, false, false, false, false, false, false, false, false, false, false, false, false, false, false, false, false, false] (by kernel_rfl) rfl rfl ⟨(blk_cell BK211.out 0).trans rfl, (blk_cell BK211.out 1).trans rfl, (blk_cell BK211.out 2).trans rfl, (blk_cell BK211.out 3).trans rfl, (blk_cell BK211.out 4).trans rfl, (blk_cell BK211.out 5).trans rfl, (blk_cell BK211.out 6).trans rfl, (blk_cell BK211.out 7).trans rfl⟩ (fun hHeld => ?_); refine with_tabW laws_FnBetween.tab15 laws_FnBetween.bits15 (fun HT_ HW_ => ?_)
            generalize wr.drew = w51 at HO_6 HO_9 HO_212007 HO_223007 BK211 BK222 HB GG48 HQ52 hf48_0 hx48_0 hHeld ⊢
            refine pure_ (i := 0) (N := some 64) (v := ?_) (a' := ?_) #[true, false, false, false, false, false, false, false, false, false, false, false, false, false, false, false, false, false, false, false, false] rfl rfl (any_of HT_.out (by kernel_rfl)) (fun _ _ _ h => h) (Or.inl ⟨by rfl, ?_⟩) ?_ ?_
            rotate_left
            · intro w'
              go_simp
              with_reducible rfl
            rotate_left
            · simp only [Act.put, List.setIfInBounds_toArray, List.set_cons_zero, List.set_cons_succ, i64_w, i32_w]
              rfl
            refine pure_ (i := 1) (N := some 65) (v := ?_) (a' := ?_) #[true, true, false, false, false, false, false, false, false, false, false, false, false, false, false, false, false, false, false, false, false] rfl rfl (any_of HT_.out (by kernel_rfl)) (fun _ _ _ h => h) (Or.inl ⟨by rfl, ?_⟩) ?_ ?_
            rotate_left
            · intro w'
              go_simp
              with_reducible rfl
            rotate_left
            · simp only [Act.put, List.setIfInBounds_toArray, List.set_cons_zero, List.set_cons_succ, i64_w, i32_w]
              rfl
            refine pure_ (i := 3) (N := some 67) (v := ?_) (a' := ?_) #[true, true, false, true, false, false, false, false, false, false, false, false, false, false, false, false, false, false, false, false, false] rfl rfl (any_of HT_.out (by kernel_rfl)) (fun _ _ _ h => h) (Or.inl ⟨by rfl, ?_⟩) ?_ ?_
            rotate_left
            · intro w'
              go_simp
              with_reducible rfl
            rotate_left
            · simp only [Act.put, List.setIfInBounds_toArray, List.set_cons_zero, List.set_cons_succ, i64_w, i32_w]
              rfl
            refine pure_ (i := 4) (N := some 68) (v := ?_) (a' := ?_) #[true, true, false, true, true, false, false, false, false, false, false, false, false, false, false, false, false, false, false, false, false] rfl rfl (any_of HT_.out (by kernel_rfl)) (fun _ _ _ h => h) (Or.inl ⟨by rfl, ?_⟩) ?_ ?_
            rotate_left
            · intro w'
              go_simp
              with_reducible rfl
            rotate_left
            · simp only [Act.put, List.setIfInBounds_toArray, List.set_cons_zero, List.set_cons_succ, i64_w, i32_w]
              rfl
            refine pure_ (i := 8) (N := some 72) (v := ?_) (a' := ?_) #[true, true, false, true, true, false, false, false, true, false, false, false, false, false, false, false, false, false, false, false, false] rfl rfl (any_of HT_.out (by kernel_rfl)) (fun _ _ _ h => h) (Or.inl ⟨by rfl, ?_⟩) ?_ ?_
            rotate_left
            · intro w'
              go_simp
              with_reducible rfl
            rotate_left
            · simp only [Act.put, List.setIfInBounds_toArray, List.set_cons_zero, List.set_cons_succ, i64_w, i32_w]
              rfl
            refine pure_ (i := 10) (N := some 74) (v := ?_) (a' := ?_) #[true, true, false, true, true, false, false, false, true, false, true, false, false, false, false, false, false, false, false, false, false] rfl rfl (any_of HT_.out (by kernel_rfl)) (fun _ _ _ h => h) (Or.inl ⟨by rfl, ?_⟩) ?_ ?_
            rotate_left
            · intro w'
              go_simp
              with_reducible rfl
            rotate_left
            · simp only [Act.put, List.setIfInBounds_toArray, List.set_cons_zero, List.set_cons_succ, i64_w, i32_w]
              rfl
            refine pure_ (i := 13) (N := some 77) (v := ?_) (a' := ?_) #[true, true, false, true, true, false, false, false, true, false, true, false, false, true, false, false, false, false, false, false, false] rfl rfl (any_of HT_.out (by kernel_rfl)) (fun _ _ _ h => h) (Or.inl ⟨by rfl, ?_⟩) ?_ ?_
            rotate_left
            · intro w'
              go_simp
              with_reducible rfl
            rotate_left
            · simp only [Act.put, List.setIfInBounds_toArray, List.set_cons_zero, List.set_cons_succ, i64_w, i32_w]
              rfl
            refine pure_ (i := 14) (N := some 78) (v := ?_) (a' := ?_) #[true, true, false, true, true, false, false, false, true, false, true, false, false, true, true, false, false, false, false, false, false] rfl rfl (any_of HT_.out (by kernel_rfl)) (fun _ _ _ h => h) (Or.inl ⟨by rfl, ?_⟩) ?_ ?_
            rotate_left
            · intro w'
              go_simp
              with_reducible rfl
            rotate_left
            · simp only [Act.put, List.setIfInBounds_toArray, List.set_cons_zero, List.set_cons_succ, i64_w, i32_w]
              rfl
            refine pure_ (i := 18) (N := some 82) (v := ?_) (a' := ?_) #[true, true, false, true, true, false, false, false, true, false, true, false, false, true, true, false, false, false, true, false, false] rfl rfl (any_of HT_.out (by kernel_rfl)) (fun _ _ _ h => h) (Or.inl ⟨by rfl, ?_⟩) ?_ ?_
            rotate_left
            · intro w'
              go_simp
              with_reducible rfl
            rotate_left
            · simp only [Act.put, List.setIfInBounds_toArray, List.set_cons_zero, List.set_cons_succ, i64_w, i32_w]
              rfl
            refine take_ (i := 2) (N := some 66) (v := ?_) (a' := ?_) #[true, true, true, true, true, false, false, false, true, false, true, false, false, true, true, false, false, false, true, false, false] rfl rfl (take_ofW HT_.out HW_.out (by kernel_rfl)) (fun _ _ _ h => h) (Or.inl ⟨by rfl, ?_⟩) hHeld ?_ ?_
            rotate_left
            · rintro w' ⟨s0, s1, s2, s3, s4, s5, s6, s7⟩
              go_simp
              with_reducible rfl
            rotate_left
            · simp only [Act.put, List.setIfInBounds_toArray, List.set_cons_zero, List.set_cons_succ, i64_w, i32_w]
              rfl
            refine take_ (i := 5) (N := some 69) (v := ?_) (a' := ?_) #[true, true, true, true, true, true, false, false, true, false, true, false, false, true, true, false, false, false, true, false, false] rfl rfl (take_ofW HT_.out HW_.out (by kernel_rfl)) (fun _ _ _ h => h) (Or.inl ⟨by rfl, ?_⟩) hHeld ?_ ?_
            rotate_left
            · rintro w' ⟨s0, s1, s2, s3, s4, s5, s6, s7⟩
              go_simp
              with_reducible rfl
            rotate_left
            · simp only [Act.put, List.setIfInBounds_toArray, List.set_cons_zero, List.set_cons_succ, i64_w, i32_w]
              rfl
            refine pure_ (i := 6) (N := some 70) (v := ?_) (a' := ?_) #[true, true, true, true, true, true, true, false, true, false, true, false, false, true, true, false, false, false, true, false, false] rfl rfl (any_of HT_.out (by kernel_rfl)) (fun _ _ _ h => h) (Or.inl ⟨by rfl, ?_⟩) ?_ ?_
            rotate_left
            · intro w'
              go_simp
              with_reducible rfl
            rotate_left
            · simp only [Act.put, List.setIfInBounds_toArray, List.set_cons_zero, List.set_cons_succ, i64_w, i32_w]
              rfl
            refine pure_ (i := 7) (N := some 71) (v := ?_) (a' := ?_) #[true, true, true, true, true, true, true, true, true, false, true, false, false, true, true, false, false, false, true, false, false] rfl rfl (any_of HT_.out (by kernel_rfl)) (fun _ _ _ h => h) (Or.inl ⟨by rfl, ?_⟩) ?_ ?_
            rotate_left
            · intro w'
              go_simp
              with_reducible rfl
            rotate_left
            · simp only [Act.put, List.setIfInBounds_toArray, List.set_cons_zero, List.set_cons_succ, i64_w, i32_w]
              rfl
            refine pure_ (i := 9) (N := some 73) (v := ?_) (a' := ?_) #[true, true, true, true, true, true, true, true, true, true, true, false, false, true, true, false, false, false, true, false, false] rfl rfl (any_of HT_.out (by kernel_rfl)) (fun _ _ _ h => h) (Or.inl ⟨by rfl, ?_⟩) ?_ ?_
            rotate_left
            · intro w'
              go_simp
              with_reducible rfl
            rotate_left
            · simp only [Act.put, List.setIfInBounds_toArray, List.set_cons_zero, List.set_cons_succ, i64_w, i32_w]
              rfl
            refine take_ (i := 11) (N := some 75) (v := ?_) (a' := ?_) #[true, true, true, true, true, true, true, true, true, true, true, true, false, true, true, false, false, false, true, false, false] rfl rfl (take_ofW HT_.out HW_.out (by kernel_rfl)) (fun _ _ _ h => h) (Or.inl ⟨by rfl, ?_⟩) hHeld ?_ ?_
            rotate_left
            · rintro w' ⟨s0, s1, s2, s3, s4, s5, s6, s7⟩
              go_simp
              with_reducible rfl
            rotate_left
            · simp only [Act.put, List.setIfInBounds_toArray, List.set_cons_zero, List.set_cons_succ, i64_w, i32_w]
              rfl
            refine pure_ (i := 12) (N := some 76) (v := ?_) (a' := ?_) #[true, true, true, true, true, true, true, true, true, true, true, true, true, true, true, false, false, false, true, false, false] rfl rfl (any_of HT_.out (by kernel_rfl)) (fun _ _ _ h => h) (Or.inl ⟨by rfl, ?_⟩) ?_ ?_
            rotate_left
            · intro w'
              go_simp
              with_reducible rfl
            rotate_left
            · simp only [Act.put, List.setIfInBounds_toArray, List.set_cons_zero, List.set_cons_succ, i64_w, i32_w]
              rfl
            refine take_ (i := 15) (N := some 79) (v := ?_) (a' := ?_) #[true, true, true, true, true, true, true, true, true, true, true, true, true, true, true, true, false, false, true, false, false] rfl rfl (take_ofW HT_.out HW_.out (by kernel_rfl)) (fun _ _ _ h => h) (Or.inl ⟨by rfl, ?_⟩) hHeld ?_ ?_
            rotate_left
            · rintro w' ⟨s0, s1, s2, s3, s4, s5, s6, s7⟩
              go_simp
              with_reducible rfl
            rotate_left
            · simp only [Act.put, List.setIfInBounds_toArray, List.set_cons_zero, List.set_cons_succ, i64_w, i32_w]
              rfl
            refine pure_ (i := 16) (N := some 80) (v := ?_) (a' := ?_) #[true, true, true, true, true, true, true, true, true, true, true, true, true, true, true, true, true, false, true, false, false] rfl rfl (any_of HT_.out (by kernel_rfl)) (fun _ _ _ h => h) (Or.inl ⟨by rfl, ?_⟩) ?_ ?_
            rotate_left
            · intro w'
              go_simp
              with_reducible rfl
            rotate_left
            · simp only [Act.put, List.setIfInBounds_toArray, List.set_cons_zero, List.set_cons_succ, i64_w, i32_w]
              rfl
            refine pure_ (i := 17) (N := some 81) (v := ?_) (a' := ?_) #[true, true, true, true, true, true, true, true, true, true, true, true, true, true, true, true, true, true, true, false, false] rfl rfl (any_of HT_.out (by kernel_rfl)) (fun _ _ _ h => h) (Or.inl ⟨by rfl, ?_⟩) ?_ ?_
            rotate_left
            · intro w'
              go_simp
              with_reducible rfl
            rotate_left
            · simp only [Act.put, List.setIfInBounds_toArray, List.set_cons_zero, List.set_cons_succ, i64_w, i32_w]
              rfl
            refine pure_ (i := 19) (N := some 83) (v := ?_) (a' := ?_) #[true, true, true, true, true, true, true, true, true, true, true, true, true, true, true, true, true, true, true, true, false] rfl rfl (any_of HT_.out (by kernel_rfl)) (fun _ _ _ h => h) (Or.inl ⟨by rfl, ?_⟩) ?_ ?_
            rotate_left
            · intro w'
              go_simp
              with_reducible rfl
            rotate_left
            · simp only [Act.put, List.setIfInBounds_toArray, List.set_cons_zero, List.set_cons_succ, i64_w, i32_w]
              rfl
            refine last_ (i := 20) (N := none) #[true, true, true, true, true, true, true, true, true, true, true, true, true, true, true, true, true, true, true, true, true] rfl rfl (one_of HT_.out (by kernel_rfl)) (by decide) (fun K hK => ?_)
            refine skip_ (w1 := ?_) (by rfl) rfl ?_ ?_
            rotate_left
            · go_simp
              rfl
            refine hK.out _ _ ?_
            clear hK K
            refine done_ (done_of HT_.out (by kernel_rfl)) ?_
            try go_wp2
            go_roundg k2
            case measure => have := HJ5.out; have := HK2.out; omega
            case rel => exact ⟨(y231), (wrap64 (x55_2 + 1)), (by first | rfl | (simp; done) | (simp [*]; done)), H', ⟨by have := HJ5.out; have := HK2.out; omega⟩, ⟨by (with_reducible repeat (first | apply Kd.R_alloc | apply Kd.R_drewN | apply Kd.R_drew)); exact Kd.R_mono (Kd.R_far (p := ⟨go48, ((ji45) : Int).toNat, none⟩) (Kd.R_mono HO_6.out (fun k_ hk => (⟨hk, fun e_ => hk.1 (by rw [e_]; rfl)⟩ : _ ∧ k_ ≠ go48))) (fun _ hk => hk.2) (.int .i64 (rd t208 x55_2))) (fun _ hk => ⟨hk.1.1, ⟨hk.1.2.1, hk.1.2.2⟩⟩)⟩, ⟨by (with_reducible repeat (first | apply Kd.R_alloc | apply Kd.R_drewN | apply Kd.R_drew)); exact HQ52.out⟩, ⟨by (with_reducible repeat (first | apply Kd.R_alloc | apply Kd.R_drewN | apply Kd.R_drew)); exact Kd.R_mono (Kd.R_far (p := ⟨go48, ((ji45) : Int).toNat, none⟩) (Kd.R_mono HO_212007.out (fun k_ hk => (⟨hk, fun e_ => hk.2.1 (by rw [e_]; rfl)⟩ : _ ∧ k_ ≠ go48))) (fun _ hk => hk.2) (.int .i64 (rd t208 x55_2))) (fun _ hk => ⟨hk.1.1, ⟨hk.1.2.1, hk.1.2.2⟩⟩)⟩, ⟨by (with_reducible repeat (first | apply Kd.R_alloc | apply Kd.R_drewN | apply Kd.R_drew)); exact Kd.R_mono (Kd.R_far (p := ⟨go48, ((ji45) : Int).toNat, none⟩) (Kd.R_mono HO_223007.out (fun k_ hk => (⟨hk, fun e_ => hk.2.1 (by rw [e_]; rfl)⟩ : _ ∧ k_ ≠ go48))) (fun _ hk => hk.2) (.int .i64 (rd t208 x55_2))) (fun _ hk => ⟨hk.1.1, ⟨hk.1.2.1, hk.1.2.2⟩⟩)⟩, ⟨by (with_reducible repeat (first | refine blk_drewN ?_ _ | refine blk_drew ?_ | refine blk_alloc ?_ _)); refine blk_far ?_ (by have h_ := Kd.R_ne HO_9.out BK211.out (by decide); intro e_; exact h_ (by rw [e_]; rfl)) _; (with_reducible repeat (first | refine blk_drewN ?_ _ | refine blk_drew ?_ | refine blk_alloc ?_ _)); exact BK211.out⟩, ⟨by (with_reducible repeat (first | refine blk_drewN ?_ _ | refine blk_drew ?_ | refine blk_alloc ?_ _)); refine blk_far ?_ (by have h_ := Kd.R_ne HO_9.out BK222.out (by decide); intro e_; exact h_ (by rw [e_]; rfl)) _; (with_reducible repeat (first | refine blk_drewN ?_ _ | refine blk_drew ?_ | refine blk_alloc ?_ _)); exact BK222.out⟩, ⟨by repeat (first | (with_reducible first | exact HB.out | apply below_alloc | apply pw_below_drewN | apply below_drew1 | refine below_set ?_ GB48.out | refine below_set ?_ GE211.out | refine below_set ?_ GE222.out) | exact HB.out)⟩⟩
          rw [if_neg c38] at H
          have c38b0 : decide (x55_2 < (t208.length : Int)) = false := decide_eq_false c38
          clear c38
          have H' := Aside0.mk H
          clear H
          obtain ⟨Ao53, co53, eo53⟩ := Kd.R_slice HO_9.out
          subst eo53
          go_wp2
          go_loopg [87] k2 (fun kq v87 w' => ∃ (x87_3 : Int), v87 = .int .i64 x87_3 ∧ Aside0 (laws_FnBetween.l1 kq t196 x9_2 (x9_2.length : Int) x87_3 = some r) ∧ Aside0 (kq ≤ k2) ∧ Aside0 (Kd.R (Kd.int .i64) 3 w' w.heap.size (fun k_ => some k_ ≠ ((.slice Ao53 x9_2.length co53) : Value).ownBlock ∧ some k_ ≠ ((.slice Ao13 t208.length co13) : Value).ownBlock ∧ some k_ ≠ ((.slice Ao18 t219.length co18) : Value).ownBlock) (.slice Ao9 t196.length co9) t196) ∧ Aside0 (Kd.R (Kd.int .i64) 3 w' w.heap.size (fun k_ => some k_ ≠ ((.slice Ao9 t196.length co9) : Value).ownBlock ∧ some k_ ≠ ((.slice Ao13 t208.length co13) : Value).ownBlock ∧ some k_ ≠ ((.slice Ao18 t219.length co18) : Value).ownBlock) (.slice Ao53 x9_2.length co53) x9_2) ∧ Aside0 (Kd.R (Kd.int .i64) 3 w' w.heap.size (fun k_ => some k_ ≠ ((.slice Ao9 t196.length co9) : Value).ownBlock ∧ some k_ ≠ ((.slice Ao53 x9_2.length co53) : Value).ownBlock ∧ some k_ ≠ ((.slice Ao18 t219.length co18) : Value).ownBlock) (.slice Ao13 t208.length co13) t208) ∧ Aside0 (Kd.R (Kd.int .i64) 3 w' w.heap.size (fun k_ => some k_ ≠ ((.slice Ao9 t196.length co9) : Value).ownBlock ∧ some k_ ≠ ((.slice Ao53 x9_2.length co53) : Value).ownBlock ∧ some k_ ≠ ((.slice Ao13 t208.length co13) : Value).ownBlock) (.slice Ao18 t219.length co18) t219) ∧ Aside0 (w'.heap[gb211]? = some (.cells #[.int .i64 t201, .int .i64 t202, .int .i64 t203, .int .i64 t204, .int .i64 t205, .int .i64 t206, .int .i64 t207, (.slice Ao13 t208.length co13)] 50 (0, 0))) ∧ Aside0 (w'.heap[gb222]? = some (.cells #[.int .i64 t212, .int .i64 t213, .int .i64 t214, .int .i64 t215, .int .i64 t216, .int .i64 t217, .int .i64 t218, (.slice Ao18 t219.length co18)] 50 (0, 0))) ∧ Aside0 (Below w.heap.size w w'))
          case atStart => exact ⟨(0), (by first | rfl | (simp; done) | (simp [*]; done)), H', ⟨Nat.le_refl _⟩, ⟨by (with_reducible repeat (first | apply Kd.R_alloc | apply Kd.R_drewN | apply Kd.R_drew)); exact HO_6.out⟩, ⟨by (with_reducible repeat (first | apply Kd.R_alloc | apply Kd.R_drewN | apply Kd.R_drew)); exact HO_9.out⟩, ⟨by (with_reducible repeat (first | apply Kd.R_alloc | apply Kd.R_drewN | apply Kd.R_drew)); exact HO_212007.out⟩, ⟨by (with_reducible repeat (first | apply Kd.R_alloc | apply Kd.R_drewN | apply Kd.R_drew)); exact HO_223007.out⟩, ⟨by (with_reducible repeat (first | refine blk_drewN ?_ _ | refine blk_drew ?_ | refine blk_alloc ?_ _)); exact BK211.out⟩, ⟨by (with_reducible repeat (first | refine blk_drewN ?_ _ | refine blk_drew ?_ | refine blk_alloc ?_ _)); exact BK222.out⟩, ⟨by repeat (first | (with_reducible first | exact HB.out | apply below_alloc | apply pw_below_drewN | apply below_drew1 | refine below_set ?_ GE211.out | refine below_set ?_ GE222.out) | exact HB.out)⟩⟩
          case round =>
            clear H'
            try clear c1
            try clear c2
            try clear c2b0
            try clear c2b1
            try clear c2b2
            try clear p2
            try clear q2
            try clear hx2
            try clear c3
            try clear c4
            try clear p4
            try clear q4
            try clear hx4
            try clear hf4
            try clear c5
            try clear p6
            try clear c16
            try clear c19
            try clear c19b0
            try clear c19b1
            try clear c21
            try clear p23
            try clear q23
            try clear hx23
            try clear c24
            try clear c27
            try clear c28
            try clear c28b0
            try clear c28b1
            try clear c29
            try clear c30
            try clear c31
            try clear c32
            try clear c38
            try clear c38b0
            try clear c39
            try clear c39b0
            try clear c40
            try clear c40b0
            try clear c41
            try clear c41b0
            try clear c41b1
            try clear c42
            try clear c44
            try clear c44b0
            try clear c44b1
            try clear c46
            try clear c46b0
            try clear c47
            try clear c47b0
            try clear p48
            try clear q48
            try clear hx48
            try clear hf48
            try clear c49
            try clear hcz12_0
            try clear hcz12_1
            try clear hcz12_2
            try clear hcz12_3
            try clear hcz12_4
            try clear hcz12_5
            try clear hcz12_6
            try clear hcz12_7
            try clear hcz17_0
            try clear hcz17_1
            try clear hcz17_2
            try clear hcz17_3
            try clear hcz17_4
            try clear hcz17_5
            try clear hcz17_6
            try clear hcz17_7
            try clear hcz22_0
            try clear hcz22_1
            try clear hcz22_2
            try clear hcz22_3
            try clear hcz22_4
            try clear hcz22_5
            try clear hcz22_6
            try clear hcz22_7
            try clear hcz23_0
            try clear hcz23_1
            try clear hcz23_2
            try clear hcz23_3
            try clear hcz23_4
            try clear hcz23_5
            try clear hcz23_6
            try clear hcz23_7
            try clear hcz25_0
            try clear hcz25_1
            try clear hcz25_2
            try clear hcz25_3
            try clear hcz25_4
            try clear hcz25_5
            try clear hcz25_6
            try clear hcz25_7
            try clear hcz26_0
            try clear hcz26_1
            try clear hcz26_2
            try clear hcz26_3
            try clear hcz26_4
            try clear hcz26_5
            try clear hcz26_6
            try clear hcz26_7
            try clear hcz30_0
            try clear hcz30_1
            try clear hcz30_2
            try clear hcz30_3
            try clear hcz30_4
            try clear hcz30_5
            try clear hcz30_6
            try clear hcz30_7
            try clear hcz33_0
            try clear hcz33_1
            try clear hcz33_2
            try clear hcz33_3
            try clear hcz33_4
            try clear hcz33_5
            try clear hcz33_6
            try clear hcz33_7
            try clear hcz37_0
            try clear hcz37_1
            try clear hcz37_2
            try clear hcz37_3
            try clear hcz37_4
            try clear hcz37_5
            try clear hcz37_6
            try clear hcz37_7
            try clear hcz43_0
            try clear hcz43_1
            try clear hcz43_2
            try clear hcz43_3
            try clear hcz43_4
            try clear hcz43_5
            try clear hcz43_6
            try clear hcz43_7
            try clear hcz50_0
            try clear hcz50_1
            try clear hcz50_2
            try clear hcz50_3
            try clear hcz50_4
            try clear hcz50_5
            try clear hcz50_6
            try clear hcz50_7
            try clear hfz12_0
            try clear hfz12_1
            try clear hfz12_2
            try clear hfz12_3
            try clear hfz12_4
            try clear hfz12_5
            try clear hfz12_6
            try clear hfz12_7
            try clear hfz17_0
            try clear hfz17_1
            try clear hfz17_2
            try clear hfz17_3
            try clear hfz17_4
            try clear hfz17_5
            try clear hfz17_6
            try clear hfz17_7
            try clear hfz22_0
            try clear hfz22_1
            try clear hfz22_2
            try clear hfz22_3
            try clear hfz22_4
            try clear hfz22_5
            try clear hfz22_6
            try clear hfz22_7
            try clear hfz23_0
            try clear hfz23_1
            try clear hfz23_2
            try clear hfz23_3
            try clear hfz23_4
            try clear hfz23_5
            try clear hfz23_6
            try clear hfz23_7
            try clear hfz25_0
            try clear hfz25_1
            try clear hfz25_2
            try clear hfz25_3
            try clear hfz25_4
            try clear hfz25_5
            try clear hfz25_6
            try clear hfz25_7
            try clear hfz26_0
            try clear hfz26_1
            try clear hfz26_2
            try clear hfz26_3
            try clear hfz26_4
            try clear hfz26_5
            try clear hfz26_6
            try clear hfz26_7
            try clear hfz30_0
            try clear hfz30_1
            try clear hfz30_2
            try clear hfz30_3
            try clear hfz30_4
            try clear hfz30_5
            try clear hfz30_6
            try clear hfz30_7
            try clear hfz33_0
            try clear hfz33_1
            try clear hfz33_2
            try clear hfz33_3
            try clear hfz33_4
            try clear hfz33_5
            try clear hfz33_6
            try clear hfz33_7
            try clear hfz37_0
            try clear hfz37_1
            try clear hfz37_2
            try clear hfz37_3
            try clear hfz37_4
            try clear hfz37_5
            try clear hfz37_6
            try clear hfz37_7
            try clear hfz43_0
            try clear hfz43_1
            try clear hfz43_2
            try clear hfz43_3
            try clear hfz43_4
            try clear hfz43_5
            try clear hfz43_6
            try clear hfz43_7
            try clear hfz50_0
            try clear hfz50_1
            try clear hfz50_2
            try clear hfz50_3
            try clear hfz50_4
            try clear hfz50_5
            try clear hfz50_6
            try clear hfz50_7
            try clear hx230_0
            try clear hx48_0
            try clear p2
            try clear p230
            try clear p48
            try clear q230
            try clear q48
            obtain ⟨x87_3, rfl, HA, HK3, HO_6, HO_9, HO_212007, HO_223007, BK211, BK222, HB⟩ := hrel
            cases gk with
            | zero => exact absurd HA.out (by simp [laws_FnBetween.l1])
            | succ k3 =>
              have H := HA.out
              clear HA
              simp only [laws_FnBetween.l1] at H
              by_cases c54 : x87_3 < (x9_2.length : Int)
              rotate_left
              · rw [if_neg c54] at H
                have c54b0 : decide (x87_3 < (x9_2.length : Int)) = false := decide_eq_false c54
                clear c54
                obtain rfl := Option.some.inj H
                go_wp2
                go_ret
                exact ⟨by first | rfl | (simp [errW_none, errW_some] <;> rfl) | (simp [*, errW_none, errW_some] <;> rfl), by repeat (first | (with_reducible first | exact HB.out | apply below_alloc | apply pw_below_drewN | apply below_drew1 | refine below_set ?_ GE211.out | refine below_set ?_ GE222.out) | exact HB.out)⟩
              rw [if_pos c54] at H
              have c54b0 : decide (x87_3 < (x9_2.length : Int)) = true := decide_eq_true c54
              clear c54
              by_cases c55 : 0 ≤ x87_3
              rotate_left
              · rw [if_neg c55] at H
                exact absurd H (by simp)
              rw [if_pos c55] at H
              have c55b0 : decide (0 ≤ x87_3) = true := decide_eq_true c55
              clear c55
              by_cases c56 : x87_3 < (x9_2.length : Int)
              rotate_left
              · rw [if_neg c56] at H
                exact absurd H (by simp)
              rw [if_pos c56] at H
              have c56b0 : decide (x87_3 < (x9_2.length : Int)) = true := decide_eq_true c56
              clear c56
              by_cases c57 : x87_3 < (t196.length : Int)
              rotate_left
              · rw [if_neg c57] at H
                exact absurd H (by simp)
              rw [if_pos c57] at H
              have c57b0 : decide (x87_3 < (t196.length : Int)) = true := decide_eq_true c57
              clear c57
              by_cases c58 : (rd x9_2 x87_3) = (rd t196 x87_3)
              · rw [if_pos c58] at H
                have c58b0 : ((rd x9_2 x87_3) == (rd t196 x87_3)) = true := beq_iff_eq.mpr c58
                have c58b1 : ((rd x9_2 x87_3) != (rd t196 x87_3)) = false := bne_eq_false_iff_eq.mpr c58
                clear c58
                have H' := Aside0.mk H
                clear H
                try go_wp2
                have n0_ := Aside0.mk (Kd.R_drew HO_6.out)
                have n1_ := Aside0.mk (Kd.R_drew HO_9.out)
                have n2_ := Aside0.mk (Kd.R_drew HO_212007.out)
                have n3_ := Aside0.mk (Kd.R_drew HO_223007.out)
                have n4_ := Aside0.mk (blk_drew BK211.out)
                have n5_ := Aside0.mk (blk_drew BK222.out)
                have n6_ := Aside0.mk (below_drew1 HB.out)
                clear HO_6
                clear HO_9
                clear HO_212007
                clear HO_223007
                clear BK211
                clear BK222
                clear HB
                have HO_6 := n0_
                have HO_9 := n1_
                have HO_212007 := n2_
                have HO_223007 := n3_
                have BK211 := n4_
                have BK222 := n5_
                have HB := n6_
                clear n0_ n1_ n2_ n3_ n4_ n5_ n6_
                have p232 : 0 ≤ (x87_3 : Int) := of_decide_eq_true (by first | (with_reducible assumption) | assumption)
                have q232 : x87_3 < (x9_2.length : Int) := of_decide_eq_true (by first | (with_reducible assumption) | assumption)
                obtain ⟨ad232, e232, hx232_0⟩ := Kd.at_int (Kd.R_reads' HO_9.out).2.2 x87_3 p232 q232
                cases e232
                replace p232 := eq_true p232
                replace q232 := eq_true q232
                have p233 : 0 ≤ (x87_3 : Int) := of_decide_eq_true (by first | (with_reducible assumption) | assumption)
                have q233 : x87_3 < (t196.length : Int) := of_decide_eq_true (by first | (with_reducible assumption) | assumption)
                obtain ⟨ad233, e233, hx233_0⟩ := Kd.at_int (Kd.R_reads' HO_6.out).2.2 x87_3 p233 q233
                cases e233
                replace p233 := eq_true p233
                replace q233 := eq_true q233
                refine start_ (n := 16) (S := fun w' => w'.cell? (ad232.add (x87_3).toNat) = some (.int .i64 (rd x9_2 x87_3)) ∧ w'.cell? (ad233.add (x87_3).toNat) = some (.int .i64 (rd t196 x87_3))) (ds := []) #[false, false, false, false, false, false, false, false, false, false, false, false, false, false, false, false] (by kernel_rfl) rfl rfl ⟨hx232_0, hx233_0⟩ (fun hHeld => ?_); refine with_tabW laws_FnBetween.tab20 laws_FnBetween.bits20 (fun HT_ HW_ => ?_)
                generalize wr.drew = w59 at HO_6 HO_9 HO_212007 HO_223007 BK211 BK222 HB hx232_0 hx233_0 hHeld ⊢
                refine pure_ (i := 0) (N := some 90) (v := ?_) (a' := ?_) #[true, false, false, false, false, false, false, false, false, false, false, false, false, false, false, false] rfl rfl (any_of HT_.out (by kernel_rfl)) (fun _ _ _ h => h) (Or.inl ⟨by rfl, ?_⟩) ?_ ?_
                rotate_left
                · intro w'
                  go_simp
                  with_reducible rfl
                rotate_left
                · simp only [Act.put, List.setIfInBounds_toArray, List.set_cons_zero, List.set_cons_succ, i64_w, i32_w]
                  rfl
                refine pure_ (i := 1) (N := some 91) (v := ?_) (a' := ?_) #[true, true, false, false, false, false, false, false, false, false, false, false, false, false, false, false] rfl rfl (any_of HT_.out (by kernel_rfl)) (fun _ _ _ h => h) (Or.inl ⟨by rfl, ?_⟩) ?_ ?_
                rotate_left
                · intro w'
                  go_simp
                  with_reducible rfl
                rotate_left
                · simp only [Act.put, List.setIfInBounds_toArray, List.set_cons_zero, List.set_cons_succ, i64_w, i32_w]
                  rfl
                refine pure_ (i := 2) (N := some 92) (v := ?_) (a' := ?_) #[true, true, true, false, false, false, false, false, false, false, false, false, false, false, false, false] rfl rfl (any_of HT_.out (by kernel_rfl)) (fun _ _ _ h => h) (Or.inl ⟨by rfl, ?_⟩) ?_ ?_
                rotate_left
                · intro w'
                  go_simp
                  with_reducible rfl
                rotate_left
                · simp only [Act.put, List.setIfInBounds_toArray, List.set_cons_zero, List.set_cons_succ, i64_w, i32_w]
                  rfl
                refine pure_ (i := 4) (N := some 94) (v := ?_) (a' := ?_) #[true, true, true, false, true, false, false, false, false, false, false, false, false, false, false, false] rfl rfl (any_of HT_.out (by kernel_rfl)) (fun _ _ _ h => h) (Or.inl ⟨by rfl, ?_⟩) ?_ ?_
                rotate_left
                · intro w'
                  go_simp
                  with_reducible rfl
                rotate_left
                · simp only [Act.put, List.setIfInBounds_toArray, List.set_cons_zero, List.set_cons_succ, i64_w, i32_w]
                  rfl
                refine pure_ (i := 5) (N := some 95) (v := ?_) (a' := ?_) #[true, true, true, false, true, true, false, false, false, false, false, false, false, false, false, false] rfl rfl (any_of HT_.out (by kernel_rfl)) (fun _ _ _ h => h) (Or.inl ⟨by rfl, ?_⟩) ?_ ?_
                rotate_left
                · intro w'
                  go_simp
                  with_reducible rfl
                rotate_left
                · simp only [Act.put, List.setIfInBounds_toArray, List.set_cons_zero, List.set_cons_succ, i64_w, i32_w]
                  rfl
                refine pure_ (i := 6) (N := some 96) (v := ?_) (a' := ?_) #[true, true, true, false, true, true, true, false, false, false, false, false, false, false, false, false] rfl rfl (any_of HT_.out (by kernel_rfl)) (fun _ _ _ h => h) (Or.inl ⟨by rfl, ?_⟩) ?_ ?_
                rotate_left
                · intro w'
                  go_simp
                  with_reducible rfl
                rotate_left
                · simp only [Act.put, List.setIfInBounds_toArray, List.set_cons_zero, List.set_cons_succ, i64_w, i32_w]
                  rfl
                refine take_ (i := 3) (N := some 93) (v := ?_) (a' := ?_) #[true, true, true, true, true, true, true, false, false, false, false, false, false, false, false, false] rfl rfl (take_ofW HT_.out HW_.out (by kernel_rfl)) (fun _ _ _ h => h) (Or.inl ⟨by rfl, ?_⟩) hHeld ?_ ?_
                rotate_left
                · rintro w' ⟨s0, s1⟩
                  go_simp
                  with_reducible rfl
                rotate_left
                · simp only [Act.put, List.setIfInBounds_toArray, List.set_cons_zero, List.set_cons_succ, i64_w, i32_w]
                  rfl
                refine take_ (i := 7) (N := some 97) (v := ?_) (a' := ?_) #[true, true, true, true, true, true, true, true, false, false, false, false, false, false, false, false] rfl rfl (take_ofW HT_.out HW_.out (by kernel_rfl)) (fun _ _ _ h => h) (Or.inl ⟨by rfl, ?_⟩) hHeld ?_ ?_
                rotate_left
                · rintro w' ⟨s0, s1⟩
                  go_simp
                  with_reducible rfl
                rotate_left
                · simp only [Act.put, List.setIfInBounds_toArray, List.set_cons_zero, List.set_cons_succ, i64_w, i32_w]
                  rfl
                refine pure_ (i := 8) (N := some 98) (v := ?_) (a' := ?_) #[true, true, true, true, true, true, true, true, true, false, false, false, false, false, false, false] rfl rfl (any_of HT_.out (by kernel_rfl)) (fun _ _ _ h => h) (Or.inl ⟨by rfl, ?_⟩) ?_ ?_
                rotate_left
                · intro w'
                  go_simp
                  with_reducible rfl
                rotate_left
                · simp only [Act.put, List.setIfInBounds_toArray, List.set_cons_zero, List.set_cons_succ, i64_w, i32_w]
                  rfl
                refine pure_ (i := 9) (N := some 99) (v := ?_) (a' := ?_) #[true, true, true, true, true, true, true, true, true, true, false, false, false, false, false, false] rfl rfl (any_of HT_.out (by kernel_rfl)) (fun _ _ _ h => h) (Or.inl ⟨by rfl, ?_⟩) ?_ ?_
                rotate_left
                · intro w'
                  go_simp
                  with_reducible rfl
                rotate_left
                · simp only [Act.put, List.setIfInBounds_toArray, List.set_cons_zero, List.set_cons_succ, i64_w, i32_w]
                  rfl
                refine pure_ (i := 10) (N := some 100) (v := undef) (a' := ?_) #[true, true, true, true, true, true, true, true, true, true, true, false, false, false, false, false] rfl rfl (any_of HT_.out (by kernel_rfl)) (fun _ _ _ h => h) (Or.inr ⟨by rfl, rfl⟩) ?_ ?_
                rotate_left
                · simp only [Act.put, List.setIfInBounds_toArray, List.set_cons_zero, List.set_cons_succ, i64_w, i32_w]
                  rfl
                refine pure_ (i := 11) (N := some 101) (v := undef) (a' := ?_) #[true, true, true, true, true, true, true, true, true, true, true, true, false, false, false, false] rfl rfl (any_of HT_.out (by kernel_rfl)) (fun _ _ _ h => h) (Or.inr ⟨by rfl, rfl⟩) ?_ ?_
                rotate_left
                · simp only [Act.put, List.setIfInBounds_toArray, List.set_cons_zero, List.set_cons_succ, i64_w, i32_w]
                  rfl
                refine pure_ (i := 12) (N := some 102) (v := undef) (a' := ?_) #[true, true, true, true, true, true, true, true, true, true, true, true, true, false, false, false] rfl rfl (any_of HT_.out (by kernel_rfl)) (fun _ _ _ h => h) (Or.inr ⟨by rfl, rfl⟩) ?_ ?_
                rotate_left
                · simp only [Act.put, List.setIfInBounds_toArray, List.set_cons_zero, List.set_cons_succ, i64_w, i32_w]
                  rfl
                refine pure_ (i := 13) (N := some 103) (v := undef) (a' := ?_) #[true, true, true, true, true, true, true, true, true, true, true, true, true, true, false, false] rfl rfl (any_of HT_.out (by kernel_rfl)) (fun _ _ _ h => h) (Or.inr ⟨by rfl, rfl⟩) ?_ ?_
                rotate_left
                · simp only [Act.put, List.setIfInBounds_toArray, List.set_cons_zero, List.set_cons_succ, i64_w, i32_w]
                  rfl
                refine pure_ (i := 14) (N := some 104) (v := undef) (a' := ?_) #[true, true, true, true, true, true, true, true, true, true, true, true, true, true, true, false] rfl rfl (any_of HT_.out (by kernel_rfl)) (fun _ _ _ h => h) (Or.inr ⟨by rfl, rfl⟩) ?_ ?_
                rotate_left
                · simp only [Act.put, List.setIfInBounds_toArray, List.set_cons_zero, List.set_cons_succ, i64_w, i32_w]
                  rfl
                refine pure_ (i := 15) (N := some 105) (v := ?_) (a' := ?_) #[true, true, true, true, true, true, true, true, true, true, true, true, true, true, true, true] rfl rfl (any_of HT_.out (by kernel_rfl)) (fun _ _ _ h => h) (Or.inl ⟨by rfl, ?_⟩) ?_ ?_
                rotate_left
                · intro w'
                  go_simp
                  with_reducible rfl
                rotate_left
                · simp only [Act.put, List.setIfInBounds_toArray, List.set_cons_zero, List.set_cons_succ, i64_w, i32_w]
                  rfl
                refine done_ (done_of HT_.out (by kernel_rfl)) ?_
                try go_wp2
                go_roundg k3
                case measure => have := HJ5.out; have := HK2.out; have := HK3.out; omega
                case rel => exact ⟨(wrap64 (x87_3 + 1)), (by first | rfl | (simp; done) | (simp [*]; done)), H', ⟨by have := HJ5.out; have := HK2.out; have := HK3.out; omega⟩, ⟨by (with_reducible repeat (first | apply Kd.R_alloc | apply Kd.R_drewN | apply Kd.R_drew)); exact HO_6.out⟩, ⟨by (with_reducible repeat (first | apply Kd.R_alloc | apply Kd.R_drewN | apply Kd.R_drew)); exact HO_9.out⟩, ⟨by (with_reducible repeat (first | apply Kd.R_alloc | apply Kd.R_drewN | apply Kd.R_drew)); exact HO_212007.out⟩, ⟨by (with_reducible repeat (first | apply Kd.R_alloc | apply Kd.R_drewN | apply Kd.R_drew)); exact HO_223007.out⟩, ⟨by (with_reducible repeat (first | refine blk_drewN ?_ _ | refine blk_drew ?_ | refine blk_alloc ?_ _)); exact BK211.out⟩, ⟨by (with_reducible repeat (first | refine blk_drewN ?_ _ | refine blk_drew ?_ | refine blk_alloc ?_ _)); exact BK222.out⟩, ⟨by repeat (first | (with_reducible first | exact HB.out | apply below_alloc | apply pw_below_drewN | apply below_drew1 | refine below_set ?_ GE211.out | refine below_set ?_ GE222.out) | exact HB.out)⟩⟩
              rw [if_neg c58] at H
              have c58b0 : ((rd x9_2 x87_3) == (rd t196 x87_3)) = false := beq_eq_false_iff_ne.mpr c58
              have c58b1 : ((rd x9_2 x87_3) != (rd t196 x87_3)) = true := bne_iff_ne.mpr c58
              by_cases c60 : (rd t196 x87_3) ≥ 0
              rw [if_pos c60] at H
              have c60b0 : decide (0 ≤ (rd t196 x87_3)) = true := decide_eq_true c60
              clear c60
              obtain rfl := Option.some.inj H
              rotate_left
              rw [if_neg c60] at H
              have c60b0 : decide (0 ≤ (rd t196 x87_3)) = false := decide_eq_false c60
              clear c60
              have H' := Aside0.mk H
              clear H
              all_goals
                try go_wp2
                have n0_ := Aside0.mk (Kd.R_drew HO_6.out)
                have n1_ := Aside0.mk (Kd.R_drew HO_9.out)
                have n2_ := Aside0.mk (Kd.R_drew HO_212007.out)
                have n3_ := Aside0.mk (Kd.R_drew HO_223007.out)
                have n4_ := Aside0.mk (blk_drew BK211.out)
                have n5_ := Aside0.mk (blk_drew BK222.out)
                have n6_ := Aside0.mk (below_drew1 HB.out)
                clear HO_6
                clear HO_9
                clear HO_212007
                clear HO_223007
                clear BK211
                clear BK222
                clear HB
                have HO_6 := n0_
                have HO_9 := n1_
                have HO_212007 := n2_
                have HO_223007 := n3_
                have BK211 := n4_
                have BK222 := n5_
                have HB := n6_
                clear n0_ n1_ n2_ n3_ n4_ n5_ n6_
                have p232 : 0 ≤ (x87_3 : Int) := of_decide_eq_true (by first | (with_reducible assumption) | assumption)
                have q232 : x87_3 < (x9_2.length : Int) := of_decide_eq_true (by first | (with_reducible assumption) | assumption)
                obtain ⟨ad232, e232, hx232_0⟩ := Kd.at_int (Kd.R_reads' HO_9.out).2.2 x87_3 p232 q232
                cases e232
                replace p232 := eq_true p232
                replace q232 := eq_true q232
                have p233 : 0 ≤ (x87_3 : Int) := of_decide_eq_true (by first | (with_reducible assumption) | assumption)
                have q233 : x87_3 < (t196.length : Int) := of_decide_eq_true (by first | (with_reducible assumption) | assumption)
                obtain ⟨ad233, e233, hx233_0⟩ := Kd.at_int (Kd.R_reads' HO_6.out).2.2 x87_3 p233 q233
                cases e233
                replace p233 := eq_true p233
                replace q233 := eq_true q233
                have p234 : 0 ≤ (x87_3 : Int) := of_decide_eq_true (by first | (with_reducible assumption) | assumption)
                have q234 : x87_3 < (t196.length : Int) := of_decide_eq_true (by first | (with_reducible assumption) | assumption)
                obtain ⟨ad234, e234, hx234_0⟩ := Kd.at_int (Kd.R_reads' HO_6.out).2.2 x87_3 p234 q234
                obtain rfl : ad233 = ad234 := (by injection e234)
                replace p234 := eq_true p234
                replace q234 := eq_true q234
                refine start_ (n := 16) (S := fun w' => w'.cell? (ad232.add (x87_3).toNat) = some (.int .i64 (rd x9_2 x87_3)) ∧ w'.cell? (ad233.add (x87_3).toNat) = some (.int .i64 (rd t196 x87_3)) ∧ w'.cell? (ad233.add (x87_3).toNat) = some (.int .i64 (rd t196 x87_3))) (ds := []) #[false, false, false, false, false, false, false, false, false, false, false, false, false, false, false, false] (by kernel_rfl) rfl rfl ⟨hx232_0, hx233_0, hx234_0⟩ (fun hHeld => ?_); refine with_tabW laws_FnBetween.tab20 laws_FnBetween.bits20 (fun HT_ HW_ => ?_)
                generalize wr.drew = w61 at HO_6 HO_9 HO_212007 HO_223007 BK211 BK222 HB hx232_0 hx233_0 hx234_0 hHeld ⊢
                refine pure_ (i := 0) (N := some 90) (v := ?_) (a' := ?_) #[true, false, false, false, false, false, false, false, false, false, false, false, false, false, false, false] rfl rfl (any_of HT_.out (by kernel_rfl)) (fun _ _ _ h => h) (Or.inl ⟨by rfl, ?_⟩) ?_ ?_
                rotate_left
                · intro w'
                  go_simp
                  with_reducible rfl
                rotate_left
                · simp only [Act.put, List.setIfInBounds_toArray, List.set_cons_zero, List.set_cons_succ, i64_w, i32_w]
                  rfl
                refine pure_ (i := 1) (N := some 91) (v := ?_) (a' := ?_) #[true, true, false, false, false, false, false, false, false, false, false, false, false, false, false, false] rfl rfl (any_of HT_.out (by kernel_rfl)) (fun _ _ _ h => h) (Or.inl ⟨by rfl, ?_⟩) ?_ ?_
                rotate_left
                · intro w'
                  go_simp
                  with_reducible rfl
                rotate_left
                · simp only [Act.put, List.setIfInBounds_toArray, List.set_cons_zero, List.set_cons_succ, i64_w, i32_w]
                  rfl
                refine pure_ (i := 2) (N := some 92) (v := ?_) (a' := ?_) #[true, true, true, false, false, false, false, false, false, false, false, false, false, false, false, false] rfl rfl (any_of HT_.out (by kernel_rfl)) (fun _ _ _ h => h) (Or.inl ⟨by rfl, ?_⟩) ?_ ?_
                rotate_left
                · intro w'
                  go_simp
                  with_reducible rfl
                rotate_left
                · simp only [Act.put, List.setIfInBounds_toArray, List.set_cons_zero, List.set_cons_succ, i64_w, i32_w]
                  rfl
                refine pure_ (i := 4) (N := some 94) (v := ?_) (a' := ?_) #[true, true, true, false, true, false, false, false, false, false, false, false, false, false, false, false] rfl rfl (any_of HT_.out (by kernel_rfl)) (fun _ _ _ h => h) (Or.inl ⟨by rfl, ?_⟩) ?_ ?_
                rotate_left
                · intro w'
                  go_simp
                  with_reducible rfl
                rotate_left
                · simp only [Act.put, List.setIfInBounds_toArray, List.set_cons_zero, List.set_cons_succ, i64_w, i32_w]
                  rfl
                refine pure_ (i := 5) (N := some 95) (v := ?_) (a' := ?_) #[true, true, true, false, true, true, false, false, false, false, false, false, false, false, false, false] rfl rfl (any_of HT_.out (by kernel_rfl)) (fun _ _ _ h => h) (Or.inl ⟨by rfl, ?_⟩) ?_ ?_
                rotate_left
                · intro w'
                  go_simp
                  with_reducible rfl
                rotate_left
                · simp only [Act.put, List.setIfInBounds_toArray, List.set_cons_zero, List.set_cons_succ, i64_w, i32_w]
                  rfl
                refine pure_ (i := 6) (N := some 96) (v := ?_) (a' := ?_) #[true, true, true, false, true, true, true, false, false, false, false, false, false, false, false, false] rfl rfl (any_of HT_.out (by kernel_rfl)) (fun _ _ _ h => h) (Or.inl ⟨by rfl, ?_⟩) ?_ ?_
                rotate_left
                · intro w'
                  go_simp
                  with_reducible rfl
                rotate_left
                · simp only [Act.put, List.setIfInBounds_toArray, List.set_cons_zero, List.set_cons_succ, i64_w, i32_w]
                  rfl
                refine take_ (i := 3) (N := some 93) (v := ?_) (a' := ?_) #[true, true, true, true, true, true, true, false, false, false, false, false, false, false, false, false] rfl rfl (take_ofW HT_.out HW_.out (by kernel_rfl)) (fun _ _ _ h => h) (Or.inl ⟨by rfl, ?_⟩) hHeld ?_ ?_
                rotate_left
                · rintro w' ⟨s0, s1, s2⟩
                  go_simp
                  with_reducible rfl
                rotate_left
                · simp only [Act.put, List.setIfInBounds_toArray, List.set_cons_zero, List.set_cons_succ, i64_w, i32_w]
                  rfl
                refine take_ (i := 7) (N := some 97) (v := ?_) (a' := ?_) #[true, true, true, true, true, true, true, true, false, false, false, false, false, false, false, false] rfl rfl (take_ofW HT_.out HW_.out (by kernel_rfl)) (fun _ _ _ h => h) (Or.inl ⟨by rfl, ?_⟩) hHeld ?_ ?_
                rotate_left
                · rintro w' ⟨s0, s1, s2⟩
                  go_simp
                  with_reducible rfl
                rotate_left
                · simp only [Act.put, List.setIfInBounds_toArray, List.set_cons_zero, List.set_cons_succ, i64_w, i32_w]
                  rfl
                refine pure_ (i := 8) (N := some 98) (v := ?_) (a' := ?_) #[true, true, true, true, true, true, true, true, true, false, false, false, false, false, false, false] rfl rfl (any_of HT_.out (by kernel_rfl)) (fun _ _ _ h => h) (Or.inl ⟨by rfl, ?_⟩) ?_ ?_
                rotate_left
                · intro w'
                  go_simp
                  with_reducible rfl
                rotate_left
                · simp only [Act.put, List.setIfInBounds_toArray, List.set_cons_zero, List.set_cons_succ, i64_w, i32_w]
                  rfl
                refine pure_ (i := 9) (N := some 99) (v := ?_) (a' := ?_) #[true, true, true, true, true, true, true, true, true, true, false, false, false, false, false, false] rfl rfl (any_of HT_.out (by kernel_rfl)) (fun _ _ _ h => h) (Or.inl ⟨by rfl, ?_⟩) ?_ ?_
                rotate_left
                · intro w'
                  go_simp
                  with_reducible rfl
                rotate_left
                · simp only [Act.put, List.setIfInBounds_toArray, List.set_cons_zero, List.set_cons_succ, i64_w, i32_w]
                  rfl
                refine pure_ (i := 10) (N := some 100) (v := ?_) (a' := ?_) #[true, true, true, true, true, true, true, true, true, true, true, false, false, false, false, false] rfl rfl (any_of HT_.out (by kernel_rfl)) (fun _ _ _ h => h) (Or.inl ⟨by rfl, ?_⟩) ?_ ?_
                rotate_left
                · intro w'
                  go_simp
                  with_reducible rfl
                rotate_left
                · simp only [Act.put, List.setIfInBounds_toArray, List.set_cons_zero, List.set_cons_succ, i64_w, i32_w]
                  rfl
                refine pure_ (i := 11) (N := some 101) (v := ?_) (a' := ?_) #[true, true, true, true, true, true, true, true, true, true, true, true, false, false, false, false] rfl rfl (any_of HT_.out (by kernel_rfl)) (fun _ _ _ h => h) (Or.inl ⟨by rfl, ?_⟩) ?_ ?_
                rotate_left
                · intro w'
                  go_simp
                  with_reducible rfl
                rotate_left
                · simp only [Act.put, List.setIfInBounds_toArray, List.set_cons_zero, List.set_cons_succ, i64_w, i32_w]
                  rfl
                refine pure_ (i := 12) (N := some 102) (v := ?_) (a' := ?_) #[true, true, true, true, true, true, true, true, true, true, true, true, true, false, false, false] rfl rfl (any_of HT_.out (by kernel_rfl)) (fun _ _ _ h => h) (Or.inl ⟨by rfl, ?_⟩) ?_ ?_
                rotate_left
                · intro w'
                  go_simp
                  with_reducible rfl
                rotate_left
                · simp only [Act.put, List.setIfInBounds_toArray, List.set_cons_zero, List.set_cons_succ, i64_w, i32_w]
                  rfl
                refine take_ (i := 13) (N := some 103) (v := ?_) (a' := ?_) #[true, true, true, true, true, true, true, true, true, true, true, true, true, true, false, false] rfl rfl (take_ofW HT_.out HW_.out (by kernel_rfl)) (fun _ _ _ h => h) (Or.inl ⟨by rfl, ?_⟩) hHeld ?_ ?_
                rotate_left
                · rintro w' ⟨s0, s1, s2⟩
                  go_simp
                  with_reducible rfl
                rotate_left
                · simp only [Act.put, List.setIfInBounds_toArray, List.set_cons_zero, List.set_cons_succ, i64_w, i32_w]
                  rfl
                refine pure_ (i := 14) (N := some 104) (v := ?_) (a' := ?_) #[true, true, true, true, true, true, true, true, true, true, true, true, true, true, true, false] rfl rfl (any_of HT_.out (by kernel_rfl)) (fun _ _ _ h => h) (Or.inl ⟨by rfl, ?_⟩) ?_ ?_
                rotate_left
                · intro w'
                  go_simp
                  with_reducible rfl
                rotate_left
                · simp only [Act.put, List.setIfInBounds_toArray, List.set_cons_zero, List.set_cons_succ, i64_w, i32_w]
                  rfl
                refine pure_ (i := 15) (N := some 105) (v := ?_) (a' := ?_) #[true, true, true, true, true, true, true, true, true, true, true, true, true, true, true, true] rfl rfl (any_of HT_.out (by kernel_rfl)) (fun _ _ _ h => h) (Or.inl ⟨by rfl, ?_⟩) ?_ ?_
                rotate_left
                · intro w'
                  go_simp
                  with_reducible rfl
                rotate_left
                · simp only [Act.put, List.setIfInBounds_toArray, List.set_cons_zero, List.set_cons_succ, i64_w, i32_w]
                  rfl
                refine done_ (done_of HT_.out (by kernel_rfl)) ?_
              · try go_wp2
                go_roundg k3
                case measure => have := HJ5.out; have := HK2.out; have := HK3.out; omega
                case rel => exact ⟨(wrap64 (x87_3 + 1)), (by first | rfl | (simp; done) | (simp [*]; done)), H', ⟨by have := HJ5.out; have := HK2.out; have := HK3.out; omega⟩, ⟨by (with_reducible repeat (first | apply Kd.R_alloc | apply Kd.R_drewN | apply Kd.R_drew)); exact HO_6.out⟩, ⟨by (with_reducible repeat (first | apply Kd.R_alloc | apply Kd.R_drewN | apply Kd.R_drew)); exact HO_9.out⟩, ⟨by (with_reducible repeat (first | apply Kd.R_alloc | apply Kd.R_drewN | apply Kd.R_drew)); exact HO_212007.out⟩, ⟨by (with_reducible repeat (first | apply Kd.R_alloc | apply Kd.R_drewN | apply Kd.R_drew)); exact HO_223007.out⟩, ⟨by (with_reducible repeat (first | refine blk_drewN ?_ _ | refine blk_drew ?_ | refine blk_alloc ?_ _)); exact BK211.out⟩, ⟨by (with_reducible repeat (first | refine blk_drewN ?_ _ | refine blk_drew ?_ | refine blk_alloc ?_ _)); exact BK222.out⟩, ⟨by repeat (first | (with_reducible first | exact HB.out | apply below_alloc | apply pw_below_drewN | apply below_drew1 | refine below_set ?_ GE211.out | refine below_set ?_ GE222.out) | exact HB.out)⟩⟩
              · try go_wp2
                go_ret
                exact ⟨by first | rfl | (simp [errW_none, errW_some] <;> rfl) | (simp [*, errW_none, errW_some] <;> rfl), by repeat (first | (with_reducible first | exact HB.out | apply below_alloc | apply pw_below_drewN | apply below_drew1 | refine below_set ?_ GE211.out | refine below_set ?_ GE222.out) | exact HB.out)⟩

/-- THE ONE PURE STATEMENT of laws_FnBetween: yours. -/
def laws_FnBetween.Pure : Prop := ∀ (l0 : List Int), l0.length ≤ maxLen → l0.length * 1 ≤ 140737488351232 → (∀ x ∈ l0, (Lit.int .u8 x).wf = true) → ∃ k, laws_FnBetween.f k l0 = some true
theorem laws_FnBetween.walk (P : laws_FnBetween.Pure) (a0 : Option Addr) (len0 cap0 : Nat) (z0 : List Int) (w : World) (w0 : (a0 = none ∧ len0 = 0 ∧ cap0 = 0 ∧ z0 = []) ∨ ∃ x, a0 = some x ∧ len0 ≤ cap0 ∧ cap0 ≤ maxLen ∧ z0.length = cap0 ∧ (∀ i, i < z0.length → w.cell? (x.add i) = some (.int .u8 (z0.getD i 0))) ∧ ∀ n ∈ z0, (Lit.int .u8 n).wf = true) (y0 : len0 * 1 ≤ 140737488351232) :
    Calls Try.prog 5 #[.slice a0 len0 cap0] w fun e w' => e = .returned (.bool true) ∧ Below w.heap.size w w' := by
  obtain ⟨l0, rfl, hr0, hm0, hw0, hc0⟩ := ReadsInt.ofRowC w0
  obtain ⟨k, h⟩ := P l0 hm0 y0 hw0
  refine (laws_FnBetween.calls k _ _ l0 true w (Kd.C_of_reads (d := (0 : Int)) (h1 := fun _ => rfl) hr0) hc0 h).mono ?_
  rintro e w' ⟨rfl, hd⟩
  exact ⟨rfl, hd⟩

end Go.Proofs.Ytglaedjadlappaa.PFnBetween

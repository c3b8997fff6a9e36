-- written by myprint.py (a program of this session's over the kit's print)
import Derived.Test.YtidblealnaicpaaPFnFiltersx0
import Derived.Test.YtidblealnaicpaaPFnFiltersx1
import Derived.Test.YtidblealnaicpaaPFnFiltersx3
namespace Go.Proofs.Ytidblealnaicpaa.PFnFilters
open Go.RowKit Go.Proofs.YtidblealnaicpaaW.PrintWords Go.Proofs.YtidblealnaicpaaW.PrintLast Go.Proofs.YtidblealnaicpaaW.PrintMore
attribute [local go_sem] max2_int min2_int max_two min_two max_three min_three max_four min_four   -- for this text's walks alone
set_option linter.unusedVariables false
set_option linter.unusedSimpArgs false

/-! ### spec_l4Rows: function 103 -/
mutual
def spec_l4Rows.j0 : Nat → Int → Int → List Int → List Int → Int → Int → Option (Int × List Int × List Int × List Int × Int × Int)
  | 0, _, _, _, _, _, _ => none
  | k + 1, x7, x8, x9, x174000, x174001, x174002 => (spec_l1Cur_one.f x174000 x174001 x174002 4).bind fun bt196 => (if bt196.1 = true then (spec_l4Rows.j2 k x7 x9 ([] : List Int) x174000 bt196.2.1 bt196.2.2) else ((spec_l1Cur_bytes.f k x174000 bt196.2.1 bt196.2.2 x8).bind fun bt199 => ((spec_l1Cur_one.f x174000 bt199.2.1 bt199.2.2 2).bind fun bt204 => (if bt204.1 = true then (spec_l4Rows.l0 k x7 x9 bt199.1 (bt199.1.length : Int) 0 x174000 bt204.2.1 bt204.2.2) else (spec_l4Rows.j2 k x7 x9 bt199.1 x174000 bt204.2.1 bt204.2.2)))))
def spec_l4Rows.j2 : Nat → Int → List Int → List Int → List Int → Int → Int → Option (Int × List Int × List Int × List Int × Int × Int)
  | 0, _, _, _, _, _, _ => none
  | k + 1, x7, x9, x10, x174000, x174001, x174002 => (spec_l1Cur_pick.f x174000 x174001 x174002 14).bind fun bt212 => (if bt212.1 = 0 then ((spec_l1Cur_pick.f x174000 bt212.2.1 bt212.2.2 11).bind fun bt215 => (some (wrap64 (bt215.1 - 1), x10, x9, x174000, bt215.2.1, bt215.2.2))) else (if bt212.1 = 1 then (if x10.length < 140737488355328 then (some (x7, (x10 ++ [1]), x9, x174000, bt212.2.1, bt212.2.2)) else (none)) else (some (x7, x10, x9, x174000, bt212.2.1, bt212.2.2))))
def spec_l4Rows.l0 : Nat → Int → List Int → List Int → Int → Int → List Int → Int → Int → Option (Int × List Int × List Int × List Int × Int × Int)
  | 0, _, _, _, _, _, _, _, _ => none
  | k + 1, x7, x9, x10, x38, x39, x174000, x174001, x174002 => if x39 < x38 then (if 0 ≤ x39 then (if x39 < (x9.length : Int) then ((spec_l1Cur_pick.f x174000 x174001 x174002 5).bind fun bt208 => (if x39 < (x10.length : Int) then (spec_l4Rows.l0 k x7 x9 (x10.set (x39 : Int).toNat (((rd x9 x39) + ((bt208.1) % 256)) % 256)) x38 (wrap64 (x39 + 1)) x174000 bt208.2.1 bt208.2.2) else (none))) else (none)) else (none)) else (spec_l4Rows.j2 k x7 x9 x10 x174000 x174001 x174002)
end
def spec_l4Rows.f (k : Nat) (l0 : List Int) : Option (Int × List Int × List Int × List Int × Int × Int) := (spec_l1Cur_pick.f l0 0 0 4).bind fun bt174 => ((spec_l1Cur_pick.f l0 bt174.2.1 bt174.2.2 24).bind fun bt177 => ((spec_l1Cur_bytes.f k l0 bt177.2.1 bt177.2.2 bt177.1).bind fun bt180 => ((spec_l1Cur_one.f l0 bt180.2.1 bt180.2.2 2).bind fun bt185 => (if bt185.1 = true then ((spec_l1Cur_samples.f k l0 bt185.2.1 bt185.2.2 bt177.1 1 1 8).bind fun bt188 => ((spec_l4Pack.f k bt188.1 8).bind fun t193 => (spec_l4Rows.j0 k (wrap64 (1 + bt174.1)) bt177.1 t193 l0 bt188.2.1 bt188.2.2))) else (spec_l4Rows.j0 k (wrap64 (1 + bt174.1)) bt177.1 bt180.1 l0 bt185.2.1 bt185.2.2)))))
theorem spec_l4Rows.mono_l : ∀ k, (∀ y0 y1 y2 y3 y4 y5, LeO (spec_l4Rows.j0 k y0 y1 y2 y3 y4 y5) (spec_l4Rows.j0 (k + 1) y0 y1 y2 y3 y4 y5)) ∧ (∀ y0 y1 y2 y3 y4 y5, LeO (spec_l4Rows.j2 k y0 y1 y2 y3 y4 y5) (spec_l4Rows.j2 (k + 1) y0 y1 y2 y3 y4 y5)) ∧ (∀ y0 y1 y2 y3 y4 y5 y6 y7, LeO (spec_l4Rows.l0 k y0 y1 y2 y3 y4 y5 y6 y7) (spec_l4Rows.l0 (k + 1) y0 y1 y2 y3 y4 y5 y6 y7))
  | 0 => ⟨fun _ _ _ _ _ _ r h => by simp [spec_l4Rows.j0] at h, fun _ _ _ _ _ _ r h => by simp [spec_l4Rows.j2] at h, fun _ _ _ _ _ _ _ _ r h => by simp [spec_l4Rows.l0] at h⟩
  | k + 1 => by
    obtain ⟨ih0, ih1, ih2⟩ := spec_l4Rows.mono_l k
    refine ⟨?_, ?_, ?_⟩
    · intro y0 y1 y2 y3 y4 y5
      unfold spec_l4Rows.j0
      repeat' first
      | (with_reducible exact ih0 _ _ _ _ _ _)
      | (with_reducible exact ih1 _ _ _ _ _ _)
      | (with_reducible exact ih2 _ _ _ _ _ _ _ _)
      | (with_reducible exact spec_l1Cur_bytes.mono _ _ _ _ _)
      | (with_reducible exact spec_l1Cur_samples.mono _ _ _ _ _ _ _ _)
      | (with_reducible exact spec_l4Pack.mono _ _ _)
      | (with_reducible exact LeO.refl _)
      | (with_reducible exact LeO.none _)
      | (with_reducible refine LeO.ite ?_ ?_)
      | (with_reducible refine LeO.bind ?_ (fun _ => ?_))
      | exact ih0 _ _ _ _ _ _
      | exact ih1 _ _ _ _ _ _
      | exact ih2 _ _ _ _ _ _ _ _
      | exact spec_l1Cur_bytes.mono _ _ _ _ _
      | exact spec_l1Cur_samples.mono _ _ _ _ _ _ _ _
      | exact spec_l4Pack.mono _ _ _
      | exact LeO.none _
      | refine LeO.ite ?_ ?_
      | refine LeO.bind ?_ (fun _ => ?_)
    · intro y0 y1 y2 y3 y4 y5
      unfold spec_l4Rows.j2
      repeat' first
      | (with_reducible exact ih0 _ _ _ _ _ _)
      | (with_reducible exact ih1 _ _ _ _ _ _)
      | (with_reducible exact ih2 _ _ _ _ _ _ _ _)
      | (with_reducible exact spec_l1Cur_bytes.mono _ _ _ _ _)
      | (with_reducible exact spec_l1Cur_samples.mono _ _ _ _ _ _ _ _)
      | (with_reducible exact spec_l4Pack.mono _ _ _)
      | (with_reducible exact LeO.refl _)
      | (with_reducible exact LeO.none _)
      | (with_reducible refine LeO.ite ?_ ?_)
      | (with_reducible refine LeO.bind ?_ (fun _ => ?_))
      | exact ih0 _ _ _ _ _ _
      | exact ih1 _ _ _ _ _ _
      | exact ih2 _ _ _ _ _ _ _ _
      | exact spec_l1Cur_bytes.mono _ _ _ _ _
      | exact spec_l1Cur_samples.mono _ _ _ _ _ _ _ _
      | exact spec_l4Pack.mono _ _ _
      | exact LeO.none _
      | refine LeO.ite ?_ ?_
      | refine LeO.bind ?_ (fun _ => ?_)
    · intro y0 y1 y2 y3 y4 y5 y6 y7
      unfold spec_l4Rows.l0
      repeat' first
      | (with_reducible exact ih0 _ _ _ _ _ _)
      | (with_reducible exact ih1 _ _ _ _ _ _)
      | (with_reducible exact ih2 _ _ _ _ _ _ _ _)
      | (with_reducible exact spec_l1Cur_bytes.mono _ _ _ _ _)
      | (with_reducible exact spec_l1Cur_samples.mono _ _ _ _ _ _ _ _)
      | (with_reducible exact spec_l4Pack.mono _ _ _)
      | (with_reducible exact LeO.refl _)
      | (with_reducible exact LeO.none _)
      | (with_reducible refine LeO.ite ?_ ?_)
      | (with_reducible refine LeO.bind ?_ (fun _ => ?_))
      | exact ih0 _ _ _ _ _ _
      | exact ih1 _ _ _ _ _ _
      | exact ih2 _ _ _ _ _ _ _ _
      | exact spec_l1Cur_bytes.mono _ _ _ _ _
      | exact spec_l1Cur_samples.mono _ _ _ _ _ _ _ _
      | exact spec_l4Pack.mono _ _ _
      | exact LeO.none _
      | refine LeO.ite ?_ ?_
      | refine LeO.bind ?_ (fun _ => ?_)
theorem spec_l4Rows.mono : ∀ a0 k, LeO (spec_l4Rows.f k a0) (spec_l4Rows.f (k + 1) a0) := by
  intro a0 k
  obtain ⟨ih0, ih1, ih2⟩ := spec_l4Rows.mono_l k
  unfold spec_l4Rows.f
  repeat' first
      | (with_reducible exact ih0 _ _ _ _ _ _)
      | (with_reducible exact ih1 _ _ _ _ _ _)
      | (with_reducible exact ih2 _ _ _ _ _ _ _ _)
      | (with_reducible exact spec_l1Cur_bytes.mono _ _ _ _ _)
      | (with_reducible exact spec_l1Cur_samples.mono _ _ _ _ _ _ _ _)
      | (with_reducible exact spec_l4Pack.mono _ _ _)
      | (with_reducible exact LeO.refl _)
      | (with_reducible exact LeO.none _)
      | (with_reducible refine LeO.ite ?_ ?_)
      | (with_reducible refine LeO.bind ?_ (fun _ => ?_))
      | exact ih0 _ _ _ _ _ _
      | exact ih1 _ _ _ _ _ _
      | exact ih2 _ _ _ _ _ _ _ _
      | exact spec_l1Cur_bytes.mono _ _ _ _ _
      | exact spec_l1Cur_samples.mono _ _ _ _ _ _ _ _
      | exact spec_l4Pack.mono _ _ _
      | exact LeO.none _
      | refine LeO.ite ?_ ?_
      | refine LeO.bind ?_ (fun _ => ?_)
theorem spec_l4Rows.bk {w0 w W W2 : World} {g : Nat} (h0 : Below w0.heap.size w0 w) (hB : Below w.heap.size w W) (hb : Below w0.heap.size w0 W2) (hk : KeepBut W W2 g none) (hg : w.heap.size ≤ g) : Below w.heap.size w W2 :=
  ⟨hb.os.trans h0.os.symm, hb.tape.trans h0.tape.symm, hb.output.trans h0.output.symm, Nat.le_trans hB.size hk.1, fun k h => (hk.2 k (Nat.lt_of_lt_of_le h hB.size) (by omega) (by simp)).trans (hB.block k h)⟩
def spec_l4Rows.T14 : Bool × List (List Nat × List Nat) := (true, [([], []), ([], []), ([], []), ([], []), ([2, 3], [2, 3]), ([4], [4]), ([], []), ([6], [6]), ([7], [7]), ([5, 8], [5, 8]), ([0, 1, 0, 1, 2, 3, 4, 5, 6, 7, 8, 9], [0, 1]), ([10, 9, 7, 0, 1, 2, 3, 4, 5, 6, 7, 8, 9], [9, 10])])
def spec_l4Rows.B14 : List Nat := [0, 0, 0, 0, 12, 28, 0, 64, 192, 508, 1023, 2047]
theorem spec_l4Rows.tab14 : rtab .any (opsOf Try.f103 14) = spec_l4Rows.T14 := by kernel_rfl
theorem spec_l4Rows.bits14 : waitsOk spec_l4Rows.T14.2 spec_l4Rows.B14 = true := by kernel_rfl
set_option maxHeartbeats 8000000 in
set_option maxRecDepth 100000 in
theorem spec_l4Rows.calls (k : Nat) (A0 : Option Addr) (c0 : Nat) (l0 : List Int) (r1 : Int) (r2 : List Int) (r3 : List Int) (r4 : List Int) (r5 : Int) (r6 : Int) (w0 w : World) (hB : Below w0.heap.size w0 w) (hr0 : Kd.C (Kd.int .u8) w0 A0 l0.length l0) (hc0 : l0.length ≤ c0) (h : spec_l4Rows.f k l0 = some (r1, r2, r3, r4, r5, r6)) :
    Calls Try.prog 103 #[.slice A0 l0.length c0] w fun e w' => ∃ v1_ v2_ : Value, ∃ g_ : Nat, e = .returned (.tuple #[.int .i64 r1, v1_, v2_, .pointer (some ⟨g_, 0, none⟩)]) ∧ Kd.R (Kd.int .u8) 5 w' w.heap.size (fun k_ => some k_ ≠ (v2_ : Value).ownBlock) v1_ r2 ∧ Kd.R (Kd.int .u8) 5 w' w.heap.size (fun k_ => some k_ ≠ (v1_ : Value).ownBlock) v2_ r3 ∧ IsS156 w0 w' g_ r4 r5 r6 ∧ Below w.heap.size w w' := by
  have hu156 := Try.underlying156
  have HQ0 := Aside0.mk hr0
  have HR0 := Aside0.mk (Kd.C_below hr0 hB)
  have HC0 := Aside0.mk hc0
  clear hr0 hc0
  have HB := Aside0.mk (Below.refl w.heap.size w)
  have HB0 := Aside0.mk hB
  clear hB
  have H : ((spec_l1Cur_pick.f l0 0 0 4).bind fun bt174 => ((spec_l1Cur_pick.f l0 bt174.2.1 bt174.2.2 24).bind fun bt177 => ((spec_l1Cur_bytes.f k l0 bt177.2.1 bt177.2.2 bt177.1).bind fun bt180 => ((spec_l1Cur_one.f l0 bt180.2.1 bt180.2.2 2).bind fun bt185 => (if bt185.1 = true then ((spec_l1Cur_samples.f k l0 bt185.2.1 bt185.2.2 bt177.1 1 1 8).bind fun bt188 => ((spec_l4Pack.f k bt188.1 8).bind fun t193 => (spec_l4Rows.j0 k (wrap64 (1 + bt174.1)) bt177.1 t193 l0 bt188.2.1 bt188.2.2))) else (spec_l4Rows.j0 k (wrap64 (1 + bt174.1)) bt177.1 bt180.1 l0 bt185.2.1 bt185.2.2)))))) = some (r1, r2, r3, r4, r5, r6) := h
  clear h
  replace H := Option.bind_eq_some_iff.mp H
  obtain ⟨⟨t174, t175, t176⟩, A20, H⟩ := H
  replace H : ((spec_l1Cur_pick.f l0 t175 t176 24).bind fun bt177 => ((spec_l1Cur_bytes.f k l0 bt177.2.1 bt177.2.2 bt177.1).bind fun bt180 => ((spec_l1Cur_one.f l0 bt180.2.1 bt180.2.2 2).bind fun bt185 => (if bt185.1 = true then ((spec_l1Cur_samples.f k l0 bt185.2.1 bt185.2.2 bt177.1 1 1 8).bind fun bt188 => ((spec_l4Pack.f k bt188.1 8).bind fun t193 => (spec_l4Rows.j0 k (wrap64 (1 + t174)) bt177.1 t193 l0 bt188.2.1 bt188.2.2))) else (spec_l4Rows.j0 k (wrap64 (1 + t174)) bt177.1 bt180.1 l0 bt185.2.1 bt185.2.2))))) = some (r1, r2, r3, r4, r5, r6) := H
  have A2 := Aside0.mk A20
  clear A20
  replace H := Option.bind_eq_some_iff.mp H
  obtain ⟨⟨t177, t178, t179⟩, A30, H⟩ := H
  replace H : ((spec_l1Cur_bytes.f k l0 t178 t179 t177).bind fun bt180 => ((spec_l1Cur_one.f l0 bt180.2.1 bt180.2.2 2).bind fun bt185 => (if bt185.1 = true then ((spec_l1Cur_samples.f k l0 bt185.2.1 bt185.2.2 t177 1 1 8).bind fun bt188 => ((spec_l4Pack.f k bt188.1 8).bind fun t193 => (spec_l4Rows.j0 k (wrap64 (1 + t174)) t177 t193 l0 bt188.2.1 bt188.2.2))) else (spec_l4Rows.j0 k (wrap64 (1 + t174)) t177 bt180.1 l0 bt185.2.1 bt185.2.2)))) = some (r1, r2, r3, r4, r5, r6) := H
  have A3 := Aside0.mk A30
  clear A30
  replace H := Option.bind_eq_some_iff.mp H
  obtain ⟨⟨t180, t183, t184⟩, A40, H⟩ := H
  replace H : ((spec_l1Cur_one.f l0 t183 t184 2).bind fun bt185 => (if bt185.1 = true then ((spec_l1Cur_samples.f k l0 bt185.2.1 bt185.2.2 t177 1 1 8).bind fun bt188 => ((spec_l4Pack.f k bt188.1 8).bind fun t193 => (spec_l4Rows.j0 k (wrap64 (1 + t174)) t177 t193 l0 bt188.2.1 bt188.2.2))) else (spec_l4Rows.j0 k (wrap64 (1 + t174)) t177 t180 l0 bt185.2.1 bt185.2.2))) = some (r1, r2, r3, r4, r5, r6) := H
  have A4 := Aside0.mk A40
  clear A40
  replace H := Option.bind_eq_some_iff.mp H
  obtain ⟨⟨t185, t186, t187⟩, A50, H⟩ := H
  replace H : (if t185 = true then ((spec_l1Cur_samples.f k l0 t186 t187 t177 1 1 8).bind fun bt188 => ((spec_l4Pack.f k bt188.1 8).bind fun t193 => (spec_l4Rows.j0 k (wrap64 (1 + t174)) t177 t193 l0 bt188.2.1 bt188.2.2))) else (spec_l4Rows.j0 k (wrap64 (1 + t174)) t177 t180 l0 t186 t187)) = some (r1, r2, r3, r4, r5, r6) := H
  have A5 := Aside0.mk A50
  clear A50
  have HC6 := Aside0.mk H
  clear H
  go_enter Try.func103, Try.ntmps103
  go_upto_if 24 with (first | ((with_reducible refine gate_dst (N := 14) rfl ?_); refine box_event ?hg (N := 14) ?hd (cs := #[.slice A0 l0.length c0, .int .i64 0, .int .u64 0]) (t := 156) ?hr ?_; (case hd => rfl); (case hg => rfl); (case hr => first | (go_simp; done) | (go_simp; rfl)); intro gb173 hg w7 hbox hb; have n0_ := Aside0.mk (below_step (by repeat (first | (with_reducible first | exact HB.out | apply below_alloc | apply pw_below_drewN | apply below_drew1) | exact HB.out)) hb); have n1_ := Aside0.mk ((by rw [hg]; exact (below_size (by repeat (first | (with_reducible first | exact HB.out | apply below_alloc | apply pw_below_drewN | apply below_drew1) | exact HB.out))) : w.heap.size ≤ gb173)); have n2_ := Aside0.mk ((show IsS156 w0 w7 gb173 l0 0 0 from ⟨_, _, hbox, (by rw [hg]; exact Nat.le_trans HB0.out.size ((below_size (by repeat (first | (with_reducible first | exact HB.out | apply below_alloc | apply pw_below_drewN | apply below_drew1) | exact HB.out))))), HQ0.out⟩)); have n3_ := n1_; clear HB; have HB := n0_; have GW173 := n1_; have HI173 := n2_; have GS173 := n3_; clear n0_ n1_ n2_ n3_; clear hb hbox hg) | ((with_reducible refine gate_callee (f := 104) rfl ?_); refine goesL_ (some 16) rfl rfl Try.func104 (by kernel_rfl) rfl #[.pointer (some ⟨gb173, 0, none⟩), .int .i64 4] rfl (by (try simp only [List.map_toArray, List.map_cons, List.map_nil]); first | done | rfl | (simp only [List.length_drop, List.length_take]; rfl)) ?_; (with_reducible refine (spec_l1Cur_pick.calls gb173 l0 0 0 4 t174 t175 t176 w0 _ ?side1 ?side2 A2.out).mono ?_); (case side1 => repeat (first | (with_reducible first | exact HI173.out | apply IsS156.alloc | apply IsS156.drewN | apply IsS156.drew | apply IsS156.set_1 | apply IsS156.set_2) | exact HI173.out)); (case side2 => exact below_step HB0.out (by repeat (first | (with_reducible first | exact HB.out | apply below_alloc | apply pw_below_drewN | apply below_drew1 | refine below_set ?_ (IsS156.ge HI173.out)) | exact HB.out))); rintro e w8 ⟨rfl, hi, hb, hk⟩; refine ⟨_, rfl, ?_⟩; have n0_ := Aside0.mk (spec_l4Rows.bk HB0.out (by repeat (first | (with_reducible first | exact HB.out | apply below_alloc | apply pw_below_drewN | apply below_drew1 | refine below_set ?_ (IsS156.ge HI173.out)) | exact HB.out)) hb hk GS173.out); have n1_ := Aside0.mk (hi); clear HB; clear HI173; have HB := n0_; have HI173 := n1_; clear n0_ n1_; (try clear hb); (try clear hb2); (try clear hk); (try clear hi)) | ((with_reducible refine gate_callee (f := 104) rfl ?_); refine goesL_ (some 19) rfl rfl Try.func104 (by kernel_rfl) rfl #[.pointer (some ⟨gb173, 0, none⟩), .int .i64 24] rfl (by (try simp only [List.map_toArray, List.map_cons, List.map_nil]); first | done | rfl | (simp only [List.length_drop, List.length_take]; rfl)) ?_; (with_reducible refine (spec_l1Cur_pick.calls gb173 l0 t175 t176 24 t177 t178 t179 w0 _ ?side1 ?side2 A3.out).mono ?_); (case side1 => repeat (first | (with_reducible first | exact HI173.out | apply IsS156.alloc | apply IsS156.drewN | apply IsS156.drew | apply IsS156.set_1 | apply IsS156.set_2) | exact HI173.out)); (case side2 => exact below_step HB0.out (by repeat (first | (with_reducible first | exact HB.out | apply below_alloc | apply pw_below_drewN | apply below_drew1 | refine below_set ?_ (IsS156.ge HI173.out)) | exact HB.out))); rintro e w9 ⟨rfl, hi, hb, hk⟩; refine ⟨_, rfl, ?_⟩; have n0_ := Aside0.mk (spec_l4Rows.bk HB0.out (by repeat (first | (with_reducible first | exact HB.out | apply below_alloc | apply pw_below_drewN | apply below_drew1 | refine below_set ?_ (IsS156.ge HI173.out)) | exact HB.out)) hb hk GS173.out); have n1_ := Aside0.mk (hi); clear HB; clear HI173; have HB := n0_; have HI173 := n1_; clear n0_ n1_; (try clear hb); (try clear hb2); (try clear hk); (try clear hi)) | ((with_reducible refine gate_callee (f := 181) rfl ?_); refine goesL_ (some 22) rfl rfl Try.func181 (by kernel_rfl) rfl #[.pointer (some ⟨gb173, 0, none⟩), .int .i64 t177] rfl (by (try simp only [List.map_toArray, List.map_cons, List.map_nil]); first | done | rfl | (simp only [List.length_drop, List.length_take]; rfl)) ?_; (with_reducible refine (spec_l1Cur_bytes.calls k gb173 l0 t178 t179 t177 t180 t183 t184 w0 _ ?side1 ?side2 A4.out).mono ?_); (case side1 => repeat (first | (with_reducible first | exact HI173.out | apply IsS156.alloc | apply IsS156.drewN | apply IsS156.drew | apply IsS156.set_1 | apply IsS156.set_2) | exact HI173.out)); (case side2 => exact below_step HB0.out (by repeat (first | (with_reducible first | exact HB.out | apply below_alloc | apply pw_below_drewN | apply below_drew1 | refine below_set ?_ (IsS156.ge HI173.out)) | exact HB.out))); rintro e w10 ⟨v181, rfl, ho0, hi, hb, hk⟩; refine ⟨_, rfl, ?_⟩; have n0_ := Aside0.mk (Kd.R_lower ho0 (below_size (by repeat (first | (with_reducible first | exact HB.out | apply below_alloc | apply pw_below_drewN | apply below_drew1 | refine below_set ?_ (IsS156.ge HI173.out)) | exact HB.out)))); have n1_ := Aside0.mk (spec_l4Rows.bk HB0.out (by repeat (first | (with_reducible first | exact HB.out | apply below_alloc | apply pw_below_drewN | apply below_drew1 | refine below_set ?_ (IsS156.ge HI173.out)) | exact HB.out)) hb hk GS173.out); have n2_ := Aside0.mk (hi); clear HB; clear HI173; have HO182 := n0_; have HB := n1_; have HI173 := n2_; clear n0_ n1_ n2_; (try clear hb); (try clear hb2); (try clear hk); (try clear hi); (try clear ho0)) | ((with_reducible refine gate_callee (f := 105) rfl ?_); refine goesL_ (some 24) rfl rfl Try.func105 (by kernel_rfl) rfl #[.pointer (some ⟨gb173, 0, none⟩), .int .i64 2] rfl (by (try simp only [List.map_toArray, List.map_cons, List.map_nil]); first | done | rfl | (simp only [List.length_drop, List.length_take]; rfl)) ?_; (with_reducible refine (spec_l1Cur_one.calls gb173 l0 t183 t184 2 t185 t186 t187 w0 _ ?side1 ?side2 A5.out).mono ?_); (case side1 => repeat (first | (with_reducible first | exact HI173.out | apply IsS156.alloc | apply IsS156.drewN | apply IsS156.drew | apply IsS156.set_1 | apply IsS156.set_2) | exact HI173.out)); (case side2 => exact below_step HB0.out (by repeat (first | (with_reducible first | exact HB.out | apply below_alloc | apply pw_below_drewN | apply below_drew1 | refine below_set ?_ (IsS156.ge HI173.out)) | exact HB.out))); rintro e w11 ⟨rfl, hi, hb, hk⟩; refine ⟨_, rfl, ?_⟩; have n0_ := Aside0.mk (Kd.R_mono (Kd.R_keep (IsS156.apart (show IsS156 w0 _ gb173 l0 t183 t184 from by repeat (first | (with_reducible first | exact HI173.out | apply IsS156.alloc | apply IsS156.drewN | apply IsS156.drew | apply IsS156.set_1 | apply IsS156.set_2) | exact HI173.out)) (by (with_reducible repeat (first | apply Kd.R_alloc | apply Kd.R_drewN | apply Kd.R_drew)); exact HO182.out) (by decide)) hk (fun _ h => h.2)) (fun _ h => h.1)); have n1_ := Aside0.mk (spec_l4Rows.bk HB0.out (by repeat (first | (with_reducible first | exact HB.out | apply below_alloc | apply pw_below_drewN | apply below_drew1 | refine below_set ?_ (IsS156.ge HI173.out)) | exact HB.out)) hb hk GS173.out); have n2_ := Aside0.mk (hi); clear HO182; clear HB; clear HI173; have HO182 := n0_; have HB := n1_; have HI173 := n2_; clear n0_ n1_ n2_; (try clear hb); (try clear hb2); (try clear hk); (try clear hi)))
  (try simp only [Act.put, List.setIfInBounds_toArray, List.set_cons_zero, List.set_cons_succ])
  go_cut [9] (fun v9 wc => ∃ (kq : Nat) (x9_5 : List Int) (x174001_5 : Int) (x174002_5 : Int), Aside0 (spec_l4Rows.j0 kq (wrap64 (1 + t174)) t177 x9_5 l0 x174001_5 x174002_5 = some (r1, r2, r3, r4, r5, r6)) ∧ Aside0 (kq ≤ k) ∧ Aside0 (Kd.R (Kd.int .u8) 5 wc w.heap.size (fun _ => True) v9 x9_5) ∧ Aside0 (IsS156 w0 wc gb173 l0 x174001_5 x174002_5) ∧ Aside0 (Below w.heap.size w wc))
  case first =>
    have H := HC6.out
    clear HC6
    by_cases c12 : t185 = true
    rotate_left
    · replace c12 := Bool.eq_false_iff.mpr c12
      subst c12
      have H1 : (spec_l4Rows.j0 k (wrap64 (1 + t174)) t177 t180 l0 t186 t187) = some (r1, r2, r3, r4, r5, r6) := by rw [if_neg (show ¬ (false = true) by decide)] at H; exact H
      clear H
      have H := H1
      clear H1
      have H' := Aside0.mk H
      clear H
      go_wp2
      go_meet
      case rel => exact ⟨_, (t180), (t186), (t187), H', ⟨by first | omega | exact Nat.le_refl _⟩, ⟨by (with_reducible repeat (first | apply Kd.R_alloc | apply Kd.R_drewN | apply Kd.R_drew)); exact HO182.out⟩, ⟨by repeat (first | (with_reducible first | exact HI173.out | apply IsS156.alloc | apply IsS156.drewN | apply IsS156.drew | apply IsS156.set_1 | apply IsS156.set_2) | exact HI173.out)⟩, ⟨by repeat (first | (with_reducible first | exact HB.out | apply below_alloc | apply pw_below_drewN | apply below_drew1 | refine below_set ?_ (IsS156.ge HI173.out)) | exact HB.out)⟩⟩
    subst c12
    have H1 : ((spec_l1Cur_samples.f k l0 t186 t187 t177 1 1 8).bind fun bt188 => ((spec_l4Pack.f k bt188.1 8).bind fun t193 => (spec_l4Rows.j0 k (wrap64 (1 + t174)) t177 t193 l0 bt188.2.1 bt188.2.2))) = some (r1, r2, r3, r4, r5, r6) := by rw [if_pos rfl] at H; exact H
    clear H
    have H := H1
    clear H1
    replace H := Option.bind_eq_some_iff.mp H
    obtain ⟨⟨t188, t191, t192⟩, A130, H⟩ := H
    replace H : ((spec_l4Pack.f k t188 8).bind fun t193 => (spec_l4Rows.j0 k (wrap64 (1 + t174)) t177 t193 l0 t191 t192)) = some (r1, r2, r3, r4, r5, r6) := H
    have A13 := Aside0.mk A130
    clear A130
    replace H := Option.bind_eq_some_iff.mp H
    obtain ⟨t193, A140, H⟩ := H
    replace H : (spec_l4Rows.j0 k (wrap64 (1 + t174)) t177 t193 l0 t191 t192) = some (r1, r2, r3, r4, r5, r6) := H
    have A14 := Aside0.mk A140
    clear A140
    have H' := Aside0.mk H
    clear H
    go_wp2_with (first | ((with_reducible refine gate_callee (f := 183) rfl ?_); refine goesL_ (some 27) rfl rfl Try.func183 (by kernel_rfl) rfl #[.pointer (some ⟨gb173, 0, none⟩), .int .i64 t177, .int .i64 1, .int .i64 1, .int .i64 8] rfl (by (try simp only [List.map_toArray, List.map_cons, List.map_nil]); first | done | rfl | (simp only [List.length_drop, List.length_take]; rfl)) ?_; (with_reducible refine (spec_l1Cur_samples.calls k gb173 l0 t186 t187 t177 1 1 8 t188 t191 t192 w0 _ ?side1 ?side2 A13.out).mono ?_); (case side1 => repeat (first | (with_reducible first | exact HI173.out | apply IsS156.alloc | apply IsS156.drewN | apply IsS156.drew | apply IsS156.set_1 | apply IsS156.set_2) | exact HI173.out)); (case side2 => exact below_step HB0.out (by repeat (first | (with_reducible first | exact HB.out | apply below_alloc | apply pw_below_drewN | apply below_drew1 | refine below_set ?_ (IsS156.ge HI173.out)) | exact HB.out))); rintro e w15 ⟨v189, rfl, ho0, hi, hb, hk⟩; refine ⟨_, rfl, ?_⟩; have n0_ := Aside0.mk (Kd.R_mono (Kd.R_keep (IsS156.apart (show IsS156 w0 _ gb173 l0 t186 t187 from by repeat (first | (with_reducible first | exact HI173.out | apply IsS156.alloc | apply IsS156.drewN | apply IsS156.drew | apply IsS156.set_1 | apply IsS156.set_2) | exact HI173.out)) (by (with_reducible repeat (first | apply Kd.R_alloc | apply Kd.R_drewN | apply Kd.R_drew)); exact HO182.out) (by decide)) hk (fun _ h => h.2)) (fun _ h => h.1)); have n1_ := Aside0.mk (Kd.R_lower ho0 (below_size (by repeat (first | (with_reducible first | exact HB.out | apply below_alloc | apply pw_below_drewN | apply below_drew1 | refine below_set ?_ (IsS156.ge HI173.out)) | exact HB.out)))); have n2_ := Aside0.mk (spec_l4Rows.bk HB0.out (by repeat (first | (with_reducible first | exact HB.out | apply below_alloc | apply pw_below_drewN | apply below_drew1 | refine below_set ?_ (IsS156.ge HI173.out)) | exact HB.out)) hb hk GS173.out); have n3_ := Aside0.mk (hi); clear HO182; clear HB; clear HI173; have HO182 := n0_; have HO190 := n1_; have HB := n2_; have HI173 := n3_; clear n0_ n1_ n2_ n3_; (try clear hb); (try clear hb2); (try clear hk); (try clear hi); (try clear ho0); obtain ⟨Ao16, co16, eo16⟩ := Kd.R_slice HO190.out; subst eo16) | ((with_reducible refine gate_callee (f := 182) rfl ?_); refine goesL_ (some 28) rfl rfl Try.func182 (by kernel_rfl) rfl #[.slice Ao16 t188.length co16, .int .i64 8] rfl (by (try simp only [List.map_toArray, List.map_cons, List.map_nil]); first | done | rfl | (simp only [List.length_drop, List.length_take]; rfl)) ?_; (with_reducible refine (spec_l4Pack.calls k _ _ t188 8 t193 _ ?side1 ?side2 A14.out).mono ?_); (case side1 => repeat (first | exact (Kd.R_reads' HO190.out).2.2 | (with_reducible refine Kd.C_alloc ?_ _) | (with_reducible refine Kd.C_drewN ?_ _) | (with_reducible refine Kd.C_drew ?_))); (case side2 => exact (Kd.R_reads' HO190.out).2.1); rintro e w17 ⟨v194, rfl, ho0, hb⟩; refine ⟨_, rfl, ?_⟩; have n0_ := Aside0.mk (Kd.R_elder' (by (with_reducible repeat (first | apply Kd.R_alloc | apply Kd.R_drewN | apply Kd.R_drew)); exact HO182.out) (Kd.R_base ho0) hb); have n1_ := Aside0.mk (Kd.R_below (by (with_reducible repeat (first | apply Kd.R_alloc | apply Kd.R_drewN | apply Kd.R_drew)); exact HO190.out) hb); have n2_ := Aside0.mk (Kd.R_lower (Kd.R_new' ho0 (Kd.R_lt (by (with_reducible repeat (first | apply Kd.R_alloc | apply Kd.R_drewN | apply Kd.R_drew)); exact HO182.out))) (below_size (by repeat (first | (with_reducible first | exact HB.out | apply below_alloc | apply pw_below_drewN | apply below_drew1 | refine below_set ?_ (IsS156.ge HI173.out)) | exact HB.out)))); have n3_ := Aside0.mk (IsS156.below (by repeat (first | (with_reducible first | exact HI173.out | apply IsS156.alloc | apply IsS156.drewN | apply IsS156.drew | apply IsS156.set_1 | apply IsS156.set_2) | exact HI173.out)) hb); have n4_ := Aside0.mk (below_step (by repeat (first | (with_reducible first | exact HB.out | apply below_alloc | apply pw_below_drewN | apply below_drew1 | refine below_set ?_ (IsS156.ge HI173.out)) | exact HB.out)) hb); clear HO182; clear HO190; clear HI173; clear HB; have HO182 := n0_; have HO190 := n1_; have HO195 := n2_; have HI173 := n3_; have HB := n4_; clear n0_ n1_ n2_ n3_ n4_; (try clear hb); (try clear hb2); (try clear hk); (try clear hi); (try clear ho0)))
    go_meet
    case rel => exact ⟨_, (t193), (t191), (t192), H', ⟨by first | omega | exact Nat.le_refl _⟩, ⟨by (with_reducible repeat (first | apply Kd.R_alloc | apply Kd.R_drewN | apply Kd.R_drew)); exact Kd.R_mono HO195.out (fun _ hk => trivial)⟩, ⟨by repeat (first | (with_reducible first | exact HI173.out | apply IsS156.alloc | apply IsS156.drewN | apply IsS156.drew | apply IsS156.set_1 | apply IsS156.set_2) | exact HI173.out)⟩, ⟨by repeat (first | (with_reducible first | exact HB.out | apply below_alloc | apply pw_below_drewN | apply below_drew1 | refine below_set ?_ (IsS156.ge HI173.out)) | exact HB.out)⟩⟩
  case rest =>
    clear HC6
    try clear c1
    try clear p2
    try clear p6
    try clear c10
    try clear c12
    obtain ⟨kq, x9_5, x174001_5, x174002_5, HA, HJ5, HO_9, HI173, HB⟩ := hcut
    cases kq with
    | zero => exact absurd HA.out (by simp [spec_l4Rows.j0])
    | succ kj5 =>
      have H := HA.out
      clear HA
      simp only [spec_l4Rows.j0] at H
      replace H := Option.bind_eq_some_iff.mp H
      obtain ⟨⟨t196, t197, t198⟩, A180, H⟩ := H
      replace H : (if t196 = true then (spec_l4Rows.j2 kj5 (wrap64 (1 + t174)) x9_5 ([] : List Int) l0 t197 t198) else ((spec_l1Cur_bytes.f kj5 l0 t197 t198 t177).bind fun bt199 => ((spec_l1Cur_one.f l0 bt199.2.1 bt199.2.2 2).bind fun bt204 => (if bt204.1 = true then (spec_l4Rows.l0 kj5 (wrap64 (1 + t174)) x9_5 bt199.1 (bt199.1.length : Int) 0 l0 bt204.2.1 bt204.2.2) else (spec_l4Rows.j2 kj5 (wrap64 (1 + t174)) x9_5 bt199.1 l0 bt204.2.1 bt204.2.2))))) = some (r1, r2, r3, r4, r5, r6) := H
      have A18 := Aside0.mk A180
      clear A180
      have HC19 := Aside0.mk H
      clear H
      go_upto_if 31 with (first | ((with_reducible refine gate_callee (f := 105) rfl ?_); refine goesL_ (some 30) rfl rfl Try.func105 (by kernel_rfl) rfl #[.pointer (some ⟨gb173, 0, none⟩), .int .i64 4] rfl (by (try simp only [List.map_toArray, List.map_cons, List.map_nil]); first | done | rfl | (simp only [List.length_drop, List.length_take]; rfl)) ?_; (with_reducible refine (spec_l1Cur_one.calls gb173 l0 x174001_5 x174002_5 4 t196 t197 t198 w0 _ ?side1 ?side2 A18.out).mono ?_); (case side1 => repeat (first | (with_reducible first | exact HI173.out | apply IsS156.alloc | apply IsS156.drewN | apply IsS156.drew | apply IsS156.set_1 | apply IsS156.set_2) | exact HI173.out)); (case side2 => exact below_step HB0.out (by repeat (first | (with_reducible first | exact HB.out | apply below_alloc | apply pw_below_drewN | apply below_drew1 | refine below_set ?_ (IsS156.ge HI173.out)) | exact HB.out))); rintro e w20 ⟨rfl, hi, hb, hk⟩; refine ⟨_, rfl, ?_⟩; have n0_ := Aside0.mk (Kd.R_mono (Kd.R_keep (IsS156.apart (show IsS156 w0 _ gb173 l0 x174001_5 x174002_5 from by repeat (first | (with_reducible first | exact HI173.out | apply IsS156.alloc | apply IsS156.drewN | apply IsS156.drew | apply IsS156.set_1 | apply IsS156.set_2) | exact HI173.out)) (by (with_reducible repeat (first | apply Kd.R_alloc | apply Kd.R_drewN | apply Kd.R_drew)); exact HO_9.out) (by decide)) hk (fun _ h => h.2)) (fun _ h => h.1)); have n1_ := Aside0.mk (spec_l4Rows.bk HB0.out (by repeat (first | (with_reducible first | exact HB.out | apply below_alloc | apply pw_below_drewN | apply below_drew1 | refine below_set ?_ (IsS156.ge HI173.out)) | exact HB.out)) hb hk GS173.out); have n2_ := Aside0.mk (hi); clear HO_9; clear HB; clear HI173; have HO_9 := n0_; have HB := n1_; have HI173 := n2_; clear n0_ n1_ n2_; (try clear hb); (try clear hb2); (try clear hk); (try clear hi)))
      (try simp only [Act.put, List.setIfInBounds_toArray, List.set_cons_zero, List.set_cons_succ])
      go_cut [10] (fun v10 wc => ∃ (kq : Nat) (x9_18 : List Int) (x10_18 : List Int) (x174001_18 : Int) (x174002_18 : Int), Aside0 (spec_l4Rows.j2 kq (wrap64 (1 + t174)) x9_18 x10_18 l0 x174001_18 x174002_18 = some (r1, r2, r3, r4, r5, r6)) ∧ Aside0 (kq ≤ kj5) ∧ Aside0 (Kd.R (Kd.int .u8) 5 wc w.heap.size (fun k_ => some k_ ≠ (v10 : Value).ownBlock) u9 x9_18) ∧ Aside0 (Kd.R (Kd.int .u8) 5 wc w.heap.size (fun k_ => some k_ ≠ (u9 : Value).ownBlock) v10 x10_18) ∧ Aside0 (IsS156 w0 wc gb173 l0 x174001_18 x174002_18) ∧ Aside0 (Below w.heap.size w wc))
      case first =>
        have H := HC19.out
        clear HC19
        by_cases c21 : t196 = true
        · subst c21
          have H1 : (spec_l4Rows.j2 kj5 (wrap64 (1 + t174)) x9_5 ([] : List Int) l0 t197 t198) = some (r1, r2, r3, r4, r5, r6) := by rw [if_pos rfl] at H; exact H
          clear H
          have H := H1
          clear H1
          have H' := Aside0.mk H
          clear H
          go_wp2
          go_meet
          case rel => exact ⟨_, (x9_5), (([] : List Int)), (t197), (t198), H', ⟨by have := HJ5.out; first | omega | exact Nat.le_refl _⟩, ⟨by (with_reducible repeat (first | apply Kd.R_alloc | apply Kd.R_drewN | apply Kd.R_drew)); exact Kd.R_mono HO_9.out (fun _ hk => (by simp [Value.ownBlock]))⟩, ⟨by first | exact Kd.R_nil _ _ _ _ _ | exact Kd.N_nil _ _ _ _ _ | exact Kd.V_nil _ _ _ _ _ | exact Kd.Q_nil _ _ _ _ _ | exact Kd.S_nil _ _ _ _ _⟩, ⟨by repeat (first | (with_reducible first | exact HI173.out | apply IsS156.alloc | apply IsS156.drewN | apply IsS156.drew | apply IsS156.set_1 | apply IsS156.set_2) | exact HI173.out)⟩, ⟨by repeat (first | (with_reducible first | exact HB.out | apply below_alloc | apply pw_below_drewN | apply below_drew1 | refine below_set ?_ (IsS156.ge HI173.out)) | exact HB.out)⟩⟩
        replace c21 := Bool.eq_false_iff.mpr c21
        subst c21
        have H1 : ((spec_l1Cur_bytes.f kj5 l0 t197 t198 t177).bind fun bt199 => ((spec_l1Cur_one.f l0 bt199.2.1 bt199.2.2 2).bind fun bt204 => (if bt204.1 = true then (spec_l4Rows.l0 kj5 (wrap64 (1 + t174)) x9_5 bt199.1 (bt199.1.length : Int) 0 l0 bt204.2.1 bt204.2.2) else (spec_l4Rows.j2 kj5 (wrap64 (1 + t174)) x9_5 bt199.1 l0 bt204.2.1 bt204.2.2)))) = some (r1, r2, r3, r4, r5, r6) := by rw [if_neg (show ¬ (false = true) by decide)] at H; exact H
        clear H
        have H := H1
        clear H1
        replace H := Option.bind_eq_some_iff.mp H
        obtain ⟨⟨t199, t202, t203⟩, A220, H⟩ := H
        replace H : ((spec_l1Cur_one.f l0 t202 t203 2).bind fun bt204 => (if bt204.1 = true then (spec_l4Rows.l0 kj5 (wrap64 (1 + t174)) x9_5 t199 (t199.length : Int) 0 l0 bt204.2.1 bt204.2.2) else (spec_l4Rows.j2 kj5 (wrap64 (1 + t174)) x9_5 t199 l0 bt204.2.1 bt204.2.2))) = some (r1, r2, r3, r4, r5, r6) := H
        have A22 := Aside0.mk A220
        clear A220
        replace H := Option.bind_eq_some_iff.mp H
        obtain ⟨⟨t204, t205, t206⟩, A230, H⟩ := H
        replace H : (if t204 = true then (spec_l4Rows.l0 kj5 (wrap64 (1 + t174)) x9_5 t199 (t199.length : Int) 0 l0 t205 t206) else (spec_l4Rows.j2 kj5 (wrap64 (1 + t174)) x9_5 t199 l0 t205 t206)) = some (r1, r2, r3, r4, r5, r6) := H
        have A23 := Aside0.mk A230
        clear A230
        by_cases c24 : t204 = true
        rotate_left
        · replace c24 := Bool.eq_false_iff.mpr c24
          subst c24
          have H1 : (spec_l4Rows.j2 kj5 (wrap64 (1 + t174)) x9_5 t199 l0 t205 t206) = some (r1, r2, r3, r4, r5, r6) := by rw [if_neg (show ¬ (false = true) by decide)] at H; exact H
          clear H
          have H := H1
          clear H1
          have H' := Aside0.mk H
          clear H
          go_wp2_with (first | ((with_reducible refine gate_callee (f := 181) rfl ?_); refine goesL_ (some 34) rfl rfl Try.func181 (by kernel_rfl) rfl #[.pointer (some ⟨gb173, 0, none⟩), .int .i64 t177] rfl (by (try simp only [List.map_toArray, List.map_cons, List.map_nil]); first | done | rfl | (simp only [List.length_drop, List.length_take]; rfl)) ?_; (with_reducible refine (spec_l1Cur_bytes.calls kj5 gb173 l0 t197 t198 t177 t199 t202 t203 w0 _ ?side1 ?side2 A22.out).mono ?_); (case side1 => repeat (first | (with_reducible first | exact HI173.out | apply IsS156.alloc | apply IsS156.drewN | apply IsS156.drew | apply IsS156.set_1 | apply IsS156.set_2) | exact HI173.out)); (case side2 => exact below_step HB0.out (by repeat (first | (with_reducible first | exact HB.out | apply below_alloc | apply pw_below_drewN | apply below_drew1 | refine below_set ?_ (IsS156.ge HI173.out)) | exact HB.out))); rintro e w38 ⟨v200, rfl, ho0, hi, hb, hk⟩; refine ⟨_, rfl, ?_⟩; have n0_ := Aside0.mk (Kd.R_mono (Kd.R_told (Kd.R_oldK (IsS156.apart (show IsS156 w0 _ gb173 l0 t197 t198 from by repeat (first | (with_reducible first | exact HI173.out | apply IsS156.alloc | apply IsS156.drewN | apply IsS156.drew | apply IsS156.set_1 | apply IsS156.set_2) | exact HI173.out)) (by (with_reducible repeat (first | apply Kd.R_alloc | apply Kd.R_drewN | apply Kd.R_drew)); exact HO_9.out) (by decide)) hk) (Kd.R_base ho0)) (fun _ h_ => h_.1)); have n1_ := Aside0.mk (Kd.R_lower (Kd.R_new' ho0 (Kd.R_lt (by (with_reducible repeat (first | apply Kd.R_alloc | apply Kd.R_drewN | apply Kd.R_drew)); exact HO_9.out))) (below_size (by repeat (first | (with_reducible first | exact HB.out | apply below_alloc | apply pw_below_drewN | apply below_drew1 | refine below_set ?_ (IsS156.ge HI173.out)) | exact HB.out)))); have n2_ := Aside0.mk (spec_l4Rows.bk HB0.out (by repeat (first | (with_reducible first | exact HB.out | apply below_alloc | apply pw_below_drewN | apply below_drew1 | refine below_set ?_ (IsS156.ge HI173.out)) | exact HB.out)) hb hk GS173.out); have n3_ := Aside0.mk (hi); clear HO_9; clear HB; clear HI173; have HO_9 := n0_; have HO201 := n1_; have HB := n2_; have HI173 := n3_; clear n0_ n1_ n2_ n3_; (try clear hb); (try clear hb2); (try clear hk); (try clear hi); (try clear ho0)) | ((with_reducible refine gate_callee (f := 105) rfl ?_); refine goesL_ (some 36) rfl rfl Try.func105 (by kernel_rfl) rfl #[.pointer (some ⟨gb173, 0, none⟩), .int .i64 2] rfl (by (try simp only [List.map_toArray, List.map_cons, List.map_nil]); first | done | rfl | (simp only [List.length_drop, List.length_take]; rfl)) ?_; (with_reducible refine (spec_l1Cur_one.calls gb173 l0 t202 t203 2 false t205 t206 w0 _ ?side1 ?side2 A23.out).mono ?_); (case side1 => repeat (first | (with_reducible first | exact HI173.out | apply IsS156.alloc | apply IsS156.drewN | apply IsS156.drew | apply IsS156.set_1 | apply IsS156.set_2) | exact HI173.out)); (case side2 => exact below_step HB0.out (by repeat (first | (with_reducible first | exact HB.out | apply below_alloc | apply pw_below_drewN | apply below_drew1 | refine below_set ?_ (IsS156.ge HI173.out)) | exact HB.out))); rintro e w39 ⟨rfl, hi, hb, hk⟩; refine ⟨_, rfl, ?_⟩; have n0_ := Aside0.mk (Kd.R_mono (Kd.R_keep (IsS156.apart (show IsS156 w0 _ gb173 l0 t202 t203 from by repeat (first | (with_reducible first | exact HI173.out | apply IsS156.alloc | apply IsS156.drewN | apply IsS156.drew | apply IsS156.set_1 | apply IsS156.set_2) | exact HI173.out)) (by (with_reducible repeat (first | apply Kd.R_alloc | apply Kd.R_drewN | apply Kd.R_drew)); exact HO_9.out) (by decide)) hk (fun _ h => h.2)) (fun _ h => h.1)); have n1_ := Aside0.mk (Kd.R_mono (Kd.R_keep (IsS156.apart (show IsS156 w0 _ gb173 l0 t202 t203 from by repeat (first | (with_reducible first | exact HI173.out | apply IsS156.alloc | apply IsS156.drewN | apply IsS156.drew | apply IsS156.set_1 | apply IsS156.set_2) | exact HI173.out)) (by (with_reducible repeat (first | apply Kd.R_alloc | apply Kd.R_drewN | apply Kd.R_drew)); exact HO201.out) (by decide)) hk (fun _ h => h.2)) (fun _ h => h.1)); have n2_ := Aside0.mk (spec_l4Rows.bk HB0.out (by repeat (first | (with_reducible first | exact HB.out | apply below_alloc | apply pw_below_drewN | apply below_drew1 | refine below_set ?_ (IsS156.ge HI173.out)) | exact HB.out)) hb hk GS173.out); have n3_ := Aside0.mk (hi); clear HO_9; clear HO201; clear HB; clear HI173; have HO_9 := n0_; have HO201 := n1_; have HB := n2_; have HI173 := n3_; clear n0_ n1_ n2_ n3_; (try clear hb); (try clear hb2); (try clear hk); (try clear hi)))
          go_meet
          case rel => exact ⟨_, (x9_5), (t199), (t205), (t206), H', ⟨by have := HJ5.out; first | omega | exact Nat.le_refl _⟩, ⟨by (with_reducible repeat (first | apply Kd.R_alloc | apply Kd.R_drewN | apply Kd.R_drew)); exact Kd.R_mono HO_9.out (fun _ hk => hk.2)⟩, ⟨by (with_reducible repeat (first | apply Kd.R_alloc | apply Kd.R_drewN | apply Kd.R_drew)); exact Kd.R_mono HO201.out (fun _ hk => hk.2)⟩, ⟨by repeat (first | (with_reducible first | exact HI173.out | apply IsS156.alloc | apply IsS156.drewN | apply IsS156.drew | apply IsS156.set_1 | apply IsS156.set_2) | exact HI173.out)⟩, ⟨by repeat (first | (with_reducible first | exact HB.out | apply below_alloc | apply pw_below_drewN | apply below_drew1 | refine below_set ?_ (IsS156.ge HI173.out)) | exact HB.out)⟩⟩
        subst c24
        have H1 : (spec_l4Rows.l0 kj5 (wrap64 (1 + t174)) x9_5 t199 (t199.length : Int) 0 l0 t205 t206) = some (r1, r2, r3, r4, r5, r6) := by rw [if_pos rfl] at H; exact H
        clear H
        have H := H1
        clear H1
        have H' := Aside0.mk H
        clear H
        go_wp2_with (first | ((with_reducible refine gate_callee (f := 181) rfl ?_); refine goesL_ (some 34) rfl rfl Try.func181 (by kernel_rfl) rfl #[.pointer (some ⟨gb173, 0, none⟩), .int .i64 t177] rfl (by (try simp only [List.map_toArray, List.map_cons, List.map_nil]); first | done | rfl | (simp only [List.length_drop, List.length_take]; rfl)) ?_; (with_reducible refine (spec_l1Cur_bytes.calls kj5 gb173 l0 t197 t198 t177 t199 t202 t203 w0 _ ?side1 ?side2 A22.out).mono ?_); (case side1 => repeat (first | (with_reducible first | exact HI173.out | apply IsS156.alloc | apply IsS156.drewN | apply IsS156.drew | apply IsS156.set_1 | apply IsS156.set_2) | exact HI173.out)); (case side2 => exact below_step HB0.out (by repeat (first | (with_reducible first | exact HB.out | apply below_alloc | apply pw_below_drewN | apply below_drew1 | refine below_set ?_ (IsS156.ge HI173.out)) | exact HB.out))); rintro e w25 ⟨v200, rfl, ho0, hi, hb, hk⟩; refine ⟨_, rfl, ?_⟩; have n0_ := Aside0.mk (Kd.R_mono (Kd.R_told (Kd.R_oldK (IsS156.apart (show IsS156 w0 _ gb173 l0 t197 t198 from by repeat (first | (with_reducible first | exact HI173.out | apply IsS156.alloc | apply IsS156.drewN | apply IsS156.drew | apply IsS156.set_1 | apply IsS156.set_2) | exact HI173.out)) (by (with_reducible repeat (first | apply Kd.R_alloc | apply Kd.R_drewN | apply Kd.R_drew)); exact HO_9.out) (by decide)) hk) (Kd.R_base ho0)) (fun _ h_ => h_.1)); have n1_ := Aside0.mk (Kd.R_lower (Kd.R_new' ho0 (Kd.R_lt (by (with_reducible repeat (first | apply Kd.R_alloc | apply Kd.R_drewN | apply Kd.R_drew)); exact HO_9.out))) (below_size (by repeat (first | (with_reducible first | exact HB.out | apply below_alloc | apply pw_below_drewN | apply below_drew1 | refine below_set ?_ (IsS156.ge HI173.out)) | exact HB.out)))); have n2_ := Aside0.mk (spec_l4Rows.bk HB0.out (by repeat (first | (with_reducible first | exact HB.out | apply below_alloc | apply pw_below_drewN | apply below_drew1 | refine below_set ?_ (IsS156.ge HI173.out)) | exact HB.out)) hb hk GS173.out); have n3_ := Aside0.mk (hi); clear HO_9; clear HB; clear HI173; have HO_9 := n0_; have HO201 := n1_; have HB := n2_; have HI173 := n3_; clear n0_ n1_ n2_ n3_; (try clear hb); (try clear hb2); (try clear hk); (try clear hi); (try clear ho0)) | ((with_reducible refine gate_callee (f := 105) rfl ?_); refine goesL_ (some 36) rfl rfl Try.func105 (by kernel_rfl) rfl #[.pointer (some ⟨gb173, 0, none⟩), .int .i64 2] rfl (by (try simp only [List.map_toArray, List.map_cons, List.map_nil]); first | done | rfl | (simp only [List.length_drop, List.length_take]; rfl)) ?_; (with_reducible refine (spec_l1Cur_one.calls gb173 l0 t202 t203 2 true t205 t206 w0 _ ?side1 ?side2 A23.out).mono ?_); (case side1 => repeat (first | (with_reducible first | exact HI173.out | apply IsS156.alloc | apply IsS156.drewN | apply IsS156.drew | apply IsS156.set_1 | apply IsS156.set_2) | exact HI173.out)); (case side2 => exact below_step HB0.out (by repeat (first | (with_reducible first | exact HB.out | apply below_alloc | apply pw_below_drewN | apply below_drew1 | refine below_set ?_ (IsS156.ge HI173.out)) | exact HB.out))); rintro e w26 ⟨rfl, hi, hb, hk⟩; refine ⟨_, rfl, ?_⟩; have n0_ := Aside0.mk (Kd.R_mono (Kd.R_keep (IsS156.apart (show IsS156 w0 _ gb173 l0 t202 t203 from by repeat (first | (with_reducible first | exact HI173.out | apply IsS156.alloc | apply IsS156.drewN | apply IsS156.drew | apply IsS156.set_1 | apply IsS156.set_2) | exact HI173.out)) (by (with_reducible repeat (first | apply Kd.R_alloc | apply Kd.R_drewN | apply Kd.R_drew)); exact HO_9.out) (by decide)) hk (fun _ h => h.2)) (fun _ h => h.1)); have n1_ := Aside0.mk (Kd.R_mono (Kd.R_keep (IsS156.apart (show IsS156 w0 _ gb173 l0 t202 t203 from by repeat (first | (with_reducible first | exact HI173.out | apply IsS156.alloc | apply IsS156.drewN | apply IsS156.drew | apply IsS156.set_1 | apply IsS156.set_2) | exact HI173.out)) (by (with_reducible repeat (first | apply Kd.R_alloc | apply Kd.R_drewN | apply Kd.R_drew)); exact HO201.out) (by decide)) hk (fun _ h => h.2)) (fun _ h => h.1)); have n2_ := Aside0.mk (spec_l4Rows.bk HB0.out (by repeat (first | (with_reducible first | exact HB.out | apply below_alloc | apply pw_below_drewN | apply below_drew1 | refine below_set ?_ (IsS156.ge HI173.out)) | exact HB.out)) hb hk GS173.out); have n3_ := Aside0.mk (hi); clear HO_9; clear HO201; clear HB; clear HI173; have HO_9 := n0_; have HO201 := n1_; have HB := n2_; have HI173 := n3_; clear n0_ n1_ n2_ n3_; (try clear hb); (try clear hb2); (try clear hk); (try clear hi); obtain ⟨Ao27, co27, eo27⟩ := Kd.R_slice HO201.out; subst eo27))
        go_loopg [39] kj5 (fun kq v39 w' => ∃ (x10_2 : List Int) (x39_2 : Int) (x174001_2 : Int) (x174002_2 : Int), v39 = .int .i64 x39_2 ∧ Aside0 (spec_l4Rows.l0 kq (wrap64 (1 + t174)) x9_5 x10_2 (t199.length : Int) x39_2 l0 x174001_2 x174002_2 = some (r1, r2, r3, r4, r5, r6)) ∧ Aside0 (kq ≤ kj5) ∧ Aside0 (Kd.R (Kd.int .u8) 5 w' w.heap.size (fun k_ => some k_ ≠ ((.slice Ao27 t199.length co27) : Value).ownBlock) u9 x9_5) ∧ Aside0 (Kd.R (Kd.int .u8) 5 w' w.heap.size (fun k_ => some k_ ≠ (u9 : Value).ownBlock) (.slice Ao27 t199.length co27) x10_2) ∧ Aside0 (IsS156 w0 w' gb173 l0 x174001_2 x174002_2) ∧ Aside0 (Below w.heap.size w w'))
        case atStart => exact ⟨(t199), (0), (t205), (t206), (by first | rfl | (simp; done) | (simp [*]; done)), H', ⟨Nat.le_refl _⟩, ⟨by (with_reducible repeat (first | apply Kd.R_alloc | apply Kd.R_drewN | apply Kd.R_drew)); exact Kd.R_mono HO_9.out (fun _ hk => hk.2)⟩, ⟨by (with_reducible repeat (first | apply Kd.R_alloc | apply Kd.R_drewN | apply Kd.R_drew)); exact Kd.R_mono HO201.out (fun _ hk => hk.2)⟩, ⟨by repeat (first | (with_reducible first | exact HI173.out | apply IsS156.alloc | apply IsS156.drewN | apply IsS156.drew | apply IsS156.set_1 | apply IsS156.set_2) | exact HI173.out)⟩, ⟨by repeat (first | (with_reducible first | exact HB.out | apply below_alloc | apply pw_below_drewN | apply below_drew1 | refine below_set ?_ (IsS156.ge HI173.out)) | exact HB.out)⟩⟩
        case round =>
          clear H'
          try clear c1
          try clear c2
          try clear p2
          try clear p6
          try clear c10
          try clear c12
          try clear c18
          try clear c21
          try clear c24
          try clear p2
          try clear p6
          obtain ⟨x10_2, x39_2, x174001_2, x174002_2, rfl, HA, HK2, HO_9, HO_10, HI173, HB⟩ := hrel
          have hl10_2 := (Kd.R_reads' HO_10.out).1
          rw [hl10_2] at HO_10
          (try simp only [hl10_2])
          (try simp only [hl10_2] at HO_9)
          cases gk with
          | zero => exact absurd HA.out (by simp [spec_l4Rows.l0])
          | succ k2 =>
            have H := HA.out
            clear HA
            simp only [spec_l4Rows.l0] at H
            by_cases c28 : x39_2 < (t199.length : Int)
            rotate_left
            · rw [if_neg c28] at H
              have c28b0 : decide (x39_2 < (t199.length : Int)) = false := decide_eq_false c28
              (try simp only [hl10_2] at c28b0)
              clear c28
              (first | rw [c28b0] | (simp only [i64_w, i32_w]; rw [c28b0]) | skip)
              have H' := Aside0.mk H
              clear H
              go_wp2
              (try simp only [← hl10_2])
              go_meet
              case rel => exact ⟨_, (x9_5), (x10_2), (x174001_2), (x174002_2), H', ⟨by have := HJ5.out; have := HK2.out; first | omega | exact Nat.le_refl _⟩, ⟨by (try simp only [hl10_2]); (with_reducible repeat (first | apply Kd.R_alloc | apply Kd.R_drewN | apply Kd.R_drew)); exact HO_9.out⟩, ⟨by (try simp only [hl10_2]); (with_reducible repeat (first | apply Kd.R_alloc | apply Kd.R_drewN | apply Kd.R_drew)); exact HO_10.out⟩, ⟨by repeat (first | (with_reducible first | exact HI173.out | apply IsS156.alloc | apply IsS156.drewN | apply IsS156.drew | apply IsS156.set_1 | apply IsS156.set_2) | exact HI173.out)⟩, ⟨by repeat (first | (with_reducible first | exact HB.out | apply below_alloc | apply pw_below_drewN | apply below_drew1 | refine below_set ?_ (IsS156.ge HI173.out)) | exact HB.out)⟩⟩
            rw [if_pos c28] at H
            have c28b0 : decide (x39_2 < (t199.length : Int)) = true := decide_eq_true c28
            (try simp only [hl10_2] at c28b0)
            clear c28
            (first | rw [c28b0] | (simp only [i64_w, i32_w]; rw [c28b0]) | skip)
            by_cases c29 : 0 ≤ x39_2
            rotate_left
            · rw [if_neg c29] at H
              exact absurd H (by simp)
            rw [if_pos c29] at H
            have c29b0 : decide (0 ≤ x39_2) = true := decide_eq_true c29
            clear c29
            by_cases c30 : x39_2 < (x9_5.length : Int)
            rotate_left
            · rw [if_neg c30] at H
              exact absurd H (by simp)
            rw [if_pos c30] at H
            have c30b0 : decide (x39_2 < (x9_5.length : Int)) = true := decide_eq_true c30
            (try simp only [hl10_2] at c30b0)
            clear c30
            replace H := Option.bind_eq_some_iff.mp H
            obtain ⟨⟨t208, t209, t210⟩, A310, H⟩ := H
            replace H : (if x39_2 < (x10_2.length : Int) then (spec_l4Rows.l0 k2 (wrap64 (1 + t174)) x9_5 (x10_2.set (x39_2 : Int).toNat (((rd x9_5 x39_2) + ((t208) % 256)) % 256)) (t199.length : Int) (wrap64 (x39_2 + 1)) l0 t209 t210) else (none)) = some (r1, r2, r3, r4, r5, r6) := H
            have A31 := Aside0.mk A310
            clear A310
            by_cases c32 : x39_2 < (x10_2.length : Int)
            rotate_left
            · rw [if_neg c32] at H
              exact absurd H (by simp)
            rw [if_pos c32] at H
            have c32b0 : decide (x39_2 < (x10_2.length : Int)) = true := decide_eq_true c32
            (try simp only [hl10_2] at c32b0)
            clear c32
            obtain ⟨y211, hy211⟩ : ∃ y_ : List Int, y_ = (x10_2.set (x39_2 : Int).toNat (((rd x9_5 x39_2) + ((t208) % 256)) % 256)) := ⟨_, rfl⟩
            replace H : (spec_l4Rows.l0 k2 (wrap64 (1 + t174)) x9_5 y211 (t199.length : Int) (wrap64 (x39_2 + 1)) l0 t209 t210) = some (r1, r2, r3, r4, r5, r6) := by first | (rw [hy211]; with_reducible exact H) | (have H2_ := (Option.bind_some _ _).symm.trans H; rw [hy211]; with_reducible exact H2_) | (have H2_ := (Option.bind_some _ _).symm.trans H; with_reducible exact H2_) | with_reducible exact H | (rw [hy211]; exact H) | exact H
            have Ny211 := Aside0.mk hy211
            clear hy211
            have H' := Aside0.mk H
            clear H
            try go_wp2
            have n0_ := Aside0.mk (Kd.R_drew HO_9.out)
            have n1_ := Aside0.mk (Kd.R_drew HO_10.out)
            have n2_ := Aside0.mk (IsS156.drew HI173.out)
            have n3_ := Aside0.mk (below_drew1 HB.out)
            clear HO_9
            clear HO_10
            clear HI173
            clear HB
            have HO_9 := n0_
            have HO_10 := n1_
            have HI173 := n2_
            have HB := n3_
            clear n0_ n1_ n2_ n3_
            obtain ⟨Ao35, co35, eo35⟩ := Kd.R_slice HO_9.out
            (first | subst eo35 | (injection eo35 with f1_ f2_ f3_; have f4_ := f1_.symm; have f5_ := f3_.symm; clear f1_ f2_ f3_; subst f4_; subst f5_))
            have p207 : 0 ≤ (x39_2 : Int) := of_decide_eq_true (by first | (with_reducible assumption) | assumption)
            have q207 : x39_2 < (x9_5.length : Int) := of_decide_eq_true (by first | (with_reducible assumption) | assumption)
            obtain ⟨ad207, e207, hx207_0⟩ := Kd.at_int (Kd.R_reads' HO_9.out).2.2 x39_2 p207 q207
            cases e207
            replace p207 := eq_true p207
            replace q207 := eq_true q207
            refine start_ (n := 12) (S := fun w' => w'.cell? (ad207.add (x39_2).toNat) = some (.int .u8 (rd x9_5 x39_2))) (ds := [11]) #[false, false, false, false, false, false, false, false, false, false, false, false] (by kernel_rfl) rfl rfl (hx207_0) (fun hHeld => ?_); refine with_tabW spec_l4Rows.tab14 spec_l4Rows.bits14 (fun HT_ HW_ => ?_)
            generalize wr.drew = w34 at HO_9 HO_10 HI173 HB hx207_0 hHeld ⊢
            refine pure_ (i := 0) (N := some 42) (v := ?_) (a' := ?_) #[true, false, false, false, false, false, false, false, false, false, false, false] rfl rfl (any_of HT_.out (by kernel_rfl)) (fun _ _ _ h => h) (Or.inl ⟨by rfl, ?_⟩) ?_ ?_
            rotate_left
            · intro w'
              go_simp
              with_reducible rfl
            rotate_left
            · simp only [Act.put, List.setIfInBounds_toArray, List.set_cons_zero, List.set_cons_succ, i64_w, i32_w]
              rfl
            refine pure_ (i := 1) (N := some 43) (v := ?_) (a' := ?_) #[true, true, false, false, false, false, false, false, false, false, false, false] rfl rfl (any_of HT_.out (by kernel_rfl)) (fun _ _ _ h => h) (Or.inl ⟨by rfl, ?_⟩) ?_ ?_
            rotate_left
            · intro w'
              go_simp
              with_reducible rfl
            rotate_left
            · simp only [Act.put, List.setIfInBounds_toArray, List.set_cons_zero, List.set_cons_succ, i64_w, i32_w]
              rfl
            refine pure_ (i := 2) (N := some 44) (v := ?_) (a' := ?_) #[true, true, true, false, false, false, false, false, false, false, false, false] rfl rfl (any_of HT_.out (by kernel_rfl)) (fun _ _ _ h => h) (Or.inl ⟨by rfl, ?_⟩) ?_ ?_
            rotate_left
            · intro w'
              go_simp
              with_reducible rfl
            rotate_left
            · simp only [Act.put, List.setIfInBounds_toArray, List.set_cons_zero, List.set_cons_succ, i64_w, i32_w]
              rfl
            refine pure_ (i := 3) (N := some 45) (v := ?_) (a' := ?_) #[true, true, true, true, false, false, false, false, false, false, false, false] rfl rfl (any_of HT_.out (by kernel_rfl)) (fun _ _ _ h => h) (Or.inl ⟨by rfl, ?_⟩) ?_ ?_
            rotate_left
            · intro w'
              go_simp
              with_reducible rfl
            rotate_left
            · simp only [Act.put, List.setIfInBounds_toArray, List.set_cons_zero, List.set_cons_succ, i64_w, i32_w]
              rfl
            refine pure_ (i := 4) (N := some 46) (v := ?_) (a' := ?_) #[true, true, true, true, true, false, false, false, false, false, false, false] rfl rfl (any_of HT_.out (by kernel_rfl)) (fun _ _ _ h => h) (Or.inl ⟨by rfl, ?_⟩) ?_ ?_
            rotate_left
            · intro w'
              go_simp
              with_reducible rfl
            rotate_left
            · simp only [Act.put, List.setIfInBounds_toArray, List.set_cons_zero, List.set_cons_succ, i64_w, i32_w]
              rfl
            refine pure_ (i := 6) (N := some 48) (v := ?_) (a' := ?_) #[true, true, true, true, true, false, true, false, false, false, false, false] rfl rfl (any_of HT_.out (by kernel_rfl)) (fun _ _ _ h => h) (Or.inl ⟨by rfl, ?_⟩) ?_ ?_
            rotate_left
            · intro w'
              go_simp
              with_reducible rfl
            rotate_left
            · simp only [Act.put, List.setIfInBounds_toArray, List.set_cons_zero, List.set_cons_succ, i64_w, i32_w]
              rfl
            refine take_ (i := 5) (N := some 47) (v := ?_) (a' := ?_) #[true, true, true, true, true, true, true, false, false, false, false, false] rfl rfl (take_ofW HT_.out HW_.out (by kernel_rfl)) (fun _ _ _ h => h) (Or.inl ⟨by rfl, ?_⟩) hHeld ?_ ?_
            rotate_left
            · intro w' s0
              go_simp
              with_reducible rfl
            rotate_left
            · simp only [Act.put, List.setIfInBounds_toArray, List.set_cons_zero, List.set_cons_succ, i64_w, i32_w]
              rfl
            refine one_ (i := 7) (N := some 49) #[true, true, true, true, true, true, true, true, false, false, false, false] rfl rfl (one_of HT_.out (by kernel_rfl)) (by decide) (fun K hK => ?_)
            refine goes_ Try.func104 (by kernel_rfl) rfl #[.pointer (some ⟨gb173, 0, none⟩), .int .i64 5] (by rfl) rfl rfl (by (try simp only [List.map_toArray, List.map_cons, List.map_nil]); first | done | rfl | (simp only [List.length_drop, List.length_take]; rfl)) ?_
            with_reducible refine (spec_l1Cur_pick.calls gb173 l0 x174001_2 x174002_2 5 t208 t209 t210 w0 _ ?side1 ?side2 A31.out).mono ?_
            (case side1 => repeat (first | (with_reducible first | exact HI173.out | apply IsS156.alloc | apply IsS156.drewN | apply IsS156.drew | apply IsS156.set_1 | apply IsS156.set_2) | exact HI173.out))
            (case side2 => exact below_step HB0.out (by repeat (first | (with_reducible first | exact HB.out | apply below_alloc | apply pw_below_drewN | apply below_drew1 | refine below_set ?_ (IsS156.ge HI173.out)) | exact HB.out)))
            rintro e w36 ⟨rfl, hi, hb, hk⟩
            have HS0_ := keep_cell hk (hHeld) (by first | (rw [add_block]; exact Kd.own_blk (IsS156.own_ne HI173.out HO_9.out (by decide))) | (show (Addr.add _ _).block ≠ _; rw [add_block]; exact Kd.own_blk (IsS156.own_ne HI173.out HO_9.out (by decide))) | exact Kd.own_blk (IsS156.own_ne HI173.out HO_9.out (by decide)))
            refine ⟨_, rfl, ?_⟩
            have n0_ := Aside0.mk (Kd.R_mono (Kd.R_keep (IsS156.apart (show IsS156 w0 _ gb173 l0 x174001_2 x174002_2 from by repeat (first | (with_reducible first | exact HI173.out | apply IsS156.alloc | apply IsS156.drewN | apply IsS156.drew | apply IsS156.set_1 | apply IsS156.set_2) | exact HI173.out)) (by (with_reducible repeat (first | apply Kd.R_alloc | apply Kd.R_drewN | apply Kd.R_drew)); exact HO_9.out) (by decide)) hk (fun _ h => h.2)) (fun _ h => h.1))
            have n1_ := Aside0.mk (Kd.R_mono (Kd.R_keep (IsS156.apart (show IsS156 w0 _ gb173 l0 x174001_2 x174002_2 from by repeat (first | (with_reducible first | exact HI173.out | apply IsS156.alloc | apply IsS156.drewN | apply IsS156.drew | apply IsS156.set_1 | apply IsS156.set_2) | exact HI173.out)) (by (with_reducible repeat (first | apply Kd.R_alloc | apply Kd.R_drewN | apply Kd.R_drew)); exact HO_10.out) (by decide)) hk (fun _ h => h.2)) (fun _ h => h.1))
            have n2_ := Aside0.mk (spec_l4Rows.bk HB0.out (by repeat (first | (with_reducible first | exact HB.out | apply below_alloc | apply pw_below_drewN | apply below_drew1 | refine below_set ?_ (IsS156.ge HI173.out)) | exact HB.out)) hb hk GS173.out)
            have n3_ := Aside0.mk (hi)
            clear HO_9
            clear HO_10
            clear HB
            clear HI173
            have HO_9 := n0_
            have HO_10 := n1_
            have HB := n2_
            have HI173 := n3_
            clear n0_ n1_ n2_ n3_
            (try clear hb)
            (try clear hb2)
            (try clear hk)
            (try clear hi)
            have p33 : 0 ≤ (x39_2 : Int) := of_decide_eq_true (by first | (with_reducible assumption) | assumption)
            have q33 : (x39_2 : Int) < ((x10_2.length : Int) : Int) := of_decide_eq_true (by first | (with_reducible assumption) | assumption)
            obtain ⟨go33, co33, eo33, gb33, gl33, cl33, HG33⟩ := Kd.R_form HO_10.out (by omega)
            (first | cases eo33 | (injection eo33 with ea_ en_ ec_; (first | subst ea_ | (injection ea_ with ea_; subst ea_)); subst ec_; clear en_))
            have GB33 := Aside0.mk gb33
            have GG33 := Aside0.mk HG33
            clear gb33 gl33 HG33
            obtain ⟨hx33_0, hf33_0⟩ := Kd.R_celln 0 HO_10.out (x39_2 : Int) p33 q33
            replace p33 := eq_true p33
            replace q33 := eq_true q33
            have HN173_go33 := Aside0.mk (show gb173 ≠ go33 from by have h_ := IsS156.own_ne HI173.out HO_10.out (by decide); intro e_; exact h_ (by rw [e_]; rfl))
            have HP37 := Kd.R_putn HO_10.out (x39_2 : Int) (((rd x9_5 x39_2) + ((t208) % 256)) % 256)
            rw [← Ny211.out] at HP37
            have HQ37 := Aside0.mk HP37
            clear HP37
            refine hK.out _ _ (HS0_) (fun hHeld => ?_)
            clear hK K
            refine norm_ (a' := ?_) ?_ ?_
            rotate_left
            · show Act.put _ (some 49) _ = _
              simp only [Act.put, List.setIfInBounds_toArray, List.set_cons_zero, List.set_cons_succ, i64_w, i32_w]
              rfl
            refine pure_ (i := 8) (N := some 50) (v := ?_) (a' := ?_) #[true, true, true, true, true, true, true, true, true, false, false, false] rfl rfl (any_of HT_.out (by kernel_rfl)) (fun _ _ _ h => h) (Or.inl ⟨by rfl, ?_⟩) ?_ ?_
            rotate_left
            · intro w'
              go_simp
              with_reducible rfl
            rotate_left
            · simp only [Act.put, List.setIfInBounds_toArray, List.set_cons_zero, List.set_cons_succ, i64_w, i32_w]
              rfl
            refine pure_ (i := 9) (N := some 51) (v := ?_) (a' := ?_) #[true, true, true, true, true, true, true, true, true, true, false, false] rfl rfl (any_of HT_.out (by kernel_rfl)) (fun _ _ _ h => h) (Or.inl ⟨by rfl, ?_⟩) ?_ ?_
            rotate_left
            · intro w'
              go_simp
              with_reducible rfl
            rotate_left
            · simp only [Act.put, List.setIfInBounds_toArray, List.set_cons_zero, List.set_cons_succ, i64_w, i32_w]
              rfl
            refine pure_ (i := 10) (N := some 52) (v := ?_) (a' := ?_) #[true, true, true, true, true, true, true, true, true, true, true, false] rfl rfl (any_of HT_.out (by kernel_rfl)) (fun _ _ _ h => h) (Or.inl ⟨by rfl, ?_⟩) ?_ ?_
            rotate_left
            · intro w'
              go_simp
              with_reducible rfl
            rotate_left
            · simp only [Act.put, List.setIfInBounds_toArray, List.set_cons_zero, List.set_cons_succ, i64_w, i32_w]
              rfl
            refine last_ (i := 11) (N := none) #[true, true, true, true, true, true, true, true, true, true, true, true] rfl rfl (one_of HT_.out (by kernel_rfl)) (by decide) (fun K hK => ?_)
            refine skip_ (w1 := ?_) (by rfl) rfl ?_ ?_
            rotate_left
            · go_simp
              rfl
            refine hK.out _ _ ?_
            clear hK K
            refine done_ (done_of HT_.out (by kernel_rfl)) ?_
            try go_wp2
            (try simp only [← hl10_2])
            go_roundg k2
            case measure => have := HJ5.out; have := HK2.out; omega
            case rel => exact ⟨(y211), (wrap64 (x39_2 + 1)), (t209), (t210), (by first | rfl | (simp; done) | (simp [*]; done)), H', ⟨by have := HJ5.out; have := HK2.out; omega⟩, ⟨by (try simp only [hl10_2]); (with_reducible repeat (first | apply Kd.R_alloc | apply Kd.R_drewN | apply Kd.R_drew)); exact Kd.R_mono (Kd.R_far (p := ⟨go33, (x39_2 : Int).toNat, none⟩) (Kd.R_mono HO_9.out (fun k_ hk => (⟨hk, fun e_ => hk (by rw [e_]; rfl)⟩ : _ ∧ k_ ≠ go33))) (fun _ hk => hk.2) (.int .u8 (((rd x9_5 x39_2) + ((t208) % 256)) % 256))) (fun _ hk => hk.1)⟩, ⟨by (try simp only [hl10_2]); (with_reducible repeat (first | apply Kd.R_alloc | apply Kd.R_drewN | apply Kd.R_drew)); exact HQ37.out⟩, ⟨by repeat (first | (with_reducible first | exact HI173.out | apply IsS156.alloc | apply IsS156.drewN | apply IsS156.drew | apply IsS156.set_1 | apply IsS156.set_2 | refine IsS156.far ?_ HN173_go33.out _) | exact HI173.out)⟩, ⟨by repeat (first | (with_reducible first | exact HB.out | apply below_alloc | apply pw_below_drewN | apply below_drew1 | refine below_set ?_ GB33.out | refine below_set ?_ (IsS156.ge HI173.out)) | exact HB.out)⟩⟩
      case rest =>
        clear HC19
        try clear c1
        try clear c2
        try clear p2
        try clear q2
        try clear hx2
        try clear c3
        try clear p3
        try clear q3
        try clear hx3
        try clear hf3
        try clear p6
        try clear c10
        try clear c12
        try clear c18
        try clear p20
        try clear q20
        try clear hx20
        try clear c21
        try clear c24
        try clear c28
        try clear c28b0
        try clear c29
        try clear c29b0
        try clear c30
        try clear c30b0
        try clear c32
        try clear c32b0
        try clear p33
        try clear q33
        try clear hx33
        try clear hf33
        try clear hx207_0
        try clear hx33_0
        try clear p2
        try clear p207
        try clear p33
        try clear p6
        try clear q207
        try clear q33
        obtain ⟨kq, x9_18, x10_18, x174001_18, x174002_18, HA, HJ18, HO_9, HO_10, HI173, HB⟩ := hcut
        cases kq with
        | zero => exact absurd HA.out (by simp [spec_l4Rows.j2])
        | succ kj18 =>
          have H := HA.out
          clear HA
          simp only [spec_l4Rows.j2] at H
          replace H := Option.bind_eq_some_iff.mp H
          obtain ⟨⟨t212, t213, t214⟩, A400, H⟩ := H
          replace H : (if t212 = 0 then ((spec_l1Cur_pick.f l0 t213 t214 11).bind fun bt215 => (some (wrap64 (bt215.1 - 1), x10_18, x9_18, l0, bt215.2.1, bt215.2.2))) else (if t212 = 1 then (if x10_18.length < 140737488355328 then (some ((wrap64 (1 + t174)), (x10_18 ++ [1]), x9_18, l0, t213, t214)) else (none)) else (some ((wrap64 (1 + t174)), x10_18, x9_18, l0, t213, t214)))) = some (r1, r2, r3, r4, r5, r6) := H
          have A40 := Aside0.mk A400
          clear A400
          by_cases c41 : t212 = 0
          · rw [if_pos c41] at H
            have c41b0 : (t212 == 0) = true := beq_iff_eq.mpr c41
            have c41b1 : (t212 != 0) = false := bne_eq_false_iff_eq.mpr c41
            clear c41
            replace H := Option.bind_eq_some_iff.mp H
            obtain ⟨⟨t215, t216, t217⟩, A420, H⟩ := H
            replace H : (some (wrap64 (t215 - 1), x10_18, x9_18, l0, t216, t217)) = some (r1, r2, r3, r4, r5, r6) := H
            have A42 := Aside0.mk A420
            clear A420
            simp only [Option.some.injEq, Prod.mk.injEq] at H
            obtain ⟨rfl, rfl, rfl, rfl, rfl, rfl⟩ := H
            go_wp2_with (first | ((with_reducible refine gate_callee (f := 104) rfl ?_); refine goesL_ (some 55) rfl rfl Try.func104 (by kernel_rfl) rfl #[.pointer (some ⟨gb173, 0, none⟩), .int .i64 14] rfl (by (try simp only [List.map_toArray, List.map_cons, List.map_nil]); first | done | rfl | (simp only [List.length_drop, List.length_take]; rfl)) ?_; (with_reducible refine (spec_l1Cur_pick.calls gb173 l0 x174001_18 x174002_18 14 t212 t213 t214 w0 _ ?side1 ?side2 A40.out).mono ?_); (case side1 => repeat (first | (with_reducible first | exact HI173.out | apply IsS156.alloc | apply IsS156.drewN | apply IsS156.drew | apply IsS156.set_1 | apply IsS156.set_2) | exact HI173.out)); (case side2 => exact below_step HB0.out (by repeat (first | (with_reducible first | exact HB.out | apply below_alloc | apply pw_below_drewN | apply below_drew1 | refine below_set ?_ (IsS156.ge HI173.out)) | exact HB.out))); rintro e w43 ⟨rfl, hi, hb, hk⟩; refine ⟨_, rfl, ?_⟩; have n0_ := Aside0.mk (Kd.R_mono (Kd.R_keep (IsS156.apart (show IsS156 w0 _ gb173 l0 x174001_18 x174002_18 from by repeat (first | (with_reducible first | exact HI173.out | apply IsS156.alloc | apply IsS156.drewN | apply IsS156.drew | apply IsS156.set_1 | apply IsS156.set_2) | exact HI173.out)) (by (with_reducible repeat (first | apply Kd.R_alloc | apply Kd.R_drewN | apply Kd.R_drew)); exact HO_9.out) (by decide)) hk (fun _ h => h.2)) (fun _ h => h.1)); have n1_ := Aside0.mk (Kd.R_mono (Kd.R_keep (IsS156.apart (show IsS156 w0 _ gb173 l0 x174001_18 x174002_18 from by repeat (first | (with_reducible first | exact HI173.out | apply IsS156.alloc | apply IsS156.drewN | apply IsS156.drew | apply IsS156.set_1 | apply IsS156.set_2) | exact HI173.out)) (by (with_reducible repeat (first | apply Kd.R_alloc | apply Kd.R_drewN | apply Kd.R_drew)); exact HO_10.out) (by decide)) hk (fun _ h => h.2)) (fun _ h => h.1)); have n2_ := Aside0.mk (spec_l4Rows.bk HB0.out (by repeat (first | (with_reducible first | exact HB.out | apply below_alloc | apply pw_below_drewN | apply below_drew1 | refine below_set ?_ (IsS156.ge HI173.out)) | exact HB.out)) hb hk GS173.out); have n3_ := Aside0.mk (hi); clear HO_9; clear HO_10; clear HB; clear HI173; have HO_9 := n0_; have HO_10 := n1_; have HB := n2_; have HI173 := n3_; clear n0_ n1_ n2_ n3_; (try clear hb); (try clear hb2); (try clear hk); (try clear hi)) | ((with_reducible refine gate_callee (f := 104) rfl ?_); refine goesL_ (some 59) rfl rfl Try.func104 (by kernel_rfl) rfl #[.pointer (some ⟨gb173, 0, none⟩), .int .i64 11] rfl (by (try simp only [List.map_toArray, List.map_cons, List.map_nil]); first | done | rfl | (simp only [List.length_drop, List.length_take]; rfl)) ?_; (with_reducible refine (spec_l1Cur_pick.calls gb173 l0 t213 t214 11 t215 t216 t217 w0 _ ?side1 ?side2 A42.out).mono ?_); (case side1 => repeat (first | (with_reducible first | exact HI173.out | apply IsS156.alloc | apply IsS156.drewN | apply IsS156.drew | apply IsS156.set_1 | apply IsS156.set_2) | exact HI173.out)); (case side2 => exact below_step HB0.out (by repeat (first | (with_reducible first | exact HB.out | apply below_alloc | apply pw_below_drewN | apply below_drew1 | refine below_set ?_ (IsS156.ge HI173.out)) | exact HB.out))); rintro e w44 ⟨rfl, hi, hb, hk⟩; refine ⟨_, rfl, ?_⟩; have n0_ := Aside0.mk (Kd.R_mono (Kd.R_keep (IsS156.apart (show IsS156 w0 _ gb173 l0 t213 t214 from by repeat (first | (with_reducible first | exact HI173.out | apply IsS156.alloc | apply IsS156.drewN | apply IsS156.drew | apply IsS156.set_1 | apply IsS156.set_2) | exact HI173.out)) (by (with_reducible repeat (first | apply Kd.R_alloc | apply Kd.R_drewN | apply Kd.R_drew)); exact HO_9.out) (by decide)) hk (fun _ h => h.2)) (fun _ h => h.1)); have n1_ := Aside0.mk (Kd.R_mono (Kd.R_keep (IsS156.apart (show IsS156 w0 _ gb173 l0 t213 t214 from by repeat (first | (with_reducible first | exact HI173.out | apply IsS156.alloc | apply IsS156.drewN | apply IsS156.drew | apply IsS156.set_1 | apply IsS156.set_2) | exact HI173.out)) (by (with_reducible repeat (first | apply Kd.R_alloc | apply Kd.R_drewN | apply Kd.R_drew)); exact HO_10.out) (by decide)) hk (fun _ h => h.2)) (fun _ h => h.1)); have n2_ := Aside0.mk (spec_l4Rows.bk HB0.out (by repeat (first | (with_reducible first | exact HB.out | apply below_alloc | apply pw_below_drewN | apply below_drew1 | refine below_set ?_ (IsS156.ge HI173.out)) | exact HB.out)) hb hk GS173.out); have n3_ := Aside0.mk (hi); clear HO_9; clear HO_10; clear HB; clear HI173; have HO_9 := n0_; have HO_10 := n1_; have HB := n2_; have HI173 := n3_; clear n0_ n1_ n2_ n3_; (try clear hb); (try clear hb2); (try clear hk); (try clear hi)))
            refine bodyPost_ret (results_list (rs := [.tmp 2, .tmp 3, .tmp 4, .tmp 5]) rfl (by simp) (.tmp (.tmp (.tmp (.tmp .nil))))) rfl ?_
            exact ⟨_, _, _, by first | rfl | (simp [errW_none, errW_some] <;> rfl) | (simp [*, errW_none, errW_some] <;> rfl), by (with_reducible repeat (first | apply Kd.R_alloc | apply Kd.R_drewN | apply Kd.R_drew)); exact HO_10.out, by (with_reducible repeat (first | apply Kd.R_alloc | apply Kd.R_drewN | apply Kd.R_drew)); exact HO_9.out, by repeat (first | (with_reducible first | exact HI173.out | apply IsS156.alloc | apply IsS156.drewN | apply IsS156.drew | apply IsS156.set_1 | apply IsS156.set_2) | exact HI173.out), by repeat (first | (with_reducible first | exact HB.out | apply below_alloc | apply pw_below_drewN | apply below_drew1 | refine below_set ?_ (IsS156.ge HI173.out)) | exact HB.out)⟩
          rw [if_neg c41] at H
          have c41b0 : (t212 == 0) = false := beq_eq_false_iff_ne.mpr c41
          have c41b1 : (t212 != 0) = true := bne_iff_ne.mpr c41
          by_cases c45 : t212 = 1
          rotate_left
          · rw [if_neg c45] at H
            have c45b0 : (t212 == 1) = false := beq_eq_false_iff_ne.mpr c45
            have c45b1 : (t212 != 1) = true := bne_iff_ne.mpr c45
            simp only [Option.some.injEq, Prod.mk.injEq] at H
            obtain ⟨rfl, rfl, rfl, rfl, rfl, rfl⟩ := H
            go_wp2_with (first | ((with_reducible refine gate_callee (f := 104) rfl ?_); refine goesL_ (some 55) rfl rfl Try.func104 (by kernel_rfl) rfl #[.pointer (some ⟨gb173, 0, none⟩), .int .i64 14] rfl (by (try simp only [List.map_toArray, List.map_cons, List.map_nil]); first | done | rfl | (simp only [List.length_drop, List.length_take]; rfl)) ?_; (with_reducible refine (spec_l1Cur_pick.calls gb173 l0 x174001_18 x174002_18 14 t212 t213 t214 w0 _ ?side1 ?side2 A40.out).mono ?_); (case side1 => repeat (first | (with_reducible first | exact HI173.out | apply IsS156.alloc | apply IsS156.drewN | apply IsS156.drew | apply IsS156.set_1 | apply IsS156.set_2) | exact HI173.out)); (case side2 => exact below_step HB0.out (by repeat (first | (with_reducible first | exact HB.out | apply below_alloc | apply pw_below_drewN | apply below_drew1 | refine below_set ?_ (IsS156.ge HI173.out)) | exact HB.out))); rintro e w49 ⟨rfl, hi, hb, hk⟩; refine ⟨_, rfl, ?_⟩; have n0_ := Aside0.mk (Kd.R_mono (Kd.R_keep (IsS156.apart (show IsS156 w0 _ gb173 l0 x174001_18 x174002_18 from by repeat (first | (with_reducible first | exact HI173.out | apply IsS156.alloc | apply IsS156.drewN | apply IsS156.drew | apply IsS156.set_1 | apply IsS156.set_2) | exact HI173.out)) (by (with_reducible repeat (first | apply Kd.R_alloc | apply Kd.R_drewN | apply Kd.R_drew)); exact HO_9.out) (by decide)) hk (fun _ h => h.2)) (fun _ h => h.1)); have n1_ := Aside0.mk (Kd.R_mono (Kd.R_keep (IsS156.apart (show IsS156 w0 _ gb173 l0 x174001_18 x174002_18 from by repeat (first | (with_reducible first | exact HI173.out | apply IsS156.alloc | apply IsS156.drewN | apply IsS156.drew | apply IsS156.set_1 | apply IsS156.set_2) | exact HI173.out)) (by (with_reducible repeat (first | apply Kd.R_alloc | apply Kd.R_drewN | apply Kd.R_drew)); exact HO_10.out) (by decide)) hk (fun _ h => h.2)) (fun _ h => h.1)); have n2_ := Aside0.mk (spec_l4Rows.bk HB0.out (by repeat (first | (with_reducible first | exact HB.out | apply below_alloc | apply pw_below_drewN | apply below_drew1 | refine below_set ?_ (IsS156.ge HI173.out)) | exact HB.out)) hb hk GS173.out); have n3_ := Aside0.mk (hi); clear HO_9; clear HO_10; clear HB; clear HI173; have HO_9 := n0_; have HO_10 := n1_; have HB := n2_; have HI173 := n3_; clear n0_ n1_ n2_ n3_; (try clear hb); (try clear hb2); (try clear hk); (try clear hi)))
            refine bodyPost_ret (results_list (rs := [.tmp 2, .tmp 3, .tmp 4, .tmp 5]) rfl (by simp) (.tmp (.tmp (.tmp (.tmp .nil))))) rfl ?_
            exact ⟨_, _, _, by first | rfl | (simp [errW_none, errW_some] <;> rfl) | (simp [*, errW_none, errW_some] <;> rfl), by (with_reducible repeat (first | apply Kd.R_alloc | apply Kd.R_drewN | apply Kd.R_drew)); exact HO_10.out, by (with_reducible repeat (first | apply Kd.R_alloc | apply Kd.R_drewN | apply Kd.R_drew)); exact HO_9.out, by repeat (first | (with_reducible first | exact HI173.out | apply IsS156.alloc | apply IsS156.drewN | apply IsS156.drew | apply IsS156.set_1 | apply IsS156.set_2) | exact HI173.out), by repeat (first | (with_reducible first | exact HB.out | apply below_alloc | apply pw_below_drewN | apply below_drew1 | refine below_set ?_ (IsS156.ge HI173.out)) | exact HB.out)⟩
          rw [if_pos c45] at H
          have c45b0 : (t212 == 1) = true := beq_iff_eq.mpr c45
          have c45b1 : (t212 != 1) = false := bne_eq_false_iff_eq.mpr c45
          clear c45
          by_cases c46 : x10_18.length < 140737488355328
          rotate_left
          · rw [if_neg c46] at H
            exact absurd H (by simp)
          rw [if_pos c46] at H
          have LMc46 := Aside0.mk c46
          clear c46
          obtain ⟨y218, hy218⟩ : ∃ y_ : List Int, y_ = (x10_18 ++ [1]) := ⟨_, rfl⟩
          replace H : (some ((wrap64 (1 + t174)), y218, x9_18, l0, t213, t214)) = some (r1, r2, r3, r4, r5, r6) := by first | (rw [hy218]; with_reducible exact H) | (have H2_ := (Option.bind_some _ _).symm.trans H; rw [hy218]; with_reducible exact H2_) | (have H2_ := (Option.bind_some _ _).symm.trans H; with_reducible exact H2_) | with_reducible exact H | (rw [hy218]; exact H) | exact H
          have Ny218 := Aside0.mk hy218
          clear hy218
          simp only [Option.some.injEq, Prod.mk.injEq] at H
          obtain ⟨rfl, rfl, rfl, rfl, rfl, rfl⟩ := H
          go_wp2_with (first | ((with_reducible refine gate_callee (f := 104) rfl ?_); refine goesL_ (some 55) rfl rfl Try.func104 (by kernel_rfl) rfl #[.pointer (some ⟨gb173, 0, none⟩), .int .i64 14] rfl (by (try simp only [List.map_toArray, List.map_cons, List.map_nil]); first | done | rfl | (simp only [List.length_drop, List.length_take]; rfl)) ?_; (with_reducible refine (spec_l1Cur_pick.calls gb173 l0 x174001_18 x174002_18 14 t212 t213 t214 w0 _ ?side1 ?side2 A40.out).mono ?_); (case side1 => repeat (first | (with_reducible first | exact HI173.out | apply IsS156.alloc | apply IsS156.drewN | apply IsS156.drew | apply IsS156.set_1 | apply IsS156.set_2) | exact HI173.out)); (case side2 => exact below_step HB0.out (by repeat (first | (with_reducible first | exact HB.out | apply below_alloc | apply pw_below_drewN | apply below_drew1 | refine below_set ?_ (IsS156.ge HI173.out)) | exact HB.out))); rintro e w47 ⟨rfl, hi, hb, hk⟩; refine ⟨_, rfl, ?_⟩; have n0_ := Aside0.mk (Kd.R_mono (Kd.R_keep (IsS156.apart (show IsS156 w0 _ gb173 l0 x174001_18 x174002_18 from by repeat (first | (with_reducible first | exact HI173.out | apply IsS156.alloc | apply IsS156.drewN | apply IsS156.drew | apply IsS156.set_1 | apply IsS156.set_2) | exact HI173.out)) (by (with_reducible repeat (first | apply Kd.R_alloc | apply Kd.R_drewN | apply Kd.R_drew)); exact HO_9.out) (by decide)) hk (fun _ h => h.2)) (fun _ h => h.1)); have n1_ := Aside0.mk (Kd.R_mono (Kd.R_keep (IsS156.apart (show IsS156 w0 _ gb173 l0 x174001_18 x174002_18 from by repeat (first | (with_reducible first | exact HI173.out | apply IsS156.alloc | apply IsS156.drewN | apply IsS156.drew | apply IsS156.set_1 | apply IsS156.set_2) | exact HI173.out)) (by (with_reducible repeat (first | apply Kd.R_alloc | apply Kd.R_drewN | apply Kd.R_drew)); exact HO_10.out) (by decide)) hk (fun _ h => h.2)) (fun _ h => h.1)); have n2_ := Aside0.mk (spec_l4Rows.bk HB0.out (by repeat (first | (with_reducible first | exact HB.out | apply below_alloc | apply pw_below_drewN | apply below_drew1 | refine below_set ?_ (IsS156.ge HI173.out)) | exact HB.out)) hb hk GS173.out); have n3_ := Aside0.mk (hi); clear HO_9; clear HO_10; clear HB; clear HI173; have HO_9 := n0_; have HO_10 := n1_; have HB := n2_; have HI173 := n3_; clear n0_ n1_ n2_ n3_; (try clear hb); (try clear hb2); (try clear hk); (try clear hi)) | ((with_reducible refine gate_builtin (b := .append) (xs := #[.tmp 63, .tmp 64]) rfl ?_); at_builtin; refine Kd.R_append (Kd.int .u8) (w0 := w) w.heap.size rfl (.tmp 63) (.tmp 64) 51 5 (.int .u8 0) 1 rfl Try.underlying51 info5 rfl (by decide) (by omega) u10 x10_18 1 [.int .u8 1] (fun k_ => some k_ ≠ (u9 : Value).ownBlock) (fun _ => False) rfl rfl ?aP (fun _ hk => hk.elim) ?aF ?aO ?aB ?aS ?aL ?_; (case aP => exact rfl); (case aB => exact (by repeat (first | (with_reducible first | exact HB.out | apply below_alloc | apply pw_below_drewN | apply below_drew1 | refine below_set ?_ (IsS156.ge HI173.out)) | exact HB.out))); (case aF => exact (fun k_ hk => Kd.fresh' (Kd.R_lt (by (with_reducible repeat (first | apply Kd.R_alloc | apply Kd.R_drewN | apply Kd.R_drew)); exact HO_9.out)) k_ hk)); (case aO => exact (by (with_reducible repeat (first | apply Kd.R_alloc | apply Kd.R_drewN | apply Kd.R_drew)); exact HO_10.out)); (case aS => exact (below_size (by repeat (first | (with_reducible first | exact HB.out | apply below_alloc | apply pw_below_drewN | apply below_drew1 | refine below_set ?_ (IsS156.ge HI173.out)) | exact HB.out)))); (case aL => have := LMc46.out; omega); intro v219 w48 ho hb hg hat; rw [← Ny218.out] at ho; have n0_ := Aside0.mk (Kd.R_after (ok := (fun _ => True)) (by (with_reducible repeat (first | apply Kd.R_alloc | apply Kd.R_drewN | apply Kd.R_drew)); exact Kd.R_mono HO_9.out (fun _ hk => ⟨trivial, hk⟩)) hg hat); have n1_ := Aside0.mk (IsS156.grown (by repeat (first | (with_reducible first | exact HI173.out | apply IsS156.alloc | apply IsS156.drewN | apply IsS156.drew | apply IsS156.set_1 | apply IsS156.set_2) | exact HI173.out)) hg (IsS156.own_ne HI173.out HO_10.out (by decide))); have n2_ := Aside0.mk (hb); have n3_ := Aside0.mk (ho); clear HO_9; clear HI173; clear HB; clear HO_10; have HO_9 := n0_; have HI173 := n1_; have HB := n2_; have HO220 := n3_; clear n0_ n1_ n2_ n3_; clear ho hb hg hat))
          refine bodyPost_ret (results_list (rs := [.tmp 2, .tmp 3, .tmp 4, .tmp 5]) rfl (by simp) (.tmp (.tmp (.tmp (.tmp .nil))))) rfl ?_
          exact ⟨_, _, _, by first | rfl | (simp [errW_none, errW_some] <;> rfl) | (simp [*, errW_none, errW_some] <;> rfl), by (with_reducible repeat (first | apply Kd.R_alloc | apply Kd.R_drewN | apply Kd.R_drew)); exact HO220.out, by (with_reducible repeat (first | apply Kd.R_alloc | apply Kd.R_drewN | apply Kd.R_drew)); exact Kd.R_mono HO_9.out (fun _ hk => hk.2), by repeat (first | (with_reducible first | exact HI173.out | apply IsS156.alloc | apply IsS156.drewN | apply IsS156.drew | apply IsS156.set_1 | apply IsS156.set_2) | exact HI173.out), by repeat (first | (with_reducible first | exact HB.out | apply below_alloc | apply pw_below_drewN | apply below_drew1 | refine below_set ?_ (IsS156.ge HI173.out)) | exact HB.out)⟩

/-! ### spec_DrawFilterRow: function 43 -/
def spec_DrawFilterRow.f (k : Nat) (l0 : List Int) : Option (Int × Int × List Int × List Int) := (spec_l4Rows.f k l0).bind fun bt221 => ((spec_l1Cur_pick.f bt221.2.2.2.1 bt221.2.2.2.2.1 bt221.2.2.2.2.2 5).bind fun bt232 => ((spec_l1Cur_one.f bt221.2.2.2.1 bt232.2.1 bt232.2.2 12).bind fun bt235 => (if bt235.1 = true then ((spec_l1Cur_pick.f bt221.2.2.2.1 bt235.2.1 bt235.2.2 8).bind fun bt238 => (some (wrap64 (bt238.1 - 2), bt221.1, bt221.2.1, bt221.2.2.1))) else (some (bt232.1, bt221.1, bt221.2.1, bt221.2.2.1)))))
theorem spec_DrawFilterRow.mono : ∀ a0 k, LeO (spec_DrawFilterRow.f k a0) (spec_DrawFilterRow.f (k + 1) a0) := by
  intro a0 k
  unfold spec_DrawFilterRow.f
  repeat' first
      | (with_reducible exact spec_l4Rows.mono _ _)
      | (with_reducible exact LeO.refl _)
      | (with_reducible exact LeO.none _)
      | (with_reducible refine LeO.ite ?_ ?_)
      | (with_reducible refine LeO.bind ?_ (fun _ => ?_))
      | exact spec_l4Rows.mono _ _
      | exact LeO.none _
      | refine LeO.ite ?_ ?_
      | refine LeO.bind ?_ (fun _ => ?_)
set_option maxHeartbeats 8000000 in
set_option maxRecDepth 100000 in
theorem spec_DrawFilterRow.calls (k : Nat) (A0 : Option Addr) (c0 : Nat) (l0 : List Int) (r1 : Int) (r2 : Int) (r3 : List Int) (r4 : List Int) (w : World) (hr0 : Kd.C (Kd.int .u8) w A0 l0.length l0) (hc0 : l0.length ≤ c0) (h : spec_DrawFilterRow.f k l0 = some (r1, r2, r3, r4)) :
    Calls Try.prog 43 #[.slice A0 l0.length c0] w fun e w' => ∃ v2_ v3_ : Value, e = .returned (.tuple #[.int .i64 r1, .int .i64 r2, v2_, v3_]) ∧ Kd.R (Kd.int .u8) 5 w' w.heap.size (fun k_ => some k_ ≠ (v3_ : Value).ownBlock) v2_ r3 ∧ Kd.R (Kd.int .u8) 5 w' w.heap.size (fun k_ => some k_ ≠ (v2_ : Value).ownBlock) v3_ r4 ∧ Below w.heap.size w w' := by
  have HR0 := Aside0.mk hr0
  have HC0 := Aside0.mk hc0
  clear hr0 hc0
  have HB := Aside0.mk (Below.refl w.heap.size w)
  have H : ((spec_l4Rows.f k l0).bind fun bt221 => ((spec_l1Cur_pick.f bt221.2.2.2.1 bt221.2.2.2.2.1 bt221.2.2.2.2.2 5).bind fun bt232 => ((spec_l1Cur_one.f bt221.2.2.2.1 bt232.2.1 bt232.2.2 12).bind fun bt235 => (if bt235.1 = true then ((spec_l1Cur_pick.f bt221.2.2.2.1 bt235.2.1 bt235.2.2 8).bind fun bt238 => (some (wrap64 (bt238.1 - 2), bt221.1, bt221.2.1, bt221.2.2.1))) else (some (bt232.1, bt221.1, bt221.2.1, bt221.2.2.1)))))) = some (r1, r2, r3, r4) := h
  clear h
  replace H := Option.bind_eq_some_iff.mp H
  obtain ⟨⟨t221, t222, t225, t228, t229, t230⟩, A20, H⟩ := H
  replace H : ((spec_l1Cur_pick.f t228 t229 t230 5).bind fun bt232 => ((spec_l1Cur_one.f t228 bt232.2.1 bt232.2.2 12).bind fun bt235 => (if bt235.1 = true then ((spec_l1Cur_pick.f t228 bt235.2.1 bt235.2.2 8).bind fun bt238 => (some (wrap64 (bt238.1 - 2), t221, t222, t225))) else (some (bt232.1, t221, t222, t225))))) = some (r1, r2, r3, r4) := H
  have A2 := Aside0.mk A20
  clear A20
  replace H := Option.bind_eq_some_iff.mp H
  obtain ⟨⟨t232, t233, t234⟩, A30, H⟩ := H
  replace H : ((spec_l1Cur_one.f t228 t233 t234 12).bind fun bt235 => (if bt235.1 = true then ((spec_l1Cur_pick.f t228 bt235.2.1 bt235.2.2 8).bind fun bt238 => (some (wrap64 (bt238.1 - 2), t221, t222, t225))) else (some (t232, t221, t222, t225)))) = some (r1, r2, r3, r4) := H
  have A3 := Aside0.mk A30
  clear A30
  replace H := Option.bind_eq_some_iff.mp H
  obtain ⟨⟨t235, t236, t237⟩, A40, H⟩ := H
  replace H : (if t235 = true then ((spec_l1Cur_pick.f t228 t236 t237 8).bind fun bt238 => (some (wrap64 (bt238.1 - 2), t221, t222, t225))) else (some (t232, t221, t222, t225))) = some (r1, r2, r3, r4) := H
  have A4 := Aside0.mk A40
  clear A40
  by_cases c5 : t235 = true
  rotate_left
  · replace c5 := Bool.eq_false_iff.mpr c5
    subst c5
    have H1 : (some (t232, t221, t222, t225)) = some (r1, r2, r3, r4) := by rw [if_neg (show ¬ (false = true) by decide)] at H; exact H
    clear H
    have H := H1
    clear H1
    simp only [Option.some.injEq, Prod.mk.injEq] at H
    obtain ⟨rfl, rfl, rfl, rfl⟩ := H
    go_enter Try.func43, Try.ntmps43
    go_wp2_with (first | ((with_reducible refine gate_callee (f := 103) rfl ?_); refine goesL_ (some 13) rfl rfl Try.func103 (by kernel_rfl) rfl #[.slice A0 l0.length c0] rfl (by (try simp only [List.map_toArray, List.map_cons, List.map_nil]); first | done | rfl | (simp only [List.length_drop, List.length_take]; rfl)) ?_; (with_reducible refine (spec_l4Rows.calls k _ _ l0 t221 t222 t225 t228 t229 t230 w _ ?side1 ?side2 ?side3 A2.out).mono ?_); (case side1 => repeat (first | (with_reducible first | exact HB.out | apply below_alloc | apply pw_below_drewN | apply below_drew1) | exact HB.out)); (case side2 => exact HR0.out); (case side3 => exact HC0.out); rintro e w11 ⟨v223, v226, g231, rfl, ho0, ho1, hi, hb⟩; refine ⟨_, rfl, ?_⟩; have n0_ := Aside0.mk (Kd.R_lower ho0 (below_size (by repeat (first | (with_reducible first | exact HB.out | apply below_alloc | apply pw_below_drewN | apply below_drew1) | exact HB.out)))); have n1_ := Aside0.mk (Kd.R_lower ho1 (below_size (by repeat (first | (with_reducible first | exact HB.out | apply below_alloc | apply pw_below_drewN | apply below_drew1) | exact HB.out)))); have n2_ := Aside0.mk (below_step (by repeat (first | (with_reducible first | exact HB.out | apply below_alloc | apply pw_below_drewN | apply below_drew1) | exact HB.out)) hb); have n3_ := Aside0.mk (hi); clear HB; have HO224 := n0_; have HO227 := n1_; have HB := n2_; have HI231 := n3_; clear n0_ n1_ n2_ n3_; (try clear hb); (try clear hb2); (try clear hk); (try clear hi); (try clear ho0); (try clear ho1)) | ((with_reducible refine gate_callee (f := 104) rfl ?_); refine goesL_ (some 19) rfl rfl Try.func104 (by kernel_rfl) rfl #[.pointer (some ⟨g231, 0, none⟩), .int .i64 5] rfl (by (try simp only [List.map_toArray, List.map_cons, List.map_nil]); first | done | rfl | (simp only [List.length_drop, List.length_take]; rfl)) ?_; (with_reducible refine (spec_l1Cur_pick.calls g231 t228 t229 t230 5 t232 t233 t234 w _ ?side1 ?side2 A3.out).mono ?_); (case side1 => repeat (first | (with_reducible first | exact HI231.out | apply IsS156.alloc | apply IsS156.drewN | apply IsS156.drew | apply IsS156.set_1 | apply IsS156.set_2) | exact HI231.out)); (case side2 => repeat (first | (with_reducible first | exact HB.out | apply below_alloc | apply pw_below_drewN | apply below_drew1 | refine below_set ?_ (IsS156.ge HI231.out)) | exact HB.out)); rintro e w12 ⟨rfl, hi, hb, hk⟩; refine ⟨_, rfl, ?_⟩; have n0_ := Aside0.mk (Kd.R_mono (Kd.R_keep (IsS156.apart (show IsS156 w _ g231 t228 t229 t230 from by repeat (first | (with_reducible first | exact HI231.out | apply IsS156.alloc | apply IsS156.drewN | apply IsS156.drew | apply IsS156.set_1 | apply IsS156.set_2) | exact HI231.out)) (by (with_reducible repeat (first | apply Kd.R_alloc | apply Kd.R_drewN | apply Kd.R_drew)); exact HO224.out) (by decide)) hk (fun _ h => h.2)) (fun _ h => h.1)); have n1_ := Aside0.mk (Kd.R_mono (Kd.R_keep (IsS156.apart (show IsS156 w _ g231 t228 t229 t230 from by repeat (first | (with_reducible first | exact HI231.out | apply IsS156.alloc | apply IsS156.drewN | apply IsS156.drew | apply IsS156.set_1 | apply IsS156.set_2) | exact HI231.out)) (by (with_reducible repeat (first | apply Kd.R_alloc | apply Kd.R_drewN | apply Kd.R_drew)); exact HO227.out) (by decide)) hk (fun _ h => h.2)) (fun _ h => h.1)); have n2_ := Aside0.mk (hb); have n3_ := Aside0.mk (hi); clear HO224; clear HO227; clear HB; clear HI231; have HO224 := n0_; have HO227 := n1_; have HB := n2_; have HI231 := n3_; clear n0_ n1_ n2_ n3_; (try clear hb); (try clear hb2); (try clear hk); (try clear hi)) | ((with_reducible refine gate_callee (f := 105) rfl ?_); refine goesL_ (some 21) rfl rfl Try.func105 (by kernel_rfl) rfl #[.pointer (some ⟨g231, 0, none⟩), .int .i64 12] rfl (by (try simp only [List.map_toArray, List.map_cons, List.map_nil]); first | done | rfl | (simp only [List.length_drop, List.length_take]; rfl)) ?_; (with_reducible refine (spec_l1Cur_one.calls g231 t228 t233 t234 12 false t236 t237 w _ ?side1 ?side2 A4.out).mono ?_); (case side1 => repeat (first | (with_reducible first | exact HI231.out | apply IsS156.alloc | apply IsS156.drewN | apply IsS156.drew | apply IsS156.set_1 | apply IsS156.set_2) | exact HI231.out)); (case side2 => repeat (first | (with_reducible first | exact HB.out | apply below_alloc | apply pw_below_drewN | apply below_drew1 | refine below_set ?_ (IsS156.ge HI231.out)) | exact HB.out)); rintro e w13 ⟨rfl, hi, hb, hk⟩; refine ⟨_, rfl, ?_⟩; have n0_ := Aside0.mk (Kd.R_mono (Kd.R_keep (IsS156.apart (show IsS156 w _ g231 t228 t233 t234 from by repeat (first | (with_reducible first | exact HI231.out | apply IsS156.alloc | apply IsS156.drewN | apply IsS156.drew | apply IsS156.set_1 | apply IsS156.set_2) | exact HI231.out)) (by (with_reducible repeat (first | apply Kd.R_alloc | apply Kd.R_drewN | apply Kd.R_drew)); exact HO224.out) (by decide)) hk (fun _ h => h.2)) (fun _ h => h.1)); have n1_ := Aside0.mk (Kd.R_mono (Kd.R_keep (IsS156.apart (show IsS156 w _ g231 t228 t233 t234 from by repeat (first | (with_reducible first | exact HI231.out | apply IsS156.alloc | apply IsS156.drewN | apply IsS156.drew | apply IsS156.set_1 | apply IsS156.set_2) | exact HI231.out)) (by (with_reducible repeat (first | apply Kd.R_alloc | apply Kd.R_drewN | apply Kd.R_drew)); exact HO227.out) (by decide)) hk (fun _ h => h.2)) (fun _ h => h.1)); have n2_ := Aside0.mk (hb); have n3_ := Aside0.mk (hi); clear HO224; clear HO227; clear HB; clear HI231; have HO224 := n0_; have HO227 := n1_; have HB := n2_; have HI231 := n3_; clear n0_ n1_ n2_ n3_; (try clear hb); (try clear hb2); (try clear hk); (try clear hi)))
    refine bodyPost_ret (results_list (rs := [.tmp 2, .tmp 3, .tmp 4, .tmp 5]) rfl (by simp) (.tmp (.tmp (.tmp (.tmp .nil))))) rfl ?_
    exact ⟨_, _, by first | rfl | (simp [errW_none, errW_some] <;> rfl) | (simp [*, errW_none, errW_some] <;> rfl), by (with_reducible repeat (first | apply Kd.R_alloc | apply Kd.R_drewN | apply Kd.R_drew)); exact HO224.out, by (with_reducible repeat (first | apply Kd.R_alloc | apply Kd.R_drewN | apply Kd.R_drew)); exact HO227.out, by repeat (first | (with_reducible first | exact HB.out | apply below_alloc | apply pw_below_drewN | apply below_drew1 | refine below_set ?_ (IsS156.ge HI231.out)) | exact HB.out)⟩
  subst c5
  have H1 : ((spec_l1Cur_pick.f t228 t236 t237 8).bind fun bt238 => (some (wrap64 (bt238.1 - 2), t221, t222, t225))) = some (r1, r2, r3, r4) := by rw [if_pos rfl] at H; exact H
  clear H
  have H := H1
  clear H1
  replace H := Option.bind_eq_some_iff.mp H
  obtain ⟨⟨t238, t239, t240⟩, A60, H⟩ := H
  replace H : (some (wrap64 (t238 - 2), t221, t222, t225)) = some (r1, r2, r3, r4) := H
  have A6 := Aside0.mk A60
  clear A60
  simp only [Option.some.injEq, Prod.mk.injEq] at H
  obtain ⟨rfl, rfl, rfl, rfl⟩ := H
  go_enter Try.func43, Try.ntmps43
  go_wp2_with (first | ((with_reducible refine gate_callee (f := 103) rfl ?_); refine goesL_ (some 13) rfl rfl Try.func103 (by kernel_rfl) rfl #[.slice A0 l0.length c0] rfl (by (try simp only [List.map_toArray, List.map_cons, List.map_nil]); first | done | rfl | (simp only [List.length_drop, List.length_take]; rfl)) ?_; (with_reducible refine (spec_l4Rows.calls k _ _ l0 t221 t222 t225 t228 t229 t230 w _ ?side1 ?side2 ?side3 A2.out).mono ?_); (case side1 => repeat (first | (with_reducible first | exact HB.out | apply below_alloc | apply pw_below_drewN | apply below_drew1) | exact HB.out)); (case side2 => exact HR0.out); (case side3 => exact HC0.out); rintro e w7 ⟨v223, v226, g231, rfl, ho0, ho1, hi, hb⟩; refine ⟨_, rfl, ?_⟩; have n0_ := Aside0.mk (Kd.R_lower ho0 (below_size (by repeat (first | (with_reducible first | exact HB.out | apply below_alloc | apply pw_below_drewN | apply below_drew1) | exact HB.out)))); have n1_ := Aside0.mk (Kd.R_lower ho1 (below_size (by repeat (first | (with_reducible first | exact HB.out | apply below_alloc | apply pw_below_drewN | apply below_drew1) | exact HB.out)))); have n2_ := Aside0.mk (below_step (by repeat (first | (with_reducible first | exact HB.out | apply below_alloc | apply pw_below_drewN | apply below_drew1) | exact HB.out)) hb); have n3_ := Aside0.mk (hi); clear HB; have HO224 := n0_; have HO227 := n1_; have HB := n2_; have HI231 := n3_; clear n0_ n1_ n2_ n3_; (try clear hb); (try clear hb2); (try clear hk); (try clear hi); (try clear ho0); (try clear ho1)) | ((with_reducible refine gate_callee (f := 104) rfl ?_); refine goesL_ (some 19) rfl rfl Try.func104 (by kernel_rfl) rfl #[.pointer (some ⟨g231, 0, none⟩), .int .i64 5] rfl (by (try simp only [List.map_toArray, List.map_cons, List.map_nil]); first | done | rfl | (simp only [List.length_drop, List.length_take]; rfl)) ?_; (with_reducible refine (spec_l1Cur_pick.calls g231 t228 t229 t230 5 t232 t233 t234 w _ ?side1 ?side2 A3.out).mono ?_); (case side1 => repeat (first | (with_reducible first | exact HI231.out | apply IsS156.alloc | apply IsS156.drewN | apply IsS156.drew | apply IsS156.set_1 | apply IsS156.set_2) | exact HI231.out)); (case side2 => repeat (first | (with_reducible first | exact HB.out | apply below_alloc | apply pw_below_drewN | apply below_drew1 | refine below_set ?_ (IsS156.ge HI231.out)) | exact HB.out)); rintro e w8 ⟨rfl, hi, hb, hk⟩; refine ⟨_, rfl, ?_⟩; have n0_ := Aside0.mk (Kd.R_mono (Kd.R_keep (IsS156.apart (show IsS156 w _ g231 t228 t229 t230 from by repeat (first | (with_reducible first | exact HI231.out | apply IsS156.alloc | apply IsS156.drewN | apply IsS156.drew | apply IsS156.set_1 | apply IsS156.set_2) | exact HI231.out)) (by (with_reducible repeat (first | apply Kd.R_alloc | apply Kd.R_drewN | apply Kd.R_drew)); exact HO224.out) (by decide)) hk (fun _ h => h.2)) (fun _ h => h.1)); have n1_ := Aside0.mk (Kd.R_mono (Kd.R_keep (IsS156.apart (show IsS156 w _ g231 t228 t229 t230 from by repeat (first | (with_reducible first | exact HI231.out | apply IsS156.alloc | apply IsS156.drewN | apply IsS156.drew | apply IsS156.set_1 | apply IsS156.set_2) | exact HI231.out)) (by (with_reducible repeat (first | apply Kd.R_alloc | apply Kd.R_drewN | apply Kd.R_drew)); exact HO227.out) (by decide)) hk (fun _ h => h.2)) (fun _ h => h.1)); have n2_ := Aside0.mk (hb); have n3_ := Aside0.mk (hi); clear HO224; clear HO227; clear HB; clear HI231; have HO224 := n0_; have HO227 := n1_; have HB := n2_; have HI231 := n3_; clear n0_ n1_ n2_ n3_; (try clear hb); (try clear hb2); (try clear hk); (try clear hi)) | ((with_reducible refine gate_callee (f := 105) rfl ?_); refine goesL_ (some 21) rfl rfl Try.func105 (by kernel_rfl) rfl #[.pointer (some ⟨g231, 0, none⟩), .int .i64 12] rfl (by (try simp only [List.map_toArray, List.map_cons, List.map_nil]); first | done | rfl | (simp only [List.length_drop, List.length_take]; rfl)) ?_; (with_reducible refine (spec_l1Cur_one.calls g231 t228 t233 t234 12 true t236 t237 w _ ?side1 ?side2 A4.out).mono ?_); (case side1 => repeat (first | (with_reducible first | exact HI231.out | apply IsS156.alloc | apply IsS156.drewN | apply IsS156.drew | apply IsS156.set_1 | apply IsS156.set_2) | exact HI231.out)); (case side2 => repeat (first | (with_reducible first | exact HB.out | apply below_alloc | apply pw_below_drewN | apply below_drew1 | refine below_set ?_ (IsS156.ge HI231.out)) | exact HB.out)); rintro e w9 ⟨rfl, hi, hb, hk⟩; refine ⟨_, rfl, ?_⟩; have n0_ := Aside0.mk (Kd.R_mono (Kd.R_keep (IsS156.apart (show IsS156 w _ g231 t228 t233 t234 from by repeat (first | (with_reducible first | exact HI231.out | apply IsS156.alloc | apply IsS156.drewN | apply IsS156.drew | apply IsS156.set_1 | apply IsS156.set_2) | exact HI231.out)) (by (with_reducible repeat (first | apply Kd.R_alloc | apply Kd.R_drewN | apply Kd.R_drew)); exact HO224.out) (by decide)) hk (fun _ h => h.2)) (fun _ h => h.1)); have n1_ := Aside0.mk (Kd.R_mono (Kd.R_keep (IsS156.apart (show IsS156 w _ g231 t228 t233 t234 from by repeat (first | (with_reducible first | exact HI231.out | apply IsS156.alloc | apply IsS156.drewN | apply IsS156.drew | apply IsS156.set_1 | apply IsS156.set_2) | exact HI231.out)) (by (with_reducible repeat (first | apply Kd.R_alloc | apply Kd.R_drewN | apply Kd.R_drew)); exact HO227.out) (by decide)) hk (fun _ h => h.2)) (fun _ h => h.1)); have n2_ := Aside0.mk (hb); have n3_ := Aside0.mk (hi); clear HO224; clear HO227; clear HB; clear HI231; have HO224 := n0_; have HO227 := n1_; have HB := n2_; have HI231 := n3_; clear n0_ n1_ n2_ n3_; (try clear hb); (try clear hb2); (try clear hk); (try clear hi)) | ((with_reducible refine gate_callee (f := 104) rfl ?_); refine goesL_ (some 23) rfl rfl Try.func104 (by kernel_rfl) rfl #[.pointer (some ⟨g231, 0, none⟩), .int .i64 8] rfl (by (try simp only [List.map_toArray, List.map_cons, List.map_nil]); first | done | rfl | (simp only [List.length_drop, List.length_take]; rfl)) ?_; (with_reducible refine (spec_l1Cur_pick.calls g231 t228 t236 t237 8 t238 t239 t240 w _ ?side1 ?side2 A6.out).mono ?_); (case side1 => repeat (first | (with_reducible first | exact HI231.out | apply IsS156.alloc | apply IsS156.drewN | apply IsS156.drew | apply IsS156.set_1 | apply IsS156.set_2) | exact HI231.out)); (case side2 => repeat (first | (with_reducible first | exact HB.out | apply below_alloc | apply pw_below_drewN | apply below_drew1 | refine below_set ?_ (IsS156.ge HI231.out)) | exact HB.out)); rintro e w10 ⟨rfl, hi, hb, hk⟩; refine ⟨_, rfl, ?_⟩; have n0_ := Aside0.mk (Kd.R_mono (Kd.R_keep (IsS156.apart (show IsS156 w _ g231 t228 t236 t237 from by repeat (first | (with_reducible first | exact HI231.out | apply IsS156.alloc | apply IsS156.drewN | apply IsS156.drew | apply IsS156.set_1 | apply IsS156.set_2) | exact HI231.out)) (by (with_reducible repeat (first | apply Kd.R_alloc | apply Kd.R_drewN | apply Kd.R_drew)); exact HO224.out) (by decide)) hk (fun _ h => h.2)) (fun _ h => h.1)); have n1_ := Aside0.mk (Kd.R_mono (Kd.R_keep (IsS156.apart (show IsS156 w _ g231 t228 t236 t237 from by repeat (first | (with_reducible first | exact HI231.out | apply IsS156.alloc | apply IsS156.drewN | apply IsS156.drew | apply IsS156.set_1 | apply IsS156.set_2) | exact HI231.out)) (by (with_reducible repeat (first | apply Kd.R_alloc | apply Kd.R_drewN | apply Kd.R_drew)); exact HO227.out) (by decide)) hk (fun _ h => h.2)) (fun _ h => h.1)); have n2_ := Aside0.mk (hb); have n3_ := Aside0.mk (hi); clear HO224; clear HO227; clear HB; clear HI231; have HO224 := n0_; have HO227 := n1_; have HB := n2_; have HI231 := n3_; clear n0_ n1_ n2_ n3_; (try clear hb); (try clear hb2); (try clear hk); (try clear hi)))
  refine bodyPost_ret (results_list (rs := [.tmp 2, .tmp 3, .tmp 4, .tmp 5]) rfl (by simp) (.tmp (.tmp (.tmp (.tmp .nil))))) rfl ?_
  exact ⟨_, _, by first | rfl | (simp [errW_none, errW_some] <;> rfl) | (simp [*, errW_none, errW_some] <;> rfl), by (with_reducible repeat (first | apply Kd.R_alloc | apply Kd.R_drewN | apply Kd.R_drew)); exact HO224.out, by (with_reducible repeat (first | apply Kd.R_alloc | apply Kd.R_drewN | apply Kd.R_drew)); exact HO227.out, by repeat (first | (with_reducible first | exact HB.out | apply below_alloc | apply pw_below_drewN | apply below_drew1 | refine below_set ?_ (IsS156.ge HI231.out)) | exact HB.out)⟩

/-! ### impl_goodRow: function 106 -/
def impl_goodRow.f (a0 : Int) (a1 : Int) (l2 : List Int) (l3 : List Int) : Option (Bool) := if a0 ≥ 0 then (if a0 ≤ 4 then (if a1 ≥ 1 then (if a1 ≤ 8 then (if (l3.length : Int) ≤ 4096 then (if (l2.length : Int) = 0 then (some true) else (some ((l2.length : Int) == (l3.length : Int)))) else (some false)) else (some false)) else (some false)) else (some false)) else (some false)
set_option maxHeartbeats 8000000 in
set_option maxRecDepth 100000 in
theorem impl_goodRow.calls (a0 : Int) (a1 : Int) (A2 : Option Addr) (c2 : Nat) (l2 : List Int) (A3 : Option Addr) (c3 : Nat) (l3 : List Int) (r : Bool) (w : World) (hr2 : Kd.C (Kd.int .u8) w A2 l2.length l2) (hc2 : l2.length ≤ c2) (hr3 : Kd.C (Kd.int .u8) w A3 l3.length l3) (hc3 : l3.length ≤ c3) (h : impl_goodRow.f a0 a1 l2 l3 = some r) :
    Calls Try.prog 106 #[.int .i64 a0, .int .i64 a1, .slice A2 l2.length c2, .slice A3 l3.length c3] w fun e w' => e = .returned (.bool r) ∧ Drawn0 w w' := by
  have HR2 := Aside0.mk hr2
  have HC2 := Aside0.mk hc2
  clear hr2 hc2
  have HR3 := Aside0.mk hr3
  have HC3 := Aside0.mk hc3
  clear hr3 hc3
  have H : (if a0 ≥ 0 then (if a0 ≤ 4 then (if a1 ≥ 1 then (if a1 ≤ 8 then (if (l3.length : Int) ≤ 4096 then (if (l2.length : Int) = 0 then (some true) else (some ((l2.length : Int) == (l3.length : Int)))) else (some false)) else (some false)) else (some false)) else (some false)) else (some false)) = some r := h
  clear h
  by_cases c5 : a0 ≥ 0
  rotate_left
  · rw [if_neg c5] at H
    have c5b0 : decide (0 ≤ a0) = false := decide_eq_false c5
    clear c5
    obtain rfl := Option.some.inj H
    go_enter Try.func106, Try.ntmps106
    go_wp2
    go_ret
    exact ⟨by first | rfl | (simp; done) | (simp [*]; done), by repeat (first | exact Drawn0.refl _ | apply Drawn0.step)⟩
  rw [if_pos c5] at H
  have c5b0 : decide (0 ≤ a0) = true := decide_eq_true c5
  clear c5
  by_cases c6 : a0 ≤ 4
  rotate_left
  · rw [if_neg c6] at H
    have c6b0 : decide (a0 ≤ 4) = false := decide_eq_false c6
    clear c6
    obtain rfl := Option.some.inj H
    go_enter Try.func106, Try.ntmps106
    go_wp2
    go_ret
    exact ⟨by first | rfl | (simp; done) | (simp [*]; done), by repeat (first | exact Drawn0.refl _ | apply Drawn0.step)⟩
  rw [if_pos c6] at H
  have c6b0 : decide (a0 ≤ 4) = true := decide_eq_true c6
  clear c6
  by_cases c7 : a1 ≥ 1
  rotate_left
  · rw [if_neg c7] at H
    have c7b0 : decide (1 ≤ a1) = false := decide_eq_false c7
    clear c7
    obtain rfl := Option.some.inj H
    go_enter Try.func106, Try.ntmps106
    go_wp2
    go_ret
    exact ⟨by first | rfl | (simp; done) | (simp [*]; done), by repeat (first | exact Drawn0.refl _ | apply Drawn0.step)⟩
  rw [if_pos c7] at H
  have c7b0 : decide (1 ≤ a1) = true := decide_eq_true c7
  clear c7
  by_cases c8 : a1 ≤ 8
  rotate_left
  · rw [if_neg c8] at H
    have c8b0 : decide (a1 ≤ 8) = false := decide_eq_false c8
    clear c8
    obtain rfl := Option.some.inj H
    go_enter Try.func106, Try.ntmps106
    go_wp2
    go_ret
    exact ⟨by first | rfl | (simp; done) | (simp [*]; done), by repeat (first | exact Drawn0.refl _ | apply Drawn0.step)⟩
  rw [if_pos c8] at H
  have c8b0 : decide (a1 ≤ 8) = true := decide_eq_true c8
  clear c8
  by_cases c9 : (l3.length : Int) ≤ 4096
  rotate_left
  · rw [if_neg c9] at H
    have c9b0 : decide ((l3.length : Int) ≤ 4096) = false := decide_eq_false c9
    have c9b1 : decide (l3.length ≤ 4096) = false := decide_eq_false (by omega)
    have c9b2 : ¬ (l3.length ≤ 4096) := by omega
    clear c9
    obtain rfl := Option.some.inj H
    go_enter Try.func106, Try.ntmps106
    go_wp2
    go_ret
    exact ⟨by first | rfl | (simp; done) | (simp [*]; done), by repeat (first | exact Drawn0.refl _ | apply Drawn0.step)⟩
  rw [if_pos c9] at H
  have c9b0 : decide ((l3.length : Int) ≤ 4096) = true := decide_eq_true c9
  have c9b1 : decide (l3.length ≤ 4096) = true := decide_eq_true (by omega)
  have c9b2 : l3.length ≤ 4096 := by omega
  clear c9
  by_cases c10 : (l2.length : Int) = 0
  · rw [if_pos c10] at H
    have c10b0 : ((l2.length : Int) == 0) = true := beq_iff_eq.mpr c10
    have c10b1 : ((l2.length : Int) != 0) = false := bne_eq_false_iff_eq.mpr c10
    clear c10
    obtain rfl := Option.some.inj H
    go_enter Try.func106, Try.ntmps106
    go_wp2
    go_ret
    exact ⟨by first | rfl | (simp; done) | (simp [*]; done), by repeat (first | exact Drawn0.refl _ | apply Drawn0.step)⟩
  rw [if_neg c10] at H
  have c10b0 : ((l2.length : Int) == 0) = false := beq_eq_false_iff_ne.mpr c10
  have c10b1 : ((l2.length : Int) != 0) = true := bne_iff_ne.mpr c10
  have c10b2 : ¬ (l2 = []) := fun h_ => c10 (by rw [h_]; rfl)
  obtain rfl := Option.some.inj H
  go_enter Try.func106, Try.ntmps106
  go_wp2
  go_ret
  exact ⟨by first | rfl | (simp; done) | (simp [*]; done), by repeat (first | exact Drawn0.refl _ | apply Drawn0.step)⟩

/-! ### impl_away: function 185 -/
def impl_away.f (a0 : Int) (a1 : Int) : Option (Int) := some (mx (wrap64 (a0 - a1)) (wrap64 (a1 - a0)))
set_option maxHeartbeats 8000000 in
set_option maxRecDepth 100000 in
theorem impl_away.calls (a0 : Int) (a1 : Int) (r : Int) (w : World) (h : impl_away.f a0 a1 = some r) :
    Calls Try.prog 185 #[.int .i64 a0, .int .i64 a1] w fun e w' => e = .returned (.int .i64 r) ∧ Below w.heap.size w w' := by
  have HB := Aside0.mk (Below.refl w.heap.size w)
  have H : (some (mx (wrap64 (a0 - a1)) (wrap64 (a1 - a0)))) = some r := h
  clear h
  obtain ⟨ji3, hji3⟩ : ∃ j_ : Int, (mx (wrap64 (a0 - a1)) (wrap64 (a1 - a0))) = j_ := ⟨_, rfl⟩
  replace H : (some ji3) = some r := by first | (rw [hji3] at H; exact H) | (simp only [hji3] at H ⊢; exact H)
  have hji3_ : (if (wrap64 (a0 - a1)) < (wrap64 (a1 - a0)) then (wrap64 (a1 - a0)) else (wrap64 (a0 - a1))) = ji3 := hji3
  obtain rfl := Option.some.inj H
  go_enter Try.func185, Try.ntmps185
  go_wp2
  go_ret
  exact ⟨by first | rfl | (simp [errW_none, errW_some] <;> rfl) | (simp only [← hji3]; first | rfl | (simp [errW_none, errW_some] <;> rfl)) | (simp [*, errW_none, errW_some] <;> rfl), by repeat (first | (with_reducible first | exact HB.out | apply below_alloc | apply pw_below_drewN | apply below_drew1) | exact HB.out)⟩

end Go.Proofs.Ytidblealnaicpaa.PFnFilters

-- written by myprint.py (a program of this session's over the kit's print)
import Derived.Test.YtidblealnaicpaaPFnExactMergex0
import Derived.Test.YtidblealnaicpaaPFnExactMergex5
import Derived.Test.YtidblealnaicpaaPFnExactMergex6
namespace Go.Proofs.Ytidblealnaicpaa.PFnExactMerge
open Go.RowKit Go.Proofs.YtidblealnaicpaaW.PrintWords Go.Proofs.YtidblealnaicpaaW.PrintLast Go.Proofs.YtidblealnaicpaaW.PrintMore
attribute [local go_sem] max2_int min2_int max_two min_two max_three min_three max_four min_four   -- for this text's walks alone
set_option linter.unusedVariables false
set_option linter.unusedSimpArgs false

/-! ### impl_Merge: function 24 -/
theorem impl_Merge.put_all_step {P : Program} {ops : Array Oper} {o : Oper} {a : Act} {Kc : Act → World → Prop} {Q : Exit → Act → World → Prop} {W : World} (hgd : o.guard = none) (t : TypeId) (p x : Operand) (ho : o.op = .store t p x) (hN : o.dst = none) (g : Nat) (cs : Array Value) (ty : TypeId) (u : Value) (us : List Value)
    (hp : a.eval p = .pointer (some ⟨g, 0, none⟩)) (hx : a.eval x = u) (hu : u.cells.toList = us) (h1 : ∀ q ∈ us, q.oneCell' = true) (ht : (P.info? t).map (·.size) = some us.length) (hh : W.heap[g]? = some (.cells cs ty (0, 0))) (hi : us.length = cs.size)
    (h : ∀ w1, w1.heap[g]? = some (.cells us.toArray ty (0, 0)) → Kept W w1 (fun k => k = g) → (∀ B w0, Below B w0 W → B ≤ g → Below B w0 w1) → Kc a w1) : if Region.wanted o (yielded ops a.tmps) = true then Oper.wp P o a W Kc Q else Kc (a.put o.dst undef) W := by
  have hrun := run_store_run (P := P) (o := 0) t u us hh hu ht (by omega) h1
  obtain ⟨cur', h3, h4, h5⟩ := setCells_row us 0 W cs hh (by omega)
  obtain ⟨s1, s2, s3, s4⟩ := setCells_same g us 0 W
  have hd : cs.toList.drop us.length = [] := List.drop_eq_nil_of_le (by rw [hi, Array.length_toList]; exact Nat.le_refl _)
  have hc : cur' = us.toArray := by
    apply Array.ext'
    rw [h5, Nat.zero_add, hd, List.take_zero, List.nil_append, List.append_nil]
  subst hc
  rw [if_pos (by simp [Region.wanted, hgd])]
  unfold Oper.wp execOp
  simp only [ho, hp, hx, Sem.run_bind, Sem.run_pure, Result.andThen_ok, hrun]
  show Kc (a.put o.dst undef) _
  rw [hN]
  have hk : Kept W (W.setCells g 0 us) (fun k => k = g) := ⟨by rw [s4]; exact Nat.le_refl _, fun k _ hne => setCells_far us 0 k hne⟩
  exact h (W.setCells g 0 us) h3 hk (fun B w0 hB hg => hB.trans ⟨s1, s2, s3, by rw [s4]; exact Nat.le_refl _, fun k hk => setCells_far us 0 k (by omega)⟩)
theorem impl_Merge.kept_cell {W w1 : World} {b g o : Nat} {v : Value} (h : W.cell? ⟨b, o, none⟩ = some v) (hk : Kept W w1 (fun k => k = g)) (hne : b ≠ g) : w1.cell? ⟨b, o, none⟩ = some v := by
  have hlt := World.block_lt_of_cell? W _ h
  have := hk.2 b hlt hne
  rw [← h]
  simp only [World.cell?]
  rw [this]
def impl_Merge.cp (W P : Int) (e : S113) (xs : List Int) (j i : Int) (out : List Int) : Option (List Int) := if 1 ≤ P then (if P ≤ 8 then (if 0 ≤ wrap64 ((wrap64 ((wrap64 ((wrap64 ((wrap64 (e.f1 + (wrap64 (j * e.f3)))) * W)) + e.f0)) + (wrap64 (i * e.f2)))) * P) then (if wrap64 ((wrap64 ((wrap64 ((wrap64 ((wrap64 (e.f1 + (wrap64 (j * e.f3)))) * W)) + e.f0)) + (wrap64 (i * e.f2)))) * P) + P ≤ (out.length : Int) then (if 0 ≤ wrap64 ((wrap64 ((wrap64 (j * e.f4)) + i)) * P) then (if wrap64 ((wrap64 ((wrap64 (j * e.f4)) + i)) * P) + P ≤ (xs.length : Int) then (if out.length ≤ 4194304 then (some (out.take (wrap64 ((wrap64 ((wrap64 ((wrap64 ((wrap64 (e.f1 + (wrap64 (j * e.f3)))) * W)) + e.f0)) + (wrap64 (i * e.f2)))) * P)).toNat ++ ((xs.drop (wrap64 ((wrap64 ((wrap64 (j * e.f4)) + i)) * P)).toNat).take P.toNat ++ out.drop ((wrap64 ((wrap64 ((wrap64 ((wrap64 ((wrap64 (e.f1 + (wrap64 (j * e.f3)))) * W)) + e.f0)) + (wrap64 (i * e.f2)))) * P)).toNat + P.toNat)))) else none) else none) else none) else none) else none) else none) else none
mutual
def impl_Merge.l0 : Nat → Int → Int → Int → Int → List S35 → List S113 → Int → List Int → Option (Int × Int × Int × Int × List Int)
  | 0, _, _, _, _, _, _, _, _ => none
  | k + 1, W, H, P, D, ps, l, n, out => if n < (l.length : Int) then (if 0 ≤ n then (if n < (ps.length : Int) then ((impl_GoodImage.f k (rd_T35 ps n).f0 (rd_T35 ps n).f1 (rd_T35 ps n).f2 (rd_T35 ps n).f3 (rd_T35 ps n).f4).bind fun t => (if t = true then (if (rd_T35 ps n).f0 = (rd_T113 l n).f4 then (if (rd_T35 ps n).f1 = (rd_T113 l n).f5 then (if (rd_T35 ps n).f2 = P then (if (rd_T35 ps n).f3 = D then (impl_Merge.l1 k W H P D ps l n (rd_T113 l n) (rd_T35 ps n).f4 out 0) else (some (0, 0, 0, 0, ([] : List Int)))) else (some (0, 0, 0, 0, ([] : List Int)))) else (some (0, 0, 0, 0, ([] : List Int)))) else (some (0, 0, 0, 0, ([] : List Int)))) else (some (0, 0, 0, 0, ([] : List Int))))) else none) else none) else (some (W, H, P, D, out))
def impl_Merge.l1 : Nat → Int → Int → Int → Int → List S35 → List S113 → Int → S113 → List Int → List Int → Int → Option (Int × Int × Int × Int × List Int)
  | 0, _, _, _, _, _, _, _, _, _, _, _ => none
  | k + 1, W, H, P, D, ps, l, n, e, xs, out, j => if j < e.f5 then (impl_Merge.l2 k W H P D ps l n e xs out j 0) else (impl_Merge.l0 k W H P D ps l (wrap64 (n + 1)) out)
def impl_Merge.l2 : Nat → Int → Int → Int → Int → List S35 → List S113 → Int → S113 → List Int → List Int → Int → Int → Option (Int × Int × Int × Int × List Int)
  | 0, _, _, _, _, _, _, _, _, _, _, _, _ => none
  | k + 1, W, H, P, D, ps, l, n, e, xs, out, j, i => if i < e.f4 then ((impl_Merge.cp W P e xs j i out).bind fun o2 => (impl_Merge.l2 k W H P D ps l n e xs o2 j (wrap64 (i + 1)))) else (impl_Merge.l1 k W H P D ps l n e xs out (wrap64 (j + 1)))
end
def impl_Merge.f (k : Nat) (a0 a1 : Int) (ps : List S35) : Option (Int × Int × Int × Int × List Int) := (impl_Passes.f k a0 a1).bind fun l => (if (l.length : Int) = 0 then (some (0, 0, 0, 0, ([] : List Int))) else (if (l.length : Int) = (ps.length : Int) then ((impl_goodShape.f a0 a1 (rd_T35 ps 0).f2 (rd_T35 ps 0).f3).bind fun t => (if t = true then (if 1 ≤ wrap64 ((wrap64 (a0 * a1)) * (rd_T35 ps 0).f2) then (if wrap64 ((wrap64 (a0 * a1)) * (rd_T35 ps 0).f2) ≤ 4194304 then (impl_Merge.l0 k a0 a1 (rd_T35 ps 0).f2 (rd_T35 ps 0).f3 ps l 0 (List.replicate (wrap64 ((wrap64 (a0 * a1)) * (rd_T35 ps 0).f2)).toNat 0)) else none) else none) else (some (0, 0, 0, 0, ([] : List Int))))) else (some (0, 0, 0, 0, ([] : List Int)))))
theorem impl_Merge.mono_l : ∀ k, (∀ y0 y1 y2 y3 y4 y5 y6 y7, LeO (impl_Merge.l0 k y0 y1 y2 y3 y4 y5 y6 y7) (impl_Merge.l0 (k + 1) y0 y1 y2 y3 y4 y5 y6 y7)) ∧ (∀ y0 y1 y2 y3 y4 y5 y6 y7 y8 y9 y10, LeO (impl_Merge.l1 k y0 y1 y2 y3 y4 y5 y6 y7 y8 y9 y10) (impl_Merge.l1 (k + 1) y0 y1 y2 y3 y4 y5 y6 y7 y8 y9 y10)) ∧ (∀ y0 y1 y2 y3 y4 y5 y6 y7 y8 y9 y10 y11, LeO (impl_Merge.l2 k y0 y1 y2 y3 y4 y5 y6 y7 y8 y9 y10 y11) (impl_Merge.l2 (k + 1) y0 y1 y2 y3 y4 y5 y6 y7 y8 y9 y10 y11))
  | 0 => ⟨fun _ _ _ _ _ _ _ _ r h => by simp [impl_Merge.l0] at h, fun _ _ _ _ _ _ _ _ _ _ _ r h => by simp [impl_Merge.l1] at h, fun _ _ _ _ _ _ _ _ _ _ _ _ r h => by simp [impl_Merge.l2] at h⟩
  | k + 1 => by
    obtain ⟨ih0, ih1, ih2⟩ := impl_Merge.mono_l k
    refine ⟨?_, ?_, ?_⟩
    · intro y0 y1 y2 y3 y4 y5 y6 y7
      unfold impl_Merge.l0
      repeat' first
      | (with_reducible exact ih0 _ _ _ _ _ _ _ _)
      | (with_reducible exact ih1 _ _ _ _ _ _ _ _ _ _ _)
      | (with_reducible exact ih2 _ _ _ _ _ _ _ _ _ _ _ _)
      | (with_reducible exact impl_GoodImage.mono _ _ _ _ _ _)
      | (with_reducible exact impl_Passes.mono _ _ _)
      | (with_reducible exact LeO.refl _)
      | (with_reducible exact LeO.none _)
      | (with_reducible refine LeO.ite ?_ ?_)
      | (with_reducible refine LeO.bind ?_ (fun _ => ?_))
      | exact ih0 _ _ _ _ _ _ _ _
      | exact ih1 _ _ _ _ _ _ _ _ _ _ _
      | exact ih2 _ _ _ _ _ _ _ _ _ _ _ _
      | exact impl_GoodImage.mono _ _ _ _ _ _
      | exact impl_Passes.mono _ _ _
      | exact LeO.none _
      | refine LeO.ite ?_ ?_
      | refine LeO.bind ?_ (fun _ => ?_)
    · intro y0 y1 y2 y3 y4 y5 y6 y7 y8 y9 y10
      unfold impl_Merge.l1
      repeat' first
      | (with_reducible exact ih0 _ _ _ _ _ _ _ _)
      | (with_reducible exact ih1 _ _ _ _ _ _ _ _ _ _ _)
      | (with_reducible exact ih2 _ _ _ _ _ _ _ _ _ _ _ _)
      | (with_reducible exact impl_GoodImage.mono _ _ _ _ _ _)
      | (with_reducible exact impl_Passes.mono _ _ _)
      | (with_reducible exact LeO.refl _)
      | (with_reducible exact LeO.none _)
      | (with_reducible refine LeO.ite ?_ ?_)
      | (with_reducible refine LeO.bind ?_ (fun _ => ?_))
      | exact ih0 _ _ _ _ _ _ _ _
      | exact ih1 _ _ _ _ _ _ _ _ _ _ _
      | exact ih2 _ _ _ _ _ _ _ _ _ _ _ _
      | exact impl_GoodImage.mono _ _ _ _ _ _
      | exact impl_Passes.mono _ _ _
      | exact LeO.none _
      | refine LeO.ite ?_ ?_
      | refine LeO.bind ?_ (fun _ => ?_)
    · intro y0 y1 y2 y3 y4 y5 y6 y7 y8 y9 y10 y11
      unfold impl_Merge.l2
      repeat' first
      | (with_reducible exact ih0 _ _ _ _ _ _ _ _)
      | (with_reducible exact ih1 _ _ _ _ _ _ _ _ _ _ _)
      | (with_reducible exact ih2 _ _ _ _ _ _ _ _ _ _ _ _)
      | (with_reducible exact impl_GoodImage.mono _ _ _ _ _ _)
      | (with_reducible exact impl_Passes.mono _ _ _)
      | (with_reducible exact LeO.refl _)
      | (with_reducible exact LeO.none _)
      | (with_reducible refine LeO.ite ?_ ?_)
      | (with_reducible refine LeO.bind ?_ (fun _ => ?_))
      | exact ih0 _ _ _ _ _ _ _ _
      | exact ih1 _ _ _ _ _ _ _ _ _ _ _
      | exact ih2 _ _ _ _ _ _ _ _ _ _ _ _
      | exact impl_GoodImage.mono _ _ _ _ _ _
      | exact impl_Passes.mono _ _ _
      | exact LeO.none _
      | refine LeO.ite ?_ ?_
      | refine LeO.bind ?_ (fun _ => ?_)
theorem impl_Merge.mono : ∀ a0 a1 a2 k, LeO (impl_Merge.f k a0 a1 a2) (impl_Merge.f (k + 1) a0 a1 a2) := by
  intro a0 a1 a2 k
  obtain ⟨ih0, ih1, ih2⟩ := impl_Merge.mono_l k
  unfold impl_Merge.f
  repeat' first
      | (with_reducible exact ih0 _ _ _ _ _ _ _ _)
      | (with_reducible exact ih1 _ _ _ _ _ _ _ _ _ _ _)
      | (with_reducible exact ih2 _ _ _ _ _ _ _ _ _ _ _ _)
      | (with_reducible exact impl_GoodImage.mono _ _ _ _ _ _)
      | (with_reducible exact impl_Passes.mono _ _ _)
      | (with_reducible exact LeO.refl _)
      | (with_reducible exact LeO.none _)
      | (with_reducible refine LeO.ite ?_ ?_)
      | (with_reducible refine LeO.bind ?_ (fun _ => ?_))
      | exact ih0 _ _ _ _ _ _ _ _
      | exact ih1 _ _ _ _ _ _ _ _ _ _ _
      | exact ih2 _ _ _ _ _ _ _ _ _ _ _ _
      | exact impl_GoodImage.mono _ _ _ _ _ _
      | exact impl_Passes.mono _ _ _
      | exact LeO.none _
      | refine LeO.ite ?_ ?_
      | refine LeO.bind ?_ (fun _ => ?_)
def impl_Merge.T4 : Bool × List (List Nat × List Nat) := (true, [([], []), ([], []), ([], []), ([2], [2]), ([3], [3]), ([4], [4]), ([], []), ([6], [6]), ([7], [7]), ([8], [8]), ([0, 1, 5, 9], [0, 1, 5, 9]), ([], []), ([11, 10, 0, 1, 2, 3, 4, 5, 6, 7, 8, 9, 10, 11], [10, 11])])
def impl_Merge.B4 : List Nat := [0, 0, 0, 4, 12, 28, 0, 64, 192, 448, 1023, 0, 4095]
theorem impl_Merge.tab4 : rtab .any (opsOf Try.f24 4) = impl_Merge.T4 := by kernel_rfl
theorem impl_Merge.bits4 : waitsOk impl_Merge.T4.2 impl_Merge.B4 = true := by kernel_rfl
set_option maxHeartbeats 8000000 in
set_option maxRecDepth 100000 in
theorem impl_Merge.calls (k : Nat) (a0 : Int) (a1 : Int) (A2 : Option Addr) (c2 : Nat) (ps : List S35) (r1 : Int) (r2 : Int) (r3 : Int) (r4 : Int) (r5 : List Int) (w : World) (hr2 : Kd.C k35 w A2 ps.length ps) (hc2 : ps.length ≤ c2) (h : impl_Merge.f k a0 a1 ps = some (r1, r2, r3, r4, r5)) :
    Calls Try.prog 24 #[.int .i64 a0, .int .i64 a1, .slice A2 ps.length c2] w fun e w' => ∃ v4_ : Value, e = .returned (.agg #[.int .i64 r1, .int .i64 r2, .int .i64 r3, .int .i64 r4, v4_]) ∧ Kd.R (Kd.int .i64) 3 w' w.heap.size (fun _ => True) v4_ r5 ∧ Below w.heap.size w w' := by
  have huI := Try.underlying35
  have huP := Try.underlying113
  have HP := Aside0.mk hr2
  clear hr2 hc2
  have HB := Aside0.mk (Below.refl w.heap.size w)
  unfold impl_Merge.f at h
  obtain ⟨l, A40, H⟩ := Option.bind_eq_some_iff.mp h
  clear h
  have A4 := Aside0.mk A40
  clear A40
  go_enter Try.func24, Try.ntmps24
  go_upto_region 2 with (first | ((with_reducible refine gate_dst (N := 6) rfl ?_); refine box_event ?hg (N := 6) ?hd (cs := #[.int .i64 0, .int .i64 0, .int .i64 0, .int .i64 0, .slice none 0 0]) (t := 35) ?hr ?_; (case hd => rfl); (case hg => rfl); (case hr => first | (go_simp; done) | (go_simp; rfl)); intro gr hg W1 hbox hb; have GEgr := Aside0.mk (show w.heap.size ≤ gr from by rw [hg]; exact below_size HB.out); have n_HB := Aside0.mk (below_step HB.out hb); clear HB; have HB := n_HB; clear n_HB; have BR := Aside0.mk hbox; clear hg hbox hb) | ((with_reducible refine gate_callee (f := 90) rfl ?_); refine goesL_ (some 17) rfl rfl Try.func90 (by kernel_rfl) rfl #[.int .i64 a0, .int .i64 a1] rfl (by (try simp only [List.map_toArray, List.map_cons, List.map_nil]); first | done | rfl) ?_; (with_reducible refine (impl_Passes.calls k a0 a1 l _ A4.out).mono ?_); rintro e W2 ⟨v7, rfl, ho, hb⟩; refine ⟨_, rfl, ?_⟩; have HT := Aside0.mk (Kd.R_lower ho (below_size HB.out)); clear ho; have n_BR := Aside0.mk (blk_below BR.out hb); have n_HB := Aside0.mk (below_step HB.out hb); clear BR HB; have BR := n_BR; have HB := n_HB; clear n_BR n_HB; clear hb; obtain ⟨A7, c7, e7⟩ := Kd.R_slice HT.out; subst e7))
  by_cases c1 : (l.length : Int) = 0
  · rw [if_pos c1] at H
    have c1b := beq_iff_eq.mpr c1
    clear c1
    simp only [Option.some.injEq, Prod.mk.injEq] at H
    obtain ⟨rfl, rfl, rfl, rfl, rfl⟩ := H
    go_wp2_with (first | ((with_reducible refine gate_store (t := 35) (p := 6) (v := .tmp 28) rfl ?_); refine put_all rfl 35 (.tmp 6) (.tmp 28) rfl rfl gr #[.int .i64 0, .int .i64 0, .int .i64 0, .int .i64 0, .slice none 0 0] 35 (.agg #[.int .i64 0, .int .i64 0, .int .i64 0, .int .i64 0, .slice none 0 0]) [.int .i64 0, .int .i64 0, .int .i64 0, .int .i64 0, .slice none 0 0] rfl rfl rfl (by simp [Value.oneCell']) (by kernel_rfl) BR.out rfl ?_; intro W103 h1 hk hbb; have n_HT := Aside0.mk (Kd.R_mono (Kd.R_kept (Kd.R_types HT.out BR.out (by decide)) hk (fun k_ ho_ hs_ => ho_.2 hs_)) (fun _ h_ => h_.1)); have n_HB := Aside0.mk (hbb _ _ HB.out GEgr.out); clear HT HB; have HT := n_HT; have HB := n_HB; clear n_HT n_HB; clear BR; have BR := Aside0.mk (show W103.heap[gr]? = some (.cells #[.int .i64 0, .int .i64 0, .int .i64 0, .int .i64 0, .slice none 0 0] 35 (0, 0)) from h1); clear h1 hk hbb))
    refine bodyPost_ret (results_cell_row rfl _ _ gr 35 #[.int .i64 0, .int .i64 0, .int .i64 0, .int .i64 0, .slice none 0 0] (0, 0) _ rfl BR.out Try.underlying35 rfl (by kernel_rfl)) rfl ?_
    exact ⟨_, rfl, Kd.R_nil _ _ _ _ _, HB.out⟩
  rw [if_neg c1] at H
  have c1b := beq_eq_false_iff_ne.mpr c1
  by_cases c2 : (l.length : Int) = (ps.length : Int)
  rotate_left
  · rw [if_neg c2] at H
    have c2b := bne_iff_ne.mpr c2
    clear c1 c2
    simp only [Option.some.injEq, Prod.mk.injEq] at H
    obtain ⟨rfl, rfl, rfl, rfl, rfl⟩ := H
    go_wp2_with (first | ((with_reducible refine gate_store (t := 35) (p := 6) (v := .tmp 28) rfl ?_); refine put_all rfl 35 (.tmp 6) (.tmp 28) rfl rfl gr #[.int .i64 0, .int .i64 0, .int .i64 0, .int .i64 0, .slice none 0 0] 35 (.agg #[.int .i64 0, .int .i64 0, .int .i64 0, .int .i64 0, .slice none 0 0]) [.int .i64 0, .int .i64 0, .int .i64 0, .int .i64 0, .slice none 0 0] rfl rfl rfl (by simp [Value.oneCell']) (by kernel_rfl) BR.out rfl ?_; intro W103 h1 hk hbb; have n_HT := Aside0.mk (Kd.R_mono (Kd.R_kept (Kd.R_types HT.out BR.out (by decide)) hk (fun k_ ho_ hs_ => ho_.2 hs_)) (fun _ h_ => h_.1)); have n_HB := Aside0.mk (hbb _ _ HB.out GEgr.out); clear HT HB; have HT := n_HT; have HB := n_HB; clear n_HT n_HB; clear BR; have BR := Aside0.mk (show W103.heap[gr]? = some (.cells #[.int .i64 0, .int .i64 0, .int .i64 0, .int .i64 0, .slice none 0 0] 35 (0, 0)) from h1); clear h1 hk hbb))
    refine bodyPost_ret (results_cell_row rfl _ _ gr 35 #[.int .i64 0, .int .i64 0, .int .i64 0, .int .i64 0, .slice none 0 0] (0, 0) _ rfl BR.out Try.underlying35 rfl (by kernel_rfl)) rfl ?_
    exact ⟨_, rfl, Kd.R_nil _ _ _ _ _, HB.out⟩
  rw [if_pos c2] at H
  have c2b := bne_eq_false_iff_eq.mpr c2
  have PL := Aside0.mk (show 0 < (ps.length : Int) from by omega)
  clear c1
  replace H := Option.bind_eq_some_iff.mp H
  obtain ⟨tz, A50, H⟩ := H
  have A5 := Aside0.mk A50
  have HH := Aside0.mk H
  have C2 := Aside0.mk c2
  clear A50 H c2
  go_upto_region 4 with (fail)
  clear c1b c2b
  have PLb := decide_eq_true PL.out
  have PLt := eq_true PL.out
  have PLn : (0 < ps.length) = True := eq_true (by have := PL.out; omega)
  try go_wp2
  have hb := below_drew (Below.refl W2.heap.size W2)
  have n_BR := Aside0.mk (blk_below BR.out hb)
  have n_HT := Aside0.mk (Kd.R_below HT.out hb)
  have n_HB := Aside0.mk (below_step HB.out hb)
  clear BR HT HB
  have BR := n_BR
  have HT := n_HT
  have HB := n_HB
  clear n_BR n_HT n_HB
  clear hb
  obtain ⟨ad0, Ai0, ci0, e0, hx0, hx1, hx2, hx3, hx4, hl0, hi0⟩ := at_T35 (Kd.C_below HP.out HB.out) 0 (by omega) PL.out
  clear hl0 hi0 hx0 hx1 hx4
  cases e0
  (try rw [show ((0 : Int)).toNat = 0 from rfl] at hx2)
  (try rw [show 0 * 5 = 0 from rfl] at hx2)
  (try rw [Addr.add_zero'] at hx2)
  (try rw [show ((0 : Int)).toNat = 0 from rfl] at hx3)
  (try rw [show 0 * 5 = 0 from rfl] at hx3)
  (try rw [Addr.add_zero'] at hx3)
  obtain ⟨P, hP⟩ : ∃ P_, (rd_T35 ps 0).f2 = P_ := ⟨_, rfl⟩
  obtain ⟨D, hD⟩ : ∃ D_, (rd_T35 ps 0).f3 = D_ := ⟨_, rfl⟩
  rw [hP] at hx2
  rw [hD] at hx3
  have H := HH.out
  clear HH
  rw [hP, hD] at H
  have HH := Aside0.mk H
  clear H
  have H := A5.out
  clear A5
  rw [hP, hD] at H
  have A5 := Aside0.mk H
  clear H hP hD
  refine start_ (n := 13) (S := fun w' => w'.cell? ⟨ad0.block, ad0.off + 2, none⟩ = some (.int .i64 P) ∧ w'.cell? ⟨ad0.block, ad0.off + 3, none⟩ = some (.int .i64 D)) (ds := []) #[false, false, false, false, false, false, false, false, false, false, false, false, false] (by kernel_rfl) rfl rfl ⟨hx2, hx3⟩ (fun hHeld => ?_); refine with_tabW impl_Merge.tab4 impl_Merge.bits4 (fun HT_ HW_ => ?_)
  generalize W2.drew = W3 at BR HT HB hx2 hx3 hHeld ⊢
  refine pure_ (i := 0) (N := some 29) (v := ?_) (a' := ?_) #[true, false, false, false, false, false, false, false, false, false, false, false, false] rfl rfl (any_of HT_.out (by kernel_rfl)) (fun _ _ _ h => h) (Or.inl ⟨by rfl, ?_⟩) ?_ ?_
  rotate_left
  · intro w'
    go_simp
    with_reducible rfl
  rotate_left
  · simp only [Act.put, List.setIfInBounds_toArray, List.set_cons_zero, List.set_cons_succ, i64_w, i32_w]
    rfl
  refine pure_ (i := 1) (N := some 30) (v := ?_) (a' := ?_) #[true, true, false, false, false, false, false, false, false, false, false, false, false] rfl rfl (any_of HT_.out (by kernel_rfl)) (fun _ _ _ h => h) (Or.inl ⟨by rfl, ?_⟩) ?_ ?_
  rotate_left
  · intro w'
    go_simp
    with_reducible rfl
  rotate_left
  · simp only [Act.put, List.setIfInBounds_toArray, List.set_cons_zero, List.set_cons_succ, i64_w, i32_w]
    rfl
  refine pure_ (i := 2) (N := some 31) (v := ?_) (a' := ?_) #[true, true, true, false, false, false, false, false, false, false, false, false, false] rfl rfl (any_of HT_.out (by kernel_rfl)) (fun _ _ _ h => h) (Or.inl ⟨by rfl, ?_⟩) ?_ ?_
  rotate_left
  · intro w'
    go_simp
    with_reducible rfl
  rotate_left
  · simp only [Act.put, List.setIfInBounds_toArray, List.set_cons_zero, List.set_cons_succ, i64_w, i32_w]
    rfl
  refine pure_ (i := 3) (N := some 32) (v := ?_) (a' := ?_) #[true, true, true, true, false, false, false, false, false, false, false, false, false] rfl rfl (any_of HT_.out (by kernel_rfl)) (fun _ _ _ h => h) (Or.inl ⟨by rfl, ?_⟩) ?_ ?_
  rotate_left
  · intro w'
    go_simp
    with_reducible rfl
  rotate_left
  · simp only [Act.put, List.setIfInBounds_toArray, List.set_cons_zero, List.set_cons_succ, i64_w, i32_w]
    rfl
  refine pure_ (i := 4) (N := some 33) (v := ?_) (a' := ?_) #[true, true, true, true, true, false, false, false, false, false, false, false, false] rfl rfl (any_of HT_.out (by kernel_rfl)) (fun _ _ _ h => h) (Or.inl ⟨by rfl, ?_⟩) ?_ ?_
  rotate_left
  · intro w'
    go_simp
    with_reducible rfl
  rotate_left
  · simp only [Act.put, List.setIfInBounds_toArray, List.set_cons_zero, List.set_cons_succ, i64_w, i32_w]
    rfl
  refine pure_ (i := 6) (N := some 35) (v := ?_) (a' := ?_) #[true, true, true, true, true, false, true, false, false, false, false, false, false] rfl rfl (any_of HT_.out (by kernel_rfl)) (fun _ _ _ h => h) (Or.inl ⟨by rfl, ?_⟩) ?_ ?_
  rotate_left
  · intro w'
    go_simp
    with_reducible rfl
  rotate_left
  · simp only [Act.put, List.setIfInBounds_toArray, List.set_cons_zero, List.set_cons_succ, i64_w, i32_w]
    rfl
  refine pure_ (i := 7) (N := some 36) (v := ?_) (a' := ?_) #[true, true, true, true, true, false, true, true, false, false, false, false, false] rfl rfl (any_of HT_.out (by kernel_rfl)) (fun _ _ _ h => h) (Or.inl ⟨by rfl, ?_⟩) ?_ ?_
  rotate_left
  · intro w'
    go_simp
    with_reducible rfl
  rotate_left
  · simp only [Act.put, List.setIfInBounds_toArray, List.set_cons_zero, List.set_cons_succ, i64_w, i32_w]
    rfl
  refine pure_ (i := 8) (N := some 37) (v := ?_) (a' := ?_) #[true, true, true, true, true, false, true, true, true, false, false, false, false] rfl rfl (any_of HT_.out (by kernel_rfl)) (fun _ _ _ h => h) (Or.inl ⟨by rfl, ?_⟩) ?_ ?_
  rotate_left
  · intro w'
    go_simp
    with_reducible rfl
  rotate_left
  · simp only [Act.put, List.setIfInBounds_toArray, List.set_cons_zero, List.set_cons_succ, i64_w, i32_w]
    rfl
  refine take_ (i := 5) (N := some 34) (v := ?_) (a' := ?_) #[true, true, true, true, true, true, true, true, true, false, false, false, false] rfl rfl (take_ofW HT_.out HW_.out (by kernel_rfl)) (fun _ _ _ h => h) (Or.inl ⟨by rfl, ?_⟩) hHeld ?_ ?_
  rotate_left
  · rintro w' ⟨s0, s1⟩
    go_simp
    with_reducible rfl
  rotate_left
  · simp only [Act.put, List.setIfInBounds_toArray, List.set_cons_zero, List.set_cons_succ, i64_w, i32_w]
    rfl
  refine take_ (i := 9) (N := some 38) (v := ?_) (a' := ?_) #[true, true, true, true, true, true, true, true, true, true, false, false, false] rfl rfl (take_ofW HT_.out HW_.out (by kernel_rfl)) (fun _ _ _ h => h) (Or.inl ⟨by rfl, ?_⟩) hHeld ?_ ?_
  rotate_left
  · rintro w' ⟨s0, s1⟩
    go_simp
    with_reducible rfl
  rotate_left
  · simp only [Act.put, List.setIfInBounds_toArray, List.set_cons_zero, List.set_cons_succ, i64_w, i32_w]
    rfl
  refine pure_ (i := 10) (N := some 39) (v := ?_) (a' := ?_) #[true, true, true, true, true, true, true, true, true, true, true, false, false] rfl rfl (any_of HT_.out (by kernel_rfl)) (fun _ _ _ h => h) (Or.inl ⟨by rfl, ?_⟩) ?_ ?_
  rotate_left
  · intro w'
    go_simp
    with_reducible rfl
  rotate_left
  · simp only [Act.put, List.setIfInBounds_toArray, List.set_cons_zero, List.set_cons_succ, i64_w, i32_w]
    rfl
  refine one_ (i := 11) (N := some 8) #[true, true, true, true, true, true, true, true, true, true, true, true, false] rfl rfl (one_of HT_.out (by kernel_rfl)) (by decide) (fun K hK => ?_)
  refine box_step ?hg (N := 8) ?hd (cs := #[.int .i64 0, .int .i64 0, .int .i64 0, .int .i64 0, .slice none 0 0]) (t := 35) ?hr ?_; (case hd => rfl); (case hg => rfl); (case hr => first | (go_simp; done) | (go_simp; rfl))
  intro gi hg W4 hbox hb
  have GXl0 := World.block_lt_of_cell? W3 _ hx2
  have GXl : ad0.block < W3.heap.size := GXl0
  clear GXl0
  have hx2 := (hb.cell (World.block_lt_of_cell? _ _ hx2)).trans hx2
  have hx3 := (hb.cell (World.block_lt_of_cell? _ _ hx3)).trans hx3
  have GX0 := Aside0.mk (show ad0.block ≠ gi from by rw [hg]; exact Nat.ne_of_lt GXl)
  clear GXl
  have GEgi := Aside0.mk (show w.heap.size ≤ gi from by rw [hg]; exact below_size HB.out)
  have NE_gr_gi := Aside0.mk (show gr ≠ gi from by rw [hg]; exact Nat.ne_of_lt (blk_lt BR.out))
  have n_BR := Aside0.mk (blk_below BR.out hb)
  have n_HT := Aside0.mk (Kd.R_below HT.out hb)
  have n_HB := Aside0.mk (below_step HB.out hb)
  clear BR HT HB
  have BR := n_BR
  have HT := n_HT
  have HB := n_HB
  clear n_BR n_HT n_HB
  have BI := Aside0.mk hbox
  clear hg hbox hb
  refine hK.out _ _ ⟨hx2, hx3⟩ (fun hHeld => ?_)
  clear hK K
  refine norm_ (a' := ?_) ?_ ?_
  rotate_left
  · show Act.put _ (some 8) _ = _
    simp only [Act.put, List.setIfInBounds_toArray, List.set_cons_zero, List.set_cons_succ, i64_w, i32_w]
    rfl
  refine one_ (i := 12) (N := none) #[true, true, true, true, true, true, true, true, true, true, true, true, true] rfl rfl (one_of HT_.out (by kernel_rfl)) (by decide) (fun K hK => ?_)
  refine impl_Merge.put_all_step rfl 35 (.tmp 8) (.tmp 39) rfl rfl gi #[.int .i64 0, .int .i64 0, .int .i64 0, .int .i64 0, .slice none 0 0] 35 (.agg #[.int .i64 a0, .int .i64 a1, .int .i64 P, .int .i64 D, .slice none 0 0]) [.int .i64 a0, .int .i64 a1, .int .i64 P, .int .i64 D, .slice none 0 0] rfl rfl rfl (by simp [Value.oneCell']) (by kernel_rfl) BI.out rfl ?_
  intro W5 h1 hk hbb
  have hx2 := (impl_Merge.kept_cell hx2 hk GX0.out)
  have hx3 := (impl_Merge.kept_cell hx3 hk GX0.out)
  have n_BR := Aside0.mk (blk_kept BR.out hk NE_gr_gi.out)
  have n_HT := Aside0.mk (Kd.R_mono (Kd.R_kept (Kd.R_types HT.out BI.out (by decide)) hk (fun k_ ho_ hs_ => ho_.2 hs_)) (fun _ h_ => h_.1))
  have n_HB := Aside0.mk (hbb _ _ HB.out GEgi.out)
  clear BR HT HB
  have BR := n_BR
  have HT := n_HT
  have HB := n_HB
  clear n_BR n_HT n_HB
  clear BI
  have BI := Aside0.mk (show W5.heap[gi]? = some (.cells #[.int .i64 a0, .int .i64 a1, .int .i64 P, .int .i64 D, .slice none 0 0] 35 (0, 0)) from h1)
  clear h1 hk hbb
  refine hK.out _ _ ⟨hx2, hx3⟩ (fun hHeld => ?_)
  clear hK K
  refine done_ (done_of HT_.out (by kernel_rfl)) ?_
  clear hx2 hx3 GX0 PLb PLt PLn hHeld
  have hz_gi_0 : W5.cell? ⟨gi, 0, none⟩ = some (.int .i64 a0) := (blk_cell BI.out 0).trans rfl
  have hz_gi_1 : W5.cell? ⟨gi, 1, none⟩ = some (.int .i64 a1) := (blk_cell BI.out 1).trans rfl
  have hz_gi_2 : W5.cell? ⟨gi, 2, none⟩ = some (.int .i64 P) := (blk_cell BI.out 2).trans rfl
  have hz_gi_3 : W5.cell? ⟨gi, 3, none⟩ = some (.int .i64 D) := (blk_cell BI.out 3).trans rfl
  have hz_gi_4 : W5.cell? ⟨gi, 4, none⟩ = some (.slice none 0 0) := (blk_cell BI.out 4).trans rfl
  have H := HH.out
  clear HH
  by_cases c3 : tz = true
  rotate_left
  · rw [if_neg c3] at H
    replace c3 := Bool.eq_false_iff.mpr c3
    subst c3
    simp only [Option.some.injEq, Prod.mk.injEq] at H
    obtain ⟨rfl, rfl, rfl, rfl, rfl⟩ := H
    go_wp2_with (first | ((with_reducible refine gate_callee (f := 91) rfl ?_); refine goesL_ (some 46) rfl rfl Try.func91 (by kernel_rfl) rfl #[.int .i64 a0, .int .i64 a1, .int .i64 P, .int .i64 D] rfl (by (try simp only [List.map_toArray, List.map_cons, List.map_nil]); first | done | rfl) ?_; (with_reducible refine (impl_goodShape.calls a0 a1 P D _ _ A5.out).mono ?_); rintro e w' ⟨rfl, ⟨nd, rfl⟩⟩; refine ⟨_, rfl, ?_⟩; have hb := pw_below_drewN (Below.refl W5.heap.size W5) nd; have n_BR := Aside0.mk (blk_below BR.out hb); have n_HT := Aside0.mk (Kd.R_below HT.out hb); have n_BI := Aside0.mk (blk_below BI.out hb); have n_HB := Aside0.mk (below_step HB.out hb); clear BR HT BI HB; have BR := n_BR; have HT := n_HT; have BI := n_BI; have HB := n_HB; clear n_BR n_HT n_BI n_HB; clear hb; generalize W5.drewN nd = W6 at BR HT BI HB ⊢; clear hz_gi_0 hz_gi_1 hz_gi_2 hz_gi_3 hz_gi_4; have hz_gi_0 : W6.cell? ⟨gi, 0, none⟩ = some (.int .i64 a0) := (blk_cell BI.out 0).trans rfl; have hz_gi_1 : W6.cell? ⟨gi, 1, none⟩ = some (.int .i64 a1) := (blk_cell BI.out 1).trans rfl; have hz_gi_2 : W6.cell? ⟨gi, 2, none⟩ = some (.int .i64 P) := (blk_cell BI.out 2).trans rfl; have hz_gi_3 : W6.cell? ⟨gi, 3, none⟩ = some (.int .i64 D) := (blk_cell BI.out 3).trans rfl; have hz_gi_4 : W6.cell? ⟨gi, 4, none⟩ = some (.slice none 0 0) := (blk_cell BI.out 4).trans rfl) | ((with_reducible refine gate_store (t := 35) (p := 6) (v := .tmp 48) rfl ?_); refine put_all rfl 35 (.tmp 6) (.tmp 48) rfl rfl gr #[.int .i64 0, .int .i64 0, .int .i64 0, .int .i64 0, .slice none 0 0] 35 (.agg #[.int .i64 0, .int .i64 0, .int .i64 0, .int .i64 0, .slice none 0 0]) [.int .i64 0, .int .i64 0, .int .i64 0, .int .i64 0, .slice none 0 0] rfl rfl rfl (by simp [Value.oneCell']) (by kernel_rfl) BR.out rfl ?_; intro W107 h1 hk hbb; have n_HT := Aside0.mk (Kd.R_mono (Kd.R_kept (Kd.R_types HT.out BR.out (by decide)) hk (fun k_ ho_ hs_ => ho_.2 hs_)) (fun _ h_ => h_.1)); have n_BI := Aside0.mk (blk_kept BI.out hk (Ne.symm NE_gr_gi.out)); have n_HB := Aside0.mk (hbb _ _ HB.out GEgr.out); clear HT BI HB; have HT := n_HT; have BI := n_BI; have HB := n_HB; clear n_HT n_BI n_HB; clear BR; have BR := Aside0.mk (show W107.heap[gr]? = some (.cells #[.int .i64 0, .int .i64 0, .int .i64 0, .int .i64 0, .slice none 0 0] 35 (0, 0)) from h1); clear h1 hk hbb))
    refine bodyPost_ret (results_cell_row rfl _ _ gr 35 #[.int .i64 0, .int .i64 0, .int .i64 0, .int .i64 0, .slice none 0 0] (0, 0) _ rfl BR.out Try.underlying35 rfl (by kernel_rfl)) rfl ?_
    exact ⟨_, rfl, Kd.R_nil _ _ _ _ _, HB.out⟩
  rw [if_pos c3] at H
  subst c3
  by_cases c4 : 1 ≤ wrap64 ((wrap64 (a0 * a1)) * P)
  rotate_left
  · rw [if_neg c4] at H
    exact absurd H (by simp)
  rw [if_pos c4] at H
  by_cases c5 : wrap64 ((wrap64 (a0 * a1)) * P) ≤ 4194304
  rotate_left
  · rw [if_neg c5] at H
    exact absurd H (by simp)
  rw [if_pos c5] at H
  obtain ⟨nn, hnn⟩ : ∃ n_, wrap64 ((wrap64 (a0 * a1)) * P) = n_ := ⟨_, rfl⟩
  rw [hnn] at H c4 c5
  have hnnw : IntKind.i64.wrap ((wrap64 (a0 * a1)) * P) = nn := (i64_w _).trans hnn
  obtain ⟨N, hN⟩ : ∃ N_ : Nat, N_ = nn.toNat := ⟨_, rfl⟩
  have HL := Aside0.mk H
  have NP := Aside0.mk (show 0 < nn.toNat from by omega)
  have NB := Aside0.mk (show nn.toNat ≤ 4194304 from by omega)
  have NZ := Aside0.mk (show 0 ≤ nn from by omega)
  have NB8 := Aside0.mk (show nn.toNat * 8 ≤ 281474976710656 from by omega)
  clear H c4 c5 hN N
  go_upto_region 8 with (first | ((with_reducible refine gate_callee (f := 91) rfl ?_); refine goesL_ (some 46) rfl rfl Try.func91 (by kernel_rfl) rfl #[.int .i64 a0, .int .i64 a1, .int .i64 P, .int .i64 D] rfl (by (try simp only [List.map_toArray, List.map_cons, List.map_nil]); first | done | rfl) ?_; (with_reducible refine (impl_goodShape.calls a0 a1 P D _ _ A5.out).mono ?_); rintro e w' ⟨rfl, ⟨nd, rfl⟩⟩; refine ⟨_, rfl, ?_⟩; have hb := pw_below_drewN (Below.refl W5.heap.size W5) nd; have n_BR := Aside0.mk (blk_below BR.out hb); have n_HT := Aside0.mk (Kd.R_below HT.out hb); have n_BI := Aside0.mk (blk_below BI.out hb); have n_HB := Aside0.mk (below_step HB.out hb); clear BR HT BI HB; have BR := n_BR; have HT := n_HT; have BI := n_BI; have HB := n_HB; clear n_BR n_HT n_BI n_HB; clear hb; generalize W5.drewN nd = W6 at BR HT BI HB ⊢; clear hz_gi_0 hz_gi_1 hz_gi_2 hz_gi_3 hz_gi_4; have hz_gi_0 : W6.cell? ⟨gi, 0, none⟩ = some (.int .i64 a0) := (blk_cell BI.out 0).trans rfl; have hz_gi_1 : W6.cell? ⟨gi, 1, none⟩ = some (.int .i64 a1) := (blk_cell BI.out 1).trans rfl; have hz_gi_2 : W6.cell? ⟨gi, 2, none⟩ = some (.int .i64 P) := (blk_cell BI.out 2).trans rfl; have hz_gi_3 : W6.cell? ⟨gi, 3, none⟩ = some (.int .i64 D) := (blk_cell BI.out 3).trans rfl; have hz_gi_4 : W6.cell? ⟨gi, 4, none⟩ = some (.slice none 0 0) := (blk_cell BI.out 4).trans rfl) | ((with_reducible refine gate_dst (N := 55) rfl ?_); refine Kd.R_make (Kd.int .i64) _ 3 rfl (N := 55) rfl 22 _ _ rfl nn rfl rfl Try.underlying22 (.int .i64 0) 8 info3 rfl (by decide) (by omega) 0 (ok := fun _ => True) (okp := fun _ => True) rfl (fun _ hk => hk) trivial NZ.out NB8.out (Below.refl _ _) (Nat.le_refl _) ?_; intro vs W7 ho hb hg_ hnew_; clear hg_ hnew_; have HS := Aside0.mk (Kd.R_lower ho (below_size HB.out)); clear ho; have n_BR := Aside0.mk (blk_below BR.out hb); have n_HT := Aside0.mk (Kd.R_below HT.out hb); have n_BI := Aside0.mk (blk_below BI.out hb); have n_HB := Aside0.mk (below_step HB.out hb); clear BR HT BI HB; have BR := n_BR; have HT := n_HT; have BI := n_BI; have HB := n_HB; clear n_BR n_HT n_BI n_HB; clear hb; obtain ⟨gs, co, es, GEgs, _, _⟩ := Kd.R_form HS.out (by rw [List.length_replicate]; exact NP.out); rw [List.length_replicate] at es; subst es; replace GEgs := Aside0.mk GEgs; clear hz_gi_0 hz_gi_1 hz_gi_2 hz_gi_3 hz_gi_4; have hz_gi_0 : W7.cell? ⟨gi, 0, none⟩ = some (.int .i64 a0) := (blk_cell BI.out 0).trans rfl; have hz_gi_1 : W7.cell? ⟨gi, 1, none⟩ = some (.int .i64 a1) := (blk_cell BI.out 1).trans rfl; have hz_gi_2 : W7.cell? ⟨gi, 2, none⟩ = some (.int .i64 P) := (blk_cell BI.out 2).trans rfl; have hz_gi_3 : W7.cell? ⟨gi, 3, none⟩ = some (.int .i64 D) := (blk_cell BI.out 3).trans rfl; have hz_gi_4 : W7.cell? ⟨gi, 4, none⟩ = some (.slice none 0 0) := (blk_cell BI.out 4).trans rfl) | ((with_reducible refine gate_store (t := 22) (p := 56) (v := .tmp 55) rfl ?_); refine put_event rfl 22 (.tmp 56) (.tmp 55) rfl rfl gi 4 #[.int .i64 a0, .int .i64 a1, .int .i64 P, .int .i64 D, .slice none 0 0] 35 (.slice (some ⟨gs, 0, none⟩) nn.toNat co) rfl rfl rfl rfl (by kernel_rfl) BI.out (by simp) ?_; intro W8 h1 hk hbb; have n_BR := Aside0.mk (blk_kept BR.out hk NE_gr_gi.out); have n_HT := Aside0.mk (Kd.R_mono (Kd.R_kept (Kd.R_types HT.out BI.out (by decide)) hk (fun k_ ho_ hs_ => ho_.2 hs_)) (fun _ h_ => h_.1)); have n_HS := Aside0.mk (Kd.R_mono (Kd.R_kept (Kd.R_types HS.out BI.out (by decide)) hk (fun k_ ho_ hs_ => ho_.2 hs_)) (fun _ h_ => h_.1)); have n_HB := Aside0.mk (hbb _ _ HB.out GEgi.out); clear BR HT HS HB; have BR := n_BR; have HT := n_HT; have HS := n_HS; have HB := n_HB; clear n_BR n_HT n_HS n_HB; clear BI; have BI := Aside0.mk (show W8.heap[gi]? = some (.cells #[.int .i64 a0, .int .i64 a1, .int .i64 P, .int .i64 D, .slice (some ⟨gs, 0, none⟩) nn.toNat co] 35 (0, 0)) from h1); clear h1 hk hbb))
  clear hz_gi_0 hz_gi_1 hz_gi_2 hz_gi_3 hz_gi_4
  try clear hnn hnnw
  clear A5 C2 PL
  go_wp2
  go_loopg [59] k (fun kq v59 w' => ∃ (n : Int) (out : List Int), v59 = .int .i64 n ∧ Aside0 (impl_Merge.l0 kq a0 a1 P D ps l n out = some (r1, r2, r3, r4, r5)) ∧ Aside0 (kq ≤ k) ∧ Aside0 (out.length = nn.toNat) ∧ Aside0 (Kd.R k113 113 w' w.heap.size (fun _ => True) (.slice A7 l.length c7) l) ∧ Aside0 (Kd.R (Kd.int .i64) 3 w' w.heap.size (fun _ => True) (.slice (some ⟨gs, 0, none⟩) nn.toNat co) out) ∧ Aside0 (w'.heap[gr]? = some (.cells #[.int .i64 0, .int .i64 0, .int .i64 0, .int .i64 0, .slice none 0 0] 35 (0, 0))) ∧ Aside0 (w'.heap[gi]? = some (.cells #[.int .i64 a0, .int .i64 a1, .int .i64 P, .int .i64 D, .slice (some ⟨gs, 0, none⟩) nn.toNat co] 35 (0, 0))) ∧ Aside0 (Below w.heap.size w w'))
  case atStart => exact ⟨0, List.replicate nn.toNat 0, rfl, HL, ⟨Nat.le_refl _⟩, ⟨List.length_replicate⟩, HT, HS, BR, BI, HB⟩
  case round =>
    clear HL HT HS BR BI HB
    obtain ⟨n, out, rfl, HA, HK0, OL, HT, HS, BR, BI, HB⟩ := hrel
    cases gk with
    | zero => exact absurd HA.out (by simp [impl_Merge.l0])
    | succ k0 =>
      have H := HA.out
      clear HA
      simp only [impl_Merge.l0] at H
      by_cases d1 : n < (l.length : Int)
      rotate_left
      · rw [if_neg d1] at H
        have d1b := decide_eq_false d1
        clear d1
        simp only [Option.some.injEq, Prod.mk.injEq] at H
        obtain ⟨rfl, rfl, rfl, rfl, rfl⟩ := H
        have hz_gi_0 : wr.cell? ⟨gi, 0, none⟩ = some (.int .i64 a0) := (blk_cell BI.out 0).trans rfl
        have hz_gi_1 : wr.cell? ⟨gi, 1, none⟩ = some (.int .i64 a1) := (blk_cell BI.out 1).trans rfl
        have hz_gi_2 : wr.cell? ⟨gi, 2, none⟩ = some (.int .i64 P) := (blk_cell BI.out 2).trans rfl
        have hz_gi_3 : wr.cell? ⟨gi, 3, none⟩ = some (.int .i64 D) := (blk_cell BI.out 3).trans rfl
        have hz_gi_4 : wr.cell? ⟨gi, 4, none⟩ = some (.slice (some ⟨gs, 0, none⟩) nn.toNat co) := (blk_cell BI.out 4).trans rfl
        go_wp2_with (first | ((with_reducible refine gate_store (t := 35) (p := 6) (v := .tmp 154) rfl ?_); refine put_all rfl 35 (.tmp 6) (.tmp 154) rfl rfl gr #[.int .i64 0, .int .i64 0, .int .i64 0, .int .i64 0, .slice none 0 0] 35 (.agg #[.int .i64 a0, .int .i64 a1, .int .i64 P, .int .i64 D, .slice (some ⟨gs, 0, none⟩) nn.toNat co]) [.int .i64 a0, .int .i64 a1, .int .i64 P, .int .i64 D, .slice (some ⟨gs, 0, none⟩) nn.toNat co] rfl rfl rfl (by simp [Value.oneCell']) (by kernel_rfl) BR.out rfl ?_; intro W209 h1 hk hbb; have n_HT := Aside0.mk (Kd.R_mono (Kd.R_kept (Kd.R_types HT.out BR.out (by decide)) hk (fun k_ ho_ hs_ => ho_.2 hs_)) (fun _ h_ => h_.1)); have n_HS := Aside0.mk (Kd.R_mono (Kd.R_kept (Kd.R_types HS.out BR.out (by decide)) hk (fun k_ ho_ hs_ => ho_.2 hs_)) (fun _ h_ => h_.1)); have n_BI := Aside0.mk (blk_kept BI.out hk (Ne.symm NE_gr_gi.out)); have n_HB := Aside0.mk (hbb _ _ HB.out GEgr.out); clear HT HS BI HB; have HT := n_HT; have HS := n_HS; have BI := n_BI; have HB := n_HB; clear n_HT n_HS n_BI n_HB; clear BR; have BR := Aside0.mk (show W209.heap[gr]? = some (.cells #[.int .i64 a0, .int .i64 a1, .int .i64 P, .int .i64 D, .slice (some ⟨gs, 0, none⟩) nn.toNat co] 35 (0, 0)) from h1); clear h1 hk hbb))
        refine bodyPost_ret (results_cell_row rfl _ _ gr 35 #[.int .i64 a0, .int .i64 a1, .int .i64 P, .int .i64 D, .slice (some ⟨gs, 0, none⟩) nn.toNat co] (0, 0) _ rfl BR.out Try.underlying35 rfl (by kernel_rfl)) rfl ?_
        exact ⟨_, rfl, HS.out, HB.out⟩
      rw [if_pos d1] at H
      by_cases d2 : 0 ≤ n
      rotate_left
      · rw [if_neg d2] at H
        exact absurd H (by simp)
      rw [if_pos d2] at H
      by_cases d3 : n < (ps.length : Int)
      rotate_left
      · rw [if_neg d3] at H
        exact absurd H (by simp)
      rw [if_pos d3] at H
      replace H := Option.bind_eq_some_iff.mp H
      obtain ⟨tb, A60, H⟩ := H
      obtain ⟨e, he⟩ : ∃ e_, rd_T113 l n = e_ := ⟨_, rfl⟩
      obtain ⟨x, hx⟩ : ∃ x_, rd_T35 ps n = x_ := ⟨_, rfl⟩
      rw [hx] at A60
      rw [he, hx] at H
      have A6 := Aside0.mk A60
      have HH := Aside0.mk H
      clear A60 H
      obtain ⟨ad1, ead1, hx0, hx1, hx2, hx3, hx4, hx5⟩ := at_T113 (Kd.R_reads' HT.out).2.2 n d2 d1
      cases ead1
      rw [he] at hx0 hx1 hx2 hx3 hx4 hx5
      have D2 := Aside0.mk d2
      have D3 := Aside0.mk d3
      have HX := Aside0.mk hx
      have d1b := decide_eq_true d1
      have d2b := decide_eq_true d2
      have d3b := decide_eq_true d3
      replace d1 := eq_true d1
      replace d2 := eq_true d2
      replace d3 := eq_true d3
      clear he hx
      go_upto_region 11 with (first | ((with_reducible refine gate_dst (N := 10) rfl ?_); refine box_event ?hg (N := 10) ?hd (cs := #[.int .i64 0, .int .i64 0, .int .i64 0, .int .i64 0, .int .i64 0, .int .i64 0]) (t := 113) ?hr ?_; (case hd => rfl); (case hg => rfl); (case hr => first | (go_simp; done) | (go_simp; rfl)); intro gp hg W109 hbox hb; have n_HT := Aside0.mk (Kd.R_mono (ok' := fun k_ => k_ ≠ gp) (Kd.R_elderB HT.out gp (Nat.le_of_eq hg.symm)) (fun _ h_ => h_.2)); clear HT; have HT := n_HT; clear n_HT; have GEgp := Aside0.mk (show w.heap.size ≤ gp from by rw [hg]; exact below_size HB.out); have NE_gr_gp := Aside0.mk (show gr ≠ gp from by rw [hg]; exact Nat.ne_of_lt (blk_lt BR.out)); have NE_gi_gp := Aside0.mk (show gi ≠ gp from by rw [hg]; exact Nat.ne_of_lt (blk_lt BI.out)); have n_HT := Aside0.mk (Kd.R_below HT.out hb); have n_HS := Aside0.mk (Kd.R_below HS.out hb); have n_BR := Aside0.mk (blk_below BR.out hb); have n_BI := Aside0.mk (blk_below BI.out hb); have n_HB := Aside0.mk (below_step HB.out hb); clear HT HS BR BI HB; have HT := n_HT; have HS := n_HS; have BR := n_BR; have BI := n_BI; have HB := n_HB; clear n_HT n_HS n_BR n_BI n_HB; have BP := Aside0.mk hbox; clear hg hbox hb) | ((with_reducible refine gate_store (t := 113) (p := 10) (v := .tmp 63) rfl ?_); refine put_all rfl 113 (.tmp 10) (.tmp 63) rfl rfl gp #[.int .i64 0, .int .i64 0, .int .i64 0, .int .i64 0, .int .i64 0, .int .i64 0] 113 (.agg #[.int .i64 e.f0, .int .i64 e.f1, .int .i64 e.f2, .int .i64 e.f3, .int .i64 e.f4, .int .i64 e.f5]) [.int .i64 e.f0, .int .i64 e.f1, .int .i64 e.f2, .int .i64 e.f3, .int .i64 e.f4, .int .i64 e.f5] rfl rfl rfl (by simp [Value.oneCell']) (by kernel_rfl) BP.out rfl ?_; intro W110 h1 hk hbb; have n_HT := Aside0.mk (Kd.R_kept HT.out hk (fun k_ ho_ hs_ => ho_ hs_)); have n_HS := Aside0.mk (Kd.R_mono (Kd.R_kept (Kd.R_types HS.out BP.out (by decide)) hk (fun k_ ho_ hs_ => ho_.2 hs_)) (fun _ h_ => h_.1)); have n_BR := Aside0.mk (blk_kept BR.out hk NE_gr_gp.out); have n_BI := Aside0.mk (blk_kept BI.out hk NE_gi_gp.out); have n_HB := Aside0.mk (hbb _ _ HB.out GEgp.out); clear HT HS BR BI HB; have HT := n_HT; have HS := n_HS; have BR := n_BR; have BI := n_BI; have HB := n_HB; clear n_HT n_HS n_BR n_BI n_HB; clear BP; have BP := Aside0.mk (show W110.heap[gp]? = some (.cells #[.int .i64 e.f0, .int .i64 e.f1, .int .i64 e.f2, .int .i64 e.f3, .int .i64 e.f4, .int .i64 e.f5] 113 (0, 0)) from h1); clear h1 hk hbb))
      clear hx0 hx1 hx2 hx3 hx4 hx5
      obtain ⟨ad2, A3, c3, ead2, hy0, hy1, hy2, hy3, hy4, hl3, hi3⟩ := at_T35 HP.out n D2.out D3.out
      cases ead2
      rw [HX.out] at hy0 hy1 hy2 hy3 hy4 hl3 hi3
      replace hy0 := (HB.out.cell (World.block_lt_of_cell? w _ hy0)).trans hy0
      replace hy1 := (HB.out.cell (World.block_lt_of_cell? w _ hy1)).trans hy1
      replace hy2 := (HB.out.cell (World.block_lt_of_cell? w _ hy2)).trans hy2
      replace hy3 := (HB.out.cell (World.block_lt_of_cell? w _ hy3)).trans hy3
      replace hy4 := (HB.out.cell (World.block_lt_of_cell? w _ hy4)).trans hy4
      have HI := Aside0.mk hi3
      have HL3 := Aside0.mk hl3
      clear hi3 hl3
      go_upto_region 12 with (first | ((with_reducible refine gate_dst (N := 11) rfl ?_); refine box_event ?hg (N := 11) ?hd (cs := #[.int .i64 0, .int .i64 0, .int .i64 0, .int .i64 0, .slice none 0 0]) (t := 35) ?hr ?_; (case hd => rfl); (case hg => rfl); (case hr => first | (go_simp; done) | (go_simp; rfl)); intro gx hg W111 hbox hb; have GEgx := Aside0.mk (show w.heap.size ≤ gx from by rw [hg]; exact below_size HB.out); have NE_gr_gx := Aside0.mk (show gr ≠ gx from by rw [hg]; exact Nat.ne_of_lt (blk_lt BR.out)); have NE_gi_gx := Aside0.mk (show gi ≠ gx from by rw [hg]; exact Nat.ne_of_lt (blk_lt BI.out)); have NE_gp_gx := Aside0.mk (show gp ≠ gx from by rw [hg]; exact Nat.ne_of_lt (blk_lt BP.out)); have n_HT := Aside0.mk (Kd.R_below HT.out hb); have n_HS := Aside0.mk (Kd.R_below HS.out hb); have n_BR := Aside0.mk (blk_below BR.out hb); have n_BI := Aside0.mk (blk_below BI.out hb); have n_BP := Aside0.mk (blk_below BP.out hb); have n_HB := Aside0.mk (below_step HB.out hb); clear HT HS BR BI BP HB; have HT := n_HT; have HS := n_HS; have BR := n_BR; have BI := n_BI; have BP := n_BP; have HB := n_HB; clear n_HT n_HS n_BR n_BI n_BP n_HB; have BX := Aside0.mk hbox; clear hg hbox hb) | ((with_reducible refine gate_store (t := 35) (p := 11) (v := .tmp 67) rfl ?_); refine put_all rfl 35 (.tmp 11) (.tmp 67) rfl rfl gx #[.int .i64 0, .int .i64 0, .int .i64 0, .int .i64 0, .slice none 0 0] 35 (.agg #[.int .i64 x.f0, .int .i64 x.f1, .int .i64 x.f2, .int .i64 x.f3, .slice A3 x.f4.length c3]) [.int .i64 x.f0, .int .i64 x.f1, .int .i64 x.f2, .int .i64 x.f3, .slice A3 x.f4.length c3] rfl rfl rfl (by simp [Value.oneCell']) (by kernel_rfl) BX.out rfl ?_; intro W112 h1 hk hbb; have n_HT := Aside0.mk (Kd.R_mono (Kd.R_kept (Kd.R_types HT.out BX.out (by decide)) hk (fun k_ ho_ hs_ => ho_.2 hs_)) (fun _ h_ => h_.1)); have n_HS := Aside0.mk (Kd.R_mono (Kd.R_kept (Kd.R_types HS.out BX.out (by decide)) hk (fun k_ ho_ hs_ => ho_.2 hs_)) (fun _ h_ => h_.1)); have n_BR := Aside0.mk (blk_kept BR.out hk NE_gr_gx.out); have n_BI := Aside0.mk (blk_kept BI.out hk NE_gi_gx.out); have n_BP := Aside0.mk (blk_kept BP.out hk NE_gp_gx.out); have n_HB := Aside0.mk (hbb _ _ HB.out GEgx.out); clear HT HS BR BI BP HB; have HT := n_HT; have HS := n_HS; have BR := n_BR; have BI := n_BI; have BP := n_BP; have HB := n_HB; clear n_HT n_HS n_BR n_BI n_BP n_HB; clear BX; have BX := Aside0.mk (show W112.heap[gx]? = some (.cells #[.int .i64 x.f0, .int .i64 x.f1, .int .i64 x.f2, .int .i64 x.f3, .slice A3 x.f4.length c3] 35 (0, 0)) from h1); clear h1 hk hbb))
      clear hy0 hy1 hy2 hy3 hy4 d1 d2 d3 d1b d2b d3b
      have hz_gi_0 : W112.cell? ⟨gi, 0, none⟩ = some (.int .i64 a0) := (blk_cell BI.out 0).trans rfl
      have hz_gi_1 : W112.cell? ⟨gi, 1, none⟩ = some (.int .i64 a1) := (blk_cell BI.out 1).trans rfl
      have hz_gi_2 : W112.cell? ⟨gi, 2, none⟩ = some (.int .i64 P) := (blk_cell BI.out 2).trans rfl
      have hz_gi_3 : W112.cell? ⟨gi, 3, none⟩ = some (.int .i64 D) := (blk_cell BI.out 3).trans rfl
      have hz_gi_4 : W112.cell? ⟨gi, 4, none⟩ = some (.slice (some ⟨gs, 0, none⟩) nn.toNat co) := (blk_cell BI.out 4).trans rfl
      have hz_gp_0 : W112.cell? ⟨gp, 0, none⟩ = some (.int .i64 e.f0) := (blk_cell BP.out 0).trans rfl
      have hz_gp_1 : W112.cell? ⟨gp, 1, none⟩ = some (.int .i64 e.f1) := (blk_cell BP.out 1).trans rfl
      have hz_gp_2 : W112.cell? ⟨gp, 2, none⟩ = some (.int .i64 e.f2) := (blk_cell BP.out 2).trans rfl
      have hz_gp_3 : W112.cell? ⟨gp, 3, none⟩ = some (.int .i64 e.f3) := (blk_cell BP.out 3).trans rfl
      have hz_gp_4 : W112.cell? ⟨gp, 4, none⟩ = some (.int .i64 e.f4) := (blk_cell BP.out 4).trans rfl
      have hz_gp_5 : W112.cell? ⟨gp, 5, none⟩ = some (.int .i64 e.f5) := (blk_cell BP.out 5).trans rfl
      have hz_gx_0 : W112.cell? ⟨gx, 0, none⟩ = some (.int .i64 x.f0) := (blk_cell BX.out 0).trans rfl
      have hz_gx_1 : W112.cell? ⟨gx, 1, none⟩ = some (.int .i64 x.f1) := (blk_cell BX.out 1).trans rfl
      have hz_gx_2 : W112.cell? ⟨gx, 2, none⟩ = some (.int .i64 x.f2) := (blk_cell BX.out 2).trans rfl
      have hz_gx_3 : W112.cell? ⟨gx, 3, none⟩ = some (.int .i64 x.f3) := (blk_cell BX.out 3).trans rfl
      have hz_gx_4 : W112.cell? ⟨gx, 4, none⟩ = some (.slice A3 x.f4.length c3) := (blk_cell BX.out 4).trans rfl
      have H := HH.out
      clear HH
      by_cases f0 : tb = true
      rotate_left
      · rw [if_neg f0] at H
        replace f0 := Bool.eq_false_iff.mpr f0
        subst f0
        simp only [Option.some.injEq, Prod.mk.injEq] at H
        obtain ⟨rfl, rfl, rfl, rfl, rfl⟩ := H
        go_wp2_with (first | ((with_reducible refine gate_callee (f := 92) rfl ?_); refine goesL_ (some 69) rfl rfl Try.func92 (by kernel_rfl) rfl #[.agg #[.int .i64 x.f0, .int .i64 x.f1, .int .i64 x.f2, .int .i64 x.f3, .slice A3 x.f4.length c3]] rfl (by (try simp only [List.map_toArray, List.map_cons, List.map_nil]); first | done | rfl) ?_; (with_reducible refine (impl_GoodImage.calls k0 x.f0 x.f1 x.f2 x.f3 _ _ x.f4 _ _ ?side1 ?side2 A6.out).mono ?_); (case side1 => exact Kd.C_below HI.out HB.out); (case side2 => exact HL3.out); rintro e_ W213 ⟨rfl, hb⟩; refine ⟨_, rfl, ?_⟩; have n_HT := Aside0.mk (Kd.R_below HT.out hb); have n_HS := Aside0.mk (Kd.R_below HS.out hb); have n_BR := Aside0.mk (blk_below BR.out hb); have n_BI := Aside0.mk (blk_below BI.out hb); have n_BP := Aside0.mk (blk_below BP.out hb); have n_BX := Aside0.mk (blk_below BX.out hb); have n_HB := Aside0.mk (below_step HB.out hb); clear HT HS BR BI BP BX HB; have HT := n_HT; have HS := n_HS; have BR := n_BR; have BI := n_BI; have BP := n_BP; have BX := n_BX; have HB := n_HB; clear n_HT n_HS n_BR n_BI n_BP n_BX n_HB; clear hb; clear hz_gi_0 hz_gi_1 hz_gi_2 hz_gi_3 hz_gi_4 hz_gp_0 hz_gp_1 hz_gp_2 hz_gp_3 hz_gp_4 hz_gp_5 hz_gx_0 hz_gx_1 hz_gx_2 hz_gx_3 hz_gx_4; have hz_gi_0 : W213.cell? ⟨gi, 0, none⟩ = some (.int .i64 a0) := (blk_cell BI.out 0).trans rfl; have hz_gi_1 : W213.cell? ⟨gi, 1, none⟩ = some (.int .i64 a1) := (blk_cell BI.out 1).trans rfl; have hz_gi_2 : W213.cell? ⟨gi, 2, none⟩ = some (.int .i64 P) := (blk_cell BI.out 2).trans rfl; have hz_gi_3 : W213.cell? ⟨gi, 3, none⟩ = some (.int .i64 D) := (blk_cell BI.out 3).trans rfl; have hz_gi_4 : W213.cell? ⟨gi, 4, none⟩ = some (.slice (some ⟨gs, 0, none⟩) nn.toNat co) := (blk_cell BI.out 4).trans rfl; have hz_gp_0 : W213.cell? ⟨gp, 0, none⟩ = some (.int .i64 e.f0) := (blk_cell BP.out 0).trans rfl; have hz_gp_1 : W213.cell? ⟨gp, 1, none⟩ = some (.int .i64 e.f1) := (blk_cell BP.out 1).trans rfl; have hz_gp_2 : W213.cell? ⟨gp, 2, none⟩ = some (.int .i64 e.f2) := (blk_cell BP.out 2).trans rfl; have hz_gp_3 : W213.cell? ⟨gp, 3, none⟩ = some (.int .i64 e.f3) := (blk_cell BP.out 3).trans rfl; have hz_gp_4 : W213.cell? ⟨gp, 4, none⟩ = some (.int .i64 e.f4) := (blk_cell BP.out 4).trans rfl; have hz_gp_5 : W213.cell? ⟨gp, 5, none⟩ = some (.int .i64 e.f5) := (blk_cell BP.out 5).trans rfl; have hz_gx_0 : W213.cell? ⟨gx, 0, none⟩ = some (.int .i64 x.f0) := (blk_cell BX.out 0).trans rfl; have hz_gx_1 : W213.cell? ⟨gx, 1, none⟩ = some (.int .i64 x.f1) := (blk_cell BX.out 1).trans rfl; have hz_gx_2 : W213.cell? ⟨gx, 2, none⟩ = some (.int .i64 x.f2) := (blk_cell BX.out 2).trans rfl; have hz_gx_3 : W213.cell? ⟨gx, 3, none⟩ = some (.int .i64 x.f3) := (blk_cell BX.out 3).trans rfl; have hz_gx_4 : W213.cell? ⟨gx, 4, none⟩ = some (.slice A3 x.f4.length c3) := (blk_cell BX.out 4).trans rfl) | ((with_reducible refine gate_store (t := 35) (p := 6) (v := .tmp 99) rfl ?_); refine put_all rfl 35 (.tmp 6) (.tmp 99) rfl rfl gr #[.int .i64 0, .int .i64 0, .int .i64 0, .int .i64 0, .slice none 0 0] 35 (.agg #[.int .i64 0, .int .i64 0, .int .i64 0, .int .i64 0, .slice none 0 0]) [.int .i64 0, .int .i64 0, .int .i64 0, .int .i64 0, .slice none 0 0] rfl rfl rfl (by simp [Value.oneCell']) (by kernel_rfl) BR.out rfl ?_; intro W314 h1 hk hbb; have n_HT := Aside0.mk (Kd.R_mono (Kd.R_kept (Kd.R_types HT.out BR.out (by decide)) hk (fun k_ ho_ hs_ => ho_.2 hs_)) (fun _ h_ => h_.1)); have n_HS := Aside0.mk (Kd.R_mono (Kd.R_kept (Kd.R_types HS.out BR.out (by decide)) hk (fun k_ ho_ hs_ => ho_.2 hs_)) (fun _ h_ => h_.1)); have n_BI := Aside0.mk (blk_kept BI.out hk (Ne.symm NE_gr_gi.out)); have n_BP := Aside0.mk (blk_kept BP.out hk (Ne.symm NE_gr_gp.out)); have n_BX := Aside0.mk (blk_kept BX.out hk (Ne.symm NE_gr_gx.out)); have n_HB := Aside0.mk (hbb _ _ HB.out GEgr.out); clear HT HS BI BP BX HB; have HT := n_HT; have HS := n_HS; have BI := n_BI; have BP := n_BP; have BX := n_BX; have HB := n_HB; clear n_HT n_HS n_BI n_BP n_BX n_HB; clear BR; have BR := Aside0.mk (show W314.heap[gr]? = some (.cells #[.int .i64 0, .int .i64 0, .int .i64 0, .int .i64 0, .slice none 0 0] 35 (0, 0)) from h1); clear h1 hk hbb))
        refine bodyPost_ret (results_cell_row rfl _ _ gr 35 #[.int .i64 0, .int .i64 0, .int .i64 0, .int .i64 0, .slice none 0 0] (0, 0) _ rfl BR.out Try.underlying35 rfl (by kernel_rfl)) rfl ?_
        exact ⟨_, rfl, Kd.R_nil _ _ _ _ _, HB.out⟩
      rw [if_pos f0] at H
      subst f0
      by_cases f1 : x.f0 = e.f4
      rotate_left
      · rw [if_neg f1] at H
        have f1b := bne_iff_ne.mpr f1
        clear f1
        simp only [Option.some.injEq, Prod.mk.injEq] at H
        obtain ⟨rfl, rfl, rfl, rfl, rfl⟩ := H
        go_wp2_with (first | ((with_reducible refine gate_callee (f := 92) rfl ?_); refine goesL_ (some 69) rfl rfl Try.func92 (by kernel_rfl) rfl #[.agg #[.int .i64 x.f0, .int .i64 x.f1, .int .i64 x.f2, .int .i64 x.f3, .slice A3 x.f4.length c3]] rfl (by (try simp only [List.map_toArray, List.map_cons, List.map_nil]); first | done | rfl) ?_; (with_reducible refine (impl_GoodImage.calls k0 x.f0 x.f1 x.f2 x.f3 _ _ x.f4 _ _ ?side1 ?side2 A6.out).mono ?_); (case side1 => exact Kd.C_below HI.out HB.out); (case side2 => exact HL3.out); rintro e_ W213 ⟨rfl, hb⟩; refine ⟨_, rfl, ?_⟩; have n_HT := Aside0.mk (Kd.R_below HT.out hb); have n_HS := Aside0.mk (Kd.R_below HS.out hb); have n_BR := Aside0.mk (blk_below BR.out hb); have n_BI := Aside0.mk (blk_below BI.out hb); have n_BP := Aside0.mk (blk_below BP.out hb); have n_BX := Aside0.mk (blk_below BX.out hb); have n_HB := Aside0.mk (below_step HB.out hb); clear HT HS BR BI BP BX HB; have HT := n_HT; have HS := n_HS; have BR := n_BR; have BI := n_BI; have BP := n_BP; have BX := n_BX; have HB := n_HB; clear n_HT n_HS n_BR n_BI n_BP n_BX n_HB; clear hb; clear hz_gi_0 hz_gi_1 hz_gi_2 hz_gi_3 hz_gi_4 hz_gp_0 hz_gp_1 hz_gp_2 hz_gp_3 hz_gp_4 hz_gp_5 hz_gx_0 hz_gx_1 hz_gx_2 hz_gx_3 hz_gx_4; have hz_gi_0 : W213.cell? ⟨gi, 0, none⟩ = some (.int .i64 a0) := (blk_cell BI.out 0).trans rfl; have hz_gi_1 : W213.cell? ⟨gi, 1, none⟩ = some (.int .i64 a1) := (blk_cell BI.out 1).trans rfl; have hz_gi_2 : W213.cell? ⟨gi, 2, none⟩ = some (.int .i64 P) := (blk_cell BI.out 2).trans rfl; have hz_gi_3 : W213.cell? ⟨gi, 3, none⟩ = some (.int .i64 D) := (blk_cell BI.out 3).trans rfl; have hz_gi_4 : W213.cell? ⟨gi, 4, none⟩ = some (.slice (some ⟨gs, 0, none⟩) nn.toNat co) := (blk_cell BI.out 4).trans rfl; have hz_gp_0 : W213.cell? ⟨gp, 0, none⟩ = some (.int .i64 e.f0) := (blk_cell BP.out 0).trans rfl; have hz_gp_1 : W213.cell? ⟨gp, 1, none⟩ = some (.int .i64 e.f1) := (blk_cell BP.out 1).trans rfl; have hz_gp_2 : W213.cell? ⟨gp, 2, none⟩ = some (.int .i64 e.f2) := (blk_cell BP.out 2).trans rfl; have hz_gp_3 : W213.cell? ⟨gp, 3, none⟩ = some (.int .i64 e.f3) := (blk_cell BP.out 3).trans rfl; have hz_gp_4 : W213.cell? ⟨gp, 4, none⟩ = some (.int .i64 e.f4) := (blk_cell BP.out 4).trans rfl; have hz_gp_5 : W213.cell? ⟨gp, 5, none⟩ = some (.int .i64 e.f5) := (blk_cell BP.out 5).trans rfl; have hz_gx_0 : W213.cell? ⟨gx, 0, none⟩ = some (.int .i64 x.f0) := (blk_cell BX.out 0).trans rfl; have hz_gx_1 : W213.cell? ⟨gx, 1, none⟩ = some (.int .i64 x.f1) := (blk_cell BX.out 1).trans rfl; have hz_gx_2 : W213.cell? ⟨gx, 2, none⟩ = some (.int .i64 x.f2) := (blk_cell BX.out 2).trans rfl; have hz_gx_3 : W213.cell? ⟨gx, 3, none⟩ = some (.int .i64 x.f3) := (blk_cell BX.out 3).trans rfl; have hz_gx_4 : W213.cell? ⟨gx, 4, none⟩ = some (.slice A3 x.f4.length c3) := (blk_cell BX.out 4).trans rfl) | ((with_reducible refine gate_store (t := 35) (p := 6) (v := .tmp 99) rfl ?_); refine put_all rfl 35 (.tmp 6) (.tmp 99) rfl rfl gr #[.int .i64 0, .int .i64 0, .int .i64 0, .int .i64 0, .slice none 0 0] 35 (.agg #[.int .i64 0, .int .i64 0, .int .i64 0, .int .i64 0, .slice none 0 0]) [.int .i64 0, .int .i64 0, .int .i64 0, .int .i64 0, .slice none 0 0] rfl rfl rfl (by simp [Value.oneCell']) (by kernel_rfl) BR.out rfl ?_; intro W314 h1 hk hbb; have n_HT := Aside0.mk (Kd.R_mono (Kd.R_kept (Kd.R_types HT.out BR.out (by decide)) hk (fun k_ ho_ hs_ => ho_.2 hs_)) (fun _ h_ => h_.1)); have n_HS := Aside0.mk (Kd.R_mono (Kd.R_kept (Kd.R_types HS.out BR.out (by decide)) hk (fun k_ ho_ hs_ => ho_.2 hs_)) (fun _ h_ => h_.1)); have n_BI := Aside0.mk (blk_kept BI.out hk (Ne.symm NE_gr_gi.out)); have n_BP := Aside0.mk (blk_kept BP.out hk (Ne.symm NE_gr_gp.out)); have n_BX := Aside0.mk (blk_kept BX.out hk (Ne.symm NE_gr_gx.out)); have n_HB := Aside0.mk (hbb _ _ HB.out GEgr.out); clear HT HS BI BP BX HB; have HT := n_HT; have HS := n_HS; have BI := n_BI; have BP := n_BP; have BX := n_BX; have HB := n_HB; clear n_HT n_HS n_BI n_BP n_BX n_HB; clear BR; have BR := Aside0.mk (show W314.heap[gr]? = some (.cells #[.int .i64 0, .int .i64 0, .int .i64 0, .int .i64 0, .slice none 0 0] 35 (0, 0)) from h1); clear h1 hk hbb))
        refine bodyPost_ret (results_cell_row rfl _ _ gr 35 #[.int .i64 0, .int .i64 0, .int .i64 0, .int .i64 0, .slice none 0 0] (0, 0) _ rfl BR.out Try.underlying35 rfl (by kernel_rfl)) rfl ?_
        exact ⟨_, rfl, Kd.R_nil _ _ _ _ _, HB.out⟩
      rw [if_pos f1] at H
      have f1b := bne_eq_false_iff_eq.mpr f1
      clear f1
      by_cases f2 : x.f1 = e.f5
      rotate_left
      · rw [if_neg f2] at H
        have f2b := bne_iff_ne.mpr f2
        clear f2
        simp only [Option.some.injEq, Prod.mk.injEq] at H
        obtain ⟨rfl, rfl, rfl, rfl, rfl⟩ := H
        go_wp2_with (first | ((with_reducible refine gate_callee (f := 92) rfl ?_); refine goesL_ (some 69) rfl rfl Try.func92 (by kernel_rfl) rfl #[.agg #[.int .i64 x.f0, .int .i64 x.f1, .int .i64 x.f2, .int .i64 x.f3, .slice A3 x.f4.length c3]] rfl (by (try simp only [List.map_toArray, List.map_cons, List.map_nil]); first | done | rfl) ?_; (with_reducible refine (impl_GoodImage.calls k0 x.f0 x.f1 x.f2 x.f3 _ _ x.f4 _ _ ?side1 ?side2 A6.out).mono ?_); (case side1 => exact Kd.C_below HI.out HB.out); (case side2 => exact HL3.out); rintro e_ W213 ⟨rfl, hb⟩; refine ⟨_, rfl, ?_⟩; have n_HT := Aside0.mk (Kd.R_below HT.out hb); have n_HS := Aside0.mk (Kd.R_below HS.out hb); have n_BR := Aside0.mk (blk_below BR.out hb); have n_BI := Aside0.mk (blk_below BI.out hb); have n_BP := Aside0.mk (blk_below BP.out hb); have n_BX := Aside0.mk (blk_below BX.out hb); have n_HB := Aside0.mk (below_step HB.out hb); clear HT HS BR BI BP BX HB; have HT := n_HT; have HS := n_HS; have BR := n_BR; have BI := n_BI; have BP := n_BP; have BX := n_BX; have HB := n_HB; clear n_HT n_HS n_BR n_BI n_BP n_BX n_HB; clear hb; clear hz_gi_0 hz_gi_1 hz_gi_2 hz_gi_3 hz_gi_4 hz_gp_0 hz_gp_1 hz_gp_2 hz_gp_3 hz_gp_4 hz_gp_5 hz_gx_0 hz_gx_1 hz_gx_2 hz_gx_3 hz_gx_4; have hz_gi_0 : W213.cell? ⟨gi, 0, none⟩ = some (.int .i64 a0) := (blk_cell BI.out 0).trans rfl; have hz_gi_1 : W213.cell? ⟨gi, 1, none⟩ = some (.int .i64 a1) := (blk_cell BI.out 1).trans rfl; have hz_gi_2 : W213.cell? ⟨gi, 2, none⟩ = some (.int .i64 P) := (blk_cell BI.out 2).trans rfl; have hz_gi_3 : W213.cell? ⟨gi, 3, none⟩ = some (.int .i64 D) := (blk_cell BI.out 3).trans rfl; have hz_gi_4 : W213.cell? ⟨gi, 4, none⟩ = some (.slice (some ⟨gs, 0, none⟩) nn.toNat co) := (blk_cell BI.out 4).trans rfl; have hz_gp_0 : W213.cell? ⟨gp, 0, none⟩ = some (.int .i64 e.f0) := (blk_cell BP.out 0).trans rfl; have hz_gp_1 : W213.cell? ⟨gp, 1, none⟩ = some (.int .i64 e.f1) := (blk_cell BP.out 1).trans rfl; have hz_gp_2 : W213.cell? ⟨gp, 2, none⟩ = some (.int .i64 e.f2) := (blk_cell BP.out 2).trans rfl; have hz_gp_3 : W213.cell? ⟨gp, 3, none⟩ = some (.int .i64 e.f3) := (blk_cell BP.out 3).trans rfl; have hz_gp_4 : W213.cell? ⟨gp, 4, none⟩ = some (.int .i64 e.f4) := (blk_cell BP.out 4).trans rfl; have hz_gp_5 : W213.cell? ⟨gp, 5, none⟩ = some (.int .i64 e.f5) := (blk_cell BP.out 5).trans rfl; have hz_gx_0 : W213.cell? ⟨gx, 0, none⟩ = some (.int .i64 x.f0) := (blk_cell BX.out 0).trans rfl; have hz_gx_1 : W213.cell? ⟨gx, 1, none⟩ = some (.int .i64 x.f1) := (blk_cell BX.out 1).trans rfl; have hz_gx_2 : W213.cell? ⟨gx, 2, none⟩ = some (.int .i64 x.f2) := (blk_cell BX.out 2).trans rfl; have hz_gx_3 : W213.cell? ⟨gx, 3, none⟩ = some (.int .i64 x.f3) := (blk_cell BX.out 3).trans rfl; have hz_gx_4 : W213.cell? ⟨gx, 4, none⟩ = some (.slice A3 x.f4.length c3) := (blk_cell BX.out 4).trans rfl) | ((with_reducible refine gate_store (t := 35) (p := 6) (v := .tmp 99) rfl ?_); refine put_all rfl 35 (.tmp 6) (.tmp 99) rfl rfl gr #[.int .i64 0, .int .i64 0, .int .i64 0, .int .i64 0, .slice none 0 0] 35 (.agg #[.int .i64 0, .int .i64 0, .int .i64 0, .int .i64 0, .slice none 0 0]) [.int .i64 0, .int .i64 0, .int .i64 0, .int .i64 0, .slice none 0 0] rfl rfl rfl (by simp [Value.oneCell']) (by kernel_rfl) BR.out rfl ?_; intro W314 h1 hk hbb; have n_HT := Aside0.mk (Kd.R_mono (Kd.R_kept (Kd.R_types HT.out BR.out (by decide)) hk (fun k_ ho_ hs_ => ho_.2 hs_)) (fun _ h_ => h_.1)); have n_HS := Aside0.mk (Kd.R_mono (Kd.R_kept (Kd.R_types HS.out BR.out (by decide)) hk (fun k_ ho_ hs_ => ho_.2 hs_)) (fun _ h_ => h_.1)); have n_BI := Aside0.mk (blk_kept BI.out hk (Ne.symm NE_gr_gi.out)); have n_BP := Aside0.mk (blk_kept BP.out hk (Ne.symm NE_gr_gp.out)); have n_BX := Aside0.mk (blk_kept BX.out hk (Ne.symm NE_gr_gx.out)); have n_HB := Aside0.mk (hbb _ _ HB.out GEgr.out); clear HT HS BI BP BX HB; have HT := n_HT; have HS := n_HS; have BI := n_BI; have BP := n_BP; have BX := n_BX; have HB := n_HB; clear n_HT n_HS n_BI n_BP n_BX n_HB; clear BR; have BR := Aside0.mk (show W314.heap[gr]? = some (.cells #[.int .i64 0, .int .i64 0, .int .i64 0, .int .i64 0, .slice none 0 0] 35 (0, 0)) from h1); clear h1 hk hbb))
        refine bodyPost_ret (results_cell_row rfl _ _ gr 35 #[.int .i64 0, .int .i64 0, .int .i64 0, .int .i64 0, .slice none 0 0] (0, 0) _ rfl BR.out Try.underlying35 rfl (by kernel_rfl)) rfl ?_
        exact ⟨_, rfl, Kd.R_nil _ _ _ _ _, HB.out⟩
      rw [if_pos f2] at H
      have f2b := bne_eq_false_iff_eq.mpr f2
      clear f2
      by_cases f3 : x.f2 = P
      rotate_left
      · rw [if_neg f3] at H
        have f3b := bne_iff_ne.mpr f3
        clear f3
        simp only [Option.some.injEq, Prod.mk.injEq] at H
        obtain ⟨rfl, rfl, rfl, rfl, rfl⟩ := H
        go_wp2_with (first | ((with_reducible refine gate_callee (f := 92) rfl ?_); refine goesL_ (some 69) rfl rfl Try.func92 (by kernel_rfl) rfl #[.agg #[.int .i64 x.f0, .int .i64 x.f1, .int .i64 x.f2, .int .i64 x.f3, .slice A3 x.f4.length c3]] rfl (by (try simp only [List.map_toArray, List.map_cons, List.map_nil]); first | done | rfl) ?_; (with_reducible refine (impl_GoodImage.calls k0 x.f0 x.f1 x.f2 x.f3 _ _ x.f4 _ _ ?side1 ?side2 A6.out).mono ?_); (case side1 => exact Kd.C_below HI.out HB.out); (case side2 => exact HL3.out); rintro e_ W213 ⟨rfl, hb⟩; refine ⟨_, rfl, ?_⟩; have n_HT := Aside0.mk (Kd.R_below HT.out hb); have n_HS := Aside0.mk (Kd.R_below HS.out hb); have n_BR := Aside0.mk (blk_below BR.out hb); have n_BI := Aside0.mk (blk_below BI.out hb); have n_BP := Aside0.mk (blk_below BP.out hb); have n_BX := Aside0.mk (blk_below BX.out hb); have n_HB := Aside0.mk (below_step HB.out hb); clear HT HS BR BI BP BX HB; have HT := n_HT; have HS := n_HS; have BR := n_BR; have BI := n_BI; have BP := n_BP; have BX := n_BX; have HB := n_HB; clear n_HT n_HS n_BR n_BI n_BP n_BX n_HB; clear hb; clear hz_gi_0 hz_gi_1 hz_gi_2 hz_gi_3 hz_gi_4 hz_gp_0 hz_gp_1 hz_gp_2 hz_gp_3 hz_gp_4 hz_gp_5 hz_gx_0 hz_gx_1 hz_gx_2 hz_gx_3 hz_gx_4; have hz_gi_0 : W213.cell? ⟨gi, 0, none⟩ = some (.int .i64 a0) := (blk_cell BI.out 0).trans rfl; have hz_gi_1 : W213.cell? ⟨gi, 1, none⟩ = some (.int .i64 a1) := (blk_cell BI.out 1).trans rfl; have hz_gi_2 : W213.cell? ⟨gi, 2, none⟩ = some (.int .i64 P) := (blk_cell BI.out 2).trans rfl; have hz_gi_3 : W213.cell? ⟨gi, 3, none⟩ = some (.int .i64 D) := (blk_cell BI.out 3).trans rfl; have hz_gi_4 : W213.cell? ⟨gi, 4, none⟩ = some (.slice (some ⟨gs, 0, none⟩) nn.toNat co) := (blk_cell BI.out 4).trans rfl; have hz_gp_0 : W213.cell? ⟨gp, 0, none⟩ = some (.int .i64 e.f0) := (blk_cell BP.out 0).trans rfl; have hz_gp_1 : W213.cell? ⟨gp, 1, none⟩ = some (.int .i64 e.f1) := (blk_cell BP.out 1).trans rfl; have hz_gp_2 : W213.cell? ⟨gp, 2, none⟩ = some (.int .i64 e.f2) := (blk_cell BP.out 2).trans rfl; have hz_gp_3 : W213.cell? ⟨gp, 3, none⟩ = some (.int .i64 e.f3) := (blk_cell BP.out 3).trans rfl; have hz_gp_4 : W213.cell? ⟨gp, 4, none⟩ = some (.int .i64 e.f4) := (blk_cell BP.out 4).trans rfl; have hz_gp_5 : W213.cell? ⟨gp, 5, none⟩ = some (.int .i64 e.f5) := (blk_cell BP.out 5).trans rfl; have hz_gx_0 : W213.cell? ⟨gx, 0, none⟩ = some (.int .i64 x.f0) := (blk_cell BX.out 0).trans rfl; have hz_gx_1 : W213.cell? ⟨gx, 1, none⟩ = some (.int .i64 x.f1) := (blk_cell BX.out 1).trans rfl; have hz_gx_2 : W213.cell? ⟨gx, 2, none⟩ = some (.int .i64 x.f2) := (blk_cell BX.out 2).trans rfl; have hz_gx_3 : W213.cell? ⟨gx, 3, none⟩ = some (.int .i64 x.f3) := (blk_cell BX.out 3).trans rfl; have hz_gx_4 : W213.cell? ⟨gx, 4, none⟩ = some (.slice A3 x.f4.length c3) := (blk_cell BX.out 4).trans rfl) | ((with_reducible refine gate_store (t := 35) (p := 6) (v := .tmp 99) rfl ?_); refine put_all rfl 35 (.tmp 6) (.tmp 99) rfl rfl gr #[.int .i64 0, .int .i64 0, .int .i64 0, .int .i64 0, .slice none 0 0] 35 (.agg #[.int .i64 0, .int .i64 0, .int .i64 0, .int .i64 0, .slice none 0 0]) [.int .i64 0, .int .i64 0, .int .i64 0, .int .i64 0, .slice none 0 0] rfl rfl rfl (by simp [Value.oneCell']) (by kernel_rfl) BR.out rfl ?_; intro W314 h1 hk hbb; have n_HT := Aside0.mk (Kd.R_mono (Kd.R_kept (Kd.R_types HT.out BR.out (by decide)) hk (fun k_ ho_ hs_ => ho_.2 hs_)) (fun _ h_ => h_.1)); have n_HS := Aside0.mk (Kd.R_mono (Kd.R_kept (Kd.R_types HS.out BR.out (by decide)) hk (fun k_ ho_ hs_ => ho_.2 hs_)) (fun _ h_ => h_.1)); have n_BI := Aside0.mk (blk_kept BI.out hk (Ne.symm NE_gr_gi.out)); have n_BP := Aside0.mk (blk_kept BP.out hk (Ne.symm NE_gr_gp.out)); have n_BX := Aside0.mk (blk_kept BX.out hk (Ne.symm NE_gr_gx.out)); have n_HB := Aside0.mk (hbb _ _ HB.out GEgr.out); clear HT HS BI BP BX HB; have HT := n_HT; have HS := n_HS; have BI := n_BI; have BP := n_BP; have BX := n_BX; have HB := n_HB; clear n_HT n_HS n_BI n_BP n_BX n_HB; clear BR; have BR := Aside0.mk (show W314.heap[gr]? = some (.cells #[.int .i64 0, .int .i64 0, .int .i64 0, .int .i64 0, .slice none 0 0] 35 (0, 0)) from h1); clear h1 hk hbb))
        refine bodyPost_ret (results_cell_row rfl _ _ gr 35 #[.int .i64 0, .int .i64 0, .int .i64 0, .int .i64 0, .slice none 0 0] (0, 0) _ rfl BR.out Try.underlying35 rfl (by kernel_rfl)) rfl ?_
        exact ⟨_, rfl, Kd.R_nil _ _ _ _ _, HB.out⟩
      rw [if_pos f3] at H
      have f3b := bne_eq_false_iff_eq.mpr f3
      clear f3
      by_cases f4 : x.f3 = D
      rotate_left
      · rw [if_neg f4] at H
        have f4b := bne_iff_ne.mpr f4
        clear f4
        simp only [Option.some.injEq, Prod.mk.injEq] at H
        obtain ⟨rfl, rfl, rfl, rfl, rfl⟩ := H
        go_wp2_with (first | ((with_reducible refine gate_callee (f := 92) rfl ?_); refine goesL_ (some 69) rfl rfl Try.func92 (by kernel_rfl) rfl #[.agg #[.int .i64 x.f0, .int .i64 x.f1, .int .i64 x.f2, .int .i64 x.f3, .slice A3 x.f4.length c3]] rfl (by (try simp only [List.map_toArray, List.map_cons, List.map_nil]); first | done | rfl) ?_; (with_reducible refine (impl_GoodImage.calls k0 x.f0 x.f1 x.f2 x.f3 _ _ x.f4 _ _ ?side1 ?side2 A6.out).mono ?_); (case side1 => exact Kd.C_below HI.out HB.out); (case side2 => exact HL3.out); rintro e_ W213 ⟨rfl, hb⟩; refine ⟨_, rfl, ?_⟩; have n_HT := Aside0.mk (Kd.R_below HT.out hb); have n_HS := Aside0.mk (Kd.R_below HS.out hb); have n_BR := Aside0.mk (blk_below BR.out hb); have n_BI := Aside0.mk (blk_below BI.out hb); have n_BP := Aside0.mk (blk_below BP.out hb); have n_BX := Aside0.mk (blk_below BX.out hb); have n_HB := Aside0.mk (below_step HB.out hb); clear HT HS BR BI BP BX HB; have HT := n_HT; have HS := n_HS; have BR := n_BR; have BI := n_BI; have BP := n_BP; have BX := n_BX; have HB := n_HB; clear n_HT n_HS n_BR n_BI n_BP n_BX n_HB; clear hb; clear hz_gi_0 hz_gi_1 hz_gi_2 hz_gi_3 hz_gi_4 hz_gp_0 hz_gp_1 hz_gp_2 hz_gp_3 hz_gp_4 hz_gp_5 hz_gx_0 hz_gx_1 hz_gx_2 hz_gx_3 hz_gx_4; have hz_gi_0 : W213.cell? ⟨gi, 0, none⟩ = some (.int .i64 a0) := (blk_cell BI.out 0).trans rfl; have hz_gi_1 : W213.cell? ⟨gi, 1, none⟩ = some (.int .i64 a1) := (blk_cell BI.out 1).trans rfl; have hz_gi_2 : W213.cell? ⟨gi, 2, none⟩ = some (.int .i64 P) := (blk_cell BI.out 2).trans rfl; have hz_gi_3 : W213.cell? ⟨gi, 3, none⟩ = some (.int .i64 D) := (blk_cell BI.out 3).trans rfl; have hz_gi_4 : W213.cell? ⟨gi, 4, none⟩ = some (.slice (some ⟨gs, 0, none⟩) nn.toNat co) := (blk_cell BI.out 4).trans rfl; have hz_gp_0 : W213.cell? ⟨gp, 0, none⟩ = some (.int .i64 e.f0) := (blk_cell BP.out 0).trans rfl; have hz_gp_1 : W213.cell? ⟨gp, 1, none⟩ = some (.int .i64 e.f1) := (blk_cell BP.out 1).trans rfl; have hz_gp_2 : W213.cell? ⟨gp, 2, none⟩ = some (.int .i64 e.f2) := (blk_cell BP.out 2).trans rfl; have hz_gp_3 : W213.cell? ⟨gp, 3, none⟩ = some (.int .i64 e.f3) := (blk_cell BP.out 3).trans rfl; have hz_gp_4 : W213.cell? ⟨gp, 4, none⟩ = some (.int .i64 e.f4) := (blk_cell BP.out 4).trans rfl; have hz_gp_5 : W213.cell? ⟨gp, 5, none⟩ = some (.int .i64 e.f5) := (blk_cell BP.out 5).trans rfl; have hz_gx_0 : W213.cell? ⟨gx, 0, none⟩ = some (.int .i64 x.f0) := (blk_cell BX.out 0).trans rfl; have hz_gx_1 : W213.cell? ⟨gx, 1, none⟩ = some (.int .i64 x.f1) := (blk_cell BX.out 1).trans rfl; have hz_gx_2 : W213.cell? ⟨gx, 2, none⟩ = some (.int .i64 x.f2) := (blk_cell BX.out 2).trans rfl; have hz_gx_3 : W213.cell? ⟨gx, 3, none⟩ = some (.int .i64 x.f3) := (blk_cell BX.out 3).trans rfl; have hz_gx_4 : W213.cell? ⟨gx, 4, none⟩ = some (.slice A3 x.f4.length c3) := (blk_cell BX.out 4).trans rfl) | ((with_reducible refine gate_store (t := 35) (p := 6) (v := .tmp 99) rfl ?_); refine put_all rfl 35 (.tmp 6) (.tmp 99) rfl rfl gr #[.int .i64 0, .int .i64 0, .int .i64 0, .int .i64 0, .slice none 0 0] 35 (.agg #[.int .i64 0, .int .i64 0, .int .i64 0, .int .i64 0, .slice none 0 0]) [.int .i64 0, .int .i64 0, .int .i64 0, .int .i64 0, .slice none 0 0] rfl rfl rfl (by simp [Value.oneCell']) (by kernel_rfl) BR.out rfl ?_; intro W314 h1 hk hbb; have n_HT := Aside0.mk (Kd.R_mono (Kd.R_kept (Kd.R_types HT.out BR.out (by decide)) hk (fun k_ ho_ hs_ => ho_.2 hs_)) (fun _ h_ => h_.1)); have n_HS := Aside0.mk (Kd.R_mono (Kd.R_kept (Kd.R_types HS.out BR.out (by decide)) hk (fun k_ ho_ hs_ => ho_.2 hs_)) (fun _ h_ => h_.1)); have n_BI := Aside0.mk (blk_kept BI.out hk (Ne.symm NE_gr_gi.out)); have n_BP := Aside0.mk (blk_kept BP.out hk (Ne.symm NE_gr_gp.out)); have n_BX := Aside0.mk (blk_kept BX.out hk (Ne.symm NE_gr_gx.out)); have n_HB := Aside0.mk (hbb _ _ HB.out GEgr.out); clear HT HS BI BP BX HB; have HT := n_HT; have HS := n_HS; have BI := n_BI; have BP := n_BP; have BX := n_BX; have HB := n_HB; clear n_HT n_HS n_BI n_BP n_BX n_HB; clear BR; have BR := Aside0.mk (show W314.heap[gr]? = some (.cells #[.int .i64 0, .int .i64 0, .int .i64 0, .int .i64 0, .slice none 0 0] 35 (0, 0)) from h1); clear h1 hk hbb))
        refine bodyPost_ret (results_cell_row rfl _ _ gr 35 #[.int .i64 0, .int .i64 0, .int .i64 0, .int .i64 0, .slice none 0 0] (0, 0) _ rfl BR.out Try.underlying35 rfl (by kernel_rfl)) rfl ?_
        exact ⟨_, rfl, Kd.R_nil _ _ _ _ _, HB.out⟩
      rw [if_pos f4] at H
      have f4b := bne_eq_false_iff_eq.mpr f4
      clear f4
      have HL := Aside0.mk H
      clear H
      go_upto_region 14 with (first | ((with_reducible refine gate_callee (f := 92) rfl ?_); refine goesL_ (some 69) rfl rfl Try.func92 (by kernel_rfl) rfl #[.agg #[.int .i64 x.f0, .int .i64 x.f1, .int .i64 x.f2, .int .i64 x.f3, .slice A3 x.f4.length c3]] rfl (by (try simp only [List.map_toArray, List.map_cons, List.map_nil]); first | done | rfl) ?_; (with_reducible refine (impl_GoodImage.calls k0 x.f0 x.f1 x.f2 x.f3 _ _ x.f4 _ _ ?side1 ?side2 A6.out).mono ?_); (case side1 => exact Kd.C_below HI.out HB.out); (case side2 => exact HL3.out); rintro e_ W113 ⟨rfl, hb⟩; refine ⟨_, rfl, ?_⟩; have n_HT := Aside0.mk (Kd.R_below HT.out hb); have n_HS := Aside0.mk (Kd.R_below HS.out hb); have n_BR := Aside0.mk (blk_below BR.out hb); have n_BI := Aside0.mk (blk_below BI.out hb); have n_BP := Aside0.mk (blk_below BP.out hb); have n_BX := Aside0.mk (blk_below BX.out hb); have n_HB := Aside0.mk (below_step HB.out hb); clear HT HS BR BI BP BX HB; have HT := n_HT; have HS := n_HS; have BR := n_BR; have BI := n_BI; have BP := n_BP; have BX := n_BX; have HB := n_HB; clear n_HT n_HS n_BR n_BI n_BP n_BX n_HB; clear hb; clear hz_gi_0 hz_gi_1 hz_gi_2 hz_gi_3 hz_gi_4 hz_gp_0 hz_gp_1 hz_gp_2 hz_gp_3 hz_gp_4 hz_gp_5 hz_gx_0 hz_gx_1 hz_gx_2 hz_gx_3 hz_gx_4; have hz_gi_0 : W113.cell? ⟨gi, 0, none⟩ = some (.int .i64 a0) := (blk_cell BI.out 0).trans rfl; have hz_gi_1 : W113.cell? ⟨gi, 1, none⟩ = some (.int .i64 a1) := (blk_cell BI.out 1).trans rfl; have hz_gi_2 : W113.cell? ⟨gi, 2, none⟩ = some (.int .i64 P) := (blk_cell BI.out 2).trans rfl; have hz_gi_3 : W113.cell? ⟨gi, 3, none⟩ = some (.int .i64 D) := (blk_cell BI.out 3).trans rfl; have hz_gi_4 : W113.cell? ⟨gi, 4, none⟩ = some (.slice (some ⟨gs, 0, none⟩) nn.toNat co) := (blk_cell BI.out 4).trans rfl; have hz_gp_0 : W113.cell? ⟨gp, 0, none⟩ = some (.int .i64 e.f0) := (blk_cell BP.out 0).trans rfl; have hz_gp_1 : W113.cell? ⟨gp, 1, none⟩ = some (.int .i64 e.f1) := (blk_cell BP.out 1).trans rfl; have hz_gp_2 : W113.cell? ⟨gp, 2, none⟩ = some (.int .i64 e.f2) := (blk_cell BP.out 2).trans rfl; have hz_gp_3 : W113.cell? ⟨gp, 3, none⟩ = some (.int .i64 e.f3) := (blk_cell BP.out 3).trans rfl; have hz_gp_4 : W113.cell? ⟨gp, 4, none⟩ = some (.int .i64 e.f4) := (blk_cell BP.out 4).trans rfl; have hz_gp_5 : W113.cell? ⟨gp, 5, none⟩ = some (.int .i64 e.f5) := (blk_cell BP.out 5).trans rfl; have hz_gx_0 : W113.cell? ⟨gx, 0, none⟩ = some (.int .i64 x.f0) := (blk_cell BX.out 0).trans rfl; have hz_gx_1 : W113.cell? ⟨gx, 1, none⟩ = some (.int .i64 x.f1) := (blk_cell BX.out 1).trans rfl; have hz_gx_2 : W113.cell? ⟨gx, 2, none⟩ = some (.int .i64 x.f2) := (blk_cell BX.out 2).trans rfl; have hz_gx_3 : W113.cell? ⟨gx, 3, none⟩ = some (.int .i64 x.f3) := (blk_cell BX.out 3).trans rfl; have hz_gx_4 : W113.cell? ⟨gx, 4, none⟩ = some (.slice A3 x.f4.length c3) := (blk_cell BX.out 4).trans rfl))
      clear f1b f2b f3b f4b
      go_wp2
      clear hz_gi_0 hz_gi_1 hz_gi_2 hz_gi_3 hz_gi_4 hz_gp_0 hz_gp_1 hz_gp_2 hz_gp_3 hz_gp_4 hz_gp_5 hz_gx_0 hz_gx_1 hz_gx_2 hz_gx_3 hz_gx_4
      go_loopg [102] k0 (fun kq v102 w' => ∃ (j : Int) (out : List Int), v102 = .int .i64 j ∧ Aside0 (impl_Merge.l1 kq a0 a1 P D ps l n e x.f4 out j = some (r1, r2, r3, r4, r5)) ∧ Aside0 (kq ≤ k0) ∧ Aside0 (out.length = nn.toNat) ∧ Aside0 (Kd.R k113 113 w' w.heap.size (fun k_ => k_ ≠ gp) (.slice (some ad1) l.length c7) l) ∧ Aside0 (Kd.R (Kd.int .i64) 3 w' w.heap.size (fun _ => True) (.slice (some ⟨gs, 0, none⟩) nn.toNat co) out) ∧ Aside0 (w'.heap[gr]? = some (.cells #[.int .i64 0, .int .i64 0, .int .i64 0, .int .i64 0, .slice none 0 0] 35 (0, 0))) ∧ Aside0 (w'.heap[gi]? = some (.cells #[.int .i64 a0, .int .i64 a1, .int .i64 P, .int .i64 D, .slice (some ⟨gs, 0, none⟩) nn.toNat co] 35 (0, 0))) ∧ Aside0 (w'.heap[gp]? = some (.cells #[.int .i64 e.f0, .int .i64 e.f1, .int .i64 e.f2, .int .i64 e.f3, .int .i64 e.f4, .int .i64 e.f5] 113 (0, 0))) ∧ Aside0 (w'.heap[gx]? = some (.cells #[.int .i64 x.f0, .int .i64 x.f1, .int .i64 x.f2, .int .i64 x.f3, .slice A3 x.f4.length c3] 35 (0, 0))) ∧ Aside0 (Below w.heap.size w w'))
      case atStart => exact ⟨0, out, rfl, HL, ⟨Nat.le_refl _⟩, OL, HT, HS, BR, BI, BP, BX, HB⟩
      case round =>
        clear HL OL HT HS BR BI BP BX HB; try clear out
        obtain ⟨j, out, rfl, HA, HK1, OL, HT, HS, BR, BI, BP, BX, HB⟩ := hrel
        cases gk with
        | zero => exact absurd HA.out (by simp [impl_Merge.l1])
        | succ k1 =>
          have H := HA.out
          clear HA
          simp only [impl_Merge.l1] at H
          by_cases d1 : j < e.f5
          rotate_left
          · rw [if_neg d1] at H
            have d1b := decide_eq_false d1
            clear d1
            have H' := Aside0.mk H
            clear H
            have n_HT := Aside0.mk (Kd.R_mono (ok' := fun _ => True) HT.out (fun _ _ => trivial))
            go_wp2
            go_roundg k1
            case measure => have := HK1.out; have := HK0.out; omega
            case rel => exact ⟨_, out, (by first | rfl | (simp; done) | (simp [*]; done)), H', ⟨by have := HK1.out; have := HK0.out; omega⟩, OL, n_HT, HS, BR, BI, HB⟩
          rw [if_pos d1] at H
          have d1b := decide_eq_true d1
          clear d1
          have HL := Aside0.mk H
          clear H
          have hz_gp_0 : wr.cell? ⟨gp, 0, none⟩ = some (.int .i64 e.f0) := (blk_cell BP.out 0).trans rfl
          have hz_gp_1 : wr.cell? ⟨gp, 1, none⟩ = some (.int .i64 e.f1) := (blk_cell BP.out 1).trans rfl
          have hz_gp_2 : wr.cell? ⟨gp, 2, none⟩ = some (.int .i64 e.f2) := (blk_cell BP.out 2).trans rfl
          have hz_gp_3 : wr.cell? ⟨gp, 3, none⟩ = some (.int .i64 e.f3) := (blk_cell BP.out 3).trans rfl
          have hz_gp_4 : wr.cell? ⟨gp, 4, none⟩ = some (.int .i64 e.f4) := (blk_cell BP.out 4).trans rfl
          have hz_gp_5 : wr.cell? ⟨gp, 5, none⟩ = some (.int .i64 e.f5) := (blk_cell BP.out 5).trans rfl
          go_wp2
          clear hz_gp_0 hz_gp_1 hz_gp_2 hz_gp_3 hz_gp_4 hz_gp_5
          go_loopg [107] k1 (fun kq v107 w' => ∃ (i : Int) (out : List Int), v107 = .int .i64 i ∧ Aside0 (impl_Merge.l2 kq a0 a1 P D ps l n e x.f4 out j i = some (r1, r2, r3, r4, r5)) ∧ Aside0 (kq ≤ k1) ∧ Aside0 (out.length = nn.toNat) ∧ Aside0 (Kd.R k113 113 w' w.heap.size (fun k_ => k_ ≠ gp) (.slice (some ad1) l.length c7) l) ∧ Aside0 (Kd.R (Kd.int .i64) 3 w' w.heap.size (fun _ => True) (.slice (some ⟨gs, 0, none⟩) nn.toNat co) out) ∧ Aside0 (w'.heap[gr]? = some (.cells #[.int .i64 0, .int .i64 0, .int .i64 0, .int .i64 0, .slice none 0 0] 35 (0, 0))) ∧ Aside0 (w'.heap[gi]? = some (.cells #[.int .i64 a0, .int .i64 a1, .int .i64 P, .int .i64 D, .slice (some ⟨gs, 0, none⟩) nn.toNat co] 35 (0, 0))) ∧ Aside0 (w'.heap[gp]? = some (.cells #[.int .i64 e.f0, .int .i64 e.f1, .int .i64 e.f2, .int .i64 e.f3, .int .i64 e.f4, .int .i64 e.f5] 113 (0, 0))) ∧ Aside0 (w'.heap[gx]? = some (.cells #[.int .i64 x.f0, .int .i64 x.f1, .int .i64 x.f2, .int .i64 x.f3, .slice A3 x.f4.length c3] 35 (0, 0))) ∧ Aside0 (Below w.heap.size w w'))
          case atStart => exact ⟨0, out, rfl, HL, ⟨Nat.le_refl _⟩, OL, HT, HS, BR, BI, BP, BX, HB⟩
          case round =>
            clear HL OL HT HS BR BI BP BX HB; try clear out
            obtain ⟨i, out, rfl, HA, HK2, OL, HT, HS, BR, BI, BP, BX, HB⟩ := hrel
            cases gk with
            | zero => exact absurd HA.out (by simp [impl_Merge.l2])
            | succ k2 =>
              have H := HA.out
              clear HA
              simp only [impl_Merge.l2] at H
              by_cases d1 : i < e.f4
              rotate_left
              · rw [if_neg d1] at H
                have d1b := decide_eq_false d1
                clear d1
                have H' := Aside0.mk H
                clear H
                go_wp2
                go_roundg k2
                case measure => have := HK2.out; have := HK1.out; omega
                case rel => exact ⟨_, out, (by first | rfl | (simp; done) | (simp [*]; done)), H', ⟨by have := HK2.out; have := HK1.out; omega⟩, OL, HT, HS, BR, BI, BP, BX, HB⟩
              rw [if_pos d1] at H
              have d1b := decide_eq_true d1
              clear d1
              replace H := Option.bind_eq_some_iff.mp H
              obtain ⟨o2, C0, H⟩ := H
              unfold impl_Merge.cp at C0
              obtain ⟨q, hq⟩ : ∃ q_, wrap64 ((wrap64 ((wrap64 ((wrap64 ((wrap64 (e.f1 + (wrap64 (j * e.f3)))) * a0)) + e.f0)) + (wrap64 (i * e.f2)))) * P) = q_ := ⟨_, rfl⟩
              obtain ⟨s0, hs0⟩ : ∃ s_, wrap64 ((wrap64 ((wrap64 (j * e.f4)) + i)) * P) = s_ := ⟨_, rfl⟩
              rw [hq, hs0] at C0
              have hqw := (i64_w _).symm.symm.trans hq
              have hs0w := (i64_w _).symm.symm.trans hs0
              have hs0v : IntKind.i64.wrap ((IntKind.i64.wrap ((IntKind.i64.wrap (j * e.f4)) + i)) * P) = s0 := by
                simp only [i64_w]
                exact hs0
              by_cases m1 : 1 ≤ P
              rotate_left
              · rw [if_neg m1] at C0
                exact absurd C0 (by simp)
              rw [if_pos m1] at C0
              by_cases m2 : P ≤ 8
              rotate_left
              · rw [if_neg m2] at C0
                exact absurd C0 (by simp)
              rw [if_pos m2] at C0
              by_cases m3 : 0 ≤ q
              rotate_left
              · rw [if_neg m3] at C0
                exact absurd C0 (by simp)
              rw [if_pos m3] at C0
              by_cases m4 : q + P ≤ (out.length : Int)
              rotate_left
              · rw [if_neg m4] at C0
                exact absurd C0 (by simp)
              rw [if_pos m4] at C0
              by_cases m5 : 0 ≤ s0
              rotate_left
              · rw [if_neg m5] at C0
                exact absurd C0 (by simp)
              rw [if_pos m5] at C0
              by_cases m6 : s0 + P ≤ (x.f4.length : Int)
              rotate_left
              · rw [if_neg m6] at C0
                exact absurd C0 (by simp)
              rw [if_pos m6] at C0
              by_cases m7 : out.length ≤ 4194304
              rotate_left
              · rw [if_neg m7] at C0
                exact absurd C0 (by simp)
              rw [if_pos m7] at C0
              obtain rfl := Option.some.inj C0
              clear C0
              have H' := Aside0.mk H
              clear H
              have hz_gi_0 : wr.cell? ⟨gi, 0, none⟩ = some (.int .i64 a0) := (blk_cell BI.out 0).trans rfl
              have hz_gi_1 : wr.cell? ⟨gi, 1, none⟩ = some (.int .i64 a1) := (blk_cell BI.out 1).trans rfl
              have hz_gi_2 : wr.cell? ⟨gi, 2, none⟩ = some (.int .i64 P) := (blk_cell BI.out 2).trans rfl
              have hz_gi_3 : wr.cell? ⟨gi, 3, none⟩ = some (.int .i64 D) := (blk_cell BI.out 3).trans rfl
              have hz_gi_4 : wr.cell? ⟨gi, 4, none⟩ = some (.slice (some ⟨gs, 0, none⟩) nn.toNat co) := (blk_cell BI.out 4).trans rfl
              have hz_gp_0 : wr.cell? ⟨gp, 0, none⟩ = some (.int .i64 e.f0) := (blk_cell BP.out 0).trans rfl
              have hz_gp_1 : wr.cell? ⟨gp, 1, none⟩ = some (.int .i64 e.f1) := (blk_cell BP.out 1).trans rfl
              have hz_gp_2 : wr.cell? ⟨gp, 2, none⟩ = some (.int .i64 e.f2) := (blk_cell BP.out 2).trans rfl
              have hz_gp_3 : wr.cell? ⟨gp, 3, none⟩ = some (.int .i64 e.f3) := (blk_cell BP.out 3).trans rfl
              have hz_gp_4 : wr.cell? ⟨gp, 4, none⟩ = some (.int .i64 e.f4) := (blk_cell BP.out 4).trans rfl
              have hz_gp_5 : wr.cell? ⟨gp, 5, none⟩ = some (.int .i64 e.f5) := (blk_cell BP.out 5).trans rfl
              have hz_gx_0 : wr.cell? ⟨gx, 0, none⟩ = some (.int .i64 x.f0) := (blk_cell BX.out 0).trans rfl
              have hz_gx_1 : wr.cell? ⟨gx, 1, none⟩ = some (.int .i64 x.f1) := (blk_cell BX.out 1).trans rfl
              have hz_gx_2 : wr.cell? ⟨gx, 2, none⟩ = some (.int .i64 x.f2) := (blk_cell BX.out 2).trans rfl
              have hz_gx_3 : wr.cell? ⟨gx, 3, none⟩ = some (.int .i64 x.f3) := (blk_cell BX.out 3).trans rfl
              have hz_gx_4 : wr.cell? ⟨gx, 4, none⟩ = some (.slice A3 x.f4.length c3) := (blk_cell BX.out 4).trans rfl
              go_upto_region 21 with (fail)
              try clear hq hqw
              clear hz_gi_0 hz_gi_1 hz_gi_2 hz_gi_3 hz_gi_4 hz_gp_0 hz_gp_1 hz_gp_2 hz_gp_3 hz_gp_4 hz_gp_5 hz_gx_0 hz_gx_1 hz_gx_2 hz_gx_3 hz_gx_4
              have hw : wrap64 (q + P) = q + P := by unfold wrap64; omega
              have hww : IntKind.i64.wrap (q + P) = q + P := (i64_w _).trans hw
              have hlen : nn.toNat = out.length := OL.out.symm
              have hco := (Kd.R_reads' HS.out).2.1
              obtain ⟨sv1, hsv1⟩ : ∃ v_ : Value, v_ = .slice (if co = q.toNat then some ⟨gs, 0, none⟩ else (some (⟨gs, 0, none⟩ : Addr)).map (·.add (q.toNat * 1))) P.toNat (co - q.toNat) := ⟨_, rfl⟩
              obtain ⟨sv2, hsv2⟩ : ∃ v_ : Value, v_ = .slice (if c3 = s0.toNat then A3 else A3.map (·.add (s0.toNat * 1))) (x.f4.length - s0.toNat) (c3 - s0.toNat) := ⟨_, rfl⟩
              have hcut1 : ∀ W : World, (Instr.slice 22 (.slice (some ⟨gs, 0, none⟩) nn.toNat co) (some (.int .i64 q)) (some (.int .i64 (q + P))) none).run Try.prog W = .ok sv1 W := by
                intro W
                rw [cut_mid 22 3 .i64 .i64 Try.underlying22 (i := _) (by rfl) 1 rfl _ _ _ q (q + P) m3 (by omega) (by omega) hco W, hsv1, show (q + P).toNat - q.toNat = P.toNat from by omega]
              have hcut2 : ∀ W : World, (Instr.slice 22 (.slice A3 x.f4.length c3) (some (.int .i64 s0)) none none).run Try.prog W = .ok sv2 W := by
                intro W
                rw [cut_from 22 3 .i64 Try.underlying22 (i := _) (by rfl) 1 rfl _ _ _ s0 m5 (by omega) W, hsv2]
              have M1 := Aside0.mk (show 0 < P.toNat from by omega)
              have M2 := Aside0.mk (show q.toNat + P.toNat ≤ out.length from by omega)
              have M3 := Aside0.mk (show s0.toNat + P.toNat ≤ x.f4.length from by omega)
              have SV1 := Aside0.mk hsv1
              have SV2 := Aside0.mk hsv2
              clear hsv1 hsv2 m1 m2 m3 m4 m5 m6 m7 hlen hco
              refine still_tail_ 20 (by kernel_rfl) (by kernel_rfl) (fun W214 hw_ => ?_)
              have hb := below_drew (Below.refl wr.heap.size wr)
              rw [← hw_] at hb
              clear hw_
              have n_HT := Aside0.mk (Kd.R_below HT.out hb)
              have n_HS := Aside0.mk (Kd.R_below HS.out hb)
              have n_BR := Aside0.mk (blk_below BR.out hb)
              have n_BI := Aside0.mk (blk_below BI.out hb)
              have n_BP := Aside0.mk (blk_below BP.out hb)
              have n_BX := Aside0.mk (blk_below BX.out hb)
              have n_HB := Aside0.mk (below_step HB.out hb)
              clear HT HS BR BI BP BX HB
              have HT := n_HT
              have HS := n_HS
              have BR := n_BR
              have BI := n_BI
              have BP := n_BP
              have BX := n_BX
              have HB := n_HB
              clear n_HT n_HS n_BR n_BI n_BP n_BX n_HB
              clear hb
              have hz_gi_0 : W214.cell? ⟨gi, 0, none⟩ = some (.int .i64 a0) := (blk_cell BI.out 0).trans rfl
              have hz_gi_1 : W214.cell? ⟨gi, 1, none⟩ = some (.int .i64 a1) := (blk_cell BI.out 1).trans rfl
              have hz_gi_2 : W214.cell? ⟨gi, 2, none⟩ = some (.int .i64 P) := (blk_cell BI.out 2).trans rfl
              have hz_gi_3 : W214.cell? ⟨gi, 3, none⟩ = some (.int .i64 D) := (blk_cell BI.out 3).trans rfl
              have hz_gi_4 : W214.cell? ⟨gi, 4, none⟩ = some (.slice (some ⟨gs, 0, none⟩) nn.toNat co) := (blk_cell BI.out 4).trans rfl
              have hz_gp_0 : W214.cell? ⟨gp, 0, none⟩ = some (.int .i64 e.f0) := (blk_cell BP.out 0).trans rfl
              have hz_gp_1 : W214.cell? ⟨gp, 1, none⟩ = some (.int .i64 e.f1) := (blk_cell BP.out 1).trans rfl
              have hz_gp_2 : W214.cell? ⟨gp, 2, none⟩ = some (.int .i64 e.f2) := (blk_cell BP.out 2).trans rfl
              have hz_gp_3 : W214.cell? ⟨gp, 3, none⟩ = some (.int .i64 e.f3) := (blk_cell BP.out 3).trans rfl
              have hz_gp_4 : W214.cell? ⟨gp, 4, none⟩ = some (.int .i64 e.f4) := (blk_cell BP.out 4).trans rfl
              have hz_gp_5 : W214.cell? ⟨gp, 5, none⟩ = some (.int .i64 e.f5) := (blk_cell BP.out 5).trans rfl
              have hz_gx_0 : W214.cell? ⟨gx, 0, none⟩ = some (.int .i64 x.f0) := (blk_cell BX.out 0).trans rfl
              have hz_gx_1 : W214.cell? ⟨gx, 1, none⟩ = some (.int .i64 x.f1) := (blk_cell BX.out 1).trans rfl
              have hz_gx_2 : W214.cell? ⟨gx, 2, none⟩ = some (.int .i64 x.f2) := (blk_cell BX.out 2).trans rfl
              have hz_gx_3 : W214.cell? ⟨gx, 3, none⟩ = some (.int .i64 x.f3) := (blk_cell BX.out 3).trans rfl
              have hz_gx_4 : W214.cell? ⟨gx, 4, none⟩ = some (.slice A3 x.f4.length c3) := (blk_cell BX.out 4).trans rfl
              simp only [List.take_succ_cons, List.take_zero, List.drop_succ_cons, List.drop_zero]
              repeat still_step
              refine wpStill_nil ?_
              clear hz_gi_0 hz_gi_1 hz_gi_2 hz_gi_3 hz_gi_4 hz_gp_0 hz_gp_1 hz_gp_2 hz_gp_3 hz_gp_4 hz_gp_5 hz_gx_0 hz_gx_1 hz_gx_2 hz_gx_3 hz_gx_4
              clear hcut1 hcut2 hw hww
              try clear hs0 hs0w hs0v
              have HC3 := Aside0.mk (Kd.C_below HI.out HB.out)
              obtain ⟨cs_, hc_⟩ := Kd.R_typed HS.out gs rfl
              refine copy_mid rfl (.tmp 137) (.tmp 149) 22 22 rfl Try.underlying22 (by kernel_rfl) gs nn.toNat co out q.toNat P.toNat A3 c3 s0.toNat x.f4 HS.out HC3.out HL3.out M1.out M2.out M3.out (show _ = _ from SV1.out) (show _ = _ from SV2.out) ?_
              intro W215 ho hk hbb
              have n_HT := Aside0.mk (Kd.R_mono (Kd.R_kept (Kd.R_types HT.out hc_ (by decide)) hk (fun k_ ho_ hs_ => ho_.2 hs_)) (fun _ h_ => h_.1))
              have n_BR := Aside0.mk (blk_kept BR.out hk (fun e_ => Kd.R_ne HS.out BR.out (by decide) (e_ ▸ rfl)))
              have n_BI := Aside0.mk (blk_kept BI.out hk (fun e_ => Kd.R_ne HS.out BI.out (by decide) (e_ ▸ rfl)))
              have n_BP := Aside0.mk (blk_kept BP.out hk (fun e_ => Kd.R_ne HS.out BP.out (by decide) (e_ ▸ rfl)))
              have n_BX := Aside0.mk (blk_kept BX.out hk (fun e_ => Kd.R_ne HS.out BX.out (by decide) (e_ ▸ rfl)))
              have n_HB := Aside0.mk (hbb _ _ HB.out GEgs.out)
              clear HT BR BI BP BX HB
              have HT := n_HT
              have BR := n_BR
              have BI := n_BI
              have BP := n_BP
              have BX := n_BX
              have HB := n_HB
              clear n_HT n_BR n_BI n_BP n_BX n_HB
              clear SV1 SV2 M1 HC3 hc_ hk hbb HS
              have HS := Aside0.mk ho
              have OL2 := Aside0.mk (show (out.take q.toNat ++ ((x.f4.drop s0.toNat).take P.toNat ++ out.drop (q.toNat + P.toNat))).length = nn.toNat from by have h1_ := M2.out; have h2_ := M3.out; have h3_ := OL.out; simp only [List.length_append, List.length_take, List.length_drop]; omega)
              clear ho M2 M3 OL
              go_wp2
              go_roundg k2
              case measure => have := HK2.out; omega
              case rel => exact ⟨_, _, (by first | rfl | (simp; done) | (simp [*]; done)), H', ⟨by have := HK2.out; omega⟩, OL2, HT, HS, BR, BI, BP, BX, HB⟩

end Go.Proofs.Ytidblealnaicpaa.PFnExactMerge

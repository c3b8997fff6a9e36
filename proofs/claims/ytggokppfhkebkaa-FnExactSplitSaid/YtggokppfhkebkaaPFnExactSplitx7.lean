-- written by myprint.py (a program of this session's over the kit's print)
import Derived.Test.YtggokppfhkebkaaPFnExactSplitx0
namespace Go.Proofs.Ytggokppfhkebkaa.PFnExactSplit
open Go.RowKit Go.Proofs.YtggokppfhkebkaaW.PrintWords Go.Proofs.YtggokppfhkebkaaW.PrintLast Go.Proofs.YtggokppfhkebkaaW.PrintMore
attribute [local go_sem] max2_int min2_int max_two min_two max_three min_three max_four min_four   -- for this text's walks alone
set_option linter.unusedVariables false
set_option linter.unusedSimpArgs false

/-! ### laws_markIntS: function 18 -/
def laws_markIntS.l0 : Nat → List Int → Int → Int → Option (Int × List Int)
  | 0, _, _, _ => none
  | k + 1, x0, x1, x5 => if x5 < (x0.length : Int) then (if 0 ≤ x5 then (laws_markIntS.l0 k (x0.set (x5 : Int).toNat x1) (wrap64 (x1 + 1)) (wrap64 (x5 + 1))) else (none)) else (some (x1, x0))
def laws_markIntS.f (k : Nat) (l0 : List Int) (a1 : Int) : Option (Int × List Int) := laws_markIntS.l0 k l0 a1 0
theorem laws_markIntS.mono_l : ∀ k, (∀ y0 y1 y2, LeO (laws_markIntS.l0 k y0 y1 y2) (laws_markIntS.l0 (k + 1) y0 y1 y2))
  | 0 => fun _ _ _ r h => by simp [laws_markIntS.l0] at h
  | k + 1 => by
    have ih0 := laws_markIntS.mono_l k
    · intro y0 y1 y2
      unfold laws_markIntS.l0
      repeat' first
      | (with_reducible exact ih0 _ _ _)
      | (with_reducible exact LeO.refl _)
      | (with_reducible exact LeO.none _)
      | (with_reducible refine LeO.ite ?_ ?_)
      | (with_reducible refine LeO.bind ?_ (fun _ => ?_))
      | exact ih0 _ _ _
      | exact LeO.none _
      | refine LeO.ite ?_ ?_
      | refine LeO.bind ?_ (fun _ => ?_)
theorem laws_markIntS.mono : ∀ a0 a1 k, LeO (laws_markIntS.f k a0 a1) (laws_markIntS.f (k + 1) a0 a1) := by
  intro a0 a1 k
  have ih0 := laws_markIntS.mono_l k
  unfold laws_markIntS.f
  repeat' first
      | (with_reducible exact ih0 _ _ _)
      | (with_reducible exact LeO.refl _)
      | (with_reducible exact LeO.none _)
      | (with_reducible refine LeO.ite ?_ ?_)
      | (with_reducible refine LeO.bind ?_ (fun _ => ?_))
      | exact ih0 _ _ _
      | exact LeO.none _
      | refine LeO.ite ?_ ?_
      | refine LeO.bind ?_ (fun _ => ?_)
set_option maxHeartbeats 8000000 in
set_option maxRecDepth 100000 in
theorem laws_markIntS.calls (k : Nat) (P0_ : Nat → Prop) (u9000_ : Value) (l0 : List Int) (a1 : Int) (r1 : Int) (r2 : List Int) (w0 w : World) (hB : Below w0.heap.size w0 w) (ho0 : Kd.R (Kd.int .i64) 3 w w0.heap.size P0_ u9000_ l0) (h : laws_markIntS.f k l0 a1 = some (r1, r2)) :
    Calls Try.prog 18 #[u9000_, .int .i64 a1] w fun e w' => e = .returned (.int .i64 r1) ∧ Kd.R (Kd.int .i64) 3 w' w0.heap.size (fun k_ => (P0_ k_ ∨ w.heap.size ≤ k_)) u9000_ r2 ∧ Below w0.heap.size w0 w' ∧ Kept w w' (fun k_ => P0_ k_) := by
  have HO0 := Aside0.mk (show Kd.R (Kd.int .i64) 3 w w0.heap.size (fun k_ => (P0_ k_ ∨ w.heap.size ≤ k_)) u9000_ l0 from Kd.R_mono ho0 (fun k_ hk => (.inl hk)))
  have HK := Aside0.mk (Kept.refl w (fun k_ => P0_ k_))
  have HW0 := Aside0.mk hB.size
  have HB := Aside0.mk hB
  clear hB
  have H : (laws_markIntS.l0 k l0 a1 0) = some (r1, r2) := h
  clear h
  have H' := Aside0.mk H
  clear H
  go_enter Try.func18, Try.ntmps18
  go_wp2
  go_loopg [1, 5] k (fun kq v1 v5 w' => ∃ (x0_1 : List Int) (x1_1 : Int) (x5_1 : Int), v1 = .int .i64 x1_1 ∧ v5 = .int .i64 x5_1 ∧ Aside0 (laws_markIntS.l0 kq x0_1 x1_1 x5_1 = some (r1, r2)) ∧ Aside0 (kq ≤ k) ∧ Aside0 (Kd.R (Kd.int .i64) 3 w' w0.heap.size (fun k_ => (P0_ k_ ∨ w.heap.size ≤ k_)) u9000_ x0_1) ∧ Aside0 (Kept w w' (fun k_ => P0_ k_)) ∧ Aside0 (Below w0.heap.size w0 w'))
  case atStart => exact ⟨(l0), (a1), (0), (by first | rfl | (simp; done) | (simp [*]; done)), (by first | rfl | (simp; done) | (simp [*]; done)), H', ⟨Nat.le_refl _⟩, ⟨by (with_reducible repeat (first | apply Kd.R_alloc | apply Kd.R_drewN | apply Kd.R_drew)); exact HO0.out⟩, ⟨by repeat (first | (with_reducible first | exact HK.out | apply Kept.alloc | apply Kept.drewN | apply Kept.drew) | exact HK.out)⟩, ⟨by repeat (first | (with_reducible first | exact HB.out | apply below_alloc | apply pw_below_drewN | apply below_drew1) | exact HB.out)⟩⟩
  case round =>
    clear H'
    try clear c1
    try clear p2
    obtain ⟨x0_1, x1_1, x5_1, rfl, rfl, HA, HK1, HO_0, HK, HB⟩ := hrel
    cases gk with
    | zero => exact absurd HA.out (by simp [laws_markIntS.l0])
    | succ k1 =>
      have H := HA.out
      clear HA
      simp only [laws_markIntS.l0] at H
      by_cases c3 : x5_1 < (x0_1.length : Int)
      rotate_left
      · rw [if_neg c3] at H
        have c3b0 : decide (x5_1 < (x0_1.length : Int)) = false := decide_eq_false c3
        clear c3
        simp only [Option.some.injEq, Prod.mk.injEq] at H
        obtain ⟨rfl, rfl⟩ := H
        obtain ⟨Ao9, co9, eo9⟩ := Kd.R_slice HO_0.out
        subst eo9
        go_wp2
        go_ret
        exact ⟨by first | rfl | (simp [errW_none, errW_some] <;> rfl) | (simp [*, errW_none, errW_some] <;> rfl), by (with_reducible repeat (first | apply Kd.R_alloc | apply Kd.R_drewN | apply Kd.R_drew)); exact HO_0.out, by repeat (first | (with_reducible first | exact HB.out | apply below_alloc | apply pw_below_drewN | apply below_drew1) | exact HB.out), by repeat (first | (with_reducible first | exact HK.out | apply Kept.alloc | apply Kept.drewN | apply Kept.drew) | exact HK.out)⟩
      rw [if_pos c3] at H
      have c3b0 : decide (x5_1 < (x0_1.length : Int)) = true := decide_eq_true c3
      clear c3
      by_cases c4 : 0 ≤ x5_1
      rotate_left
      · rw [if_neg c4] at H
        exact absurd H (by simp)
      rw [if_pos c4] at H
      have c4b0 : decide (0 ≤ x5_1) = true := decide_eq_true c4
      clear c4
      obtain ⟨y168, hy168⟩ : ∃ y_ : List Int, y_ = (x0_1.set (x5_1 : Int).toNat x1_1) := ⟨_, rfl⟩
      replace H : (laws_markIntS.l0 k1 y168 (wrap64 (x1_1 + 1)) (wrap64 (x5_1 + 1))) = some (r1, r2) := by first | (rw [hy168]; with_reducible exact H) | (have H2_ := (Option.bind_some _ _).symm.trans H; rw [hy168]; with_reducible exact H2_) | (have H2_ := (Option.bind_some _ _).symm.trans H; with_reducible exact H2_) | with_reducible exact H | (rw [hy168]; exact H) | exact H
      have Ny168 := Aside0.mk hy168
      clear hy168
      have H' := Aside0.mk H
      clear H
      obtain ⟨Ao6, co6, eo6⟩ := Kd.R_slice HO_0.out
      subst eo6
      have p5 : 0 ≤ (x5_1 : Int) := of_decide_eq_true (by first | (with_reducible assumption) | assumption)
      have q5 : (x5_1 : Int) < ((x0_1.length : Int) : Int) := of_decide_eq_true (by first | (with_reducible assumption) | assumption)
      obtain ⟨go5, co5, eo5, gb5, gl5, cl5, HG5⟩ := Kd.R_form HO_0.out (by omega)
      (first | cases eo5 | (injection eo5 with ea_ en_ ec_; (first | subst ea_ | (injection ea_ with ea_; subst ea_)); subst ec_; clear en_))
      have GB5 := Aside0.mk gb5
      have GG5 := Aside0.mk HG5
      clear gb5 gl5 HG5
      have HMgo5 := Aside0.mk (show (P0_ go5 ∨ w.heap.size ≤ go5) from (HO_0.out.1 _ rfl))
      obtain ⟨hx5_0, hf5_0⟩ := Kd.R_celln 0 HO_0.out (x5_1 : Int) p5 q5
      replace p5 := eq_true p5
      replace q5 := eq_true q5
      have HP7 := Kd.R_putg HO_0.out (x5_1 : Int) x1_1
      go_wp2_with (first | ((with_reducible refine gate_store (t := 3) (p := 15) rfl ?_); refine store_event (t := 3) (p := 15) (v := ?vo_w8) (w1 := (wr.setCell ⟨go5, (x5_1 : Int).toNat, none⟩ (.int .i64 x1_1))) ?hg ?ho ?hn ?hr ?_; (case ho => rfl); (case hg => rfl); (case hn => rfl); (case hr => first | (go_simp; done) | (go_simp; rfl)); intro w8 hw; have hg : wr.grownBy w8 (some go5) := (by rw [hw]; exact HP7.2); have hp_ : Kd.R (Kd.int .i64) 3 w8 w0.heap.size (fun k_ => (P0_ k_ ∨ w.heap.size ≤ k_)) (.slice (some ⟨go5, 0, none⟩) x0_1.length co6) y168 := (by rw [hw, Ny168.out]; exact HP7.1); clear HP7; have n0_ := Aside0.mk (hp_); have n1_ := Aside0.mk ((by rw [hw]; exact below_set (HB.out) GB5.out : Below w0.heap.size w0 w8)); have n2_ := Aside0.mk (Kept.of_grown (S := (fun k_ => P0_ k_)) hg (by repeat (first | (with_reducible first | exact HK.out | apply Kept.alloc | apply Kept.drewN | apply Kept.drew) | exact HK.out)) (fun k_ e_ => (HO_0.out.1 k_ e_))); clear HO_0; clear HB; clear HK; have HO_0 := n0_; have HB := n1_; have HK := n2_; clear n0_ n1_ n2_; clear hg hw hp_))
      go_roundg k1
      case measure => have := HK1.out; omega
      case rel => exact ⟨(y168), (wrap64 (x1_1 + 1)), (wrap64 (x5_1 + 1)), (by first | rfl | (simp; done) | (simp [*]; done)), (by first | rfl | (simp; done) | (simp [*]; done)), H', ⟨by have := HK1.out; omega⟩, ⟨by (with_reducible repeat (first | apply Kd.R_alloc | apply Kd.R_drewN | apply Kd.R_drew)); exact HO_0.out⟩, ⟨by repeat (first | (with_reducible first | exact HK.out | apply Kept.alloc | apply Kept.drewN | apply Kept.drew) | exact HK.out)⟩, ⟨by repeat (first | (with_reducible first | exact HB.out | apply below_alloc | apply pw_below_drewN | apply below_drew1) | exact HB.out)⟩⟩

/-! ### laws_markImage: function 59 -/
def laws_markImage.f (k : Nat) (a0_0 : Int) (a0_1 : Int) (a0_2 : Int) (a0_3 : Int) (l0_4 : List Int) (a1 : Int) : Option (Int × List Int) := (laws_markIntS.f k l0_4 a1).bind fun bt170 => (some (bt170.1, bt170.2))
theorem laws_markImage.mono : ∀ a0 a1 a2 a3 a4 a5 k, LeO (laws_markImage.f k a0 a1 a2 a3 a4 a5) (laws_markImage.f (k + 1) a0 a1 a2 a3 a4 a5) := by
  intro a0 a1 a2 a3 a4 a5 k
  unfold laws_markImage.f
  repeat' first
      | (with_reducible exact laws_markIntS.mono _ _ _)
      | (with_reducible exact LeO.refl _)
      | (with_reducible exact LeO.none _)
      | (with_reducible refine LeO.ite ?_ ?_)
      | (with_reducible refine LeO.bind ?_ (fun _ => ?_))
      | exact laws_markIntS.mono _ _ _
      | exact LeO.none _
      | refine LeO.ite ?_ ?_
      | refine LeO.bind ?_ (fun _ => ?_)
set_option maxHeartbeats 8000000 in
set_option maxRecDepth 100000 in
theorem laws_markImage.calls (k : Nat) (a0_0 : Int) (a0_1 : Int) (a0_2 : Int) (a0_3 : Int) (P0_4_ : Nat → Prop) (u9000_ : Value) (l0_4 : List Int) (a1 : Int) (r1 : Int) (r2 : List Int) (w0 w : World) (hB : Below w0.heap.size w0 w) (ho0_4 : Kd.R (Kd.int .i64) 3 w w0.heap.size P0_4_ u9000_ l0_4) (h : laws_markImage.f k a0_0 a0_1 a0_2 a0_3 l0_4 a1 = some (r1, r2)) :
    Calls Try.prog 59 #[.agg #[.int .i64 a0_0, .int .i64 a0_1, .int .i64 a0_2, .int .i64 a0_3, u9000_], .int .i64 a1] w fun e w' => e = .returned (.int .i64 r1) ∧ Kd.R (Kd.int .i64) 3 w' w0.heap.size (fun k_ => (P0_4_ k_ ∨ w.heap.size ≤ k_)) u9000_ r2 ∧ Below w0.heap.size w0 w' ∧ Kept w w' (fun k_ => P0_4_ k_) := by
  have hu31 := Try.underlying31
  have HO0_4 := Aside0.mk (show Kd.R (Kd.int .i64) 3 w w0.heap.size (fun k_ => (P0_4_ k_ ∨ w.heap.size ≤ k_)) u9000_ l0_4 from Kd.R_mono ho0_4 (fun k_ hk => (.inl hk)))
  have HK := Aside0.mk (Kept.refl w (fun k_ => P0_4_ k_))
  have HW0 := Aside0.mk hB.size
  have HB := Aside0.mk hB
  clear hB
  have H : ((laws_markIntS.f k l0_4 a1).bind fun bt170 => (some (bt170.1, bt170.2))) = some (r1, r2) := h
  clear h
  replace H := Option.bind_eq_some_iff.mp H
  obtain ⟨⟨t170, t171⟩, A30, H⟩ := H
  replace H : (some (t170, t171)) = some (r1, r2) := H
  have A3 := Aside0.mk A30
  clear A30
  simp only [Option.some.injEq, Prod.mk.injEq] at H
  obtain ⟨rfl, rfl⟩ := H
  obtain ⟨Ao4, co4, eo4⟩ := Kd.R_slice HO0_4.out
  subst eo4
  go_enter Try.func59, Try.ntmps59
  go_wp2_with (first | ((with_reducible refine gate_dst (N := 2) rfl ?_); refine box_event ?hg (N := 2) ?hd (cs := #[.int .i64 a0_0, .int .i64 a0_1, .int .i64 a0_2, .int .i64 a0_3, .slice Ao4 l0_4.length co4]) (t := 31) ?hr ?_; (case hd => rfl); (case hg => rfl); (case hr => first | (go_simp; done) | (go_simp; rfl)); intro gb169 hg w5 hbox hb; have n0_ := Aside0.mk (Kd.R_below (by (with_reducible repeat (first | apply Kd.R_alloc | apply Kd.R_drewN | apply Kd.R_drew)); exact HO0_4.out) hb); have n1_ := Aside0.mk (Kept.below (S := (fun k_ => P0_4_ k_)) (by repeat (first | (with_reducible first | exact HK.out | apply Kept.alloc | apply Kept.drewN | apply Kept.drew) | exact HK.out)) hb); have n2_ := Aside0.mk (below_step (by repeat (first | (with_reducible first | exact HB.out | apply below_alloc | apply pw_below_drewN | apply below_drew1) | exact HB.out)) hb); have n3_ := Aside0.mk (hbox); have n4_ := Aside0.mk ((by rw [hg]; exact (by first | exact HK.out.1 | exact (show Kept w _ (fun k_ => P0_4_ k_) from by repeat (first | (with_reducible first | exact HK.out | apply Kept.alloc | apply Kept.drewN | apply Kept.drew) | exact HK.out)).1) : w.heap.size ≤ gb169)); have n5_ := Aside0.mk ((by rw [hg]; exact (below_size (by repeat (first | (with_reducible first | exact HB.out | apply below_alloc | apply pw_below_drewN | apply below_drew1) | exact HB.out))) : w0.heap.size ≤ gb169)); clear HO0_4; clear HK; clear HB; have HO0_4 := n0_; have HK := n1_; have HB := n2_; have BK169 := n3_; have GW169 := n4_; have GE169 := n5_; clear n0_ n1_ n2_ n3_ n4_ n5_; clear hb hbox hg; have hcz6_0 : w5.cell? ⟨gb169, 0, none⟩ = some (.int .i64 a0_0) := (blk_cell BK169.out 0).trans rfl; have hcz6_1 : w5.cell? ⟨gb169, 1, none⟩ = some (.int .i64 a0_1) := (blk_cell BK169.out 1).trans rfl; have hcz6_2 : w5.cell? ⟨gb169, 2, none⟩ = some (.int .i64 a0_2) := (blk_cell BK169.out 2).trans rfl; have hcz6_3 : w5.cell? ⟨gb169, 3, none⟩ = some (.int .i64 a0_3) := (blk_cell BK169.out 3).trans rfl; have hcz6_4 : w5.cell? ⟨gb169, 4, none⟩ = some (.slice Ao4 l0_4.length co4) := (blk_cell BK169.out 4).trans rfl; have hfz6_0 := blk_frozen BK169.out 0; have hfz6_1 := blk_frozen BK169.out 1; have hfz6_2 := blk_frozen BK169.out 2; have hfz6_3 := blk_frozen BK169.out 3; have hfz6_4 := blk_frozen BK169.out 4) | ((with_reducible refine gate_callee (f := 18) rfl ?_); refine goesL_ (some 8) rfl rfl Try.func18 (by kernel_rfl) rfl #[.slice Ao4 l0_4.length co4, .int .i64 a1] rfl (by (try simp only [List.map_toArray, List.map_cons, List.map_nil]); first | done | rfl | (simp only [List.length_drop, List.length_take]; rfl)) ?_; (with_reducible refine (laws_markIntS.calls k (fun k_ => some k_ = (.slice Ao4 l0_4.length co4 : Value).ownBlock) (.slice Ao4 l0_4.length co4) l0_4 a1 t170 t171 w0 _ ?side1 ?side2 A3.out).mono ?_); (case side1 => repeat (first | (with_reducible first | exact HB.out | apply below_alloc | apply pw_below_drewN | apply below_drew1 | refine below_set ?_ GE169.out) | exact HB.out)); (case side2 => exact Kd.R_tight rfl HO0_4.out); rintro e w7 ⟨rfl, hy0, hb, hkp⟩; refine ⟨_, rfl, ?_⟩; have n0_ := Aside0.mk (Kd.R_reok rfl hy0 (fun k_ e_ => HO0_4.out.1 k_ e_)); have n1_ := Aside0.mk (blk_kept (by (with_reducible repeat (first | refine blk_drewN ?_ _ | refine blk_drew ?_ | refine blk_alloc ?_ _)); exact BK169.out) hkp (fun hs_ => (fun e_ => (Kd.R_ne HO0_4.out BK169.out (by decide)) e_) hs_)); have n2_ := Aside0.mk (Kept.then_ (S := (fun k_ => P0_4_ k_)) (by repeat (first | (with_reducible first | exact HK.out | apply Kept.alloc | apply Kept.drewN | apply Kept.drew | refine Kept.setCell ?_ (.inr GW169.out) _) | exact HK.out)) hkp (fun k_ hs_ => (fun e_ => (HO0_4.out.1 k_ e_.symm)) hs_)); have n3_ := Aside0.mk (hb); clear HO0_4; clear BK169; clear HK; clear HB; have HO0_4 := n0_; have BK169 := n1_; have HK := n2_; have HB := n3_; clear n0_ n1_ n2_ n3_; (try clear hb); (try clear hkp); (try clear hy0)))
  go_ret
  exact ⟨by first | rfl | (simp [errW_none, errW_some] <;> rfl) | (simp [*, errW_none, errW_some] <;> rfl), by (with_reducible repeat (first | apply Kd.R_alloc | apply Kd.R_drewN | apply Kd.R_drew)); exact HO0_4.out, by repeat (first | (with_reducible first | exact HB.out | apply below_alloc | apply pw_below_drewN | apply below_drew1 | refine below_set ?_ GE169.out) | exact HB.out), by repeat (first | (with_reducible first | exact HK.out | apply Kept.alloc | apply Kept.drewN | apply Kept.drew | refine Kept.setCell ?_ (.inr GW169.out) _) | exact HK.out)⟩

/-! ### laws_markImageS: function 60 -/
def laws_markImageS.l0 : Nat → List S31 → Int → Int → Option (Int × List S31)
  | 0, _, _, _ => none
  | k + 1, x0, x1, x5 => if x5 < (x0.length : Int) then (if 0 ≤ x5 then ((laws_markIntS.f k (rd_T31 x0 x5).f4 (wrap64 ((wrap64 ((wrap64 ((wrap64 (x1 + 1)) + 1)) + 1)) + 1))).bind fun b => laws_markImageS.l0 k (x0.set (x5 : Int).toNat (⟨x1, wrap64 (x1 + 1), wrap64 ((wrap64 (x1 + 1)) + 1), wrap64 ((wrap64 ((wrap64 (x1 + 1)) + 1)) + 1), b.2⟩ : S31)) b.1 (wrap64 (x5 + 1))) else (none)) else (some (x1, x0))
def laws_markImageS.f (k : Nat) (l0 : List S31) (a1 : Int) : Option (Int × List S31) := laws_markImageS.l0 k l0 a1 0
theorem laws_markImageS.mono_l : ∀ k, (∀ y0 y1 y2, LeO (laws_markImageS.l0 k y0 y1 y2) (laws_markImageS.l0 (k + 1) y0 y1 y2))
  | 0 => fun _ _ _ r h => by simp [laws_markImageS.l0] at h
  | k + 1 => by
    have ih0 := laws_markImageS.mono_l k
    · intro y0 y1 y2
      unfold laws_markImageS.l0
      repeat' first
      | (with_reducible exact ih0 _ _ _)
      | (with_reducible exact laws_markIntS.mono _ _ _)
      | (with_reducible exact LeO.refl _)
      | (with_reducible exact LeO.none _)
      | (with_reducible refine LeO.ite ?_ ?_)
      | (with_reducible refine LeO.bind ?_ (fun _ => ?_))
      | exact ih0 _ _ _
      | exact laws_markIntS.mono _ _ _
      | exact LeO.none _
      | refine LeO.ite ?_ ?_
      | refine LeO.bind ?_ (fun _ => ?_)
theorem laws_markImageS.mono : ∀ a0 a1 k, LeO (laws_markImageS.f k a0 a1) (laws_markImageS.f (k + 1) a0 a1) := by
  intro a0 a1 k
  have ih0 := laws_markImageS.mono_l k
  unfold laws_markImageS.f
  repeat' first
      | (with_reducible exact ih0 _ _ _)
      | (with_reducible exact laws_markIntS.mono _ _ _)
      | (with_reducible exact LeO.refl _)
      | (with_reducible exact LeO.none _)
      | (with_reducible refine LeO.ite ?_ ?_)
      | (with_reducible refine LeO.bind ?_ (fun _ => ?_))
      | exact ih0 _ _ _
      | exact laws_markIntS.mono _ _ _
      | exact LeO.none _
      | refine LeO.ite ?_ ?_
      | refine LeO.bind ?_ (fun _ => ?_)
set_option maxHeartbeats 8000000 in
set_option maxRecDepth 100000 in
theorem laws_markImageS.calls (k : Nat) (P0_ : Nat → Prop) (u9000_ : Value) (l0 : List S31) (a1 : Int) (r1 : Int) (r2 : List S31) (w0 w : World) (hB : Below w0.heap.size w0 w) (ho0 : Kd.S k31 31 w w0.heap.size P0_ u9000_ l0) (h : laws_markImageS.f k l0 a1 = some (r1, r2)) :
    Calls Try.prog 60 #[u9000_, .int .i64 a1] w fun e w' => e = .returned (.int .i64 r1) ∧ Kd.S k31 31 w' w0.heap.size (fun k_ => (P0_ k_ ∨ w.heap.size ≤ k_)) u9000_ r2 ∧ Below w0.heap.size w0 w' ∧ Kept w w' (fun k_ => P0_ k_) := by
  have hu := Try.underlying31
  have HO0 := Aside0.mk (show Kd.S k31 31 w w0.heap.size (fun k_ => (P0_ k_ ∨ w.heap.size ≤ k_)) u9000_ l0 from Kd.S_mono ho0 (fun k_ hk => (.inl hk)))
  have HK := Aside0.mk (Kept.refl w (fun k_ => P0_ k_))
  have HB := Aside0.mk hB
  clear hB ho0
  have H' := Aside0.mk (show laws_markImageS.l0 k l0 a1 0 = some (r1, r2) from h)
  clear h
  go_enter Try.func60, Try.ntmps60
  go_wp2
  go_loopg [1, 5] k (fun kq v1 v5 w' => ∃ (x0_1 : List S31) (x1_1 : Int) (x5_1 : Int), v1 = .int .i64 x1_1 ∧ v5 = .int .i64 x5_1 ∧ Aside0 (laws_markImageS.l0 kq x0_1 x1_1 x5_1 = some (r1, r2)) ∧ Aside0 (kq ≤ k) ∧ Aside0 (Kd.S k31 31 w' w0.heap.size (fun k_ => (P0_ k_ ∨ w.heap.size ≤ k_)) u9000_ x0_1) ∧ Aside0 (Kept w w' (fun k_ => P0_ k_)) ∧ Aside0 (Below w0.heap.size w0 w'))
  case atStart => exact ⟨l0, a1, 0, rfl, rfl, H', ⟨Nat.le_refl _⟩, HO0, HK, HB⟩
  case round =>
    clear H' HO0
    obtain ⟨x0_1, x1_1, x5_1, rfl, rfl, HA, HK1, HO_0, HK, HB⟩ := hrel
    cases gk with
    | zero => exact absurd HA.out (by simp [laws_markImageS.l0])
    | succ k1 =>
      have H := HA.out
      clear HA
      simp only [laws_markImageS.l0] at H
      by_cases c3 : x5_1 < (x0_1.length : Int)
      rotate_left
      · rw [if_neg c3] at H
        have c3b0 : decide (x5_1 < (x0_1.length : Int)) = false := decide_eq_false c3
        clear c3
        simp only [Option.some.injEq, Prod.mk.injEq] at H
        obtain ⟨rfl, rfl⟩ := H
        obtain ⟨Ao9, co9, eo9⟩ := Kd.S_slice HO_0.out
        subst eo9
        go_wp2
        go_ret
        exact ⟨rfl, HO_0.out, HB.out, HK.out⟩
      rw [if_pos c3] at H
      have c3b0 : decide (x5_1 < (x0_1.length : Int)) = true := decide_eq_true c3
      by_cases c4 : 0 ≤ x5_1
      rotate_left
      · rw [if_neg c4] at H
        exact absurd H (by simp)
      rw [if_pos c4] at H
      have c4b0 : decide (0 ≤ x5_1) = true := decide_eq_true c4
      obtain ⟨z, hz⟩ : ∃ z_ : S31, rd_T31 x0_1 x5_1 = z_ := ⟨_, rfl⟩
      rw [hz] at H
      replace H := Option.bind_eq_some_iff.mp H
      obtain ⟨⟨t1, t2⟩, A30, H⟩ := H
      have A3 := Aside0.mk A30
      clear A30
      have H' := Aside0.mk (show laws_markImageS.l0 k1 (x0_1.set (x5_1 : Int).toNat (⟨x1_1, wrap64 (x1_1 + 1), wrap64 ((wrap64 (x1_1 + 1)) + 1), wrap64 ((wrap64 ((wrap64 (x1_1 + 1)) + 1)) + 1), t2⟩ : S31)) t1 (wrap64 (x5_1 + 1)) = some (r1, r2) from H)
      clear H
      obtain ⟨g5, co5, eo5, gb5, gl5, cl5, HG5⟩ := Kd.S_form HO_0.out (by omega)
      subst eo5
      obtain ⟨oki, cs, hcl, hM, hcc, hfr, hoki, hH⟩ := Kd.S_elem HO_0.out z31 x5_1 c4 (by exact c3)
      rw [show x0_1.getD (x5_1 : Int).toNat z31 = z from hz] at hM
      clear hz
      obtain ⟨v5, rfl, hR⟩ := k31_openM hM
      have hx_0 : wr.cell? ⟨g5, (x5_1 : Int).toNat * 5, none⟩ = some (.int .i64 z.f0) := hcc 0 _ rfl
      have hx_1 : wr.cell? ⟨g5, (x5_1 : Int).toNat * 5 + 1, none⟩ = some (.int .i64 z.f1) := hcc 1 _ rfl
      have hx_2 : wr.cell? ⟨g5, (x5_1 : Int).toNat * 5 + 2, none⟩ = some (.int .i64 z.f2) := hcc 2 _ rfl
      have hx_3 : wr.cell? ⟨g5, (x5_1 : Int).toNat * 5 + 3, none⟩ = some (.int .i64 z.f3) := hcc 3 _ rfl
      have hx_4 : wr.cell? ⟨g5, (x5_1 : Int).toNat * 5 + 4, none⟩ = some (v5) := hcc 4 _ rfl
      have hf_0 : wr.frozen? ⟨g5, (x5_1 : Int).toNat * 5, none⟩ = false := hfr 0
      have hf_1 : wr.frozen? ⟨g5, (x5_1 : Int).toNat * 5 + 1, none⟩ = false := hfr 1
      have hf_2 : wr.frozen? ⟨g5, (x5_1 : Int).toNat * 5 + 2, none⟩ = false := hfr 2
      have hf_3 : wr.frozen? ⟨g5, (x5_1 : Int).toNat * 5 + 3, none⟩ = false := hfr 3
      have HR := Aside0.mk hR
      have HH := Aside0.mk hH
      have HOK := Aside0.mk hoki
      have HMg := Aside0.mk (show (P0_ g5 ∨ w.heap.size ≤ g5) from (Kd.S_R HO_0.out).1 _ rfl)
      clear hM hcc hfr hcl hR hH hoki HO_0 HG5 cl5
      obtain ⟨Ai, ci, ei⟩ := Kd.R_slice HR.out
      subst ei
      have C3 := Aside0.mk c3
      have C4 := Aside0.mk c4
      replace c3 := eq_true c3
      replace c4 := eq_true c4
      have GB := Aside0.mk gb5
      clear gb5 gl5
      go_upto_region 5 with (fail)
      have hseg := Kd.H_seg HH.out C4.out C3.out (seg := [.int .i64 (x1_1)]) (j := 0) (show 0 + 1 ≤ 5 from by decide) (by simp [Value.oneCell'])
      rw [show World.setCells wr g5 ((x5_1 : Int).toNat * (k31).sz + 0) [.int .i64 (x1_1)] = World.setCell wr ⟨g5, (x5_1 : Int).toNat * 5, none⟩ (.int .i64 (x1_1)) from rfl] at hseg
      have hbs : Below w0.heap.size w0 (World.setCell wr ⟨g5, (x5_1 : Int).toNat * 5, none⟩ (.int .i64 (x1_1))) := below_set HB.out GB.out
      have hy_0 : World.cell? (World.setCell wr ⟨g5, (x5_1 : Int).toNat * 5, none⟩ (.int .i64 (x1_1))) ⟨g5, (x5_1 : Int).toNat * 5, none⟩ = some (.int .i64 (x1_1)) := by go_simp
      have hy_1 : World.cell? (World.setCell wr ⟨g5, (x5_1 : Int).toNat * 5, none⟩ (.int .i64 (x1_1))) ⟨g5, (x5_1 : Int).toNat * 5 + 1, none⟩ = some (.int .i64 z.f1) := by go_simp
      have hy_2 : World.cell? (World.setCell wr ⟨g5, (x5_1 : Int).toNat * 5, none⟩ (.int .i64 (x1_1))) ⟨g5, (x5_1 : Int).toNat * 5 + 2, none⟩ = some (.int .i64 z.f2) := by go_simp
      have hy_3 : World.cell? (World.setCell wr ⟨g5, (x5_1 : Int).toNat * 5, none⟩ (.int .i64 (x1_1))) ⟨g5, (x5_1 : Int).toNat * 5 + 3, none⟩ = some (.int .i64 z.f3) := by go_simp
      have hy_4 : World.cell? (World.setCell wr ⟨g5, (x5_1 : Int).toNat * 5, none⟩ (.int .i64 (x1_1))) ⟨g5, (x5_1 : Int).toNat * 5 + 4, none⟩ = some (.slice Ai z.f4.length ci) := by go_simp
      have hg_0 : World.frozen? (World.setCell wr ⟨g5, (x5_1 : Int).toNat * 5, none⟩ (.int .i64 (x1_1))) ⟨g5, (x5_1 : Int).toNat * 5, none⟩ = false := by go_simp
      have hg_1 : World.frozen? (World.setCell wr ⟨g5, (x5_1 : Int).toNat * 5, none⟩ (.int .i64 (x1_1))) ⟨g5, (x5_1 : Int).toNat * 5 + 1, none⟩ = false := by go_simp
      have hg_2 : World.frozen? (World.setCell wr ⟨g5, (x5_1 : Int).toNat * 5, none⟩ (.int .i64 (x1_1))) ⟨g5, (x5_1 : Int).toNat * 5 + 2, none⟩ = false := by go_simp
      have hg_3 : World.frozen? (World.setCell wr ⟨g5, (x5_1 : Int).toNat * 5, none⟩ (.int .i64 (x1_1))) ⟨g5, (x5_1 : Int).toNat * 5 + 3, none⟩ = false := by go_simp
      generalize World.setCell wr ⟨g5, (x5_1 : Int).toNat * 5, none⟩ (.int .i64 (x1_1)) = wr0 at hseg hbs hy_0 hy_1 hy_2 hy_3 hy_4 hg_0 hg_1 hg_2 hg_3 ⊢
      obtain ⟨hH, hgr⟩ := hseg
      have n1_ := Aside0.mk (show Kd.H k31 31 wr0 w0.heap.size (fun k_ => (P0_ k_ ∨ w.heap.size ≤ k_)) (.slice (some ⟨g5, 0, none⟩) x0_1.length co5) x0_1 x5_1 oki [.int .i64 (x1_1), .int .i64 z.f1, .int .i64 z.f2, .int .i64 z.f3, .slice Ai z.f4.length ci] from hH)
      have n2_ := Aside0.mk (Kd.R_grown HR.out hgr (fun k_ hk he => (HOK.out k_ hk).2 (Option.some.inj he)))
      have n3_ := Aside0.mk (Kept.of_grown hgr HK.out (fun k_ he => (Option.some.inj he) ▸ HMg.out))
      have n4_ := Aside0.mk hbs
      clear hH hgr hbs HH HR HK HB hx_0 hx_1 hx_2 hx_3 hx_4 hf_0 hf_1 hf_2 hf_3
      have HH := n1_
      have HR := n2_
      have HK := n3_
      have HB := n4_
      clear n1_ n2_ n3_ n4_
      have hx_0 := hy_0
      have hx_1 := hy_1
      have hx_2 := hy_2
      have hx_3 := hy_3
      have hx_4 := hy_4
      have hf_0 := hg_0
      have hf_1 := hg_1
      have hf_2 := hg_2
      have hf_3 := hg_3
      clear hy_0 hy_1 hy_2 hy_3 hy_4 hg_0 hg_1 hg_2 hg_3
      go_upto_region 7 with (fail)
      have hseg := Kd.H_seg HH.out C4.out C3.out (seg := [.int .i64 (wrap64 (x1_1 + 1))]) (j := 1) (show 1 + 1 ≤ 5 from by decide) (by simp [Value.oneCell'])
      rw [show World.setCells wr0 g5 ((x5_1 : Int).toNat * (k31).sz + 1) [.int .i64 (wrap64 (x1_1 + 1))] = World.setCell wr0 ⟨g5, (x5_1 : Int).toNat * 5 + 1, none⟩ (.int .i64 (wrap64 (x1_1 + 1))) from rfl] at hseg
      have hbs : Below w0.heap.size w0 (World.setCell wr0 ⟨g5, (x5_1 : Int).toNat * 5 + 1, none⟩ (.int .i64 (wrap64 (x1_1 + 1)))) := below_set HB.out GB.out
      have hy_0 : World.cell? (World.setCell wr0 ⟨g5, (x5_1 : Int).toNat * 5 + 1, none⟩ (.int .i64 (wrap64 (x1_1 + 1)))) ⟨g5, (x5_1 : Int).toNat * 5, none⟩ = some (.int .i64 (x1_1)) := by go_simp
      have hy_1 : World.cell? (World.setCell wr0 ⟨g5, (x5_1 : Int).toNat * 5 + 1, none⟩ (.int .i64 (wrap64 (x1_1 + 1)))) ⟨g5, (x5_1 : Int).toNat * 5 + 1, none⟩ = some (.int .i64 (wrap64 (x1_1 + 1))) := by go_simp
      have hy_2 : World.cell? (World.setCell wr0 ⟨g5, (x5_1 : Int).toNat * 5 + 1, none⟩ (.int .i64 (wrap64 (x1_1 + 1)))) ⟨g5, (x5_1 : Int).toNat * 5 + 2, none⟩ = some (.int .i64 z.f2) := by go_simp
      have hy_3 : World.cell? (World.setCell wr0 ⟨g5, (x5_1 : Int).toNat * 5 + 1, none⟩ (.int .i64 (wrap64 (x1_1 + 1)))) ⟨g5, (x5_1 : Int).toNat * 5 + 3, none⟩ = some (.int .i64 z.f3) := by go_simp
      have hy_4 : World.cell? (World.setCell wr0 ⟨g5, (x5_1 : Int).toNat * 5 + 1, none⟩ (.int .i64 (wrap64 (x1_1 + 1)))) ⟨g5, (x5_1 : Int).toNat * 5 + 4, none⟩ = some (.slice Ai z.f4.length ci) := by go_simp
      have hg_0 : World.frozen? (World.setCell wr0 ⟨g5, (x5_1 : Int).toNat * 5 + 1, none⟩ (.int .i64 (wrap64 (x1_1 + 1)))) ⟨g5, (x5_1 : Int).toNat * 5, none⟩ = false := by go_simp
      have hg_1 : World.frozen? (World.setCell wr0 ⟨g5, (x5_1 : Int).toNat * 5 + 1, none⟩ (.int .i64 (wrap64 (x1_1 + 1)))) ⟨g5, (x5_1 : Int).toNat * 5 + 1, none⟩ = false := by go_simp
      have hg_2 : World.frozen? (World.setCell wr0 ⟨g5, (x5_1 : Int).toNat * 5 + 1, none⟩ (.int .i64 (wrap64 (x1_1 + 1)))) ⟨g5, (x5_1 : Int).toNat * 5 + 2, none⟩ = false := by go_simp
      have hg_3 : World.frozen? (World.setCell wr0 ⟨g5, (x5_1 : Int).toNat * 5 + 1, none⟩ (.int .i64 (wrap64 (x1_1 + 1)))) ⟨g5, (x5_1 : Int).toNat * 5 + 3, none⟩ = false := by go_simp
      generalize World.setCell wr0 ⟨g5, (x5_1 : Int).toNat * 5 + 1, none⟩ (.int .i64 (wrap64 (x1_1 + 1))) = wr1 at hseg hbs hy_0 hy_1 hy_2 hy_3 hy_4 hg_0 hg_1 hg_2 hg_3 ⊢
      obtain ⟨hH, hgr⟩ := hseg
      have n1_ := Aside0.mk (show Kd.H k31 31 wr1 w0.heap.size (fun k_ => (P0_ k_ ∨ w.heap.size ≤ k_)) (.slice (some ⟨g5, 0, none⟩) x0_1.length co5) x0_1 x5_1 oki [.int .i64 (x1_1), .int .i64 (wrap64 (x1_1 + 1)), .int .i64 z.f2, .int .i64 z.f3, .slice Ai z.f4.length ci] from hH)
      have n2_ := Aside0.mk (Kd.R_grown HR.out hgr (fun k_ hk he => (HOK.out k_ hk).2 (Option.some.inj he)))
      have n3_ := Aside0.mk (Kept.of_grown hgr HK.out (fun k_ he => (Option.some.inj he) ▸ HMg.out))
      have n4_ := Aside0.mk hbs
      clear hH hgr hbs HH HR HK HB hx_0 hx_1 hx_2 hx_3 hx_4 hf_0 hf_1 hf_2 hf_3
      have HH := n1_
      have HR := n2_
      have HK := n3_
      have HB := n4_
      clear n1_ n2_ n3_ n4_
      have hx_0 := hy_0
      have hx_1 := hy_1
      have hx_2 := hy_2
      have hx_3 := hy_3
      have hx_4 := hy_4
      have hf_0 := hg_0
      have hf_1 := hg_1
      have hf_2 := hg_2
      have hf_3 := hg_3
      clear hy_0 hy_1 hy_2 hy_3 hy_4 hg_0 hg_1 hg_2 hg_3
      go_upto_region 9 with (fail)
      have hseg := Kd.H_seg HH.out C4.out C3.out (seg := [.int .i64 (wrap64 ((wrap64 (x1_1 + 1)) + 1))]) (j := 2) (show 2 + 1 ≤ 5 from by decide) (by simp [Value.oneCell'])
      rw [show World.setCells wr1 g5 ((x5_1 : Int).toNat * (k31).sz + 2) [.int .i64 (wrap64 ((wrap64 (x1_1 + 1)) + 1))] = World.setCell wr1 ⟨g5, (x5_1 : Int).toNat * 5 + 2, none⟩ (.int .i64 (wrap64 ((wrap64 (x1_1 + 1)) + 1))) from rfl] at hseg
      have hbs : Below w0.heap.size w0 (World.setCell wr1 ⟨g5, (x5_1 : Int).toNat * 5 + 2, none⟩ (.int .i64 (wrap64 ((wrap64 (x1_1 + 1)) + 1)))) := below_set HB.out GB.out
      have hy_0 : World.cell? (World.setCell wr1 ⟨g5, (x5_1 : Int).toNat * 5 + 2, none⟩ (.int .i64 (wrap64 ((wrap64 (x1_1 + 1)) + 1)))) ⟨g5, (x5_1 : Int).toNat * 5, none⟩ = some (.int .i64 (x1_1)) := by go_simp
      have hy_1 : World.cell? (World.setCell wr1 ⟨g5, (x5_1 : Int).toNat * 5 + 2, none⟩ (.int .i64 (wrap64 ((wrap64 (x1_1 + 1)) + 1)))) ⟨g5, (x5_1 : Int).toNat * 5 + 1, none⟩ = some (.int .i64 (wrap64 (x1_1 + 1))) := by go_simp
      have hy_2 : World.cell? (World.setCell wr1 ⟨g5, (x5_1 : Int).toNat * 5 + 2, none⟩ (.int .i64 (wrap64 ((wrap64 (x1_1 + 1)) + 1)))) ⟨g5, (x5_1 : Int).toNat * 5 + 2, none⟩ = some (.int .i64 (wrap64 ((wrap64 (x1_1 + 1)) + 1))) := by go_simp
      have hy_3 : World.cell? (World.setCell wr1 ⟨g5, (x5_1 : Int).toNat * 5 + 2, none⟩ (.int .i64 (wrap64 ((wrap64 (x1_1 + 1)) + 1)))) ⟨g5, (x5_1 : Int).toNat * 5 + 3, none⟩ = some (.int .i64 z.f3) := by go_simp
      have hy_4 : World.cell? (World.setCell wr1 ⟨g5, (x5_1 : Int).toNat * 5 + 2, none⟩ (.int .i64 (wrap64 ((wrap64 (x1_1 + 1)) + 1)))) ⟨g5, (x5_1 : Int).toNat * 5 + 4, none⟩ = some (.slice Ai z.f4.length ci) := by go_simp
      have hg_0 : World.frozen? (World.setCell wr1 ⟨g5, (x5_1 : Int).toNat * 5 + 2, none⟩ (.int .i64 (wrap64 ((wrap64 (x1_1 + 1)) + 1)))) ⟨g5, (x5_1 : Int).toNat * 5, none⟩ = false := by go_simp
      have hg_1 : World.frozen? (World.setCell wr1 ⟨g5, (x5_1 : Int).toNat * 5 + 2, none⟩ (.int .i64 (wrap64 ((wrap64 (x1_1 + 1)) + 1)))) ⟨g5, (x5_1 : Int).toNat * 5 + 1, none⟩ = false := by go_simp
      have hg_2 : World.frozen? (World.setCell wr1 ⟨g5, (x5_1 : Int).toNat * 5 + 2, none⟩ (.int .i64 (wrap64 ((wrap64 (x1_1 + 1)) + 1)))) ⟨g5, (x5_1 : Int).toNat * 5 + 2, none⟩ = false := by go_simp
      have hg_3 : World.frozen? (World.setCell wr1 ⟨g5, (x5_1 : Int).toNat * 5 + 2, none⟩ (.int .i64 (wrap64 ((wrap64 (x1_1 + 1)) + 1)))) ⟨g5, (x5_1 : Int).toNat * 5 + 3, none⟩ = false := by go_simp
      generalize World.setCell wr1 ⟨g5, (x5_1 : Int).toNat * 5 + 2, none⟩ (.int .i64 (wrap64 ((wrap64 (x1_1 + 1)) + 1))) = wr2 at hseg hbs hy_0 hy_1 hy_2 hy_3 hy_4 hg_0 hg_1 hg_2 hg_3 ⊢
      obtain ⟨hH, hgr⟩ := hseg
      have n1_ := Aside0.mk (show Kd.H k31 31 wr2 w0.heap.size (fun k_ => (P0_ k_ ∨ w.heap.size ≤ k_)) (.slice (some ⟨g5, 0, none⟩) x0_1.length co5) x0_1 x5_1 oki [.int .i64 (x1_1), .int .i64 (wrap64 (x1_1 + 1)), .int .i64 (wrap64 ((wrap64 (x1_1 + 1)) + 1)), .int .i64 z.f3, .slice Ai z.f4.length ci] from hH)
      have n2_ := Aside0.mk (Kd.R_grown HR.out hgr (fun k_ hk he => (HOK.out k_ hk).2 (Option.some.inj he)))
      have n3_ := Aside0.mk (Kept.of_grown hgr HK.out (fun k_ he => (Option.some.inj he) ▸ HMg.out))
      have n4_ := Aside0.mk hbs
      clear hH hgr hbs HH HR HK HB hx_0 hx_1 hx_2 hx_3 hx_4 hf_0 hf_1 hf_2 hf_3
      have HH := n1_
      have HR := n2_
      have HK := n3_
      have HB := n4_
      clear n1_ n2_ n3_ n4_
      have hx_0 := hy_0
      have hx_1 := hy_1
      have hx_2 := hy_2
      have hx_3 := hy_3
      have hx_4 := hy_4
      have hf_0 := hg_0
      have hf_1 := hg_1
      have hf_2 := hg_2
      have hf_3 := hg_3
      clear hy_0 hy_1 hy_2 hy_3 hy_4 hg_0 hg_1 hg_2 hg_3
      go_upto_region 11 with (fail)
      have hseg := Kd.H_seg HH.out C4.out C3.out (seg := [.int .i64 (wrap64 ((wrap64 ((wrap64 (x1_1 + 1)) + 1)) + 1))]) (j := 3) (show 3 + 1 ≤ 5 from by decide) (by simp [Value.oneCell'])
      rw [show World.setCells wr2 g5 ((x5_1 : Int).toNat * (k31).sz + 3) [.int .i64 (wrap64 ((wrap64 ((wrap64 (x1_1 + 1)) + 1)) + 1))] = World.setCell wr2 ⟨g5, (x5_1 : Int).toNat * 5 + 3, none⟩ (.int .i64 (wrap64 ((wrap64 ((wrap64 (x1_1 + 1)) + 1)) + 1))) from rfl] at hseg
      have hbs : Below w0.heap.size w0 (World.setCell wr2 ⟨g5, (x5_1 : Int).toNat * 5 + 3, none⟩ (.int .i64 (wrap64 ((wrap64 ((wrap64 (x1_1 + 1)) + 1)) + 1)))) := below_set HB.out GB.out
      have hy_0 : World.cell? (World.setCell wr2 ⟨g5, (x5_1 : Int).toNat * 5 + 3, none⟩ (.int .i64 (wrap64 ((wrap64 ((wrap64 (x1_1 + 1)) + 1)) + 1)))) ⟨g5, (x5_1 : Int).toNat * 5, none⟩ = some (.int .i64 (x1_1)) := by go_simp
      have hy_1 : World.cell? (World.setCell wr2 ⟨g5, (x5_1 : Int).toNat * 5 + 3, none⟩ (.int .i64 (wrap64 ((wrap64 ((wrap64 (x1_1 + 1)) + 1)) + 1)))) ⟨g5, (x5_1 : Int).toNat * 5 + 1, none⟩ = some (.int .i64 (wrap64 (x1_1 + 1))) := by go_simp
      have hy_2 : World.cell? (World.setCell wr2 ⟨g5, (x5_1 : Int).toNat * 5 + 3, none⟩ (.int .i64 (wrap64 ((wrap64 ((wrap64 (x1_1 + 1)) + 1)) + 1)))) ⟨g5, (x5_1 : Int).toNat * 5 + 2, none⟩ = some (.int .i64 (wrap64 ((wrap64 (x1_1 + 1)) + 1))) := by go_simp
      have hy_3 : World.cell? (World.setCell wr2 ⟨g5, (x5_1 : Int).toNat * 5 + 3, none⟩ (.int .i64 (wrap64 ((wrap64 ((wrap64 (x1_1 + 1)) + 1)) + 1)))) ⟨g5, (x5_1 : Int).toNat * 5 + 3, none⟩ = some (.int .i64 (wrap64 ((wrap64 ((wrap64 (x1_1 + 1)) + 1)) + 1))) := by go_simp
      have hy_4 : World.cell? (World.setCell wr2 ⟨g5, (x5_1 : Int).toNat * 5 + 3, none⟩ (.int .i64 (wrap64 ((wrap64 ((wrap64 (x1_1 + 1)) + 1)) + 1)))) ⟨g5, (x5_1 : Int).toNat * 5 + 4, none⟩ = some (.slice Ai z.f4.length ci) := by go_simp
      have hg_0 : World.frozen? (World.setCell wr2 ⟨g5, (x5_1 : Int).toNat * 5 + 3, none⟩ (.int .i64 (wrap64 ((wrap64 ((wrap64 (x1_1 + 1)) + 1)) + 1)))) ⟨g5, (x5_1 : Int).toNat * 5, none⟩ = false := by go_simp
      have hg_1 : World.frozen? (World.setCell wr2 ⟨g5, (x5_1 : Int).toNat * 5 + 3, none⟩ (.int .i64 (wrap64 ((wrap64 ((wrap64 (x1_1 + 1)) + 1)) + 1)))) ⟨g5, (x5_1 : Int).toNat * 5 + 1, none⟩ = false := by go_simp
      have hg_2 : World.frozen? (World.setCell wr2 ⟨g5, (x5_1 : Int).toNat * 5 + 3, none⟩ (.int .i64 (wrap64 ((wrap64 ((wrap64 (x1_1 + 1)) + 1)) + 1)))) ⟨g5, (x5_1 : Int).toNat * 5 + 2, none⟩ = false := by go_simp
      have hg_3 : World.frozen? (World.setCell wr2 ⟨g5, (x5_1 : Int).toNat * 5 + 3, none⟩ (.int .i64 (wrap64 ((wrap64 ((wrap64 (x1_1 + 1)) + 1)) + 1)))) ⟨g5, (x5_1 : Int).toNat * 5 + 3, none⟩ = false := by go_simp
      generalize World.setCell wr2 ⟨g5, (x5_1 : Int).toNat * 5 + 3, none⟩ (.int .i64 (wrap64 ((wrap64 ((wrap64 (x1_1 + 1)) + 1)) + 1))) = wr3 at hseg hbs hy_0 hy_1 hy_2 hy_3 hy_4 hg_0 hg_1 hg_2 hg_3 ⊢
      obtain ⟨hH, hgr⟩ := hseg
      have n1_ := Aside0.mk (show Kd.H k31 31 wr3 w0.heap.size (fun k_ => (P0_ k_ ∨ w.heap.size ≤ k_)) (.slice (some ⟨g5, 0, none⟩) x0_1.length co5) x0_1 x5_1 oki [.int .i64 (x1_1), .int .i64 (wrap64 (x1_1 + 1)), .int .i64 (wrap64 ((wrap64 (x1_1 + 1)) + 1)), .int .i64 (wrap64 ((wrap64 ((wrap64 (x1_1 + 1)) + 1)) + 1)), .slice Ai z.f4.length ci] from hH)
      have n2_ := Aside0.mk (Kd.R_grown HR.out hgr (fun k_ hk he => (HOK.out k_ hk).2 (Option.some.inj he)))
      have n3_ := Aside0.mk (Kept.of_grown hgr HK.out (fun k_ he => (Option.some.inj he) ▸ HMg.out))
      have n4_ := Aside0.mk hbs
      clear hH hgr hbs HH HR HK HB hx_0 hx_1 hx_2 hx_3 hx_4 hf_0 hf_1 hf_2 hf_3
      have HH := n1_
      have HR := n2_
      have HK := n3_
      have HB := n4_
      clear n1_ n2_ n3_ n4_
      have hx_0 := hy_0
      have hx_1 := hy_1
      have hx_2 := hy_2
      have hx_3 := hy_3
      have hx_4 := hy_4
      have hf_0 := hg_0
      have hf_1 := hg_1
      have hf_2 := hg_2
      have hf_3 := hg_3
      clear hy_0 hy_1 hy_2 hy_3 hy_4 hg_0 hg_1 hg_2 hg_3
      go_wp2_with (first | ((with_reducible refine gate_callee (f := 18) rfl ?_); refine goesL_ (some 46) rfl rfl Try.func18 (by kernel_rfl) rfl #[.slice Ai z.f4.length ci, .int .i64 (wrap64 ((wrap64 ((wrap64 ((wrap64 (x1_1 + 1)) + 1)) + 1)) + 1))] rfl (by (try simp only [List.map_toArray, List.map_cons, List.map_nil]); first | done | rfl) ?_; (with_reducible refine (laws_markIntS.calls k1 oki (.slice Ai z.f4.length ci) z.f4 (wrap64 ((wrap64 ((wrap64 ((wrap64 (x1_1 + 1)) + 1)) + 1)) + 1)) t1 t2 w0 wr3 HB.out HR.out A3.out).mono ?_); rintro e w9 ⟨rfl, hR9, hB9, hK9⟩; refine ⟨_, rfl, ?_⟩; have HR9 := Aside0.mk hR9; have HB9 := Aside0.mk hB9; have HK9 := Aside0.mk hK9; clear hR9 hB9 hK9))
      have HS9 : Aside0 (Kd.S k31 31 w9 w0.heap.size (fun k_ => (P0_ k_ ∨ w.heap.size ≤ k_)) (.slice (some ⟨g5, 0, none⟩) x0_1.length co5) (x0_1.set (x5_1 : Int).toNat (⟨x1_1, wrap64 (x1_1 + 1), wrap64 ((wrap64 (x1_1 + 1)) + 1), wrap64 ((wrap64 ((wrap64 (x1_1 + 1)) + 1)) + 1), t2⟩ : S31))) := ⟨by
        have hH9 := Kd.H_kept (Kd.H_widen HH.out) HK9.out (fun k_ _ hn hs => hn (.inl hs))
        refine Kd.H_back hH9 (okp := fun k_ => oki k_ ∨ wr3.heap.size ≤ k_) (k31_mkM _ _ _ (⟨x1_1, wrap64 (x1_1 + 1), wrap64 ((wrap64 (x1_1 + 1)) + 1), wrap64 ((wrap64 ((wrap64 (x1_1 + 1)) + 1)) + 1), t2⟩ : S31) HR9.out) (fun k_ hk => hk.elim .inl (fun hge => .inr ⟨.inr (Nat.le_trans HK.out.1 hge), hge⟩))⟩
      have HK' := Aside0.mk (Kept.then_ HK.out HK9.out (fun k_ hk => (HOK.out k_ hk).1))
      clear HK HB HR9 HK9 HH HR HOK
      have HB := HB9
      have HK := HK'
      clear HB9 HK'
      go_roundg k1
      case measure => have := HK1.out; omega
      case rel => exact ⟨x0_1.set (x5_1 : Int).toNat (⟨x1_1, wrap64 (x1_1 + 1), wrap64 ((wrap64 (x1_1 + 1)) + 1), wrap64 ((wrap64 ((wrap64 (x1_1 + 1)) + 1)) + 1), t2⟩ : S31), t1, wrap64 (x5_1 + 1), (by first | rfl | (simp; done)), (by first | rfl | (simp; done) | (simp [*]; done)), H', ⟨by have := HK1.out; omega⟩, ⟨by simpa using HS9.out⟩, HK, HB⟩

/-! ### laws_heldIntS: function 121 -/
def laws_heldIntS.l0 : Nat → List Int → Int → Int → Option (Int)
  | 0, _, _, _ => none
  | k + 1, x0, x1, x5 => if x5 < (x0.length : Int) then (if 0 ≤ x5 then (if (rd x0 x5) = x1 then (laws_heldIntS.l0 k x0 (wrap64 (x1 + 1)) (wrap64 (x5 + 1))) else (some (-1))) else (none)) else (some x1)
def laws_heldIntS.f (k : Nat) (l0 : List Int) (a1 : Int) : Option (Int) := laws_heldIntS.l0 k l0 a1 0
theorem laws_heldIntS.mono_l : ∀ k, (∀ y0 y1 y2, LeO (laws_heldIntS.l0 k y0 y1 y2) (laws_heldIntS.l0 (k + 1) y0 y1 y2))
  | 0 => fun _ _ _ r h => by simp [laws_heldIntS.l0] at h
  | k + 1 => by
    have ih0 := laws_heldIntS.mono_l k
    · intro y0 y1 y2
      unfold laws_heldIntS.l0
      repeat' first
      | (with_reducible exact ih0 _ _ _)
      | (with_reducible exact LeO.refl _)
      | (with_reducible exact LeO.none _)
      | (with_reducible refine LeO.ite ?_ ?_)
      | (with_reducible refine LeO.bind ?_ (fun _ => ?_))
      | exact ih0 _ _ _
      | exact LeO.none _
      | refine LeO.ite ?_ ?_
      | refine LeO.bind ?_ (fun _ => ?_)
theorem laws_heldIntS.mono : ∀ a0 a1 k, LeO (laws_heldIntS.f k a0 a1) (laws_heldIntS.f (k + 1) a0 a1) := by
  intro a0 a1 k
  have ih0 := laws_heldIntS.mono_l k
  unfold laws_heldIntS.f
  repeat' first
      | (with_reducible exact ih0 _ _ _)
      | (with_reducible exact LeO.refl _)
      | (with_reducible exact LeO.none _)
      | (with_reducible refine LeO.ite ?_ ?_)
      | (with_reducible refine LeO.bind ?_ (fun _ => ?_))
      | exact ih0 _ _ _
      | exact LeO.none _
      | refine LeO.ite ?_ ?_
      | refine LeO.bind ?_ (fun _ => ?_)
set_option maxHeartbeats 8000000 in
set_option maxRecDepth 100000 in
theorem laws_heldIntS.calls (k : Nat) (A0 : Option Addr) (c0 : Nat) (l0 : List Int) (a1 : Int) (r : Int) (w : World) (hr0 : Kd.C (Kd.int .i64) w A0 l0.length l0) (hc0 : l0.length ≤ c0) (h : laws_heldIntS.f k l0 a1 = some r) :
    Calls Try.prog 121 #[.slice A0 l0.length c0, .int .i64 a1] w fun e w' => e = .returned (.int .i64 r) ∧ Drawn0 w w' := by
  have HR0 := Aside0.mk hr0
  have HC0 := Aside0.mk hc0
  clear hr0 hc0
  have H : (laws_heldIntS.l0 k l0 a1 0) = some r := h
  clear h
  have H' := Aside0.mk H
  clear H
  go_enter Try.func121, Try.ntmps121
  go_wp2
  go_loopg [1, 5] k (fun kq v1 v5 w' => ∃ (x1_1 : Int) (x5_1 : Int), v1 = .int .i64 x1_1 ∧ v5 = .int .i64 x5_1 ∧ Aside0 (laws_heldIntS.l0 kq l0 x1_1 x5_1 = some r) ∧ Aside0 (kq ≤ k) ∧ Drawn0 w w')
  case atStart => exact ⟨(a1), (0), (by first | rfl | (simp; done) | (simp [*]; done)), (by first | rfl | (simp; done) | (simp [*]; done)), H', ⟨Nat.le_refl _⟩, by repeat (first | exact Drawn0.refl _ | apply Drawn0.step)⟩
  case round =>
    clear H'
    try clear c1
    try clear p2
    obtain ⟨x1_1, x5_1, rfl, rfl, HA, HK1, ⟨m1, rfl⟩⟩ := hrel
    cases gk with
    | zero => exact absurd HA.out (by simp [laws_heldIntS.l0])
    | succ k1 =>
      have H := HA.out
      clear HA
      simp only [laws_heldIntS.l0] at H
      by_cases c3 : x5_1 < (l0.length : Int)
      · rw [if_pos c3] at H
        have c3b0 : decide (x5_1 < (l0.length : Int)) = true := decide_eq_true c3
        clear c3
        by_cases c4 : 0 ≤ x5_1
        · rw [if_pos c4] at H
          have c4b0 : decide (0 ≤ x5_1) = true := decide_eq_true c4
          clear c4
          by_cases c5 : (rd l0 x5_1) = x1_1
          · rw [if_pos c5] at H
            have c5b0 : ((rd l0 x5_1) == x1_1) = true := beq_iff_eq.mpr c5
            have c5b1 : ((rd l0 x5_1) != x1_1) = false := bne_eq_false_iff_eq.mpr c5
            clear c5
            have H' := Aside0.mk H
            clear H
            have p172 : 0 ≤ (x5_1 : Int) := of_decide_eq_true (by first | (with_reducible assumption) | assumption)
            have q172 : x5_1 < (l0.length : Int) := of_decide_eq_true (by first | (with_reducible assumption) | assumption)
            obtain ⟨ad172, e172, hx172_0⟩ := Kd.at_int HR0.out x5_1 p172 q172
            cases e172
            replace p172 := eq_true p172
            replace q172 := eq_true q172
            go_wp2
            go_roundg k1
            case measure => have := HK1.out; omega
            case rel => exact ⟨(wrap64 (x1_1 + 1)), (wrap64 (x5_1 + 1)), (by first | rfl | (simp; done) | (simp [*]; done)), (by first | rfl | (simp; done) | (simp [*]; done)), H', ⟨by have := HK1.out; omega⟩, by repeat (first | exact Drawn0.refl _ | apply Drawn0.step)⟩
          · rw [if_neg c5] at H
            have c5b0 : ((rd l0 x5_1) == x1_1) = false := beq_eq_false_iff_ne.mpr c5
            have c5b1 : ((rd l0 x5_1) != x1_1) = true := bne_iff_ne.mpr c5
            obtain rfl := Option.some.inj H
            have p172 : 0 ≤ (x5_1 : Int) := of_decide_eq_true (by first | (with_reducible assumption) | assumption)
            have q172 : x5_1 < (l0.length : Int) := of_decide_eq_true (by first | (with_reducible assumption) | assumption)
            obtain ⟨ad172, e172, hx172_0⟩ := Kd.at_int HR0.out x5_1 p172 q172
            cases e172
            replace p172 := eq_true p172
            replace q172 := eq_true q172
            go_wp2
            go_ret
            exact ⟨by first | rfl | (simp; done) | (simp [*]; done), by repeat (first | exact Drawn0.refl _ | apply Drawn0.step)⟩
        · rw [if_neg c4] at H
          exact absurd H (by simp)
      · rw [if_neg c3] at H
        have c3b0 : decide (x5_1 < (l0.length : Int)) = false := decide_eq_false c3
        clear c3
        obtain rfl := Option.some.inj H
        go_wp2
        go_ret
        exact ⟨by first | rfl | (simp; done) | (simp [*]; done), by repeat (first | exact Drawn0.refl _ | apply Drawn0.step)⟩

/-! ### laws_heldImageS: function 61 -/
def laws_heldImageS.l0 : Nat → List (S31) → Int → Int → Option (Int)
  | 0, _, _, _ => none
  | k + 1, x0, x1, x5 => if x5 < (x0.length : Int) then (if 0 ≤ x5 then (if ((rd_T31 x0 x5).f0) = x1 then (if ((rd_T31 x0 x5).f1) = (wrap64 (x1 + 1)) then (if ((rd_T31 x0 x5).f2) = (wrap64 ((wrap64 (x1 + 1)) + 1)) then (if ((rd_T31 x0 x5).f3) = (wrap64 ((wrap64 ((wrap64 (x1 + 1)) + 1)) + 1)) then ((laws_heldIntS.f k ((rd_T31 x0 x5).f4) (wrap64 ((wrap64 ((wrap64 ((wrap64 (x1 + 1)) + 1)) + 1)) + 1))).bind fun t178 => (if t178 < 0 then (some (-1)) else (laws_heldImageS.l0 k x0 t178 (wrap64 (x5 + 1))))) else (some (-1))) else (some (-1))) else (some (-1))) else (some (-1))) else (none)) else (some x1)
def laws_heldImageS.f (k : Nat) (l0 : List (S31)) (a1 : Int) : Option (Int) := laws_heldImageS.l0 k l0 a1 0
theorem laws_heldImageS.mono_l : ∀ k, (∀ y0 y1 y2, LeO (laws_heldImageS.l0 k y0 y1 y2) (laws_heldImageS.l0 (k + 1) y0 y1 y2))
  | 0 => fun _ _ _ r h => by simp [laws_heldImageS.l0] at h
  | k + 1 => by
    have ih0 := laws_heldImageS.mono_l k
    · intro y0 y1 y2
      unfold laws_heldImageS.l0
      repeat' first
      | (with_reducible exact ih0 _ _ _)
      | (with_reducible exact laws_heldIntS.mono _ _ _)
      | (with_reducible exact LeO.refl _)
      | (with_reducible exact LeO.none _)
      | (with_reducible refine LeO.ite ?_ ?_)
      | (with_reducible refine LeO.bind ?_ (fun _ => ?_))
      | exact ih0 _ _ _
      | exact laws_heldIntS.mono _ _ _
      | exact LeO.none _
      | refine LeO.ite ?_ ?_
      | refine LeO.bind ?_ (fun _ => ?_)
theorem laws_heldImageS.mono : ∀ a0 a1 k, LeO (laws_heldImageS.f k a0 a1) (laws_heldImageS.f (k + 1) a0 a1) := by
  intro a0 a1 k
  have ih0 := laws_heldImageS.mono_l k
  unfold laws_heldImageS.f
  repeat' first
      | (with_reducible exact ih0 _ _ _)
      | (with_reducible exact laws_heldIntS.mono _ _ _)
      | (with_reducible exact LeO.refl _)
      | (with_reducible exact LeO.none _)
      | (with_reducible refine LeO.ite ?_ ?_)
      | (with_reducible refine LeO.bind ?_ (fun _ => ?_))
      | exact ih0 _ _ _
      | exact laws_heldIntS.mono _ _ _
      | exact LeO.none _
      | refine LeO.ite ?_ ?_
      | refine LeO.bind ?_ (fun _ => ?_)
set_option maxHeartbeats 8000000 in
set_option maxRecDepth 100000 in
theorem laws_heldImageS.calls (k : Nat) (A0 : Option Addr) (c0 : Nat) (l0 : List (S31)) (a1 : Int) (r : Int) (w : World) (hr0 : Kd.C k31 w A0 l0.length l0) (hc0 : l0.length ≤ c0) (h : laws_heldImageS.f k l0 a1 = some r) :
    Calls Try.prog 61 #[.slice A0 l0.length c0, .int .i64 a1] w fun e w' => e = .returned (.int .i64 r) ∧ Drawn0 w w' := by
  have HR0 := Aside0.mk hr0
  have HC0 := Aside0.mk hc0
  clear hr0 hc0
  have H : (laws_heldImageS.l0 k l0 a1 0) = some r := h
  clear h
  have H' := Aside0.mk H
  clear H
  go_enter Try.func61, Try.ntmps61
  go_wp2
  go_loopg [1, 5] k (fun kq v1 v5 w' => ∃ (x1_1 : Int) (x5_1 : Int), v1 = .int .i64 x1_1 ∧ v5 = .int .i64 x5_1 ∧ Aside0 (laws_heldImageS.l0 kq l0 x1_1 x5_1 = some r) ∧ Aside0 (kq ≤ k) ∧ Drawn0 w w')
  case atStart => exact ⟨(a1), (0), (by first | rfl | (simp; done) | (simp [*]; done)), (by first | rfl | (simp; done) | (simp [*]; done)), H', ⟨Nat.le_refl _⟩, by repeat (first | exact Drawn0.refl _ | apply Drawn0.step)⟩
  case round =>
    clear H'
    try clear p2
    obtain ⟨x1_1, x5_1, rfl, rfl, HA, HK1, ⟨m1, rfl⟩⟩ := hrel
    cases gk with
    | zero => exact absurd HA.out (by simp [laws_heldImageS.l0])
    | succ k1 =>
      have H := HA.out
      clear HA
      simp only [laws_heldImageS.l0] at H
      by_cases c3 : x5_1 < (l0.length : Int)
      rotate_left
      · rw [if_neg c3] at H
        have c3b0 : decide (x5_1 < (l0.length : Int)) = false := decide_eq_false c3
        clear c3
        obtain rfl := Option.some.inj H
        go_wp2
        go_ret
        exact ⟨by first | rfl | (simp; done) | (simp [*]; done), by repeat (first | exact Drawn0.refl _ | apply Drawn0.step)⟩
      rw [if_pos c3] at H
      have c3b0 : decide (x5_1 < (l0.length : Int)) = true := decide_eq_true c3
      clear c3
      by_cases c4 : 0 ≤ x5_1
      rotate_left
      · rw [if_neg c4] at H
        exact absurd H (by simp)
      rw [if_pos c4] at H
      have c4b0 : decide (0 ≤ x5_1) = true := decide_eq_true c4
      clear c4
      by_cases c5 : ((rd_T31 l0 x5_1).f0) = x1_1
      rotate_left
      · rw [if_neg c5] at H
        have c5b0 : (((rd_T31 l0 x5_1).f0) == x1_1) = false := beq_eq_false_iff_ne.mpr c5
        have c5b1 : (((rd_T31 l0 x5_1).f0) != x1_1) = true := bne_iff_ne.mpr c5
        obtain rfl := Option.some.inj H
        have p173 : 0 ≤ (x5_1 : Int) := of_decide_eq_true (by first | (with_reducible assumption) | assumption)
        have q173 : x5_1 < (l0.length : Int) := of_decide_eq_true (by first | (with_reducible assumption) | assumption)
        obtain ⟨ad173, A173_4, c173_4, e173, hx173_0, hx173_1, hx173_2, hx173_3, hx173_4, hl173_4, hi173_4⟩ := at_T31 HR0.out x5_1 p173 q173
        cases e173
        have HR173_4 := Aside0.mk hi173_4
        have HC173_4 := Aside0.mk hl173_4
        clear hi173_4 hl173_4
        replace p173 := eq_true p173
        replace q173 := eq_true q173
        go_wp2
        go_ret
        exact ⟨by first | rfl | (simp; done) | (simp [*]; done), by repeat (first | exact Drawn0.refl _ | apply Drawn0.step)⟩
      rw [if_pos c5] at H
      have c5b0 : (((rd_T31 l0 x5_1).f0) == x1_1) = true := beq_iff_eq.mpr c5
      have c5b1 : (((rd_T31 l0 x5_1).f0) != x1_1) = false := bne_eq_false_iff_eq.mpr c5
      clear c5
      by_cases c6 : ((rd_T31 l0 x5_1).f1) = (wrap64 (x1_1 + 1))
      rw [if_pos c6] at H
      have c6b0 : (((rd_T31 l0 x5_1).f1) == (wrap64 (x1_1 + 1))) = true := beq_iff_eq.mpr c6
      have c6b1 : (((rd_T31 l0 x5_1).f1) != (wrap64 (x1_1 + 1))) = false := bne_eq_false_iff_eq.mpr c6
      clear c6
      by_cases c7 : ((rd_T31 l0 x5_1).f2) = (wrap64 ((wrap64 (x1_1 + 1)) + 1))
      rw [if_pos c7] at H
      have c7b0 : (((rd_T31 l0 x5_1).f2) == (wrap64 ((wrap64 (x1_1 + 1)) + 1))) = true := beq_iff_eq.mpr c7
      have c7b1 : (((rd_T31 l0 x5_1).f2) != (wrap64 ((wrap64 (x1_1 + 1)) + 1))) = false := bne_eq_false_iff_eq.mpr c7
      clear c7
      by_cases c8 : ((rd_T31 l0 x5_1).f3) = (wrap64 ((wrap64 ((wrap64 (x1_1 + 1)) + 1)) + 1))
      rw [if_pos c8] at H
      have c8b0 : (((rd_T31 l0 x5_1).f3) == (wrap64 ((wrap64 ((wrap64 (x1_1 + 1)) + 1)) + 1))) = true := beq_iff_eq.mpr c8
      have c8b1 : (((rd_T31 l0 x5_1).f3) != (wrap64 ((wrap64 ((wrap64 (x1_1 + 1)) + 1)) + 1))) = false := bne_eq_false_iff_eq.mpr c8
      clear c8
      replace H := Option.bind_eq_some_iff.mp H
      obtain ⟨t178, A90, H⟩ := H
      replace H : (if t178 < 0 then (some (-1)) else (laws_heldImageS.l0 k1 l0 t178 (wrap64 (x5_1 + 1)))) = some r := H
      have A9 := Aside0.mk A90
      clear A90
      by_cases c10 : t178 < 0
      rw [if_pos c10] at H
      have c10b0 : decide (t178 < 0) = true := decide_eq_true c10
      clear c10
      obtain rfl := Option.some.inj H
      rotate_left
      rw [if_neg c10] at H
      have c10b0 : decide (t178 < 0) = false := decide_eq_false c10
      clear c10
      have H' := Aside0.mk H
      clear H
      rotate_left
      rw [if_neg c8] at H
      have c8b0 : (((rd_T31 l0 x5_1).f3) == (wrap64 ((wrap64 ((wrap64 (x1_1 + 1)) + 1)) + 1))) = false := beq_eq_false_iff_ne.mpr c8
      have c8b1 : (((rd_T31 l0 x5_1).f3) != (wrap64 ((wrap64 ((wrap64 (x1_1 + 1)) + 1)) + 1))) = true := bne_iff_ne.mpr c8
      obtain rfl := Option.some.inj H
      rotate_left
      rw [if_neg c7] at H
      have c7b0 : (((rd_T31 l0 x5_1).f2) == (wrap64 ((wrap64 (x1_1 + 1)) + 1))) = false := beq_eq_false_iff_ne.mpr c7
      have c7b1 : (((rd_T31 l0 x5_1).f2) != (wrap64 ((wrap64 (x1_1 + 1)) + 1))) = true := bne_iff_ne.mpr c7
      obtain rfl := Option.some.inj H
      rotate_left
      rw [if_neg c6] at H
      have c6b0 : (((rd_T31 l0 x5_1).f1) == (wrap64 (x1_1 + 1))) = false := beq_eq_false_iff_ne.mpr c6
      have c6b1 : (((rd_T31 l0 x5_1).f1) != (wrap64 (x1_1 + 1))) = true := bne_iff_ne.mpr c6
      obtain rfl := Option.some.inj H
      all_goals
        have p173 : 0 ≤ (x5_1 : Int) := of_decide_eq_true (by first | (with_reducible assumption) | assumption)
        have q173 : x5_1 < (l0.length : Int) := of_decide_eq_true (by first | (with_reducible assumption) | assumption)
        obtain ⟨ad173, A173_4, c173_4, e173, hx173_0, hx173_1, hx173_2, hx173_3, hx173_4, hl173_4, hi173_4⟩ := at_T31 HR0.out x5_1 p173 q173
        cases e173
        have HR173_4 := Aside0.mk hi173_4
        have HC173_4 := Aside0.mk hl173_4
        clear hi173_4 hl173_4
        replace p173 := eq_true p173
        replace q173 := eq_true q173
        have p174 : 0 ≤ (x5_1 : Int) := of_decide_eq_true (by first | (with_reducible assumption) | assumption)
        have q174 : x5_1 < (l0.length : Int) := of_decide_eq_true (by first | (with_reducible assumption) | assumption)
        obtain ⟨ad174, A174_4, c174_4, e174, hx174_0, hx174_1, hx174_2, hx174_3, hx174_4, hl174_4, hi174_4⟩ := at_T31 HR0.out x5_1 p174 q174
        obtain rfl : ad173 = ad174 := (by injection e174)
        have HR174_4 := Aside0.mk hi174_4
        have HC174_4 := Aside0.mk hl174_4
        clear hi174_4 hl174_4
        replace p174 := eq_true p174
        replace q174 := eq_true q174
        have ea_ := Option.some.inj (hx173_4.symm.trans hx174_4)
        injection ea_ with ea_ en_ ec_
        subst ea_
        subst ec_
        clear en_
      · go_wp2
        go_ret
        exact ⟨by first | rfl | (simp; done) | (simp [*]; done), by repeat (first | exact Drawn0.refl _ | apply Drawn0.step)⟩
      · have p175 : 0 ≤ (x5_1 : Int) := of_decide_eq_true (by first | (with_reducible assumption) | assumption)
        have q175 : x5_1 < (l0.length : Int) := of_decide_eq_true (by first | (with_reducible assumption) | assumption)
        obtain ⟨ad175, A175_4, c175_4, e175, hx175_0, hx175_1, hx175_2, hx175_3, hx175_4, hl175_4, hi175_4⟩ := at_T31 HR0.out x5_1 p175 q175
        obtain rfl : ad173 = ad175 := (by injection e175)
        have HR175_4 := Aside0.mk hi175_4
        have HC175_4 := Aside0.mk hl175_4
        clear hi175_4 hl175_4
        replace p175 := eq_true p175
        replace q175 := eq_true q175
        have ea_ := Option.some.inj (hx173_4.symm.trans hx175_4)
        injection ea_ with ea_ en_ ec_
        subst ea_
        subst ec_
        clear en_
        have p176 : 0 ≤ (x5_1 : Int) := of_decide_eq_true (by first | (with_reducible assumption) | assumption)
        have q176 : x5_1 < (l0.length : Int) := of_decide_eq_true (by first | (with_reducible assumption) | assumption)
        obtain ⟨ad176, A176_4, c176_4, e176, hx176_0, hx176_1, hx176_2, hx176_3, hx176_4, hl176_4, hi176_4⟩ := at_T31 HR0.out x5_1 p176 q176
        obtain rfl : ad173 = ad176 := (by injection e176)
        have HR176_4 := Aside0.mk hi176_4
        have HC176_4 := Aside0.mk hl176_4
        clear hi176_4 hl176_4
        replace p176 := eq_true p176
        replace q176 := eq_true q176
        have ea_ := Option.some.inj (hx173_4.symm.trans hx176_4)
        injection ea_ with ea_ en_ ec_
        subst ea_
        subst ec_
        clear en_
        have p177 : 0 ≤ (x5_1 : Int) := of_decide_eq_true (by first | (with_reducible assumption) | assumption)
        have q177 : x5_1 < (l0.length : Int) := of_decide_eq_true (by first | (with_reducible assumption) | assumption)
        obtain ⟨ad177, A177_4, c177_4, e177, hx177_0, hx177_1, hx177_2, hx177_3, hx177_4, hl177_4, hi177_4⟩ := at_T31 HR0.out x5_1 p177 q177
        obtain rfl : ad173 = ad177 := (by injection e177)
        have HR177_4 := Aside0.mk hi177_4
        have HC177_4 := Aside0.mk hl177_4
        clear hi177_4 hl177_4
        replace p177 := eq_true p177
        replace q177 := eq_true q177
        have ea_ := Option.some.inj (hx173_4.symm.trans hx177_4)
        injection ea_ with ea_ en_ ec_
        subst ea_
        subst ec_
        clear en_
        go_wp2_with (first | ((with_reducible refine gate_callee (f := 121) rfl ?_); refine goesL_ (some 54) rfl rfl Try.func121 (by kernel_rfl) rfl #[.slice A173_4 ((rd_T31 l0 x5_1).f4).length c173_4, .int .i64 (wrap64 ((wrap64 ((wrap64 ((wrap64 (x1_1 + 1)) + 1)) + 1)) + 1))] rfl (by (try simp only [List.map_toArray, List.map_cons, List.map_nil]); first | done | rfl | (simp only [List.length_drop, List.length_take]; rfl)) ?_; (with_reducible refine (laws_heldIntS.calls k1 _ _ ((rd_T31 l0 x5_1).f4) (wrap64 ((wrap64 ((wrap64 ((wrap64 (x1_1 + 1)) + 1)) + 1)) + 1)) t178 _ ?side1 ?side2 A9.out).mono ?_); (case side1 => repeat (first | exact HR177_4.out | (with_reducible refine Kd.C_alloc ?_ _) | (with_reducible refine Kd.C_drewN ?_ _) | (with_reducible refine Kd.C_drew ?_))); (case side2 => exact HC177_4.out); rintro e w' ⟨rfl, ⟨nd, rfl⟩⟩; refine ⟨_, rfl, ?_⟩))
        go_ret
        exact ⟨by first | rfl | (simp; done) | (simp [*]; done), by repeat (first | exact Drawn0.refl _ | apply Drawn0.step)⟩
      · have p175 : 0 ≤ (x5_1 : Int) := of_decide_eq_true (by first | (with_reducible assumption) | assumption)
        have q175 : x5_1 < (l0.length : Int) := of_decide_eq_true (by first | (with_reducible assumption) | assumption)
        obtain ⟨ad175, A175_4, c175_4, e175, hx175_0, hx175_1, hx175_2, hx175_3, hx175_4, hl175_4, hi175_4⟩ := at_T31 HR0.out x5_1 p175 q175
        obtain rfl : ad173 = ad175 := (by injection e175)
        have HR175_4 := Aside0.mk hi175_4
        have HC175_4 := Aside0.mk hl175_4
        clear hi175_4 hl175_4
        replace p175 := eq_true p175
        replace q175 := eq_true q175
        have ea_ := Option.some.inj (hx173_4.symm.trans hx175_4)
        injection ea_ with ea_ en_ ec_
        subst ea_
        subst ec_
        clear en_
        have p176 : 0 ≤ (x5_1 : Int) := of_decide_eq_true (by first | (with_reducible assumption) | assumption)
        have q176 : x5_1 < (l0.length : Int) := of_decide_eq_true (by first | (with_reducible assumption) | assumption)
        obtain ⟨ad176, A176_4, c176_4, e176, hx176_0, hx176_1, hx176_2, hx176_3, hx176_4, hl176_4, hi176_4⟩ := at_T31 HR0.out x5_1 p176 q176
        obtain rfl : ad173 = ad176 := (by injection e176)
        have HR176_4 := Aside0.mk hi176_4
        have HC176_4 := Aside0.mk hl176_4
        clear hi176_4 hl176_4
        replace p176 := eq_true p176
        replace q176 := eq_true q176
        have ea_ := Option.some.inj (hx173_4.symm.trans hx176_4)
        injection ea_ with ea_ en_ ec_
        subst ea_
        subst ec_
        clear en_
        have p177 : 0 ≤ (x5_1 : Int) := of_decide_eq_true (by first | (with_reducible assumption) | assumption)
        have q177 : x5_1 < (l0.length : Int) := of_decide_eq_true (by first | (with_reducible assumption) | assumption)
        obtain ⟨ad177, A177_4, c177_4, e177, hx177_0, hx177_1, hx177_2, hx177_3, hx177_4, hl177_4, hi177_4⟩ := at_T31 HR0.out x5_1 p177 q177
        obtain rfl : ad173 = ad177 := (by injection e177)
        have HR177_4 := Aside0.mk hi177_4
        have HC177_4 := Aside0.mk hl177_4
        clear hi177_4 hl177_4
        replace p177 := eq_true p177
        replace q177 := eq_true q177
        have ea_ := Option.some.inj (hx173_4.symm.trans hx177_4)
        injection ea_ with ea_ en_ ec_
        subst ea_
        subst ec_
        clear en_
        go_wp2_with (first | ((with_reducible refine gate_callee (f := 121) rfl ?_); refine goesL_ (some 54) rfl rfl Try.func121 (by kernel_rfl) rfl #[.slice A173_4 ((rd_T31 l0 x5_1).f4).length c173_4, .int .i64 (wrap64 ((wrap64 ((wrap64 ((wrap64 (x1_1 + 1)) + 1)) + 1)) + 1))] rfl (by (try simp only [List.map_toArray, List.map_cons, List.map_nil]); first | done | rfl | (simp only [List.length_drop, List.length_take]; rfl)) ?_; (with_reducible refine (laws_heldIntS.calls k1 _ _ ((rd_T31 l0 x5_1).f4) (wrap64 ((wrap64 ((wrap64 ((wrap64 (x1_1 + 1)) + 1)) + 1)) + 1)) t178 _ ?side1 ?side2 A9.out).mono ?_); (case side1 => repeat (first | exact HR177_4.out | (with_reducible refine Kd.C_alloc ?_ _) | (with_reducible refine Kd.C_drewN ?_ _) | (with_reducible refine Kd.C_drew ?_))); (case side2 => exact HC177_4.out); rintro e w' ⟨rfl, ⟨nd, rfl⟩⟩; refine ⟨_, rfl, ?_⟩))
        go_roundg k1
        case measure => have := HK1.out; omega
        case rel => exact ⟨(t178), (wrap64 (x5_1 + 1)), (by first | rfl | (simp; done) | (simp [*]; done)), (by first | rfl | (simp; done) | (simp [*]; done)), H', ⟨by have := HK1.out; omega⟩, by repeat (first | exact Drawn0.refl _ | apply Drawn0.step)⟩
      · have p175 : 0 ≤ (x5_1 : Int) := of_decide_eq_true (by first | (with_reducible assumption) | assumption)
        have q175 : x5_1 < (l0.length : Int) := of_decide_eq_true (by first | (with_reducible assumption) | assumption)
        obtain ⟨ad175, A175_4, c175_4, e175, hx175_0, hx175_1, hx175_2, hx175_3, hx175_4, hl175_4, hi175_4⟩ := at_T31 HR0.out x5_1 p175 q175
        obtain rfl : ad173 = ad175 := (by injection e175)
        have HR175_4 := Aside0.mk hi175_4
        have HC175_4 := Aside0.mk hl175_4
        clear hi175_4 hl175_4
        replace p175 := eq_true p175
        replace q175 := eq_true q175
        have ea_ := Option.some.inj (hx173_4.symm.trans hx175_4)
        injection ea_ with ea_ en_ ec_
        subst ea_
        subst ec_
        clear en_
        have p176 : 0 ≤ (x5_1 : Int) := of_decide_eq_true (by first | (with_reducible assumption) | assumption)
        have q176 : x5_1 < (l0.length : Int) := of_decide_eq_true (by first | (with_reducible assumption) | assumption)
        obtain ⟨ad176, A176_4, c176_4, e176, hx176_0, hx176_1, hx176_2, hx176_3, hx176_4, hl176_4, hi176_4⟩ := at_T31 HR0.out x5_1 p176 q176
        obtain rfl : ad173 = ad176 := (by injection e176)
        have HR176_4 := Aside0.mk hi176_4
        have HC176_4 := Aside0.mk hl176_4
        clear hi176_4 hl176_4
        replace p176 := eq_true p176
        replace q176 := eq_true q176
        have ea_ := Option.some.inj (hx173_4.symm.trans hx176_4)
        injection ea_ with ea_ en_ ec_
        subst ea_
        subst ec_
        clear en_
        go_wp2
        go_ret
        exact ⟨by first | rfl | (simp; done) | (simp [*]; done), by repeat (first | exact Drawn0.refl _ | apply Drawn0.step)⟩
      · have p175 : 0 ≤ (x5_1 : Int) := of_decide_eq_true (by first | (with_reducible assumption) | assumption)
        have q175 : x5_1 < (l0.length : Int) := of_decide_eq_true (by first | (with_reducible assumption) | assumption)
        obtain ⟨ad175, A175_4, c175_4, e175, hx175_0, hx175_1, hx175_2, hx175_3, hx175_4, hl175_4, hi175_4⟩ := at_T31 HR0.out x5_1 p175 q175
        obtain rfl : ad173 = ad175 := (by injection e175)
        have HR175_4 := Aside0.mk hi175_4
        have HC175_4 := Aside0.mk hl175_4
        clear hi175_4 hl175_4
        replace p175 := eq_true p175
        replace q175 := eq_true q175
        have ea_ := Option.some.inj (hx173_4.symm.trans hx175_4)
        injection ea_ with ea_ en_ ec_
        subst ea_
        subst ec_
        clear en_
        go_wp2
        go_ret
        exact ⟨by first | rfl | (simp; done) | (simp [*]; done), by repeat (first | exact Drawn0.refl _ | apply Drawn0.step)⟩

end Go.Proofs.Ytggokppfhkebkaa.PFnExactSplit

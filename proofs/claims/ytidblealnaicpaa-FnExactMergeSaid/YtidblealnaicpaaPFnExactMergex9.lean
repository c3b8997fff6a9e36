-- written by myprint.py (a program of this session's over the kit's print)
import Derived.Test.YtidblealnaicpaaPFnExactMergex0
import Derived.Test.YtidblealnaicpaaPFnExactMergex1
import Derived.Test.YtidblealnaicpaaPFnExactMergex4
import Derived.Test.YtidblealnaicpaaPFnExactMergex5
import Derived.Test.YtidblealnaicpaaPFnExactMergex7
import Derived.Test.YtidblealnaicpaaPFnExactMergex8
namespace Go.Proofs.Ytidblealnaicpaa.PFnExactMerge
open Go.RowKit Go.Proofs.YtidblealnaicpaaW.PrintWords Go.Proofs.YtidblealnaicpaaW.PrintLast Go.Proofs.YtidblealnaicpaaW.PrintMore
attribute [local go_sem] max2_int min2_int max_two min_two max_three min_three max_four min_four   -- for this text's walks alone
set_option linter.unusedVariables false
set_option linter.unusedSimpArgs false

/-! ### laws_markImageS: function 27 -/
def laws_markImageS.l0 : Nat → List S35 → Int → Int → Option (Int × List S35)
  | 0, _, _, _ => none
  | k + 1, x0, x1, x5 => if x5 < (x0.length : Int) then (if 0 ≤ x5 then ((laws_markIntS.f k (rd_T35 x0 x5).f4 (wrap64 ((wrap64 ((wrap64 ((wrap64 (x1 + 1)) + 1)) + 1)) + 1))).bind fun b => laws_markImageS.l0 k (x0.set (x5 : Int).toNat (⟨x1, wrap64 (x1 + 1), wrap64 ((wrap64 (x1 + 1)) + 1), wrap64 ((wrap64 ((wrap64 (x1 + 1)) + 1)) + 1), b.2⟩ : S35)) b.1 (wrap64 (x5 + 1))) else (none)) else (some (x1, x0))
def laws_markImageS.f (k : Nat) (l0 : List S35) (a1 : Int) : Option (Int × List S35) := laws_markImageS.l0 k l0 a1 0
theorem laws_markImageS.mono_l : ∀ k, (∀ y0 y1 y2, LeO (laws_markImageS.l0 k y0 y1 y2) (laws_markImageS.l0 (k + 1) y0 y1 y2))
  | 0 => fun _ _ _ r h => by simp [laws_markImageS.l0] at h
  | k + 1 => by
    have ih0 := laws_markImageS.mono_l k
    · intro y0 y1 y2
      unfold laws_markImageS.l0
      repeat' first
      | (with_reducible exact ih0 _ _ _)
      | (with_reducible exact laws_markIntS.mono _ _ _)
      | (with_reducible exact LeO.refl _)
      | (with_reducible exact LeO.none _)
      | (with_reducible refine LeO.ite ?_ ?_)
      | (with_reducible refine LeO.bind ?_ (fun _ => ?_))
      | exact ih0 _ _ _
      | exact laws_markIntS.mono _ _ _
      | exact LeO.none _
      | refine LeO.ite ?_ ?_
      | refine LeO.bind ?_ (fun _ => ?_)
theorem laws_markImageS.mono : ∀ a0 a1 k, LeO (laws_markImageS.f k a0 a1) (laws_markImageS.f (k + 1) a0 a1) := by
  intro a0 a1 k
  have ih0 := laws_markImageS.mono_l k
  unfold laws_markImageS.f
  repeat' first
      | (with_reducible exact ih0 _ _ _)
      | (with_reducible exact laws_markIntS.mono _ _ _)
      | (with_reducible exact LeO.refl _)
      | (with_reducible exact LeO.none _)
      | (with_reducible refine LeO.ite ?_ ?_)
      | (with_reducible refine LeO.bind ?_ (fun _ => ?_))
      | exact ih0 _ _ _
      | exact laws_markIntS.mono _ _ _
      | exact LeO.none _
      | refine LeO.ite ?_ ?_
      | refine LeO.bind ?_ (fun _ => ?_)
set_option maxHeartbeats 8000000 in
set_option maxRecDepth 100000 in
theorem laws_markImageS.calls (k : Nat) (P0_ : Nat → Prop) (u9000_ : Value) (l0 : List S35) (a1 : Int) (r1 : Int) (r2 : List S35) (w0 w : World) (hB : Below w0.heap.size w0 w) (ho0 : Kd.S k35 35 w w0.heap.size P0_ u9000_ l0) (h : laws_markImageS.f k l0 a1 = some (r1, r2)) :
    Calls Try.prog 27 #[u9000_, .int .i64 a1] w fun e w' => e = .returned (.int .i64 r1) ∧ Kd.S k35 35 w' w0.heap.size (fun k_ => (P0_ k_ ∨ w.heap.size ≤ k_)) u9000_ r2 ∧ Below w0.heap.size w0 w' ∧ Kept w w' (fun k_ => P0_ k_) := by
  have hu := Try.underlying35
  have HO0 := Aside0.mk (show Kd.S k35 35 w w0.heap.size (fun k_ => (P0_ k_ ∨ w.heap.size ≤ k_)) u9000_ l0 from Kd.S_mono ho0 (fun k_ hk => (.inl hk)))
  have HK := Aside0.mk (Kept.refl w (fun k_ => P0_ k_))
  have HB := Aside0.mk hB
  clear hB ho0
  have H' := Aside0.mk (show laws_markImageS.l0 k l0 a1 0 = some (r1, r2) from h)
  clear h
  go_enter Try.func27, Try.ntmps27
  go_wp2
  go_loopg [1, 5] k (fun kq v1 v5 w' => ∃ (x0_1 : List S35) (x1_1 : Int) (x5_1 : Int), v1 = .int .i64 x1_1 ∧ v5 = .int .i64 x5_1 ∧ Aside0 (laws_markImageS.l0 kq x0_1 x1_1 x5_1 = some (r1, r2)) ∧ Aside0 (kq ≤ k) ∧ Aside0 (Kd.S k35 35 w' w0.heap.size (fun k_ => (P0_ k_ ∨ w.heap.size ≤ k_)) u9000_ x0_1) ∧ Aside0 (Kept w w' (fun k_ => P0_ k_)) ∧ Aside0 (Below w0.heap.size w0 w'))
  case atStart => exact ⟨l0, a1, 0, rfl, rfl, H', ⟨Nat.le_refl _⟩, HO0, HK, HB⟩
  case round =>
    clear H' HO0
    obtain ⟨x0_1, x1_1, x5_1, rfl, rfl, HA, HK1, HO_0, HK, HB⟩ := hrel
    cases gk with
    | zero => exact absurd HA.out (by simp [laws_markImageS.l0])
    | succ k1 =>
      have H := HA.out
      clear HA
      simp only [laws_markImageS.l0] at H
      by_cases c3 : x5_1 < (x0_1.length : Int)
      rotate_left
      · rw [if_neg c3] at H
        have c3b0 : decide (x5_1 < (x0_1.length : Int)) = false := decide_eq_false c3
        clear c3
        simp only [Option.some.injEq, Prod.mk.injEq] at H
        obtain ⟨rfl, rfl⟩ := H
        obtain ⟨Ao9, co9, eo9⟩ := Kd.S_slice HO_0.out
        subst eo9
        go_wp2
        go_ret
        exact ⟨rfl, HO_0.out, HB.out, HK.out⟩
      rw [if_pos c3] at H
      have c3b0 : decide (x5_1 < (x0_1.length : Int)) = true := decide_eq_true c3
      by_cases c4 : 0 ≤ x5_1
      rotate_left
      · rw [if_neg c4] at H
        exact absurd H (by simp)
      rw [if_pos c4] at H
      have c4b0 : decide (0 ≤ x5_1) = true := decide_eq_true c4
      obtain ⟨z, hz⟩ : ∃ z_ : S35, rd_T35 x0_1 x5_1 = z_ := ⟨_, rfl⟩
      rw [hz] at H
      replace H := Option.bind_eq_some_iff.mp H
      obtain ⟨⟨t1, t2⟩, A30, H⟩ := H
      have A3 := Aside0.mk A30
      clear A30
      have H' := Aside0.mk (show laws_markImageS.l0 k1 (x0_1.set (x5_1 : Int).toNat (⟨x1_1, wrap64 (x1_1 + 1), wrap64 ((wrap64 (x1_1 + 1)) + 1), wrap64 ((wrap64 ((wrap64 (x1_1 + 1)) + 1)) + 1), t2⟩ : S35)) t1 (wrap64 (x5_1 + 1)) = some (r1, r2) from H)
      clear H
      obtain ⟨g5, co5, eo5, gb5, gl5, cl5, HG5⟩ := Kd.S_form HO_0.out (by omega)
      subst eo5
      obtain ⟨oki, cs, hcl, hM, hcc, hfr, hoki, hH⟩ := Kd.S_elem HO_0.out z35 x5_1 c4 (by exact c3)
      rw [show x0_1.getD (x5_1 : Int).toNat z35 = z from hz] at hM
      clear hz
      obtain ⟨v5, rfl, hR⟩ := k35_openM hM
      have hx_0 : wr.cell? ⟨g5, (x5_1 : Int).toNat * 5, none⟩ = some (.int .i64 z.f0) := hcc 0 _ rfl
      have hx_1 : wr.cell? ⟨g5, (x5_1 : Int).toNat * 5 + 1, none⟩ = some (.int .i64 z.f1) := hcc 1 _ rfl
      have hx_2 : wr.cell? ⟨g5, (x5_1 : Int).toNat * 5 + 2, none⟩ = some (.int .i64 z.f2) := hcc 2 _ rfl
      have hx_3 : wr.cell? ⟨g5, (x5_1 : Int).toNat * 5 + 3, none⟩ = some (.int .i64 z.f3) := hcc 3 _ rfl
      have hx_4 : wr.cell? ⟨g5, (x5_1 : Int).toNat * 5 + 4, none⟩ = some (v5) := hcc 4 _ rfl
      have hf_0 : wr.frozen? ⟨g5, (x5_1 : Int).toNat * 5, none⟩ = false := hfr 0
      have hf_1 : wr.frozen? ⟨g5, (x5_1 : Int).toNat * 5 + 1, none⟩ = false := hfr 1
      have hf_2 : wr.frozen? ⟨g5, (x5_1 : Int).toNat * 5 + 2, none⟩ = false := hfr 2
      have hf_3 : wr.frozen? ⟨g5, (x5_1 : Int).toNat * 5 + 3, none⟩ = false := hfr 3
      have HR := Aside0.mk hR
      have HH := Aside0.mk hH
      have HOK := Aside0.mk hoki
      have HMg := Aside0.mk (show (P0_ g5 ∨ w.heap.size ≤ g5) from (Kd.S_R HO_0.out).1 _ rfl)
      clear hM hcc hfr hcl hR hH hoki HO_0 HG5 cl5
      obtain ⟨Ai, ci, ei⟩ := Kd.R_slice HR.out
      subst ei
      have C3 := Aside0.mk c3
      have C4 := Aside0.mk c4
      replace c3 := eq_true c3
      replace c4 := eq_true c4
      have GB := Aside0.mk gb5
      clear gb5 gl5
      go_upto_region 5 with (fail)
      have hseg := Kd.H_seg HH.out C4.out C3.out (seg := [.int .i64 (x1_1)]) (j := 0) (show 0 + 1 ≤ 5 from by decide) (by simp [Value.oneCell'])
      rw [show World.setCells wr g5 ((x5_1 : Int).toNat * (k35).sz + 0) [.int .i64 (x1_1)] = World.setCell wr ⟨g5, (x5_1 : Int).toNat * 5, none⟩ (.int .i64 (x1_1)) from rfl] at hseg
      have hbs : Below w0.heap.size w0 (World.setCell wr ⟨g5, (x5_1 : Int).toNat * 5, none⟩ (.int .i64 (x1_1))) := below_set HB.out GB.out
      have hy_0 : World.cell? (World.setCell wr ⟨g5, (x5_1 : Int).toNat * 5, none⟩ (.int .i64 (x1_1))) ⟨g5, (x5_1 : Int).toNat * 5, none⟩ = some (.int .i64 (x1_1)) := by go_simp
      have hy_1 : World.cell? (World.setCell wr ⟨g5, (x5_1 : Int).toNat * 5, none⟩ (.int .i64 (x1_1))) ⟨g5, (x5_1 : Int).toNat * 5 + 1, none⟩ = some (.int .i64 z.f1) := by go_simp
      have hy_2 : World.cell? (World.setCell wr ⟨g5, (x5_1 : Int).toNat * 5, none⟩ (.int .i64 (x1_1))) ⟨g5, (x5_1 : Int).toNat * 5 + 2, none⟩ = some (.int .i64 z.f2) := by go_simp
      have hy_3 : World.cell? (World.setCell wr ⟨g5, (x5_1 : Int).toNat * 5, none⟩ (.int .i64 (x1_1))) ⟨g5, (x5_1 : Int).toNat * 5 + 3, none⟩ = some (.int .i64 z.f3) := by go_simp
      have hy_4 : World.cell? (World.setCell wr ⟨g5, (x5_1 : Int).toNat * 5, none⟩ (.int .i64 (x1_1))) ⟨g5, (x5_1 : Int).toNat * 5 + 4, none⟩ = some (.slice Ai z.f4.length ci) := by go_simp
      have hg_0 : World.frozen? (World.setCell wr ⟨g5, (x5_1 : Int).toNat * 5, none⟩ (.int .i64 (x1_1))) ⟨g5, (x5_1 : Int).toNat * 5, none⟩ = false := by go_simp
      have hg_1 : World.frozen? (World.setCell wr ⟨g5, (x5_1 : Int).toNat * 5, none⟩ (.int .i64 (x1_1))) ⟨g5, (x5_1 : Int).toNat * 5 + 1, none⟩ = false := by go_simp
      have hg_2 : World.frozen? (World.setCell wr ⟨g5, (x5_1 : Int).toNat * 5, none⟩ (.int .i64 (x1_1))) ⟨g5, (x5_1 : Int).toNat * 5 + 2, none⟩ = false := by go_simp
      have hg_3 : World.frozen? (World.setCell wr ⟨g5, (x5_1 : Int).toNat * 5, none⟩ (.int .i64 (x1_1))) ⟨g5, (x5_1 : Int).toNat * 5 + 3, none⟩ = false := by go_simp
      generalize World.setCell wr ⟨g5, (x5_1 : Int).toNat * 5, none⟩ (.int .i64 (x1_1)) = wr0 at hseg hbs hy_0 hy_1 hy_2 hy_3 hy_4 hg_0 hg_1 hg_2 hg_3 ⊢
      obtain ⟨hH, hgr⟩ := hseg
      have n1_ := Aside0.mk (show Kd.H k35 35 wr0 w0.heap.size (fun k_ => (P0_ k_ ∨ w.heap.size ≤ k_)) (.slice (some ⟨g5, 0, none⟩) x0_1.length co5) x0_1 x5_1 oki [.int .i64 (x1_1), .int .i64 z.f1, .int .i64 z.f2, .int .i64 z.f3, .slice Ai z.f4.length ci] from hH)
      have n2_ := Aside0.mk (Kd.R_grown HR.out hgr (fun k_ hk he => (HOK.out k_ hk).2 (Option.some.inj he)))
      have n3_ := Aside0.mk (Kept.of_grown hgr HK.out (fun k_ he => (Option.some.inj he) ▸ HMg.out))
      have n4_ := Aside0.mk hbs
      clear hH hgr hbs HH HR HK HB hx_0 hx_1 hx_2 hx_3 hx_4 hf_0 hf_1 hf_2 hf_3
      have HH := n1_
      have HR := n2_
      have HK := n3_
      have HB := n4_
      clear n1_ n2_ n3_ n4_
      have hx_0 := hy_0
      have hx_1 := hy_1
      have hx_2 := hy_2
      have hx_3 := hy_3
      have hx_4 := hy_4
      have hf_0 := hg_0
      have hf_1 := hg_1
      have hf_2 := hg_2
      have hf_3 := hg_3
      clear hy_0 hy_1 hy_2 hy_3 hy_4 hg_0 hg_1 hg_2 hg_3
      go_upto_region 7 with (fail)
      have hseg := Kd.H_seg HH.out C4.out C3.out (seg := [.int .i64 (wrap64 (x1_1 + 1))]) (j := 1) (show 1 + 1 ≤ 5 from by decide) (by simp [Value.oneCell'])
      rw [show World.setCells wr0 g5 ((x5_1 : Int).toNat * (k35).sz + 1) [.int .i64 (wrap64 (x1_1 + 1))] = World.setCell wr0 ⟨g5, (x5_1 : Int).toNat * 5 + 1, none⟩ (.int .i64 (wrap64 (x1_1 + 1))) from rfl] at hseg
      have hbs : Below w0.heap.size w0 (World.setCell wr0 ⟨g5, (x5_1 : Int).toNat * 5 + 1, none⟩ (.int .i64 (wrap64 (x1_1 + 1)))) := below_set HB.out GB.out
      have hy_0 : World.cell? (World.setCell wr0 ⟨g5, (x5_1 : Int).toNat * 5 + 1, none⟩ (.int .i64 (wrap64 (x1_1 + 1)))) ⟨g5, (x5_1 : Int).toNat * 5, none⟩ = some (.int .i64 (x1_1)) := by go_simp
      have hy_1 : World.cell? (World.setCell wr0 ⟨g5, (x5_1 : Int).toNat * 5 + 1, none⟩ (.int .i64 (wrap64 (x1_1 + 1)))) ⟨g5, (x5_1 : Int).toNat * 5 + 1, none⟩ = some (.int .i64 (wrap64 (x1_1 + 1))) := by go_simp
      have hy_2 : World.cell? (World.setCell wr0 ⟨g5, (x5_1 : Int).toNat * 5 + 1, none⟩ (.int .i64 (wrap64 (x1_1 + 1)))) ⟨g5, (x5_1 : Int).toNat * 5 + 2, none⟩ = some (.int .i64 z.f2) := by go_simp
      have hy_3 : World.cell? (World.setCell wr0 ⟨g5, (x5_1 : Int).toNat * 5 + 1, none⟩ (.int .i64 (wrap64 (x1_1 + 1)))) ⟨g5, (x5_1 : Int).toNat * 5 + 3, none⟩ = some (.int .i64 z.f3) := by go_simp
      have hy_4 : World.cell? (World.setCell wr0 ⟨g5, (x5_1 : Int).toNat * 5 + 1, none⟩ (.int .i64 (wrap64 (x1_1 + 1)))) ⟨g5, (x5_1 : Int).toNat * 5 + 4, none⟩ = some (.slice Ai z.f4.length ci) := by go_simp
      have hg_0 : World.frozen? (World.setCell wr0 ⟨g5, (x5_1 : Int).toNat * 5 + 1, none⟩ (.int .i64 (wrap64 (x1_1 + 1)))) ⟨g5, (x5_1 : Int).toNat * 5, none⟩ = false := by go_simp
      have hg_1 : World.frozen? (World.setCell wr0 ⟨g5, (x5_1 : Int).toNat * 5 + 1, none⟩ (.int .i64 (wrap64 (x1_1 + 1)))) ⟨g5, (x5_1 : Int).toNat * 5 + 1, none⟩ = false := by go_simp
      have hg_2 : World.frozen? (World.setCell wr0 ⟨g5, (x5_1 : Int).toNat * 5 + 1, none⟩ (.int .i64 (wrap64 (x1_1 + 1)))) ⟨g5, (x5_1 : Int).toNat * 5 + 2, none⟩ = false := by go_simp
      have hg_3 : World.frozen? (World.setCell wr0 ⟨g5, (x5_1 : Int).toNat * 5 + 1, none⟩ (.int .i64 (wrap64 (x1_1 + 1)))) ⟨g5, (x5_1 : Int).toNat * 5 + 3, none⟩ = false := by go_simp
      generalize World.setCell wr0 ⟨g5, (x5_1 : Int).toNat * 5 + 1, none⟩ (.int .i64 (wrap64 (x1_1 + 1))) = wr1 at hseg hbs hy_0 hy_1 hy_2 hy_3 hy_4 hg_0 hg_1 hg_2 hg_3 ⊢
      obtain ⟨hH, hgr⟩ := hseg
      have n1_ := Aside0.mk (show Kd.H k35 35 wr1 w0.heap.size (fun k_ => (P0_ k_ ∨ w.heap.size ≤ k_)) (.slice (some ⟨g5, 0, none⟩) x0_1.length co5) x0_1 x5_1 oki [.int .i64 (x1_1), .int .i64 (wrap64 (x1_1 + 1)), .int .i64 z.f2, .int .i64 z.f3, .slice Ai z.f4.length ci] from hH)
      have n2_ := Aside0.mk (Kd.R_grown HR.out hgr (fun k_ hk he => (HOK.out k_ hk).2 (Option.some.inj he)))
      have n3_ := Aside0.mk (Kept.of_grown hgr HK.out (fun k_ he => (Option.some.inj he) ▸ HMg.out))
      have n4_ := Aside0.mk hbs
      clear hH hgr hbs HH HR HK HB hx_0 hx_1 hx_2 hx_3 hx_4 hf_0 hf_1 hf_2 hf_3
      have HH := n1_
      have HR := n2_
      have HK := n3_
      have HB := n4_
      clear n1_ n2_ n3_ n4_
      have hx_0 := hy_0
      have hx_1 := hy_1
      have hx_2 := hy_2
      have hx_3 := hy_3
      have hx_4 := hy_4
      have hf_0 := hg_0
      have hf_1 := hg_1
      have hf_2 := hg_2
      have hf_3 := hg_3
      clear hy_0 hy_1 hy_2 hy_3 hy_4 hg_0 hg_1 hg_2 hg_3
      go_upto_region 9 with (fail)
      have hseg := Kd.H_seg HH.out C4.out C3.out (seg := [.int .i64 (wrap64 ((wrap64 (x1_1 + 1)) + 1))]) (j := 2) (show 2 + 1 ≤ 5 from by decide) (by simp [Value.oneCell'])
      rw [show World.setCells wr1 g5 ((x5_1 : Int).toNat * (k35).sz + 2) [.int .i64 (wrap64 ((wrap64 (x1_1 + 1)) + 1))] = World.setCell wr1 ⟨g5, (x5_1 : Int).toNat * 5 + 2, none⟩ (.int .i64 (wrap64 ((wrap64 (x1_1 + 1)) + 1))) from rfl] at hseg
      have hbs : Below w0.heap.size w0 (World.setCell wr1 ⟨g5, (x5_1 : Int).toNat * 5 + 2, none⟩ (.int .i64 (wrap64 ((wrap64 (x1_1 + 1)) + 1)))) := below_set HB.out GB.out
      have hy_0 : World.cell? (World.setCell wr1 ⟨g5, (x5_1 : Int).toNat * 5 + 2, none⟩ (.int .i64 (wrap64 ((wrap64 (x1_1 + 1)) + 1)))) ⟨g5, (x5_1 : Int).toNat * 5, none⟩ = some (.int .i64 (x1_1)) := by go_simp
      have hy_1 : World.cell? (World.setCell wr1 ⟨g5, (x5_1 : Int).toNat * 5 + 2, none⟩ (.int .i64 (wrap64 ((wrap64 (x1_1 + 1)) + 1)))) ⟨g5, (x5_1 : Int).toNat * 5 + 1, none⟩ = some (.int .i64 (wrap64 (x1_1 + 1))) := by go_simp
      have hy_2 : World.cell? (World.setCell wr1 ⟨g5, (x5_1 : Int).toNat * 5 + 2, none⟩ (.int .i64 (wrap64 ((wrap64 (x1_1 + 1)) + 1)))) ⟨g5, (x5_1 : Int).toNat * 5 + 2, none⟩ = some (.int .i64 (wrap64 ((wrap64 (x1_1 + 1)) + 1))) := by go_simp
      have hy_3 : World.cell? (World.setCell wr1 ⟨g5, (x5_1 : Int).toNat * 5 + 2, none⟩ (.int .i64 (wrap64 ((wrap64 (x1_1 + 1)) + 1)))) ⟨g5, (x5_1 : Int).toNat * 5 + 3, none⟩ = some (.int .i64 z.f3) := by go_simp
      have hy_4 : World.cell? (World.setCell wr1 ⟨g5, (x5_1 : Int).toNat * 5 + 2, none⟩ (.int .i64 (wrap64 ((wrap64 (x1_1 + 1)) + 1)))) ⟨g5, (x5_1 : Int).toNat * 5 + 4, none⟩ = some (.slice Ai z.f4.length ci) := by go_simp
      have hg_0 : World.frozen? (World.setCell wr1 ⟨g5, (x5_1 : Int).toNat * 5 + 2, none⟩ (.int .i64 (wrap64 ((wrap64 (x1_1 + 1)) + 1)))) ⟨g5, (x5_1 : Int).toNat * 5, none⟩ = false := by go_simp
      have hg_1 : World.frozen? (World.setCell wr1 ⟨g5, (x5_1 : Int).toNat * 5 + 2, none⟩ (.int .i64 (wrap64 ((wrap64 (x1_1 + 1)) + 1)))) ⟨g5, (x5_1 : Int).toNat * 5 + 1, none⟩ = false := by go_simp
      have hg_2 : World.frozen? (World.setCell wr1 ⟨g5, (x5_1 : Int).toNat * 5 + 2, none⟩ (.int .i64 (wrap64 ((wrap64 (x1_1 + 1)) + 1)))) ⟨g5, (x5_1 : Int).toNat * 5 + 2, none⟩ = false := by go_simp
      have hg_3 : World.frozen? (World.setCell wr1 ⟨g5, (x5_1 : Int).toNat * 5 + 2, none⟩ (.int .i64 (wrap64 ((wrap64 (x1_1 + 1)) + 1)))) ⟨g5, (x5_1 : Int).toNat * 5 + 3, none⟩ = false := by go_simp
      generalize World.setCell wr1 ⟨g5, (x5_1 : Int).toNat * 5 + 2, none⟩ (.int .i64 (wrap64 ((wrap64 (x1_1 + 1)) + 1))) = wr2 at hseg hbs hy_0 hy_1 hy_2 hy_3 hy_4 hg_0 hg_1 hg_2 hg_3 ⊢
      obtain ⟨hH, hgr⟩ := hseg
      have n1_ := Aside0.mk (show Kd.H k35 35 wr2 w0.heap.size (fun k_ => (P0_ k_ ∨ w.heap.size ≤ k_)) (.slice (some ⟨g5, 0, none⟩) x0_1.length co5) x0_1 x5_1 oki [.int .i64 (x1_1), .int .i64 (wrap64 (x1_1 + 1)), .int .i64 (wrap64 ((wrap64 (x1_1 + 1)) + 1)), .int .i64 z.f3, .slice Ai z.f4.length ci] from hH)
      have n2_ := Aside0.mk (Kd.R_grown HR.out hgr (fun k_ hk he => (HOK.out k_ hk).2 (Option.some.inj he)))
      have n3_ := Aside0.mk (Kept.of_grown hgr HK.out (fun k_ he => (Option.some.inj he) ▸ HMg.out))
      have n4_ := Aside0.mk hbs
      clear hH hgr hbs HH HR HK HB hx_0 hx_1 hx_2 hx_3 hx_4 hf_0 hf_1 hf_2 hf_3
      have HH := n1_
      have HR := n2_
      have HK := n3_
      have HB := n4_
      clear n1_ n2_ n3_ n4_
      have hx_0 := hy_0
      have hx_1 := hy_1
      have hx_2 := hy_2
      have hx_3 := hy_3
      have hx_4 := hy_4
      have hf_0 := hg_0
      have hf_1 := hg_1
      have hf_2 := hg_2
      have hf_3 := hg_3
      clear hy_0 hy_1 hy_2 hy_3 hy_4 hg_0 hg_1 hg_2 hg_3
      go_upto_region 11 with (fail)
      have hseg := Kd.H_seg HH.out C4.out C3.out (seg := [.int .i64 (wrap64 ((wrap64 ((wrap64 (x1_1 + 1)) + 1)) + 1))]) (j := 3) (show 3 + 1 ≤ 5 from by decide) (by simp [Value.oneCell'])
      rw [show World.setCells wr2 g5 ((x5_1 : Int).toNat * (k35).sz + 3) [.int .i64 (wrap64 ((wrap64 ((wrap64 (x1_1 + 1)) + 1)) + 1))] = World.setCell wr2 ⟨g5, (x5_1 : Int).toNat * 5 + 3, none⟩ (.int .i64 (wrap64 ((wrap64 ((wrap64 (x1_1 + 1)) + 1)) + 1))) from rfl] at hseg
      have hbs : Below w0.heap.size w0 (World.setCell wr2 ⟨g5, (x5_1 : Int).toNat * 5 + 3, none⟩ (.int .i64 (wrap64 ((wrap64 ((wrap64 (x1_1 + 1)) + 1)) + 1)))) := below_set HB.out GB.out
      have hy_0 : World.cell? (World.setCell wr2 ⟨g5, (x5_1 : Int).toNat * 5 + 3, none⟩ (.int .i64 (wrap64 ((wrap64 ((wrap64 (x1_1 + 1)) + 1)) + 1)))) ⟨g5, (x5_1 : Int).toNat * 5, none⟩ = some (.int .i64 (x1_1)) := by go_simp
      have hy_1 : World.cell? (World.setCell wr2 ⟨g5, (x5_1 : Int).toNat * 5 + 3, none⟩ (.int .i64 (wrap64 ((wrap64 ((wrap64 (x1_1 + 1)) + 1)) + 1)))) ⟨g5, (x5_1 : Int).toNat * 5 + 1, none⟩ = some (.int .i64 (wrap64 (x1_1 + 1))) := by go_simp
      have hy_2 : World.cell? (World.setCell wr2 ⟨g5, (x5_1 : Int).toNat * 5 + 3, none⟩ (.int .i64 (wrap64 ((wrap64 ((wrap64 (x1_1 + 1)) + 1)) + 1)))) ⟨g5, (x5_1 : Int).toNat * 5 + 2, none⟩ = some (.int .i64 (wrap64 ((wrap64 (x1_1 + 1)) + 1))) := by go_simp
      have hy_3 : World.cell? (World.setCell wr2 ⟨g5, (x5_1 : Int).toNat * 5 + 3, none⟩ (.int .i64 (wrap64 ((wrap64 ((wrap64 (x1_1 + 1)) + 1)) + 1)))) ⟨g5, (x5_1 : Int).toNat * 5 + 3, none⟩ = some (.int .i64 (wrap64 ((wrap64 ((wrap64 (x1_1 + 1)) + 1)) + 1))) := by go_simp
      have hy_4 : World.cell? (World.setCell wr2 ⟨g5, (x5_1 : Int).toNat * 5 + 3, none⟩ (.int .i64 (wrap64 ((wrap64 ((wrap64 (x1_1 + 1)) + 1)) + 1)))) ⟨g5, (x5_1 : Int).toNat * 5 + 4, none⟩ = some (.slice Ai z.f4.length ci) := by go_simp
      have hg_0 : World.frozen? (World.setCell wr2 ⟨g5, (x5_1 : Int).toNat * 5 + 3, none⟩ (.int .i64 (wrap64 ((wrap64 ((wrap64 (x1_1 + 1)) + 1)) + 1)))) ⟨g5, (x5_1 : Int).toNat * 5, none⟩ = false := by go_simp
      have hg_1 : World.frozen? (World.setCell wr2 ⟨g5, (x5_1 : Int).toNat * 5 + 3, none⟩ (.int .i64 (wrap64 ((wrap64 ((wrap64 (x1_1 + 1)) + 1)) + 1)))) ⟨g5, (x5_1 : Int).toNat * 5 + 1, none⟩ = false := by go_simp
      have hg_2 : World.frozen? (World.setCell wr2 ⟨g5, (x5_1 : Int).toNat * 5 + 3, none⟩ (.int .i64 (wrap64 ((wrap64 ((wrap64 (x1_1 + 1)) + 1)) + 1)))) ⟨g5, (x5_1 : Int).toNat * 5 + 2, none⟩ = false := by go_simp
      have hg_3 : World.frozen? (World.setCell wr2 ⟨g5, (x5_1 : Int).toNat * 5 + 3, none⟩ (.int .i64 (wrap64 ((wrap64 ((wrap64 (x1_1 + 1)) + 1)) + 1)))) ⟨g5, (x5_1 : Int).toNat * 5 + 3, none⟩ = false := by go_simp
      generalize World.setCell wr2 ⟨g5, (x5_1 : Int).toNat * 5 + 3, none⟩ (.int .i64 (wrap64 ((wrap64 ((wrap64 (x1_1 + 1)) + 1)) + 1))) = wr3 at hseg hbs hy_0 hy_1 hy_2 hy_3 hy_4 hg_0 hg_1 hg_2 hg_3 ⊢
      obtain ⟨hH, hgr⟩ := hseg
      have n1_ := Aside0.mk (show Kd.H k35 35 wr3 w0.heap.size (fun k_ => (P0_ k_ ∨ w.heap.size ≤ k_)) (.slice (some ⟨g5, 0, none⟩) x0_1.length co5) x0_1 x5_1 oki [.int .i64 (x1_1), .int .i64 (wrap64 (x1_1 + 1)), .int .i64 (wrap64 ((wrap64 (x1_1 + 1)) + 1)), .int .i64 (wrap64 ((wrap64 ((wrap64 (x1_1 + 1)) + 1)) + 1)), .slice Ai z.f4.length ci] from hH)
      have n2_ := Aside0.mk (Kd.R_grown HR.out hgr (fun k_ hk he => (HOK.out k_ hk).2 (Option.some.inj he)))
      have n3_ := Aside0.mk (Kept.of_grown hgr HK.out (fun k_ he => (Option.some.inj he) ▸ HMg.out))
      have n4_ := Aside0.mk hbs
      clear hH hgr hbs HH HR HK HB hx_0 hx_1 hx_2 hx_3 hx_4 hf_0 hf_1 hf_2 hf_3
      have HH := n1_
      have HR := n2_
      have HK := n3_
      have HB := n4_
      clear n1_ n2_ n3_ n4_
      have hx_0 := hy_0
      have hx_1 := hy_1
      have hx_2 := hy_2
      have hx_3 := hy_3
      have hx_4 := hy_4
      have hf_0 := hg_0
      have hf_1 := hg_1
      have hf_2 := hg_2
      have hf_3 := hg_3
      clear hy_0 hy_1 hy_2 hy_3 hy_4 hg_0 hg_1 hg_2 hg_3
      go_wp2_with (first | ((with_reducible refine gate_callee (f := 18) rfl ?_); refine goesL_ (some 46) rfl rfl Try.func18 (by kernel_rfl) rfl #[.slice Ai z.f4.length ci, .int .i64 (wrap64 ((wrap64 ((wrap64 ((wrap64 (x1_1 + 1)) + 1)) + 1)) + 1))] rfl (by (try simp only [List.map_toArray, List.map_cons, List.map_nil]); first | done | rfl) ?_; (with_reducible refine (laws_markIntS.calls k1 oki (.slice Ai z.f4.length ci) z.f4 (wrap64 ((wrap64 ((wrap64 ((wrap64 (x1_1 + 1)) + 1)) + 1)) + 1)) t1 t2 w0 wr3 HB.out HR.out A3.out).mono ?_); rintro e w9 ⟨rfl, hR9, hB9, hK9⟩; refine ⟨_, rfl, ?_⟩; have HR9 := Aside0.mk hR9; have HB9 := Aside0.mk hB9; have HK9 := Aside0.mk hK9; clear hR9 hB9 hK9))
      have HS9 : Aside0 (Kd.S k35 35 w9 w0.heap.size (fun k_ => (P0_ k_ ∨ w.heap.size ≤ k_)) (.slice (some ⟨g5, 0, none⟩) x0_1.length co5) (x0_1.set (x5_1 : Int).toNat (⟨x1_1, wrap64 (x1_1 + 1), wrap64 ((wrap64 (x1_1 + 1)) + 1), wrap64 ((wrap64 ((wrap64 (x1_1 + 1)) + 1)) + 1), t2⟩ : S35))) := ⟨by
        have hH9 := Kd.H_kept (Kd.H_widen HH.out) HK9.out (fun k_ _ hn hs => hn (.inl hs))
        refine Kd.H_back hH9 (okp := fun k_ => oki k_ ∨ wr3.heap.size ≤ k_) (k35_mkM _ _ _ (⟨x1_1, wrap64 (x1_1 + 1), wrap64 ((wrap64 (x1_1 + 1)) + 1), wrap64 ((wrap64 ((wrap64 (x1_1 + 1)) + 1)) + 1), t2⟩ : S35) HR9.out) (fun k_ hk => hk.elim .inl (fun hge => .inr ⟨.inr (Nat.le_trans HK.out.1 hge), hge⟩))⟩
      have HK' := Aside0.mk (Kept.then_ HK.out HK9.out (fun k_ hk => (HOK.out k_ hk).1))
      clear HK HB HR9 HK9 HH HR HOK
      have HB := HB9
      have HK := HK'
      clear HB9 HK'
      go_roundg k1
      case measure => have := HK1.out; omega
      case rel => exact ⟨x0_1.set (x5_1 : Int).toNat (⟨x1_1, wrap64 (x1_1 + 1), wrap64 ((wrap64 (x1_1 + 1)) + 1), wrap64 ((wrap64 ((wrap64 (x1_1 + 1)) + 1)) + 1), t2⟩ : S35), t1, wrap64 (x5_1 + 1), (by first | rfl | (simp; done)), (by first | rfl | (simp; done) | (simp [*]; done)), H', ⟨by have := HK1.out; omega⟩, ⟨by simpa using HS9.out⟩, HK, HB⟩

/-! ### laws_markImage: function 28 -/
def laws_markImage.f (k : Nat) (a0_0 : Int) (a0_1 : Int) (a0_2 : Int) (a0_3 : Int) (l0_4 : List Int) (a1 : Int) : Option (Int × List Int) := (laws_markIntS.f k l0_4 a1).bind fun bt165 => (some (bt165.1, bt165.2))
theorem laws_markImage.mono : ∀ a0 a1 a2 a3 a4 a5 k, LeO (laws_markImage.f k a0 a1 a2 a3 a4 a5) (laws_markImage.f (k + 1) a0 a1 a2 a3 a4 a5) := by
  intro a0 a1 a2 a3 a4 a5 k
  unfold laws_markImage.f
  repeat' first
      | (with_reducible exact laws_markIntS.mono _ _ _)
      | (with_reducible exact LeO.refl _)
      | (with_reducible exact LeO.none _)
      | (with_reducible refine LeO.ite ?_ ?_)
      | (with_reducible refine LeO.bind ?_ (fun _ => ?_))
      | exact laws_markIntS.mono _ _ _
      | exact LeO.none _
      | refine LeO.ite ?_ ?_
      | refine LeO.bind ?_ (fun _ => ?_)
set_option maxHeartbeats 8000000 in
set_option maxRecDepth 100000 in
theorem laws_markImage.calls (k : Nat) (a0_0 : Int) (a0_1 : Int) (a0_2 : Int) (a0_3 : Int) (P0_4_ : Nat → Prop) (u9000_ : Value) (l0_4 : List Int) (a1 : Int) (r1 : Int) (r2 : List Int) (w0 w : World) (hB : Below w0.heap.size w0 w) (ho0_4 : Kd.R (Kd.int .i64) 3 w w0.heap.size P0_4_ u9000_ l0_4) (h : laws_markImage.f k a0_0 a0_1 a0_2 a0_3 l0_4 a1 = some (r1, r2)) :
    Calls Try.prog 28 #[.agg #[.int .i64 a0_0, .int .i64 a0_1, .int .i64 a0_2, .int .i64 a0_3, u9000_], .int .i64 a1] w fun e w' => e = .returned (.int .i64 r1) ∧ Kd.R (Kd.int .i64) 3 w' w0.heap.size (fun k_ => (P0_4_ k_ ∨ w.heap.size ≤ k_)) u9000_ r2 ∧ Below w0.heap.size w0 w' ∧ Kept w w' (fun k_ => P0_4_ k_) := by
  have hu35 := Try.underlying35
  have HO0_4 := Aside0.mk (show Kd.R (Kd.int .i64) 3 w w0.heap.size (fun k_ => (P0_4_ k_ ∨ w.heap.size ≤ k_)) u9000_ l0_4 from Kd.R_mono ho0_4 (fun k_ hk => (.inl hk)))
  have HK := Aside0.mk (Kept.refl w (fun k_ => P0_4_ k_))
  have HW0 := Aside0.mk hB.size
  have HB := Aside0.mk hB
  clear hB
  have H : ((laws_markIntS.f k l0_4 a1).bind fun bt165 => (some (bt165.1, bt165.2))) = some (r1, r2) := h
  clear h
  replace H := Option.bind_eq_some_iff.mp H
  obtain ⟨⟨t165, t166⟩, A30, H⟩ := H
  replace H : (some (t165, t166)) = some (r1, r2) := H
  have A3 := Aside0.mk A30
  clear A30
  simp only [Option.some.injEq, Prod.mk.injEq] at H
  obtain ⟨rfl, rfl⟩ := H
  obtain ⟨Ao4, co4, eo4⟩ := Kd.R_slice HO0_4.out
  subst eo4
  go_enter Try.func28, Try.ntmps28
  go_wp2_with (first | ((with_reducible refine gate_dst (N := 2) rfl ?_); refine box_event ?hg (N := 2) ?hd (cs := #[.int .i64 a0_0, .int .i64 a0_1, .int .i64 a0_2, .int .i64 a0_3, .slice Ao4 l0_4.length co4]) (t := 35) ?hr ?_; (case hd => rfl); (case hg => rfl); (case hr => first | (go_simp; done) | (go_simp; rfl)); intro gb164 hg w5 hbox hb; have n0_ := Aside0.mk (Kd.R_below (by (with_reducible repeat (first | apply Kd.R_alloc | apply Kd.R_drewN | apply Kd.R_drew)); exact HO0_4.out) hb); have n1_ := Aside0.mk (Kept.below (S := (fun k_ => P0_4_ k_)) (by repeat (first | (with_reducible first | exact HK.out | apply Kept.alloc | apply Kept.drewN | apply Kept.drew) | exact HK.out)) hb); have n2_ := Aside0.mk (below_step (by repeat (first | (with_reducible first | exact HB.out | apply below_alloc | apply pw_below_drewN | apply below_drew1) | exact HB.out)) hb); have n3_ := Aside0.mk (hbox); have n4_ := Aside0.mk ((by rw [hg]; exact (by first | exact HK.out.1 | exact (show Kept w _ (fun k_ => P0_4_ k_) from by repeat (first | (with_reducible first | exact HK.out | apply Kept.alloc | apply Kept.drewN | apply Kept.drew) | exact HK.out)).1) : w.heap.size ≤ gb164)); have n5_ := Aside0.mk ((by rw [hg]; exact (below_size (by repeat (first | (with_reducible first | exact HB.out | apply below_alloc | apply pw_below_drewN | apply below_drew1) | exact HB.out))) : w0.heap.size ≤ gb164)); clear HO0_4; clear HK; clear HB; have HO0_4 := n0_; have HK := n1_; have HB := n2_; have BK164 := n3_; have GW164 := n4_; have GE164 := n5_; clear n0_ n1_ n2_ n3_ n4_ n5_; clear hb hbox hg; have hcz6_0 : w5.cell? ⟨gb164, 0, none⟩ = some (.int .i64 a0_0) := (blk_cell BK164.out 0).trans rfl; have hcz6_1 : w5.cell? ⟨gb164, 1, none⟩ = some (.int .i64 a0_1) := (blk_cell BK164.out 1).trans rfl; have hcz6_2 : w5.cell? ⟨gb164, 2, none⟩ = some (.int .i64 a0_2) := (blk_cell BK164.out 2).trans rfl; have hcz6_3 : w5.cell? ⟨gb164, 3, none⟩ = some (.int .i64 a0_3) := (blk_cell BK164.out 3).trans rfl; have hcz6_4 : w5.cell? ⟨gb164, 4, none⟩ = some (.slice Ao4 l0_4.length co4) := (blk_cell BK164.out 4).trans rfl; have hfz6_0 := blk_frozen BK164.out 0; have hfz6_1 := blk_frozen BK164.out 1; have hfz6_2 := blk_frozen BK164.out 2; have hfz6_3 := blk_frozen BK164.out 3; have hfz6_4 := blk_frozen BK164.out 4) | ((with_reducible refine gate_callee (f := 18) rfl ?_); refine goesL_ (some 8) rfl rfl Try.func18 (by kernel_rfl) rfl #[.slice Ao4 l0_4.length co4, .int .i64 a1] rfl (by (try simp only [List.map_toArray, List.map_cons, List.map_nil]); first | done | rfl | (simp only [List.length_drop, List.length_take]; rfl)) ?_; (with_reducible refine (laws_markIntS.calls k (fun k_ => some k_ = (.slice Ao4 l0_4.length co4 : Value).ownBlock) (.slice Ao4 l0_4.length co4) l0_4 a1 t165 t166 w0 _ ?side1 ?side2 A3.out).mono ?_); (case side1 => repeat (first | (with_reducible first | exact HB.out | apply below_alloc | apply pw_below_drewN | apply below_drew1 | refine below_set ?_ GE164.out) | exact HB.out)); (case side2 => exact Kd.R_tight rfl HO0_4.out); rintro e w7 ⟨rfl, hy0, hb, hkp⟩; refine ⟨_, rfl, ?_⟩; have n0_ := Aside0.mk (Kd.R_reok rfl hy0 (fun k_ e_ => HO0_4.out.1 k_ e_)); have n1_ := Aside0.mk (blk_kept (by (with_reducible repeat (first | refine blk_drewN ?_ _ | refine blk_drew ?_ | refine blk_alloc ?_ _)); exact BK164.out) hkp (fun hs_ => (fun e_ => (Kd.R_ne HO0_4.out BK164.out (by decide)) e_) hs_)); have n2_ := Aside0.mk (Kept.then_ (S := (fun k_ => P0_4_ k_)) (by repeat (first | (with_reducible first | exact HK.out | apply Kept.alloc | apply Kept.drewN | apply Kept.drew | refine Kept.setCell ?_ (.inr GW164.out) _) | exact HK.out)) hkp (fun k_ hs_ => (fun e_ => (HO0_4.out.1 k_ e_.symm)) hs_)); have n3_ := Aside0.mk (hb); clear HO0_4; clear BK164; clear HK; clear HB; have HO0_4 := n0_; have BK164 := n1_; have HK := n2_; have HB := n3_; clear n0_ n1_ n2_ n3_; (try clear hb); (try clear hkp); (try clear hy0)))
  go_ret
  exact ⟨by first | rfl | (simp [errW_none, errW_some] <;> rfl) | (simp [*, errW_none, errW_some] <;> rfl), by (with_reducible repeat (first | apply Kd.R_alloc | apply Kd.R_drewN | apply Kd.R_drew)); exact HO0_4.out, by repeat (first | (with_reducible first | exact HB.out | apply below_alloc | apply pw_below_drewN | apply below_drew1 | refine below_set ?_ GE164.out) | exact HB.out), by repeat (first | (with_reducible first | exact HK.out | apply Kept.alloc | apply Kept.drewN | apply Kept.drew | refine Kept.setCell ?_ (.inr GW164.out) _) | exact HK.out)⟩

/-! ### laws_heldIntS: function 83 -/
def laws_heldIntS.l0 : Nat → List Int → Int → Int → Option (Int)
  | 0, _, _, _ => none
  | k + 1, x0, x1, x5 => if x5 < (x0.length : Int) then (if 0 ≤ x5 then (if (rd x0 x5) = x1 then (laws_heldIntS.l0 k x0 (wrap64 (x1 + 1)) (wrap64 (x5 + 1))) else (some (-1))) else (none)) else (some x1)
def laws_heldIntS.f (k : Nat) (l0 : List Int) (a1 : Int) : Option (Int) := laws_heldIntS.l0 k l0 a1 0
theorem laws_heldIntS.mono_l : ∀ k, (∀ y0 y1 y2, LeO (laws_heldIntS.l0 k y0 y1 y2) (laws_heldIntS.l0 (k + 1) y0 y1 y2))
  | 0 => fun _ _ _ r h => by simp [laws_heldIntS.l0] at h
  | k + 1 => by
    have ih0 := laws_heldIntS.mono_l k
    · intro y0 y1 y2
      unfold laws_heldIntS.l0
      repeat' first
      | (with_reducible exact ih0 _ _ _)
      | (with_reducible exact LeO.refl _)
      | (with_reducible exact LeO.none _)
      | (with_reducible refine LeO.ite ?_ ?_)
      | (with_reducible refine LeO.bind ?_ (fun _ => ?_))
      | exact ih0 _ _ _
      | exact LeO.none _
      | refine LeO.ite ?_ ?_
      | refine LeO.bind ?_ (fun _ => ?_)
theorem laws_heldIntS.mono : ∀ a0 a1 k, LeO (laws_heldIntS.f k a0 a1) (laws_heldIntS.f (k + 1) a0 a1) := by
  intro a0 a1 k
  have ih0 := laws_heldIntS.mono_l k
  unfold laws_heldIntS.f
  repeat' first
      | (with_reducible exact ih0 _ _ _)
      | (with_reducible exact LeO.refl _)
      | (with_reducible exact LeO.none _)
      | (with_reducible refine LeO.ite ?_ ?_)
      | (with_reducible refine LeO.bind ?_ (fun _ => ?_))
      | exact ih0 _ _ _
      | exact LeO.none _
      | refine LeO.ite ?_ ?_
      | refine LeO.bind ?_ (fun _ => ?_)
set_option maxHeartbeats 8000000 in
set_option maxRecDepth 100000 in
theorem laws_heldIntS.calls (k : Nat) (A0 : Option Addr) (c0 : Nat) (l0 : List Int) (a1 : Int) (r : Int) (w : World) (hr0 : Kd.C (Kd.int .i64) w A0 l0.length l0) (hc0 : l0.length ≤ c0) (h : laws_heldIntS.f k l0 a1 = some r) :
    Calls Try.prog 83 #[.slice A0 l0.length c0, .int .i64 a1] w fun e w' => e = .returned (.int .i64 r) ∧ Drawn0 w w' := by
  have HR0 := Aside0.mk hr0
  have HC0 := Aside0.mk hc0
  clear hr0 hc0
  have H : (laws_heldIntS.l0 k l0 a1 0) = some r := h
  clear h
  have H' := Aside0.mk H
  clear H
  go_enter Try.func83, Try.ntmps83
  go_wp2
  go_loopg [1, 5] k (fun kq v1 v5 w' => ∃ (x1_1 : Int) (x5_1 : Int), v1 = .int .i64 x1_1 ∧ v5 = .int .i64 x5_1 ∧ Aside0 (laws_heldIntS.l0 kq l0 x1_1 x5_1 = some r) ∧ Aside0 (kq ≤ k) ∧ Drawn0 w w')
  case atStart => exact ⟨(a1), (0), (by first | rfl | (simp; done) | (simp [*]; done)), (by first | rfl | (simp; done) | (simp [*]; done)), H', ⟨Nat.le_refl _⟩, by repeat (first | exact Drawn0.refl _ | apply Drawn0.step)⟩
  case round =>
    clear H'
    try clear p2
    obtain ⟨x1_1, x5_1, rfl, rfl, HA, HK1, ⟨m1, rfl⟩⟩ := hrel
    cases gk with
    | zero => exact absurd HA.out (by simp [laws_heldIntS.l0])
    | succ k1 =>
      have H := HA.out
      clear HA
      simp only [laws_heldIntS.l0] at H
      by_cases c3 : x5_1 < (l0.length : Int)
      · rw [if_pos c3] at H
        have c3b0 : decide (x5_1 < (l0.length : Int)) = true := decide_eq_true c3
        clear c3
        by_cases c4 : 0 ≤ x5_1
        · rw [if_pos c4] at H
          have c4b0 : decide (0 ≤ x5_1) = true := decide_eq_true c4
          clear c4
          by_cases c5 : (rd l0 x5_1) = x1_1
          · rw [if_pos c5] at H
            have c5b0 : ((rd l0 x5_1) == x1_1) = true := beq_iff_eq.mpr c5
            have c5b1 : ((rd l0 x5_1) != x1_1) = false := bne_eq_false_iff_eq.mpr c5
            clear c5
            have H' := Aside0.mk H
            clear H
            have p167 : 0 ≤ (x5_1 : Int) := of_decide_eq_true (by first | (with_reducible assumption) | assumption)
            have q167 : x5_1 < (l0.length : Int) := of_decide_eq_true (by first | (with_reducible assumption) | assumption)
            obtain ⟨ad167, e167, hx167_0⟩ := Kd.at_int HR0.out x5_1 p167 q167
            cases e167
            replace p167 := eq_true p167
            replace q167 := eq_true q167
            go_wp2
            go_roundg k1
            case measure => have := HK1.out; omega
            case rel => exact ⟨(wrap64 (x1_1 + 1)), (wrap64 (x5_1 + 1)), (by first | rfl | (simp; done) | (simp [*]; done)), (by first | rfl | (simp; done) | (simp [*]; done)), H', ⟨by have := HK1.out; omega⟩, by repeat (first | exact Drawn0.refl _ | apply Drawn0.step)⟩
          · rw [if_neg c5] at H
            have c5b0 : ((rd l0 x5_1) == x1_1) = false := beq_eq_false_iff_ne.mpr c5
            have c5b1 : ((rd l0 x5_1) != x1_1) = true := bne_iff_ne.mpr c5
            obtain rfl := Option.some.inj H
            have p167 : 0 ≤ (x5_1 : Int) := of_decide_eq_true (by first | (with_reducible assumption) | assumption)
            have q167 : x5_1 < (l0.length : Int) := of_decide_eq_true (by first | (with_reducible assumption) | assumption)
            obtain ⟨ad167, e167, hx167_0⟩ := Kd.at_int HR0.out x5_1 p167 q167
            cases e167
            replace p167 := eq_true p167
            replace q167 := eq_true q167
            go_wp2
            go_ret
            exact ⟨by first | rfl | (simp; done) | (simp [*]; done), by repeat (first | exact Drawn0.refl _ | apply Drawn0.step)⟩
        · rw [if_neg c4] at H
          exact absurd H (by simp)
      · rw [if_neg c3] at H
        have c3b0 : decide (x5_1 < (l0.length : Int)) = false := decide_eq_false c3
        clear c3
        obtain rfl := Option.some.inj H
        go_wp2
        go_ret
        exact ⟨by first | rfl | (simp; done) | (simp [*]; done), by repeat (first | exact Drawn0.refl _ | apply Drawn0.step)⟩

/-! ### laws_heldImage: function 29 -/
def laws_heldImage.f (k : Nat) (a0_0 : Int) (a0_1 : Int) (a0_2 : Int) (a0_3 : Int) (l0_4 : List Int) (a1 : Int) : Option (Int) := (laws_heldIntS.f k l0_4 a1).bind fun t169 => (if t169 < 0 then (some (-1)) else (some t169))
theorem laws_heldImage.mono : ∀ a0 a1 a2 a3 a4 a5 k, LeO (laws_heldImage.f k a0 a1 a2 a3 a4 a5) (laws_heldImage.f (k + 1) a0 a1 a2 a3 a4 a5) := by
  intro a0 a1 a2 a3 a4 a5 k
  unfold laws_heldImage.f
  repeat' first
      | (with_reducible exact laws_heldIntS.mono _ _ _)
      | (with_reducible exact LeO.refl _)
      | (with_reducible exact LeO.none _)
      | (with_reducible refine LeO.ite ?_ ?_)
      | (with_reducible refine LeO.bind ?_ (fun _ => ?_))
      | exact laws_heldIntS.mono _ _ _
      | exact LeO.none _
      | refine LeO.ite ?_ ?_
      | refine LeO.bind ?_ (fun _ => ?_)
set_option maxHeartbeats 8000000 in
set_option maxRecDepth 100000 in
theorem laws_heldImage.calls (k : Nat) (a0_0 : Int) (a0_1 : Int) (a0_2 : Int) (a0_3 : Int) (A0_4 : Option Addr) (c0_4 : Nat) (l0_4 : List Int) (a1 : Int) (r : Int) (w : World) (hr0_4 : Kd.C (Kd.int .i64) w A0_4 l0_4.length l0_4) (hc0_4 : l0_4.length ≤ c0_4) (h : laws_heldImage.f k a0_0 a0_1 a0_2 a0_3 l0_4 a1 = some r) :
    Calls Try.prog 29 #[.agg #[.int .i64 a0_0, .int .i64 a0_1, .int .i64 a0_2, .int .i64 a0_3, .slice A0_4 l0_4.length c0_4], .int .i64 a1] w fun e w' => e = .returned (.int .i64 r) ∧ Below w.heap.size w w' := by
  have hu35 := Try.underlying35
  have HR0_4 := Aside0.mk hr0_4
  have HC0_4 := Aside0.mk hc0_4
  clear hr0_4 hc0_4
  have HB := Aside0.mk (Below.refl w.heap.size w)
  have H : ((laws_heldIntS.f k l0_4 a1).bind fun t169 => (if t169 < 0 then (some (-1)) else (some t169))) = some r := h
  clear h
  replace H := Option.bind_eq_some_iff.mp H
  obtain ⟨t169, A30, H⟩ := H
  replace H : (if t169 < 0 then (some (-1)) else (some t169)) = some r := H
  have A3 := Aside0.mk A30
  clear A30
  by_cases c4 : t169 < 0
  · rw [if_pos c4] at H
    have c4b0 : decide (t169 < 0) = true := decide_eq_true c4
    clear c4
    obtain rfl := Option.some.inj H
    go_enter Try.func29, Try.ntmps29
    go_wp2_with (first | ((with_reducible refine gate_dst (N := 2) rfl ?_); refine box_event ?hg (N := 2) ?hd (cs := #[.int .i64 a0_0, .int .i64 a0_1, .int .i64 a0_2, .int .i64 a0_3, .slice A0_4 l0_4.length c0_4]) (t := 35) ?hr ?_; (case hd => rfl); (case hg => rfl); (case hr => first | (go_simp; done) | (go_simp; rfl)); intro gb168 hg w5 hbox hb; have n0_ := Aside0.mk (below_step (by repeat (first | (with_reducible first | exact HB.out | apply below_alloc | apply pw_below_drewN | apply below_drew1) | exact HB.out)) hb); have n1_ := Aside0.mk (hbox); have n2_ := Aside0.mk ((by rw [hg]; exact (below_size (by repeat (first | (with_reducible first | exact HB.out | apply below_alloc | apply pw_below_drewN | apply below_drew1) | exact HB.out))) : w.heap.size ≤ gb168)); have n3_ := n2_; clear HB; have HB := n0_; have BK168 := n1_; have GW168 := n2_; have GE168 := n3_; clear n0_ n1_ n2_ n3_; clear hb hbox hg; have hcz6_0 : w5.cell? ⟨gb168, 0, none⟩ = some (.int .i64 a0_0) := (blk_cell BK168.out 0).trans rfl; have hcz6_1 : w5.cell? ⟨gb168, 1, none⟩ = some (.int .i64 a0_1) := (blk_cell BK168.out 1).trans rfl; have hcz6_2 : w5.cell? ⟨gb168, 2, none⟩ = some (.int .i64 a0_2) := (blk_cell BK168.out 2).trans rfl; have hcz6_3 : w5.cell? ⟨gb168, 3, none⟩ = some (.int .i64 a0_3) := (blk_cell BK168.out 3).trans rfl; have hcz6_4 : w5.cell? ⟨gb168, 4, none⟩ = some (.slice A0_4 l0_4.length c0_4) := (blk_cell BK168.out 4).trans rfl; have hfz6_0 := blk_frozen BK168.out 0; have hfz6_1 := blk_frozen BK168.out 1; have hfz6_2 := blk_frozen BK168.out 2; have hfz6_3 := blk_frozen BK168.out 3; have hfz6_4 := blk_frozen BK168.out 4) | ((with_reducible refine gate_callee (f := 83) rfl ?_); refine goesL_ (some 8) rfl rfl Try.func83 (by kernel_rfl) rfl #[.slice A0_4 l0_4.length c0_4, .int .i64 a1] rfl (by (try simp only [List.map_toArray, List.map_cons, List.map_nil]); first | done | rfl | (simp only [List.length_drop, List.length_take]; rfl)) ?_; (with_reducible refine (laws_heldIntS.calls k _ _ l0_4 a1 t169 _ ?side1 ?side2 A3.out).mono ?_); (case side1 => repeat (first | exact (Kd.C_below HR0_4.out HB.out) | (with_reducible refine Kd.C_alloc ?_ _) | (with_reducible refine Kd.C_drewN ?_ _) | (with_reducible refine Kd.C_drew ?_))); (case side2 => exact HC0_4.out); rintro e w' ⟨rfl, ⟨nd, rfl⟩⟩; refine ⟨_, rfl, ?_⟩))
    go_ret
    exact ⟨by first | rfl | (simp [errW_none, errW_some] <;> rfl) | (simp [*, errW_none, errW_some] <;> rfl), by repeat (first | (with_reducible first | exact HB.out | apply below_alloc | apply pw_below_drewN | apply below_drew1 | refine below_set ?_ GE168.out) | exact HB.out)⟩
  rw [if_neg c4] at H
  have c4b0 : decide (t169 < 0) = false := decide_eq_false c4
  clear c4
  obtain rfl := Option.some.inj H
  go_enter Try.func29, Try.ntmps29
  go_wp2_with (first | ((with_reducible refine gate_dst (N := 2) rfl ?_); refine box_event ?hg (N := 2) ?hd (cs := #[.int .i64 a0_0, .int .i64 a0_1, .int .i64 a0_2, .int .i64 a0_3, .slice A0_4 l0_4.length c0_4]) (t := 35) ?hr ?_; (case hd => rfl); (case hg => rfl); (case hr => first | (go_simp; done) | (go_simp; rfl)); intro gb168 hg w7 hbox hb; have n0_ := Aside0.mk (below_step (by repeat (first | (with_reducible first | exact HB.out | apply below_alloc | apply pw_below_drewN | apply below_drew1) | exact HB.out)) hb); have n1_ := Aside0.mk (hbox); have n2_ := Aside0.mk ((by rw [hg]; exact (below_size (by repeat (first | (with_reducible first | exact HB.out | apply below_alloc | apply pw_below_drewN | apply below_drew1) | exact HB.out))) : w.heap.size ≤ gb168)); have n3_ := n2_; clear HB; have HB := n0_; have BK168 := n1_; have GW168 := n2_; have GE168 := n3_; clear n0_ n1_ n2_ n3_; clear hb hbox hg; have hcz8_0 : w7.cell? ⟨gb168, 0, none⟩ = some (.int .i64 a0_0) := (blk_cell BK168.out 0).trans rfl; have hcz8_1 : w7.cell? ⟨gb168, 1, none⟩ = some (.int .i64 a0_1) := (blk_cell BK168.out 1).trans rfl; have hcz8_2 : w7.cell? ⟨gb168, 2, none⟩ = some (.int .i64 a0_2) := (blk_cell BK168.out 2).trans rfl; have hcz8_3 : w7.cell? ⟨gb168, 3, none⟩ = some (.int .i64 a0_3) := (blk_cell BK168.out 3).trans rfl; have hcz8_4 : w7.cell? ⟨gb168, 4, none⟩ = some (.slice A0_4 l0_4.length c0_4) := (blk_cell BK168.out 4).trans rfl; have hfz8_0 := blk_frozen BK168.out 0; have hfz8_1 := blk_frozen BK168.out 1; have hfz8_2 := blk_frozen BK168.out 2; have hfz8_3 := blk_frozen BK168.out 3; have hfz8_4 := blk_frozen BK168.out 4) | ((with_reducible refine gate_callee (f := 83) rfl ?_); refine goesL_ (some 8) rfl rfl Try.func83 (by kernel_rfl) rfl #[.slice A0_4 l0_4.length c0_4, .int .i64 a1] rfl (by (try simp only [List.map_toArray, List.map_cons, List.map_nil]); first | done | rfl | (simp only [List.length_drop, List.length_take]; rfl)) ?_; (with_reducible refine (laws_heldIntS.calls k _ _ l0_4 a1 t169 _ ?side1 ?side2 A3.out).mono ?_); (case side1 => repeat (first | exact (Kd.C_below HR0_4.out HB.out) | (with_reducible refine Kd.C_alloc ?_ _) | (with_reducible refine Kd.C_drewN ?_ _) | (with_reducible refine Kd.C_drew ?_))); (case side2 => exact HC0_4.out); rintro e w' ⟨rfl, ⟨nd, rfl⟩⟩; refine ⟨_, rfl, ?_⟩))
  go_ret
  exact ⟨by first | rfl | (simp [errW_none, errW_some] <;> rfl) | (simp [*, errW_none, errW_some] <;> rfl), by repeat (first | (with_reducible first | exact HB.out | apply below_alloc | apply pw_below_drewN | apply below_drew1 | refine below_set ?_ GE168.out) | exact HB.out)⟩

/-! ### laws_FnExactMerge: function 4 -/
def laws_FnExactMerge.Pure : Prop := ∀ (a0 : Int) (a1 : Int) (l2 : List (S108)), (Lit.int .i64 a0).wf = true → (Lit.int .i64 a1).wf = true → (l2.length ≤ maxLen ∧ ∀ y0 ∈ l2, ((Lit.int .i64 y0.f0).wf = true ∧ (Lit.int .i64 y0.f1).wf = true ∧ (Lit.int .i64 y0.f2).wf = true ∧ (Lit.int .i64 y0.f3).wf = true ∧ (y0.f4.length ≤ maxLen ∧ ∀ y1 ∈ y0.f4, (Lit.int .i64 y1).wf = true))) → ∃ (k : Nat) (s : Int), laws_szImageS.f k l2 1048576 = some s ∧ (s < 0 ∨ 0 ≤ s ∧ ∃ (ps ps' : List S35) (r1 r2 r3 r4 : Int) (r5 r5' : List Int) (ka m : Int), laws_toImageS.f k l2 = some ps ∧ spec_Merge.f k a0 a1 ps = some (r1, r2, r3, r4, r5) ∧ impl_Merge.f k a0 a1 ps = some (r1, r2, r3, r4, r5) ∧ laws_eqImage.f k r1 r2 r3 r4 r5 r1 r2 r3 r4 r5 = some true ∧ laws_eqImageS.f k ps ps = some true ∧ laws_markImageS.f k ps 1 = some (ka, ps') ∧ 0 ≤ ka ∧ laws_markImage.f k r1 r2 r3 r4 r5 1 = some (m, r5') ∧ 0 ≤ m ∧ laws_heldImage.f k r1 r2 r3 r4 r5' 1 = some m)
set_option maxHeartbeats 8000000 in
set_option maxRecDepth 100000 in
theorem laws_FnExactMerge.walk (P : laws_FnExactMerge.Pure) (a0 : Int) (a1 : Int) (A2 : Option Addr) (c2 : Nat) (l2 : List (S108)) (w : World) (hr2 : Kd.C k108 w A2 l2.length l2) (hc2 : l2.length ≤ c2) (w0 : (Lit.int .i64 a0).wf = true) (w1 : (Lit.int .i64 a1).wf = true) (w2 : (l2.length ≤ maxLen ∧ ∀ y0 ∈ l2, ((Lit.int .i64 y0.f0).wf = true ∧ (Lit.int .i64 y0.f1).wf = true ∧ (Lit.int .i64 y0.f2).wf = true ∧ (Lit.int .i64 y0.f3).wf = true ∧ (y0.f4.length ≤ maxLen ∧ ∀ y1 ∈ y0.f4, (Lit.int .i64 y1).wf = true)))) :
    Calls Try.prog 4 #[.int .i64 a0, .int .i64 a1, .slice A2 l2.length c2] w fun e w' => e = .returned (.bool true) ∧ Below w.heap.size w w' := by
  obtain ⟨k, s, E1, ES⟩ := P a0 a1 l2 w0 w1 w2
  clear P w0 w1 w2
  have huI := Try.underlying35
  have HR2 := Aside0.mk hr2
  have HC2 := Aside0.mk hc2
  clear hr2 hc2
  have HB := Aside0.mk (Below.refl w.heap.size w)
  have E1 := Aside0.mk E1
  have ES := Aside0.mk ES
  by_cases cs : s < 0
  · have cb : decide (s < 0) = true := decide_eq_true cs
    clear ES cs
    go_enter Try.func4, Try.ntmps4
    go_wp2_with (first | ((with_reducible refine gate_callee (f := 21) rfl ?_); refine goesL_ (some 17) rfl rfl Try.func21 (by kernel_rfl) rfl #[.slice A2 l2.length c2, .int .i64 1048576] rfl (by (try simp only [List.map_toArray, List.map_cons, List.map_nil]); first | done | rfl) ?_; (with_reducible refine (laws_szImageS.calls k _ _ l2 1048576 s _ ?side1 ?side2 E1.out).mono ?_); (case side1 => exact Kd.C_below HR2.out HB.out); (case side2 => exact HC2.out); rintro e w_1 ⟨rfl, hb⟩; refine ⟨_, rfl, ?_⟩; have n_HB := Aside0.mk (below_step HB.out hb); have SZw_1 := Aside0.mk hb.size; clear HB; have HB := n_HB; clear n_HB; clear hb))
    go_ret
    exact ⟨rfl, HB.out⟩
  have cb : decide (s < 0) = false := decide_eq_false cs
  obtain ⟨hs, ps, ps', r1, r2, r3, r4, r5, r5', ka, m, E2, E3, E4, E5, E6, E7, hka, E8, hm, E9⟩ := ES.out.resolve_left cs
  clear ES cs hs
  replace E2 := Aside0.mk E2
  replace E3 := Aside0.mk E3
  replace E4 := Aside0.mk E4
  replace E5 := Aside0.mk E5
  replace E6 := Aside0.mk E6
  replace E7 := Aside0.mk E7
  replace E8 := Aside0.mk E8
  replace E9 := Aside0.mk E9
  have cka : decide (ka < 0) = false := decide_eq_false (by omega)
  have cm : decide (m < 0) = false := decide_eq_false (by omega)
  clear hka hm
  go_enter Try.func4, Try.ntmps4
  go_upto_region 5 with (first | ((with_reducible refine gate_callee (f := 21) rfl ?_); refine goesL_ (some 17) rfl rfl Try.func21 (by kernel_rfl) rfl #[.slice A2 l2.length c2, .int .i64 1048576] rfl (by (try simp only [List.map_toArray, List.map_cons, List.map_nil]); first | done | rfl) ?_; (with_reducible refine (laws_szImageS.calls k _ _ l2 1048576 s _ ?side1 ?side2 E1.out).mono ?_); (case side1 => exact Kd.C_below HR2.out HB.out); (case side2 => exact HC2.out); rintro e w_1 ⟨rfl, hb⟩; refine ⟨_, rfl, ?_⟩; have n_HB := Aside0.mk (below_step HB.out hb); have SZw_1 := Aside0.mk hb.size; clear HB; have HB := n_HB; clear n_HB; clear hb))
  go_upto_region 6 with (first | ((with_reducible refine gate_callee (f := 23) rfl ?_); refine goesL_ (some 23) rfl rfl Try.func23 (by kernel_rfl) rfl #[.slice A2 l2.length c2] rfl (by (try simp only [List.map_toArray, List.map_cons, List.map_nil]); first | done | rfl) ?_; (with_reducible refine (laws_toImageS.calls k _ _ l2 ps _ ?side1 ?side2 E2.out).mono ?_); (case side1 => exact Kd.C_below HR2.out HB.out); (case side2 => exact HC2.out); rintro e w_2 ⟨vx, rfl, hox, hb⟩; refine ⟨_, rfl, ?_⟩; have n_HB := Aside0.mk (below_step HB.out hb); have SZw_2 := Aside0.mk hb.size; clear HB; have HB := n_HB; clear n_HB; have HOx := Aside0.mk (show Kd.S k35 35 w_2 w.heap.size (fun k_ => w_1.heap.size ≤ k_ ∧ k_ < w_2.heap.size) vx ps from Kd.S_lower (Kd.S_mono (Kd.S_bound hox) (fun k_ hk => ⟨hk.2.1, hk.2.2.1⟩)) (by have := SZw_1.out; have := SZw_2.out; omega)); obtain ⟨Ax, cx, ex⟩ := Kd.S_slice HOx.out; subst ex; clear hb hox) | ((with_reducible refine gate_callee (f := 22) rfl ?_); refine goesL_ (some 24) rfl rfl Try.func22 (by kernel_rfl) rfl #[.int .i64 a0, .int .i64 a1, .slice Ax ps.length cx] rfl (by (try simp only [List.map_toArray, List.map_cons, List.map_nil]); first | done | rfl) ?_; (with_reducible refine (spec_Merge.calls k a0 a1 _ _ ps r1 r2 r3 r4 r5 _ ?side1 ?side2 E3.out).mono ?_); (case side1 => exact (Kd.S_reads' HOx.out).2.2); (case side2 => exact (Kd.S_reads' HOx.out).2.1); rintro e w_3 ⟨vw0, rfl, how0, hb⟩; refine ⟨_, rfl, ?_⟩; have n_HB := Aside0.mk (below_step HB.out hb); have SZw_3 := Aside0.mk hb.size; have n_HOx := Aside0.mk (Kd.S_below HOx.out hb); clear HB HOx; have HB := n_HB; have HOx := n_HOx; clear n_HB n_HOx; have HOw0 := Aside0.mk (show Kd.R (Kd.int .i64) 3 w_3 w.heap.size (fun k_ => w_2.heap.size ≤ k_ ∧ k_ < w_3.heap.size) vw0 r5 from Kd.R_lower (Kd.R_mono (Kd.R_bound how0) (fun k_ hk => ⟨hk.2.1, hk.2.2.1⟩)) (by have := SZw_1.out; have := SZw_2.out; have := SZw_3.out; omega)); obtain ⟨Aw0, cw0, ew0⟩ := Kd.R_slice HOw0.out; subst ew0; clear hb how0) | ((with_reducible refine gate_dst (N := 8) rfl ?_); refine box_event ?hg (N := 8) ?hd (cs := #[.int .i64 0, .int .i64 0, .int .i64 0, .int .i64 0, .slice none 0 0]) (t := 35) ?hr ?_; (case hd => rfl); (case hg => rfl); (case hr => first | (go_simp; done) | (go_simp; rfl)); intro g8 hg w_4 hbox hb; have BKg8 := Aside0.mk hbox; have GLg8 := Aside0.mk (show w_3.heap.size ≤ g8 from Nat.le_of_eq hg.symm); have HV := Aside0.mk hb; clear hg hb hbox) | ((with_reducible refine gate_store (t := 35) (p := 8) (v := .tmp 24) rfl ?_); refine put_all rfl 35 (.tmp 8) (.tmp 24) rfl rfl g8 #[.int .i64 0, .int .i64 0, .int .i64 0, .int .i64 0, .slice none 0 0] 35 (.agg #[.int .i64 r1, .int .i64 r2, .int .i64 r3, .int .i64 r4, .slice Aw0 r5.length cw0]) [.int .i64 r1, .int .i64 r2, .int .i64 r3, .int .i64 r4, .slice Aw0 r5.length cw0] rfl rfl rfl (by simp [Value.oneCell']) (by kernel_rfl) BKg8.out rfl ?_; intro w_5 h1 hk hbb; have hb := hbb _ _ HV.out GLg8.out; have n_HB := Aside0.mk (below_step HB.out hb); have SZw_5 := Aside0.mk hb.size; have n_HOx := Aside0.mk (Kd.S_below HOx.out hb); have n_HOw0 := Aside0.mk (Kd.R_below HOw0.out hb); clear HB HOx HOw0; have HB := n_HB; have HOx := n_HOx; have HOw0 := n_HOw0; clear n_HB n_HOx n_HOw0; clear HV BKg8; have BKg8 := Aside0.mk (show w_5.heap[g8]? = some (.cells #[.int .i64 r1, .int .i64 r2, .int .i64 r3, .int .i64 r4, .slice Aw0 r5.length cw0] 35 (0, 0)) from h1); have GHg8 := Aside0.mk (blk_lt h1); clear h1 hk hbb hb; have hcz_g8_0 : (w_5).cell? ⟨g8, 0, none⟩ = some (.int .i64 r1) := (blk_cell BKg8.out 0).trans rfl; have hcz_g8_1 : (w_5).cell? ⟨g8, 1, none⟩ = some (.int .i64 r2) := (blk_cell BKg8.out 1).trans rfl; have hcz_g8_2 : (w_5).cell? ⟨g8, 2, none⟩ = some (.int .i64 r3) := (blk_cell BKg8.out 2).trans rfl; have hcz_g8_3 : (w_5).cell? ⟨g8, 3, none⟩ = some (.int .i64 r4) := (blk_cell BKg8.out 3).trans rfl; have hcz_g8_4 : (w_5).cell? ⟨g8, 4, none⟩ = some (.slice Aw0 r5.length cw0) := (blk_cell BKg8.out 4).trans rfl; have hfz_g8_0 := blk_frozen BKg8.out 0; have hfz_g8_1 := blk_frozen BKg8.out 1; have hfz_g8_2 := blk_frozen BKg8.out 2; have hfz_g8_3 := blk_frozen BKg8.out 3; have hfz_g8_4 := blk_frozen BKg8.out 4))
  go_upto_region 7 with (first | ((with_reducible refine gate_callee (f := 23) rfl ?_); refine goesL_ (some 26) rfl rfl Try.func23 (by kernel_rfl) rfl #[.slice A2 l2.length c2] rfl (by (try simp only [List.map_toArray, List.map_cons, List.map_nil]); first | done | rfl) ?_; (with_reducible refine (laws_toImageS.calls k _ _ l2 ps _ ?side1 ?side2 E2.out).mono ?_); (case side1 => exact Kd.C_below HR2.out HB.out); (case side2 => exact HC2.out); rintro e w_6 ⟨vy, rfl, hoy, hb⟩; refine ⟨_, rfl, ?_⟩; clear hcz_g8_0 hcz_g8_1 hcz_g8_2 hcz_g8_3 hcz_g8_4 hfz_g8_0 hfz_g8_1 hfz_g8_2 hfz_g8_3 hfz_g8_4; have n_HB := Aside0.mk (below_step HB.out hb); have SZw_6 := Aside0.mk hb.size; have n_HOx := Aside0.mk (Kd.S_below HOx.out hb); have n_HOw0 := Aside0.mk (Kd.R_below HOw0.out hb); have n_BKg8 := Aside0.mk (blk_below BKg8.out hb); clear HB HOx HOw0 BKg8; have HB := n_HB; have HOx := n_HOx; have HOw0 := n_HOw0; have BKg8 := n_BKg8; clear n_HB n_HOx n_HOw0 n_BKg8; have HOy := Aside0.mk (show Kd.S k35 35 w_6 w.heap.size (fun k_ => w_5.heap.size ≤ k_ ∧ k_ < w_6.heap.size) vy ps from Kd.S_lower (Kd.S_mono (Kd.S_bound hoy) (fun k_ hk => ⟨hk.2.1, hk.2.2.1⟩)) (by have := SZw_1.out; have := SZw_2.out; have := SZw_3.out; have := SZw_5.out; have := SZw_6.out; omega)); obtain ⟨Ay, cy, ey⟩ := Kd.S_slice HOy.out; subst ey; clear hb hoy; have hcz_g8_0 : (w_6).cell? ⟨g8, 0, none⟩ = some (.int .i64 r1) := (blk_cell BKg8.out 0).trans rfl; have hcz_g8_1 : (w_6).cell? ⟨g8, 1, none⟩ = some (.int .i64 r2) := (blk_cell BKg8.out 1).trans rfl; have hcz_g8_2 : (w_6).cell? ⟨g8, 2, none⟩ = some (.int .i64 r3) := (blk_cell BKg8.out 2).trans rfl; have hcz_g8_3 : (w_6).cell? ⟨g8, 3, none⟩ = some (.int .i64 r4) := (blk_cell BKg8.out 3).trans rfl; have hcz_g8_4 : (w_6).cell? ⟨g8, 4, none⟩ = some (.slice Aw0 r5.length cw0) := (blk_cell BKg8.out 4).trans rfl; have hfz_g8_0 := blk_frozen BKg8.out 0; have hfz_g8_1 := blk_frozen BKg8.out 1; have hfz_g8_2 := blk_frozen BKg8.out 2; have hfz_g8_3 := blk_frozen BKg8.out 3; have hfz_g8_4 := blk_frozen BKg8.out 4))
  go_upto_region 8 with (first | ((with_reducible refine gate_callee (f := 24) rfl ?_); refine goesL_ (some 30) rfl rfl Try.func24 (by kernel_rfl) rfl #[.int .i64 a0, .int .i64 a1, .slice Ay ps.length cy] rfl (by (try simp only [List.map_toArray, List.map_cons, List.map_nil]); first | done | rfl) ?_; (with_reducible refine (impl_Merge.calls k a0 a1 _ _ ps r1 r2 r3 r4 r5 _ ?side1 ?side2 E4.out).mono ?_); (case side1 => exact (Kd.S_reads' HOy.out).2.2); (case side2 => exact (Kd.S_reads' HOy.out).2.1); rintro e w_7 ⟨vg0, rfl, hog0, hb⟩; refine ⟨_, rfl, ?_⟩; clear hcz_g8_0 hcz_g8_1 hcz_g8_2 hcz_g8_3 hcz_g8_4 hfz_g8_0 hfz_g8_1 hfz_g8_2 hfz_g8_3 hfz_g8_4; have n_HB := Aside0.mk (below_step HB.out hb); have SZw_7 := Aside0.mk hb.size; have n_HOx := Aside0.mk (Kd.S_below HOx.out hb); have n_HOw0 := Aside0.mk (Kd.R_below HOw0.out hb); have n_BKg8 := Aside0.mk (blk_below BKg8.out hb); have n_HOy := Aside0.mk (Kd.S_below HOy.out hb); clear HB HOx HOw0 BKg8 HOy; have HB := n_HB; have HOx := n_HOx; have HOw0 := n_HOw0; have BKg8 := n_BKg8; have HOy := n_HOy; clear n_HB n_HOx n_HOw0 n_BKg8 n_HOy; have HOg0 := Aside0.mk (show Kd.R (Kd.int .i64) 3 w_7 w.heap.size (fun k_ => w_6.heap.size ≤ k_ ∧ k_ < w_7.heap.size) vg0 r5 from Kd.R_lower (Kd.R_mono (Kd.R_bound hog0) (fun k_ hk => ⟨hk.2.1, hk.2.2.1⟩)) (by have := SZw_1.out; have := SZw_2.out; have := SZw_3.out; have := SZw_5.out; have := SZw_6.out; have := SZw_7.out; omega)); obtain ⟨Ag0, cg0, eg0⟩ := Kd.R_slice HOg0.out; subst eg0; clear hb hog0; have hcz_g8_0 : (w_7).cell? ⟨g8, 0, none⟩ = some (.int .i64 r1) := (blk_cell BKg8.out 0).trans rfl; have hcz_g8_1 : (w_7).cell? ⟨g8, 1, none⟩ = some (.int .i64 r2) := (blk_cell BKg8.out 1).trans rfl; have hcz_g8_2 : (w_7).cell? ⟨g8, 2, none⟩ = some (.int .i64 r3) := (blk_cell BKg8.out 2).trans rfl; have hcz_g8_3 : (w_7).cell? ⟨g8, 3, none⟩ = some (.int .i64 r4) := (blk_cell BKg8.out 3).trans rfl; have hcz_g8_4 : (w_7).cell? ⟨g8, 4, none⟩ = some (.slice Aw0 r5.length cw0) := (blk_cell BKg8.out 4).trans rfl; have hfz_g8_0 := blk_frozen BKg8.out 0; have hfz_g8_1 := blk_frozen BKg8.out 1; have hfz_g8_2 := blk_frozen BKg8.out 2; have hfz_g8_3 := blk_frozen BKg8.out 3; have hfz_g8_4 := blk_frozen BKg8.out 4) | ((with_reducible refine gate_dst (N := 10) rfl ?_); refine box_event ?hg (N := 10) ?hd (cs := #[.int .i64 0, .int .i64 0, .int .i64 0, .int .i64 0, .slice none 0 0]) (t := 35) ?hr ?_; (case hd => rfl); (case hg => rfl); (case hr => first | (go_simp; done) | (go_simp; rfl)); intro g10 hg w_8 hbox hb; have BKg10 := Aside0.mk hbox; have GLg10 := Aside0.mk (show w_7.heap.size ≤ g10 from Nat.le_of_eq hg.symm); have HV := Aside0.mk hb; clear hg hb hbox) | ((with_reducible refine gate_store (t := 35) (p := 10) (v := .tmp 30) rfl ?_); refine put_all rfl 35 (.tmp 10) (.tmp 30) rfl rfl g10 #[.int .i64 0, .int .i64 0, .int .i64 0, .int .i64 0, .slice none 0 0] 35 (.agg #[.int .i64 r1, .int .i64 r2, .int .i64 r3, .int .i64 r4, .slice Ag0 r5.length cg0]) [.int .i64 r1, .int .i64 r2, .int .i64 r3, .int .i64 r4, .slice Ag0 r5.length cg0] rfl rfl rfl (by simp [Value.oneCell']) (by kernel_rfl) BKg10.out rfl ?_; intro w_9 h1 hk hbb; have hb := hbb _ _ HV.out GLg10.out; clear hcz_g8_0 hcz_g8_1 hcz_g8_2 hcz_g8_3 hcz_g8_4 hfz_g8_0 hfz_g8_1 hfz_g8_2 hfz_g8_3 hfz_g8_4; have n_HB := Aside0.mk (below_step HB.out hb); have SZw_9 := Aside0.mk hb.size; have n_HOx := Aside0.mk (Kd.S_below HOx.out hb); have n_HOw0 := Aside0.mk (Kd.R_below HOw0.out hb); have n_BKg8 := Aside0.mk (blk_below BKg8.out hb); have n_HOy := Aside0.mk (Kd.S_below HOy.out hb); have n_HOg0 := Aside0.mk (Kd.R_below HOg0.out hb); clear HB HOx HOw0 BKg8 HOy HOg0; have HB := n_HB; have HOx := n_HOx; have HOw0 := n_HOw0; have BKg8 := n_BKg8; have HOy := n_HOy; have HOg0 := n_HOg0; clear n_HB n_HOx n_HOw0 n_BKg8 n_HOy n_HOg0; clear HV BKg10; have BKg10 := Aside0.mk (show w_9.heap[g10]? = some (.cells #[.int .i64 r1, .int .i64 r2, .int .i64 r3, .int .i64 r4, .slice Ag0 r5.length cg0] 35 (0, 0)) from h1); have GHg10 := Aside0.mk (blk_lt h1); clear h1 hk hbb hb; have hcz_g8_0 : (w_9).cell? ⟨g8, 0, none⟩ = some (.int .i64 r1) := (blk_cell BKg8.out 0).trans rfl; have hcz_g8_1 : (w_9).cell? ⟨g8, 1, none⟩ = some (.int .i64 r2) := (blk_cell BKg8.out 1).trans rfl; have hcz_g8_2 : (w_9).cell? ⟨g8, 2, none⟩ = some (.int .i64 r3) := (blk_cell BKg8.out 2).trans rfl; have hcz_g8_3 : (w_9).cell? ⟨g8, 3, none⟩ = some (.int .i64 r4) := (blk_cell BKg8.out 3).trans rfl; have hcz_g8_4 : (w_9).cell? ⟨g8, 4, none⟩ = some (.slice Aw0 r5.length cw0) := (blk_cell BKg8.out 4).trans rfl; have hfz_g8_0 := blk_frozen BKg8.out 0; have hfz_g8_1 := blk_frozen BKg8.out 1; have hfz_g8_2 := blk_frozen BKg8.out 2; have hfz_g8_3 := blk_frozen BKg8.out 3; have hfz_g8_4 := blk_frozen BKg8.out 4; have hcz_g10_0 : (w_9).cell? ⟨g10, 0, none⟩ = some (.int .i64 r1) := (blk_cell BKg10.out 0).trans rfl; have hcz_g10_1 : (w_9).cell? ⟨g10, 1, none⟩ = some (.int .i64 r2) := (blk_cell BKg10.out 1).trans rfl; have hcz_g10_2 : (w_9).cell? ⟨g10, 2, none⟩ = some (.int .i64 r3) := (blk_cell BKg10.out 2).trans rfl; have hcz_g10_3 : (w_9).cell? ⟨g10, 3, none⟩ = some (.int .i64 r4) := (blk_cell BKg10.out 3).trans rfl; have hcz_g10_4 : (w_9).cell? ⟨g10, 4, none⟩ = some (.slice Ag0 r5.length cg0) := (blk_cell BKg10.out 4).trans rfl; have hfz_g10_0 := blk_frozen BKg10.out 0; have hfz_g10_1 := blk_frozen BKg10.out 1; have hfz_g10_2 := blk_frozen BKg10.out 2; have hfz_g10_3 := blk_frozen BKg10.out 3; have hfz_g10_4 := blk_frozen BKg10.out 4))
  go_upto_region 10 with (first | ((with_reducible refine gate_callee (f := 25) rfl ?_); refine goesL_ (some 33) rfl rfl Try.func25 (by kernel_rfl) rfl #[.agg #[.int .i64 r1, .int .i64 r2, .int .i64 r3, .int .i64 r4, .slice Ag0 r5.length cg0], .agg #[.int .i64 r1, .int .i64 r2, .int .i64 r3, .int .i64 r4, .slice Aw0 r5.length cw0]] rfl (by (try simp only [List.map_toArray, List.map_cons, List.map_nil]); first | done | rfl) ?_; (with_reducible refine (laws_eqImage.calls k r1 r2 r3 r4 _ _ r5 r1 r2 r3 r4 _ _ r5 true _ ?side1 ?side2 ?side3 ?side4 E5.out).mono ?_); (case side1 => exact (Kd.R_reads' HOg0.out).2.2); (case side2 => exact (Kd.R_reads' HOg0.out).2.1); (case side3 => exact (Kd.R_reads' HOw0.out).2.2); (case side4 => exact (Kd.R_reads' HOw0.out).2.1); rintro e w_10 ⟨rfl, hb⟩; refine ⟨_, rfl, ?_⟩; clear hcz_g8_0 hcz_g8_1 hcz_g8_2 hcz_g8_3 hcz_g8_4 hfz_g8_0 hfz_g8_1 hfz_g8_2 hfz_g8_3 hfz_g8_4 hcz_g10_0 hcz_g10_1 hcz_g10_2 hcz_g10_3 hcz_g10_4 hfz_g10_0 hfz_g10_1 hfz_g10_2 hfz_g10_3 hfz_g10_4; have n_HB := Aside0.mk (below_step HB.out hb); have SZw_10 := Aside0.mk hb.size; have n_HOx := Aside0.mk (Kd.S_below HOx.out hb); have n_HOw0 := Aside0.mk (Kd.R_below HOw0.out hb); have n_BKg8 := Aside0.mk (blk_below BKg8.out hb); have n_HOy := Aside0.mk (Kd.S_below HOy.out hb); have n_HOg0 := Aside0.mk (Kd.R_below HOg0.out hb); have n_BKg10 := Aside0.mk (blk_below BKg10.out hb); clear HB HOx HOw0 BKg8 HOy HOg0 BKg10; have HB := n_HB; have HOx := n_HOx; have HOw0 := n_HOw0; have BKg8 := n_BKg8; have HOy := n_HOy; have HOg0 := n_HOg0; have BKg10 := n_BKg10; clear n_HB n_HOx n_HOw0 n_BKg8 n_HOy n_HOg0 n_BKg10; clear hb; have hcz_g8_0 : (w_10).cell? ⟨g8, 0, none⟩ = some (.int .i64 r1) := (blk_cell BKg8.out 0).trans rfl; have hcz_g8_1 : (w_10).cell? ⟨g8, 1, none⟩ = some (.int .i64 r2) := (blk_cell BKg8.out 1).trans rfl; have hcz_g8_2 : (w_10).cell? ⟨g8, 2, none⟩ = some (.int .i64 r3) := (blk_cell BKg8.out 2).trans rfl; have hcz_g8_3 : (w_10).cell? ⟨g8, 3, none⟩ = some (.int .i64 r4) := (blk_cell BKg8.out 3).trans rfl; have hcz_g8_4 : (w_10).cell? ⟨g8, 4, none⟩ = some (.slice Aw0 r5.length cw0) := (blk_cell BKg8.out 4).trans rfl; have hfz_g8_0 := blk_frozen BKg8.out 0; have hfz_g8_1 := blk_frozen BKg8.out 1; have hfz_g8_2 := blk_frozen BKg8.out 2; have hfz_g8_3 := blk_frozen BKg8.out 3; have hfz_g8_4 := blk_frozen BKg8.out 4; have hcz_g10_0 : (w_10).cell? ⟨g10, 0, none⟩ = some (.int .i64 r1) := (blk_cell BKg10.out 0).trans rfl; have hcz_g10_1 : (w_10).cell? ⟨g10, 1, none⟩ = some (.int .i64 r2) := (blk_cell BKg10.out 1).trans rfl; have hcz_g10_2 : (w_10).cell? ⟨g10, 2, none⟩ = some (.int .i64 r3) := (blk_cell BKg10.out 2).trans rfl; have hcz_g10_3 : (w_10).cell? ⟨g10, 3, none⟩ = some (.int .i64 r4) := (blk_cell BKg10.out 3).trans rfl; have hcz_g10_4 : (w_10).cell? ⟨g10, 4, none⟩ = some (.slice Ag0 r5.length cg0) := (blk_cell BKg10.out 4).trans rfl; have hfz_g10_0 := blk_frozen BKg10.out 0; have hfz_g10_1 := blk_frozen BKg10.out 1; have hfz_g10_2 := blk_frozen BKg10.out 2; have hfz_g10_3 := blk_frozen BKg10.out 3; have hfz_g10_4 := blk_frozen BKg10.out 4))
  go_upto_region 12 with (first | ((with_reducible refine gate_callee (f := 23) rfl ?_); refine goesL_ (some 37) rfl rfl Try.func23 (by kernel_rfl) rfl #[.slice A2 l2.length c2] rfl (by (try simp only [List.map_toArray, List.map_cons, List.map_nil]); first | done | rfl) ?_; (with_reducible refine (laws_toImageS.calls k _ _ l2 ps _ ?side1 ?side2 E2.out).mono ?_); (case side1 => exact Kd.C_below HR2.out HB.out); (case side2 => exact HC2.out); rintro e w_11 ⟨vz, rfl, hoz, hb⟩; refine ⟨_, rfl, ?_⟩; clear hcz_g8_0 hcz_g8_1 hcz_g8_2 hcz_g8_3 hcz_g8_4 hfz_g8_0 hfz_g8_1 hfz_g8_2 hfz_g8_3 hfz_g8_4 hcz_g10_0 hcz_g10_1 hcz_g10_2 hcz_g10_3 hcz_g10_4 hfz_g10_0 hfz_g10_1 hfz_g10_2 hfz_g10_3 hfz_g10_4; have n_HB := Aside0.mk (below_step HB.out hb); have SZw_11 := Aside0.mk hb.size; have n_HOx := Aside0.mk (Kd.S_below HOx.out hb); have n_HOw0 := Aside0.mk (Kd.R_below HOw0.out hb); have n_BKg8 := Aside0.mk (blk_below BKg8.out hb); have n_HOy := Aside0.mk (Kd.S_below HOy.out hb); have n_HOg0 := Aside0.mk (Kd.R_below HOg0.out hb); have n_BKg10 := Aside0.mk (blk_below BKg10.out hb); clear HB HOx HOw0 BKg8 HOy HOg0 BKg10; have HB := n_HB; have HOx := n_HOx; have HOw0 := n_HOw0; have BKg8 := n_BKg8; have HOy := n_HOy; have HOg0 := n_HOg0; have BKg10 := n_BKg10; clear n_HB n_HOx n_HOw0 n_BKg8 n_HOy n_HOg0 n_BKg10; have HOz := Aside0.mk (show Kd.S k35 35 w_11 w.heap.size (fun k_ => w_10.heap.size ≤ k_ ∧ k_ < w_11.heap.size) vz ps from Kd.S_lower (Kd.S_mono (Kd.S_bound hoz) (fun k_ hk => ⟨hk.2.1, hk.2.2.1⟩)) (by have := SZw_1.out; have := SZw_2.out; have := SZw_3.out; have := SZw_5.out; have := SZw_6.out; have := SZw_7.out; have := SZw_9.out; have := SZw_10.out; have := SZw_11.out; omega)); obtain ⟨Az, cz, ez⟩ := Kd.S_slice HOz.out; subst ez; clear hb hoz; have hcz_g8_0 : (w_11).cell? ⟨g8, 0, none⟩ = some (.int .i64 r1) := (blk_cell BKg8.out 0).trans rfl; have hcz_g8_1 : (w_11).cell? ⟨g8, 1, none⟩ = some (.int .i64 r2) := (blk_cell BKg8.out 1).trans rfl; have hcz_g8_2 : (w_11).cell? ⟨g8, 2, none⟩ = some (.int .i64 r3) := (blk_cell BKg8.out 2).trans rfl; have hcz_g8_3 : (w_11).cell? ⟨g8, 3, none⟩ = some (.int .i64 r4) := (blk_cell BKg8.out 3).trans rfl; have hcz_g8_4 : (w_11).cell? ⟨g8, 4, none⟩ = some (.slice Aw0 r5.length cw0) := (blk_cell BKg8.out 4).trans rfl; have hfz_g8_0 := blk_frozen BKg8.out 0; have hfz_g8_1 := blk_frozen BKg8.out 1; have hfz_g8_2 := blk_frozen BKg8.out 2; have hfz_g8_3 := blk_frozen BKg8.out 3; have hfz_g8_4 := blk_frozen BKg8.out 4; have hcz_g10_0 : (w_11).cell? ⟨g10, 0, none⟩ = some (.int .i64 r1) := (blk_cell BKg10.out 0).trans rfl; have hcz_g10_1 : (w_11).cell? ⟨g10, 1, none⟩ = some (.int .i64 r2) := (blk_cell BKg10.out 1).trans rfl; have hcz_g10_2 : (w_11).cell? ⟨g10, 2, none⟩ = some (.int .i64 r3) := (blk_cell BKg10.out 2).trans rfl; have hcz_g10_3 : (w_11).cell? ⟨g10, 3, none⟩ = some (.int .i64 r4) := (blk_cell BKg10.out 3).trans rfl; have hcz_g10_4 : (w_11).cell? ⟨g10, 4, none⟩ = some (.slice Ag0 r5.length cg0) := (blk_cell BKg10.out 4).trans rfl; have hfz_g10_0 := blk_frozen BKg10.out 0; have hfz_g10_1 := blk_frozen BKg10.out 1; have hfz_g10_2 := blk_frozen BKg10.out 2; have hfz_g10_3 := blk_frozen BKg10.out 3; have hfz_g10_4 := blk_frozen BKg10.out 4) | ((with_reducible refine gate_callee (f := 26) rfl ?_); refine goesL_ (some 38) rfl rfl Try.func26 (by kernel_rfl) rfl #[.slice Ay ps.length cy, .slice Az ps.length cz] rfl (by (try simp only [List.map_toArray, List.map_cons, List.map_nil]); first | done | rfl) ?_; (with_reducible refine (laws_eqImageS.calls k _ _ ps _ _ ps true _ ?side1 ?side2 ?side3 ?side4 E6.out).mono ?_); (case side1 => exact (Kd.S_reads' HOy.out).2.2); (case side2 => exact (Kd.S_reads' HOy.out).2.1); (case side3 => exact (Kd.S_reads' HOz.out).2.2); (case side4 => exact (Kd.S_reads' HOz.out).2.1); rintro e w_12 ⟨rfl, hb⟩; refine ⟨_, rfl, ?_⟩; clear hcz_g8_0 hcz_g8_1 hcz_g8_2 hcz_g8_3 hcz_g8_4 hfz_g8_0 hfz_g8_1 hfz_g8_2 hfz_g8_3 hfz_g8_4 hcz_g10_0 hcz_g10_1 hcz_g10_2 hcz_g10_3 hcz_g10_4 hfz_g10_0 hfz_g10_1 hfz_g10_2 hfz_g10_3 hfz_g10_4; have n_HB := Aside0.mk (below_step HB.out hb); have SZw_12 := Aside0.mk hb.size; have n_HOx := Aside0.mk (Kd.S_below HOx.out hb); have n_HOw0 := Aside0.mk (Kd.R_below HOw0.out hb); have n_BKg8 := Aside0.mk (blk_below BKg8.out hb); have n_HOy := Aside0.mk (Kd.S_below HOy.out hb); have n_HOg0 := Aside0.mk (Kd.R_below HOg0.out hb); have n_BKg10 := Aside0.mk (blk_below BKg10.out hb); have n_HOz := Aside0.mk (Kd.S_below HOz.out hb); clear HB HOx HOw0 BKg8 HOy HOg0 BKg10 HOz; have HB := n_HB; have HOx := n_HOx; have HOw0 := n_HOw0; have BKg8 := n_BKg8; have HOy := n_HOy; have HOg0 := n_HOg0; have BKg10 := n_BKg10; have HOz := n_HOz; clear n_HB n_HOx n_HOw0 n_BKg8 n_HOy n_HOg0 n_BKg10 n_HOz; clear hb; have hcz_g8_0 : (w_12).cell? ⟨g8, 0, none⟩ = some (.int .i64 r1) := (blk_cell BKg8.out 0).trans rfl; have hcz_g8_1 : (w_12).cell? ⟨g8, 1, none⟩ = some (.int .i64 r2) := (blk_cell BKg8.out 1).trans rfl; have hcz_g8_2 : (w_12).cell? ⟨g8, 2, none⟩ = some (.int .i64 r3) := (blk_cell BKg8.out 2).trans rfl; have hcz_g8_3 : (w_12).cell? ⟨g8, 3, none⟩ = some (.int .i64 r4) := (blk_cell BKg8.out 3).trans rfl; have hcz_g8_4 : (w_12).cell? ⟨g8, 4, none⟩ = some (.slice Aw0 r5.length cw0) := (blk_cell BKg8.out 4).trans rfl; have hfz_g8_0 := blk_frozen BKg8.out 0; have hfz_g8_1 := blk_frozen BKg8.out 1; have hfz_g8_2 := blk_frozen BKg8.out 2; have hfz_g8_3 := blk_frozen BKg8.out 3; have hfz_g8_4 := blk_frozen BKg8.out 4; have hcz_g10_0 : (w_12).cell? ⟨g10, 0, none⟩ = some (.int .i64 r1) := (blk_cell BKg10.out 0).trans rfl; have hcz_g10_1 : (w_12).cell? ⟨g10, 1, none⟩ = some (.int .i64 r2) := (blk_cell BKg10.out 1).trans rfl; have hcz_g10_2 : (w_12).cell? ⟨g10, 2, none⟩ = some (.int .i64 r3) := (blk_cell BKg10.out 2).trans rfl; have hcz_g10_3 : (w_12).cell? ⟨g10, 3, none⟩ = some (.int .i64 r4) := (blk_cell BKg10.out 3).trans rfl; have hcz_g10_4 : (w_12).cell? ⟨g10, 4, none⟩ = some (.slice Ag0 r5.length cg0) := (blk_cell BKg10.out 4).trans rfl; have hfz_g10_0 := blk_frozen BKg10.out 0; have hfz_g10_1 := blk_frozen BKg10.out 1; have hfz_g10_2 := blk_frozen BKg10.out 2; have hfz_g10_3 := blk_frozen BKg10.out 3; have hfz_g10_4 := blk_frozen BKg10.out 4))
  go_upto_region 13 with (fail)
  go_upto_region 14 with (first | ((with_reducible refine gate_callee (f := 27) rfl ?_); refine goesL_ (some 42) rfl rfl Try.func27 (by kernel_rfl) rfl #[.slice Ay ps.length cy, .int .i64 1] rfl (by (try simp only [List.map_toArray, List.map_cons, List.map_nil]); first | done | rfl) ?_; (with_reducible refine (laws_markImageS.calls k (fun k_ => w_5.heap.size ≤ k_ ∧ k_ < w_6.heap.size) (.slice Ay ps.length cy) ps 1 ka ps' w _ ?side1 ?side2 E7.out).mono ?_); (case side1 => exact HB.out); (case side2 => exact HOy.out); rintro e w_13 ⟨rfl, hox, hb, hk⟩; clear hox; refine ⟨_, rfl, ?_⟩; clear HOy; clear hcz_g8_0 hcz_g8_1 hcz_g8_2 hcz_g8_3 hcz_g8_4 hfz_g8_0 hfz_g8_1 hfz_g8_2 hfz_g8_3 hfz_g8_4 hcz_g10_0 hcz_g10_1 hcz_g10_2 hcz_g10_3 hcz_g10_4 hfz_g10_0 hfz_g10_1 hfz_g10_2 hfz_g10_3 hfz_g10_4; have n_HB := Aside0.mk hb; have SZw_13 := Aside0.mk hk.1; have n_HOx := Aside0.mk (Kd.S_kept HOx.out hk (fun k_ ⟨a_, b_⟩ hs_ => by (try dsimp only at hs_); have := SZw_1.out; have := SZw_2.out; have := SZw_3.out; have := SZw_5.out; have := SZw_6.out; have := SZw_7.out; have := SZw_9.out; have := SZw_10.out; have := SZw_11.out; have := SZw_12.out; omega)); have n_HOw0 := Aside0.mk (Kd.R_kept HOw0.out hk (fun k_ ⟨a_, b_⟩ hs_ => by (try dsimp only at hs_); have := SZw_1.out; have := SZw_2.out; have := SZw_3.out; have := SZw_5.out; have := SZw_6.out; have := SZw_7.out; have := SZw_9.out; have := SZw_10.out; have := SZw_11.out; have := SZw_12.out; omega)); have n_BKg8 := Aside0.mk (blk_kept BKg8.out hk (fun hs_ => by (try dsimp only at hs_); have := GLg8.out; have := GHg8.out; have := SZw_1.out; have := SZw_2.out; have := SZw_3.out; have := SZw_5.out; have := SZw_6.out; have := SZw_7.out; have := SZw_9.out; have := SZw_10.out; have := SZw_11.out; have := SZw_12.out; omega)); have n_HOg0 := Aside0.mk (Kd.R_kept HOg0.out hk (fun k_ ⟨a_, b_⟩ hs_ => by (try dsimp only at hs_); have := SZw_1.out; have := SZw_2.out; have := SZw_3.out; have := SZw_5.out; have := SZw_6.out; have := SZw_7.out; have := SZw_9.out; have := SZw_10.out; have := SZw_11.out; have := SZw_12.out; omega)); have n_BKg10 := Aside0.mk (blk_kept BKg10.out hk (fun hs_ => by (try dsimp only at hs_); have := GLg10.out; have := GHg10.out; have := SZw_1.out; have := SZw_2.out; have := SZw_3.out; have := SZw_5.out; have := SZw_6.out; have := SZw_7.out; have := SZw_9.out; have := SZw_10.out; have := SZw_11.out; have := SZw_12.out; omega)); have n_HOz := Aside0.mk (Kd.S_kept HOz.out hk (fun k_ ⟨a_, b_⟩ hs_ => by (try dsimp only at hs_); have := SZw_1.out; have := SZw_2.out; have := SZw_3.out; have := SZw_5.out; have := SZw_6.out; have := SZw_7.out; have := SZw_9.out; have := SZw_10.out; have := SZw_11.out; have := SZw_12.out; omega)); clear HB HOx HOw0 BKg8 HOg0 BKg10 HOz; have HB := n_HB; have HOx := n_HOx; have HOw0 := n_HOw0; have BKg8 := n_BKg8; have HOg0 := n_HOg0; have BKg10 := n_BKg10; have HOz := n_HOz; clear n_HB n_HOx n_HOw0 n_BKg8 n_HOg0 n_BKg10 n_HOz; clear hb hk; have hcz_g8_0 : (w_13).cell? ⟨g8, 0, none⟩ = some (.int .i64 r1) := (blk_cell BKg8.out 0).trans rfl; have hcz_g8_1 : (w_13).cell? ⟨g8, 1, none⟩ = some (.int .i64 r2) := (blk_cell BKg8.out 1).trans rfl; have hcz_g8_2 : (w_13).cell? ⟨g8, 2, none⟩ = some (.int .i64 r3) := (blk_cell BKg8.out 2).trans rfl; have hcz_g8_3 : (w_13).cell? ⟨g8, 3, none⟩ = some (.int .i64 r4) := (blk_cell BKg8.out 3).trans rfl; have hcz_g8_4 : (w_13).cell? ⟨g8, 4, none⟩ = some (.slice Aw0 r5.length cw0) := (blk_cell BKg8.out 4).trans rfl; have hfz_g8_0 := blk_frozen BKg8.out 0; have hfz_g8_1 := blk_frozen BKg8.out 1; have hfz_g8_2 := blk_frozen BKg8.out 2; have hfz_g8_3 := blk_frozen BKg8.out 3; have hfz_g8_4 := blk_frozen BKg8.out 4; have hcz_g10_0 : (w_13).cell? ⟨g10, 0, none⟩ = some (.int .i64 r1) := (blk_cell BKg10.out 0).trans rfl; have hcz_g10_1 : (w_13).cell? ⟨g10, 1, none⟩ = some (.int .i64 r2) := (blk_cell BKg10.out 1).trans rfl; have hcz_g10_2 : (w_13).cell? ⟨g10, 2, none⟩ = some (.int .i64 r3) := (blk_cell BKg10.out 2).trans rfl; have hcz_g10_3 : (w_13).cell? ⟨g10, 3, none⟩ = some (.int .i64 r4) := (blk_cell BKg10.out 3).trans rfl; have hcz_g10_4 : (w_13).cell? ⟨g10, 4, none⟩ = some (.slice Ag0 r5.length cg0) := (blk_cell BKg10.out 4).trans rfl; have hfz_g10_0 := blk_frozen BKg10.out 0; have hfz_g10_1 := blk_frozen BKg10.out 1; have hfz_g10_2 := blk_frozen BKg10.out 2; have hfz_g10_3 := blk_frozen BKg10.out 3; have hfz_g10_4 := blk_frozen BKg10.out 4))
  (try simp only [Act.put, List.setIfInBounds_toArray, List.set_cons_zero, List.set_cons_succ])
  (try rw [cka])
  go_upto_region 17 with (first | (go_at_call 25; (with_reducible refine (laws_eqImage.calls k r1 r2 r3 r4 _ _ r5 r1 r2 r3 r4 _ _ r5 true _ ?side1 ?side2 ?side3 ?side4 E5.out).mono ?_); (case side1 => exact (Kd.R_reads' HOg0.out).2.2); (case side2 => exact (Kd.R_reads' HOg0.out).2.1); (case side3 => exact (Kd.R_reads' HOw0.out).2.2); (case side4 => exact (Kd.R_reads' HOw0.out).2.1); rintro e w_14 ⟨rfl, hb⟩; clear hcz_g8_0 hcz_g8_1 hcz_g8_2 hcz_g8_3 hcz_g8_4 hfz_g8_0 hfz_g8_1 hfz_g8_2 hfz_g8_3 hfz_g8_4 hcz_g10_0 hcz_g10_1 hcz_g10_2 hcz_g10_3 hcz_g10_4 hfz_g10_0 hfz_g10_1 hfz_g10_2 hfz_g10_3 hfz_g10_4; have n_HB := Aside0.mk (below_step HB.out hb); have SZw_14 := Aside0.mk hb.size; have n_HOx := Aside0.mk (Kd.S_below HOx.out hb); have n_HOw0 := Aside0.mk (Kd.R_below HOw0.out hb); have n_BKg8 := Aside0.mk (blk_below BKg8.out hb); have n_HOg0 := Aside0.mk (Kd.R_below HOg0.out hb); have n_BKg10 := Aside0.mk (blk_below BKg10.out hb); have n_HOz := Aside0.mk (Kd.S_below HOz.out hb); clear HB HOx HOw0 BKg8 HOg0 BKg10 HOz; have HB := n_HB; have HOx := n_HOx; have HOw0 := n_HOw0; have BKg8 := n_BKg8; have HOg0 := n_HOg0; have BKg10 := n_BKg10; have HOz := n_HOz; clear n_HB n_HOx n_HOw0 n_BKg8 n_HOg0 n_BKg10 n_HOz; clear hb; have hcz_g8_0 : (w_14).cell? ⟨g8, 0, none⟩ = some (.int .i64 r1) := (blk_cell BKg8.out 0).trans rfl; have hcz_g8_1 : (w_14).cell? ⟨g8, 1, none⟩ = some (.int .i64 r2) := (blk_cell BKg8.out 1).trans rfl; have hcz_g8_2 : (w_14).cell? ⟨g8, 2, none⟩ = some (.int .i64 r3) := (blk_cell BKg8.out 2).trans rfl; have hcz_g8_3 : (w_14).cell? ⟨g8, 3, none⟩ = some (.int .i64 r4) := (blk_cell BKg8.out 3).trans rfl; have hcz_g8_4 : (w_14).cell? ⟨g8, 4, none⟩ = some (.slice Aw0 r5.length cw0) := (blk_cell BKg8.out 4).trans rfl; have hfz_g8_0 := blk_frozen BKg8.out 0; have hfz_g8_1 := blk_frozen BKg8.out 1; have hfz_g8_2 := blk_frozen BKg8.out 2; have hfz_g8_3 := blk_frozen BKg8.out 3; have hfz_g8_4 := blk_frozen BKg8.out 4; have hcz_g10_0 : (w_14).cell? ⟨g10, 0, none⟩ = some (.int .i64 r1) := (blk_cell BKg10.out 0).trans rfl; have hcz_g10_1 : (w_14).cell? ⟨g10, 1, none⟩ = some (.int .i64 r2) := (blk_cell BKg10.out 1).trans rfl; have hcz_g10_2 : (w_14).cell? ⟨g10, 2, none⟩ = some (.int .i64 r3) := (blk_cell BKg10.out 2).trans rfl; have hcz_g10_3 : (w_14).cell? ⟨g10, 3, none⟩ = some (.int .i64 r4) := (blk_cell BKg10.out 3).trans rfl; have hcz_g10_4 : (w_14).cell? ⟨g10, 4, none⟩ = some (.slice Ag0 r5.length cg0) := (blk_cell BKg10.out 4).trans rfl; have hfz_g10_0 := blk_frozen BKg10.out 0; have hfz_g10_1 := blk_frozen BKg10.out 1; have hfz_g10_2 := blk_frozen BKg10.out 2; have hfz_g10_3 := blk_frozen BKg10.out 3; have hfz_g10_4 := blk_frozen BKg10.out 4))
  go_upto_region 18 with (first | ((with_reducible refine gate_callee (f := 28) rfl ?_); refine goesL_ (some 53) rfl rfl Try.func28 (by kernel_rfl) rfl #[.agg #[.int .i64 r1, .int .i64 r2, .int .i64 r3, .int .i64 r4, .slice Ag0 r5.length cg0], .int .i64 1] rfl (by (try simp only [List.map_toArray, List.map_cons, List.map_nil]); first | done | rfl) ?_; (with_reducible refine (laws_markImage.calls k r1 r2 r3 r4 (fun k_ => w_6.heap.size ≤ k_ ∧ k_ < w_7.heap.size) (.slice Ag0 r5.length cg0) r5 1 m r5' w _ ?side1 ?side2 E8.out).mono ?_); (case side1 => exact HB.out); (case side2 => exact HOg0.out); rintro e w_15 ⟨rfl, hog0, hb, hk⟩; (try refine ⟨_, rfl, ?_⟩); clear HOg0; clear hcz_g8_0 hcz_g8_1 hcz_g8_2 hcz_g8_3 hcz_g8_4 hfz_g8_0 hfz_g8_1 hfz_g8_2 hfz_g8_3 hfz_g8_4 hcz_g10_0 hcz_g10_1 hcz_g10_2 hcz_g10_3 hcz_g10_4 hfz_g10_0 hfz_g10_1 hfz_g10_2 hfz_g10_3 hfz_g10_4; have n_HB := Aside0.mk hb; have SZw_15 := Aside0.mk hk.1; have n_HOx := Aside0.mk (Kd.S_kept HOx.out hk (fun k_ ⟨a_, b_⟩ hs_ => by (try dsimp only at hs_); have := SZw_1.out; have := SZw_2.out; have := SZw_3.out; have := SZw_5.out; have := SZw_6.out; have := SZw_7.out; have := SZw_9.out; have := SZw_10.out; have := SZw_11.out; have := SZw_12.out; have := SZw_13.out; have := SZw_14.out; omega)); have n_HOw0 := Aside0.mk (Kd.R_kept HOw0.out hk (fun k_ ⟨a_, b_⟩ hs_ => by (try dsimp only at hs_); have := SZw_1.out; have := SZw_2.out; have := SZw_3.out; have := SZw_5.out; have := SZw_6.out; have := SZw_7.out; have := SZw_9.out; have := SZw_10.out; have := SZw_11.out; have := SZw_12.out; have := SZw_13.out; have := SZw_14.out; omega)); have n_BKg8 := Aside0.mk (blk_kept BKg8.out hk (fun hs_ => by (try dsimp only at hs_); have := GLg8.out; have := GHg8.out; have := SZw_1.out; have := SZw_2.out; have := SZw_3.out; have := SZw_5.out; have := SZw_6.out; have := SZw_7.out; have := SZw_9.out; have := SZw_10.out; have := SZw_11.out; have := SZw_12.out; have := SZw_13.out; have := SZw_14.out; omega)); have n_BKg10 := Aside0.mk (blk_kept BKg10.out hk (fun hs_ => by (try dsimp only at hs_); have := GLg10.out; have := GHg10.out; have := SZw_1.out; have := SZw_2.out; have := SZw_3.out; have := SZw_5.out; have := SZw_6.out; have := SZw_7.out; have := SZw_9.out; have := SZw_10.out; have := SZw_11.out; have := SZw_12.out; have := SZw_13.out; have := SZw_14.out; omega)); have n_HOz := Aside0.mk (Kd.S_kept HOz.out hk (fun k_ ⟨a_, b_⟩ hs_ => by (try dsimp only at hs_); have := SZw_1.out; have := SZw_2.out; have := SZw_3.out; have := SZw_5.out; have := SZw_6.out; have := SZw_7.out; have := SZw_9.out; have := SZw_10.out; have := SZw_11.out; have := SZw_12.out; have := SZw_13.out; have := SZw_14.out; omega)); clear HB HOx HOw0 BKg8 BKg10 HOz; have HB := n_HB; have HOx := n_HOx; have HOw0 := n_HOw0; have BKg8 := n_BKg8; have BKg10 := n_BKg10; have HOz := n_HOz; clear n_HB n_HOx n_HOw0 n_BKg8 n_BKg10 n_HOz; have HOg0 := Aside0.mk (show Kd.R (Kd.int .i64) 3 w_15 w.heap.size (fun k_ => 0 ≤ k_ ∧ k_ < w_15.heap.size) (.slice Ag0 r5.length cg0) r5' from Kd.R_mono (Kd.R_bound hog0) (fun k_ hk => ⟨Nat.zero_le _, hk.2.2.1⟩)); clear hb hk hog0; have hcz_g8_0 : (w_15).cell? ⟨g8, 0, none⟩ = some (.int .i64 r1) := (blk_cell BKg8.out 0).trans rfl; have hcz_g8_1 : (w_15).cell? ⟨g8, 1, none⟩ = some (.int .i64 r2) := (blk_cell BKg8.out 1).trans rfl; have hcz_g8_2 : (w_15).cell? ⟨g8, 2, none⟩ = some (.int .i64 r3) := (blk_cell BKg8.out 2).trans rfl; have hcz_g8_3 : (w_15).cell? ⟨g8, 3, none⟩ = some (.int .i64 r4) := (blk_cell BKg8.out 3).trans rfl; have hcz_g8_4 : (w_15).cell? ⟨g8, 4, none⟩ = some (.slice Aw0 r5.length cw0) := (blk_cell BKg8.out 4).trans rfl; have hfz_g8_0 := blk_frozen BKg8.out 0; have hfz_g8_1 := blk_frozen BKg8.out 1; have hfz_g8_2 := blk_frozen BKg8.out 2; have hfz_g8_3 := blk_frozen BKg8.out 3; have hfz_g8_4 := blk_frozen BKg8.out 4; have hcz_g10_0 : (w_15).cell? ⟨g10, 0, none⟩ = some (.int .i64 r1) := (blk_cell BKg10.out 0).trans rfl; have hcz_g10_1 : (w_15).cell? ⟨g10, 1, none⟩ = some (.int .i64 r2) := (blk_cell BKg10.out 1).trans rfl; have hcz_g10_2 : (w_15).cell? ⟨g10, 2, none⟩ = some (.int .i64 r3) := (blk_cell BKg10.out 2).trans rfl; have hcz_g10_3 : (w_15).cell? ⟨g10, 3, none⟩ = some (.int .i64 r4) := (blk_cell BKg10.out 3).trans rfl; have hcz_g10_4 : (w_15).cell? ⟨g10, 4, none⟩ = some (.slice Ag0 r5.length cg0) := (blk_cell BKg10.out 4).trans rfl; have hfz_g10_0 := blk_frozen BKg10.out 0; have hfz_g10_1 := blk_frozen BKg10.out 1; have hfz_g10_2 := blk_frozen BKg10.out 2; have hfz_g10_3 := blk_frozen BKg10.out 3; have hfz_g10_4 := blk_frozen BKg10.out 4))
  go_upto_region 20 with (first | ((with_reducible refine gate_callee (f := 29) rfl ?_); refine goesL_ (some 56) rfl rfl Try.func29 (by kernel_rfl) rfl #[.agg #[.int .i64 r1, .int .i64 r2, .int .i64 r3, .int .i64 r4, .slice Ag0 r5'.length cg0], .int .i64 1] rfl (by (try simp only [List.map_toArray, List.map_cons, List.map_nil]); first | done | rfl | (rw [show r5'.length = r5.length from (Kd.R_reads' HOg0.out).1.symm] <;> rfl)) ?_; (with_reducible refine (laws_heldImage.calls k r1 r2 r3 r4 _ _ r5' 1 m _ ?side1 ?side2 E9.out).mono ?_); (case side1 => exact (Kd.R_reads' HOg0.out).2.2); (case side2 => exact Nat.le_trans (Nat.le_of_eq (Kd.R_reads' HOg0.out).1.symm) (Kd.R_reads' HOg0.out).2.1); rintro e w_16 ⟨rfl, hb⟩; refine ⟨_, rfl, ?_⟩; clear hcz_g8_0 hcz_g8_1 hcz_g8_2 hcz_g8_3 hcz_g8_4 hfz_g8_0 hfz_g8_1 hfz_g8_2 hfz_g8_3 hfz_g8_4 hcz_g10_0 hcz_g10_1 hcz_g10_2 hcz_g10_3 hcz_g10_4 hfz_g10_0 hfz_g10_1 hfz_g10_2 hfz_g10_3 hfz_g10_4; have n_HB := Aside0.mk (below_step HB.out hb); have SZw_16 := Aside0.mk hb.size; have n_HOx := Aside0.mk (Kd.S_below HOx.out hb); have n_HOw0 := Aside0.mk (Kd.R_below HOw0.out hb); have n_BKg8 := Aside0.mk (blk_below BKg8.out hb); have n_BKg10 := Aside0.mk (blk_below BKg10.out hb); have n_HOz := Aside0.mk (Kd.S_below HOz.out hb); have n_HOg0 := Aside0.mk (Kd.R_below HOg0.out hb); clear HB HOx HOw0 BKg8 BKg10 HOz HOg0; have HB := n_HB; have HOx := n_HOx; have HOw0 := n_HOw0; have BKg8 := n_BKg8; have BKg10 := n_BKg10; have HOz := n_HOz; have HOg0 := n_HOg0; clear n_HB n_HOx n_HOw0 n_BKg8 n_BKg10 n_HOz n_HOg0; clear hb; have hcz_g8_0 : (w_16).cell? ⟨g8, 0, none⟩ = some (.int .i64 r1) := (blk_cell BKg8.out 0).trans rfl; have hcz_g8_1 : (w_16).cell? ⟨g8, 1, none⟩ = some (.int .i64 r2) := (blk_cell BKg8.out 1).trans rfl; have hcz_g8_2 : (w_16).cell? ⟨g8, 2, none⟩ = some (.int .i64 r3) := (blk_cell BKg8.out 2).trans rfl; have hcz_g8_3 : (w_16).cell? ⟨g8, 3, none⟩ = some (.int .i64 r4) := (blk_cell BKg8.out 3).trans rfl; have hcz_g8_4 : (w_16).cell? ⟨g8, 4, none⟩ = some (.slice Aw0 r5.length cw0) := (blk_cell BKg8.out 4).trans rfl; have hfz_g8_0 := blk_frozen BKg8.out 0; have hfz_g8_1 := blk_frozen BKg8.out 1; have hfz_g8_2 := blk_frozen BKg8.out 2; have hfz_g8_3 := blk_frozen BKg8.out 3; have hfz_g8_4 := blk_frozen BKg8.out 4; have hcz_g10_0 : (w_16).cell? ⟨g10, 0, none⟩ = some (.int .i64 r1) := (blk_cell BKg10.out 0).trans rfl; have hcz_g10_1 : (w_16).cell? ⟨g10, 1, none⟩ = some (.int .i64 r2) := (blk_cell BKg10.out 1).trans rfl; have hcz_g10_2 : (w_16).cell? ⟨g10, 2, none⟩ = some (.int .i64 r3) := (blk_cell BKg10.out 2).trans rfl; have hcz_g10_3 : (w_16).cell? ⟨g10, 3, none⟩ = some (.int .i64 r4) := (blk_cell BKg10.out 3).trans rfl; have hcz_g10_4 : (w_16).cell? ⟨g10, 4, none⟩ = some (.slice Ag0 r5.length cg0) := (blk_cell BKg10.out 4).trans rfl; have hfz_g10_0 := blk_frozen BKg10.out 0; have hfz_g10_1 := blk_frozen BKg10.out 1; have hfz_g10_2 := blk_frozen BKg10.out 2; have hfz_g10_3 := blk_frozen BKg10.out 3; have hfz_g10_4 := blk_frozen BKg10.out 4))
  go_upto_region 25 with (first | ((with_reducible refine gate_callee (f := 23) rfl ?_); refine goesL_ (some 65) rfl rfl Try.func23 (by kernel_rfl) rfl #[.slice A2 l2.length c2] rfl (by (try simp only [List.map_toArray, List.map_cons, List.map_nil]); first | done | rfl) ?_; (with_reducible refine (laws_toImageS.calls k _ _ l2 ps _ ?side1 ?side2 E2.out).mono ?_); (case side1 => exact Kd.C_below HR2.out HB.out); (case side2 => exact HC2.out); rintro e w_17 ⟨vq, rfl, hoq, hb⟩; refine ⟨_, rfl, ?_⟩; clear hcz_g8_0 hcz_g8_1 hcz_g8_2 hcz_g8_3 hcz_g8_4 hfz_g8_0 hfz_g8_1 hfz_g8_2 hfz_g8_3 hfz_g8_4 hcz_g10_0 hcz_g10_1 hcz_g10_2 hcz_g10_3 hcz_g10_4 hfz_g10_0 hfz_g10_1 hfz_g10_2 hfz_g10_3 hfz_g10_4; have n_HB := Aside0.mk (below_step HB.out hb); have SZw_17 := Aside0.mk hb.size; have n_HOx := Aside0.mk (Kd.S_below HOx.out hb); have n_HOw0 := Aside0.mk (Kd.R_below HOw0.out hb); have n_BKg8 := Aside0.mk (blk_below BKg8.out hb); have n_BKg10 := Aside0.mk (blk_below BKg10.out hb); have n_HOz := Aside0.mk (Kd.S_below HOz.out hb); have n_HOg0 := Aside0.mk (Kd.R_below HOg0.out hb); clear HB HOx HOw0 BKg8 BKg10 HOz HOg0; have HB := n_HB; have HOx := n_HOx; have HOw0 := n_HOw0; have BKg8 := n_BKg8; have BKg10 := n_BKg10; have HOz := n_HOz; have HOg0 := n_HOg0; clear n_HB n_HOx n_HOw0 n_BKg8 n_BKg10 n_HOz n_HOg0; have HOq := Aside0.mk (show Kd.S k35 35 w_17 w.heap.size (fun k_ => w_16.heap.size ≤ k_ ∧ k_ < w_17.heap.size) vq ps from Kd.S_lower (Kd.S_mono (Kd.S_bound hoq) (fun k_ hk => ⟨hk.2.1, hk.2.2.1⟩)) (by have := SZw_1.out; have := SZw_2.out; have := SZw_3.out; have := SZw_5.out; have := SZw_6.out; have := SZw_7.out; have := SZw_9.out; have := SZw_10.out; have := SZw_11.out; have := SZw_12.out; have := SZw_13.out; have := SZw_14.out; have := SZw_15.out; have := SZw_16.out; have := SZw_17.out; omega)); obtain ⟨Aq, cq, eq⟩ := Kd.S_slice HOq.out; subst eq; clear hb hoq; have hcz_g8_0 : (w_17).cell? ⟨g8, 0, none⟩ = some (.int .i64 r1) := (blk_cell BKg8.out 0).trans rfl; have hcz_g8_1 : (w_17).cell? ⟨g8, 1, none⟩ = some (.int .i64 r2) := (blk_cell BKg8.out 1).trans rfl; have hcz_g8_2 : (w_17).cell? ⟨g8, 2, none⟩ = some (.int .i64 r3) := (blk_cell BKg8.out 2).trans rfl; have hcz_g8_3 : (w_17).cell? ⟨g8, 3, none⟩ = some (.int .i64 r4) := (blk_cell BKg8.out 3).trans rfl; have hcz_g8_4 : (w_17).cell? ⟨g8, 4, none⟩ = some (.slice Aw0 r5.length cw0) := (blk_cell BKg8.out 4).trans rfl; have hfz_g8_0 := blk_frozen BKg8.out 0; have hfz_g8_1 := blk_frozen BKg8.out 1; have hfz_g8_2 := blk_frozen BKg8.out 2; have hfz_g8_3 := blk_frozen BKg8.out 3; have hfz_g8_4 := blk_frozen BKg8.out 4; have hcz_g10_0 : (w_17).cell? ⟨g10, 0, none⟩ = some (.int .i64 r1) := (blk_cell BKg10.out 0).trans rfl; have hcz_g10_1 : (w_17).cell? ⟨g10, 1, none⟩ = some (.int .i64 r2) := (blk_cell BKg10.out 1).trans rfl; have hcz_g10_2 : (w_17).cell? ⟨g10, 2, none⟩ = some (.int .i64 r3) := (blk_cell BKg10.out 2).trans rfl; have hcz_g10_3 : (w_17).cell? ⟨g10, 3, none⟩ = some (.int .i64 r4) := (blk_cell BKg10.out 3).trans rfl; have hcz_g10_4 : (w_17).cell? ⟨g10, 4, none⟩ = some (.slice Ag0 r5.length cg0) := (blk_cell BKg10.out 4).trans rfl; have hfz_g10_0 := blk_frozen BKg10.out 0; have hfz_g10_1 := blk_frozen BKg10.out 1; have hfz_g10_2 := blk_frozen BKg10.out 2; have hfz_g10_3 := blk_frozen BKg10.out 3; have hfz_g10_4 := blk_frozen BKg10.out 4) | ((with_reducible refine gate_callee (f := 24) rfl ?_); refine goesL_ (some 66) rfl rfl Try.func24 (by kernel_rfl) rfl #[.int .i64 a0, .int .i64 a1, .slice Aq ps.length cq] rfl (by (try simp only [List.map_toArray, List.map_cons, List.map_nil]); first | done | rfl) ?_; (with_reducible refine (impl_Merge.calls k a0 a1 _ _ ps r1 r2 r3 r4 r5 _ ?side1 ?side2 E4.out).mono ?_); (case side1 => exact (Kd.S_reads' HOq.out).2.2); (case side2 => exact (Kd.S_reads' HOq.out).2.1); rintro e w_18 ⟨vh0, rfl, hoh0, hb⟩; refine ⟨_, rfl, ?_⟩; clear hcz_g8_0 hcz_g8_1 hcz_g8_2 hcz_g8_3 hcz_g8_4 hfz_g8_0 hfz_g8_1 hfz_g8_2 hfz_g8_3 hfz_g8_4 hcz_g10_0 hcz_g10_1 hcz_g10_2 hcz_g10_3 hcz_g10_4 hfz_g10_0 hfz_g10_1 hfz_g10_2 hfz_g10_3 hfz_g10_4; have n_HB := Aside0.mk (below_step HB.out hb); have SZw_18 := Aside0.mk hb.size; have n_HOx := Aside0.mk (Kd.S_below HOx.out hb); have n_HOw0 := Aside0.mk (Kd.R_below HOw0.out hb); have n_BKg8 := Aside0.mk (blk_below BKg8.out hb); have n_BKg10 := Aside0.mk (blk_below BKg10.out hb); have n_HOz := Aside0.mk (Kd.S_below HOz.out hb); have n_HOg0 := Aside0.mk (Kd.R_below HOg0.out hb); have n_HOq := Aside0.mk (Kd.S_below HOq.out hb); clear HB HOx HOw0 BKg8 BKg10 HOz HOg0 HOq; have HB := n_HB; have HOx := n_HOx; have HOw0 := n_HOw0; have BKg8 := n_BKg8; have BKg10 := n_BKg10; have HOz := n_HOz; have HOg0 := n_HOg0; have HOq := n_HOq; clear n_HB n_HOx n_HOw0 n_BKg8 n_BKg10 n_HOz n_HOg0 n_HOq; have HOh0 := Aside0.mk (show Kd.R (Kd.int .i64) 3 w_18 w.heap.size (fun k_ => w_17.heap.size ≤ k_ ∧ k_ < w_18.heap.size) vh0 r5 from Kd.R_lower (Kd.R_mono (Kd.R_bound hoh0) (fun k_ hk => ⟨hk.2.1, hk.2.2.1⟩)) (by have := SZw_1.out; have := SZw_2.out; have := SZw_3.out; have := SZw_5.out; have := SZw_6.out; have := SZw_7.out; have := SZw_9.out; have := SZw_10.out; have := SZw_11.out; have := SZw_12.out; have := SZw_13.out; have := SZw_14.out; have := SZw_15.out; have := SZw_16.out; have := SZw_17.out; have := SZw_18.out; omega)); obtain ⟨Ah0, ch0, eh0⟩ := Kd.R_slice HOh0.out; subst eh0; clear hb hoh0; have hcz_g8_0 : (w_18).cell? ⟨g8, 0, none⟩ = some (.int .i64 r1) := (blk_cell BKg8.out 0).trans rfl; have hcz_g8_1 : (w_18).cell? ⟨g8, 1, none⟩ = some (.int .i64 r2) := (blk_cell BKg8.out 1).trans rfl; have hcz_g8_2 : (w_18).cell? ⟨g8, 2, none⟩ = some (.int .i64 r3) := (blk_cell BKg8.out 2).trans rfl; have hcz_g8_3 : (w_18).cell? ⟨g8, 3, none⟩ = some (.int .i64 r4) := (blk_cell BKg8.out 3).trans rfl; have hcz_g8_4 : (w_18).cell? ⟨g8, 4, none⟩ = some (.slice Aw0 r5.length cw0) := (blk_cell BKg8.out 4).trans rfl; have hfz_g8_0 := blk_frozen BKg8.out 0; have hfz_g8_1 := blk_frozen BKg8.out 1; have hfz_g8_2 := blk_frozen BKg8.out 2; have hfz_g8_3 := blk_frozen BKg8.out 3; have hfz_g8_4 := blk_frozen BKg8.out 4; have hcz_g10_0 : (w_18).cell? ⟨g10, 0, none⟩ = some (.int .i64 r1) := (blk_cell BKg10.out 0).trans rfl; have hcz_g10_1 : (w_18).cell? ⟨g10, 1, none⟩ = some (.int .i64 r2) := (blk_cell BKg10.out 1).trans rfl; have hcz_g10_2 : (w_18).cell? ⟨g10, 2, none⟩ = some (.int .i64 r3) := (blk_cell BKg10.out 2).trans rfl; have hcz_g10_3 : (w_18).cell? ⟨g10, 3, none⟩ = some (.int .i64 r4) := (blk_cell BKg10.out 3).trans rfl; have hcz_g10_4 : (w_18).cell? ⟨g10, 4, none⟩ = some (.slice Ag0 r5.length cg0) := (blk_cell BKg10.out 4).trans rfl; have hfz_g10_0 := blk_frozen BKg10.out 0; have hfz_g10_1 := blk_frozen BKg10.out 1; have hfz_g10_2 := blk_frozen BKg10.out 2; have hfz_g10_3 := blk_frozen BKg10.out 3; have hfz_g10_4 := blk_frozen BKg10.out 4) | ((with_reducible refine gate_dst (N := 14) rfl ?_); refine box_event ?hg (N := 14) ?hd (cs := #[.int .i64 0, .int .i64 0, .int .i64 0, .int .i64 0, .slice none 0 0]) (t := 35) ?hr ?_; (case hd => rfl); (case hg => rfl); (case hr => first | (go_simp; done) | (go_simp; rfl)); intro g14 hg w_19 hbox hb; have BKg14 := Aside0.mk hbox; have GLg14 := Aside0.mk (show w_18.heap.size ≤ g14 from Nat.le_of_eq hg.symm); have HV := Aside0.mk hb; clear hg hb hbox) | ((with_reducible refine gate_store (t := 35) (p := 14) (v := .tmp 66) rfl ?_); refine put_all rfl 35 (.tmp 14) (.tmp 66) rfl rfl g14 #[.int .i64 0, .int .i64 0, .int .i64 0, .int .i64 0, .slice none 0 0] 35 (.agg #[.int .i64 r1, .int .i64 r2, .int .i64 r3, .int .i64 r4, .slice Ah0 r5.length ch0]) [.int .i64 r1, .int .i64 r2, .int .i64 r3, .int .i64 r4, .slice Ah0 r5.length ch0] rfl rfl rfl (by simp [Value.oneCell']) (by kernel_rfl) BKg14.out rfl ?_; intro w_20 h1 hk hbb; have hb := hbb _ _ HV.out GLg14.out; clear hcz_g8_0 hcz_g8_1 hcz_g8_2 hcz_g8_3 hcz_g8_4 hfz_g8_0 hfz_g8_1 hfz_g8_2 hfz_g8_3 hfz_g8_4 hcz_g10_0 hcz_g10_1 hcz_g10_2 hcz_g10_3 hcz_g10_4 hfz_g10_0 hfz_g10_1 hfz_g10_2 hfz_g10_3 hfz_g10_4; have n_HB := Aside0.mk (below_step HB.out hb); have SZw_20 := Aside0.mk hb.size; have n_HOx := Aside0.mk (Kd.S_below HOx.out hb); have n_HOw0 := Aside0.mk (Kd.R_below HOw0.out hb); have n_BKg8 := Aside0.mk (blk_below BKg8.out hb); have n_BKg10 := Aside0.mk (blk_below BKg10.out hb); have n_HOz := Aside0.mk (Kd.S_below HOz.out hb); have n_HOg0 := Aside0.mk (Kd.R_below HOg0.out hb); have n_HOq := Aside0.mk (Kd.S_below HOq.out hb); have n_HOh0 := Aside0.mk (Kd.R_below HOh0.out hb); clear HB HOx HOw0 BKg8 BKg10 HOz HOg0 HOq HOh0; have HB := n_HB; have HOx := n_HOx; have HOw0 := n_HOw0; have BKg8 := n_BKg8; have BKg10 := n_BKg10; have HOz := n_HOz; have HOg0 := n_HOg0; have HOq := n_HOq; have HOh0 := n_HOh0; clear n_HB n_HOx n_HOw0 n_BKg8 n_BKg10 n_HOz n_HOg0 n_HOq n_HOh0; clear HV BKg14; have BKg14 := Aside0.mk (show w_20.heap[g14]? = some (.cells #[.int .i64 r1, .int .i64 r2, .int .i64 r3, .int .i64 r4, .slice Ah0 r5.length ch0] 35 (0, 0)) from h1); have GHg14 := Aside0.mk (blk_lt h1); clear h1 hk hbb hb; have hcz_g8_0 : (w_20).cell? ⟨g8, 0, none⟩ = some (.int .i64 r1) := (blk_cell BKg8.out 0).trans rfl; have hcz_g8_1 : (w_20).cell? ⟨g8, 1, none⟩ = some (.int .i64 r2) := (blk_cell BKg8.out 1).trans rfl; have hcz_g8_2 : (w_20).cell? ⟨g8, 2, none⟩ = some (.int .i64 r3) := (blk_cell BKg8.out 2).trans rfl; have hcz_g8_3 : (w_20).cell? ⟨g8, 3, none⟩ = some (.int .i64 r4) := (blk_cell BKg8.out 3).trans rfl; have hcz_g8_4 : (w_20).cell? ⟨g8, 4, none⟩ = some (.slice Aw0 r5.length cw0) := (blk_cell BKg8.out 4).trans rfl; have hfz_g8_0 := blk_frozen BKg8.out 0; have hfz_g8_1 := blk_frozen BKg8.out 1; have hfz_g8_2 := blk_frozen BKg8.out 2; have hfz_g8_3 := blk_frozen BKg8.out 3; have hfz_g8_4 := blk_frozen BKg8.out 4; have hcz_g10_0 : (w_20).cell? ⟨g10, 0, none⟩ = some (.int .i64 r1) := (blk_cell BKg10.out 0).trans rfl; have hcz_g10_1 : (w_20).cell? ⟨g10, 1, none⟩ = some (.int .i64 r2) := (blk_cell BKg10.out 1).trans rfl; have hcz_g10_2 : (w_20).cell? ⟨g10, 2, none⟩ = some (.int .i64 r3) := (blk_cell BKg10.out 2).trans rfl; have hcz_g10_3 : (w_20).cell? ⟨g10, 3, none⟩ = some (.int .i64 r4) := (blk_cell BKg10.out 3).trans rfl; have hcz_g10_4 : (w_20).cell? ⟨g10, 4, none⟩ = some (.slice Ag0 r5.length cg0) := (blk_cell BKg10.out 4).trans rfl; have hfz_g10_0 := blk_frozen BKg10.out 0; have hfz_g10_1 := blk_frozen BKg10.out 1; have hfz_g10_2 := blk_frozen BKg10.out 2; have hfz_g10_3 := blk_frozen BKg10.out 3; have hfz_g10_4 := blk_frozen BKg10.out 4; have hcz_g14_0 : (w_20).cell? ⟨g14, 0, none⟩ = some (.int .i64 r1) := (blk_cell BKg14.out 0).trans rfl; have hcz_g14_1 : (w_20).cell? ⟨g14, 1, none⟩ = some (.int .i64 r2) := (blk_cell BKg14.out 1).trans rfl; have hcz_g14_2 : (w_20).cell? ⟨g14, 2, none⟩ = some (.int .i64 r3) := (blk_cell BKg14.out 2).trans rfl; have hcz_g14_3 : (w_20).cell? ⟨g14, 3, none⟩ = some (.int .i64 r4) := (blk_cell BKg14.out 3).trans rfl; have hcz_g14_4 : (w_20).cell? ⟨g14, 4, none⟩ = some (.slice Ah0 r5.length ch0) := (blk_cell BKg14.out 4).trans rfl; have hfz_g14_0 := blk_frozen BKg14.out 0; have hfz_g14_1 := blk_frozen BKg14.out 1; have hfz_g14_2 := blk_frozen BKg14.out 2; have hfz_g14_3 := blk_frozen BKg14.out 3; have hfz_g14_4 := blk_frozen BKg14.out 4))
  go_upto_region 28 with (first | ((with_reducible refine gate_callee (f := 25) rfl ?_); refine goesL_ (some 69) rfl rfl Try.func25 (by kernel_rfl) rfl #[.agg #[.int .i64 r1, .int .i64 r2, .int .i64 r3, .int .i64 r4, .slice Ah0 r5.length ch0], .agg #[.int .i64 r1, .int .i64 r2, .int .i64 r3, .int .i64 r4, .slice Aw0 r5.length cw0]] rfl (by (try simp only [List.map_toArray, List.map_cons, List.map_nil]); first | done | rfl) ?_; (with_reducible refine (laws_eqImage.calls k r1 r2 r3 r4 _ _ r5 r1 r2 r3 r4 _ _ r5 true _ ?side1 ?side2 ?side3 ?side4 E5.out).mono ?_); (case side1 => exact (Kd.R_reads' HOh0.out).2.2); (case side2 => exact (Kd.R_reads' HOh0.out).2.1); (case side3 => exact (Kd.R_reads' HOw0.out).2.2); (case side4 => exact (Kd.R_reads' HOw0.out).2.1); rintro e w_21 ⟨rfl, hb⟩; refine ⟨_, rfl, ?_⟩; clear hcz_g8_0 hcz_g8_1 hcz_g8_2 hcz_g8_3 hcz_g8_4 hfz_g8_0 hfz_g8_1 hfz_g8_2 hfz_g8_3 hfz_g8_4 hcz_g10_0 hcz_g10_1 hcz_g10_2 hcz_g10_3 hcz_g10_4 hfz_g10_0 hfz_g10_1 hfz_g10_2 hfz_g10_3 hfz_g10_4 hcz_g14_0 hcz_g14_1 hcz_g14_2 hcz_g14_3 hcz_g14_4 hfz_g14_0 hfz_g14_1 hfz_g14_2 hfz_g14_3 hfz_g14_4; have n_HB := Aside0.mk (below_step HB.out hb); have SZw_21 := Aside0.mk hb.size; have n_HOx := Aside0.mk (Kd.S_below HOx.out hb); have n_HOw0 := Aside0.mk (Kd.R_below HOw0.out hb); have n_BKg8 := Aside0.mk (blk_below BKg8.out hb); have n_BKg10 := Aside0.mk (blk_below BKg10.out hb); have n_HOz := Aside0.mk (Kd.S_below HOz.out hb); have n_HOg0 := Aside0.mk (Kd.R_below HOg0.out hb); have n_HOq := Aside0.mk (Kd.S_below HOq.out hb); have n_HOh0 := Aside0.mk (Kd.R_below HOh0.out hb); have n_BKg14 := Aside0.mk (blk_below BKg14.out hb); clear HB HOx HOw0 BKg8 BKg10 HOz HOg0 HOq HOh0 BKg14; have HB := n_HB; have HOx := n_HOx; have HOw0 := n_HOw0; have BKg8 := n_BKg8; have BKg10 := n_BKg10; have HOz := n_HOz; have HOg0 := n_HOg0; have HOq := n_HOq; have HOh0 := n_HOh0; have BKg14 := n_BKg14; clear n_HB n_HOx n_HOw0 n_BKg8 n_BKg10 n_HOz n_HOg0 n_HOq n_HOh0 n_BKg14; clear hb; have hcz_g8_0 : (w_21).cell? ⟨g8, 0, none⟩ = some (.int .i64 r1) := (blk_cell BKg8.out 0).trans rfl; have hcz_g8_1 : (w_21).cell? ⟨g8, 1, none⟩ = some (.int .i64 r2) := (blk_cell BKg8.out 1).trans rfl; have hcz_g8_2 : (w_21).cell? ⟨g8, 2, none⟩ = some (.int .i64 r3) := (blk_cell BKg8.out 2).trans rfl; have hcz_g8_3 : (w_21).cell? ⟨g8, 3, none⟩ = some (.int .i64 r4) := (blk_cell BKg8.out 3).trans rfl; have hcz_g8_4 : (w_21).cell? ⟨g8, 4, none⟩ = some (.slice Aw0 r5.length cw0) := (blk_cell BKg8.out 4).trans rfl; have hfz_g8_0 := blk_frozen BKg8.out 0; have hfz_g8_1 := blk_frozen BKg8.out 1; have hfz_g8_2 := blk_frozen BKg8.out 2; have hfz_g8_3 := blk_frozen BKg8.out 3; have hfz_g8_4 := blk_frozen BKg8.out 4; have hcz_g10_0 : (w_21).cell? ⟨g10, 0, none⟩ = some (.int .i64 r1) := (blk_cell BKg10.out 0).trans rfl; have hcz_g10_1 : (w_21).cell? ⟨g10, 1, none⟩ = some (.int .i64 r2) := (blk_cell BKg10.out 1).trans rfl; have hcz_g10_2 : (w_21).cell? ⟨g10, 2, none⟩ = some (.int .i64 r3) := (blk_cell BKg10.out 2).trans rfl; have hcz_g10_3 : (w_21).cell? ⟨g10, 3, none⟩ = some (.int .i64 r4) := (blk_cell BKg10.out 3).trans rfl; have hcz_g10_4 : (w_21).cell? ⟨g10, 4, none⟩ = some (.slice Ag0 r5.length cg0) := (blk_cell BKg10.out 4).trans rfl; have hfz_g10_0 := blk_frozen BKg10.out 0; have hfz_g10_1 := blk_frozen BKg10.out 1; have hfz_g10_2 := blk_frozen BKg10.out 2; have hfz_g10_3 := blk_frozen BKg10.out 3; have hfz_g10_4 := blk_frozen BKg10.out 4; have hcz_g14_0 : (w_21).cell? ⟨g14, 0, none⟩ = some (.int .i64 r1) := (blk_cell BKg14.out 0).trans rfl; have hcz_g14_1 : (w_21).cell? ⟨g14, 1, none⟩ = some (.int .i64 r2) := (blk_cell BKg14.out 1).trans rfl; have hcz_g14_2 : (w_21).cell? ⟨g14, 2, none⟩ = some (.int .i64 r3) := (blk_cell BKg14.out 2).trans rfl; have hcz_g14_3 : (w_21).cell? ⟨g14, 3, none⟩ = some (.int .i64 r4) := (blk_cell BKg14.out 3).trans rfl; have hcz_g14_4 : (w_21).cell? ⟨g14, 4, none⟩ = some (.slice Ah0 r5.length ch0) := (blk_cell BKg14.out 4).trans rfl; have hfz_g14_0 := blk_frozen BKg14.out 0; have hfz_g14_1 := blk_frozen BKg14.out 1; have hfz_g14_2 := blk_frozen BKg14.out 2; have hfz_g14_3 := blk_frozen BKg14.out 3; have hfz_g14_4 := blk_frozen BKg14.out 4))
  go_wp2_with (first | ((with_reducible refine gate_callee (f := 29) rfl ?_); refine goesL_ (some 73) rfl rfl Try.func29 (by kernel_rfl) rfl #[.agg #[.int .i64 r1, .int .i64 r2, .int .i64 r3, .int .i64 r4, .slice Ag0 r5'.length cg0], .int .i64 1] rfl (by (try simp only [List.map_toArray, List.map_cons, List.map_nil]); first | done | rfl | (rw [show r5'.length = r5.length from (Kd.R_reads' HOg0.out).1.symm] <;> rfl)) ?_; (with_reducible refine (laws_heldImage.calls k r1 r2 r3 r4 _ _ r5' 1 m _ ?side1 ?side2 E9.out).mono ?_); (case side1 => exact (Kd.R_reads' HOg0.out).2.2); (case side2 => exact Nat.le_trans (Nat.le_of_eq (Kd.R_reads' HOg0.out).1.symm) (Kd.R_reads' HOg0.out).2.1); rintro e w_22 ⟨rfl, hb⟩; refine ⟨_, rfl, ?_⟩; clear hcz_g8_0 hcz_g8_1 hcz_g8_2 hcz_g8_3 hcz_g8_4 hfz_g8_0 hfz_g8_1 hfz_g8_2 hfz_g8_3 hfz_g8_4 hcz_g10_0 hcz_g10_1 hcz_g10_2 hcz_g10_3 hcz_g10_4 hfz_g10_0 hfz_g10_1 hfz_g10_2 hfz_g10_3 hfz_g10_4 hcz_g14_0 hcz_g14_1 hcz_g14_2 hcz_g14_3 hcz_g14_4 hfz_g14_0 hfz_g14_1 hfz_g14_2 hfz_g14_3 hfz_g14_4; have n_HB := Aside0.mk (below_step HB.out hb); have SZw_22 := Aside0.mk hb.size; have n_HOx := Aside0.mk (Kd.S_below HOx.out hb); have n_HOw0 := Aside0.mk (Kd.R_below HOw0.out hb); have n_BKg8 := Aside0.mk (blk_below BKg8.out hb); have n_BKg10 := Aside0.mk (blk_below BKg10.out hb); have n_HOz := Aside0.mk (Kd.S_below HOz.out hb); have n_HOg0 := Aside0.mk (Kd.R_below HOg0.out hb); have n_HOq := Aside0.mk (Kd.S_below HOq.out hb); have n_HOh0 := Aside0.mk (Kd.R_below HOh0.out hb); have n_BKg14 := Aside0.mk (blk_below BKg14.out hb); clear HB HOx HOw0 BKg8 BKg10 HOz HOg0 HOq HOh0 BKg14; have HB := n_HB; have HOx := n_HOx; have HOw0 := n_HOw0; have BKg8 := n_BKg8; have BKg10 := n_BKg10; have HOz := n_HOz; have HOg0 := n_HOg0; have HOq := n_HOq; have HOh0 := n_HOh0; have BKg14 := n_BKg14; clear n_HB n_HOx n_HOw0 n_BKg8 n_BKg10 n_HOz n_HOg0 n_HOq n_HOh0 n_BKg14; clear hb; have hcz_g8_0 : (w_22).cell? ⟨g8, 0, none⟩ = some (.int .i64 r1) := (blk_cell BKg8.out 0).trans rfl; have hcz_g8_1 : (w_22).cell? ⟨g8, 1, none⟩ = some (.int .i64 r2) := (blk_cell BKg8.out 1).trans rfl; have hcz_g8_2 : (w_22).cell? ⟨g8, 2, none⟩ = some (.int .i64 r3) := (blk_cell BKg8.out 2).trans rfl; have hcz_g8_3 : (w_22).cell? ⟨g8, 3, none⟩ = some (.int .i64 r4) := (blk_cell BKg8.out 3).trans rfl; have hcz_g8_4 : (w_22).cell? ⟨g8, 4, none⟩ = some (.slice Aw0 r5.length cw0) := (blk_cell BKg8.out 4).trans rfl; have hfz_g8_0 := blk_frozen BKg8.out 0; have hfz_g8_1 := blk_frozen BKg8.out 1; have hfz_g8_2 := blk_frozen BKg8.out 2; have hfz_g8_3 := blk_frozen BKg8.out 3; have hfz_g8_4 := blk_frozen BKg8.out 4; have hcz_g10_0 : (w_22).cell? ⟨g10, 0, none⟩ = some (.int .i64 r1) := (blk_cell BKg10.out 0).trans rfl; have hcz_g10_1 : (w_22).cell? ⟨g10, 1, none⟩ = some (.int .i64 r2) := (blk_cell BKg10.out 1).trans rfl; have hcz_g10_2 : (w_22).cell? ⟨g10, 2, none⟩ = some (.int .i64 r3) := (blk_cell BKg10.out 2).trans rfl; have hcz_g10_3 : (w_22).cell? ⟨g10, 3, none⟩ = some (.int .i64 r4) := (blk_cell BKg10.out 3).trans rfl; have hcz_g10_4 : (w_22).cell? ⟨g10, 4, none⟩ = some (.slice Ag0 r5.length cg0) := (blk_cell BKg10.out 4).trans rfl; have hfz_g10_0 := blk_frozen BKg10.out 0; have hfz_g10_1 := blk_frozen BKg10.out 1; have hfz_g10_2 := blk_frozen BKg10.out 2; have hfz_g10_3 := blk_frozen BKg10.out 3; have hfz_g10_4 := blk_frozen BKg10.out 4; have hcz_g14_0 : (w_22).cell? ⟨g14, 0, none⟩ = some (.int .i64 r1) := (blk_cell BKg14.out 0).trans rfl; have hcz_g14_1 : (w_22).cell? ⟨g14, 1, none⟩ = some (.int .i64 r2) := (blk_cell BKg14.out 1).trans rfl; have hcz_g14_2 : (w_22).cell? ⟨g14, 2, none⟩ = some (.int .i64 r3) := (blk_cell BKg14.out 2).trans rfl; have hcz_g14_3 : (w_22).cell? ⟨g14, 3, none⟩ = some (.int .i64 r4) := (blk_cell BKg14.out 3).trans rfl; have hcz_g14_4 : (w_22).cell? ⟨g14, 4, none⟩ = some (.slice Ah0 r5.length ch0) := (blk_cell BKg14.out 4).trans rfl; have hfz_g14_0 := blk_frozen BKg14.out 0; have hfz_g14_1 := blk_frozen BKg14.out 1; have hfz_g14_2 := blk_frozen BKg14.out 2; have hfz_g14_3 := blk_frozen BKg14.out 3; have hfz_g14_4 := blk_frozen BKg14.out 4))
  go_ret
  exact ⟨rfl, HB.out⟩

end Go.Proofs.Ytidblealnaicpaa.PFnExactMerge

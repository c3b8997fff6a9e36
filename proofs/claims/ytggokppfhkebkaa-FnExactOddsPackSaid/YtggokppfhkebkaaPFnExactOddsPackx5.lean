-- written by myprint.py (a program of this session's over the kit's print)
import Derived.Test.YtggokppfhkebkaaPFnExactOddsPackx0
import Derived.Test.YtggokppfhkebkaaPFnExactOddsPackx4
namespace Go.Proofs.Ytggokppfhkebkaa.PFnExactOddsPack
open Go.RowKit Go.Proofs.YtggokppfhkebkaaW.PrintWords Go.Proofs.YtggokppfhkebkaaW.PrintLast Go.Proofs.YtggokppfhkebkaaW.PrintMore
attribute [local go_sem] max2_int min2_int max_two min_two max_three min_three max_four min_four   -- for this text's walks alone
set_option linter.unusedVariables false
set_option linter.unusedSimpArgs false

/-! ### impl_zpack: function 85 -/
def impl_zpack_1.e (o : List Int) (lw : Int) : Option (List Int × Int) := if o.length < 140737488355328 then (some (o ++ [(lw / 16777216) % 256], IntKind.u64.wrap ((Go.bits .and .u64 lw 16777215) * 256))) else (none)
def impl_zpack_1.l0 : Nat → Int → List Int → Int → Option (List Int × Int)
  | 0, _, _, _ => none
  | k + 1, i, o, lw => if i ≥ 0 then (if i < (o.length : Int) then (if (rd (o.set (i : Int).toNat (((rd o i) + 1) % 256)) i) = 0 then (impl_zpack_1.l0 k (wrap64 (i - 1)) (o.set (i : Int).toNat (((rd o i) + 1) % 256)) lw) else (impl_zpack_1.e (o.set (i : Int).toNat (((rd o i) + 1) % 256)) lw)) else (none)) else (impl_zpack_1.e o lw)
def impl_zpack_1.f (k : Nat) (o : List Int) (lw : Int) : Option (List Int × Int) := if (lw / 4294967296) = 0 then (impl_zpack_1.e o lw) else (impl_zpack_1.l0 k (wrap64 ((o.length : Int) - 1)) o lw)
theorem impl_zpack_1.mono_l : ∀ k, (∀ y0 y1 y2, LeO (impl_zpack_1.l0 k y0 y1 y2) (impl_zpack_1.l0 (k + 1) y0 y1 y2))
  | 0 => fun _ _ _ r h => by simp [impl_zpack_1.l0] at h
  | k + 1 => by
    have ih := impl_zpack_1.mono_l k
    have ih0 := ih
    · intro y0 y1 y2
      unfold impl_zpack_1.l0
      repeat' first
      | (with_reducible exact ih0 _ _ _)
      | (with_reducible exact LeO.refl _)
      | (with_reducible exact LeO.none _)
      | (with_reducible refine LeO.ite ?_ ?_)
      | (with_reducible refine LeO.bind ?_ (fun _ => ?_))
      | exact ih0 _ _ _
      | exact LeO.none _
      | refine LeO.ite ?_ ?_
      | refine LeO.bind ?_ (fun _ => ?_)
theorem impl_zpack_1.mono : ∀ a0 a1 k, LeO (impl_zpack_1.f k a0 a1) (impl_zpack_1.f (k + 1) a0 a1) := by
  intro a0 a1 k
  have ih := impl_zpack_1.mono_l k
  have ih0 := ih
  unfold impl_zpack_1.f
  repeat' first
      | (with_reducible exact ih0 _ _ _)
      | (with_reducible exact LeO.refl _)
      | (with_reducible exact LeO.none _)
      | (with_reducible refine LeO.ite ?_ ?_)
      | (with_reducible refine LeO.bind ?_ (fun _ => ?_))
      | exact ih0 _ _ _
      | exact LeO.none _
      | refine LeO.ite ?_ ?_
      | refine LeO.bind ?_ (fun _ => ?_)
set_option maxHeartbeats 8000000 in
set_option maxRecDepth 100000 in
theorem impl_zpack_1.calls (k : Nat) (gl gx : Nat) (lw : Int) (v : Value) (o : List Int) (r1 : List Int) (r2 : Int) (w wa : World) (hB : Below w.heap.size w wa) (hgl : w.heap.size ≤ gl) (hgx : w.heap.size ≤ gx) (hl : wa.heap[gl]? = some (.cells #[.int .u64 lw] 97 (0, 0))) (hx : wa.heap[gx]? = some (.cells #[v] 23 (0, 0))) (hr : Kd.R (Kd.int .u8) 5 wa w.heap.size (fun _ => True) v o) (h : impl_zpack_1.f k o lw = some (r1, r2)) :
    Calls Try.prog 141 #[.pointer (some ⟨gl, 0, none⟩), .pointer (some ⟨gx, 0, none⟩)] wa fun e w' => ∃ v' : Value, e = .returned (.tuple #[]) ∧ w'.heap[gl]? = some (.cells #[.int .u64 r2] 97 (0, 0)) ∧ w'.heap[gx]? = some (.cells #[v'] 23 (0, 0)) ∧ Kd.R (Kd.int .u8) 5 w' w.heap.size (fun _ => True) v' r1 ∧ Below w.heap.size w w' ∧ KG (fun k_ => k_ = gl ∨ k_ = gx) 5 wa w' := by
  have NE := Aside0.mk (blk_ne hl hx (by decide))
  have HB := Aside0.mk hB
  have GL := Aside0.mk hgl
  have GX := Aside0.mk hgx
  have HL := Aside0.mk hl
  have HX := Aside0.mk hx
  have HR := Aside0.mk hr
  have HK := Aside0.mk (KG.refl (fun k_ => k_ = gl ∨ k_ = gx) 5 wa)
  clear hB hgl hgx hl hx hr
  obtain ⟨Ao, co, eo⟩ := Kd.R_slice HR.out
  subst eo
  have H := h
  clear h
  unfold impl_zpack_1.f at H
  have hczl : wa.cell? ⟨gl, 0, none⟩ = some (.int .u64 lw) := (blk_cell HL.out 0).trans rfl
  have hczx : wa.cell? ⟨gx, 0, none⟩ = some (.slice Ao o.length co) := (blk_cell HX.out 0).trans rfl
  by_cases c0 : (lw / 4294967296) = 0
  · rw [if_pos c0] at H
    have c0b := bne_eq_false_iff_eq.mpr c0
    have c0c := beq_iff_eq.mpr c0
    clear c0
    go_enter Try.func141, Try.ntmps141
    go_upto_region 6 with (fail)
    clear hczl hczx c0b c0c
    unfold impl_zpack_1.e at H
    by_cases cl : (o).length < 140737488355328
    rotate_left
    · rw [if_neg cl] at H
      exact absurd H (by simp)
    rw [if_pos cl] at H
    have LM := Aside0.mk cl
    clear cl
    simp only [Option.some.injEq, Prod.mk.injEq] at H
    obtain ⟨rfl, rfl⟩ := H
    have hczl : wa.cell? ⟨gl, 0, none⟩ = some (.int .u64 lw) := (blk_cell HL.out 0).trans rfl
    have hczx : wa.cell? ⟨gx, 0, none⟩ = some ((.slice Ao o.length co)) := (blk_cell HX.out 0).trans rfl
    go_wp2_with (first | ((with_reducible refine gate_builtin (b := .append) (xs := #[.tmp 24, .tmp 28]) rfl ?_); at_builtin; refine Kd.R_append (Kd.int .u8) (w0 := w) w.heap.size rfl (.tmp 24) (.tmp 28) 23 5 (.int .u8 0) 1 rfl Try.underlying23 info5 rfl (by decide) (by omega) ((.slice Ao o.length co)) (o) ((lw / 16777216) % 256) [.int .u8 ((lw / 16777216) % 256)] (fun _ => True) (fun _ => False) rfl rfl ?aP (fun _ hk => hk.elim) ?aF ?aO ?aB ?aS ?aL ?_; (case aP => exact rfl); (case aB => exact HB.out); (case aF => exact (fun _ _ => trivial)); (case aO => exact HR.out); (case aS => exact below_size HB.out); (case aL => have := LM.out; omega); intro v1 w1 ho hb hg hat; have n0_ := Aside0.mk (blk_grown HL.out hg (Kd.R_ne HR.out HL.out (by decide))); have n1_ := Aside0.mk (blk_grown HX.out hg (Kd.R_ne HR.out HX.out (by decide))); have n2_ := Aside0.mk (KG.grown HK.out hg (Kd.R_typed HR.out)); clear HL HX HK HB HR hg hat; have HL := n0_; have HX := n1_; have HK := n2_; have HB := Aside0.mk hb; have HR := Aside0.mk ho; clear n0_ n1_ n2_ hb ho; obtain ⟨A1_, c1_, e1_⟩ := Kd.R_slice HR.out; subst e1_) | ((with_reducible refine gate_store (t := 23) (p := 1) (v := .tmp 29) rfl ?_); refine put_event rfl 23 (.tmp 1) (.tmp 29) rfl rfl gx 0 #[(.slice Ao o.length co)] 23 (.slice A1_ (o ++ [(lw / 16777216) % 256]).length c1_) rfl rfl rfl rfl (by kernel_rfl) HX.out (by simp) ?_; intro w2 h1 hk hbb; have n0_ := Aside0.mk (show w2.heap[gx]? = some (.cells #[.slice A1_ (o ++ [(lw / 16777216) % 256]).length c1_] 23 (0, 0)) from h1); have n1_ := Aside0.mk (blk_kept HL.out hk (fun e_ => NE.out e_)); have n2_ := Aside0.mk (hbb _ _ HB.out GX.out); have n3_ := Aside0.mk (KG.put HK.out hk (Or.inr rfl)); have n4_ := Aside0.mk (Kd.R_kept (Kd.R_types HR.out HX.out (by decide)) hk (fun k_ ho_ hs_ => ho_.2 hs_)); clear HX HL HB HK HR hk hbb h1; have HX := n0_; have HL := n1_; have HB := n2_; have HK := n3_; have HR := Aside0.mk (Kd.R_mono n4_.out (fun _ _ => trivial)); clear n0_ n1_ n2_ n3_ n4_; have hczl2 : w2.cell? ⟨gl, 0, none⟩ = some (.int .u64 lw) := (blk_cell HL.out 0).trans rfl) | ((with_reducible refine gate_store (t := 97) (p := 0) (v := .tmp 32) rfl ?_); refine put_event rfl 97 (.tmp 0) (.tmp 32) rfl rfl gl 0 #[.int .u64 lw] 97 (.int .u64 (IntKind.u64.wrap ((Go.bits .and .u64 lw 16777215) * 256))) rfl rfl rfl rfl (by kernel_rfl) HL.out (by simp) ?_; intro w3 h1 hk hbb; have n0_ := Aside0.mk (show w3.heap[gl]? = some (.cells #[.int .u64 (IntKind.u64.wrap ((Go.bits .and .u64 lw 16777215) * 256))] 97 (0, 0)) from h1); have n1_ := Aside0.mk (blk_kept HX.out hk (fun e_ => NE.out e_.symm)); have n2_ := Aside0.mk (hbb _ _ HB.out GL.out); have n3_ := Aside0.mk (KG.put HK.out hk (Or.inl rfl)); have n4_ := Aside0.mk (Kd.R_kept (Kd.R_types HR.out HL.out (by decide)) hk (fun k_ ho_ hs_ => ho_.2 hs_)); clear HL HX HB HK HR hk hbb h1; have HL := n0_; have HX := n1_; have HB := n2_; have HK := n3_; have HR := Aside0.mk (Kd.R_mono n4_.out (fun _ _ => trivial)); clear n0_ n1_ n2_ n3_ n4_))
    first | go_end0 | ((try simp only [Exit.inBlock, Exit.then]); refine bodyPost_ret (results_none rfl _ _ _) rfl ?_)
    exact ⟨_, rfl, HL.out, HX.out, HR.out, HB.out, HK.out⟩
  rw [if_neg c0] at H
  have c0b := bne_iff_ne.mpr c0
  have c0c := beq_eq_false_iff_ne.mpr c0
  clear c0
  have HC := Aside0.mk H
  clear H
  go_enter Try.func141, Try.ntmps141
  go_wp2
  clear hczl hczx c0b c0c
  go_loopg [2] k (fun kq v2 w' => ∃ (i : Int) (o2 : List Int), v2 = .int .i64 i ∧ Aside0 (impl_zpack_1.l0 kq i o2 lw = some (r1, r2)) ∧ Aside0 (kq ≤ k) ∧ Aside0 (Kd.R (Kd.int .u8) 5 w' w.heap.size (fun _ => True) (.slice Ao o.length co) o2) ∧ Aside0 (w'.heap[gl]? = some (.cells #[.int .u64 lw] 97 (0, 0))) ∧ Aside0 (w'.heap[gx]? = some (.cells #[(.slice Ao o.length co)] 23 (0, 0))) ∧ Aside0 (Below w.heap.size w w') ∧ Aside0 (KG (fun k_ => k_ = gl ∨ k_ = gx) 5 wa w'))
  case atStart => exact ⟨wrap64 ((o.length : Int) - 1), o, (by first | rfl | (simp; done)), HC, ⟨Nat.le_refl _⟩, HR, HL, HX, HB, HK⟩
  case round =>
    clear HC HR HL HX HB HK
    obtain ⟨i, o2, rfl, HA, HK1, HR, HL, HX, HB, HK⟩ := hrel
    cases gk with
    | zero => exact absurd HA.out (by simp [impl_zpack_1.l0])
    | succ k1 =>
      have H := HA.out
      clear HA
      simp only [impl_zpack_1.l0] at H
      by_cases c1 : i ≥ 0
      rotate_left
      · rw [if_neg c1] at H
        have c1b := decide_eq_false c1
        clear c1
        go_upto_region 6 with (fail)
        clear c1b
        unfold impl_zpack_1.e at H
        by_cases cl : (o2).length < 140737488355328
        rotate_left
        · rw [if_neg cl] at H
          exact absurd H (by simp)
        rw [if_pos cl] at H
        have LM := Aside0.mk cl
        clear cl
        simp only [Option.some.injEq, Prod.mk.injEq] at H
        obtain ⟨rfl, rfl⟩ := H
        have hczl : wr.cell? ⟨gl, 0, none⟩ = some (.int .u64 lw) := (blk_cell HL.out 0).trans rfl
        have hczx : wr.cell? ⟨gx, 0, none⟩ = some ((.slice Ao o.length co)) := (blk_cell HX.out 0).trans rfl
        go_wp2_with (first | ((with_reducible refine gate_builtin (b := .append) (xs := #[.tmp 24, .tmp 28]) rfl ?_); at_builtin; refine Kd.R_append (Kd.int .u8) (w0 := w) w.heap.size rfl (.tmp 24) (.tmp 28) 23 5 (.int .u8 0) 1 rfl Try.underlying23 info5 rfl (by decide) (by omega) ((.slice Ao o.length co)) (o2) ((lw / 16777216) % 256) [.int .u8 ((lw / 16777216) % 256)] (fun _ => True) (fun _ => False) rfl rfl ?aP (fun _ hk => hk.elim) ?aF ?aO ?aB ?aS ?aL ?_; (case aP => exact rfl); (case aB => exact HB.out); (case aF => exact (fun _ _ => trivial)); (case aO => exact HR.out); (case aS => exact below_size HB.out); (case aL => have := LM.out; omega); intro v1 w1 ho hb hg hat; have n0_ := Aside0.mk (blk_grown HL.out hg (Kd.R_ne HR.out HL.out (by decide))); have n1_ := Aside0.mk (blk_grown HX.out hg (Kd.R_ne HR.out HX.out (by decide))); have n2_ := Aside0.mk (KG.grown HK.out hg (Kd.R_typed HR.out)); clear HL HX HK HB HR hg hat; have HL := n0_; have HX := n1_; have HK := n2_; have HB := Aside0.mk hb; have HR := Aside0.mk ho; clear n0_ n1_ n2_ hb ho; obtain ⟨A1_, c1_, e1_⟩ := Kd.R_slice HR.out; subst e1_) | ((with_reducible refine gate_store (t := 23) (p := 1) (v := .tmp 29) rfl ?_); refine put_event rfl 23 (.tmp 1) (.tmp 29) rfl rfl gx 0 #[(.slice Ao o.length co)] 23 (.slice A1_ (o2 ++ [(lw / 16777216) % 256]).length c1_) rfl rfl rfl rfl (by kernel_rfl) HX.out (by simp) ?_; intro w2 h1 hk hbb; have n0_ := Aside0.mk (show w2.heap[gx]? = some (.cells #[.slice A1_ (o2 ++ [(lw / 16777216) % 256]).length c1_] 23 (0, 0)) from h1); have n1_ := Aside0.mk (blk_kept HL.out hk (fun e_ => NE.out e_)); have n2_ := Aside0.mk (hbb _ _ HB.out GX.out); have n3_ := Aside0.mk (KG.put HK.out hk (Or.inr rfl)); have n4_ := Aside0.mk (Kd.R_kept (Kd.R_types HR.out HX.out (by decide)) hk (fun k_ ho_ hs_ => ho_.2 hs_)); clear HX HL HB HK HR hk hbb h1; have HX := n0_; have HL := n1_; have HB := n2_; have HK := n3_; have HR := Aside0.mk (Kd.R_mono n4_.out (fun _ _ => trivial)); clear n0_ n1_ n2_ n3_ n4_; have hczl2 : w2.cell? ⟨gl, 0, none⟩ = some (.int .u64 lw) := (blk_cell HL.out 0).trans rfl) | ((with_reducible refine gate_store (t := 97) (p := 0) (v := .tmp 32) rfl ?_); refine put_event rfl 97 (.tmp 0) (.tmp 32) rfl rfl gl 0 #[.int .u64 lw] 97 (.int .u64 (IntKind.u64.wrap ((Go.bits .and .u64 lw 16777215) * 256))) rfl rfl rfl rfl (by kernel_rfl) HL.out (by simp) ?_; intro w3 h1 hk hbb; have n0_ := Aside0.mk (show w3.heap[gl]? = some (.cells #[.int .u64 (IntKind.u64.wrap ((Go.bits .and .u64 lw 16777215) * 256))] 97 (0, 0)) from h1); have n1_ := Aside0.mk (blk_kept HX.out hk (fun e_ => NE.out e_.symm)); have n2_ := Aside0.mk (hbb _ _ HB.out GL.out); have n3_ := Aside0.mk (KG.put HK.out hk (Or.inl rfl)); have n4_ := Aside0.mk (Kd.R_kept (Kd.R_types HR.out HL.out (by decide)) hk (fun k_ ho_ hs_ => ho_.2 hs_)); clear HL HX HB HK HR hk hbb h1; have HL := n0_; have HX := n1_; have HB := n2_; have HK := n3_; have HR := Aside0.mk (Kd.R_mono n4_.out (fun _ _ => trivial)); clear n0_ n1_ n2_ n3_ n4_))
        first | go_end0 | ((try simp only [Exit.inBlock, Exit.then]); refine bodyPost_ret (results_none rfl _ _ _) rfl ?_)
        exact ⟨_, rfl, HL.out, HX.out, HR.out, HB.out, HK.out⟩
      rw [if_pos c1] at H
      by_cases c2 : i < (o2.length : Int)
      rotate_left
      · rw [if_neg c2] at H
        exact absurd H (by simp)
      rw [if_pos c2] at H
      have hlen : o.length = o2.length := (Kd.R_reads' HR.out).1
      have c2' : i < (o.length : Int) := by omega
      obtain ⟨go, cap, eo, _, _, _⟩ := Kd.R_form HR.out (by omega)
      injection eo with ea el ec
      subst ea
      subst ec
      clear el
      have HLEN := Aside0.mk hlen
      clear hlen
      obtain ⟨y, hy⟩ : ∃ y_ : List Int, y_ = o2.set (i : Int).toNat (((rd o2 i) + 1) % 256) := ⟨_, rfl⟩
      rw [← hy] at H
      have HY := Aside0.mk hy
      clear hy
      have hczx : wr.cell? ⟨gx, 0, none⟩ = some (.slice (some ⟨go, 0, none⟩) o.length co) := (blk_cell HX.out 0).trans rfl
      obtain ⟨hq, hf⟩ := Kd.R_celln 0 HR.out i c1 c2'
      rw [show rdOf 0 o2 i = rd o2 i from rfl] at hq
      have HP := Kd.R_putg HR.out i (((rd o2 i) + 1) % 256)
      have c1b := decide_eq_true c1
      have c2b := decide_eq_true c2'
      have P0_ := eq_true c1
      have P1_ := eq_true c2'
      by_cases c3 : rd y i = 0
      · rw [if_pos c3] at H
        have c3b := bne_eq_false_iff_eq.mpr c3
        have c3c := beq_iff_eq.mpr c3
        clear c3
        have H' := Aside0.mk H
        clear H
        go_wp2_with (first | ((with_reducible refine gate_store (t := 5) (p := 18) (v := .tmp 17) rfl ?_); refine store_event (t := 5) (p := 18) (v := .tmp 17) (w1 := wr.setCell ⟨go, (i : Int).toNat, none⟩ (.int .u8 (((rd o2 i) + 1) % 256))) rfl rfl rfl ?hr ?_; (case hr => first | (go_simp; done) | (go_simp; rfl)); intro w7 hw; have hg : wr.grownBy w7 (some go) := (by rw [hw]; exact HP.2); have hp_ := HP.1; rw [← hw, ← HY.out] at hp_; have n0_ := Aside0.mk hp_; have n1_ := Aside0.mk (blk_grown HL.out hg (Kd.R_ne HR.out HL.out (by decide))); have n2_ := Aside0.mk (blk_grown HX.out hg (Kd.R_ne HR.out HX.out (by decide))); have n3_ := Aside0.mk (show Below w.heap.size w w7 from by rw [hw]; exact below_set HB.out (Kd.R_base HR.out go rfl)); have n4_ := Aside0.mk (KG.grown HK.out hg (Kd.R_typed HR.out)); clear HR HL HX HB HK HP hp_ hg hw hq hf; have HR := n0_; have HL := n1_; have HX := n2_; have HB := n3_; have HK := n4_; clear n0_ n1_ n2_ n3_ n4_; have hczx2 : w7.cell? ⟨gx, 0, none⟩ = some (.slice (some ⟨go, 0, none⟩) o.length co) := (blk_cell HX.out 0).trans rfl; obtain ⟨hq2, _⟩ := Kd.R_celln 0 HR.out i c1 c2'; rw [show rdOf 0 y i = rd y i from rfl] at hq2; have P0 := eq_true c1; have P1 := eq_true c2'))
        go_roundg k1
        case measure => have := HK1.out; omega
        case rel => exact ⟨_, y, (by first | rfl | (simp; done) | (simp [*]; done)), H', ⟨by have := HK1.out; omega⟩, HR, HL, HX, HB, HK⟩
      rw [if_neg c3] at H
      have c3b := bne_iff_ne.mpr c3
      have c3c := beq_eq_false_iff_ne.mpr c3
      clear c3
      have H' := Aside0.mk H
      clear H
      go_upto_region 6 with (first | ((with_reducible refine gate_store (t := 5) (p := 18) (v := .tmp 17) rfl ?_); refine store_event (t := 5) (p := 18) (v := .tmp 17) (w1 := wr.setCell ⟨go, (i : Int).toNat, none⟩ (.int .u8 (((rd o2 i) + 1) % 256))) rfl rfl rfl ?hr ?_; (case hr => first | (go_simp; done) | (go_simp; rfl)); intro w7 hw; have hg : wr.grownBy w7 (some go) := (by rw [hw]; exact HP.2); have hp_ := HP.1; rw [← hw, ← HY.out] at hp_; have n0_ := Aside0.mk hp_; have n1_ := Aside0.mk (blk_grown HL.out hg (Kd.R_ne HR.out HL.out (by decide))); have n2_ := Aside0.mk (blk_grown HX.out hg (Kd.R_ne HR.out HX.out (by decide))); have n3_ := Aside0.mk (show Below w.heap.size w w7 from by rw [hw]; exact below_set HB.out (Kd.R_base HR.out go rfl)); have n4_ := Aside0.mk (KG.grown HK.out hg (Kd.R_typed HR.out)); clear HR HL HX HB HK HP hp_ hg hw hq hf; have HR := n0_; have HL := n1_; have HX := n2_; have HB := n3_; have HK := n4_; clear n0_ n1_ n2_ n3_ n4_; have hczx2 : w7.cell? ⟨gx, 0, none⟩ = some (.slice (some ⟨go, 0, none⟩) o.length co) := (blk_cell HX.out 0).trans rfl; obtain ⟨hq2, _⟩ := Kd.R_celln 0 HR.out i c1 c2'; rw [show rdOf 0 y i = rd y i from rfl] at hq2; have P0 := eq_true c1; have P1 := eq_true c2'))
      have H := H'.out
      clear H' hczx hczx2 hq2 P0 P1 P0_ P1_ c1b c2b c3b c3c c1 c2 c2'
      unfold impl_zpack_1.e at H
      by_cases cl : (y).length < 140737488355328
      rotate_left
      · rw [if_neg cl] at H
        exact absurd H (by simp)
      rw [if_pos cl] at H
      have LM := Aside0.mk cl
      clear cl
      simp only [Option.some.injEq, Prod.mk.injEq] at H
      obtain ⟨rfl, rfl⟩ := H
      have hczl : w7.cell? ⟨gl, 0, none⟩ = some (.int .u64 lw) := (blk_cell HL.out 0).trans rfl
      have hczx : w7.cell? ⟨gx, 0, none⟩ = some ((.slice (some ⟨go, 0, none⟩) o.length co)) := (blk_cell HX.out 0).trans rfl
      go_wp2_with (first | ((with_reducible refine gate_builtin (b := .append) (xs := #[.tmp 24, .tmp 28]) rfl ?_); at_builtin; refine Kd.R_append (Kd.int .u8) (w0 := w) w.heap.size rfl (.tmp 24) (.tmp 28) 23 5 (.int .u8 0) 1 rfl Try.underlying23 info5 rfl (by decide) (by omega) ((.slice (some ⟨go, 0, none⟩) o.length co)) (y) ((lw / 16777216) % 256) [.int .u8 ((lw / 16777216) % 256)] (fun _ => True) (fun _ => False) rfl rfl ?aP (fun _ hk => hk.elim) ?aF ?aO ?aB ?aS ?aL ?_; (case aP => exact rfl); (case aB => exact HB.out); (case aF => exact (fun _ _ => trivial)); (case aO => exact HR.out); (case aS => exact below_size HB.out); (case aL => have := LM.out; omega); intro v1 w1 ho hb hg hat; have n0_ := Aside0.mk (blk_grown HL.out hg (Kd.R_ne HR.out HL.out (by decide))); have n1_ := Aside0.mk (blk_grown HX.out hg (Kd.R_ne HR.out HX.out (by decide))); have n2_ := Aside0.mk (KG.grown HK.out hg (Kd.R_typed HR.out)); clear HL HX HK HB HR hg hat; have HL := n0_; have HX := n1_; have HK := n2_; have HB := Aside0.mk hb; have HR := Aside0.mk ho; clear n0_ n1_ n2_ hb ho; obtain ⟨A1_, c1_, e1_⟩ := Kd.R_slice HR.out; subst e1_) | ((with_reducible refine gate_store (t := 23) (p := 1) (v := .tmp 29) rfl ?_); refine put_event rfl 23 (.tmp 1) (.tmp 29) rfl rfl gx 0 #[(.slice (some ⟨go, 0, none⟩) o.length co)] 23 (.slice A1_ (y ++ [(lw / 16777216) % 256]).length c1_) rfl rfl rfl rfl (by kernel_rfl) HX.out (by simp) ?_; intro w2 h1 hk hbb; have n0_ := Aside0.mk (show w2.heap[gx]? = some (.cells #[.slice A1_ (y ++ [(lw / 16777216) % 256]).length c1_] 23 (0, 0)) from h1); have n1_ := Aside0.mk (blk_kept HL.out hk (fun e_ => NE.out e_)); have n2_ := Aside0.mk (hbb _ _ HB.out GX.out); have n3_ := Aside0.mk (KG.put HK.out hk (Or.inr rfl)); have n4_ := Aside0.mk (Kd.R_kept (Kd.R_types HR.out HX.out (by decide)) hk (fun k_ ho_ hs_ => ho_.2 hs_)); clear HX HL HB HK HR hk hbb h1; have HX := n0_; have HL := n1_; have HB := n2_; have HK := n3_; have HR := Aside0.mk (Kd.R_mono n4_.out (fun _ _ => trivial)); clear n0_ n1_ n2_ n3_ n4_; have hczl2 : w2.cell? ⟨gl, 0, none⟩ = some (.int .u64 lw) := (blk_cell HL.out 0).trans rfl) | ((with_reducible refine gate_store (t := 97) (p := 0) (v := .tmp 32) rfl ?_); refine put_event rfl 97 (.tmp 0) (.tmp 32) rfl rfl gl 0 #[.int .u64 lw] 97 (.int .u64 (IntKind.u64.wrap ((Go.bits .and .u64 lw 16777215) * 256))) rfl rfl rfl rfl (by kernel_rfl) HL.out (by simp) ?_; intro w3 h1 hk hbb; have n0_ := Aside0.mk (show w3.heap[gl]? = some (.cells #[.int .u64 (IntKind.u64.wrap ((Go.bits .and .u64 lw 16777215) * 256))] 97 (0, 0)) from h1); have n1_ := Aside0.mk (blk_kept HX.out hk (fun e_ => NE.out e_.symm)); have n2_ := Aside0.mk (hbb _ _ HB.out GL.out); have n3_ := Aside0.mk (KG.put HK.out hk (Or.inl rfl)); have n4_ := Aside0.mk (Kd.R_kept (Kd.R_types HR.out HL.out (by decide)) hk (fun k_ ho_ hs_ => ho_.2 hs_)); clear HL HX HB HK HR hk hbb h1; have HL := n0_; have HX := n1_; have HB := n2_; have HK := n3_; have HR := Aside0.mk (Kd.R_mono n4_.out (fun _ _ => trivial)); clear n0_ n1_ n2_ n3_ n4_))
      first | go_end0 | ((try simp only [Exit.inBlock, Exit.then]); refine bodyPost_ret (results_none rfl _ _ _) rfl ?_)
      exact ⟨_, rfl, HL.out, HX.out, HR.out, HB.out, HK.out⟩
mutual
def impl_zpack.l0 : Nat → List (S108) → Int → List Int → List Int → Int → Int → Option (List Int)
  | 0, _, _, _, _, _, _ => none
  | k + 1, l, i, od, o, lw, sp => if i < (l.length : Int) then (if 0 ≤ i then (if 0 ≤ (rd_T108 l i).f0 then (if (rd_T108 l i).f0 < (od.length : Int) then (if (rd_T108 l i).f1 = 0 then ((impl_zodds_learn.f od (rd_T108 l i).f0 (rd_T108 l i).f1).bind fun od2 => (impl_zpack.l2 k l i od2 o lw (IntKind.u64.wrap ((sp / 4096) * (IntKind.u64.wrap (rd od (rd_T108 l i).f0)))))) else ((impl_zodds_learn.f od (rd_T108 l i).f0 (rd_T108 l i).f1).bind fun od2 => (impl_zpack.l2 k l i od2 o (IntKind.u64.wrap (lw + (IntKind.u64.wrap ((sp / 4096) * (IntKind.u64.wrap (rd od (rd_T108 l i).f0)))))) (IntKind.u64.wrap (sp - (IntKind.u64.wrap ((sp / 4096) * (IntKind.u64.wrap (rd od (rd_T108 l i).f0))))))))) else (none)) else (none)) else (none)) else (impl_zpack.l1 k 0 o lw)
def impl_zpack.l2 : Nat → List (S108) → Int → List Int → List Int → Int → Int → Option (List Int)
  | 0, _, _, _, _, _, _ => none
  | k + 1, l, i, od, o, lw, sp => if sp < 16777216 then ((impl_zpack_1.f k o lw).bind fun t => (impl_zpack.l2 k l i od t.1 t.2 (IntKind.u64.wrap (sp * 256)))) else (impl_zpack.l0 k l (wrap64 (i + 1)) od o lw sp)
def impl_zpack.l1 : Nat → Int → List Int → Int → Option (List Int)
  | 0, _, _, _ => none
  | k + 1, i, o, lw => if i < 4 then ((impl_zpack_1.f k o lw).bind fun t => (impl_zpack.l1 k (wrap64 (i + 1)) t.1 t.2)) else (some o)
end
def impl_zpack.f (k : Nat) (a0 : Int) (l1 : List (S108)) : Option (List Int) := (impl_znewOdds.f k a0).bind fun od => (impl_zpack.l0 k l1 0 od [] 0 4294967295)
theorem impl_zpack.mono_l : ∀ k, (∀ y0 y1 y2 y3 y4 y5, LeO (impl_zpack.l0 k y0 y1 y2 y3 y4 y5) (impl_zpack.l0 (k + 1) y0 y1 y2 y3 y4 y5)) ∧ (∀ y0 y1 y2 y3 y4 y5, LeO (impl_zpack.l2 k y0 y1 y2 y3 y4 y5) (impl_zpack.l2 (k + 1) y0 y1 y2 y3 y4 y5)) ∧ (∀ y0 y1 y2, LeO (impl_zpack.l1 k y0 y1 y2) (impl_zpack.l1 (k + 1) y0 y1 y2))
  | 0 => ⟨fun _ _ _ _ _ _ r h => by simp [impl_zpack.l0] at h, fun _ _ _ _ _ _ r h => by simp [impl_zpack.l2] at h, fun _ _ _ r h => by simp [impl_zpack.l1] at h⟩
  | k + 1 => by
    have ih := impl_zpack.mono_l k
    obtain ⟨ih0, ih1, ih2⟩ := ih
    refine ⟨?_, ?_, ?_⟩
    · intro y0 y1 y2 y3 y4 y5
      unfold impl_zpack.l0
      repeat' first
      | (with_reducible exact ih0 _ _ _ _ _ _)
      | (with_reducible exact ih1 _ _ _ _ _ _)
      | (with_reducible exact ih2 _ _ _)
      | (with_reducible exact impl_zpack_1.mono _ _ _)
      | (with_reducible exact impl_znewOdds.mono _ _)
      | (with_reducible exact LeO.refl _)
      | (with_reducible exact LeO.none _)
      | (with_reducible refine LeO.ite ?_ ?_)
      | (with_reducible refine LeO.bind ?_ (fun _ => ?_))
      | exact ih0 _ _ _ _ _ _
      | exact ih1 _ _ _ _ _ _
      | exact ih2 _ _ _
      | exact impl_zpack_1.mono _ _ _
      | exact impl_znewOdds.mono _ _
      | exact LeO.none _
      | refine LeO.ite ?_ ?_
      | refine LeO.bind ?_ (fun _ => ?_)
    · intro y0 y1 y2 y3 y4 y5
      unfold impl_zpack.l2
      repeat' first
      | (with_reducible exact ih0 _ _ _ _ _ _)
      | (with_reducible exact ih1 _ _ _ _ _ _)
      | (with_reducible exact ih2 _ _ _)
      | (with_reducible exact impl_zpack_1.mono _ _ _)
      | (with_reducible exact impl_znewOdds.mono _ _)
      | (with_reducible exact LeO.refl _)
      | (with_reducible exact LeO.none _)
      | (with_reducible refine LeO.ite ?_ ?_)
      | (with_reducible refine LeO.bind ?_ (fun _ => ?_))
      | exact ih0 _ _ _ _ _ _
      | exact ih1 _ _ _ _ _ _
      | exact ih2 _ _ _
      | exact impl_zpack_1.mono _ _ _
      | exact impl_znewOdds.mono _ _
      | exact LeO.none _
      | refine LeO.ite ?_ ?_
      | refine LeO.bind ?_ (fun _ => ?_)
    · intro y0 y1 y2
      unfold impl_zpack.l1
      repeat' first
      | (with_reducible exact ih0 _ _ _ _ _ _)
      | (with_reducible exact ih1 _ _ _ _ _ _)
      | (with_reducible exact ih2 _ _ _)
      | (with_reducible exact impl_zpack_1.mono _ _ _)
      | (with_reducible exact impl_znewOdds.mono _ _)
      | (with_reducible exact LeO.refl _)
      | (with_reducible exact LeO.none _)
      | (with_reducible refine LeO.ite ?_ ?_)
      | (with_reducible refine LeO.bind ?_ (fun _ => ?_))
      | exact ih0 _ _ _ _ _ _
      | exact ih1 _ _ _ _ _ _
      | exact ih2 _ _ _
      | exact impl_zpack_1.mono _ _ _
      | exact impl_znewOdds.mono _ _
      | exact LeO.none _
      | refine LeO.ite ?_ ?_
      | refine LeO.bind ?_ (fun _ => ?_)
theorem impl_zpack.mono : ∀ a0 a1 k, LeO (impl_zpack.f k a0 a1) (impl_zpack.f (k + 1) a0 a1) := by
  intro a0 a1 k
  have ih := impl_zpack.mono_l k
  obtain ⟨ih0, ih1, ih2⟩ := ih
  unfold impl_zpack.f
  repeat' first
      | (with_reducible exact ih0 _ _ _ _ _ _)
      | (with_reducible exact ih1 _ _ _ _ _ _)
      | (with_reducible exact ih2 _ _ _)
      | (with_reducible exact impl_zpack_1.mono _ _ _)
      | (with_reducible exact impl_znewOdds.mono _ _)
      | (with_reducible exact LeO.refl _)
      | (with_reducible exact LeO.none _)
      | (with_reducible refine LeO.ite ?_ ?_)
      | (with_reducible refine LeO.bind ?_ (fun _ => ?_))
      | exact ih0 _ _ _ _ _ _
      | exact ih1 _ _ _ _ _ _
      | exact ih2 _ _ _
      | exact impl_zpack_1.mono _ _ _
      | exact impl_znewOdds.mono _ _
      | exact LeO.none _
      | refine LeO.ite ?_ ?_
      | refine LeO.bind ?_ (fun _ => ?_)
set_option maxHeartbeats 8000000 in
set_option maxRecDepth 100000 in
theorem impl_zpack.calls (k : Nat) (a0 : Int) (A1 : Option Addr) (c1 : Nat) (l1 : List (S108)) (r : List Int) (w : World) (hr1 : Kd.C k108 w A1 l1.length l1) (hc1 : l1.length ≤ c1) (h : impl_zpack.f k a0 l1 = some r) :
    Calls Try.prog 85 #[.int .i64 a0, .slice A1 l1.length c1] w fun e w' => ∃ v0_ : Value, e = .returned (v0_) ∧ Kd.R (Kd.int .u8) 5 w' w.heap.size (fun _ => True) v0_ r ∧ Below w.heap.size w w' := by
  have huc_ := Try.underlying108
  have HR1 := Aside0.mk hr1
  have HC1 := Aside0.mk hc1
  clear hr1 hc1
  unfold impl_zpack.f at h
  obtain ⟨od0, A20, H⟩ := Option.bind_eq_some_iff.mp h
  clear h
  have A2 := Aside0.mk A20
  have HC := Aside0.mk H
  clear A20 H
  go_enter Try.func85, Try.ntmps85
  go_wp2_with (first | ((with_reducible refine gate_callee (f := 140) rfl ?_); refine goesL_ (some 14) rfl rfl Try.func140 (by kernel_rfl) rfl #[.int .i64 a0] rfl (by (try simp only [List.map_toArray, List.map_cons, List.map_nil]); first | done | rfl) ?_; (with_reducible refine (impl_znewOdds.calls k a0 od0 _ A2.out).mono ?_); rintro e wc ⟨v, rfl, ho, hb⟩; refine ⟨_, rfl, ?_⟩; have HO := Aside0.mk ho; have HB := Aside0.mk hb; clear ho hb; obtain ⟨Ao, co, eo⟩ := Kd.R_slice HO.out; subst eo) | ((with_reducible refine gate_dst (N := 6) rfl ?_); refine box_event ?hg (N := 6) ?hd (cs := #[.slice none 0 0]) (t := 23) ?hr ?_; (case hd => rfl); (case hg => rfl); (case hr => first | (go_simp; done) | (go_simp; rfl)); intro gx hg wx hbox hb; have n0_ := Aside0.mk (Kd.R_below HO.out hb); have GX := Aside0.mk (show w.heap.size ≤ gx from by rw [hg]; exact below_size HB.out); have n1_ := Aside0.mk (below_step HB.out hb); clear HO HB; have HO := n0_; have HB := n1_; have HX := Aside0.mk hbox; clear n0_ n1_ hg hb hbox) | ((with_reducible refine gate_dst (N := 7) rfl ?_); refine box_event ?hg (N := 7) ?hd (cs := #[.int .u64 0]) (t := 97) ?hr ?_; (case hd => rfl); (case hg => rfl); (case hr => first | (go_simp; done) | (go_simp; rfl)); intro gl hg wl hbox hb; have n0_ := Aside0.mk (Kd.R_below HO.out hb); have GL := Aside0.mk (show w.heap.size ≤ gl from by rw [hg]; exact below_size HB.out); have n1_ := Aside0.mk (below_step HB.out hb); have n2_ := Aside0.mk (blk_below HX.out hb); clear HO HB HX; have HO := n0_; have HB := n1_; have HX := n2_; have HL := Aside0.mk hbox; clear n0_ n1_ n2_ hg hb hbox) | ((with_reducible refine gate_store (t := 97) (p := 7) (v := .const (.int .u64 0)) rfl ?_); refine put_event rfl 97 (.tmp 7) (.const (.int .u64 0)) rfl rfl gl 0 #[.int .u64 0] 97 (.int .u64 0) rfl rfl rfl rfl (by kernel_rfl) HL.out (by simp) ?_; intro wp h1 hk hbb; have n0_ := Aside0.mk (show wp.heap[gl]? = some (.cells #[.int .u64 0] 97 (0, 0)) from h1); have n1_ := Aside0.mk (blk_kept HX.out hk (fun e_ => blk_ne HL.out HX.out (by decide) e_.symm)); have n2_ := Aside0.mk (hbb _ _ HB.out GL.out); have n4_ := Aside0.mk (Kd.R_mono (Kd.R_kept (Kd.R_types HO.out HL.out (by decide)) hk (fun k_ ho_ hs_ => ho_.2 hs_)) (fun _ _ => trivial)); clear HL HX HB HO h1 hk hbb; have HL := n0_; have HX := n1_; have HB := n2_; have HO := n4_; clear n0_ n1_ n2_ n4_))
  go_loopg [8, 18] k (fun kq v8 v18 w' => ∃ (i : Int) (od o : List Int) (lw sp : Int) (u : Value), v8 = .int .u64 sp ∧ v18 = .int .i64 i ∧ Aside0 (impl_zpack.l0 kq l1 i od o lw sp = some r) ∧ Aside0 (kq ≤ k) ∧ Aside0 (Kd.R (Kd.int .i64) 3 w' w.heap.size (fun _ => True) (.slice Ao od0.length co) od) ∧ Aside0 (Kd.R (Kd.int .u8) 5 w' w.heap.size (fun _ => True) u o) ∧ Aside0 (w'.heap[gl]? = some (.cells #[.int .u64 lw] 97 (0, 0))) ∧ Aside0 (w'.heap[gx]? = some (.cells #[u] 23 (0, 0))) ∧ Aside0 (Below w.heap.size w w'))
  case atStart => exact ⟨0, od0, [], 0, 4294967295, .slice none 0 0, rfl, rfl, HC, ⟨Nat.le_refl _⟩, HO, ⟨Kd.R_nil _ _ _ _ _⟩, HL, HX, HB⟩
  case round =>
    clear HC HO HL HX HB
    obtain ⟨i, od, o, lw, sp, u, rfl, rfl, HA, HK1, HO, HR, HL, HX, HB⟩ := hrel
    cases gk with
    | zero => exact absurd HA.out (by simp [impl_zpack.l0])
    | succ k1 =>
      have H := HA.out
      clear HA
      simp only [impl_zpack.l0] at H
      by_cases c1 : i < (l1.length : Int)
      rotate_left
      · rw [if_neg c1] at H
        have c1b := decide_eq_false c1
        clear c1
        have HC := Aside0.mk H
        clear H
        go_wp2
        go_loopg [54] k1 (fun kq v54 w' => ∃ (i : Int) (o : List Int) (lw : Int) (u : Value), v54 = .int .i64 i ∧ Aside0 (impl_zpack.l1 kq i o lw = some r) ∧ Aside0 (kq ≤ k1) ∧ Aside0 (Kd.R (Kd.int .u8) 5 w' w.heap.size (fun _ => True) u o) ∧ Aside0 (w'.heap[gl]? = some (.cells #[.int .u64 lw] 97 (0, 0))) ∧ Aside0 (w'.heap[gx]? = some (.cells #[u] 23 (0, 0))) ∧ Aside0 (Below w.heap.size w w'))
        case atStart => exact ⟨0, o, lw, u, rfl, HC, ⟨Nat.le_refl _⟩, HR, HL, HX, HB⟩
        case round =>
          clear HC HO HR HL HX HB
          obtain ⟨i9, o, lw, u, rfl, HA, HK2, HR, HL, HX, HB⟩ := hrel
          cases gk with
          | zero => exact absurd HA.out (by simp [impl_zpack.l1])
          | succ k2 =>
            have H := HA.out
            clear HA
            simp only [impl_zpack.l1] at H
            by_cases c2 : i9 < 4
            rotate_left
            · rw [if_neg c2] at H
              have c2b := decide_eq_false c2
              clear c2
              obtain rfl := Option.some.inj H
              have hczx : wr.cell? ⟨gx, 0, none⟩ = some u := (blk_cell HX.out 0).trans rfl
              go_wp2
              go_ret
              exact ⟨_, rfl, HR.out, HB.out⟩
            rw [if_pos c2] at H
            have c2b := decide_eq_true c2
            clear c2
            replace H := Option.bind_eq_some_iff.mp H
            obtain ⟨⟨o', lw'⟩, A50, H⟩ := H
            replace H : impl_zpack.l1 k2 (wrap64 (i9 + 1)) o' lw' = some r := H
            have A5 := Aside0.mk A50
            have H' := Aside0.mk H
            clear A50 H
            go_wp2_with (first | ((with_reducible refine gate_dst (N := 57) rfl ?_); refine goesLC_ (n := 56) (some 57) rfl rfl Try.func141 (by kernel_rfl) rfl #[.pointer (some ⟨gl, 0, none⟩), .pointer (some ⟨gx, 0, none⟩)] rfl rfl (by first | rfl | (simp; done)) ?_; (with_reducible refine (impl_zpack_1.calls k2 gl gx lw u o o' lw' w _ HB.out GL.out GX.out HL.out HX.out HR.out A5.out).mono ?_); rintro e w5 ⟨v', rfl, hl, hx, hr, hb, hk⟩; refine ⟨_, rfl, ?_⟩; clear HB HL HX HR; have HB := Aside0.mk hb; have HL := Aside0.mk hl; have HX := Aside0.mk hx; have HR := Aside0.mk hr; clear hb hl hx hr hk))
            go_roundg k2
            case measure => have := HK2.out; omega
            case rel => exact ⟨_, o', lw', v', (by first | rfl | (simp; done) | (simp [*]; done)), H', ⟨by have := HK2.out; omega⟩, HR, HL, HX, HB⟩
      rw [if_pos c1] at H
      by_cases c2 : 0 ≤ i
      rotate_left
      · rw [if_neg c2] at H
        exact absurd H (by simp)
      rw [if_pos c2] at H
      obtain ⟨e, he⟩ : ∃ e_ : S108, rd_T108 l1 i = e_ := ⟨_, rfl⟩
      obtain ⟨ad1, e1, hx0, hx1⟩ := at_T108 (Kd.C_below HR1.out HB.out) i c2 c1
      cases e1
      rw [he] at H hx0 hx1
      clear he
      obtain ⟨f0, f1⟩ := e
      dsimp only at H hx0 hx1
      have c1b := decide_eq_true c1
      have c2b := decide_eq_true c2
      replace c1 := eq_true c1
      replace c2 := eq_true c2
      by_cases c3 : 0 ≤ f0
      rotate_left
      · rw [if_neg c3] at H
        exact absurd H (by simp)
      rw [if_pos c3] at H
      by_cases c4 : f0 < (od.length : Int)
      rotate_left
      · rw [if_neg c4] at H
        exact absurd H (by simp)
      rw [if_pos c4] at H
      have HC := Aside0.mk H
      clear H
      have hlen : od0.length = od.length := (Kd.R_reads' HO.out).1
      have c4' : f0 < (od0.length : Int) := by omega
      obtain ⟨go, cap, eo, _, _, _⟩ := Kd.R_form HO.out (by omega)
      injection eo with ea el ec
      clear el
      subst ea
      subst ec
      have HLEN := Aside0.mk hlen
      clear hlen
      go_upto_region 8 with (first | ((with_reducible refine gate_dst (N := 11) rfl ?_); refine box_event ?hg (N := 11) ?hd (cs := #[.int .i64 0, .int .i64 0]) (t := 108) ?hr ?_; (case hd => rfl); (case hg => rfl); (case hr => first | (go_simp; done) | (go_simp; rfl)); intro g11 hg w8 hbox hb; have HV := Aside0.mk hb; have BK11 := Aside0.mk hbox; have GB11 := Aside0.mk (show wr.heap.size ≤ g11 from Nat.le_of_eq hg.symm); clear hg hb hbox; have hcy0 : w8.cell? ⟨g11, 0, none⟩ = some (.int .i64 0) := (blk_cell BK11.out 0).trans rfl; have hcy1 : w8.cell? ⟨g11, 1, none⟩ = some (.int .i64 0) := (blk_cell BK11.out 1).trans rfl; have hfy0 := blk_frozen BK11.out 0; have hfy1 := blk_frozen BK11.out 1; replace hx0 := pw_cell_below HV.out hx0; replace hx1 := pw_cell_below HV.out hx1))
      have hb_ : Below wr.heap.size wr (World.setCell (World.setCell w8 ⟨g11, 0, none⟩ (.int .i64 f0)) ⟨g11, 1, none⟩ (.int .i64 f1)) := by repeat (first | exact HV.out | refine below_set ?_ GB11.out)
      have hbox_ : (World.setCell (World.setCell w8 ⟨g11, 0, none⟩ (.int .i64 f0)) ⟨g11, 1, none⟩ (.int .i64 f1)).heap[g11]? = some (.cells #[.int .i64 f0, .int .i64 f1] 108 (0, 0)) := blk_set (blk_set BK11.out 0 _) 1 _
      clear HV BK11 hx0 hx1
      generalize (World.setCell (World.setCell w8 ⟨g11, 0, none⟩ (.int .i64 f0)) ⟨g11, 1, none⟩ (.int .i64 f1)) = w9 at hb_ hbox_ ⊢
      clear hcy0 hcy1 hfy0 hfy1
      have n_HO := Aside0.mk (Kd.R_below HO.out hb_)
      have n_HR := Aside0.mk (Kd.R_below HR.out hb_)
      have n_HL := Aside0.mk (blk_below HL.out hb_)
      have n_HX := Aside0.mk (blk_below HX.out hb_)
      have n_HB := Aside0.mk (below_step HB.out hb_)
      clear HO HR HL HX HB
      have HO := n_HO
      have HR := n_HR
      have HL := n_HL
      have HX := n_HX
      have HB := n_HB
      clear n_HO n_HR n_HL n_HX n_HB
      have BK11 := Aside0.mk hbox_
      clear hb_ hbox_ c1 c2
      obtain ⟨hq, _⟩ := Kd.R_celln 0 HO.out f0 c3 c4'
      rw [show rdOf 0 od f0 = rd od f0 from rfl] at hq
      have S0 := eq_true c3
      have S1 := eq_true c4'
      have S0b := decide_eq_true c3
      have S1b := decide_eq_true c4'
      have H := HC.out
      clear HC
      by_cases c6 : f1 = 0
      · rw [if_pos c6] at H
        have c6b := beq_iff_eq.mpr c6
        clear c6
        replace H := Option.bind_eq_some_iff.mp H
        obtain ⟨od2, A60, H⟩ := H
        replace H : impl_zpack.l2 k1 l1 i od2 o lw (IntKind.u64.wrap ((sp / 4096) * (IntKind.u64.wrap (rd od f0)))) = some r := H
        have A6 := Aside0.mk A60
        have HC := Aside0.mk H
        clear A60 H
        have hz0 : w9.cell? ⟨g11, 0, none⟩ = some (.int .i64 f0) := (blk_cell BK11.out 0).trans rfl
        have hz1 : w9.cell? ⟨g11, 1, none⟩ = some (.int .i64 f1) := (blk_cell BK11.out 1).trans rfl
        go_wp2_with (first | ((with_reducible refine gate_callee (f := 142) rfl ?_); refine goesL_ (some 46) rfl rfl Try.func142 (by kernel_rfl) rfl #[(.slice (some ⟨go, 0, none⟩) od0.length co), .int .i64 f0, .int .i64 f1] rfl (by (try simp only [List.map_toArray, List.map_cons, List.map_nil]); first | done | rfl) ?_; (with_reducible refine (impl_zodds_learn.calls (fun k_ => some k_ = ((.slice (some ⟨go, 0, none⟩) od0.length co) : Value).ownBlock) (.slice (some ⟨go, 0, none⟩) od0.length co) od f0 f1 od2 w _ HB.out ?side1 A6.out).mono ?_); (case side1 => exact Kd.R_tight rfl HO.out); rintro e w6 ⟨rfl, ho, hb, hk⟩; refine ⟨_, rfl, ?_⟩; have n0_ := Aside0.mk (Kd.R_mono ho (fun _ _ => trivial)); have n1_ := Aside0.mk (Kd.R_mono (Kd.R_kept (Kd.R_apartR HR.out HO.out (by decide)) hk (fun k_ hk_ hs_ => hk_.2 hs_)) (fun _ _ => trivial)); have n2_ := Aside0.mk (blk_kept HL.out hk (fun e_ => Kd.R_ne HO.out HL.out (by decide) e_)); have n3_ := Aside0.mk (blk_kept HX.out hk (fun e_ => Kd.R_ne HO.out HX.out (by decide) e_)); clear HO HR HL HX HB BK11 hk; have HO := n0_; have HR := n1_; have HL := n2_; have HX := n3_; have HB := Aside0.mk hb; clear n0_ n1_ n2_ n3_ ho hb))
        clear hz0 hz1 hq
        go_loopg [8] k1 (fun kq v8 w' => ∃ (o : List Int) (lw sp : Int) (u : Value), v8 = .int .u64 sp ∧ Aside0 (impl_zpack.l2 kq l1 i od2 o lw sp = some r) ∧ Aside0 (kq ≤ k1) ∧ Aside0 (Kd.R (Kd.int .i64) 3 w' w.heap.size (fun _ => True) (.slice (some ⟨go, 0, none⟩) od0.length co) od2) ∧ Aside0 (Kd.R (Kd.int .u8) 5 w' w.heap.size (fun _ => True) u o) ∧ Aside0 (w'.heap[gl]? = some (.cells #[.int .u64 lw] 97 (0, 0))) ∧ Aside0 (w'.heap[gx]? = some (.cells #[u] 23 (0, 0))) ∧ Aside0 (Below w.heap.size w w'))
        case atStart => exact ⟨o, lw, (IntKind.u64.wrap ((sp / 4096) * (IntKind.u64.wrap (rd od f0)))), u, rfl, HC, ⟨Nat.le_refl _⟩, HO, HR, HL, HX, HB⟩
        case round =>
          clear HC HO HR HL HX HB
          obtain ⟨o, lw, sp, u, rfl, HA, HK2, HO, HR, HL, HX, HB⟩ := hrel
          cases gk with
          | zero => exact absurd HA.out (by simp [impl_zpack.l2])
          | succ k2 =>
            have H := HA.out
            clear HA
            simp only [impl_zpack.l2] at H
            by_cases c5 : sp < 16777216
            rotate_left
            · rw [if_neg c5] at H
              have c5b := decide_eq_false c5
              clear c5
              have H' := Aside0.mk H
              clear H
              go_wp2
              go_roundg k2
              case measure => have := HK1.out; have := HK2.out; omega
              case rel => exact ⟨_, od2, o, lw, sp, u, rfl, (by first | rfl | (simp; done) | (simp [*]; done)), H', ⟨by have := HK1.out; have := HK2.out; omega⟩, HO, HR, HL, HX, HB⟩
            rw [if_pos c5] at H
            have c5b := decide_eq_true c5
            clear c5
            replace H := Option.bind_eq_some_iff.mp H
            obtain ⟨⟨o', lw'⟩, A50, H⟩ := H
            replace H : impl_zpack.l2 k2 l1 i od2 o' lw' (IntKind.u64.wrap (sp * 256)) = some r := H
            have A5 := Aside0.mk A50
            have H' := Aside0.mk H
            clear A50 H
            go_wp2_with (first | ((with_reducible refine gate_dst (N := 52) rfl ?_); refine goesLC_ (n := 51) (some 52) rfl rfl Try.func141 (by kernel_rfl) rfl #[.pointer (some ⟨gl, 0, none⟩), .pointer (some ⟨gx, 0, none⟩)] rfl rfl (by first | rfl | (simp; done)) ?_; (with_reducible refine (impl_zpack_1.calls k2 gl gx lw u o o' lw' w _ HB.out GL.out GX.out HL.out HX.out HR.out A5.out).mono ?_); rintro e w5 ⟨v', rfl, hl, hx, hr, hb, hk⟩; refine ⟨_, rfl, ?_⟩; have n9_ := Aside0.mk (KG.R hk HO.out (fun k_ hk_ => hk_.elim (fun e_ => ⟨_, _, e_ ▸ HL.out, by decide⟩) (fun e_ => ⟨_, _, e_ ▸ HX.out, by decide⟩)) (by decide)); clear HO; have HO := n9_; clear n9_; clear HB HL HX HR; have HB := Aside0.mk hb; have HL := Aside0.mk hl; have HX := Aside0.mk hx; have HR := Aside0.mk hr; clear hb hl hx hr hk))
            go_roundg k2
            case measure => have := HK2.out; omega
            case rel => exact ⟨o', lw', _, v', (by first | rfl | (simp; done) | (simp [*]; done)), H', ⟨by have := HK2.out; omega⟩, HO, HR, HL, HX, HB⟩
      rw [if_neg c6] at H
      have c6b := beq_eq_false_iff_ne.mpr c6
      clear c6
      replace H := Option.bind_eq_some_iff.mp H
      obtain ⟨od2, A60, H⟩ := H
      replace H : impl_zpack.l2 k1 l1 i od2 o (IntKind.u64.wrap (lw + (IntKind.u64.wrap ((sp / 4096) * (IntKind.u64.wrap (rd od f0)))))) (IntKind.u64.wrap (sp - (IntKind.u64.wrap ((sp / 4096) * (IntKind.u64.wrap (rd od f0)))))) = some r := H
      have A6 := Aside0.mk A60
      have HC := Aside0.mk H
      clear A60 H
      have hz0 : w9.cell? ⟨g11, 0, none⟩ = some (.int .i64 f0) := (blk_cell BK11.out 0).trans rfl
      have hz1 : w9.cell? ⟨g11, 1, none⟩ = some (.int .i64 f1) := (blk_cell BK11.out 1).trans rfl
      have hzl : w9.cell? ⟨gl, 0, none⟩ = some (.int .u64 lw) := (blk_cell HL.out 0).trans rfl
      go_wp2_with (first | ((with_reducible refine gate_store (t := 97) (p := 7) (v := .tmp 37) rfl ?_); refine put_event rfl 97 (.tmp 7) (.tmp 37) rfl rfl gl 0 #[.int .u64 lw] 97 (.int .u64 (IntKind.u64.wrap (lw + (IntKind.u64.wrap ((sp / 4096) * (IntKind.u64.wrap (rd od f0))))))) rfl rfl rfl rfl (by kernel_rfl) HL.out (by simp) ?_; intro wq h1 hk hbb; have n0_ := Aside0.mk (show wq.heap[gl]? = some (.cells #[.int .u64 (IntKind.u64.wrap (lw + (IntKind.u64.wrap ((sp / 4096) * (IntKind.u64.wrap (rd od f0))))))] 97 (0, 0)) from h1); have n1_ := Aside0.mk (blk_kept HX.out hk (fun e_ => blk_ne HL.out HX.out (by decide) e_.symm)); have n2_ := Aside0.mk (hbb _ _ HB.out GL.out); have n3_ := Aside0.mk (Kd.R_mono (Kd.R_kept (Kd.R_types HR.out HL.out (by decide)) hk (fun k_ ho_ hs_ => ho_.2 hs_)) (fun _ _ => trivial)); have n4_ := Aside0.mk (Kd.R_mono (Kd.R_kept (Kd.R_types HO.out HL.out (by decide)) hk (fun k_ ho_ hs_ => ho_.2 hs_)) (fun _ _ => trivial)); have n5_ := Aside0.mk (blk_kept BK11.out hk (fun e_ => blk_ne HL.out BK11.out (by decide) e_.symm)); clear HL HX HB HR HO BK11 h1 hk hbb hz0 hz1; have HL := n0_; have HX := n1_; have HB := n2_; have HR := n3_; have HO := n4_; have BK11 := n5_; clear n0_ n1_ n2_ n3_ n4_ n5_; have hz0 : wq.cell? ⟨g11, 0, none⟩ = some (.int .i64 f0) := (blk_cell BK11.out 0).trans rfl; have hz1 : wq.cell? ⟨g11, 1, none⟩ = some (.int .i64 f1) := (blk_cell BK11.out 1).trans rfl) | ((with_reducible refine gate_callee (f := 142) rfl ?_); refine goesL_ (some 46) rfl rfl Try.func142 (by kernel_rfl) rfl #[(.slice (some ⟨go, 0, none⟩) od0.length co), .int .i64 f0, .int .i64 f1] rfl (by (try simp only [List.map_toArray, List.map_cons, List.map_nil]); first | done | rfl) ?_; (with_reducible refine (impl_zodds_learn.calls (fun k_ => some k_ = ((.slice (some ⟨go, 0, none⟩) od0.length co) : Value).ownBlock) (.slice (some ⟨go, 0, none⟩) od0.length co) od f0 f1 od2 w _ HB.out ?side1 A6.out).mono ?_); (case side1 => exact Kd.R_tight rfl HO.out); rintro e w6 ⟨rfl, ho, hb, hk⟩; refine ⟨_, rfl, ?_⟩; have n0_ := Aside0.mk (Kd.R_mono ho (fun _ _ => trivial)); have n1_ := Aside0.mk (Kd.R_mono (Kd.R_kept (Kd.R_apartR HR.out HO.out (by decide)) hk (fun k_ hk_ hs_ => hk_.2 hs_)) (fun _ _ => trivial)); have n2_ := Aside0.mk (blk_kept HL.out hk (fun e_ => Kd.R_ne HO.out HL.out (by decide) e_)); have n3_ := Aside0.mk (blk_kept HX.out hk (fun e_ => Kd.R_ne HO.out HX.out (by decide) e_)); clear HO HR HL HX HB BK11 hk; have HO := n0_; have HR := n1_; have HL := n2_; have HX := n3_; have HB := Aside0.mk hb; clear n0_ n1_ n2_ n3_ ho hb))
      clear hz0 hz1 hq hzl
      go_loopg [8] k1 (fun kq v8 w' => ∃ (o : List Int) (lw sp : Int) (u : Value), v8 = .int .u64 sp ∧ Aside0 (impl_zpack.l2 kq l1 i od2 o lw sp = some r) ∧ Aside0 (kq ≤ k1) ∧ Aside0 (Kd.R (Kd.int .i64) 3 w' w.heap.size (fun _ => True) (.slice (some ⟨go, 0, none⟩) od0.length co) od2) ∧ Aside0 (Kd.R (Kd.int .u8) 5 w' w.heap.size (fun _ => True) u o) ∧ Aside0 (w'.heap[gl]? = some (.cells #[.int .u64 lw] 97 (0, 0))) ∧ Aside0 (w'.heap[gx]? = some (.cells #[u] 23 (0, 0))) ∧ Aside0 (Below w.heap.size w w'))
      case atStart => exact ⟨o, IntKind.u64.wrap (lw + (IntKind.u64.wrap ((sp / 4096) * (IntKind.u64.wrap (rd od f0))))), IntKind.u64.wrap (sp - (IntKind.u64.wrap ((sp / 4096) * (IntKind.u64.wrap (rd od f0))))), u, rfl, HC, ⟨Nat.le_refl _⟩, HO, HR, HL, HX, HB⟩
      case round =>
        clear HC HO HR HL HX HB
        obtain ⟨o, lw, sp, u, rfl, HA, HK2, HO, HR, HL, HX, HB⟩ := hrel
        cases gk with
        | zero => exact absurd HA.out (by simp [impl_zpack.l2])
        | succ k2 =>
          have H := HA.out
          clear HA
          simp only [impl_zpack.l2] at H
          by_cases c5 : sp < 16777216
          rotate_left
          · rw [if_neg c5] at H
            have c5b := decide_eq_false c5
            clear c5
            have H' := Aside0.mk H
            clear H
            go_wp2
            go_roundg k2
            case measure => have := HK1.out; have := HK2.out; omega
            case rel => exact ⟨_, od2, o, lw, sp, u, rfl, (by first | rfl | (simp; done) | (simp [*]; done)), H', ⟨by have := HK1.out; have := HK2.out; omega⟩, HO, HR, HL, HX, HB⟩
          rw [if_pos c5] at H
          have c5b := decide_eq_true c5
          clear c5
          replace H := Option.bind_eq_some_iff.mp H
          obtain ⟨⟨o', lw'⟩, A50, H⟩ := H
          replace H : impl_zpack.l2 k2 l1 i od2 o' lw' (IntKind.u64.wrap (sp * 256)) = some r := H
          have A5 := Aside0.mk A50
          have H' := Aside0.mk H
          clear A50 H
          go_wp2_with (first | ((with_reducible refine gate_dst (N := 52) rfl ?_); refine goesLC_ (n := 51) (some 52) rfl rfl Try.func141 (by kernel_rfl) rfl #[.pointer (some ⟨gl, 0, none⟩), .pointer (some ⟨gx, 0, none⟩)] rfl rfl (by first | rfl | (simp; done)) ?_; (with_reducible refine (impl_zpack_1.calls k2 gl gx lw u o o' lw' w _ HB.out GL.out GX.out HL.out HX.out HR.out A5.out).mono ?_); rintro e w5 ⟨v', rfl, hl, hx, hr, hb, hk⟩; refine ⟨_, rfl, ?_⟩; have n9_ := Aside0.mk (KG.R hk HO.out (fun k_ hk_ => hk_.elim (fun e_ => ⟨_, _, e_ ▸ HL.out, by decide⟩) (fun e_ => ⟨_, _, e_ ▸ HX.out, by decide⟩)) (by decide)); clear HO; have HO := n9_; clear n9_; clear HB HL HX HR; have HB := Aside0.mk hb; have HL := Aside0.mk hl; have HX := Aside0.mk hx; have HR := Aside0.mk hr; clear hb hl hx hr hk))
          go_roundg k2
          case measure => have := HK2.out; omega
          case rel => exact ⟨o', lw', _, v', (by first | rfl | (simp; done) | (simp [*]; done)), H', ⟨by have := HK2.out; omega⟩, HO, HR, HL, HX, HB⟩

/-! ### impl_OddsPack: function 30 -/
def impl_OddsPack.f (k : Nat) (a0 : Int) (l1 : List (S108)) : Option (List Int) := (impl_zchoices.f k a0 l1).bind fun t154 => (if t154 = true then ((impl_zpack.f k a0 l1).bind fun t155 => (some t155)) else (some ([] : List Int)))
theorem impl_OddsPack.mono : ∀ a0 a1 k, LeO (impl_OddsPack.f k a0 a1) (impl_OddsPack.f (k + 1) a0 a1) := by
  intro a0 a1 k
  unfold impl_OddsPack.f
  repeat' first
      | (with_reducible exact impl_zchoices.mono _ _ _)
      | (with_reducible exact impl_zpack.mono _ _ _)
      | (with_reducible exact LeO.refl _)
      | (with_reducible exact LeO.none _)
      | (with_reducible refine LeO.ite ?_ ?_)
      | (with_reducible refine LeO.bind ?_ (fun _ => ?_))
      | exact impl_zchoices.mono _ _ _
      | exact impl_zpack.mono _ _ _
      | exact LeO.none _
      | refine LeO.ite ?_ ?_
      | refine LeO.bind ?_ (fun _ => ?_)
set_option maxHeartbeats 8000000 in
set_option maxRecDepth 100000 in
theorem impl_OddsPack.calls (k : Nat) (a0 : Int) (A1 : Option Addr) (c1 : Nat) (l1 : List (S108)) (r : List Int) (w : World) (hr1 : Kd.C k108 w A1 l1.length l1) (hc1 : l1.length ≤ c1) (h : impl_OddsPack.f k a0 l1 = some r) :
    Calls Try.prog 30 #[.int .i64 a0, .slice A1 l1.length c1] w fun e w' => ∃ v0_ : Value, e = .returned (v0_) ∧ Kd.R (Kd.int .u8) 5 w' w.heap.size (fun _ => True) v0_ r ∧ Below w.heap.size w w' := by
  have HR1 := Aside0.mk hr1
  have HC1 := Aside0.mk hc1
  clear hr1 hc1
  have HB := Aside0.mk (Below.refl w.heap.size w)
  have H : ((impl_zchoices.f k a0 l1).bind fun t154 => (if t154 = true then ((impl_zpack.f k a0 l1).bind fun t155 => (some t155)) else (some ([] : List Int)))) = some r := h
  clear h
  replace H := Option.bind_eq_some_iff.mp H
  obtain ⟨t154, A30, H⟩ := H
  replace H : (if t154 = true then ((impl_zpack.f k a0 l1).bind fun t155 => (some t155)) else (some ([] : List Int))) = some r := H
  have A3 := Aside0.mk A30
  clear A30
  by_cases c4 : t154 = true
  rotate_left
  · replace c4 := Bool.eq_false_iff.mpr c4
    subst c4
    have H1 : (some ([] : List Int)) = some r := by rw [if_neg (show ¬ (false = true) by decide)] at H; exact H
    clear H
    have H := H1
    clear H1
    obtain rfl := Option.some.inj H
    go_enter Try.func30, Try.ntmps30
    go_wp2_with (first | ((with_reducible refine gate_callee (f := 84) rfl ?_); refine goesL_ (some 7) rfl rfl Try.func84 (by kernel_rfl) rfl #[.int .i64 a0, .slice A1 l1.length c1] rfl (by (try simp only [List.map_toArray, List.map_cons, List.map_nil]); first | done | rfl | (simp only [List.length_drop, List.length_take]; rfl)) ?_; (with_reducible refine (impl_zchoices.calls k a0 _ _ l1 false _ ?side1 ?side2 A3.out).mono ?_); (case side1 => repeat (first | exact HR1.out | (with_reducible refine Kd.C_alloc ?_ _) | (with_reducible refine Kd.C_drewN ?_ _) | (with_reducible refine Kd.C_drew ?_))); (case side2 => exact HC1.out); rintro e w8 ⟨rfl, hb⟩; refine ⟨_, rfl, ?_⟩; have n0_ := Aside0.mk (below_step (by repeat (first | (with_reducible first | exact HB.out | apply below_alloc | apply pw_below_drewN | apply below_drew1) | exact HB.out)) hb); clear HB; have HB := n0_; clear n0_; (try clear hb); (try clear hb2); (try clear hk); (try clear hi)))
    go_ret
    exact ⟨_, by first | rfl | (simp [errW_none, errW_some] <;> rfl) | (simp [*, errW_none, errW_some] <;> rfl), by first | exact Kd.R_nil _ _ _ _ _ | exact Kd.N_nil _ _ _ _ _ | exact Kd.V_nil _ _ _ _ _ | exact Kd.Q_nil _ _ _ _ _ | exact Kd.S_nil _ _ _ _ _, by repeat (first | (with_reducible first | exact HB.out | apply below_alloc | apply pw_below_drewN | apply below_drew1) | exact HB.out)⟩
  subst c4
  have H1 : ((impl_zpack.f k a0 l1).bind fun t155 => (some t155)) = some r := by rw [if_pos rfl] at H; exact H
  clear H
  have H := H1
  clear H1
  replace H := Option.bind_eq_some_iff.mp H
  obtain ⟨t155, A50, H⟩ := H
  replace H : (some t155) = some r := H
  have A5 := Aside0.mk A50
  clear A50
  obtain rfl := Option.some.inj H
  go_enter Try.func30, Try.ntmps30
  go_wp2_with (first | ((with_reducible refine gate_callee (f := 84) rfl ?_); refine goesL_ (some 7) rfl rfl Try.func84 (by kernel_rfl) rfl #[.int .i64 a0, .slice A1 l1.length c1] rfl (by (try simp only [List.map_toArray, List.map_cons, List.map_nil]); first | done | rfl | (simp only [List.length_drop, List.length_take]; rfl)) ?_; (with_reducible refine (impl_zchoices.calls k a0 _ _ l1 true _ ?side1 ?side2 A3.out).mono ?_); (case side1 => repeat (first | exact HR1.out | (with_reducible refine Kd.C_alloc ?_ _) | (with_reducible refine Kd.C_drewN ?_ _) | (with_reducible refine Kd.C_drew ?_))); (case side2 => exact HC1.out); rintro e w6 ⟨rfl, hb⟩; refine ⟨_, rfl, ?_⟩; have n0_ := Aside0.mk (below_step (by repeat (first | (with_reducible first | exact HB.out | apply below_alloc | apply pw_below_drewN | apply below_drew1) | exact HB.out)) hb); clear HB; have HB := n0_; clear n0_; (try clear hb); (try clear hb2); (try clear hk); (try clear hi)) | ((with_reducible refine gate_callee (f := 85) rfl ?_); refine goesL_ (some 11) rfl rfl Try.func85 (by kernel_rfl) rfl #[.int .i64 a0, .slice A1 l1.length c1] rfl (by (try simp only [List.map_toArray, List.map_cons, List.map_nil]); first | done | rfl | (simp only [List.length_drop, List.length_take]; rfl)) ?_; (with_reducible refine (impl_zpack.calls k a0 _ _ l1 t155 _ ?side1 ?side2 A5.out).mono ?_); (case side1 => repeat (first | exact (Kd.C_below HR1.out HB.out) | (with_reducible refine Kd.C_alloc ?_ _) | (with_reducible refine Kd.C_drewN ?_ _) | (with_reducible refine Kd.C_drew ?_))); (case side2 => exact HC1.out); rintro e w7 ⟨v156, rfl, ho0, hb⟩; refine ⟨_, rfl, ?_⟩; have n0_ := Aside0.mk (Kd.R_lower ho0 (below_size (by repeat (first | (with_reducible first | exact HB.out | apply below_alloc | apply pw_below_drewN | apply below_drew1) | exact HB.out)))); have n1_ := Aside0.mk (below_step (by repeat (first | (with_reducible first | exact HB.out | apply below_alloc | apply pw_below_drewN | apply below_drew1) | exact HB.out)) hb); clear HB; have HO157 := n0_; have HB := n1_; clear n0_ n1_; (try clear hb); (try clear hb2); (try clear hk); (try clear hi); (try clear ho0)))
  go_ret
  exact ⟨_, by first | rfl | (simp [errW_none, errW_some] <;> rfl) | (simp [*, errW_none, errW_some] <;> rfl), by (with_reducible repeat (first | apply Kd.R_alloc | apply Kd.R_drewN | apply Kd.R_drew)); exact HO157.out, by repeat (first | (with_reducible first | exact HB.out | apply below_alloc | apply pw_below_drewN | apply below_drew1) | exact HB.out)⟩

/-! ### laws_eqChoice: function 86 -/
def laws_eqChoice.f (a0_0 : Int) (a0_1 : Int) (a1_0 : Int) (a1_1 : Int) : Option (Bool) := if a0_0 = a1_0 then (if a0_1 = a1_1 then (some true) else (some false)) else (some false)
set_option maxHeartbeats 8000000 in
set_option maxRecDepth 100000 in
theorem laws_eqChoice.calls (a0_0 : Int) (a0_1 : Int) (a1_0 : Int) (a1_1 : Int) (r : Bool) (w : World) (h : laws_eqChoice.f a0_0 a0_1 a1_0 a1_1 = some r) :
    Calls Try.prog 86 #[.agg #[.int .i64 a0_0, .int .i64 a0_1], .agg #[.int .i64 a1_0, .int .i64 a1_1]] w fun e w' => e = .returned (.bool r) ∧ Below w.heap.size w w' := by
  have hu108 := Try.underlying108
  have HB := Aside0.mk (Below.refl w.heap.size w)
  have H : (if a0_0 = a1_0 then (if a0_1 = a1_1 then (some true) else (some false)) else (some false)) = some r := h
  clear h
  by_cases c3 : a0_0 = a1_0
  rw [if_pos c3] at H
  have c3b0 : (a0_0 == a1_0) = true := beq_iff_eq.mpr c3
  have c3b1 : (a0_0 != a1_0) = false := bne_eq_false_iff_eq.mpr c3
  clear c3
  by_cases c4 : a0_1 = a1_1
  rw [if_pos c4] at H
  have c4b0 : (a0_1 == a1_1) = true := beq_iff_eq.mpr c4
  have c4b1 : (a0_1 != a1_1) = false := bne_eq_false_iff_eq.mpr c4
  clear c4
  obtain rfl := Option.some.inj H
  rotate_left
  rw [if_neg c4] at H
  have c4b0 : (a0_1 == a1_1) = false := beq_eq_false_iff_ne.mpr c4
  have c4b1 : (a0_1 != a1_1) = true := bne_iff_ne.mpr c4
  obtain rfl := Option.some.inj H
  rotate_left
  rw [if_neg c3] at H
  have c3b0 : (a0_0 == a1_0) = false := beq_eq_false_iff_ne.mpr c3
  have c3b1 : (a0_0 != a1_0) = true := bne_iff_ne.mpr c3
  obtain rfl := Option.some.inj H
  all_goals
    go_enter Try.func86, Try.ntmps86
    go_wp2_with (first | ((with_reducible refine gate_dst (N := 2) rfl ?_); refine box_event ?hg (N := 2) ?hd (cs := #[.int .i64 a0_0, .int .i64 a0_1]) (t := 108) ?hr ?_; (case hd => rfl); (case hg => rfl); (case hr => first | (go_simp; done) | (go_simp; rfl)); intro gb158 hg w5 hbox hb; have n0_ := Aside0.mk (below_step (by repeat (first | (with_reducible first | exact HB.out | apply below_alloc | apply pw_below_drewN | apply below_drew1) | exact HB.out)) hb); have n1_ := Aside0.mk (hbox); have n2_ := Aside0.mk ((by rw [hg]; exact (below_size (by repeat (first | (with_reducible first | exact HB.out | apply below_alloc | apply pw_below_drewN | apply below_drew1) | exact HB.out))) : w.heap.size ≤ gb158)); have n3_ := n2_; clear HB; have HB := n0_; have BK158 := n1_; have GW158 := n2_; have GE158 := n3_; clear n0_ n1_ n2_ n3_; clear hb hbox hg) | ((with_reducible refine gate_dst (N := 3) rfl ?_); refine box_event ?hg (N := 3) ?hd (cs := #[.int .i64 a1_0, .int .i64 a1_1]) (t := 108) ?hr ?_; (case hd => rfl); (case hg => rfl); (case hr => first | (go_simp; done) | (go_simp; rfl)); intro gb159 hg w6 hbox hb; have n0_ := Aside0.mk (blk_below (g := gb158) (o := .cells #[.int .i64 a0_0, .int .i64 a0_1] 108 (0, 0)) (by (with_reducible repeat (first | refine blk_drewN ?_ _ | refine blk_drew ?_ | refine blk_alloc ?_ _)); exact BK158.out) hb); have n1_ := Aside0.mk (below_step (by repeat (first | (with_reducible first | exact HB.out | apply below_alloc | apply pw_below_drewN | apply below_drew1 | refine below_set ?_ GE158.out) | exact HB.out)) hb); have n2_ := Aside0.mk (hbox); have n3_ := Aside0.mk ((by rw [hg]; exact (below_size (by repeat (first | (with_reducible first | exact HB.out | apply below_alloc | apply pw_below_drewN | apply below_drew1 | refine below_set ?_ GE158.out) | exact HB.out))) : w.heap.size ≤ gb159)); have n4_ := n3_; have n5_ := Aside0.mk ((by rw [hg]; exact Nat.ne_of_lt (blk_lt (g := gb158) (o := .cells #[.int .i64 a0_0, .int .i64 a0_1] 108 (0, 0)) (by (with_reducible repeat (first | refine blk_drewN ?_ _ | refine blk_drew ?_ | refine blk_alloc ?_ _)); exact BK158.out)) : gb158 ≠ gb159)); have n6_ := Aside0.mk ((by rw [hg]; exact Nat.ne_of_gt (blk_lt (g := gb158) (o := .cells #[.int .i64 a0_0, .int .i64 a0_1] 108 (0, 0)) (by (with_reducible repeat (first | refine blk_drewN ?_ _ | refine blk_drew ?_ | refine blk_alloc ?_ _)); exact BK158.out)) : gb159 ≠ gb158)); clear BK158; clear HB; have BK158 := n0_; have HB := n1_; have BK159 := n2_; have GW159 := n3_; have GE159 := n4_; have NB158_159 := n5_; have NB159_158 := n6_; clear n0_ n1_ n2_ n3_ n4_ n5_ n6_; clear hb hbox hg; have hnb7 := NB158_159.out; have hnc7 := NB159_158.out; have hcz8_0 : w6.cell? ⟨gb158, 0, none⟩ = some (.int .i64 a0_0) := (blk_cell BK158.out 0).trans rfl; have hcz8_1 : w6.cell? ⟨gb158, 1, none⟩ = some (.int .i64 a0_1) := (blk_cell BK158.out 1).trans rfl; have hfz8_0 := blk_frozen BK158.out 0; have hfz8_1 := blk_frozen BK158.out 1; have hcz9_0 : w6.cell? ⟨gb159, 0, none⟩ = some (.int .i64 a1_0) := (blk_cell BK159.out 0).trans rfl; have hcz9_1 : w6.cell? ⟨gb159, 1, none⟩ = some (.int .i64 a1_1) := (blk_cell BK159.out 1).trans rfl; have hfz9_0 := blk_frozen BK159.out 0; have hfz9_1 := blk_frozen BK159.out 1))
    go_ret
    exact ⟨by first | rfl | (simp [errW_none, errW_some] <;> rfl) | (simp [*, errW_none, errW_some] <;> rfl), by repeat (first | (with_reducible first | exact HB.out | apply below_alloc | apply pw_below_drewN | apply below_drew1 | refine below_set ?_ GE158.out | refine below_set ?_ GE159.out) | exact HB.out)⟩

end Go.Proofs.Ytggokppfhkebkaa.PFnExactOddsPack

-- written by myprint.py (a program of this session's over the kit's print)
import Derived.Test.YtofkbjmbohgikaaDoorPFnExactReadChunksx0
import Derived.Test.YtofkbjmbohgikaaDoorPFnExactReadChunksx2
import Derived.Test.YtofkbjmbohgikaaDoorPFnExactReadChunksx4
import Derived.Test.YtofkbjmbohgikaaDoorPFnExactReadChunksx5
namespace Go.Proofs.YtofkbjmbohgikaaDoor.PFnExactReadChunks
open Go.RowKit Go.Proofs.YtofkbjmbohgikaaDoorW.PrintWords Go.Proofs.YtofkbjmbohgikaaDoorW.PrintLast Go.Proofs.YtofkbjmbohgikaaDoorW.PrintMore
attribute [local go_sem] max2_int min2_int max_two min_two max_three min_three max_four min_four   -- for this text's walks alone
set_option linter.unusedVariables false
set_option linter.unusedSimpArgs false

/-! ### laws_markText: function 43 -/
def laws_markText.l0 : Nat → Int → ByteArray → Option (ByteArray)
  | 0, _, _ => none
  | k + 1, x0, x3 => if x0 > 0 then ((some (([(wrap64 (48 + (Int.tmod x0 10))) % 256] : List Int) : List Int)).bind fun y171 => (if (strOfNums y171).size + x3.size ≤ 9223372036854775807 then (laws_markText.l0 k (wrap64 (Int.tdiv x0 10)) ((strOfNums y171) ++ x3)) else (none))) else (if 1 + x3.size ≤ 9223372036854775807 then (some ((⟨#[109]⟩ : ByteArray) ++ x3)) else (none))
def laws_markText.f (k : Nat) (a0 : Int) : Option (ByteArray) := if a0 ≤ 0 then (some (⟨#[109, 48]⟩ : ByteArray)) else (laws_markText.l0 k a0 (⟨#[]⟩ : ByteArray))
theorem laws_markText.mono_l : ∀ k, (∀ y0 y1, LeO (laws_markText.l0 k y0 y1) (laws_markText.l0 (k + 1) y0 y1))
  | 0 => fun _ _ r h => by simp [laws_markText.l0] at h
  | k + 1 => by
    have ih0 := laws_markText.mono_l k
    · intro y0 y1
      unfold laws_markText.l0
      repeat' first
      | (with_reducible exact ih0 _ _)
      | (with_reducible exact LeO.refl _)
      | (with_reducible exact LeO.none _)
      | (with_reducible refine LeO.ite ?_ ?_)
      | (with_reducible refine LeO.bind ?_ (fun _ => ?_))
      | exact ih0 _ _
      | exact LeO.none _
      | refine LeO.ite ?_ ?_
      | refine LeO.bind ?_ (fun _ => ?_)
theorem laws_markText.mono : ∀ a0 k, LeO (laws_markText.f k a0) (laws_markText.f (k + 1) a0) := by
  intro a0 k
  have ih0 := laws_markText.mono_l k
  unfold laws_markText.f
  repeat' first
      | (with_reducible exact ih0 _ _)
      | (with_reducible exact LeO.refl _)
      | (with_reducible exact LeO.none _)
      | (with_reducible refine LeO.ite ?_ ?_)
      | (with_reducible refine LeO.bind ?_ (fun _ => ?_))
      | exact ih0 _ _
      | exact LeO.none _
      | refine LeO.ite ?_ ?_
      | refine LeO.bind ?_ (fun _ => ?_)
set_option maxHeartbeats 8000000 in
set_option maxRecDepth 100000 in
theorem laws_markText.calls (k : Nat) (a0 : Int) (r : ByteArray) (w : World) (h : laws_markText.f k a0 = some r) :
    Calls Tryd.prog 43 #[.int .i64 a0] w fun e w' => e = .returned (.string r) ∧ Below w.heap.size w w' := by
  have HB := Aside0.mk (Below.refl w.heap.size w)
  have H : (if a0 ≤ 0 then (some (⟨#[109, 48]⟩ : ByteArray)) else (laws_markText.l0 k a0 (⟨#[]⟩ : ByteArray))) = some r := h
  clear h
  by_cases c2 : a0 ≤ 0
  · rw [if_pos c2] at H
    have c2b0 : decide (a0 ≤ 0) = true := decide_eq_true c2
    clear c2
    obtain rfl := Option.some.inj H
    go_enter Tryd.func43, Tryd.ntmps43
    go_wp2
    go_ret
    exact ⟨by first | rfl | (simp [errW_none, errW_some] <;> rfl) | (simp [*, errW_none, errW_some] <;> rfl), by repeat (first | (with_reducible first | exact HB.out | apply below_alloc | apply pw_below_drewN | apply below_drew1) | exact HB.out)⟩
  rw [if_neg c2] at H
  have c2b0 : decide (a0 ≤ 0) = false := decide_eq_false c2
  clear c2
  have H' := Aside0.mk H
  clear H
  go_enter Tryd.func43, Tryd.ntmps43
  go_wp2
  go_loopg [0, 3] k (fun kq v0 v3 w' => ∃ (x0_1 : Int) (x3_1 : ByteArray), v0 = .int .i64 x0_1 ∧ v3 = .string x3_1 ∧ Aside0 (laws_markText.l0 kq x0_1 x3_1 = some r) ∧ Aside0 (kq ≤ k) ∧ Aside0 (Below w.heap.size w w'))
  case atStart => exact ⟨(a0), ((⟨#[]⟩ : ByteArray)), (by first | rfl | (simp; done) | (simp [*]; done)), (by first | rfl | (simp; done) | (simp [*]; done)), H', ⟨Nat.le_refl _⟩, ⟨by repeat (first | (with_reducible first | exact HB.out | apply below_alloc | apply pw_below_drewN | apply below_drew1) | exact HB.out)⟩⟩
  case round =>
    clear H'
    try clear c2
    try clear c2b0
    try clear p2
    obtain ⟨x0_1, x3_1, rfl, rfl, HA, HK1, HB⟩ := hrel
    cases gk with
    | zero => exact absurd HA.out (by simp [laws_markText.l0])
    | succ k1 =>
      have H := HA.out
      clear HA
      simp only [laws_markText.l0] at H
      by_cases c3 : x0_1 > 0
      rotate_left
      · rw [if_neg c3] at H
        have c3b0 : decide (0 < x0_1) = false := decide_eq_false c3
        clear c3
        by_cases c8 : 1 + x3_1.size ≤ 9223372036854775807
        rotate_left
        · rw [if_neg c8] at H
          exact absurd H (by simp)
        rw [if_pos c8] at H
        have c8b0 := eq_true c8
        have c8b1 : decide (1 + x3_1.size ≤ 9223372036854775807) = true := decide_eq_true c8
        try have c8b2 : (9223372036854775807 < 1 + x3_1.size) = False := eq_false (Nat.not_lt.2 c8)
        obtain rfl := Option.some.inj H
        go_wp2
        go_ret
        exact ⟨by first | rfl | (simp [errW_none, errW_some] <;> rfl) | (simp [*, errW_none, errW_some] <;> rfl), by repeat (first | (with_reducible first | exact HB.out | apply below_alloc | apply pw_below_drewN | apply below_drew1) | exact HB.out)⟩
      rw [if_pos c3] at H
      have c3b0 : decide (0 < x0_1) = true := decide_eq_true c3
      clear c3
      obtain ⟨y171, hy171⟩ : ∃ y_ : List Int, y_ = (([(wrap64 (48 + (Int.tmod x0_1 10))) % 256] : List Int)) := ⟨_, rfl⟩
      replace H : (if (strOfNums y171).size + x3_1.size ≤ 9223372036854775807 then (laws_markText.l0 k1 (wrap64 (Int.tdiv x0_1 10)) ((strOfNums y171) ++ x3_1)) else (none)) = some r := by first | (rw [hy171]; with_reducible exact H) | (have H2_ := (Option.bind_some _ _).symm.trans H; rw [hy171]; with_reducible exact H2_) | (have H2_ := (Option.bind_some _ _).symm.trans H; with_reducible exact H2_) | with_reducible exact H | (rw [hy171]; exact H) | exact H
      have Ny171 := Aside0.mk hy171
      clear hy171
      by_cases c4 : (strOfNums y171).size + x3_1.size ≤ 9223372036854775807
      rotate_left
      · rw [if_neg c4] at H
        exact absurd H (by simp)
      rw [if_pos c4] at H
      have c4b0 := eq_true c4
      have c4b1 : decide ((strOfNums y171).size + x3_1.size ≤ 9223372036854775807) = true := decide_eq_true c4
      try have c4b2 : (9223372036854775807 < (strOfNums y171).size + x3_1.size) = False := eq_false (Nat.not_lt.2 c4)
      have H' := Aside0.mk H
      clear H
      go_wp2_with (first | ((with_reducible refine gate_dst (N := 12) rfl ?_); refine Kd.R_lit (Kd.int .u8) _ 5 ?hg (N := 12) ?hd (xs := ([(wrap64 (48 + (Int.tmod x0_1 10))) % 256] : List Int)) (inner := [.int .u8 ((wrap64 (48 + (Int.tmod x0_1 10))) % 256)]) (ok := fun _ => True) (okp := fun _ => True) ?hr ?hp (fun _ hk => hk) trivial (Below.refl _ _) (Nat.le_refl _) (by simp) ?_; (case hd => rfl); (case hg => rfl); (case hr => first | (go_simp; done) | (go_simp; rfl)); (case hp => exact (Reps.one (show Kd.M (Kd.int .u8) _ _ _ ((wrap64 (48 + (Int.tmod x0_1 10))) % 256) [.int .u8 ((wrap64 (48 + (Int.tmod x0_1 10))) % 256)] from rfl) (Reps.none _ _))); intro v172 w5 ho6 hb hg_ hnew_; clear hg_ hnew_; (first | rw [← Ny171.out] at ho6 | (simp only [Int.reduceToNat] at ho6; rw [← Ny171.out] at ho6)); have n0_ := Aside0.mk (Kd.R_lower ho6 (below_size (by repeat (first | (with_reducible first | exact HB.out | apply below_alloc | apply pw_below_drewN | apply below_drew1) | exact HB.out)))); have n1_ := Aside0.mk (below_step (by repeat (first | (with_reducible first | exact HB.out | apply below_alloc | apply pw_below_drewN | apply below_drew1) | exact HB.out)) hb); clear HB; have HO173 := n0_; have HB := n1_; clear n0_ n1_; clear hb ho6; have hcv7 := own_string (P := Tryd.prog) Tryd.underlying22 Tryd.underlying5 Tryd.underlying9 (Kd.own_of_R HO173.out)))
      go_roundg k1
      case measure => have := HK1.out; omega
      case rel => exact ⟨(wrap64 (Int.tdiv x0_1 10)), ((strOfNums y171) ++ x3_1), (by first | rfl | (simp; done) | (simp [*]; done)), (by first | rfl | (simp; done) | (simp [*]; done)), H', ⟨by have := HK1.out; omega⟩, ⟨by repeat (first | (with_reducible first | exact HB.out | apply below_alloc | apply pw_below_drewN | apply below_drew1) | exact HB.out)⟩⟩

/-! ### laws_markChunkS: function 32 -/
def laws_markChunkS.l0 : Nat → List S46 → Int → Int → Option (Int × List S46)
  | 0, _, _, _ => none
  | k + 1, x0, x1, x5 => if x5 < (x0.length : Int) then (if 0 ≤ x5 then ((laws_markText.f k x1).bind fun s => ((laws_markByteS.f k (rd_T46 x0 x5).f1 (wrap64 (x1 + 1))).bind fun b => laws_markChunkS.l0 k (x0.set (x5 : Int).toNat (⟨s, b.2⟩ : S46)) b.1 (wrap64 (x5 + 1)))) else (none)) else (some (x1, x0))
def laws_markChunkS.f (k : Nat) (l0 : List S46) (a1 : Int) : Option (Int × List S46) := laws_markChunkS.l0 k l0 a1 0
theorem laws_markChunkS.mono_l : ∀ k, (∀ y0 y1 y2, LeO (laws_markChunkS.l0 k y0 y1 y2) (laws_markChunkS.l0 (k + 1) y0 y1 y2))
  | 0 => fun _ _ _ r h => by simp [laws_markChunkS.l0] at h
  | k + 1 => by
    have ih0 := laws_markChunkS.mono_l k
    · intro y0 y1 y2
      unfold laws_markChunkS.l0
      repeat' first
      | (with_reducible exact ih0 _ _ _)
      | (with_reducible exact laws_markText.mono _ _)
      | (with_reducible exact laws_markByteS.mono _ _ _)
      | (with_reducible exact LeO.refl _)
      | (with_reducible exact LeO.none _)
      | (with_reducible refine LeO.ite ?_ ?_)
      | (with_reducible refine LeO.bind ?_ (fun _ => ?_))
      | exact ih0 _ _ _
      | exact laws_markText.mono _ _
      | exact laws_markByteS.mono _ _ _
      | exact LeO.none _
      | refine LeO.ite ?_ ?_
      | refine LeO.bind ?_ (fun _ => ?_)
theorem laws_markChunkS.mono : ∀ a0 a1 k, LeO (laws_markChunkS.f k a0 a1) (laws_markChunkS.f (k + 1) a0 a1) := by
  intro a0 a1 k
  have ih0 := laws_markChunkS.mono_l k
  unfold laws_markChunkS.f
  repeat' first
      | (with_reducible exact ih0 _ _ _)
      | (with_reducible exact laws_markText.mono _ _)
      | (with_reducible exact laws_markByteS.mono _ _ _)
      | (with_reducible exact LeO.refl _)
      | (with_reducible exact LeO.none _)
      | (with_reducible refine LeO.ite ?_ ?_)
      | (with_reducible refine LeO.bind ?_ (fun _ => ?_))
      | exact ih0 _ _ _
      | exact laws_markText.mono _ _
      | exact laws_markByteS.mono _ _ _
      | exact LeO.none _
      | refine LeO.ite ?_ ?_
      | refine LeO.bind ?_ (fun _ => ?_)
set_option maxHeartbeats 8000000 in
set_option maxRecDepth 100000 in
theorem laws_markChunkS.calls (k : Nat) (P0_ : Nat → Prop) (u9000_ : Value) (l0 : List S46) (a1 : Int) (r1 : Int) (r2 : List S46) (w0 w : World) (hB : Below w0.heap.size w0 w) (ho0 : Kd.S k46 46 w w0.heap.size P0_ u9000_ l0) (h : laws_markChunkS.f k l0 a1 = some (r1, r2)) :
    Calls Tryd.prog 32 #[u9000_, .int .i64 a1] w fun e w' => e = .returned (.int .i64 r1) ∧ Kd.S k46 46 w' w0.heap.size (fun k_ => (P0_ k_ ∨ w.heap.size ≤ k_)) u9000_ r2 ∧ Below w0.heap.size w0 w' ∧ Kept w w' (fun k_ => P0_ k_) := by
  have hu := Tryd.underlying46
  have HO0 := Aside0.mk (show Kd.S k46 46 w w0.heap.size (fun k_ => (P0_ k_ ∨ w.heap.size ≤ k_)) u9000_ l0 from Kd.S_mono ho0 (fun k_ hk => (.inl hk)))
  have HK := Aside0.mk (Kept.refl w (fun k_ => P0_ k_))
  have HB := Aside0.mk hB
  clear hB ho0
  have H' := Aside0.mk (show laws_markChunkS.l0 k l0 a1 0 = some (r1, r2) from h)
  clear h
  go_enter Tryd.func32, Tryd.ntmps32
  go_wp2
  go_loopg [1, 5] k (fun kq v1 v5 w' => ∃ (x0_1 : List S46) (x1_1 : Int) (x5_1 : Int), v1 = .int .i64 x1_1 ∧ v5 = .int .i64 x5_1 ∧ Aside0 (laws_markChunkS.l0 kq x0_1 x1_1 x5_1 = some (r1, r2)) ∧ Aside0 (kq ≤ k) ∧ Aside0 (Kd.S k46 46 w' w0.heap.size (fun k_ => (P0_ k_ ∨ w.heap.size ≤ k_)) u9000_ x0_1) ∧ Aside0 (Kept w w' (fun k_ => P0_ k_)) ∧ Aside0 (Below w0.heap.size w0 w'))
  case atStart => exact ⟨l0, a1, 0, rfl, rfl, H', ⟨Nat.le_refl _⟩, HO0, HK, HB⟩
  case round =>
    clear H' HO0
    obtain ⟨x0_1, x1_1, x5_1, rfl, rfl, HA, HK1, HO_0, HK, HB⟩ := hrel
    cases gk with
    | zero => exact absurd HA.out (by simp [laws_markChunkS.l0])
    | succ k1 =>
      have H := HA.out
      clear HA
      simp only [laws_markChunkS.l0] at H
      by_cases c3 : x5_1 < (x0_1.length : Int)
      rotate_left
      · rw [if_neg c3] at H
        have c3b0 : decide (x5_1 < (x0_1.length : Int)) = false := decide_eq_false c3
        clear c3
        simp only [Option.some.injEq, Prod.mk.injEq] at H
        obtain ⟨rfl, rfl⟩ := H
        obtain ⟨Ao9, co9, eo9⟩ := Kd.S_slice HO_0.out
        subst eo9
        go_wp2
        go_ret
        exact ⟨rfl, HO_0.out, HB.out, HK.out⟩
      rw [if_pos c3] at H
      have c3b0 : decide (x5_1 < (x0_1.length : Int)) = true := decide_eq_true c3
      by_cases c4 : 0 ≤ x5_1
      rotate_left
      · rw [if_neg c4] at H
        exact absurd H (by simp)
      rw [if_pos c4] at H
      have c4b0 : decide (0 ≤ x5_1) = true := decide_eq_true c4
      obtain ⟨z, hz⟩ : ∃ z_ : S46, rd_T46 x0_1 x5_1 = z_ := ⟨_, rfl⟩
      rw [hz] at H
      replace H := Option.bind_eq_some_iff.mp H
      obtain ⟨s, A20, H⟩ := H
      have A2 := Aside0.mk A20
      clear A20
      replace H := Option.bind_eq_some_iff.mp H
      obtain ⟨⟨t1, t2⟩, A30, H⟩ := H
      have A3 := Aside0.mk A30
      clear A30
      have H' := Aside0.mk (show laws_markChunkS.l0 k1 (x0_1.set (x5_1 : Int).toNat (⟨s, t2⟩ : S46)) t1 (wrap64 (x5_1 + 1)) = some (r1, r2) from H)
      clear H
      obtain ⟨g5, co5, eo5, gb5, gl5, cl5, HG5⟩ := Kd.S_form HO_0.out (by omega)
      subst eo5
      obtain ⟨oki, cs, hcl, hM, hcc, hfr, hoki, hH⟩ := Kd.S_elem HO_0.out z46 x5_1 c4 (by exact c3)
      rw [show x0_1.getD (x5_1 : Int).toNat z46 = z from hz] at hM
      clear hz
      obtain ⟨v5, rfl, hR⟩ := k46_openM hM
      have hx_0 : wr.cell? ⟨g5, (x5_1 : Int).toNat * 2, none⟩ = some (.string z.f0) := hcc 0 _ rfl
      have hx_1 : wr.cell? ⟨g5, (x5_1 : Int).toNat * 2 + 1, none⟩ = some (v5) := hcc 1 _ rfl
      have hf_0 : wr.frozen? ⟨g5, (x5_1 : Int).toNat * 2, none⟩ = false := hfr 0
      have HR := Aside0.mk hR
      have HH := Aside0.mk hH
      have HOK := Aside0.mk hoki
      have HMg := Aside0.mk (show (P0_ g5 ∨ w.heap.size ≤ g5) from (Kd.S_R HO_0.out).1 _ rfl)
      clear hM hcc hfr hcl hR hH hoki HO_0 HG5 cl5
      obtain ⟨Ai, ci, ei⟩ := Kd.R_slice HR.out
      subst ei
      have C3 := Aside0.mk c3
      have C4 := Aside0.mk c4
      have OKB := Aside0.mk (show wr.heap.size ≤ wr.heap.size from Nat.le_refl _)
      replace c3 := eq_true c3
      replace c4 := eq_true c4
      have GB := Aside0.mk gb5
      clear gb5 gl5
      go_upto_region 5 with (first | ((with_reducible refine gate_callee (f := 43) rfl ?_); refine goesL_ (some 15) rfl rfl Tryd.func43 (by kernel_rfl) rfl #[.int .i64 x1_1] rfl (by (try simp only [List.map_toArray, List.map_cons, List.map_nil]); first | done | rfl) ?_; (with_reducible refine (laws_markText.calls k1 x1_1 s _ A2.out).mono ?_); rintro e wm ⟨rfl, hb⟩; refine ⟨_, rfl, ?_⟩; have n1_ := Aside0.mk (Kd.H_kept HH.out (Kept.of_below hb (fun _ => False)) (fun _ _ _ hs_ => hs_)); have n2_ := Aside0.mk (Kd.R_below HR.out hb); have n3_ := Aside0.mk (Kept.then_ HK.out (Kept.of_below hb (fun _ => False)) (fun _ hs_ => hs_.elim)); have n4_ := Aside0.mk (below_step HB.out hb); have WS := Aside0.mk hb.size; clear HH HR HK HB hx_0 hx_1 hf_0 hb; have HH := n1_; have HR := n2_; have HK := n3_; have HB := n4_; clear n1_ n2_ n3_ n4_; obtain ⟨ha_, hz_⟩ := Kd.H_at HH.out C4.out C3.out; have hx_0 : wm.cell? ⟨g5, (x5_1 : Int).toNat * 2, none⟩ = some (.string z.f0) := ha_ 0 _ rfl; have hx_1 : wm.cell? ⟨g5, (x5_1 : Int).toNat * 2 + 1, none⟩ = some (.slice Ai z.f1.length ci) := ha_ 1 _ rfl; have hf_0 : wm.frozen? ⟨g5, (x5_1 : Int).toNat * 2, none⟩ = false := hz_ 0; clear ha_ hz_))
      have hseg := Kd.H_seg HH.out C4.out C3.out (seg := [.string s]) (j := 0) (show 0 + 1 ≤ 2 from by decide) (by simp [Value.oneCell'])
      rw [show World.setCells wm g5 ((x5_1 : Int).toNat * (k46).sz + 0) [.string s] = World.setCell wm ⟨g5, (x5_1 : Int).toNat * 2, none⟩ (.string s) from rfl] at hseg
      have hbs : Below w0.heap.size w0 (World.setCell wm ⟨g5, (x5_1 : Int).toNat * 2, none⟩ (.string s)) := below_set HB.out GB.out
      have hy_0 : World.cell? (World.setCell wm ⟨g5, (x5_1 : Int).toNat * 2, none⟩ (.string s)) ⟨g5, (x5_1 : Int).toNat * 2, none⟩ = some (.string s) := by go_simp
      have hy_1 : World.cell? (World.setCell wm ⟨g5, (x5_1 : Int).toNat * 2, none⟩ (.string s)) ⟨g5, (x5_1 : Int).toNat * 2 + 1, none⟩ = some (.slice Ai z.f1.length ci) := by go_simp
      generalize World.setCell wm ⟨g5, (x5_1 : Int).toNat * 2, none⟩ (.string s) = wr0 at hseg hbs hy_0 hy_1 ⊢
      obtain ⟨hH, hgr⟩ := hseg
      have n1_ := Aside0.mk (show Kd.H k46 46 wr0 w0.heap.size (fun k_ => (P0_ k_ ∨ w.heap.size ≤ k_)) (.slice (some ⟨g5, 0, none⟩) x0_1.length co5) x0_1 x5_1 oki [.string s, .slice Ai z.f1.length ci] from hH)
      have n2_ := Aside0.mk (Kd.R_grown HR.out hgr (fun k_ hk he => (HOK.out k_ hk).2 (Option.some.inj he)))
      have n3_ := Aside0.mk (Kept.of_grown hgr HK.out (fun k_ he => (Option.some.inj he) ▸ HMg.out))
      have n4_ := Aside0.mk hbs
      have WS0 := Aside0.mk (show wm.heap.size ≤ wr0.heap.size from hgr.size)
      clear hH hgr hbs HH HR HK HB hx_0 hx_1 hf_0
      have HH := n1_
      have HR := n2_
      have HK := n3_
      have HB := n4_
      clear n1_ n2_ n3_ n4_
      have hx_0 := hy_0
      have hx_1 := hy_1
      clear hy_0 hy_1
      go_wp2_with (first | ((with_reducible refine gate_callee (f := 10) rfl ?_); refine goesL_ (some 26) rfl rfl Tryd.func10 (by kernel_rfl) rfl #[.slice Ai z.f1.length ci, .int .i64 (wrap64 (x1_1 + 1))] rfl (by (try simp only [List.map_toArray, List.map_cons, List.map_nil]); first | done | rfl) ?_; (with_reducible refine (laws_markByteS.calls k1 oki (.slice Ai z.f1.length ci) z.f1 (wrap64 (x1_1 + 1)) t1 t2 w0 wr0 HB.out HR.out A3.out).mono ?_); rintro e w9 ⟨rfl, hR9, hB9, hK9⟩; refine ⟨_, rfl, ?_⟩; have HR9 := Aside0.mk hR9; have HB9 := Aside0.mk hB9; have HK9 := Aside0.mk hK9; clear hR9 hB9 hK9))
      have HS9 : Aside0 (Kd.S k46 46 w9 w0.heap.size (fun k_ => (P0_ k_ ∨ w.heap.size ≤ k_)) (.slice (some ⟨g5, 0, none⟩) x0_1.length co5) (x0_1.set (x5_1 : Int).toNat (⟨s, t2⟩ : S46))) := ⟨by
        have hH9 := Kd.H_kept (Kd.H_widen HH.out) HK9.out (fun k_ _ hn hs => hn (.inl hs))
        refine Kd.H_back hH9 (okp := fun k_ => oki k_ ∨ wr0.heap.size ≤ k_) (k46_mkM _ _ _ (⟨s, t2⟩ : S46) HR9.out) (fun k_ hk => hk.elim .inl (fun hge => .inr ⟨.inr (Nat.le_trans HK.out.1 hge), hge⟩))⟩
      have HK' := Aside0.mk (Kept.then_ HK.out HK9.out (fun k_ hk => (HOK.out k_ hk).1))
      clear HK HB HR9 HK9 HH HR HOK
      have HB := HB9
      have HK := HK'
      clear HB9 HK'
      go_roundg k1
      case measure => have := HK1.out; omega
      case rel => exact ⟨x0_1.set (x5_1 : Int).toNat (⟨s, t2⟩ : S46), t1, wrap64 (x5_1 + 1), (by first | rfl | (simp; done)), (by first | rfl | (simp; done) | (simp [*]; done)), H', ⟨by have := HK1.out; omega⟩, ⟨by simpa using HS9.out⟩, HK, HB⟩

/-! ### laws_markChunkRes: function 11 -/
def laws_markChunkRes.f (k : Nat) (l1 : List S46) (a1 : Int) : Option (Int × List S46) := laws_markChunkS.f k l1 a1
theorem laws_markChunkRes.mono : ∀ a0 a1 k, LeO (laws_markChunkRes.f k a0 a1) (laws_markChunkRes.f (k + 1) a0 a1) := by
  intro a0 a1 k
  unfold laws_markChunkRes.f
  repeat' first
      | (with_reducible exact laws_markChunkS.mono _ _ _)
      | (with_reducible exact LeO.refl _)
      | (with_reducible exact LeO.none _)
      | (with_reducible refine LeO.ite ?_ ?_)
      | (with_reducible refine LeO.bind ?_ (fun _ => ?_))
      | exact laws_markChunkS.mono _ _ _
      | exact LeO.none _
      | refine LeO.ite ?_ ?_
      | refine LeO.bind ?_ (fun _ => ?_)
set_option maxHeartbeats 8000000 in
set_option maxRecDepth 100000 in
theorem laws_markChunkRes.calls (k : Nat) (a0_0 : Int) (P1_ : Nat → Prop) (u1 : Value) (l1 : List S46) (a1 r : Int) (r1 : List S46) (w0 w : World) (hB : Below w0.heap.size w0 w) (ho1 : Kd.S k46 46 w w0.heap.size P1_ u1 l1) (h : laws_markChunkRes.f k l1 a1 = some (r, r1)) :
    Calls Tryd.prog 11 #[.agg #[.int .i64 a0_0, u1], .int .i64 a1] w fun e w' => e = .returned (.int .i64 r) ∧ Kd.S k46 46 w' w0.heap.size (fun k_ => P1_ k_ ∨ w.heap.size ≤ k_) u1 r1 ∧ Below w0.heap.size w0 w' ∧ Kept w w' (fun k_ => P1_ k_) := by
  have hu := Tryd.underlying25
  obtain ⟨A1, c1, e1⟩ := Kd.S_slice ho1
  subst e1
  have HO1 := Aside0.mk (Kd.S_mono (Kd.S_bound ho1) (ok' := fun k_ => P1_ k_ ∧ k_ < w.heap.size) (fun k_ hk => ⟨hk.1, hk.2.2.1⟩))
  have HB := Aside0.mk hB
  clear ho1 hB
  have E2 := Aside0.mk (show laws_markChunkS.f k l1 a1 = some (r, r1) from h)
  clear h
  go_enter Tryd.func11, Tryd.ntmps11
  go_wp2_with (first | ((with_reducible refine gate_dst (N := 2) rfl ?_); refine box_event ?hg (N := 2) ?hd (cs := #[.int .i64 a0_0, .slice A1 l1.length c1]) (t := 25) ?hr ?_; (case hd => rfl); (case hg => rfl); (case hr => first | (go_simp; done) | (go_simp; rfl)); intro g2 hg w1 hbox hb; have BK := Aside0.mk hbox; have HB1 := Aside0.mk hb; have n1 := Aside0.mk (Kd.S_below HO1.out hb); have nB := Aside0.mk (below_step HB.out hb); clear hg hbox hb HO1; have hcz0 : w1.cell? ⟨g2, 0, none⟩ = some (.int .i64 a0_0) := (blk_cell BK.out 0).trans rfl; have hcz1 : w1.cell? ⟨g2, 1, none⟩ = some (.slice A1 l1.length c1) := (blk_cell BK.out 1).trans rfl) | ((with_reducible refine gate_callee (f := 32) rfl ?_); refine goesL_ (some 8) rfl rfl Tryd.func32 (by kernel_rfl) rfl #[.slice A1 l1.length c1, .int .i64 a1] rfl (by (try simp only [List.map_toArray, List.map_cons, List.map_nil]); first | done | rfl) ?_; (with_reducible refine (laws_markChunkS.calls k (fun k_ => P1_ k_ ∧ k_ < w.heap.size) (.slice A1 l1.length c1) l1 a1 r r1 w0 w1 nB.out n1.out E2.out).mono ?_); rintro e w2 ⟨rfl, ho, hb, hk⟩; refine ⟨_, rfl, ?_⟩; have z1 := Aside0.mk ho; have HB2 := Aside0.mk hb; have HK2 := Aside0.mk hk; clear ho hb hk hcz0 hcz1 BK n1))
  go_ret
  have s1 := HB1.out.size
  refine ⟨rfl, Kd.S_mono z1.out (fun k_ h_ => h_.elim (fun h_ => .inl h_.1) (fun h_ => .inr (by omega))), HB2.out, ?_⟩
  exact (Kept.of_below HB1.out _).then_ HK2.out (fun k_ h_ => .inl h_.1)

/-! ### laws_heldByteS: function 44 -/
def laws_heldByteS.l0 : Nat → List Int → Int → Int → Option (Int)
  | 0, _, _, _ => none
  | k + 1, x0, x1, x5 => if x5 < (x0.length : Int) then (if 0 ≤ x5 then (if (rd x0 x5) = ((x1) % 256) then (laws_heldByteS.l0 k x0 (wrap64 (x1 + 1)) (wrap64 (x5 + 1))) else (some (-1))) else (none)) else (some x1)
def laws_heldByteS.f (k : Nat) (l0 : List Int) (a1 : Int) : Option (Int) := laws_heldByteS.l0 k l0 a1 0
theorem laws_heldByteS.mono_l : ∀ k, (∀ y0 y1 y2, LeO (laws_heldByteS.l0 k y0 y1 y2) (laws_heldByteS.l0 (k + 1) y0 y1 y2))
  | 0 => fun _ _ _ r h => by simp [laws_heldByteS.l0] at h
  | k + 1 => by
    have ih0 := laws_heldByteS.mono_l k
    · intro y0 y1 y2
      unfold laws_heldByteS.l0
      repeat' first
      | (with_reducible exact ih0 _ _ _)
      | (with_reducible exact LeO.refl _)
      | (with_reducible exact LeO.none _)
      | (with_reducible refine LeO.ite ?_ ?_)
      | (with_reducible refine LeO.bind ?_ (fun _ => ?_))
      | exact ih0 _ _ _
      | exact LeO.none _
      | refine LeO.ite ?_ ?_
      | refine LeO.bind ?_ (fun _ => ?_)
theorem laws_heldByteS.mono : ∀ a0 a1 k, LeO (laws_heldByteS.f k a0 a1) (laws_heldByteS.f (k + 1) a0 a1) := by
  intro a0 a1 k
  have ih0 := laws_heldByteS.mono_l k
  unfold laws_heldByteS.f
  repeat' first
      | (with_reducible exact ih0 _ _ _)
      | (with_reducible exact LeO.refl _)
      | (with_reducible exact LeO.none _)
      | (with_reducible refine LeO.ite ?_ ?_)
      | (with_reducible refine LeO.bind ?_ (fun _ => ?_))
      | exact ih0 _ _ _
      | exact LeO.none _
      | refine LeO.ite ?_ ?_
      | refine LeO.bind ?_ (fun _ => ?_)
set_option maxHeartbeats 8000000 in
set_option maxRecDepth 100000 in
theorem laws_heldByteS.calls (k : Nat) (A0 : Option Addr) (c0 : Nat) (l0 : List Int) (a1 : Int) (r : Int) (w : World) (hr0 : Kd.C (Kd.int .u8) w A0 l0.length l0) (hc0 : l0.length ≤ c0) (h : laws_heldByteS.f k l0 a1 = some r) :
    Calls Tryd.prog 44 #[.slice A0 l0.length c0, .int .i64 a1] w fun e w' => e = .returned (.int .i64 r) ∧ Drawn0 w w' := by
  have HR0 := Aside0.mk hr0
  have HC0 := Aside0.mk hc0
  clear hr0 hc0
  have H : (laws_heldByteS.l0 k l0 a1 0) = some r := h
  clear h
  have H' := Aside0.mk H
  clear H
  go_enter Tryd.func44, Tryd.ntmps44
  go_wp2
  go_loopg [1, 5] k (fun kq v1 v5 w' => ∃ (x1_1 : Int) (x5_1 : Int), v1 = .int .i64 x1_1 ∧ v5 = .int .i64 x5_1 ∧ Aside0 (laws_heldByteS.l0 kq l0 x1_1 x5_1 = some r) ∧ Aside0 (kq ≤ k) ∧ Drawn0 w w')
  case atStart => exact ⟨(a1), (0), (by first | rfl | (simp; done) | (simp [*]; done)), (by first | rfl | (simp; done) | (simp [*]; done)), H', ⟨Nat.le_refl _⟩, by repeat (first | exact Drawn0.refl _ | apply Drawn0.step)⟩
  case round =>
    clear H'
    try clear p2
    obtain ⟨x1_1, x5_1, rfl, rfl, HA, HK1, ⟨m1, rfl⟩⟩ := hrel
    cases gk with
    | zero => exact absurd HA.out (by simp [laws_heldByteS.l0])
    | succ k1 =>
      have H := HA.out
      clear HA
      simp only [laws_heldByteS.l0] at H
      by_cases c3 : x5_1 < (l0.length : Int)
      · rw [if_pos c3] at H
        have c3b0 : decide (x5_1 < (l0.length : Int)) = true := decide_eq_true c3
        clear c3
        by_cases c4 : 0 ≤ x5_1
        · rw [if_pos c4] at H
          have c4b0 : decide (0 ≤ x5_1) = true := decide_eq_true c4
          clear c4
          by_cases c5 : (rd l0 x5_1) = ((x1_1) % 256)
          · rw [if_pos c5] at H
            have c5b0 : ((rd l0 x5_1) == ((x1_1) % 256)) = true := beq_iff_eq.mpr c5
            have c5b1 : ((rd l0 x5_1) != ((x1_1) % 256)) = false := bne_eq_false_iff_eq.mpr c5
            clear c5
            have H' := Aside0.mk H
            clear H
            have p174 : 0 ≤ (x5_1 : Int) := of_decide_eq_true (by first | (with_reducible assumption) | assumption)
            have q174 : x5_1 < (l0.length : Int) := of_decide_eq_true (by first | (with_reducible assumption) | assumption)
            obtain ⟨ad174, e174, hx174_0⟩ := Kd.at_int HR0.out x5_1 p174 q174
            cases e174
            replace p174 := eq_true p174
            replace q174 := eq_true q174
            go_wp2
            go_roundg k1
            case measure => have := HK1.out; omega
            case rel => exact ⟨(wrap64 (x1_1 + 1)), (wrap64 (x5_1 + 1)), (by first | rfl | (simp; done) | (simp [*]; done)), (by first | rfl | (simp; done) | (simp [*]; done)), H', ⟨by have := HK1.out; omega⟩, by repeat (first | exact Drawn0.refl _ | apply Drawn0.step)⟩
          · rw [if_neg c5] at H
            have c5b0 : ((rd l0 x5_1) == ((x1_1) % 256)) = false := beq_eq_false_iff_ne.mpr c5
            have c5b1 : ((rd l0 x5_1) != ((x1_1) % 256)) = true := bne_iff_ne.mpr c5
            obtain rfl := Option.some.inj H
            have p174 : 0 ≤ (x5_1 : Int) := of_decide_eq_true (by first | (with_reducible assumption) | assumption)
            have q174 : x5_1 < (l0.length : Int) := of_decide_eq_true (by first | (with_reducible assumption) | assumption)
            obtain ⟨ad174, e174, hx174_0⟩ := Kd.at_int HR0.out x5_1 p174 q174
            cases e174
            replace p174 := eq_true p174
            replace q174 := eq_true q174
            go_wp2
            go_ret
            exact ⟨by first | rfl | (simp; done) | (simp [*]; done), by repeat (first | exact Drawn0.refl _ | apply Drawn0.step)⟩
        · rw [if_neg c4] at H
          exact absurd H (by simp)
      · rw [if_neg c3] at H
        have c3b0 : decide (x5_1 < (l0.length : Int)) = false := decide_eq_false c3
        clear c3
        obtain rfl := Option.some.inj H
        go_wp2
        go_ret
        exact ⟨by first | rfl | (simp; done) | (simp [*]; done), by repeat (first | exact Drawn0.refl _ | apply Drawn0.step)⟩

/-! ### laws_heldChunkS: function 33 -/
def laws_heldChunkS.l0 : Nat → List (S46) → Int → Int → Option (Int)
  | 0, _, _, _ => none
  | k + 1, x0, x1, x5 => if x5 < (x0.length : Int) then (if 0 ≤ x5 then ((laws_markText.f k x1).bind fun t176 => (if ((rd_T46 x0 x5).f0).toList = t176.toList then ((laws_heldByteS.f k ((rd_T46 x0 x5).f1) (wrap64 (x1 + 1))).bind fun t178 => (if t178 < 0 then (some (-1)) else (laws_heldChunkS.l0 k x0 t178 (wrap64 (x5 + 1))))) else (some (-1)))) else (none)) else (some x1)
def laws_heldChunkS.f (k : Nat) (l0 : List (S46)) (a1 : Int) : Option (Int) := laws_heldChunkS.l0 k l0 a1 0
theorem laws_heldChunkS.mono_l : ∀ k, (∀ y0 y1 y2, LeO (laws_heldChunkS.l0 k y0 y1 y2) (laws_heldChunkS.l0 (k + 1) y0 y1 y2))
  | 0 => fun _ _ _ r h => by simp [laws_heldChunkS.l0] at h
  | k + 1 => by
    have ih0 := laws_heldChunkS.mono_l k
    · intro y0 y1 y2
      unfold laws_heldChunkS.l0
      repeat' first
      | (with_reducible exact ih0 _ _ _)
      | (with_reducible exact laws_heldByteS.mono _ _ _)
      | (with_reducible exact laws_markText.mono _ _)
      | (with_reducible exact LeO.refl _)
      | (with_reducible exact LeO.none _)
      | (with_reducible refine LeO.ite ?_ ?_)
      | (with_reducible refine LeO.bind ?_ (fun _ => ?_))
      | exact ih0 _ _ _
      | exact laws_heldByteS.mono _ _ _
      | exact laws_markText.mono _ _
      | exact LeO.none _
      | refine LeO.ite ?_ ?_
      | refine LeO.bind ?_ (fun _ => ?_)
theorem laws_heldChunkS.mono : ∀ a0 a1 k, LeO (laws_heldChunkS.f k a0 a1) (laws_heldChunkS.f (k + 1) a0 a1) := by
  intro a0 a1 k
  have ih0 := laws_heldChunkS.mono_l k
  unfold laws_heldChunkS.f
  repeat' first
      | (with_reducible exact ih0 _ _ _)
      | (with_reducible exact laws_heldByteS.mono _ _ _)
      | (with_reducible exact laws_markText.mono _ _)
      | (with_reducible exact LeO.refl _)
      | (with_reducible exact LeO.none _)
      | (with_reducible refine LeO.ite ?_ ?_)
      | (with_reducible refine LeO.bind ?_ (fun _ => ?_))
      | exact ih0 _ _ _
      | exact laws_heldByteS.mono _ _ _
      | exact laws_markText.mono _ _
      | exact LeO.none _
      | refine LeO.ite ?_ ?_
      | refine LeO.bind ?_ (fun _ => ?_)
def laws_heldChunkS.T4 : Bool × List (List Nat × List Nat) := (true, [([], []), ([], []), ([0, 1], [0, 1]), ([2], [2]), ([3], [3]), ([], []), ([5], [5]), ([4, 6], [4, 6])])
def laws_heldChunkS.B4 : List Nat := [0, 0, 3, 7, 15, 0, 32, 127]
theorem laws_heldChunkS.tab4 : rtab .any (opsOf Tryd.f33 4) = laws_heldChunkS.T4 := by kernel_rfl
theorem laws_heldChunkS.bits4 : waitsOk laws_heldChunkS.T4.2 laws_heldChunkS.B4 = true := by kernel_rfl
set_option maxHeartbeats 8000000 in
set_option maxRecDepth 100000 in
theorem laws_heldChunkS.calls (k : Nat) (A0 : Option Addr) (c0 : Nat) (l0 : List (S46)) (a1 : Int) (r : Int) (w : World) (hr0 : Kd.C k46 w A0 l0.length l0) (hc0 : l0.length ≤ c0) (h : laws_heldChunkS.f k l0 a1 = some r) :
    Calls Tryd.prog 33 #[.slice A0 l0.length c0, .int .i64 a1] w fun e w' => e = .returned (.int .i64 r) ∧ Below w.heap.size w w' := by
  have HR0 := Aside0.mk hr0
  have HC0 := Aside0.mk hc0
  clear hr0 hc0
  have HB := Aside0.mk (Below.refl w.heap.size w)
  have H : (laws_heldChunkS.l0 k l0 a1 0) = some r := h
  clear h
  have H' := Aside0.mk H
  clear H
  go_enter Tryd.func33, Tryd.ntmps33
  go_wp2
  go_loopg [1, 5] k (fun kq v1 v5 w' => ∃ (x1_1 : Int) (x5_1 : Int), v1 = .int .i64 x1_1 ∧ v5 = .int .i64 x5_1 ∧ Aside0 (laws_heldChunkS.l0 kq l0 x1_1 x5_1 = some r) ∧ Aside0 (kq ≤ k) ∧ Aside0 (Below w.heap.size w w'))
  case atStart => exact ⟨(a1), (0), (by first | rfl | (simp; done) | (simp [*]; done)), (by first | rfl | (simp; done) | (simp [*]; done)), H', ⟨Nat.le_refl _⟩, ⟨by repeat (first | (with_reducible first | exact HB.out | apply below_alloc | apply pw_below_drewN | apply below_drew1) | exact HB.out)⟩⟩
  case round =>
    clear H'
    try clear p2
    obtain ⟨x1_1, x5_1, rfl, rfl, HA, HK1, HB⟩ := hrel
    cases gk with
    | zero => exact absurd HA.out (by simp [laws_heldChunkS.l0])
    | succ k1 =>
      have H := HA.out
      clear HA
      simp only [laws_heldChunkS.l0] at H
      by_cases c3 : x5_1 < (l0.length : Int)
      rotate_left
      · rw [if_neg c3] at H
        have c3b0 : decide (x5_1 < (l0.length : Int)) = false := decide_eq_false c3
        clear c3
        obtain rfl := Option.some.inj H
        go_wp2
        go_ret
        exact ⟨by first | rfl | (simp [errW_none, errW_some] <;> rfl) | (simp [*, errW_none, errW_some] <;> rfl), by repeat (first | (with_reducible first | exact HB.out | apply below_alloc | apply pw_below_drewN | apply below_drew1) | exact HB.out)⟩
      rw [if_pos c3] at H
      have c3b0 : decide (x5_1 < (l0.length : Int)) = true := decide_eq_true c3
      clear c3
      by_cases c4 : 0 ≤ x5_1
      rotate_left
      · rw [if_neg c4] at H
        exact absurd H (by simp)
      rw [if_pos c4] at H
      have c4b0 : decide (0 ≤ x5_1) = true := decide_eq_true c4
      clear c4
      replace H := Option.bind_eq_some_iff.mp H
      obtain ⟨t176, A50, H⟩ := H
      replace H : (if ((rd_T46 l0 x5_1).f0).toList = t176.toList then ((laws_heldByteS.f k1 ((rd_T46 l0 x5_1).f1) (wrap64 (x1_1 + 1))).bind fun t178 => (if t178 < 0 then (some (-1)) else (laws_heldChunkS.l0 k1 l0 t178 (wrap64 (x5_1 + 1))))) else (some (-1))) = some r := H
      have A5 := Aside0.mk A50
      clear A50
      by_cases c6 : ((rd_T46 l0 x5_1).f0).toList = t176.toList
      rw [if_pos c6] at H
      have c6b0 : (((rd_T46 l0 x5_1).f0).toList == t176.toList) = true := beq_iff_eq.mpr c6
      have c6b1 : (((rd_T46 l0 x5_1).f0).toList != t176.toList) = false := bne_eq_false_iff_eq.mpr c6
      clear c6
      replace H := Option.bind_eq_some_iff.mp H
      obtain ⟨t178, A70, H⟩ := H
      replace H : (if t178 < 0 then (some (-1)) else (laws_heldChunkS.l0 k1 l0 t178 (wrap64 (x5_1 + 1)))) = some r := H
      have A7 := Aside0.mk A70
      clear A70
      by_cases c8 : t178 < 0
      rw [if_pos c8] at H
      have c8b0 : decide (t178 < 0) = true := decide_eq_true c8
      clear c8
      obtain rfl := Option.some.inj H
      rotate_left
      rw [if_neg c8] at H
      have c8b0 : decide (t178 < 0) = false := decide_eq_false c8
      clear c8
      have H' := Aside0.mk H
      clear H
      rotate_left
      rw [if_neg c6] at H
      have c6b0 : (((rd_T46 l0 x5_1).f0).toList == t176.toList) = false := beq_eq_false_iff_ne.mpr c6
      have c6b1 : (((rd_T46 l0 x5_1).f0).toList != t176.toList) = true := bne_iff_ne.mpr c6
      obtain rfl := Option.some.inj H
      all_goals
        try go_wp2
        have n0_ := Aside0.mk (below_drew1 HB.out)
        clear HB
        have HB := n0_
        clear n0_
        have p175 : 0 ≤ (x5_1 : Int) := of_decide_eq_true (by first | (with_reducible assumption) | assumption)
        have q175 : x5_1 < (l0.length : Int) := of_decide_eq_true (by first | (with_reducible assumption) | assumption)
        obtain ⟨ad175, A175_1, c175_1, e175, hx175_0, hx175_1, hl175_1, hi175_1⟩ := at_T46 HR0.out x5_1 p175 q175
        have hw175_1 := hx175_1
        have hw175_0 := hx175_0
        cases e175
        replace hx175_0 := (HB.out.cell (World.block_lt_of_cell? w _ hx175_0)).trans hx175_0
        replace hx175_1 := (HB.out.cell (World.block_lt_of_cell? w _ hx175_1)).trans hx175_1
        have HR175_1 := Aside0.mk hi175_1
        have HC175_1 := Aside0.mk hl175_1
        clear hi175_1 hl175_1
        replace p175 := eq_true p175
        replace q175 := eq_true q175
        refine start_ (n := 8) (S := fun w' => w'.cell? (ad175.add ((x5_1).toNat * 2)) = some (.string ((rd_T46 l0 x5_1).f0)) ∧ w'.cell? ⟨(ad175.add ((x5_1).toNat * 2)).block, (ad175.add ((x5_1).toNat * 2)).off + 1, none⟩ = some (.slice A175_1 ((rd_T46 l0 x5_1).f1).length c175_1)) (ds := []) #[false, false, false, false, false, false, false, false] (by kernel_rfl) rfl rfl ⟨((HB.out.cell (World.block_lt_of_cell? w _ hw175_0)).trans hw175_0), ((HB.out.cell (World.block_lt_of_cell? w _ hw175_1)).trans hw175_1)⟩ (fun hHeld => ?_); refine with_tabW laws_heldChunkS.tab4 laws_heldChunkS.bits4 (fun HT_ HW_ => ?_)
        generalize wr.drew = w9 at HB HR175_1 hx175_0 hx175_1 hHeld ⊢
        refine pure_ (i := 0) (N := some 12) (v := ?_) (a' := ?_) #[true, false, false, false, false, false, false, false] rfl rfl (any_of HT_.out (by kernel_rfl)) (fun _ _ _ h => h) (Or.inl ⟨by rfl, ?_⟩) ?_ ?_
        rotate_left
        · intro w'
          go_simp
          with_reducible rfl
        rotate_left
        · simp only [Act.put, List.setIfInBounds_toArray, List.set_cons_zero, List.set_cons_succ, i64_w, i32_w]
          rfl
        refine pure_ (i := 1) (N := some 13) (v := ?_) (a' := ?_) #[true, true, false, false, false, false, false, false] rfl rfl (any_of HT_.out (by kernel_rfl)) (fun _ _ _ h => h) (Or.inl ⟨by rfl, ?_⟩) ?_ ?_
        rotate_left
        · intro w'
          go_simp
          with_reducible rfl
        rotate_left
        · simp only [Act.put, List.setIfInBounds_toArray, List.set_cons_zero, List.set_cons_succ, i64_w, i32_w]
          rfl
        refine pure_ (i := 2) (N := some 14) (v := ?_) (a' := ?_) #[true, true, true, false, false, false, false, false] rfl rfl (any_of HT_.out (by kernel_rfl)) (fun _ _ _ h => h) (Or.inl ⟨by rfl, ?_⟩) ?_ ?_
        rotate_left
        · intro w'
          go_simp
          with_reducible rfl
        rotate_left
        · simp only [Act.put, List.setIfInBounds_toArray, List.set_cons_zero, List.set_cons_succ, i64_w, i32_w]
          rfl
        refine pure_ (i := 3) (N := some 15) (v := ?_) (a' := ?_) #[true, true, true, true, false, false, false, false] rfl rfl (any_of HT_.out (by kernel_rfl)) (fun _ _ _ h => h) (Or.inl ⟨by rfl, ?_⟩) ?_ ?_
        rotate_left
        · intro w'
          go_simp
          with_reducible rfl
        rotate_left
        · simp only [Act.put, List.setIfInBounds_toArray, List.set_cons_zero, List.set_cons_succ, i64_w, i32_w]
          rfl
        refine pure_ (i := 5) (N := some 17) (v := ?_) (a' := ?_) #[true, true, true, true, false, true, false, false] rfl rfl (any_of HT_.out (by kernel_rfl)) (fun _ _ _ h => h) (Or.inl ⟨by rfl, ?_⟩) ?_ ?_
        rotate_left
        · intro w'
          go_simp
          with_reducible rfl
        rotate_left
        · simp only [Act.put, List.setIfInBounds_toArray, List.set_cons_zero, List.set_cons_succ, i64_w, i32_w]
          rfl
        refine take_ (i := 4) (N := some 16) (v := ?_) (a' := ?_) #[true, true, true, true, true, true, false, false] rfl rfl (take_ofW HT_.out HW_.out (by kernel_rfl)) (fun _ _ _ h => h) (Or.inl ⟨by rfl, ?_⟩) hHeld ?_ ?_
        rotate_left
        · rintro w' ⟨s0, s1⟩
          go_simp
          with_reducible rfl
        rotate_left
        · simp only [Act.put, List.setIfInBounds_toArray, List.set_cons_zero, List.set_cons_succ, i64_w, i32_w]
          rfl
        refine one_ (i := 6) (N := some 18) #[true, true, true, true, true, true, true, false] rfl rfl (one_of HT_.out (by kernel_rfl)) (by decide) (fun K hK => ?_)
        refine goes_ Tryd.func43 (by kernel_rfl) rfl #[.int .i64 x1_1] (by rfl) rfl rfl (by (try simp only [List.map_toArray, List.map_cons, List.map_nil]); first | done | rfl | (simp only [List.length_drop, List.length_take]; rfl)) ?_
        with_reducible refine (laws_markText.calls k1 x1_1 t176 _ A5.out).mono ?_
        rintro e w10 ⟨rfl, hb⟩
        refine ⟨_, rfl, ?_⟩
        have n0_ := Aside0.mk (below_step (by repeat (first | (with_reducible first | exact HB.out | apply below_alloc | apply pw_below_drewN | apply below_drew1) | exact HB.out)) hb)
        clear HB
        have HB := n0_
        clear n0_
        (try clear hb)
        (try clear hb2)
        (try clear hk)
        (try clear hi)
        refine hK.out _ _ ⟨((HB.out.cell (World.block_lt_of_cell? w _ hw175_0)).trans hw175_0), ((HB.out.cell (World.block_lt_of_cell? w _ hw175_1)).trans hw175_1)⟩ (fun hHeld => ?_)
        clear hK K
        refine norm_ (a' := ?_) ?_ ?_
        rotate_left
        · show Act.put _ (some 18) _ = _
          simp only [Act.put, List.setIfInBounds_toArray, List.set_cons_zero, List.set_cons_succ, i64_w, i32_w]
          rfl
        refine pure_ (i := 7) (N := some 19) (v := ?_) (a' := ?_) #[true, true, true, true, true, true, true, true] rfl rfl (any_of HT_.out (by kernel_rfl)) (fun _ _ _ h => h) (Or.inl ⟨by rfl, ?_⟩) ?_ ?_
        rotate_left
        · intro w'
          go_simp
          with_reducible rfl
        rotate_left
        · simp only [Act.put, List.setIfInBounds_toArray, List.set_cons_zero, List.set_cons_succ, i64_w, i32_w]
          rfl
        refine done_ (done_of HT_.out (by kernel_rfl)) ?_
      · try go_wp2
        go_ret
        exact ⟨by first | rfl | (simp [errW_none, errW_some] <;> rfl) | (simp [*, errW_none, errW_some] <;> rfl), by repeat (first | (with_reducible first | exact HB.out | apply below_alloc | apply pw_below_drewN | apply below_drew1) | exact HB.out)⟩
      · have p177 : 0 ≤ (x5_1 : Int) := of_decide_eq_true (by first | (with_reducible assumption) | assumption)
        have q177 : x5_1 < (l0.length : Int) := of_decide_eq_true (by first | (with_reducible assumption) | assumption)
        obtain ⟨ad177, A177_1, c177_1, e177, hx177_0, hx177_1, hl177_1, hi177_1⟩ := at_T46 HR0.out x5_1 p177 q177
        obtain rfl : ad175 = ad177 := (by injection e177)
        replace hx177_0 := (HB.out.cell (World.block_lt_of_cell? w _ hx177_0)).trans hx177_0
        replace hx177_1 := (HB.out.cell (World.block_lt_of_cell? w _ hx177_1)).trans hx177_1
        have HR177_1 := Aside0.mk hi177_1
        have HC177_1 := Aside0.mk hl177_1
        clear hi177_1 hl177_1
        replace p177 := eq_true p177
        replace q177 := eq_true q177
        try go_wp2_with (first | ((with_reducible refine gate_callee (f := 44) rfl ?_); refine goesL_ (some 28) rfl rfl Tryd.func44 (by kernel_rfl) rfl #[.slice A175_1 ((rd_T46 l0 x5_1).f1).length c175_1, .int .i64 (wrap64 (x1_1 + 1))] rfl (by (try simp only [List.map_toArray, List.map_cons, List.map_nil]); first | done | rfl | (simp only [List.length_drop, List.length_take]; rfl)) ?_; (with_reducible refine (laws_heldByteS.calls k1 _ _ ((rd_T46 l0 x5_1).f1) (wrap64 (x1_1 + 1)) t178 _ ?side1 ?side2 A7.out).mono ?_); (case side1 => repeat (first | exact (Kd.C_below HR175_1.out HB.out) | (with_reducible refine Kd.C_alloc ?_ _) | (with_reducible refine Kd.C_drewN ?_ _) | (with_reducible refine Kd.C_drew ?_))); (case side2 => exact HC175_1.out); rintro e w' ⟨rfl, ⟨nd, rfl⟩⟩; refine ⟨_, rfl, ?_⟩))
        go_ret
        exact ⟨by first | rfl | (simp [errW_none, errW_some] <;> rfl) | (simp [*, errW_none, errW_some] <;> rfl), by repeat (first | (with_reducible first | exact HB.out | apply below_alloc | apply pw_below_drewN | apply below_drew1) | exact HB.out)⟩
      · have p177 : 0 ≤ (x5_1 : Int) := of_decide_eq_true (by first | (with_reducible assumption) | assumption)
        have q177 : x5_1 < (l0.length : Int) := of_decide_eq_true (by first | (with_reducible assumption) | assumption)
        obtain ⟨ad177, A177_1, c177_1, e177, hx177_0, hx177_1, hl177_1, hi177_1⟩ := at_T46 HR0.out x5_1 p177 q177
        obtain rfl : ad175 = ad177 := (by injection e177)
        replace hx177_0 := (HB.out.cell (World.block_lt_of_cell? w _ hx177_0)).trans hx177_0
        replace hx177_1 := (HB.out.cell (World.block_lt_of_cell? w _ hx177_1)).trans hx177_1
        have HR177_1 := Aside0.mk hi177_1
        have HC177_1 := Aside0.mk hl177_1
        clear hi177_1 hl177_1
        replace p177 := eq_true p177
        replace q177 := eq_true q177
        try go_wp2_with (first | ((with_reducible refine gate_callee (f := 44) rfl ?_); refine goesL_ (some 28) rfl rfl Tryd.func44 (by kernel_rfl) rfl #[.slice A175_1 ((rd_T46 l0 x5_1).f1).length c175_1, .int .i64 (wrap64 (x1_1 + 1))] rfl (by (try simp only [List.map_toArray, List.map_cons, List.map_nil]); first | done | rfl | (simp only [List.length_drop, List.length_take]; rfl)) ?_; (with_reducible refine (laws_heldByteS.calls k1 _ _ ((rd_T46 l0 x5_1).f1) (wrap64 (x1_1 + 1)) t178 _ ?side1 ?side2 A7.out).mono ?_); (case side1 => repeat (first | exact (Kd.C_below HR175_1.out HB.out) | (with_reducible refine Kd.C_alloc ?_ _) | (with_reducible refine Kd.C_drewN ?_ _) | (with_reducible refine Kd.C_drew ?_))); (case side2 => exact HC175_1.out); rintro e w' ⟨rfl, ⟨nd, rfl⟩⟩; refine ⟨_, rfl, ?_⟩))
        go_roundg k1
        case measure => have := HK1.out; omega
        case rel => exact ⟨(t178), (wrap64 (x5_1 + 1)), (by first | rfl | (simp; done) | (simp [*]; done)), (by first | rfl | (simp; done) | (simp [*]; done)), H', ⟨by have := HK1.out; omega⟩, ⟨by repeat (first | (with_reducible first | exact HB.out | apply below_alloc | apply pw_below_drewN | apply below_drew1) | exact HB.out)⟩⟩

/-! ### laws_heldChunkRes: function 12 -/
def laws_heldChunkRes.f (k : Nat) (a0_0 : Int) (l0_1 : List (S46)) (a1 : Int) : Option (Int) := (laws_heldChunkS.f k l0_1 a1).bind fun t180 => (if t180 < 0 then (some (-1)) else (some t180))
theorem laws_heldChunkRes.mono : ∀ a0 a1 a2 k, LeO (laws_heldChunkRes.f k a0 a1 a2) (laws_heldChunkRes.f (k + 1) a0 a1 a2) := by
  intro a0 a1 a2 k
  unfold laws_heldChunkRes.f
  repeat' first
      | (with_reducible exact laws_heldChunkS.mono _ _ _)
      | (with_reducible exact LeO.refl _)
      | (with_reducible exact LeO.none _)
      | (with_reducible refine LeO.ite ?_ ?_)
      | (with_reducible refine LeO.bind ?_ (fun _ => ?_))
      | exact laws_heldChunkS.mono _ _ _
      | exact LeO.none _
      | refine LeO.ite ?_ ?_
      | refine LeO.bind ?_ (fun _ => ?_)
set_option maxHeartbeats 8000000 in
set_option maxRecDepth 100000 in
theorem laws_heldChunkRes.calls (k : Nat) (a0_0 : Int) (A0_1 : Option Addr) (c0_1 : Nat) (l0_1 : List (S46)) (a1 : Int) (r : Int) (w : World) (hr0_1 : Kd.C k46 w A0_1 l0_1.length l0_1) (hc0_1 : l0_1.length ≤ c0_1) (h : laws_heldChunkRes.f k a0_0 l0_1 a1 = some r) :
    Calls Tryd.prog 12 #[.agg #[.int .i64 a0_0, .slice A0_1 l0_1.length c0_1], .int .i64 a1] w fun e w' => e = .returned (.int .i64 r) ∧ Below w.heap.size w w' := by
  have hu25 := Tryd.underlying25
  have HR0_1 := Aside0.mk hr0_1
  have HC0_1 := Aside0.mk hc0_1
  clear hr0_1 hc0_1
  have HB := Aside0.mk (Below.refl w.heap.size w)
  have H : ((laws_heldChunkS.f k l0_1 a1).bind fun t180 => (if t180 < 0 then (some (-1)) else (some t180))) = some r := h
  clear h
  replace H := Option.bind_eq_some_iff.mp H
  obtain ⟨t180, A30, H⟩ := H
  replace H : (if t180 < 0 then (some (-1)) else (some t180)) = some r := H
  have A3 := Aside0.mk A30
  clear A30
  by_cases c4 : t180 < 0
  · rw [if_pos c4] at H
    have c4b0 : decide (t180 < 0) = true := decide_eq_true c4
    clear c4
    obtain rfl := Option.some.inj H
    go_enter Tryd.func12, Tryd.ntmps12
    go_wp2_with (first | ((with_reducible refine gate_dst (N := 2) rfl ?_); refine box_event ?hg (N := 2) ?hd (cs := #[.int .i64 a0_0, .slice A0_1 l0_1.length c0_1]) (t := 25) ?hr ?_; (case hd => rfl); (case hg => rfl); (case hr => first | (go_simp; done) | (go_simp; rfl)); intro gb179 hg w5 hbox hb; have n0_ := Aside0.mk (below_step (by repeat (first | (with_reducible first | exact HB.out | apply below_alloc | apply pw_below_drewN | apply below_drew1) | exact HB.out)) hb); have n1_ := Aside0.mk (hbox); have n2_ := Aside0.mk ((by rw [hg]; exact (below_size (by repeat (first | (with_reducible first | exact HB.out | apply below_alloc | apply pw_below_drewN | apply below_drew1) | exact HB.out))) : w.heap.size ≤ gb179)); have n3_ := n2_; clear HB; have HB := n0_; have BK179 := n1_; have GW179 := n2_; have GE179 := n3_; clear n0_ n1_ n2_ n3_; clear hb hbox hg; have hcz6_0 : w5.cell? ⟨gb179, 0, none⟩ = some (.int .i64 a0_0) := (blk_cell BK179.out 0).trans rfl; have hcz6_1 : w5.cell? ⟨gb179, 1, none⟩ = some (.slice A0_1 l0_1.length c0_1) := (blk_cell BK179.out 1).trans rfl; have hfz6_0 := blk_frozen BK179.out 0; have hfz6_1 := blk_frozen BK179.out 1) | ((with_reducible refine gate_callee (f := 33) rfl ?_); refine goesL_ (some 8) rfl rfl Tryd.func33 (by kernel_rfl) rfl #[.slice A0_1 l0_1.length c0_1, .int .i64 a1] rfl (by (try simp only [List.map_toArray, List.map_cons, List.map_nil]); first | done | rfl | (simp only [List.length_drop, List.length_take]; rfl)) ?_; (with_reducible refine (laws_heldChunkS.calls k _ _ l0_1 a1 t180 _ ?side1 ?side2 A3.out).mono ?_); (case side1 => repeat (first | exact (Kd.C_below HR0_1.out HB.out) | (with_reducible refine Kd.C_alloc ?_ _) | (with_reducible refine Kd.C_drewN ?_ _) | (with_reducible refine Kd.C_drew ?_))); (case side2 => exact HC0_1.out); rintro e w7 ⟨rfl, hb⟩; refine ⟨_, rfl, ?_⟩; have n0_ := Aside0.mk (blk_below (g := gb179) (o := .cells #[.int .i64 a0_0, .slice A0_1 l0_1.length c0_1] 25 (0, 0)) (by (with_reducible repeat (first | refine blk_drewN ?_ _ | refine blk_drew ?_ | refine blk_alloc ?_ _)); exact BK179.out) hb); have n1_ := Aside0.mk (below_step (by repeat (first | (with_reducible first | exact HB.out | apply below_alloc | apply pw_below_drewN | apply below_drew1 | refine below_set ?_ GE179.out) | exact HB.out)) hb); clear BK179; clear HB; have BK179 := n0_; have HB := n1_; clear n0_ n1_; (try clear hb); (try clear hb2); (try clear hk); (try clear hi)))
    go_ret
    exact ⟨by first | rfl | (simp [errW_none, errW_some] <;> rfl) | (simp [*, errW_none, errW_some] <;> rfl), by repeat (first | (with_reducible first | exact HB.out | apply below_alloc | apply pw_below_drewN | apply below_drew1 | refine below_set ?_ GE179.out) | exact HB.out)⟩
  rw [if_neg c4] at H
  have c4b0 : decide (t180 < 0) = false := decide_eq_false c4
  clear c4
  obtain rfl := Option.some.inj H
  go_enter Tryd.func12, Tryd.ntmps12
  go_wp2_with (first | ((with_reducible refine gate_dst (N := 2) rfl ?_); refine box_event ?hg (N := 2) ?hd (cs := #[.int .i64 a0_0, .slice A0_1 l0_1.length c0_1]) (t := 25) ?hr ?_; (case hd => rfl); (case hg => rfl); (case hr => first | (go_simp; done) | (go_simp; rfl)); intro gb179 hg w8 hbox hb; have n0_ := Aside0.mk (below_step (by repeat (first | (with_reducible first | exact HB.out | apply below_alloc | apply pw_below_drewN | apply below_drew1) | exact HB.out)) hb); have n1_ := Aside0.mk (hbox); have n2_ := Aside0.mk ((by rw [hg]; exact (below_size (by repeat (first | (with_reducible first | exact HB.out | apply below_alloc | apply pw_below_drewN | apply below_drew1) | exact HB.out))) : w.heap.size ≤ gb179)); have n3_ := n2_; clear HB; have HB := n0_; have BK179 := n1_; have GW179 := n2_; have GE179 := n3_; clear n0_ n1_ n2_ n3_; clear hb hbox hg; have hcz9_0 : w8.cell? ⟨gb179, 0, none⟩ = some (.int .i64 a0_0) := (blk_cell BK179.out 0).trans rfl; have hcz9_1 : w8.cell? ⟨gb179, 1, none⟩ = some (.slice A0_1 l0_1.length c0_1) := (blk_cell BK179.out 1).trans rfl; have hfz9_0 := blk_frozen BK179.out 0; have hfz9_1 := blk_frozen BK179.out 1) | ((with_reducible refine gate_callee (f := 33) rfl ?_); refine goesL_ (some 8) rfl rfl Tryd.func33 (by kernel_rfl) rfl #[.slice A0_1 l0_1.length c0_1, .int .i64 a1] rfl (by (try simp only [List.map_toArray, List.map_cons, List.map_nil]); first | done | rfl | (simp only [List.length_drop, List.length_take]; rfl)) ?_; (with_reducible refine (laws_heldChunkS.calls k _ _ l0_1 a1 t180 _ ?side1 ?side2 A3.out).mono ?_); (case side1 => repeat (first | exact (Kd.C_below HR0_1.out HB.out) | (with_reducible refine Kd.C_alloc ?_ _) | (with_reducible refine Kd.C_drewN ?_ _) | (with_reducible refine Kd.C_drew ?_))); (case side2 => exact HC0_1.out); rintro e w10 ⟨rfl, hb⟩; refine ⟨_, rfl, ?_⟩; have n0_ := Aside0.mk (blk_below (g := gb179) (o := .cells #[.int .i64 a0_0, .slice A0_1 l0_1.length c0_1] 25 (0, 0)) (by (with_reducible repeat (first | refine blk_drewN ?_ _ | refine blk_drew ?_ | refine blk_alloc ?_ _)); exact BK179.out) hb); have n1_ := Aside0.mk (below_step (by repeat (first | (with_reducible first | exact HB.out | apply below_alloc | apply pw_below_drewN | apply below_drew1 | refine below_set ?_ GE179.out) | exact HB.out)) hb); clear BK179; clear HB; have BK179 := n0_; have HB := n1_; clear n0_ n1_; (try clear hb); (try clear hb2); (try clear hk); (try clear hi)))
  go_ret
  exact ⟨by first | rfl | (simp [errW_none, errW_some] <;> rfl) | (simp [*, errW_none, errW_some] <;> rfl), by repeat (first | (with_reducible first | exact HB.out | apply below_alloc | apply pw_below_drewN | apply below_drew1 | refine below_set ?_ GE179.out) | exact HB.out)⟩

/-! ### laws_FnExactReadChunks: function 3 -/
def laws_FnExactReadChunks.Core (l0 : List Int) : Prop := (l0.length : Int) > 1048576 ∨ ∃ (k : Nat) (r1 : Int) (r2 r2' : List S46) (x' : List Int) (ka m : Int), laws_toByteS.f k l0 = some l0 ∧ spec_ReadChunks.f k l0 = some (r1, r2) ∧ impl_ReadChunks.f k l0 = some (r1, r2) ∧ laws_eqChunkRes.f k r1 r2 r1 r2 = some true ∧ laws_eqByteS.f k l0 l0 = some true ∧ laws_markByteS.f k l0 1 = some (ka, x') ∧ 0 ≤ ka ∧ laws_markChunkRes.f k r2 1 = some (m, r2') ∧ 0 ≤ m ∧ laws_heldChunkRes.f k r1 r2' 1 = some m
def laws_FnExactReadChunks.Pure : Prop := ∀ (l0 : List Int), l0.length ≤ maxLen → l0.length * 1 ≤ 140737488351232 → (∀ x ∈ l0, (Lit.int .u8 x).wf = true) → laws_FnExactReadChunks.Core l0
set_option maxHeartbeats 8000000 in
set_option maxRecDepth 100000 in
theorem laws_FnExactReadChunks.core (A0 : Option Addr) (c0 : Nat) (l0 : List Int) (P : laws_FnExactReadChunks.Core l0) (w : World) (hr0 : Kd.C (Kd.int .u8) w A0 l0.length l0) (hc0 : l0.length ≤ c0) (hM : MX w) :
    Calls Tryd.prog 3 #[.slice A0 l0.length c0] w fun e w' => e = .returned (.bool true) ∧ Below w.heap.size w w' := by
  unfold laws_FnExactReadChunks.Core at P
  have ES := Aside0.mk P
  clear P
  have hu := Tryd.underlying25
  have HR0 := Aside0.mk hr0
  have HC0 := Aside0.mk hc0
  have HM := Aside0.mk hM
  clear hr0 hc0 hM
  have HB := Aside0.mk (Below.refl w.heap.size w)
  by_cases cl : (l0.length : Int) > 1048576
  · have cb : decide ((l0.length : Int) > 1048576) = true := decide_eq_true cl
    clear ES
    go_enter Tryd.func3, Tryd.ntmps3
    go_wp2
    go_ret
    exact ⟨rfl, HB.out⟩
  have cb : decide ((l0.length : Int) > 1048576) = false := decide_eq_false cl
  obtain ⟨k, r1, r2, r2', x', ka, m, E1, E2, E3, E4, E5, E6, hka, E7, hm, E8⟩ := ES.out.resolve_left cl
  clear ES cl
  replace E1 := Aside0.mk E1
  replace E2 := Aside0.mk E2
  replace E3 := Aside0.mk E3
  replace E4 := Aside0.mk E4
  replace E5 := Aside0.mk E5
  replace E6 := Aside0.mk E6
  replace E7 := Aside0.mk E7
  replace E8 := Aside0.mk E8
  have cka : decide (ka < 0) = false := decide_eq_false (by omega)
  have cm : decide (m < 0) = false := decide_eq_false (by omega)
  clear hka hm
  go_enter Tryd.func3, Tryd.ntmps3
  go_upto_region 3 with (fail)
  go_upto_region 4 with (first | ((with_reducible refine gate_callee (f := 6) rfl ?_); refine goesL_ (some 14) rfl rfl Tryd.func6 (by kernel_rfl) rfl #[.slice A0 l0.length c0] rfl (by (try simp only [List.map_toArray, List.map_cons, List.map_nil]); first | done | rfl) ?_; (with_reducible refine (laws_toByteS.calls k _ _ l0 l0 _ ?side1 ?side2 E1.out).mono ?_); (case side1 => exact Kd.C_below HR0.out HB.out); (case side2 => exact HC0.out); rintro e w_1 ⟨vx, rfl, hox, hb⟩; refine ⟨_, rfl, ?_⟩; have n_HB := Aside0.mk (below_step HB.out hb); have SZw_1 := Aside0.mk hb.size; clear HB; have HB := n_HB; clear n_HB; have HOx := Aside0.mk (show Kd.R (Kd.int .u8) 5 w_1 w.heap.size (fun k_ => w.heap.size ≤ k_ ∧ k_ < w_1.heap.size) vx l0 from Kd.R_lower (Kd.R_mono (Kd.R_bound hox) (fun k_ hk => ⟨hk.2.1, hk.2.2.1⟩)) (by have := SZw_1.out; omega)); obtain ⟨Ax, cx, ex⟩ := Kd.R_slice HOx.out; subst ex; clear hb hox) | ((with_reducible refine gate_callee (f := 5) rfl ?_); refine goesL_ (some 15) rfl rfl Tryd.func5 (by kernel_rfl) rfl #[.slice Ax l0.length cx] rfl (by (try simp only [List.map_toArray, List.map_cons, List.map_nil]); first | done | rfl) ?_; (with_reducible refine (spec_ReadChunks.calls k (fun k_ => w.heap.size ≤ k_ ∧ k_ < w_1.heap.size) _ _ l0 r1 r2 _ ?side1 E2.out).mono ?_); (case side1 => exact Kd.V_mk (Kd.R_reads' HOx.out).2.1 (Kd.R_F HOx.out)); rintro e w_2 ⟨vw0, rfl, how0, hb⟩; refine ⟨_, rfl, ?_⟩; have n_HB := Aside0.mk (below_step HB.out hb); have SZw_2 := Aside0.mk hb.size; have n_HOx := Aside0.mk (Kd.R_below HOx.out hb); clear HB HOx; have HB := n_HB; have HOx := n_HOx; clear n_HB n_HOx; have HOw0 := Aside0.mk (show Kd.S k46 46 w_2 w.heap.size (fun k_ => w_1.heap.size ≤ k_ ∧ k_ < w_2.heap.size) vw0 r2 from Kd.S_lower (Kd.S_mono (Kd.S_bound how0) (fun k_ hk => ⟨hk.2.1, hk.2.2.1⟩)) (by have := SZw_1.out; have := SZw_2.out; omega)); obtain ⟨Aw0, cw0, ew0⟩ := Kd.S_slice HOw0.out; subst ew0; clear hb how0) | ((with_reducible refine gate_dst (N := 3) rfl ?_); refine box_event ?hg (N := 3) ?hd (cs := #[.int .i64 0, .slice none 0 0]) (t := 25) ?hr ?_; (case hd => rfl); (case hg => rfl); (case hr => first | (go_simp; done) | (go_simp; rfl)); intro g3 hg w_3 hbox hb; have BKg3 := Aside0.mk hbox; have GLg3 := Aside0.mk (show w_2.heap.size ≤ g3 from Nat.le_of_eq hg.symm); have HV := Aside0.mk hb; clear hg hb hbox) | ((with_reducible refine gate_store (t := 25) (p := 3) (v := .tmp 15) rfl ?_); refine put_all rfl 25 (.tmp 3) (.tmp 15) rfl rfl g3 #[.int .i64 0, .slice none 0 0] 25 (.agg #[.int .i64 r1, .slice Aw0 r2.length cw0]) [.int .i64 r1, .slice Aw0 r2.length cw0] rfl rfl rfl (by simp [Value.oneCell']) (by kernel_rfl) BKg3.out rfl ?_; intro w_4 h1 hk hbb; have hb := hbb _ _ HV.out GLg3.out; have n_HB := Aside0.mk (below_step HB.out hb); have SZw_4 := Aside0.mk hb.size; have n_HOx := Aside0.mk (Kd.R_below HOx.out hb); have n_HOw0 := Aside0.mk (Kd.S_below HOw0.out hb); clear HB HOx HOw0; have HB := n_HB; have HOx := n_HOx; have HOw0 := n_HOw0; clear n_HB n_HOx n_HOw0; clear HV BKg3; have BKg3 := Aside0.mk (show w_4.heap[g3]? = some (.cells #[.int .i64 r1, .slice Aw0 r2.length cw0] 25 (0, 0)) from h1); have GHg3 := Aside0.mk (blk_lt h1); clear h1 hk hbb hb; have hcz_g3_0 : (w_4).cell? ⟨g3, 0, none⟩ = some (.int .i64 r1) := (blk_cell BKg3.out 0).trans rfl; have hcz_g3_1 : (w_4).cell? ⟨g3, 1, none⟩ = some (.slice Aw0 r2.length cw0) := (blk_cell BKg3.out 1).trans rfl; have hfz_g3_0 := blk_frozen BKg3.out 0; have hfz_g3_1 := blk_frozen BKg3.out 1))
  go_upto_region 5 with (first | ((with_reducible refine gate_callee (f := 6) rfl ?_); refine goesL_ (some 17) rfl rfl Tryd.func6 (by kernel_rfl) rfl #[.slice A0 l0.length c0] rfl (by (try simp only [List.map_toArray, List.map_cons, List.map_nil]); first | done | rfl) ?_; (with_reducible refine (laws_toByteS.calls k _ _ l0 l0 _ ?side1 ?side2 E1.out).mono ?_); (case side1 => exact Kd.C_below HR0.out HB.out); (case side2 => exact HC0.out); rintro e w_5 ⟨vy, rfl, hoy, hb⟩; refine ⟨_, rfl, ?_⟩; clear hcz_g3_0 hcz_g3_1 hfz_g3_0 hfz_g3_1; have n_HB := Aside0.mk (below_step HB.out hb); have SZw_5 := Aside0.mk hb.size; have n_HOx := Aside0.mk (Kd.R_below HOx.out hb); have n_HOw0 := Aside0.mk (Kd.S_below HOw0.out hb); have n_BKg3 := Aside0.mk (blk_below BKg3.out hb); clear HB HOx HOw0 BKg3; have HB := n_HB; have HOx := n_HOx; have HOw0 := n_HOw0; have BKg3 := n_BKg3; clear n_HB n_HOx n_HOw0 n_BKg3; have HOy := Aside0.mk (show Kd.R (Kd.int .u8) 5 w_5 w.heap.size (fun k_ => w_4.heap.size ≤ k_ ∧ k_ < w_5.heap.size) vy l0 from Kd.R_lower (Kd.R_mono (Kd.R_bound hoy) (fun k_ hk => ⟨hk.2.1, hk.2.2.1⟩)) (by have := SZw_1.out; have := SZw_2.out; have := SZw_4.out; have := SZw_5.out; omega)); obtain ⟨Ay, cy, ey⟩ := Kd.R_slice HOy.out; subst ey; clear hb hoy; have hcz_g3_0 : (w_5).cell? ⟨g3, 0, none⟩ = some (.int .i64 r1) := (blk_cell BKg3.out 0).trans rfl; have hcz_g3_1 : (w_5).cell? ⟨g3, 1, none⟩ = some (.slice Aw0 r2.length cw0) := (blk_cell BKg3.out 1).trans rfl; have hfz_g3_0 := blk_frozen BKg3.out 0; have hfz_g3_1 := blk_frozen BKg3.out 1))
  go_upto_region 6 with (first | ((with_reducible refine gate_callee (f := 7) rfl ?_); refine goesL_ (some 19) rfl rfl Tryd.func7 (by kernel_rfl) rfl #[.slice Ay l0.length cy] rfl (by (try simp only [List.map_toArray, List.map_cons, List.map_nil]); first | done | rfl) ?_; (with_reducible refine (impl_ReadChunks.calls k (fun k_ => w_4.heap.size ≤ k_ ∧ k_ < w_5.heap.size) _ _ l0 r1 r2 _ ?side1 ?side2 E3.out).mono ?_); (case side1 => exact MX.below HM.out HB.out); (case side2 => exact Kd.V_mk (Kd.R_reads' HOy.out).2.1 (Kd.R_F HOy.out)); rintro e w_6 ⟨vg0, rfl, hog0, hb⟩; refine ⟨_, rfl, ?_⟩; clear hcz_g3_0 hcz_g3_1 hfz_g3_0 hfz_g3_1; have n_HB := Aside0.mk (below_step HB.out hb); have SZw_6 := Aside0.mk hb.size; have n_HOx := Aside0.mk (Kd.R_below HOx.out hb); have n_HOw0 := Aside0.mk (Kd.S_below HOw0.out hb); have n_BKg3 := Aside0.mk (blk_below BKg3.out hb); have n_HOy := Aside0.mk (Kd.R_below HOy.out hb); clear HB HOx HOw0 BKg3 HOy; have HB := n_HB; have HOx := n_HOx; have HOw0 := n_HOw0; have BKg3 := n_BKg3; have HOy := n_HOy; clear n_HB n_HOx n_HOw0 n_BKg3 n_HOy; have HOg0 := Aside0.mk (show Kd.S k46 46 w_6 w.heap.size (fun k_ => w_5.heap.size ≤ k_ ∧ k_ < w_6.heap.size) vg0 r2 from Kd.S_lower (Kd.S_mono (Kd.S_bound hog0) (fun k_ hk => ⟨hk.2.1, hk.2.2.1⟩)) (by have := SZw_1.out; have := SZw_2.out; have := SZw_4.out; have := SZw_5.out; have := SZw_6.out; omega)); obtain ⟨Ag0, cg0, eg0⟩ := Kd.S_slice HOg0.out; subst eg0; clear hb hog0; have hcz_g3_0 : (w_6).cell? ⟨g3, 0, none⟩ = some (.int .i64 r1) := (blk_cell BKg3.out 0).trans rfl; have hcz_g3_1 : (w_6).cell? ⟨g3, 1, none⟩ = some (.slice Aw0 r2.length cw0) := (blk_cell BKg3.out 1).trans rfl; have hfz_g3_0 := blk_frozen BKg3.out 0; have hfz_g3_1 := blk_frozen BKg3.out 1) | ((with_reducible refine gate_dst (N := 5) rfl ?_); refine box_event ?hg (N := 5) ?hd (cs := #[.int .i64 0, .slice none 0 0]) (t := 25) ?hr ?_; (case hd => rfl); (case hg => rfl); (case hr => first | (go_simp; done) | (go_simp; rfl)); intro g5 hg w_7 hbox hb; have BKg5 := Aside0.mk hbox; have GLg5 := Aside0.mk (show w_6.heap.size ≤ g5 from Nat.le_of_eq hg.symm); have HV := Aside0.mk hb; clear hg hb hbox) | ((with_reducible refine gate_store (t := 25) (p := 5) (v := .tmp 19) rfl ?_); refine put_all rfl 25 (.tmp 5) (.tmp 19) rfl rfl g5 #[.int .i64 0, .slice none 0 0] 25 (.agg #[.int .i64 r1, .slice Ag0 r2.length cg0]) [.int .i64 r1, .slice Ag0 r2.length cg0] rfl rfl rfl (by simp [Value.oneCell']) (by kernel_rfl) BKg5.out rfl ?_; intro w_8 h1 hk hbb; have hb := hbb _ _ HV.out GLg5.out; clear hcz_g3_0 hcz_g3_1 hfz_g3_0 hfz_g3_1; have n_HB := Aside0.mk (below_step HB.out hb); have SZw_8 := Aside0.mk hb.size; have n_HOx := Aside0.mk (Kd.R_below HOx.out hb); have n_HOw0 := Aside0.mk (Kd.S_below HOw0.out hb); have n_BKg3 := Aside0.mk (blk_below BKg3.out hb); have n_HOy := Aside0.mk (Kd.R_below HOy.out hb); have n_HOg0 := Aside0.mk (Kd.S_below HOg0.out hb); clear HB HOx HOw0 BKg3 HOy HOg0; have HB := n_HB; have HOx := n_HOx; have HOw0 := n_HOw0; have BKg3 := n_BKg3; have HOy := n_HOy; have HOg0 := n_HOg0; clear n_HB n_HOx n_HOw0 n_BKg3 n_HOy n_HOg0; clear HV BKg5; have BKg5 := Aside0.mk (show w_8.heap[g5]? = some (.cells #[.int .i64 r1, .slice Ag0 r2.length cg0] 25 (0, 0)) from h1); have GHg5 := Aside0.mk (blk_lt h1); clear h1 hk hbb hb; have hcz_g3_0 : (w_8).cell? ⟨g3, 0, none⟩ = some (.int .i64 r1) := (blk_cell BKg3.out 0).trans rfl; have hcz_g3_1 : (w_8).cell? ⟨g3, 1, none⟩ = some (.slice Aw0 r2.length cw0) := (blk_cell BKg3.out 1).trans rfl; have hfz_g3_0 := blk_frozen BKg3.out 0; have hfz_g3_1 := blk_frozen BKg3.out 1; have hcz_g5_0 : (w_8).cell? ⟨g5, 0, none⟩ = some (.int .i64 r1) := (blk_cell BKg5.out 0).trans rfl; have hcz_g5_1 : (w_8).cell? ⟨g5, 1, none⟩ = some (.slice Ag0 r2.length cg0) := (blk_cell BKg5.out 1).trans rfl; have hfz_g5_0 := blk_frozen BKg5.out 0; have hfz_g5_1 := blk_frozen BKg5.out 1))
  go_upto_region 8 with (first | ((with_reducible refine gate_callee (f := 8) rfl ?_); refine goesL_ (some 22) rfl rfl Tryd.func8 (by kernel_rfl) rfl #[.agg #[.int .i64 r1, .slice Ag0 r2.length cg0], .agg #[.int .i64 r1, .slice Aw0 r2.length cw0]] rfl (by (try simp only [List.map_toArray, List.map_cons, List.map_nil]); first | done | rfl) ?_; (with_reducible refine (laws_eqChunkRes.calls k r1 _ _ r2 r1 _ _ r2 true _ ?side1 ?side2 ?side3 ?side4 E4.out).mono ?_); (case side1 => exact (Kd.S_reads' HOg0.out).2.2); (case side2 => exact (Kd.S_reads' HOg0.out).2.1); (case side3 => exact (Kd.S_reads' HOw0.out).2.2); (case side4 => exact (Kd.S_reads' HOw0.out).2.1); rintro e w_9 ⟨rfl, hb⟩; refine ⟨_, rfl, ?_⟩; clear hcz_g3_0 hcz_g3_1 hfz_g3_0 hfz_g3_1 hcz_g5_0 hcz_g5_1 hfz_g5_0 hfz_g5_1; have n_HB := Aside0.mk (below_step HB.out hb); have SZw_9 := Aside0.mk hb.size; have n_HOx := Aside0.mk (Kd.R_below HOx.out hb); have n_HOw0 := Aside0.mk (Kd.S_below HOw0.out hb); have n_BKg3 := Aside0.mk (blk_below BKg3.out hb); have n_HOy := Aside0.mk (Kd.R_below HOy.out hb); have n_HOg0 := Aside0.mk (Kd.S_below HOg0.out hb); have n_BKg5 := Aside0.mk (blk_below BKg5.out hb); clear HB HOx HOw0 BKg3 HOy HOg0 BKg5; have HB := n_HB; have HOx := n_HOx; have HOw0 := n_HOw0; have BKg3 := n_BKg3; have HOy := n_HOy; have HOg0 := n_HOg0; have BKg5 := n_BKg5; clear n_HB n_HOx n_HOw0 n_BKg3 n_HOy n_HOg0 n_BKg5; clear hb; have hcz_g3_0 : (w_9).cell? ⟨g3, 0, none⟩ = some (.int .i64 r1) := (blk_cell BKg3.out 0).trans rfl; have hcz_g3_1 : (w_9).cell? ⟨g3, 1, none⟩ = some (.slice Aw0 r2.length cw0) := (blk_cell BKg3.out 1).trans rfl; have hfz_g3_0 := blk_frozen BKg3.out 0; have hfz_g3_1 := blk_frozen BKg3.out 1; have hcz_g5_0 : (w_9).cell? ⟨g5, 0, none⟩ = some (.int .i64 r1) := (blk_cell BKg5.out 0).trans rfl; have hcz_g5_1 : (w_9).cell? ⟨g5, 1, none⟩ = some (.slice Ag0 r2.length cg0) := (blk_cell BKg5.out 1).trans rfl; have hfz_g5_0 := blk_frozen BKg5.out 0; have hfz_g5_1 := blk_frozen BKg5.out 1))
  go_upto_region 10 with (first | ((with_reducible refine gate_callee (f := 6) rfl ?_); refine goesL_ (some 26) rfl rfl Tryd.func6 (by kernel_rfl) rfl #[.slice A0 l0.length c0] rfl (by (try simp only [List.map_toArray, List.map_cons, List.map_nil]); first | done | rfl) ?_; (with_reducible refine (laws_toByteS.calls k _ _ l0 l0 _ ?side1 ?side2 E1.out).mono ?_); (case side1 => exact Kd.C_below HR0.out HB.out); (case side2 => exact HC0.out); rintro e w_10 ⟨vz, rfl, hoz, hb⟩; refine ⟨_, rfl, ?_⟩; clear hcz_g3_0 hcz_g3_1 hfz_g3_0 hfz_g3_1 hcz_g5_0 hcz_g5_1 hfz_g5_0 hfz_g5_1; have n_HB := Aside0.mk (below_step HB.out hb); have SZw_10 := Aside0.mk hb.size; have n_HOx := Aside0.mk (Kd.R_below HOx.out hb); have n_HOw0 := Aside0.mk (Kd.S_below HOw0.out hb); have n_BKg3 := Aside0.mk (blk_below BKg3.out hb); have n_HOy := Aside0.mk (Kd.R_below HOy.out hb); have n_HOg0 := Aside0.mk (Kd.S_below HOg0.out hb); have n_BKg5 := Aside0.mk (blk_below BKg5.out hb); clear HB HOx HOw0 BKg3 HOy HOg0 BKg5; have HB := n_HB; have HOx := n_HOx; have HOw0 := n_HOw0; have BKg3 := n_BKg3; have HOy := n_HOy; have HOg0 := n_HOg0; have BKg5 := n_BKg5; clear n_HB n_HOx n_HOw0 n_BKg3 n_HOy n_HOg0 n_BKg5; have HOz := Aside0.mk (show Kd.R (Kd.int .u8) 5 w_10 w.heap.size (fun k_ => w_9.heap.size ≤ k_ ∧ k_ < w_10.heap.size) vz l0 from Kd.R_lower (Kd.R_mono (Kd.R_bound hoz) (fun k_ hk => ⟨hk.2.1, hk.2.2.1⟩)) (by have := SZw_1.out; have := SZw_2.out; have := SZw_4.out; have := SZw_5.out; have := SZw_6.out; have := SZw_8.out; have := SZw_9.out; have := SZw_10.out; omega)); obtain ⟨Az, cz, ez⟩ := Kd.R_slice HOz.out; subst ez; clear hb hoz; have hcz_g3_0 : (w_10).cell? ⟨g3, 0, none⟩ = some (.int .i64 r1) := (blk_cell BKg3.out 0).trans rfl; have hcz_g3_1 : (w_10).cell? ⟨g3, 1, none⟩ = some (.slice Aw0 r2.length cw0) := (blk_cell BKg3.out 1).trans rfl; have hfz_g3_0 := blk_frozen BKg3.out 0; have hfz_g3_1 := blk_frozen BKg3.out 1; have hcz_g5_0 : (w_10).cell? ⟨g5, 0, none⟩ = some (.int .i64 r1) := (blk_cell BKg5.out 0).trans rfl; have hcz_g5_1 : (w_10).cell? ⟨g5, 1, none⟩ = some (.slice Ag0 r2.length cg0) := (blk_cell BKg5.out 1).trans rfl; have hfz_g5_0 := blk_frozen BKg5.out 0; have hfz_g5_1 := blk_frozen BKg5.out 1) | ((with_reducible refine gate_callee (f := 9) rfl ?_); refine goesL_ (some 27) rfl rfl Tryd.func9 (by kernel_rfl) rfl #[.slice Ay l0.length cy, .slice Az l0.length cz] rfl (by (try simp only [List.map_toArray, List.map_cons, List.map_nil]); first | done | rfl) ?_; (with_reducible refine (laws_eqByteS.calls k _ _ l0 _ _ l0 true _ ?side1 ?side2 ?side3 ?side4 E5.out).mono ?_); (case side1 => exact (Kd.R_reads' HOy.out).2.2); (case side2 => exact (Kd.R_reads' HOy.out).2.1); (case side3 => exact (Kd.R_reads' HOz.out).2.2); (case side4 => exact (Kd.R_reads' HOz.out).2.1); rintro e w_11 ⟨rfl, hb⟩; replace hb := hb.below; refine ⟨_, rfl, ?_⟩; clear hcz_g3_0 hcz_g3_1 hfz_g3_0 hfz_g3_1 hcz_g5_0 hcz_g5_1 hfz_g5_0 hfz_g5_1; have n_HB := Aside0.mk (below_step HB.out hb); have SZw_11 := Aside0.mk hb.size; have n_HOx := Aside0.mk (Kd.R_below HOx.out hb); have n_HOw0 := Aside0.mk (Kd.S_below HOw0.out hb); have n_BKg3 := Aside0.mk (blk_below BKg3.out hb); have n_HOy := Aside0.mk (Kd.R_below HOy.out hb); have n_HOg0 := Aside0.mk (Kd.S_below HOg0.out hb); have n_BKg5 := Aside0.mk (blk_below BKg5.out hb); have n_HOz := Aside0.mk (Kd.R_below HOz.out hb); clear HB HOx HOw0 BKg3 HOy HOg0 BKg5 HOz; have HB := n_HB; have HOx := n_HOx; have HOw0 := n_HOw0; have BKg3 := n_BKg3; have HOy := n_HOy; have HOg0 := n_HOg0; have BKg5 := n_BKg5; have HOz := n_HOz; clear n_HB n_HOx n_HOw0 n_BKg3 n_HOy n_HOg0 n_BKg5 n_HOz; clear hb; have hcz_g3_0 : (w_11).cell? ⟨g3, 0, none⟩ = some (.int .i64 r1) := (blk_cell BKg3.out 0).trans rfl; have hcz_g3_1 : (w_11).cell? ⟨g3, 1, none⟩ = some (.slice Aw0 r2.length cw0) := (blk_cell BKg3.out 1).trans rfl; have hfz_g3_0 := blk_frozen BKg3.out 0; have hfz_g3_1 := blk_frozen BKg3.out 1; have hcz_g5_0 : (w_11).cell? ⟨g5, 0, none⟩ = some (.int .i64 r1) := (blk_cell BKg5.out 0).trans rfl; have hcz_g5_1 : (w_11).cell? ⟨g5, 1, none⟩ = some (.slice Ag0 r2.length cg0) := (blk_cell BKg5.out 1).trans rfl; have hfz_g5_0 := blk_frozen BKg5.out 0; have hfz_g5_1 := blk_frozen BKg5.out 1))
  go_upto_region 11 with (fail)
  go_upto_region 12 with (first | ((with_reducible refine gate_callee (f := 10) rfl ?_); refine goesL_ (some 31) rfl rfl Tryd.func10 (by kernel_rfl) rfl #[.slice Ay l0.length cy, .int .i64 1] rfl (by (try simp only [List.map_toArray, List.map_cons, List.map_nil]); first | done | rfl) ?_; (with_reducible refine (laws_markByteS.calls k (fun k_ => w_4.heap.size ≤ k_ ∧ k_ < w_5.heap.size) (.slice Ay l0.length cy) l0 1 ka x' w _ ?side1 ?side2 E6.out).mono ?_); (case side1 => exact HB.out); (case side2 => exact HOy.out); rintro e w_12 ⟨rfl, hox, hb, hk⟩; clear hox; refine ⟨_, rfl, ?_⟩; clear HOy; clear hcz_g3_0 hcz_g3_1 hfz_g3_0 hfz_g3_1 hcz_g5_0 hcz_g5_1 hfz_g5_0 hfz_g5_1; have n_HB := Aside0.mk hb; have SZw_12 := Aside0.mk hk.1; have n_HOx := Aside0.mk (Kd.R_kept HOx.out hk (fun k_ ⟨a_, b_⟩ hs_ => by (try dsimp only at hs_); have := SZw_1.out; have := SZw_2.out; have := SZw_4.out; have := SZw_5.out; have := SZw_6.out; have := SZw_8.out; have := SZw_9.out; have := SZw_10.out; have := SZw_11.out; omega)); have n_HOw0 := Aside0.mk (Kd.S_kept HOw0.out hk (fun k_ ⟨a_, b_⟩ hs_ => by (try dsimp only at hs_); have := SZw_1.out; have := SZw_2.out; have := SZw_4.out; have := SZw_5.out; have := SZw_6.out; have := SZw_8.out; have := SZw_9.out; have := SZw_10.out; have := SZw_11.out; omega)); have n_BKg3 := Aside0.mk (blk_kept BKg3.out hk (fun hs_ => by (try dsimp only at hs_); have := GLg3.out; have := GHg3.out; have := SZw_1.out; have := SZw_2.out; have := SZw_4.out; have := SZw_5.out; have := SZw_6.out; have := SZw_8.out; have := SZw_9.out; have := SZw_10.out; have := SZw_11.out; omega)); have n_HOg0 := Aside0.mk (Kd.S_kept HOg0.out hk (fun k_ ⟨a_, b_⟩ hs_ => by (try dsimp only at hs_); have := SZw_1.out; have := SZw_2.out; have := SZw_4.out; have := SZw_5.out; have := SZw_6.out; have := SZw_8.out; have := SZw_9.out; have := SZw_10.out; have := SZw_11.out; omega)); have n_BKg5 := Aside0.mk (blk_kept BKg5.out hk (fun hs_ => by (try dsimp only at hs_); have := GLg5.out; have := GHg5.out; have := SZw_1.out; have := SZw_2.out; have := SZw_4.out; have := SZw_5.out; have := SZw_6.out; have := SZw_8.out; have := SZw_9.out; have := SZw_10.out; have := SZw_11.out; omega)); have n_HOz := Aside0.mk (Kd.R_kept HOz.out hk (fun k_ ⟨a_, b_⟩ hs_ => by (try dsimp only at hs_); have := SZw_1.out; have := SZw_2.out; have := SZw_4.out; have := SZw_5.out; have := SZw_6.out; have := SZw_8.out; have := SZw_9.out; have := SZw_10.out; have := SZw_11.out; omega)); clear HB HOx HOw0 BKg3 HOg0 BKg5 HOz; have HB := n_HB; have HOx := n_HOx; have HOw0 := n_HOw0; have BKg3 := n_BKg3; have HOg0 := n_HOg0; have BKg5 := n_BKg5; have HOz := n_HOz; clear n_HB n_HOx n_HOw0 n_BKg3 n_HOg0 n_BKg5 n_HOz; clear hb hk; have hcz_g3_0 : (w_12).cell? ⟨g3, 0, none⟩ = some (.int .i64 r1) := (blk_cell BKg3.out 0).trans rfl; have hcz_g3_1 : (w_12).cell? ⟨g3, 1, none⟩ = some (.slice Aw0 r2.length cw0) := (blk_cell BKg3.out 1).trans rfl; have hfz_g3_0 := blk_frozen BKg3.out 0; have hfz_g3_1 := blk_frozen BKg3.out 1; have hcz_g5_0 : (w_12).cell? ⟨g5, 0, none⟩ = some (.int .i64 r1) := (blk_cell BKg5.out 0).trans rfl; have hcz_g5_1 : (w_12).cell? ⟨g5, 1, none⟩ = some (.slice Ag0 r2.length cg0) := (blk_cell BKg5.out 1).trans rfl; have hfz_g5_0 := blk_frozen BKg5.out 0; have hfz_g5_1 := blk_frozen BKg5.out 1))
  (try simp only [Act.put, List.setIfInBounds_toArray, List.set_cons_zero, List.set_cons_succ])
  (try rw [cka])
  go_upto_region 14 with (first | (go_at_call 8; (with_reducible refine (laws_eqChunkRes.calls k r1 _ _ r2 r1 _ _ r2 true _ ?side1 ?side2 ?side3 ?side4 E4.out).mono ?_); (case side1 => exact (Kd.S_reads' HOg0.out).2.2); (case side2 => exact (Kd.S_reads' HOg0.out).2.1); (case side3 => exact (Kd.S_reads' HOw0.out).2.2); (case side4 => exact (Kd.S_reads' HOw0.out).2.1); rintro e w_13 ⟨rfl, hb⟩; clear hcz_g3_0 hcz_g3_1 hfz_g3_0 hfz_g3_1 hcz_g5_0 hcz_g5_1 hfz_g5_0 hfz_g5_1; have n_HB := Aside0.mk (below_step HB.out hb); have SZw_13 := Aside0.mk hb.size; have n_HOx := Aside0.mk (Kd.R_below HOx.out hb); have n_HOw0 := Aside0.mk (Kd.S_below HOw0.out hb); have n_BKg3 := Aside0.mk (blk_below BKg3.out hb); have n_HOg0 := Aside0.mk (Kd.S_below HOg0.out hb); have n_BKg5 := Aside0.mk (blk_below BKg5.out hb); have n_HOz := Aside0.mk (Kd.R_below HOz.out hb); clear HB HOx HOw0 BKg3 HOg0 BKg5 HOz; have HB := n_HB; have HOx := n_HOx; have HOw0 := n_HOw0; have BKg3 := n_BKg3; have HOg0 := n_HOg0; have BKg5 := n_BKg5; have HOz := n_HOz; clear n_HB n_HOx n_HOw0 n_BKg3 n_HOg0 n_BKg5 n_HOz; clear hb; have hcz_g3_0 : (w_13).cell? ⟨g3, 0, none⟩ = some (.int .i64 r1) := (blk_cell BKg3.out 0).trans rfl; have hcz_g3_1 : (w_13).cell? ⟨g3, 1, none⟩ = some (.slice Aw0 r2.length cw0) := (blk_cell BKg3.out 1).trans rfl; have hfz_g3_0 := blk_frozen BKg3.out 0; have hfz_g3_1 := blk_frozen BKg3.out 1; have hcz_g5_0 : (w_13).cell? ⟨g5, 0, none⟩ = some (.int .i64 r1) := (blk_cell BKg5.out 0).trans rfl; have hcz_g5_1 : (w_13).cell? ⟨g5, 1, none⟩ = some (.slice Ag0 r2.length cg0) := (blk_cell BKg5.out 1).trans rfl; have hfz_g5_0 := blk_frozen BKg5.out 0; have hfz_g5_1 := blk_frozen BKg5.out 1))
  go_upto_region 16 with (first | ((with_reducible refine gate_callee (f := 11) rfl ?_); refine goesL_ (some 42) rfl rfl Tryd.func11 (by kernel_rfl) rfl #[.agg #[.int .i64 r1, .slice Ag0 r2.length cg0], .int .i64 1] rfl (by (try simp only [List.map_toArray, List.map_cons, List.map_nil]); first | done | rfl) ?_; (with_reducible refine (laws_markChunkRes.calls k r1 (fun k_ => w_5.heap.size ≤ k_ ∧ k_ < w_6.heap.size) (.slice Ag0 r2.length cg0) r2 1 m r2' w _ ?side1 ?side2 E7.out).mono ?_); (case side1 => exact HB.out); (case side2 => exact HOg0.out); rintro e w_14 ⟨rfl, hog0, hb, hk⟩; (try refine ⟨_, rfl, ?_⟩); clear HOg0; clear hcz_g3_0 hcz_g3_1 hfz_g3_0 hfz_g3_1 hcz_g5_0 hcz_g5_1 hfz_g5_0 hfz_g5_1; have n_HB := Aside0.mk hb; have SZw_14 := Aside0.mk hk.1; have n_HOx := Aside0.mk (Kd.R_kept HOx.out hk (fun k_ ⟨a_, b_⟩ hs_ => by (try dsimp only at hs_); have := SZw_1.out; have := SZw_2.out; have := SZw_4.out; have := SZw_5.out; have := SZw_6.out; have := SZw_8.out; have := SZw_9.out; have := SZw_10.out; have := SZw_11.out; have := SZw_12.out; have := SZw_13.out; omega)); have n_HOw0 := Aside0.mk (Kd.S_kept HOw0.out hk (fun k_ ⟨a_, b_⟩ hs_ => by (try dsimp only at hs_); have := SZw_1.out; have := SZw_2.out; have := SZw_4.out; have := SZw_5.out; have := SZw_6.out; have := SZw_8.out; have := SZw_9.out; have := SZw_10.out; have := SZw_11.out; have := SZw_12.out; have := SZw_13.out; omega)); have n_BKg3 := Aside0.mk (blk_kept BKg3.out hk (fun hs_ => by (try dsimp only at hs_); have := GLg3.out; have := GHg3.out; have := SZw_1.out; have := SZw_2.out; have := SZw_4.out; have := SZw_5.out; have := SZw_6.out; have := SZw_8.out; have := SZw_9.out; have := SZw_10.out; have := SZw_11.out; have := SZw_12.out; have := SZw_13.out; omega)); have n_BKg5 := Aside0.mk (blk_kept BKg5.out hk (fun hs_ => by (try dsimp only at hs_); have := GLg5.out; have := GHg5.out; have := SZw_1.out; have := SZw_2.out; have := SZw_4.out; have := SZw_5.out; have := SZw_6.out; have := SZw_8.out; have := SZw_9.out; have := SZw_10.out; have := SZw_11.out; have := SZw_12.out; have := SZw_13.out; omega)); have n_HOz := Aside0.mk (Kd.R_kept HOz.out hk (fun k_ ⟨a_, b_⟩ hs_ => by (try dsimp only at hs_); have := SZw_1.out; have := SZw_2.out; have := SZw_4.out; have := SZw_5.out; have := SZw_6.out; have := SZw_8.out; have := SZw_9.out; have := SZw_10.out; have := SZw_11.out; have := SZw_12.out; have := SZw_13.out; omega)); clear HB HOx HOw0 BKg3 BKg5 HOz; have HB := n_HB; have HOx := n_HOx; have HOw0 := n_HOw0; have BKg3 := n_BKg3; have BKg5 := n_BKg5; have HOz := n_HOz; clear n_HB n_HOx n_HOw0 n_BKg3 n_BKg5 n_HOz; have HOg0 := Aside0.mk (show Kd.S k46 46 w_14 w.heap.size (fun k_ => 0 ≤ k_ ∧ k_ < w_14.heap.size) (.slice Ag0 r2.length cg0) r2' from Kd.S_mono (Kd.S_bound hog0) (fun k_ hk => ⟨Nat.zero_le _, hk.2.2.1⟩)); clear hb hk hog0; have hcz_g3_0 : (w_14).cell? ⟨g3, 0, none⟩ = some (.int .i64 r1) := (blk_cell BKg3.out 0).trans rfl; have hcz_g3_1 : (w_14).cell? ⟨g3, 1, none⟩ = some (.slice Aw0 r2.length cw0) := (blk_cell BKg3.out 1).trans rfl; have hfz_g3_0 := blk_frozen BKg3.out 0; have hfz_g3_1 := blk_frozen BKg3.out 1; have hcz_g5_0 : (w_14).cell? ⟨g5, 0, none⟩ = some (.int .i64 r1) := (blk_cell BKg5.out 0).trans rfl; have hcz_g5_1 : (w_14).cell? ⟨g5, 1, none⟩ = some (.slice Ag0 r2.length cg0) := (blk_cell BKg5.out 1).trans rfl; have hfz_g5_0 := blk_frozen BKg5.out 0; have hfz_g5_1 := blk_frozen BKg5.out 1))
  go_upto_region 18 with (first | ((with_reducible refine gate_callee (f := 12) rfl ?_); refine goesL_ (some 45) rfl rfl Tryd.func12 (by kernel_rfl) rfl #[.agg #[.int .i64 r1, .slice Ag0 r2'.length cg0], .int .i64 1] rfl (by (try simp only [List.map_toArray, List.map_cons, List.map_nil]); first | done | rfl | (rw [show r2'.length = r2.length from (Kd.S_reads' HOg0.out).1.symm] <;> rfl)) ?_; (with_reducible refine (laws_heldChunkRes.calls k r1 _ _ r2' 1 m _ ?side1 ?side2 E8.out).mono ?_); (case side1 => exact (Kd.S_reads' HOg0.out).2.2); (case side2 => exact Nat.le_trans (Nat.le_of_eq (Kd.S_reads' HOg0.out).1.symm) (Kd.S_reads' HOg0.out).2.1); rintro e w_15 ⟨rfl, hb⟩; refine ⟨_, rfl, ?_⟩; clear hcz_g3_0 hcz_g3_1 hfz_g3_0 hfz_g3_1 hcz_g5_0 hcz_g5_1 hfz_g5_0 hfz_g5_1; have n_HB := Aside0.mk (below_step HB.out hb); have SZw_15 := Aside0.mk hb.size; have n_HOx := Aside0.mk (Kd.R_below HOx.out hb); have n_HOw0 := Aside0.mk (Kd.S_below HOw0.out hb); have n_BKg3 := Aside0.mk (blk_below BKg3.out hb); have n_BKg5 := Aside0.mk (blk_below BKg5.out hb); have n_HOz := Aside0.mk (Kd.R_below HOz.out hb); have n_HOg0 := Aside0.mk (Kd.S_below HOg0.out hb); clear HB HOx HOw0 BKg3 BKg5 HOz HOg0; have HB := n_HB; have HOx := n_HOx; have HOw0 := n_HOw0; have BKg3 := n_BKg3; have BKg5 := n_BKg5; have HOz := n_HOz; have HOg0 := n_HOg0; clear n_HB n_HOx n_HOw0 n_BKg3 n_BKg5 n_HOz n_HOg0; clear hb; have hcz_g3_0 : (w_15).cell? ⟨g3, 0, none⟩ = some (.int .i64 r1) := (blk_cell BKg3.out 0).trans rfl; have hcz_g3_1 : (w_15).cell? ⟨g3, 1, none⟩ = some (.slice Aw0 r2.length cw0) := (blk_cell BKg3.out 1).trans rfl; have hfz_g3_0 := blk_frozen BKg3.out 0; have hfz_g3_1 := blk_frozen BKg3.out 1; have hcz_g5_0 : (w_15).cell? ⟨g5, 0, none⟩ = some (.int .i64 r1) := (blk_cell BKg5.out 0).trans rfl; have hcz_g5_1 : (w_15).cell? ⟨g5, 1, none⟩ = some (.slice Ag0 r2.length cg0) := (blk_cell BKg5.out 1).trans rfl; have hfz_g5_0 := blk_frozen BKg5.out 0; have hfz_g5_1 := blk_frozen BKg5.out 1))
  go_upto_region 23 with (first | ((with_reducible refine gate_callee (f := 6) rfl ?_); refine goesL_ (some 52) rfl rfl Tryd.func6 (by kernel_rfl) rfl #[.slice A0 l0.length c0] rfl (by (try simp only [List.map_toArray, List.map_cons, List.map_nil]); first | done | rfl) ?_; (with_reducible refine (laws_toByteS.calls k _ _ l0 l0 _ ?side1 ?side2 E1.out).mono ?_); (case side1 => exact Kd.C_below HR0.out HB.out); (case side2 => exact HC0.out); rintro e w_16 ⟨vq, rfl, hoq, hb⟩; refine ⟨_, rfl, ?_⟩; clear hcz_g3_0 hcz_g3_1 hfz_g3_0 hfz_g3_1 hcz_g5_0 hcz_g5_1 hfz_g5_0 hfz_g5_1; have n_HB := Aside0.mk (below_step HB.out hb); have SZw_16 := Aside0.mk hb.size; have n_HOx := Aside0.mk (Kd.R_below HOx.out hb); have n_HOw0 := Aside0.mk (Kd.S_below HOw0.out hb); have n_BKg3 := Aside0.mk (blk_below BKg3.out hb); have n_BKg5 := Aside0.mk (blk_below BKg5.out hb); have n_HOz := Aside0.mk (Kd.R_below HOz.out hb); have n_HOg0 := Aside0.mk (Kd.S_below HOg0.out hb); clear HB HOx HOw0 BKg3 BKg5 HOz HOg0; have HB := n_HB; have HOx := n_HOx; have HOw0 := n_HOw0; have BKg3 := n_BKg3; have BKg5 := n_BKg5; have HOz := n_HOz; have HOg0 := n_HOg0; clear n_HB n_HOx n_HOw0 n_BKg3 n_BKg5 n_HOz n_HOg0; have HOq := Aside0.mk (show Kd.R (Kd.int .u8) 5 w_16 w.heap.size (fun k_ => w_15.heap.size ≤ k_ ∧ k_ < w_16.heap.size) vq l0 from Kd.R_lower (Kd.R_mono (Kd.R_bound hoq) (fun k_ hk => ⟨hk.2.1, hk.2.2.1⟩)) (by have := SZw_1.out; have := SZw_2.out; have := SZw_4.out; have := SZw_5.out; have := SZw_6.out; have := SZw_8.out; have := SZw_9.out; have := SZw_10.out; have := SZw_11.out; have := SZw_12.out; have := SZw_13.out; have := SZw_14.out; have := SZw_15.out; have := SZw_16.out; omega)); obtain ⟨Aq, cq, eq⟩ := Kd.R_slice HOq.out; subst eq; clear hb hoq; have hcz_g3_0 : (w_16).cell? ⟨g3, 0, none⟩ = some (.int .i64 r1) := (blk_cell BKg3.out 0).trans rfl; have hcz_g3_1 : (w_16).cell? ⟨g3, 1, none⟩ = some (.slice Aw0 r2.length cw0) := (blk_cell BKg3.out 1).trans rfl; have hfz_g3_0 := blk_frozen BKg3.out 0; have hfz_g3_1 := blk_frozen BKg3.out 1; have hcz_g5_0 : (w_16).cell? ⟨g5, 0, none⟩ = some (.int .i64 r1) := (blk_cell BKg5.out 0).trans rfl; have hcz_g5_1 : (w_16).cell? ⟨g5, 1, none⟩ = some (.slice Ag0 r2.length cg0) := (blk_cell BKg5.out 1).trans rfl; have hfz_g5_0 := blk_frozen BKg5.out 0; have hfz_g5_1 := blk_frozen BKg5.out 1) | ((with_reducible refine gate_callee (f := 7) rfl ?_); refine goesL_ (some 53) rfl rfl Tryd.func7 (by kernel_rfl) rfl #[.slice Aq l0.length cq] rfl (by (try simp only [List.map_toArray, List.map_cons, List.map_nil]); first | done | rfl) ?_; (with_reducible refine (impl_ReadChunks.calls k (fun k_ => w_15.heap.size ≤ k_ ∧ k_ < w_16.heap.size) _ _ l0 r1 r2 _ ?side1 ?side2 E3.out).mono ?_); (case side1 => exact MX.below HM.out HB.out); (case side2 => exact Kd.V_mk (Kd.R_reads' HOq.out).2.1 (Kd.R_F HOq.out)); rintro e w_17 ⟨vh0, rfl, hoh0, hb⟩; refine ⟨_, rfl, ?_⟩; clear hcz_g3_0 hcz_g3_1 hfz_g3_0 hfz_g3_1 hcz_g5_0 hcz_g5_1 hfz_g5_0 hfz_g5_1; have n_HB := Aside0.mk (below_step HB.out hb); have SZw_17 := Aside0.mk hb.size; have n_HOx := Aside0.mk (Kd.R_below HOx.out hb); have n_HOw0 := Aside0.mk (Kd.S_below HOw0.out hb); have n_BKg3 := Aside0.mk (blk_below BKg3.out hb); have n_BKg5 := Aside0.mk (blk_below BKg5.out hb); have n_HOz := Aside0.mk (Kd.R_below HOz.out hb); have n_HOg0 := Aside0.mk (Kd.S_below HOg0.out hb); have n_HOq := Aside0.mk (Kd.R_below HOq.out hb); clear HB HOx HOw0 BKg3 BKg5 HOz HOg0 HOq; have HB := n_HB; have HOx := n_HOx; have HOw0 := n_HOw0; have BKg3 := n_BKg3; have BKg5 := n_BKg5; have HOz := n_HOz; have HOg0 := n_HOg0; have HOq := n_HOq; clear n_HB n_HOx n_HOw0 n_BKg3 n_BKg5 n_HOz n_HOg0 n_HOq; have HOh0 := Aside0.mk (show Kd.S k46 46 w_17 w.heap.size (fun k_ => w_16.heap.size ≤ k_ ∧ k_ < w_17.heap.size) vh0 r2 from Kd.S_lower (Kd.S_mono (Kd.S_bound hoh0) (fun k_ hk => ⟨hk.2.1, hk.2.2.1⟩)) (by have := SZw_1.out; have := SZw_2.out; have := SZw_4.out; have := SZw_5.out; have := SZw_6.out; have := SZw_8.out; have := SZw_9.out; have := SZw_10.out; have := SZw_11.out; have := SZw_12.out; have := SZw_13.out; have := SZw_14.out; have := SZw_15.out; have := SZw_16.out; have := SZw_17.out; omega)); obtain ⟨Ah0, ch0, eh0⟩ := Kd.S_slice HOh0.out; subst eh0; clear hb hoh0; have hcz_g3_0 : (w_17).cell? ⟨g3, 0, none⟩ = some (.int .i64 r1) := (blk_cell BKg3.out 0).trans rfl; have hcz_g3_1 : (w_17).cell? ⟨g3, 1, none⟩ = some (.slice Aw0 r2.length cw0) := (blk_cell BKg3.out 1).trans rfl; have hfz_g3_0 := blk_frozen BKg3.out 0; have hfz_g3_1 := blk_frozen BKg3.out 1; have hcz_g5_0 : (w_17).cell? ⟨g5, 0, none⟩ = some (.int .i64 r1) := (blk_cell BKg5.out 0).trans rfl; have hcz_g5_1 : (w_17).cell? ⟨g5, 1, none⟩ = some (.slice Ag0 r2.length cg0) := (blk_cell BKg5.out 1).trans rfl; have hfz_g5_0 := blk_frozen BKg5.out 0; have hfz_g5_1 := blk_frozen BKg5.out 1) | ((with_reducible refine gate_dst (N := 9) rfl ?_); refine box_event ?hg (N := 9) ?hd (cs := #[.int .i64 0, .slice none 0 0]) (t := 25) ?hr ?_; (case hd => rfl); (case hg => rfl); (case hr => first | (go_simp; done) | (go_simp; rfl)); intro g9 hg w_18 hbox hb; have BKg9 := Aside0.mk hbox; have GLg9 := Aside0.mk (show w_17.heap.size ≤ g9 from Nat.le_of_eq hg.symm); have HV := Aside0.mk hb; clear hg hb hbox) | ((with_reducible refine gate_store (t := 25) (p := 9) (v := .tmp 53) rfl ?_); refine put_all rfl 25 (.tmp 9) (.tmp 53) rfl rfl g9 #[.int .i64 0, .slice none 0 0] 25 (.agg #[.int .i64 r1, .slice Ah0 r2.length ch0]) [.int .i64 r1, .slice Ah0 r2.length ch0] rfl rfl rfl (by simp [Value.oneCell']) (by kernel_rfl) BKg9.out rfl ?_; intro w_19 h1 hk hbb; have hb := hbb _ _ HV.out GLg9.out; clear hcz_g3_0 hcz_g3_1 hfz_g3_0 hfz_g3_1 hcz_g5_0 hcz_g5_1 hfz_g5_0 hfz_g5_1; have n_HB := Aside0.mk (below_step HB.out hb); have SZw_19 := Aside0.mk hb.size; have n_HOx := Aside0.mk (Kd.R_below HOx.out hb); have n_HOw0 := Aside0.mk (Kd.S_below HOw0.out hb); have n_BKg3 := Aside0.mk (blk_below BKg3.out hb); have n_BKg5 := Aside0.mk (blk_below BKg5.out hb); have n_HOz := Aside0.mk (Kd.R_below HOz.out hb); have n_HOg0 := Aside0.mk (Kd.S_below HOg0.out hb); have n_HOq := Aside0.mk (Kd.R_below HOq.out hb); have n_HOh0 := Aside0.mk (Kd.S_below HOh0.out hb); clear HB HOx HOw0 BKg3 BKg5 HOz HOg0 HOq HOh0; have HB := n_HB; have HOx := n_HOx; have HOw0 := n_HOw0; have BKg3 := n_BKg3; have BKg5 := n_BKg5; have HOz := n_HOz; have HOg0 := n_HOg0; have HOq := n_HOq; have HOh0 := n_HOh0; clear n_HB n_HOx n_HOw0 n_BKg3 n_BKg5 n_HOz n_HOg0 n_HOq n_HOh0; clear HV BKg9; have BKg9 := Aside0.mk (show w_19.heap[g9]? = some (.cells #[.int .i64 r1, .slice Ah0 r2.length ch0] 25 (0, 0)) from h1); have GHg9 := Aside0.mk (blk_lt h1); clear h1 hk hbb hb; have hcz_g3_0 : (w_19).cell? ⟨g3, 0, none⟩ = some (.int .i64 r1) := (blk_cell BKg3.out 0).trans rfl; have hcz_g3_1 : (w_19).cell? ⟨g3, 1, none⟩ = some (.slice Aw0 r2.length cw0) := (blk_cell BKg3.out 1).trans rfl; have hfz_g3_0 := blk_frozen BKg3.out 0; have hfz_g3_1 := blk_frozen BKg3.out 1; have hcz_g5_0 : (w_19).cell? ⟨g5, 0, none⟩ = some (.int .i64 r1) := (blk_cell BKg5.out 0).trans rfl; have hcz_g5_1 : (w_19).cell? ⟨g5, 1, none⟩ = some (.slice Ag0 r2.length cg0) := (blk_cell BKg5.out 1).trans rfl; have hfz_g5_0 := blk_frozen BKg5.out 0; have hfz_g5_1 := blk_frozen BKg5.out 1; have hcz_g9_0 : (w_19).cell? ⟨g9, 0, none⟩ = some (.int .i64 r1) := (blk_cell BKg9.out 0).trans rfl; have hcz_g9_1 : (w_19).cell? ⟨g9, 1, none⟩ = some (.slice Ah0 r2.length ch0) := (blk_cell BKg9.out 1).trans rfl; have hfz_g9_0 := blk_frozen BKg9.out 0; have hfz_g9_1 := blk_frozen BKg9.out 1))
  go_upto_region 25 with (first | ((with_reducible refine gate_callee (f := 8) rfl ?_); refine goesL_ (some 56) rfl rfl Tryd.func8 (by kernel_rfl) rfl #[.agg #[.int .i64 r1, .slice Ah0 r2.length ch0], .agg #[.int .i64 r1, .slice Aw0 r2.length cw0]] rfl (by (try simp only [List.map_toArray, List.map_cons, List.map_nil]); first | done | rfl) ?_; (with_reducible refine (laws_eqChunkRes.calls k r1 _ _ r2 r1 _ _ r2 true _ ?side1 ?side2 ?side3 ?side4 E4.out).mono ?_); (case side1 => exact (Kd.S_reads' HOh0.out).2.2); (case side2 => exact (Kd.S_reads' HOh0.out).2.1); (case side3 => exact (Kd.S_reads' HOw0.out).2.2); (case side4 => exact (Kd.S_reads' HOw0.out).2.1); rintro e w_20 ⟨rfl, hb⟩; refine ⟨_, rfl, ?_⟩; clear hcz_g3_0 hcz_g3_1 hfz_g3_0 hfz_g3_1 hcz_g5_0 hcz_g5_1 hfz_g5_0 hfz_g5_1 hcz_g9_0 hcz_g9_1 hfz_g9_0 hfz_g9_1; have n_HB := Aside0.mk (below_step HB.out hb); have SZw_20 := Aside0.mk hb.size; have n_HOx := Aside0.mk (Kd.R_below HOx.out hb); have n_HOw0 := Aside0.mk (Kd.S_below HOw0.out hb); have n_BKg3 := Aside0.mk (blk_below BKg3.out hb); have n_BKg5 := Aside0.mk (blk_below BKg5.out hb); have n_HOz := Aside0.mk (Kd.R_below HOz.out hb); have n_HOg0 := Aside0.mk (Kd.S_below HOg0.out hb); have n_HOq := Aside0.mk (Kd.R_below HOq.out hb); have n_HOh0 := Aside0.mk (Kd.S_below HOh0.out hb); have n_BKg9 := Aside0.mk (blk_below BKg9.out hb); clear HB HOx HOw0 BKg3 BKg5 HOz HOg0 HOq HOh0 BKg9; have HB := n_HB; have HOx := n_HOx; have HOw0 := n_HOw0; have BKg3 := n_BKg3; have BKg5 := n_BKg5; have HOz := n_HOz; have HOg0 := n_HOg0; have HOq := n_HOq; have HOh0 := n_HOh0; have BKg9 := n_BKg9; clear n_HB n_HOx n_HOw0 n_BKg3 n_BKg5 n_HOz n_HOg0 n_HOq n_HOh0 n_BKg9; clear hb; have hcz_g3_0 : (w_20).cell? ⟨g3, 0, none⟩ = some (.int .i64 r1) := (blk_cell BKg3.out 0).trans rfl; have hcz_g3_1 : (w_20).cell? ⟨g3, 1, none⟩ = some (.slice Aw0 r2.length cw0) := (blk_cell BKg3.out 1).trans rfl; have hfz_g3_0 := blk_frozen BKg3.out 0; have hfz_g3_1 := blk_frozen BKg3.out 1; have hcz_g5_0 : (w_20).cell? ⟨g5, 0, none⟩ = some (.int .i64 r1) := (blk_cell BKg5.out 0).trans rfl; have hcz_g5_1 : (w_20).cell? ⟨g5, 1, none⟩ = some (.slice Ag0 r2.length cg0) := (blk_cell BKg5.out 1).trans rfl; have hfz_g5_0 := blk_frozen BKg5.out 0; have hfz_g5_1 := blk_frozen BKg5.out 1; have hcz_g9_0 : (w_20).cell? ⟨g9, 0, none⟩ = some (.int .i64 r1) := (blk_cell BKg9.out 0).trans rfl; have hcz_g9_1 : (w_20).cell? ⟨g9, 1, none⟩ = some (.slice Ah0 r2.length ch0) := (blk_cell BKg9.out 1).trans rfl; have hfz_g9_0 := blk_frozen BKg9.out 0; have hfz_g9_1 := blk_frozen BKg9.out 1))
  go_wp2_with (first | ((with_reducible refine gate_callee (f := 12) rfl ?_); refine goesL_ (some 60) rfl rfl Tryd.func12 (by kernel_rfl) rfl #[.agg #[.int .i64 r1, .slice Ag0 r2'.length cg0], .int .i64 1] rfl (by (try simp only [List.map_toArray, List.map_cons, List.map_nil]); first | done | rfl | (rw [show r2'.length = r2.length from (Kd.S_reads' HOg0.out).1.symm] <;> rfl)) ?_; (with_reducible refine (laws_heldChunkRes.calls k r1 _ _ r2' 1 m _ ?side1 ?side2 E8.out).mono ?_); (case side1 => exact (Kd.S_reads' HOg0.out).2.2); (case side2 => exact Nat.le_trans (Nat.le_of_eq (Kd.S_reads' HOg0.out).1.symm) (Kd.S_reads' HOg0.out).2.1); rintro e w_21 ⟨rfl, hb⟩; refine ⟨_, rfl, ?_⟩; clear hcz_g3_0 hcz_g3_1 hfz_g3_0 hfz_g3_1 hcz_g5_0 hcz_g5_1 hfz_g5_0 hfz_g5_1 hcz_g9_0 hcz_g9_1 hfz_g9_0 hfz_g9_1; have n_HB := Aside0.mk (below_step HB.out hb); have SZw_21 := Aside0.mk hb.size; have n_HOx := Aside0.mk (Kd.R_below HOx.out hb); have n_HOw0 := Aside0.mk (Kd.S_below HOw0.out hb); have n_BKg3 := Aside0.mk (blk_below BKg3.out hb); have n_BKg5 := Aside0.mk (blk_below BKg5.out hb); have n_HOz := Aside0.mk (Kd.R_below HOz.out hb); have n_HOg0 := Aside0.mk (Kd.S_below HOg0.out hb); have n_HOq := Aside0.mk (Kd.R_below HOq.out hb); have n_HOh0 := Aside0.mk (Kd.S_below HOh0.out hb); have n_BKg9 := Aside0.mk (blk_below BKg9.out hb); clear HB HOx HOw0 BKg3 BKg5 HOz HOg0 HOq HOh0 BKg9; have HB := n_HB; have HOx := n_HOx; have HOw0 := n_HOw0; have BKg3 := n_BKg3; have BKg5 := n_BKg5; have HOz := n_HOz; have HOg0 := n_HOg0; have HOq := n_HOq; have HOh0 := n_HOh0; have BKg9 := n_BKg9; clear n_HB n_HOx n_HOw0 n_BKg3 n_BKg5 n_HOz n_HOg0 n_HOq n_HOh0 n_BKg9; clear hb; have hcz_g3_0 : (w_21).cell? ⟨g3, 0, none⟩ = some (.int .i64 r1) := (blk_cell BKg3.out 0).trans rfl; have hcz_g3_1 : (w_21).cell? ⟨g3, 1, none⟩ = some (.slice Aw0 r2.length cw0) := (blk_cell BKg3.out 1).trans rfl; have hfz_g3_0 := blk_frozen BKg3.out 0; have hfz_g3_1 := blk_frozen BKg3.out 1; have hcz_g5_0 : (w_21).cell? ⟨g5, 0, none⟩ = some (.int .i64 r1) := (blk_cell BKg5.out 0).trans rfl; have hcz_g5_1 : (w_21).cell? ⟨g5, 1, none⟩ = some (.slice Ag0 r2.length cg0) := (blk_cell BKg5.out 1).trans rfl; have hfz_g5_0 := blk_frozen BKg5.out 0; have hfz_g5_1 := blk_frozen BKg5.out 1; have hcz_g9_0 : (w_21).cell? ⟨g9, 0, none⟩ = some (.int .i64 r1) := (blk_cell BKg9.out 0).trans rfl; have hcz_g9_1 : (w_21).cell? ⟨g9, 1, none⟩ = some (.slice Ah0 r2.length ch0) := (blk_cell BKg9.out 1).trans rfl; have hfz_g9_0 := blk_frozen BKg9.out 0; have hfz_g9_1 := blk_frozen BKg9.out 1))
  go_ret
  exact ⟨rfl, HB.out⟩
theorem laws_FnExactReadChunks.walk (P : laws_FnExactReadChunks.Pure) (a0 : Option Addr) (len0 cap0 : Nat) (z0 : List Int) (w : World) (w0 : (a0 = none ∧ len0 = 0 ∧ cap0 = 0 ∧ z0 = []) ∨ ∃ x, a0 = some x ∧ len0 ≤ cap0 ∧ cap0 ≤ maxLen ∧ z0.length = cap0 ∧ (∀ i, i < z0.length → w.cell? (x.add i) = some (.int .u8 (z0.getD i 0))) ∧ ∀ n ∈ z0, (Lit.int .u8 n).wf = true) (y0 : len0 * 1 ≤ 140737488351232) (hM : MX w) :
    Calls Tryd.prog 3 #[.slice a0 len0 cap0] w fun e w' => e = .returned (.bool true) ∧ Below w.heap.size w w' := by
  obtain ⟨l0, rfl, hr0, hm0, hw0, hc0⟩ := ReadsInt.ofRowC w0
  exact laws_FnExactReadChunks.core _ _ l0 (P l0 hm0 y0 hw0) w (Kd.C_of_reads (d := (0 : Int)) (h1 := fun _ => rfl) hr0) hc0 hM

end Go.Proofs.YtofkbjmbohgikaaDoor.PFnExactReadChunks

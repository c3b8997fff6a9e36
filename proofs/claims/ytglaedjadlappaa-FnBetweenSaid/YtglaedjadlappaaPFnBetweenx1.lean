-- written by myprint.py (a program of this session's over the kit's print)
import Derived.Test.YtglaedjadlappaaPFnBetweenx0
namespace Go.Proofs.Ytglaedjadlappaa.PFnBetween
open Go.RowKit Go.Proofs.YtglaedjadlappaaW.PrintWords Go.Proofs.YtglaedjadlappaaW.PrintLast Go.Proofs.YtglaedjadlappaaW.PrintMore
attribute [local go_sem] max2_int min2_int max_two min_two max_three min_three max_four min_four   -- for this text's walks alone
set_option linter.unusedVariables false
set_option linter.unusedSimpArgs false

/-- A state of type 134 at block g of W; what its slices lead to came in by w0. -/
def IsS134 (w0 W : World) (g : Nat) (f0 : List Int) (f1 : Int) (f2 : Int) : Prop := ∃ A0 c0, W.heap[g]? = some (.cells #[.slice A0 f0.length c0, .int .i64 f1, .int .u64 f2] 134 (0, 0)) ∧ w0.heap.size ≤ g ∧ Kd.C (Kd.int .u8) w0 A0 f0.length f0
theorem IsS134.grown {w0 W : World} {g : Nat} {f0 : List Int} {f1 : Int} {f2 : Int} {W1 : World} {row : Option Nat} (h : IsS134 w0 W g f0 f1 f2) (hw : W.grownBy W1 row) (hne : some g ≠ row) : IsS134 w0 W1 g f0 f1 f2 := by
  obtain ⟨A0, c0, hb, hg, hr0⟩ := h
  exact ⟨A0, c0, blk_grown hb hw hne, hg, hr0⟩
theorem IsS134.own_neN {w0 W : World} {g : Nat} {f0 : List Int} {f1 : Int} {f2 : Int} {α : Type} {d : Kd α} {e : Nat} {base : Nat} {ok : Nat → Prop} {v : Value} {xs : List α} (h : IsS134 w0 W g f0 f1 f2) (ho : Kd.N d e W base ok v xs) (ht : e ≠ 134) : some g ≠ v.ownBlock := by
  obtain ⟨A0, c0, hb, hg, hr0⟩ := h
  exact Kd.N_ne ho hb ht
theorem IsS134.fresh {w0 W : World} {g : Nat} {f0 : List Int} {f1 : Int} {f2 : Int} (h : IsS134 w0 W g f0 f1 f2) : ∀ k, W.heap.size ≤ k → k ≠ g := by
  obtain ⟨A0, c0, hb, hg, hr0⟩ := h
  exact Kd.freshB hb
theorem IsS134.kept {w0 W : World} {g : Nat} {f0 : List Int} {f1 : Int} {f2 : Int} {W1 : World} {S : Nat → Prop} (h : IsS134 w0 W g f0 f1 f2) (hk : Kept W W1 S) (hne : ¬ S g) : IsS134 w0 W1 g f0 f1 f2 := by
  obtain ⟨A0, c0, hb, hg, hr0⟩ := h
  exact ⟨A0, c0, blk_kept hb hk hne, hg, hr0⟩
theorem IsS134.below {w0 W : World} {g : Nat} {f0 : List Int} {f1 : Int} {f2 : Int} {W1 : World} (h : IsS134 w0 W g f0 f1 f2) (hw : Below W.heap.size W W1) : IsS134 w0 W1 g f0 f1 f2 := h.grown (grown_of_below hw none) (by simp)
theorem IsS134.alloc {w0 W : World} {g : Nat} {f0 : List Int} {f1 : Int} {f2 : Int} (h : IsS134 w0 W g f0 f1 f2) (o : Obj) : IsS134 w0 (W.alloc o) g f0 f1 f2 := h.below (below_alloc (Below.refl _ _) o)
theorem IsS134.drewN {w0 W : World} {g : Nat} {f0 : List Int} {f1 : Int} {f2 : Int} (h : IsS134 w0 W g f0 f1 f2) (m : Nat) : IsS134 w0 (W.drewN m) g f0 f1 f2 := h
theorem IsS134.drew {w0 W : World} {g : Nat} {f0 : List Int} {f1 : Int} {f2 : Int} (h : IsS134 w0 W g f0 f1 f2) : IsS134 w0 W.drew g f0 f1 f2 := h
theorem IsS134.at_ {w0 W : World} {g : Nat} {f0 : List Int} {f1 : Int} {f2 : Int} {w' : World} {m : Nat} (hq : W.drewN m = w') (h : IsS134 w0 W g f0 f1 f2) : IsS134 w0 w' g f0 f1 f2 := by subst hq; exact IsS134.drewN h m
theorem IsS134.apart {w0 W : World} {g : Nat} {f0 : List Int} {f1 : Int} {f2 : Int} {α : Type} {d : Kd α} {e : Nat} {base : Nat} {ok : Nat → Prop} {v : Value} {xs : List α} (h : IsS134 w0 W g f0 f1 f2) (ho : d.R e W base ok v xs) (ht : ∀ q, q ∈ e :: d.E → q ≠ 134) : d.R e W base (fun k => ok k ∧ k ≠ g) v xs := by
  obtain ⟨A0, c0, hb, hg, hr0⟩ := h
  exact Kd.R_types ho hb ht
theorem IsS134.own_ne {w0 W : World} {g : Nat} {f0 : List Int} {f1 : Int} {f2 : Int} {α : Type} {d : Kd α} {e : Nat} {base : Nat} {ok : Nat → Prop} {v : Value} {xs : List α} (h : IsS134 w0 W g f0 f1 f2) (ho : d.R e W base ok v xs) (ht : e ≠ 134) : some g ≠ v.ownBlock := by
  obtain ⟨A0, c0, hb, hg, hr0⟩ := h
  exact Kd.R_ne ho hb ht
theorem IsS134.apartQ {w0 W : World} {g : Nat} {f0 : List Int} {f1 : Int} {f2 : Int} {α : Type} {d : Kd α} {e : Nat} {base : Nat} {ok : Nat → Prop} {v : Value} {xs : List α} (h : IsS134 w0 W g f0 f1 f2) (ho : d.Q e W base ok v xs) (ht : ∀ q, q ∈ e :: d.E → q ≠ 134) : d.Q e W base (fun k => ok k ∧ k ≠ g) v xs := by
  obtain ⟨A0, c0, hb, hg, hr0⟩ := h
  exact Kd.Q_types ho hb ht
theorem IsS134.own_neQ {w0 W : World} {g : Nat} {f0 : List Int} {f1 : Int} {f2 : Int} {α : Type} {d : Kd α} {e : Nat} {base : Nat} {ok : Nat → Prop} {v : Value} {xs : List α} (h : IsS134 w0 W g f0 f1 f2) (ho : d.Q e W base ok v xs) (ht : e ≠ 134) : some g ≠ v.ownBlock := by
  obtain ⟨A0, c0, hb, hg, hr0⟩ := h
  exact Kd.Q_ne ho hb ht
theorem IsS134.apartS {w0 W : World} {g : Nat} {f0 : List Int} {f1 : Int} {f2 : Int} {α : Type} {d : Kd α} {e : Nat} {base : Nat} {ok : Nat → Prop} {v : Value} {xs : List α} (h : IsS134 w0 W g f0 f1 f2) (ho : d.S e W base ok v xs) (ht : ∀ q, q ∈ e :: d.E → q ≠ 134) : d.S e W base (fun k => ok k ∧ k ≠ g) v xs := by
  obtain ⟨A0, c0, hb, hg, hr0⟩ := h
  exact Kd.S_types ho hb ht
theorem IsS134.own_neS {w0 W : World} {g : Nat} {f0 : List Int} {f1 : Int} {f2 : Int} {α : Type} {d : Kd α} {e : Nat} {base : Nat} {ok : Nat → Prop} {v : Value} {xs : List α} (h : IsS134 w0 W g f0 f1 f2) (ho : d.S e W base ok v xs) (ht : e ≠ 134) : some g ≠ v.ownBlock := by
  obtain ⟨A0, c0, hb, hg, hr0⟩ := h
  exact Kd.S_ne ho hb ht
theorem IsS134.lt {w0 W : World} {g : Nat} {f0 : List Int} {f1 : Int} {f2 : Int} (h : IsS134 w0 W g f0 f1 f2) : g < W.heap.size := by
  obtain ⟨A0, c0, hb, hg, hr0⟩ := h
  exact blk_lt hb
theorem IsS134.ge {w0 W : World} {g : Nat} {f0 : List Int} {f1 : Int} {f2 : Int} (h : IsS134 w0 W g f0 f1 f2) : w0.heap.size ≤ g := by
  obtain ⟨A0, c0, hb, hg, hr0⟩ := h
  exact hg
theorem IsS134.ne_blk {w0 W : World} {g : Nat} {f0 : List Int} {f1 : Int} {f2 : Int} {a : Nat} {cs : Array Value} {t : TypeId} {fr : Nat × Nat} (h : IsS134 w0 W g f0 f1 f2) (hb2 : W.heap[a]? = some (.cells cs t fr)) (ht : t ≠ 134) : g ≠ a := by
  obtain ⟨A0, c0, hb, hg, hr0⟩ := h
  rintro rfl
  rw [hb] at hb2
  injection hb2 with hb2
  injection hb2 with _ ht2
  exact ht ht2.symm
theorem IsS134.far {w0 W : World} {g : Nat} {f0 : List Int} {f1 : Int} {f2 : Int} {p : Addr} (h : IsS134 w0 W g f0 f1 f2) (hne : g ≠ p.block) (u : Value) : IsS134 w0 (W.setCell p u) g f0 f1 f2 := by
  obtain ⟨A0, c0, hb, hg, hr0⟩ := h
  exact ⟨A0, c0, blk_far hb hne u, hg, hr0⟩
theorem cellS134_0 {W : World} {g : Nat} {A0 : Option Addr} {c0 : Nat} {f0 : List Int} {f1 : Int} {f2 : Int} (h : W.heap[g]? = some (.cells #[.slice A0 f0.length c0, .int .i64 f1, .int .u64 f2] 134 (0, 0))) : W.cell? ⟨g, 0, none⟩ = some (.slice A0 f0.length c0) := (blk_cell h 0).trans rfl
theorem cellS134_1 {W : World} {g : Nat} {A0 : Option Addr} {c0 : Nat} {f0 : List Int} {f1 : Int} {f2 : Int} (h : W.heap[g]? = some (.cells #[.slice A0 f0.length c0, .int .i64 f1, .int .u64 f2] 134 (0, 0))) : W.cell? ⟨g, 1, none⟩ = some (.int .i64 f1) := (blk_cell h 1).trans rfl
theorem IsS134.set_1 {w0 W : World} {g : Nat} {f0 : List Int} {f1 : Int} {f2 : Int} (h : IsS134 w0 W g f0 f1 f2) (x : Int) : IsS134 w0 (W.setCell ⟨g, 1, none⟩ (.int .i64 x)) g f0 x f2 := by
  obtain ⟨A0, c0, hb, hg, hr0⟩ := h
  exact ⟨A0, c0, by simpa using blk_set hb 1 (.int .i64 x), hg, hr0⟩
theorem cellS134_2 {W : World} {g : Nat} {A0 : Option Addr} {c0 : Nat} {f0 : List Int} {f1 : Int} {f2 : Int} (h : W.heap[g]? = some (.cells #[.slice A0 f0.length c0, .int .i64 f1, .int .u64 f2] 134 (0, 0))) : W.cell? ⟨g, 2, none⟩ = some (.int .u64 f2) := (blk_cell h 2).trans rfl
theorem IsS134.set_2 {w0 W : World} {g : Nat} {f0 : List Int} {f1 : Int} {f2 : Int} (h : IsS134 w0 W g f0 f1 f2) (x : Int) : IsS134 w0 (W.setCell ⟨g, 2, none⟩ (.int .u64 x)) g f0 f1 x := by
  obtain ⟨A0, c0, hb, hg, hr0⟩ := h
  exact ⟨A0, c0, by simpa using blk_set hb 2 (.int .u64 x), hg, hr0⟩
theorem IsS134.new (w0 W : World) (A0 : Option Addr) (c0 : Nat) (f0 : List Int) (f1 : Int) (f2 : Int) (hB : Below w0.heap.size w0 W) (hr0 : Kd.C (Kd.int .u8) w0 A0 f0.length f0) : IsS134 w0 (W.alloc (.cells #[.slice A0 f0.length c0, .int .i64 f1, .int .u64 f2] 134)) W.heap.size f0 f1 f2 := ⟨A0, c0, by simpa using heap_alloc_new W _, hB.size, hr0⟩

/-! ### spec_l1Cur_next: function 160 -/
def spec_l1Cur_next.f (s0_0 : List Int) (s0_1 : Int) (s0_2 : Int) : Option (Int × Int × Int) := if s0_1 < (s0_0.length : Int) then (if 0 ≤ s0_1 then (if (wrap64 (s0_1 + 1)) ≤ (s0_0.length : Int) then (some (wrap64 (rd s0_0 s0_1), wrap64 (s0_1 + 1), IntKind.u64.wrap ((IntKind.u64.wrap ((IntKind.u64.wrap (s0_2 * 6364136223846793005)) + (IntKind.u64.wrap (wrap64 (rd s0_0 s0_1))))) + 1442695040888963407))) else (some (wrap64 (Go.bits .and .u64 ((IntKind.u64.wrap ((IntKind.u64.wrap ((IntKind.u64.wrap (s0_2 * 6364136223846793005)) + (IntKind.u64.wrap (wrap64 (rd s0_0 s0_1))))) + 1442695040888963407)) / 1099511627776) 255), wrap64 (s0_1 + 1), IntKind.u64.wrap ((IntKind.u64.wrap ((IntKind.u64.wrap (s0_2 * 6364136223846793005)) + (IntKind.u64.wrap (wrap64 (rd s0_0 s0_1))))) + 1442695040888963407)))) else (none)) else (if (wrap64 (s0_1 + 1)) ≤ (s0_0.length : Int) then (some (0, wrap64 (s0_1 + 1), IntKind.u64.wrap ((IntKind.u64.wrap ((IntKind.u64.wrap (s0_2 * 6364136223846793005)))) + 1442695040888963407))) else (some (wrap64 (Go.bits .and .u64 ((IntKind.u64.wrap ((IntKind.u64.wrap ((IntKind.u64.wrap (s0_2 * 6364136223846793005)))) + 1442695040888963407)) / 1099511627776) 255), wrap64 (s0_1 + 1), IntKind.u64.wrap ((IntKind.u64.wrap ((IntKind.u64.wrap (s0_2 * 6364136223846793005)))) + 1442695040888963407))))
set_option maxHeartbeats 8000000 in
set_option maxRecDepth 100000 in
theorem spec_l1Cur_next.calls (g : Nat) (s0_0 : List Int) (s0_1 : Int) (s0_2 : Int) (r1 : Int) (r2 : Int) (r3 : Int) (w0 w : World) (hI : IsS134 w0 w g s0_0 s0_1 s0_2) (hB : Below w0.heap.size w0 w) (h : spec_l1Cur_next.f s0_0 s0_1 s0_2 = some (r1, r2, r3)) :
    Calls Try.prog 160 #[.pointer (some ⟨g, 0, none⟩)] w fun e w' => e = .returned (.int .i64 r1) ∧ IsS134 w0 w' g s0_0 r2 r3 ∧ Below w0.heap.size w0 w' ∧ KeepBut w w' g none := by
  have HI0 := Aside0.mk hI
  have HK := Aside0.mk (KeepBut.refl w g none)
  have HL := Aside0.mk hB.size
  clear hI
  have HW0 := Aside0.mk hB.size
  have HB := Aside0.mk hB
  clear hB
  have H : (if s0_1 < (s0_0.length : Int) then (if 0 ≤ s0_1 then (if (wrap64 (s0_1 + 1)) ≤ (s0_0.length : Int) then (some (wrap64 (rd s0_0 s0_1), wrap64 (s0_1 + 1), IntKind.u64.wrap ((IntKind.u64.wrap ((IntKind.u64.wrap (s0_2 * 6364136223846793005)) + (IntKind.u64.wrap (wrap64 (rd s0_0 s0_1))))) + 1442695040888963407))) else (some (wrap64 (Go.bits .and .u64 ((IntKind.u64.wrap ((IntKind.u64.wrap ((IntKind.u64.wrap (s0_2 * 6364136223846793005)) + (IntKind.u64.wrap (wrap64 (rd s0_0 s0_1))))) + 1442695040888963407)) / 1099511627776) 255), wrap64 (s0_1 + 1), IntKind.u64.wrap ((IntKind.u64.wrap ((IntKind.u64.wrap (s0_2 * 6364136223846793005)) + (IntKind.u64.wrap (wrap64 (rd s0_0 s0_1))))) + 1442695040888963407)))) else (none)) else (if (wrap64 (s0_1 + 1)) ≤ (s0_0.length : Int) then (some (0, wrap64 (s0_1 + 1), IntKind.u64.wrap ((IntKind.u64.wrap ((IntKind.u64.wrap (s0_2 * 6364136223846793005)))) + 1442695040888963407))) else (some (wrap64 (Go.bits .and .u64 ((IntKind.u64.wrap ((IntKind.u64.wrap ((IntKind.u64.wrap (s0_2 * 6364136223846793005)))) + 1442695040888963407)) / 1099511627776) 255), wrap64 (s0_1 + 1), IntKind.u64.wrap ((IntKind.u64.wrap ((IntKind.u64.wrap (s0_2 * 6364136223846793005)))) + 1442695040888963407))))) = some (r1, r2, r3) := h
  clear h
  by_cases c2 : s0_1 < (s0_0.length : Int)
  rotate_left
  · rw [if_neg c2] at H
    have c2b0 : decide (s0_1 < (s0_0.length : Int)) = false := decide_eq_false c2
    clear c2
    by_cases c7 : (wrap64 (s0_1 + 1)) ≤ (s0_0.length : Int)
    · rw [if_pos c7] at H
      have c7b0 : decide ((wrap64 (s0_1 + 1)) ≤ (s0_0.length : Int)) = true := decide_eq_true c7
      clear c7
      simp only [Option.some.injEq, Prod.mk.injEq] at H
      obtain ⟨rfl, rfl, rfl⟩ := H
      obtain ⟨ASz8_0, cSz8_0, HGz8, hgz8, HSz8_0⟩ := HI0.out
      have hcz8_0 := cellS134_0 HGz8
      have hcz8_1 := cellS134_1 HGz8
      have hcz8_2 := cellS134_2 HGz8
      have hfz8_1 := blk_frozen HGz8 1
      have hfz8_2 := blk_frozen HGz8 2
      clear HGz8 hgz8
      go_enter Try.func160, Try.ntmps160
      go_wp2
      repeat (go_quiet (fail); try go_wp2)
      go_ret
      exact ⟨by first | rfl | (simp [errW_none, errW_some] <;> rfl) | (simp [*, errW_none, errW_some] <;> rfl), by repeat (first | (with_reducible first | exact HI0.out | apply IsS134.alloc | apply IsS134.drewN | apply IsS134.drew | apply IsS134.set_1 | apply IsS134.set_2) | exact HI0.out), by repeat (first | (with_reducible first | exact HB.out | apply below_alloc | apply pw_below_drewN | apply below_drew1 | refine below_set ?_ (IsS134.ge HI0.out)) | exact HB.out), by repeat (first | (with_reducible first | exact HK.out | apply KeepBut.set_ | apply keep_drewN | apply keep_drew | apply keep_alloc) | exact HK.out)⟩
    rw [if_neg c7] at H
    have c7b0 : decide ((wrap64 (s0_1 + 1)) ≤ (s0_0.length : Int)) = false := decide_eq_false c7
    clear c7
    simp only [Option.some.injEq, Prod.mk.injEq] at H
    obtain ⟨rfl, rfl, rfl⟩ := H
    obtain ⟨ASz9_0, cSz9_0, HGz9, hgz9, HSz9_0⟩ := HI0.out
    have hcz9_0 := cellS134_0 HGz9
    have hcz9_1 := cellS134_1 HGz9
    have hcz9_2 := cellS134_2 HGz9
    have hfz9_1 := blk_frozen HGz9 1
    have hfz9_2 := blk_frozen HGz9 2
    clear HGz9 hgz9
    go_enter Try.func160, Try.ntmps160
    go_wp2
    repeat (go_quiet (fail); try go_wp2)
    go_ret
    exact ⟨by first | rfl | (simp [errW_none, errW_some] <;> rfl) | (simp [*, errW_none, errW_some] <;> rfl), by repeat (first | (with_reducible first | exact HI0.out | apply IsS134.alloc | apply IsS134.drewN | apply IsS134.drew | apply IsS134.set_1 | apply IsS134.set_2) | exact HI0.out), by repeat (first | (with_reducible first | exact HB.out | apply below_alloc | apply pw_below_drewN | apply below_drew1 | refine below_set ?_ (IsS134.ge HI0.out)) | exact HB.out), by repeat (first | (with_reducible first | exact HK.out | apply KeepBut.set_ | apply keep_drewN | apply keep_drew | apply keep_alloc) | exact HK.out)⟩
  rw [if_pos c2] at H
  have c2b0 : decide (s0_1 < (s0_0.length : Int)) = true := decide_eq_true c2
  clear c2
  by_cases c3 : 0 ≤ s0_1
  rotate_left
  · rw [if_neg c3] at H
    exact absurd H (by simp)
  rw [if_pos c3] at H
  have c3b0 : decide (0 ≤ s0_1) = true := decide_eq_true c3
  clear c3
  by_cases c4 : (wrap64 (s0_1 + 1)) ≤ (s0_0.length : Int)
  · rw [if_pos c4] at H
    have c4b0 : decide ((wrap64 (s0_1 + 1)) ≤ (s0_0.length : Int)) = true := decide_eq_true c4
    clear c4
    simp only [Option.some.injEq, Prod.mk.injEq] at H
    obtain ⟨rfl, rfl, rfl⟩ := H
    obtain ⟨ASz5_0, cSz5_0, HGz5, hgz5, HSz5_0⟩ := HI0.out
    have hcz5_0 := cellS134_0 HGz5
    have hcz5_1 := cellS134_1 HGz5
    have hcz5_2 := cellS134_2 HGz5
    have hfz5_1 := blk_frozen HGz5 1
    have hfz5_2 := blk_frozen HGz5 2
    clear HGz5 hgz5
    have p101 : 0 ≤ (s0_1 : Int) := of_decide_eq_true (by first | (with_reducible assumption) | assumption)
    have q101 : s0_1 < (s0_0.length : Int) := of_decide_eq_true (by first | (with_reducible assumption) | assumption)
    obtain ⟨ad101, e101, hx101_0⟩ := Kd.at_int HSz5_0 s0_1 p101 q101
    cases e101
    replace hx101_0 := pw_cell_below HB.out hx101_0
    replace p101 := eq_true p101
    replace q101 := eq_true q101
    go_enter Try.func160, Try.ntmps160
    go_wp2
    repeat (go_quiet (fail); try go_wp2)
    go_ret
    exact ⟨by first | rfl | (simp [errW_none, errW_some] <;> rfl) | (simp [*, errW_none, errW_some] <;> rfl), by repeat (first | (with_reducible first | exact HI0.out | apply IsS134.alloc | apply IsS134.drewN | apply IsS134.drew | apply IsS134.set_1 | apply IsS134.set_2) | exact HI0.out), by repeat (first | (with_reducible first | exact HB.out | apply below_alloc | apply pw_below_drewN | apply below_drew1 | refine below_set ?_ (IsS134.ge HI0.out)) | exact HB.out), by repeat (first | (with_reducible first | exact HK.out | apply KeepBut.set_ | apply keep_drewN | apply keep_drew | apply keep_alloc) | exact HK.out)⟩
  rw [if_neg c4] at H
  have c4b0 : decide ((wrap64 (s0_1 + 1)) ≤ (s0_0.length : Int)) = false := decide_eq_false c4
  clear c4
  simp only [Option.some.injEq, Prod.mk.injEq] at H
  obtain ⟨rfl, rfl, rfl⟩ := H
  obtain ⟨ASz6_0, cSz6_0, HGz6, hgz6, HSz6_0⟩ := HI0.out
  have hcz6_0 := cellS134_0 HGz6
  have hcz6_1 := cellS134_1 HGz6
  have hcz6_2 := cellS134_2 HGz6
  have hfz6_1 := blk_frozen HGz6 1
  have hfz6_2 := blk_frozen HGz6 2
  clear HGz6 hgz6
  have p101 : 0 ≤ (s0_1 : Int) := of_decide_eq_true (by first | (with_reducible assumption) | assumption)
  have q101 : s0_1 < (s0_0.length : Int) := of_decide_eq_true (by first | (with_reducible assumption) | assumption)
  obtain ⟨ad101, e101, hx101_0⟩ := Kd.at_int HSz6_0 s0_1 p101 q101
  cases e101
  replace hx101_0 := pw_cell_below HB.out hx101_0
  replace p101 := eq_true p101
  replace q101 := eq_true q101
  go_enter Try.func160, Try.ntmps160
  go_wp2
  repeat (go_quiet (fail); try go_wp2)
  go_ret
  exact ⟨by first | rfl | (simp [errW_none, errW_some] <;> rfl) | (simp [*, errW_none, errW_some] <;> rfl), by repeat (first | (with_reducible first | exact HI0.out | apply IsS134.alloc | apply IsS134.drewN | apply IsS134.drew | apply IsS134.set_1 | apply IsS134.set_2) | exact HI0.out), by repeat (first | (with_reducible first | exact HB.out | apply below_alloc | apply pw_below_drewN | apply below_drew1 | refine below_set ?_ (IsS134.ge HI0.out)) | exact HB.out), by repeat (first | (with_reducible first | exact HK.out | apply KeepBut.set_ | apply keep_drewN | apply keep_drew | apply keep_alloc) | exact HK.out)⟩

/-! ### spec_l1Cur_pick: function 95 -/
def spec_l1Cur_pick.f (s0_0 : List Int) (s0_1 : Int) (s0_2 : Int) (a1 : Int) : Option (Int × Int × Int) := if a1 ≤ 1 then (some (0, s0_1, s0_2)) else ((spec_l1Cur_next.f s0_0 s0_1 s0_2).bind fun bt102 => (if a1 > 200 then ((spec_l1Cur_next.f s0_0 bt102.2.1 bt102.2.2).bind fun bt105 => (if a1 > 50000 then ((spec_l1Cur_next.f s0_0 bt105.2.1 bt105.2.2).bind fun bt108 => (if a1 = 0 then (none) else (some (Int.tmod (wrap64 ((wrap64 ((wrap64 ((wrap64 (bt102.1 * 256)) + bt105.1)) * 256)) + bt108.1)) a1, bt108.2.1, bt108.2.2)))) else (if a1 = 0 then (none) else (some (Int.tmod (wrap64 ((wrap64 (bt102.1 * 256)) + bt105.1)) a1, bt105.2.1, bt105.2.2))))) else (if a1 > 50000 then ((spec_l1Cur_next.f s0_0 bt102.2.1 bt102.2.2).bind fun bt111 => (if a1 = 0 then (none) else (some (Int.tmod (wrap64 ((wrap64 (bt102.1 * 256)) + bt111.1)) a1, bt111.2.1, bt111.2.2)))) else (if a1 = 0 then (none) else (some (Int.tmod bt102.1 a1, bt102.2.1, bt102.2.2))))))
set_option maxHeartbeats 8000000 in
set_option maxRecDepth 100000 in
theorem spec_l1Cur_pick.calls (g : Nat) (s0_0 : List Int) (s0_1 : Int) (s0_2 : Int) (a1 : Int) (r1 : Int) (r2 : Int) (r3 : Int) (w0 w : World) (hI : IsS134 w0 w g s0_0 s0_1 s0_2) (hB : Below w0.heap.size w0 w) (h : spec_l1Cur_pick.f s0_0 s0_1 s0_2 a1 = some (r1, r2, r3)) :
    Calls Try.prog 95 #[.pointer (some ⟨g, 0, none⟩), .int .i64 a1] w fun e w' => e = .returned (.int .i64 r1) ∧ IsS134 w0 w' g s0_0 r2 r3 ∧ Below w0.heap.size w0 w' ∧ KeepBut w w' g none := by
  have HI0 := Aside0.mk hI
  have HK := Aside0.mk (KeepBut.refl w g none)
  have HL := Aside0.mk hB.size
  clear hI
  have HW0 := Aside0.mk hB.size
  have HB := Aside0.mk hB
  clear hB
  have H : (if a1 ≤ 1 then (some (0, s0_1, s0_2)) else ((spec_l1Cur_next.f s0_0 s0_1 s0_2).bind fun bt102 => (if a1 > 200 then ((spec_l1Cur_next.f s0_0 bt102.2.1 bt102.2.2).bind fun bt105 => (if a1 > 50000 then ((spec_l1Cur_next.f s0_0 bt105.2.1 bt105.2.2).bind fun bt108 => (if a1 = 0 then (none) else (some (Int.tmod (wrap64 ((wrap64 ((wrap64 ((wrap64 (bt102.1 * 256)) + bt105.1)) * 256)) + bt108.1)) a1, bt108.2.1, bt108.2.2)))) else (if a1 = 0 then (none) else (some (Int.tmod (wrap64 ((wrap64 (bt102.1 * 256)) + bt105.1)) a1, bt105.2.1, bt105.2.2))))) else (if a1 > 50000 then ((spec_l1Cur_next.f s0_0 bt102.2.1 bt102.2.2).bind fun bt111 => (if a1 = 0 then (none) else (some (Int.tmod (wrap64 ((wrap64 (bt102.1 * 256)) + bt111.1)) a1, bt111.2.1, bt111.2.2)))) else (if a1 = 0 then (none) else (some (Int.tmod bt102.1 a1, bt102.2.1, bt102.2.2))))))) = some (r1, r2, r3) := h
  clear h
  by_cases c3 : a1 ≤ 1
  · rw [if_pos c3] at H
    have c3b0 : decide (a1 ≤ 1) = true := decide_eq_true c3
    clear c3
    simp only [Option.some.injEq, Prod.mk.injEq] at H
    obtain ⟨rfl, rfl, rfl⟩ := H
    go_enter Try.func95, Try.ntmps95
    go_wp2
    go_ret
    exact ⟨by first | rfl | (simp [errW_none, errW_some] <;> rfl) | (simp [*, errW_none, errW_some] <;> rfl), by repeat (first | (with_reducible first | exact HI0.out | apply IsS134.alloc | apply IsS134.drewN | apply IsS134.drew | apply IsS134.set_1 | apply IsS134.set_2) | exact HI0.out), by repeat (first | (with_reducible first | exact HB.out | apply below_alloc | apply pw_below_drewN | apply below_drew1 | refine below_set ?_ (IsS134.ge HI0.out)) | exact HB.out), by repeat (first | (with_reducible first | exact HK.out | apply KeepBut.set_ | apply keep_drewN | apply keep_drew | apply keep_alloc) | exact HK.out)⟩
  rw [if_neg c3] at H
  have c3b0 : decide (a1 ≤ 1) = false := decide_eq_false c3
  clear c3
  replace H := Option.bind_eq_some_iff.mp H
  obtain ⟨⟨t102, t103, t104⟩, A40, H⟩ := H
  replace H : (if a1 > 200 then ((spec_l1Cur_next.f s0_0 t103 t104).bind fun bt105 => (if a1 > 50000 then ((spec_l1Cur_next.f s0_0 bt105.2.1 bt105.2.2).bind fun bt108 => (if a1 = 0 then (none) else (some (Int.tmod (wrap64 ((wrap64 ((wrap64 ((wrap64 (t102 * 256)) + bt105.1)) * 256)) + bt108.1)) a1, bt108.2.1, bt108.2.2)))) else (if a1 = 0 then (none) else (some (Int.tmod (wrap64 ((wrap64 (t102 * 256)) + bt105.1)) a1, bt105.2.1, bt105.2.2))))) else (if a1 > 50000 then ((spec_l1Cur_next.f s0_0 t103 t104).bind fun bt111 => (if a1 = 0 then (none) else (some (Int.tmod (wrap64 ((wrap64 (t102 * 256)) + bt111.1)) a1, bt111.2.1, bt111.2.2)))) else (if a1 = 0 then (none) else (some (Int.tmod t102 a1, t103, t104))))) = some (r1, r2, r3) := H
  have A4 := Aside0.mk A40
  clear A40
  by_cases c5 : a1 > 200
  rotate_left
  · rw [if_neg c5] at H
    have c5b0 : decide (200 < a1) = false := decide_eq_false c5
    clear c5
    by_cases c16 : a1 > 50000
    rotate_left
    · rw [if_neg c16] at H
      have c16b0 : decide (50000 < a1) = false := decide_eq_false c16
      clear c16
      by_cases c21 : a1 = 0
      · rw [if_pos c21] at H
        exact absurd H (by simp)
      rw [if_neg c21] at H
      have c21b0 : (a1 == 0) = false := beq_eq_false_iff_ne.mpr c21
      have c21b1 : (a1 != 0) = true := bne_iff_ne.mpr c21
      simp only [Option.some.injEq, Prod.mk.injEq] at H
      obtain ⟨rfl, rfl, rfl⟩ := H
      go_enter Try.func95, Try.ntmps95
      go_wp2_with (first | ((with_reducible refine gate_callee (f := 160) rfl ?_); refine goesL_ (some 9) rfl rfl Try.func160 (by kernel_rfl) rfl #[.pointer (some ⟨g, 0, none⟩)] rfl (by (try simp only [List.map_toArray, List.map_cons, List.map_nil]); first | done | rfl | (simp only [List.length_drop, List.length_take]; rfl)) ?_; (with_reducible refine (spec_l1Cur_next.calls g s0_0 s0_1 s0_2 t102 t103 t104 w0 _ ?side1 ?side2 A4.out).mono ?_); (case side1 => repeat (first | (with_reducible first | exact HI0.out | apply IsS134.alloc | apply IsS134.drewN | apply IsS134.drew | apply IsS134.set_1 | apply IsS134.set_2) | exact HI0.out)); (case side2 => repeat (first | (with_reducible first | exact HB.out | apply below_alloc | apply pw_below_drewN | apply below_drew1 | refine below_set ?_ (IsS134.ge HI0.out)) | exact HB.out)); rintro e w22 ⟨rfl, hi, hb, hk⟩; refine ⟨_, rfl, ?_⟩; have n0_ := Aside0.mk (KeepBut.trans (by repeat (first | (with_reducible first | exact HK.out | apply KeepBut.set_ | apply keep_drewN | apply keep_drew | apply keep_alloc) | exact HK.out)) hk (.inl rfl)); have n1_ := Aside0.mk (hb); have n2_ := Aside0.mk (hi); clear HK; clear HB; clear HI0; have HK := n0_; have HB := n1_; have HI0 := n2_; clear n0_ n1_ n2_; (try clear hb); (try clear hb2); (try clear hk); (try clear hi)))
      go_ret
      exact ⟨by first | rfl | (simp [errW_none, errW_some] <;> rfl) | (simp [*, errW_none, errW_some] <;> rfl), by repeat (first | (with_reducible first | exact HI0.out | apply IsS134.alloc | apply IsS134.drewN | apply IsS134.drew | apply IsS134.set_1 | apply IsS134.set_2) | exact HI0.out), by repeat (first | (with_reducible first | exact HB.out | apply below_alloc | apply pw_below_drewN | apply below_drew1 | refine below_set ?_ (IsS134.ge HI0.out)) | exact HB.out), by repeat (first | (with_reducible first | exact HK.out | apply KeepBut.set_ | apply keep_drewN | apply keep_drew | apply keep_alloc) | exact HK.out)⟩
    rw [if_pos c16] at H
    have c16b0 : decide (50000 < a1) = true := decide_eq_true c16
    clear c16
    replace H := Option.bind_eq_some_iff.mp H
    obtain ⟨⟨t111, t112, t113⟩, A170, H⟩ := H
    replace H : (if a1 = 0 then (none) else (some (Int.tmod (wrap64 ((wrap64 (t102 * 256)) + t111)) a1, t112, t113))) = some (r1, r2, r3) := H
    have A17 := Aside0.mk A170
    clear A170
    by_cases c18 : a1 = 0
    · rw [if_pos c18] at H
      exact absurd H (by simp)
    rw [if_neg c18] at H
    have c18b0 : (a1 == 0) = false := beq_eq_false_iff_ne.mpr c18
    have c18b1 : (a1 != 0) = true := bne_iff_ne.mpr c18
    simp only [Option.some.injEq, Prod.mk.injEq] at H
    obtain ⟨rfl, rfl, rfl⟩ := H
    go_enter Try.func95, Try.ntmps95
    go_wp2_with (first | ((with_reducible refine gate_callee (f := 160) rfl ?_); refine goesL_ (some 9) rfl rfl Try.func160 (by kernel_rfl) rfl #[.pointer (some ⟨g, 0, none⟩)] rfl (by (try simp only [List.map_toArray, List.map_cons, List.map_nil]); first | done | rfl | (simp only [List.length_drop, List.length_take]; rfl)) ?_; (with_reducible refine (spec_l1Cur_next.calls g s0_0 s0_1 s0_2 t102 t103 t104 w0 _ ?side1 ?side2 A4.out).mono ?_); (case side1 => repeat (first | (with_reducible first | exact HI0.out | apply IsS134.alloc | apply IsS134.drewN | apply IsS134.drew | apply IsS134.set_1 | apply IsS134.set_2) | exact HI0.out)); (case side2 => repeat (first | (with_reducible first | exact HB.out | apply below_alloc | apply pw_below_drewN | apply below_drew1 | refine below_set ?_ (IsS134.ge HI0.out)) | exact HB.out)); rintro e w19 ⟨rfl, hi, hb, hk⟩; refine ⟨_, rfl, ?_⟩; have n0_ := Aside0.mk (KeepBut.trans (by repeat (first | (with_reducible first | exact HK.out | apply KeepBut.set_ | apply keep_drewN | apply keep_drew | apply keep_alloc) | exact HK.out)) hk (.inl rfl)); have n1_ := Aside0.mk (hb); have n2_ := Aside0.mk (hi); clear HK; clear HB; clear HI0; have HK := n0_; have HB := n1_; have HI0 := n2_; clear n0_ n1_ n2_; (try clear hb); (try clear hb2); (try clear hk); (try clear hi)) | ((with_reducible refine gate_callee (f := 160) rfl ?_); refine goesL_ (some 22) rfl rfl Try.func160 (by kernel_rfl) rfl #[.pointer (some ⟨g, 0, none⟩)] rfl (by (try simp only [List.map_toArray, List.map_cons, List.map_nil]); first | done | rfl | (simp only [List.length_drop, List.length_take]; rfl)) ?_; (with_reducible refine (spec_l1Cur_next.calls g s0_0 t103 t104 t111 t112 t113 w0 _ ?side1 ?side2 A17.out).mono ?_); (case side1 => repeat (first | (with_reducible first | exact HI0.out | apply IsS134.alloc | apply IsS134.drewN | apply IsS134.drew | apply IsS134.set_1 | apply IsS134.set_2) | exact HI0.out)); (case side2 => repeat (first | (with_reducible first | exact HB.out | apply below_alloc | apply pw_below_drewN | apply below_drew1 | refine below_set ?_ (IsS134.ge HI0.out)) | exact HB.out)); rintro e w20 ⟨rfl, hi, hb, hk⟩; refine ⟨_, rfl, ?_⟩; have n0_ := Aside0.mk (KeepBut.trans (by repeat (first | (with_reducible first | exact HK.out | apply KeepBut.set_ | apply keep_drewN | apply keep_drew | apply keep_alloc) | exact HK.out)) hk (.inl rfl)); have n1_ := Aside0.mk (hb); have n2_ := Aside0.mk (hi); clear HK; clear HB; clear HI0; have HK := n0_; have HB := n1_; have HI0 := n2_; clear n0_ n1_ n2_; (try clear hb); (try clear hb2); (try clear hk); (try clear hi)))
    go_ret
    exact ⟨by first | rfl | (simp [errW_none, errW_some] <;> rfl) | (simp [*, errW_none, errW_some] <;> rfl), by repeat (first | (with_reducible first | exact HI0.out | apply IsS134.alloc | apply IsS134.drewN | apply IsS134.drew | apply IsS134.set_1 | apply IsS134.set_2) | exact HI0.out), by repeat (first | (with_reducible first | exact HB.out | apply below_alloc | apply pw_below_drewN | apply below_drew1 | refine below_set ?_ (IsS134.ge HI0.out)) | exact HB.out), by repeat (first | (with_reducible first | exact HK.out | apply KeepBut.set_ | apply keep_drewN | apply keep_drew | apply keep_alloc) | exact HK.out)⟩
  rw [if_pos c5] at H
  have c5b0 : decide (200 < a1) = true := decide_eq_true c5
  clear c5
  replace H := Option.bind_eq_some_iff.mp H
  obtain ⟨⟨t105, t106, t107⟩, A60, H⟩ := H
  replace H : (if a1 > 50000 then ((spec_l1Cur_next.f s0_0 t106 t107).bind fun bt108 => (if a1 = 0 then (none) else (some (Int.tmod (wrap64 ((wrap64 ((wrap64 ((wrap64 (t102 * 256)) + t105)) * 256)) + bt108.1)) a1, bt108.2.1, bt108.2.2)))) else (if a1 = 0 then (none) else (some (Int.tmod (wrap64 ((wrap64 (t102 * 256)) + t105)) a1, t106, t107)))) = some (r1, r2, r3) := H
  have A6 := Aside0.mk A60
  clear A60
  by_cases c7 : a1 > 50000
  rotate_left
  · rw [if_neg c7] at H
    have c7b0 : decide (50000 < a1) = false := decide_eq_false c7
    clear c7
    by_cases c13 : a1 = 0
    · rw [if_pos c13] at H
      exact absurd H (by simp)
    rw [if_neg c13] at H
    have c13b0 : (a1 == 0) = false := beq_eq_false_iff_ne.mpr c13
    have c13b1 : (a1 != 0) = true := bne_iff_ne.mpr c13
    simp only [Option.some.injEq, Prod.mk.injEq] at H
    obtain ⟨rfl, rfl, rfl⟩ := H
    go_enter Try.func95, Try.ntmps95
    go_wp2_with (first | ((with_reducible refine gate_callee (f := 160) rfl ?_); refine goesL_ (some 9) rfl rfl Try.func160 (by kernel_rfl) rfl #[.pointer (some ⟨g, 0, none⟩)] rfl (by (try simp only [List.map_toArray, List.map_cons, List.map_nil]); first | done | rfl | (simp only [List.length_drop, List.length_take]; rfl)) ?_; (with_reducible refine (spec_l1Cur_next.calls g s0_0 s0_1 s0_2 t102 t103 t104 w0 _ ?side1 ?side2 A4.out).mono ?_); (case side1 => repeat (first | (with_reducible first | exact HI0.out | apply IsS134.alloc | apply IsS134.drewN | apply IsS134.drew | apply IsS134.set_1 | apply IsS134.set_2) | exact HI0.out)); (case side2 => repeat (first | (with_reducible first | exact HB.out | apply below_alloc | apply pw_below_drewN | apply below_drew1 | refine below_set ?_ (IsS134.ge HI0.out)) | exact HB.out)); rintro e w14 ⟨rfl, hi, hb, hk⟩; refine ⟨_, rfl, ?_⟩; have n0_ := Aside0.mk (KeepBut.trans (by repeat (first | (with_reducible first | exact HK.out | apply KeepBut.set_ | apply keep_drewN | apply keep_drew | apply keep_alloc) | exact HK.out)) hk (.inl rfl)); have n1_ := Aside0.mk (hb); have n2_ := Aside0.mk (hi); clear HK; clear HB; clear HI0; have HK := n0_; have HB := n1_; have HI0 := n2_; clear n0_ n1_ n2_; (try clear hb); (try clear hb2); (try clear hk); (try clear hi)) | ((with_reducible refine gate_callee (f := 160) rfl ?_); refine goesL_ (some 15) rfl rfl Try.func160 (by kernel_rfl) rfl #[.pointer (some ⟨g, 0, none⟩)] rfl (by (try simp only [List.map_toArray, List.map_cons, List.map_nil]); first | done | rfl | (simp only [List.length_drop, List.length_take]; rfl)) ?_; (with_reducible refine (spec_l1Cur_next.calls g s0_0 t103 t104 t105 t106 t107 w0 _ ?side1 ?side2 A6.out).mono ?_); (case side1 => repeat (first | (with_reducible first | exact HI0.out | apply IsS134.alloc | apply IsS134.drewN | apply IsS134.drew | apply IsS134.set_1 | apply IsS134.set_2) | exact HI0.out)); (case side2 => repeat (first | (with_reducible first | exact HB.out | apply below_alloc | apply pw_below_drewN | apply below_drew1 | refine below_set ?_ (IsS134.ge HI0.out)) | exact HB.out)); rintro e w15 ⟨rfl, hi, hb, hk⟩; refine ⟨_, rfl, ?_⟩; have n0_ := Aside0.mk (KeepBut.trans (by repeat (first | (with_reducible first | exact HK.out | apply KeepBut.set_ | apply keep_drewN | apply keep_drew | apply keep_alloc) | exact HK.out)) hk (.inl rfl)); have n1_ := Aside0.mk (hb); have n2_ := Aside0.mk (hi); clear HK; clear HB; clear HI0; have HK := n0_; have HB := n1_; have HI0 := n2_; clear n0_ n1_ n2_; (try clear hb); (try clear hb2); (try clear hk); (try clear hi)))
    go_ret
    exact ⟨by first | rfl | (simp [errW_none, errW_some] <;> rfl) | (simp [*, errW_none, errW_some] <;> rfl), by repeat (first | (with_reducible first | exact HI0.out | apply IsS134.alloc | apply IsS134.drewN | apply IsS134.drew | apply IsS134.set_1 | apply IsS134.set_2) | exact HI0.out), by repeat (first | (with_reducible first | exact HB.out | apply below_alloc | apply pw_below_drewN | apply below_drew1 | refine below_set ?_ (IsS134.ge HI0.out)) | exact HB.out), by repeat (first | (with_reducible first | exact HK.out | apply KeepBut.set_ | apply keep_drewN | apply keep_drew | apply keep_alloc) | exact HK.out)⟩
  rw [if_pos c7] at H
  have c7b0 : decide (50000 < a1) = true := decide_eq_true c7
  clear c7
  replace H := Option.bind_eq_some_iff.mp H
  obtain ⟨⟨t108, t109, t110⟩, A80, H⟩ := H
  replace H : (if a1 = 0 then (none) else (some (Int.tmod (wrap64 ((wrap64 ((wrap64 ((wrap64 (t102 * 256)) + t105)) * 256)) + t108)) a1, t109, t110))) = some (r1, r2, r3) := H
  have A8 := Aside0.mk A80
  clear A80
  by_cases c9 : a1 = 0
  · rw [if_pos c9] at H
    exact absurd H (by simp)
  rw [if_neg c9] at H
  have c9b0 : (a1 == 0) = false := beq_eq_false_iff_ne.mpr c9
  have c9b1 : (a1 != 0) = true := bne_iff_ne.mpr c9
  simp only [Option.some.injEq, Prod.mk.injEq] at H
  obtain ⟨rfl, rfl, rfl⟩ := H
  go_enter Try.func95, Try.ntmps95
  go_wp2_with (first | ((with_reducible refine gate_callee (f := 160) rfl ?_); refine goesL_ (some 9) rfl rfl Try.func160 (by kernel_rfl) rfl #[.pointer (some ⟨g, 0, none⟩)] rfl (by (try simp only [List.map_toArray, List.map_cons, List.map_nil]); first | done | rfl | (simp only [List.length_drop, List.length_take]; rfl)) ?_; (with_reducible refine (spec_l1Cur_next.calls g s0_0 s0_1 s0_2 t102 t103 t104 w0 _ ?side1 ?side2 A4.out).mono ?_); (case side1 => repeat (first | (with_reducible first | exact HI0.out | apply IsS134.alloc | apply IsS134.drewN | apply IsS134.drew | apply IsS134.set_1 | apply IsS134.set_2) | exact HI0.out)); (case side2 => repeat (first | (with_reducible first | exact HB.out | apply below_alloc | apply pw_below_drewN | apply below_drew1 | refine below_set ?_ (IsS134.ge HI0.out)) | exact HB.out)); rintro e w10 ⟨rfl, hi, hb, hk⟩; refine ⟨_, rfl, ?_⟩; have n0_ := Aside0.mk (KeepBut.trans (by repeat (first | (with_reducible first | exact HK.out | apply KeepBut.set_ | apply keep_drewN | apply keep_drew | apply keep_alloc) | exact HK.out)) hk (.inl rfl)); have n1_ := Aside0.mk (hb); have n2_ := Aside0.mk (hi); clear HK; clear HB; clear HI0; have HK := n0_; have HB := n1_; have HI0 := n2_; clear n0_ n1_ n2_; (try clear hb); (try clear hb2); (try clear hk); (try clear hi)) | ((with_reducible refine gate_callee (f := 160) rfl ?_); refine goesL_ (some 15) rfl rfl Try.func160 (by kernel_rfl) rfl #[.pointer (some ⟨g, 0, none⟩)] rfl (by (try simp only [List.map_toArray, List.map_cons, List.map_nil]); first | done | rfl | (simp only [List.length_drop, List.length_take]; rfl)) ?_; (with_reducible refine (spec_l1Cur_next.calls g s0_0 t103 t104 t105 t106 t107 w0 _ ?side1 ?side2 A6.out).mono ?_); (case side1 => repeat (first | (with_reducible first | exact HI0.out | apply IsS134.alloc | apply IsS134.drewN | apply IsS134.drew | apply IsS134.set_1 | apply IsS134.set_2) | exact HI0.out)); (case side2 => repeat (first | (with_reducible first | exact HB.out | apply below_alloc | apply pw_below_drewN | apply below_drew1 | refine below_set ?_ (IsS134.ge HI0.out)) | exact HB.out)); rintro e w11 ⟨rfl, hi, hb, hk⟩; refine ⟨_, rfl, ?_⟩; have n0_ := Aside0.mk (KeepBut.trans (by repeat (first | (with_reducible first | exact HK.out | apply KeepBut.set_ | apply keep_drewN | apply keep_drew | apply keep_alloc) | exact HK.out)) hk (.inl rfl)); have n1_ := Aside0.mk (hb); have n2_ := Aside0.mk (hi); clear HK; clear HB; clear HI0; have HK := n0_; have HB := n1_; have HI0 := n2_; clear n0_ n1_ n2_; (try clear hb); (try clear hb2); (try clear hk); (try clear hi)) | ((with_reducible refine gate_callee (f := 160) rfl ?_); refine goesL_ (some 22) rfl rfl Try.func160 (by kernel_rfl) rfl #[.pointer (some ⟨g, 0, none⟩)] rfl (by (try simp only [List.map_toArray, List.map_cons, List.map_nil]); first | done | rfl | (simp only [List.length_drop, List.length_take]; rfl)) ?_; (with_reducible refine (spec_l1Cur_next.calls g s0_0 t106 t107 t108 t109 t110 w0 _ ?side1 ?side2 A8.out).mono ?_); (case side1 => repeat (first | (with_reducible first | exact HI0.out | apply IsS134.alloc | apply IsS134.drewN | apply IsS134.drew | apply IsS134.set_1 | apply IsS134.set_2) | exact HI0.out)); (case side2 => repeat (first | (with_reducible first | exact HB.out | apply below_alloc | apply pw_below_drewN | apply below_drew1 | refine below_set ?_ (IsS134.ge HI0.out)) | exact HB.out)); rintro e w12 ⟨rfl, hi, hb, hk⟩; refine ⟨_, rfl, ?_⟩; have n0_ := Aside0.mk (KeepBut.trans (by repeat (first | (with_reducible first | exact HK.out | apply KeepBut.set_ | apply keep_drewN | apply keep_drew | apply keep_alloc) | exact HK.out)) hk (.inl rfl)); have n1_ := Aside0.mk (hb); have n2_ := Aside0.mk (hi); clear HK; clear HB; clear HI0; have HK := n0_; have HB := n1_; have HI0 := n2_; clear n0_ n1_ n2_; (try clear hb); (try clear hb2); (try clear hk); (try clear hi)))
  go_ret
  exact ⟨by first | rfl | (simp [errW_none, errW_some] <;> rfl) | (simp [*, errW_none, errW_some] <;> rfl), by repeat (first | (with_reducible first | exact HI0.out | apply IsS134.alloc | apply IsS134.drewN | apply IsS134.drew | apply IsS134.set_1 | apply IsS134.set_2) | exact HI0.out), by repeat (first | (with_reducible first | exact HB.out | apply below_alloc | apply pw_below_drewN | apply below_drew1 | refine below_set ?_ (IsS134.ge HI0.out)) | exact HB.out), by repeat (first | (with_reducible first | exact HK.out | apply KeepBut.set_ | apply keep_drewN | apply keep_drew | apply keep_alloc) | exact HK.out)⟩

/-! ### spec_DrawBetween: function 30 -/
mutual
def spec_DrawBetween.l0 : Nat → Int → Int → List Int → List Int → Int → Int → List Int → Int → Int → Option (Int × Int × List Int × List Int)
  | 0, _, _, _, _, _, _, _, _, _ => none
  | k + 1, x7, x8, x9, x10, x31, x32, x115000, x115001, x115002 => if x32 < x31 then ((spec_l1Cur_pick.f x115000 x115001 x115002 6).bind fun bt127 => (if 0 ≤ x32 then (if x32 < (x9.length : Int) then ((some (x9.set (x32 : Int).toNat (wrap64 (bt127.1 - 1)) : List Int)).bind fun y130 => (if x32 < (x10.length : Int) then (spec_DrawBetween.l0 k x7 x8 y130 (x10.set (x32 : Int).toNat (rd y130 x32)) x31 (wrap64 (x32 + 1)) x115000 bt127.2.1 bt127.2.2) else (none))) else (none)) else (none))) else ((spec_l1Cur_pick.f x115000 x115001 x115002 4).bind fun bt133 => (spec_DrawBetween.l1 k x7 x8 x9 x10 bt133.1 x115000 bt133.2.1 bt133.2.2))
def spec_DrawBetween.l1 : Nat → Int → Int → List Int → List Int → Int → List Int → Int → Int → Option (Int × Int × List Int × List Int)
  | 0, _, _, _, _, _, _, _, _ => none
  | k + 1, x7, x8, x9, x10, x12, x115000, x115001, x115002 => if x12 > 0 then ((spec_l1Cur_pick.f x115000 x115001 x115002 (wrap64 (x7 * x8))).bind fun bt136 => ((spec_l1Cur_pick.f x115000 bt136.2.1 bt136.2.2 7).bind fun bt139 => (if 0 ≤ bt136.1 then (if bt136.1 < (x10.length : Int) then (spec_DrawBetween.l1 k x7 x8 x9 (x10.set (bt136.1 : Int).toNat (wrap64 (bt139.1 - 1))) (wrap64 (x12 - 1)) x115000 bt139.2.1 bt139.2.2) else (none)) else (none)))) else ((spec_l1Cur_pick.f x115000 x115001 x115002 12).bind fun bt143 => (if bt143.1 = 0 then (some (wrap64 (x7 + 1), x8, x9, x10)) else (if bt143.1 = 1 then (if 0 < (x10.length : Int) then (some (x7, x8, x9, (x10.set (0 : Int).toNat 256))) else (none)) else (some (x7, x8, x9, x10)))))
end
def spec_DrawBetween.f (k : Nat) (l0 : List Int) : Option (Int × Int × List Int × List Int) := (spec_l1Cur_pick.f l0 0 0 7).bind fun bt115 => ((spec_l1Cur_pick.f l0 bt115.2.1 bt115.2.2 7).bind fun bt118 => (if 0 ≤ (wrap64 ((wrap64 (1 + bt115.1)) * (wrap64 (1 + bt118.1)))) then (if (wrap64 ((wrap64 (1 + bt115.1)) * (wrap64 (1 + bt118.1))) : Int).toNat ≤ 35184372088832 then ((some (List.replicate (wrap64 ((wrap64 (1 + bt115.1)) * (wrap64 (1 + bt118.1))) : Int).toNat 0 : List Int)).bind fun y121 => (spec_DrawBetween.l0 k (wrap64 (1 + bt115.1)) (wrap64 (1 + bt118.1)) y121 (List.replicate (wrap64 ((wrap64 (1 + bt115.1)) * (wrap64 (1 + bt118.1))) : Int).toNat 0) (y121.length : Int) 0 l0 bt118.2.1 bt118.2.2)) else (none)) else (none)))
theorem spec_DrawBetween.mono_l : ∀ k, (∀ y0 y1 y2 y3 y4 y5 y6 y7 y8, LeO (spec_DrawBetween.l0 k y0 y1 y2 y3 y4 y5 y6 y7 y8) (spec_DrawBetween.l0 (k + 1) y0 y1 y2 y3 y4 y5 y6 y7 y8)) ∧ (∀ y0 y1 y2 y3 y4 y5 y6 y7, LeO (spec_DrawBetween.l1 k y0 y1 y2 y3 y4 y5 y6 y7) (spec_DrawBetween.l1 (k + 1) y0 y1 y2 y3 y4 y5 y6 y7))
  | 0 => ⟨fun _ _ _ _ _ _ _ _ _ r h => by simp [spec_DrawBetween.l0] at h, fun _ _ _ _ _ _ _ _ r h => by simp [spec_DrawBetween.l1] at h⟩
  | k + 1 => by
    obtain ⟨ih0, ih1⟩ := spec_DrawBetween.mono_l k
    refine ⟨?_, ?_⟩
    · intro y0 y1 y2 y3 y4 y5 y6 y7 y8
      unfold spec_DrawBetween.l0
      repeat' first
      | (with_reducible exact ih0 _ _ _ _ _ _ _ _ _)
      | (with_reducible exact ih1 _ _ _ _ _ _ _ _)
      | (with_reducible exact LeO.refl _)
      | (with_reducible exact LeO.none _)
      | (with_reducible refine LeO.ite ?_ ?_)
      | (with_reducible refine LeO.bind ?_ (fun _ => ?_))
      | exact ih0 _ _ _ _ _ _ _ _ _
      | exact ih1 _ _ _ _ _ _ _ _
      | exact LeO.none _
      | refine LeO.ite ?_ ?_
      | refine LeO.bind ?_ (fun _ => ?_)
    · intro y0 y1 y2 y3 y4 y5 y6 y7
      unfold spec_DrawBetween.l1
      repeat' first
      | (with_reducible exact ih0 _ _ _ _ _ _ _ _ _)
      | (with_reducible exact ih1 _ _ _ _ _ _ _ _)
      | (with_reducible exact LeO.refl _)
      | (with_reducible exact LeO.none _)
      | (with_reducible refine LeO.ite ?_ ?_)
      | (with_reducible refine LeO.bind ?_ (fun _ => ?_))
      | exact ih0 _ _ _ _ _ _ _ _ _
      | exact ih1 _ _ _ _ _ _ _ _
      | exact LeO.none _
      | refine LeO.ite ?_ ?_
      | refine LeO.bind ?_ (fun _ => ?_)
theorem spec_DrawBetween.mono : ∀ a0 k, LeO (spec_DrawBetween.f k a0) (spec_DrawBetween.f (k + 1) a0) := by
  intro a0 k
  obtain ⟨ih0, ih1⟩ := spec_DrawBetween.mono_l k
  unfold spec_DrawBetween.f
  repeat' first
      | (with_reducible exact ih0 _ _ _ _ _ _ _ _ _)
      | (with_reducible exact ih1 _ _ _ _ _ _ _ _)
      | (with_reducible exact LeO.refl _)
      | (with_reducible exact LeO.none _)
      | (with_reducible refine LeO.ite ?_ ?_)
      | (with_reducible refine LeO.bind ?_ (fun _ => ?_))
      | exact ih0 _ _ _ _ _ _ _ _ _
      | exact ih1 _ _ _ _ _ _ _ _
      | exact LeO.none _
      | refine LeO.ite ?_ ?_
      | refine LeO.bind ?_ (fun _ => ?_)
set_option maxHeartbeats 8000000 in
set_option maxRecDepth 100000 in
theorem spec_DrawBetween.calls (k : Nat) (A0 : Option Addr) (c0 : Nat) (l0 : List Int) (r1 : Int) (r2 : Int) (r3 : List Int) (r4 : List Int) (w : World) (hr0 : Kd.C (Kd.int .u8) w A0 l0.length l0) (hc0 : l0.length ≤ c0) (h : spec_DrawBetween.f k l0 = some (r1, r2, r3, r4)) :
    Calls Try.prog 30 #[.slice A0 l0.length c0] w fun e w' => ∃ v2_ v3_ : Value, e = .returned (.tuple #[.int .i64 r1, .int .i64 r2, v2_, v3_]) ∧ Kd.R (Kd.int .i64) 3 w' w.heap.size (fun k_ => some k_ ≠ (v3_ : Value).ownBlock) v2_ r3 ∧ Kd.R (Kd.int .i64) 3 w' w.heap.size (fun k_ => some k_ ≠ (v2_ : Value).ownBlock) v3_ r4 ∧ Below w.heap.size w w' := by
  have hu134 := Try.underlying134
  have HR0 := Aside0.mk hr0
  have HC0 := Aside0.mk hc0
  clear hr0 hc0
  have HB := Aside0.mk (Below.refl w.heap.size w)
  have H : ((spec_l1Cur_pick.f l0 0 0 7).bind fun bt115 => ((spec_l1Cur_pick.f l0 bt115.2.1 bt115.2.2 7).bind fun bt118 => (if 0 ≤ (wrap64 ((wrap64 (1 + bt115.1)) * (wrap64 (1 + bt118.1)))) then (if (wrap64 ((wrap64 (1 + bt115.1)) * (wrap64 (1 + bt118.1))) : Int).toNat ≤ 35184372088832 then ((some (List.replicate (wrap64 ((wrap64 (1 + bt115.1)) * (wrap64 (1 + bt118.1))) : Int).toNat 0 : List Int)).bind fun y121 => (spec_DrawBetween.l0 k (wrap64 (1 + bt115.1)) (wrap64 (1 + bt118.1)) y121 (List.replicate (wrap64 ((wrap64 (1 + bt115.1)) * (wrap64 (1 + bt118.1))) : Int).toNat 0) (y121.length : Int) 0 l0 bt118.2.1 bt118.2.2)) else (none)) else (none)))) = some (r1, r2, r3, r4) := h
  clear h
  replace H := Option.bind_eq_some_iff.mp H
  obtain ⟨⟨t115, t116, t117⟩, A20, H⟩ := H
  replace H : ((spec_l1Cur_pick.f l0 t116 t117 7).bind fun bt118 => (if 0 ≤ (wrap64 ((wrap64 (1 + t115)) * (wrap64 (1 + bt118.1)))) then (if (wrap64 ((wrap64 (1 + t115)) * (wrap64 (1 + bt118.1))) : Int).toNat ≤ 35184372088832 then ((some (List.replicate (wrap64 ((wrap64 (1 + t115)) * (wrap64 (1 + bt118.1))) : Int).toNat 0 : List Int)).bind fun y121 => (spec_DrawBetween.l0 k (wrap64 (1 + t115)) (wrap64 (1 + bt118.1)) y121 (List.replicate (wrap64 ((wrap64 (1 + t115)) * (wrap64 (1 + bt118.1))) : Int).toNat 0) (y121.length : Int) 0 l0 bt118.2.1 bt118.2.2)) else (none)) else (none))) = some (r1, r2, r3, r4) := H
  have A2 := Aside0.mk A20
  clear A20
  replace H := Option.bind_eq_some_iff.mp H
  obtain ⟨⟨t118, t119, t120⟩, A30, H⟩ := H
  replace H : (if 0 ≤ (wrap64 ((wrap64 (1 + t115)) * (wrap64 (1 + t118)))) then (if (wrap64 ((wrap64 (1 + t115)) * (wrap64 (1 + t118))) : Int).toNat ≤ 35184372088832 then ((some (List.replicate (wrap64 ((wrap64 (1 + t115)) * (wrap64 (1 + t118))) : Int).toNat 0 : List Int)).bind fun y121 => (spec_DrawBetween.l0 k (wrap64 (1 + t115)) (wrap64 (1 + t118)) y121 (List.replicate (wrap64 ((wrap64 (1 + t115)) * (wrap64 (1 + t118))) : Int).toNat 0) (y121.length : Int) 0 l0 t119 t120)) else (none)) else (none)) = some (r1, r2, r3, r4) := H
  have A3 := Aside0.mk A30
  clear A30
  obtain ⟨ji4, hji4⟩ : ∃ j_ : Int, (wrap64 ((wrap64 (1 + t115)) * (wrap64 (1 + t118)))) = j_ := ⟨_, rfl⟩
  replace H : (if 0 ≤ (ji4) then (if (ji4 : Int).toNat ≤ 35184372088832 then ((some (List.replicate (ji4 : Int).toNat 0 : List Int)).bind fun y121 => (spec_DrawBetween.l0 k (wrap64 (1 + t115)) (wrap64 (1 + t118)) y121 (List.replicate (ji4 : Int).toNat 0) (y121.length : Int) 0 l0 t119 t120)) else (none)) else (none)) = some (r1, r2, r3, r4) := by first | (rw [hji4] at H; exact H) | (simp only [hji4] at H ⊢; exact H)
  (try rw [hji4] at A2)
  (try rw [hji4] at A3)
  have hji4w : (IntKind.i64.wrap ((wrap64 (1 + t115)) * (wrap64 (1 + t118)))) = ji4 := (i64_w _).trans hji4
  by_cases c5 : 0 ≤ (ji4)
  rotate_left
  · rw [if_neg c5] at H
    exact absurd H (by simp)
  rw [if_pos c5] at H
  have c5b0 := eq_true c5
  have c5b1 : decide (0 ≤ (ji4)) = true := decide_eq_true c5
  clear c5
  by_cases c6 : (ji4 : Int).toNat ≤ 35184372088832
  rotate_left
  · rw [if_neg c6] at H
    exact absurd H (by simp)
  rw [if_pos c6] at H
  have c6b0 := eq_true c6
  have c6b1 : decide ((ji4 : Int).toNat ≤ 35184372088832) = true := decide_eq_true c6
  clear c6
  obtain ⟨y121, hy121⟩ : ∃ y_ : List Int, y_ = (List.replicate (ji4 : Int).toNat 0) := ⟨_, rfl⟩
  replace H : (spec_DrawBetween.l0 k (wrap64 (1 + t115)) (wrap64 (1 + t118)) y121 (List.replicate (ji4 : Int).toNat 0) (y121.length : Int) 0 l0 t119 t120) = some (r1, r2, r3, r4) := by first | (rw [hy121]; with_reducible exact H) | (have H2_ := (Option.bind_some _ _).symm.trans H; rw [hy121]; with_reducible exact H2_) | (have H2_ := (Option.bind_some _ _).symm.trans H; with_reducible exact H2_) | with_reducible exact H | (rw [hy121]; exact H) | exact H
  have Ny121 := Aside0.mk hy121
  clear hy121
  obtain ⟨y124, hy124⟩ : ∃ y_ : List Int, y_ = (List.replicate (ji4 : Int).toNat 0) := ⟨_, rfl⟩
  replace H : (spec_DrawBetween.l0 k (wrap64 (1 + t115)) (wrap64 (1 + t118)) y121 y124 (y121.length : Int) 0 l0 t119 t120) = some (r1, r2, r3, r4) := by first | (rw [hy124]; with_reducible exact H) | (have H2_ := (Option.bind_some _ _).symm.trans H; rw [hy124]; with_reducible exact H2_) | (have H2_ := (Option.bind_some _ _).symm.trans H; with_reducible exact H2_) | with_reducible exact H | (rw [hy124]; exact H) | exact H
  have Ny124 := Aside0.mk hy124
  clear hy124
  have H' := Aside0.mk H
  clear H
  go_enter Try.func30, Try.ntmps30
  go_wp2_with (first | ((with_reducible refine gate_dst (N := 15) rfl ?_); refine box_event ?hg (N := 15) ?hd (cs := #[.slice A0 l0.length c0, .int .i64 0, .int .u64 0]) (t := 134) ?hr ?_; (case hd => rfl); (case hg => rfl); (case hr => first | (go_simp; done) | (go_simp; rfl)); intro gb114 hg w7 hbox hb; have n0_ := Aside0.mk (below_step (by repeat (first | (with_reducible first | exact HB.out | apply below_alloc | apply pw_below_drewN | apply below_drew1) | exact HB.out)) hb); have n1_ := Aside0.mk ((by rw [hg]; exact (below_size (by repeat (first | (with_reducible first | exact HB.out | apply below_alloc | apply pw_below_drewN | apply below_drew1) | exact HB.out))) : w.heap.size ≤ gb114)); have n2_ := Aside0.mk ((show IsS134 w w7 gb114 l0 0 0 from ⟨_, _, hbox, (by rw [hg]; exact (below_size (by repeat (first | (with_reducible first | exact HB.out | apply below_alloc | apply pw_below_drewN | apply below_drew1) | exact HB.out)))), HR0.out⟩)); clear HB; have HB := n0_; have GW114 := n1_; have HI114 := n2_; clear n0_ n1_ n2_; clear hb hbox hg) | ((with_reducible refine gate_callee (f := 95) rfl ?_); refine goesL_ (some 17) rfl rfl Try.func95 (by kernel_rfl) rfl #[.pointer (some ⟨gb114, 0, none⟩), .int .i64 7] rfl (by (try simp only [List.map_toArray, List.map_cons, List.map_nil]); first | done | rfl | (simp only [List.length_drop, List.length_take]; rfl)) ?_; (with_reducible refine (spec_l1Cur_pick.calls gb114 l0 0 0 7 t115 t116 t117 w _ ?side1 ?side2 A2.out).mono ?_); (case side1 => repeat (first | (with_reducible first | exact HI114.out | apply IsS134.alloc | apply IsS134.drewN | apply IsS134.drew | apply IsS134.set_1 | apply IsS134.set_2) | exact HI114.out)); (case side2 => repeat (first | (with_reducible first | exact HB.out | apply below_alloc | apply pw_below_drewN | apply below_drew1 | refine below_set ?_ (IsS134.ge HI114.out)) | exact HB.out)); rintro e w8 ⟨rfl, hi, hb, hk⟩; refine ⟨_, rfl, ?_⟩; have n0_ := Aside0.mk (hb); have n1_ := Aside0.mk (hi); clear HB; clear HI114; have HB := n0_; have HI114 := n1_; clear n0_ n1_; (try clear hb); (try clear hb2); (try clear hk); (try clear hi)) | ((with_reducible refine gate_callee (f := 95) rfl ?_); refine goesL_ (some 20) rfl rfl Try.func95 (by kernel_rfl) rfl #[.pointer (some ⟨gb114, 0, none⟩), .int .i64 7] rfl (by (try simp only [List.map_toArray, List.map_cons, List.map_nil]); first | done | rfl | (simp only [List.length_drop, List.length_take]; rfl)) ?_; (with_reducible refine (spec_l1Cur_pick.calls gb114 l0 t116 t117 7 t118 t119 t120 w _ ?side1 ?side2 A3.out).mono ?_); (case side1 => repeat (first | (with_reducible first | exact HI114.out | apply IsS134.alloc | apply IsS134.drewN | apply IsS134.drew | apply IsS134.set_1 | apply IsS134.set_2) | exact HI114.out)); (case side2 => repeat (first | (with_reducible first | exact HB.out | apply below_alloc | apply pw_below_drewN | apply below_drew1 | refine below_set ?_ (IsS134.ge HI114.out)) | exact HB.out)); rintro e w9 ⟨rfl, hi, hb, hk⟩; refine ⟨_, rfl, ?_⟩; have n0_ := Aside0.mk (hb); have n1_ := Aside0.mk (hi); clear HB; clear HI114; have HB := n0_; have HI114 := n1_; clear n0_ n1_; (try clear hb); (try clear hb2); (try clear hk); (try clear hi)) | ((with_reducible refine gate_dst (N := 25) rfl ?_); refine Kd.R_make (Kd.int .i64) _ 3 rfl (N := 25) rfl 22 _ _ rfl ji4 rfl rfl Try.underlying22 (.int .i64 0) 8 info3 rfl (by decide) (by omega) 0 (ok := fun _ => True) (okp := fun _ => True) rfl (fun _ hk => hk) trivial (of_decide_eq_true (by first | (with_reducible assumption) | assumption)) (Nat.le_trans (Nat.mul_le_mul_right _ (of_decide_eq_true (by first | (with_reducible assumption) | assumption) : ji4.toNat ≤ 35184372088832)) (by omega)) (Below.refl _ _) (Nat.le_refl _) ?_; intro v122 w10 ho11 hb hg_ hnew_; clear hg_ hnew_; (first | rw [← Ny121.out] at ho11 | (simp only [Int.reduceToNat] at ho11; rw [← Ny121.out] at ho11)); have n0_ := Aside0.mk (Kd.R_lower ho11 (below_size (by repeat (first | (with_reducible first | exact HB.out | apply below_alloc | apply pw_below_drewN | apply below_drew1 | refine below_set ?_ (IsS134.ge HI114.out)) | exact HB.out)))); have n1_ := Aside0.mk (IsS134.below (by repeat (first | (with_reducible first | exact HI114.out | apply IsS134.alloc | apply IsS134.drewN | apply IsS134.drew | apply IsS134.set_1 | apply IsS134.set_2) | exact HI114.out)) hb); have n2_ := Aside0.mk (below_step (by repeat (first | (with_reducible first | exact HB.out | apply below_alloc | apply pw_below_drewN | apply below_drew1 | refine below_set ?_ (IsS134.ge HI114.out)) | exact HB.out)) hb); clear HI114; clear HB; have HO123 := n0_; have HI114 := n1_; have HB := n2_; clear n0_ n1_ n2_; clear hb ho11) | ((with_reducible refine gate_dst (N := 29) rfl ?_); refine Kd.R_make (Kd.int .i64) _ 3 rfl (N := 29) rfl 22 _ _ rfl ji4 rfl rfl Try.underlying22 (.int .i64 0) 8 info3 rfl (by decide) (by omega) 0 (ok := fun _ => True) (okp := fun _ => True) rfl (fun _ hk => hk) trivial (of_decide_eq_true (by first | (with_reducible assumption) | assumption)) (Nat.le_trans (Nat.mul_le_mul_right _ (of_decide_eq_true (by first | (with_reducible assumption) | assumption) : ji4.toNat ≤ 35184372088832)) (by omega)) (Below.refl _ _) (Nat.le_refl _) ?_; intro v125 w12 ho13 hb hg_ hnew_; clear hg_ hnew_; (first | rw [← Ny124.out] at ho13 | (simp only [Int.reduceToNat] at ho13; rw [← Ny124.out] at ho13)); have n0_ := Aside0.mk (Kd.R_elder' (by (with_reducible repeat (first | apply Kd.R_alloc | apply Kd.R_drewN | apply Kd.R_drew)); exact HO123.out) (Kd.R_base ho13) hb); have n1_ := Aside0.mk (Kd.R_lower (Kd.R_new' ho13 (Kd.R_lt (by (with_reducible repeat (first | apply Kd.R_alloc | apply Kd.R_drewN | apply Kd.R_drew)); exact HO123.out))) (below_size (by repeat (first | (with_reducible first | exact HB.out | apply below_alloc | apply pw_below_drewN | apply below_drew1 | refine below_set ?_ (IsS134.ge HI114.out)) | exact HB.out)))); have n2_ := Aside0.mk (IsS134.below (by repeat (first | (with_reducible first | exact HI114.out | apply IsS134.alloc | apply IsS134.drewN | apply IsS134.drew | apply IsS134.set_1 | apply IsS134.set_2) | exact HI114.out)) hb); have n3_ := Aside0.mk (below_step (by repeat (first | (with_reducible first | exact HB.out | apply below_alloc | apply pw_below_drewN | apply below_drew1 | refine below_set ?_ (IsS134.ge HI114.out)) | exact HB.out)) hb); clear HO123; clear HI114; clear HB; have HO123 := n0_; have HO126 := n1_; have HI114 := n2_; have HB := n3_; clear n0_ n1_ n2_ n3_; clear hb ho13; obtain ⟨Ao14, co14, eo14⟩ := Kd.R_slice HO123.out; subst eo14))
  go_loopg [32] k (fun kq v32 w' => ∃ (x9_1 : List Int) (x10_1 : List Int) (x32_1 : Int) (x115001_1 : Int) (x115002_1 : Int), v32 = .int .i64 x32_1 ∧ Aside0 (spec_DrawBetween.l0 kq (wrap64 (1 + t115)) (wrap64 (1 + t118)) x9_1 x10_1 (y121.length : Int) x32_1 l0 x115001_1 x115002_1 = some (r1, r2, r3, r4)) ∧ Aside0 (kq ≤ k) ∧ Aside0 (Kd.R (Kd.int .i64) 3 w' w.heap.size (fun k_ => some k_ ≠ (v125 : Value).ownBlock) (.slice Ao14 y121.length co14) x9_1) ∧ Aside0 (Kd.R (Kd.int .i64) 3 w' w.heap.size (fun k_ => some k_ ≠ ((.slice Ao14 y121.length co14) : Value).ownBlock) v125 x10_1) ∧ Aside0 (IsS134 w w' gb114 l0 x115001_1 x115002_1) ∧ Aside0 (Below w.heap.size w w'))
  case atStart => exact ⟨(y121), (y124), (0), (t119), (t120), (by first | rfl | (simp; done) | (simp [*]; done)), H', ⟨Nat.le_refl _⟩, ⟨by (with_reducible repeat (first | apply Kd.R_alloc | apply Kd.R_drewN | apply Kd.R_drew)); exact Kd.R_mono HO123.out (fun _ hk => hk.2)⟩, ⟨by (with_reducible repeat (first | apply Kd.R_alloc | apply Kd.R_drewN | apply Kd.R_drew)); exact Kd.R_mono HO126.out (fun _ hk => hk.2)⟩, ⟨by repeat (first | (with_reducible first | exact HI114.out | apply IsS134.alloc | apply IsS134.drewN | apply IsS134.drew | apply IsS134.set_1 | apply IsS134.set_2) | exact HI114.out)⟩, ⟨by repeat (first | (with_reducible first | exact HB.out | apply below_alloc | apply pw_below_drewN | apply below_drew1 | refine below_set ?_ (IsS134.ge HI114.out)) | exact HB.out)⟩⟩
  case round =>
    clear H'
    try clear p2
    try clear c3
    try clear c5
    try clear c5b0
    try clear c5b1
    try clear c6
    try clear c6b0
    try clear c6b1
    try clear p6
    try clear c9
    obtain ⟨x9_1, x10_1, x32_1, x115001_1, x115002_1, rfl, HA, HK1, HO_9, HO_10, HI114, HB⟩ := hrel
    have hl9_1 := (Kd.R_reads' HO_9.out).1
    rw [hl9_1] at HO_9
    (try simp only [hl9_1])
    (try simp only [hl9_1] at HO_10)
    cases gk with
    | zero => exact absurd HA.out (by simp [spec_DrawBetween.l0])
    | succ k1 =>
      have H := HA.out
      clear HA
      simp only [spec_DrawBetween.l0] at H
      by_cases c15 : x32_1 < (y121.length : Int)
      · rw [if_pos c15] at H
        have c15b0 : decide (x32_1 < (y121.length : Int)) = true := decide_eq_true c15
        (try simp only [hl9_1] at c15b0)
        clear c15
        replace H := Option.bind_eq_some_iff.mp H
        obtain ⟨⟨t127, t128, t129⟩, A160, H⟩ := H
        replace H : (if 0 ≤ x32_1 then (if x32_1 < (x9_1.length : Int) then ((some (x9_1.set (x32_1 : Int).toNat (wrap64 (t127 - 1)) : List Int)).bind fun y130 => (if x32_1 < (x10_1.length : Int) then (spec_DrawBetween.l0 k1 (wrap64 (1 + t115)) (wrap64 (1 + t118)) y130 (x10_1.set (x32_1 : Int).toNat (rd y130 x32_1)) (y121.length : Int) (wrap64 (x32_1 + 1)) l0 t128 t129) else (none))) else (none)) else (none)) = some (r1, r2, r3, r4) := H
        have A16 := Aside0.mk A160
        clear A160
        by_cases c17 : 0 ≤ x32_1
        rotate_left
        · rw [if_neg c17] at H
          exact absurd H (by simp)
        rw [if_pos c17] at H
        have c17b0 : decide (0 ≤ x32_1) = true := decide_eq_true c17
        clear c17
        by_cases c18 : x32_1 < (x9_1.length : Int)
        rotate_left
        · rw [if_neg c18] at H
          exact absurd H (by simp)
        rw [if_pos c18] at H
        have c18b0 : decide (x32_1 < (x9_1.length : Int)) = true := decide_eq_true c18
        (try simp only [hl9_1] at c18b0)
        clear c18
        obtain ⟨y130, hy130⟩ : ∃ y_ : List Int, y_ = (x9_1.set (x32_1 : Int).toNat (wrap64 (t127 - 1))) := ⟨_, rfl⟩
        replace H : (if x32_1 < (x10_1.length : Int) then (spec_DrawBetween.l0 k1 (wrap64 (1 + t115)) (wrap64 (1 + t118)) y130 (x10_1.set (x32_1 : Int).toNat (rd y130 x32_1)) (y121.length : Int) (wrap64 (x32_1 + 1)) l0 t128 t129) else (none)) = some (r1, r2, r3, r4) := by first | (rw [hy130]; with_reducible exact H) | (have H2_ := (Option.bind_some _ _).symm.trans H; rw [hy130]; with_reducible exact H2_) | (have H2_ := (Option.bind_some _ _).symm.trans H; with_reducible exact H2_) | with_reducible exact H | (rw [hy130]; exact H) | exact H
        have Ny130 := Aside0.mk hy130
        clear hy130
        by_cases c20 : x32_1 < (x10_1.length : Int)
        rotate_left
        · rw [if_neg c20] at H
          exact absurd H (by simp)
        rw [if_pos c20] at H
        have c20b0 : decide (x32_1 < (x10_1.length : Int)) = true := decide_eq_true c20
        (try simp only [hl9_1] at c20b0)
        clear c20
        obtain ⟨y132, hy132⟩ : ∃ y_ : List Int, y_ = (x10_1.set (x32_1 : Int).toNat (rd y130 x32_1)) := ⟨_, rfl⟩
        replace H : (spec_DrawBetween.l0 k1 (wrap64 (1 + t115)) (wrap64 (1 + t118)) y130 y132 (y121.length : Int) (wrap64 (x32_1 + 1)) l0 t128 t129) = some (r1, r2, r3, r4) := by first | (rw [hy132]; with_reducible exact H) | (have H2_ := (Option.bind_some _ _).symm.trans H; rw [hy132]; with_reducible exact H2_) | (have H2_ := (Option.bind_some _ _).symm.trans H; with_reducible exact H2_) | with_reducible exact H | (rw [hy132]; exact H) | exact H
        have Ny132 := Aside0.mk hy132
        clear hy132
        have H' := Aside0.mk H
        clear H
        go_wp2_with (first | ((with_reducible refine gate_callee (f := 95) rfl ?_); refine goesL_ (some 38) rfl rfl Try.func95 (by kernel_rfl) rfl #[.pointer (some ⟨gb114, 0, none⟩), .int .i64 6] rfl (by (try simp only [List.map_toArray, List.map_cons, List.map_nil]); first | done | rfl | (simp only [List.length_drop, List.length_take]; rfl)) ?_; (with_reducible refine (spec_l1Cur_pick.calls gb114 l0 x115001_1 x115002_1 6 t127 t128 t129 w _ ?side1 ?side2 A16.out).mono ?_); (case side1 => repeat (first | (with_reducible first | exact HI114.out | apply IsS134.alloc | apply IsS134.drewN | apply IsS134.drew | apply IsS134.set_1 | apply IsS134.set_2) | exact HI114.out)); (case side2 => repeat (first | (with_reducible first | exact HB.out | apply below_alloc | apply pw_below_drewN | apply below_drew1 | refine below_set ?_ (IsS134.ge HI114.out)) | exact HB.out)); rintro e w22 ⟨rfl, hi, hb, hk⟩; refine ⟨_, rfl, ?_⟩; have n0_ := Aside0.mk (Kd.R_mono (Kd.R_keep (IsS134.apart (show IsS134 w _ gb114 l0 x115001_1 x115002_1 from by repeat (first | (with_reducible first | exact HI114.out | apply IsS134.alloc | apply IsS134.drewN | apply IsS134.drew | apply IsS134.set_1 | apply IsS134.set_2) | exact HI114.out)) (by (with_reducible repeat (first | apply Kd.R_alloc | apply Kd.R_drewN | apply Kd.R_drew)); exact HO_9.out) (by decide)) hk (fun _ h => h.2)) (fun _ h => h.1)); have n1_ := Aside0.mk (Kd.R_mono (Kd.R_keep (IsS134.apart (show IsS134 w _ gb114 l0 x115001_1 x115002_1 from by repeat (first | (with_reducible first | exact HI114.out | apply IsS134.alloc | apply IsS134.drewN | apply IsS134.drew | apply IsS134.set_1 | apply IsS134.set_2) | exact HI114.out)) (by (with_reducible repeat (first | apply Kd.R_alloc | apply Kd.R_drewN | apply Kd.R_drew)); exact HO_10.out) (by decide)) hk (fun _ h => h.2)) (fun _ h => h.1)); have n2_ := Aside0.mk (hb); have n3_ := Aside0.mk (hi); clear HO_9; clear HO_10; clear HB; clear HI114; have HO_9 := n0_; have HO_10 := n1_; have HB := n2_; have HI114 := n3_; clear n0_ n1_ n2_ n3_; (try clear hb); (try clear hb2); (try clear hk); (try clear hi); have p19 : 0 ≤ (x32_1 : Int) := of_decide_eq_true (by first | (with_reducible assumption) | assumption); have q19 : (x32_1 : Int) < ((x9_1.length : Int) : Int) := of_decide_eq_true (by first | (with_reducible assumption) | assumption); obtain ⟨go19, co19, eo19, gb19, gl19, cl19, HG19⟩ := Kd.R_form HO_9.out (by omega); (first | cases eo19 | (injection eo19 with ea_ en_ ec_; (first | subst ea_ | (injection ea_ with ea_; subst ea_)); subst ec_; clear en_)); have GB19 := Aside0.mk gb19; have GG19 := Aside0.mk HG19; clear gb19 gl19 HG19; obtain ⟨hx19_0, hf19_0⟩ := Kd.R_celln 0 HO_9.out (x32_1 : Int) p19 q19; replace p19 := eq_true p19; replace q19 := eq_true q19; obtain ⟨hy23_, hz23_⟩ := Kd.R_celln 0 HO_9.out (x32_1 : Int) (of_decide_eq_true (by first | (with_reducible assumption) | assumption)) (of_decide_eq_true (by first | (with_reducible assumption) | assumption)); have HP23 := Kd.R_putg HO_9.out (x32_1 : Int) (wrap64 (t127 - 1))) | ((with_reducible refine gate_store (t := 3) (p := 40) rfl ?_); refine store_event (t := 3) (p := 40) (v := ?vo_w24) (w1 := (w22.setCell ⟨go19, (x32_1 : Int).toNat, none⟩ (.int .i64 (wrap64 (t127 - 1))))) ?hg ?ho ?hn ?hr ?_; (case ho => rfl); (case hg => rfl); (case hn => rfl); (case hr => first | (go_simp; done) | (go_simp; rfl)); intro w24 hw; have hg : w22.grownBy w24 (some go19) := (by rw [hw]; exact HP23.2); have hp_ : Kd.R (Kd.int .i64) 3 w24 w.heap.size (fun k_ => some k_ ≠ (v125 : Value).ownBlock) (.slice (some ⟨go19, 0, none⟩) x9_1.length co14) y130 := (by rw [hw, Ny130.out]; exact HP23.1); clear HP23; have n0_ := Aside0.mk (hp_); have n1_ := Aside0.mk (Kd.R_after (v := (.slice (some ⟨go19, 0, none⟩) x9_1.length co14)) (v1 := (.slice (some ⟨go19, 0, none⟩) x9_1.length co14)) (ok := (fun _ => True)) (by (with_reducible repeat (first | apply Kd.R_alloc | apply Kd.R_drewN | apply Kd.R_drew)); exact Kd.R_mono HO_10.out (fun _ hk => ⟨trivial, hk⟩)) hg (.inl rfl)); have n2_ := Aside0.mk (IsS134.grown (by repeat (first | (with_reducible first | exact HI114.out | apply IsS134.alloc | apply IsS134.drewN | apply IsS134.drew | apply IsS134.set_1 | apply IsS134.set_2) | exact HI114.out)) hg (IsS134.own_ne HI114.out HO_9.out (by decide))); have n3_ := Aside0.mk ((by rw [hw]; exact below_set (HB.out) GB19.out : Below w.heap.size w w24)); clear HO_9; clear HO_10; clear HI114; clear HB; have HO_9 := n0_; have HO_10 := n1_; have HI114 := n2_; have HB := n3_; clear n0_ n1_ n2_ n3_; clear hg hw hp_; have p131 : 0 ≤ (x32_1 : Int) := of_decide_eq_true (by first | (with_reducible assumption) | assumption); have q131 : x32_1 < (y130.length : Int) := (by have h_ : (x32_1 : Int) < ((x9_1.length : Int) : Int) := of_decide_eq_true (by first | (with_reducible assumption) | assumption); first | (have e_ := (Kd.R_reads' HO_9.out).1; omega) | simpa only [Ny130.out, List.length_set] using h_); have ql131 : ((x32_1 : Int) < ((x9_1.length : Int) : Int)) = True := eq_true (of_decide_eq_true (by first | (with_reducible assumption) | assumption)); obtain ⟨ad131, e131, hx131_0⟩ := Kd.at_int (Kd.R_reads' HO_9.out).2.2 x32_1 p131 q131; obtain rfl : (⟨go19, 0, none⟩ : Addr) = ad131 := (by injection e131); (first | simp only [add_plain] at hx131_0 | simp only [add_at] at hx131_0 | simp only [Addr.add, Nat.zero_add] at hx131_0 | skip); replace p131 := eq_true p131; replace q131 := eq_true q131; have p21 : 0 ≤ (x32_1 : Int) := of_decide_eq_true (by first | (with_reducible assumption) | assumption); have q21 : (x32_1 : Int) < ((x10_1.length : Int) : Int) := of_decide_eq_true (by first | (with_reducible assumption) | assumption); obtain ⟨go21, co21, eo21, gb21, gl21, cl21, HG21⟩ := Kd.R_form HO_10.out (by omega); (first | cases eo21 | (injection eo21 with ea_ en_ ec_; (first | subst ea_ | (injection ea_ with ea_; subst ea_)); subst ec_; clear en_)); have GB21 := Aside0.mk gb21; have GG21 := Aside0.mk HG21; clear gb21 gl21 HG21; obtain ⟨hx21_0, hf21_0⟩ := Kd.R_celln 0 HO_10.out (x32_1 : Int) p21 q21; replace p21 := eq_true p21; replace q21 := eq_true q21; have n_ := Aside0.mk (Kd.R_mono (ok' := (fun k_ => some k_ ≠ (.slice (some ⟨go19, 0, none⟩) x9_1.length co14 : Value).ownBlock)) HO_10.out (fun k_ hk => hk.2)); clear HO_10; have HO_10 := n_; clear n_; obtain ⟨hy25_, hz25_⟩ := Kd.R_celln 0 HO_10.out (x32_1 : Int) (of_decide_eq_true (by first | (with_reducible assumption) | assumption)) (of_decide_eq_true (by first | (with_reducible assumption) | assumption)); have HP25 := Kd.R_putg HO_10.out (x32_1 : Int) (rd y130 x32_1)) | ((with_reducible refine gate_store (t := 3) (p := 47) rfl ?_); refine store_event (t := 3) (p := 47) (v := ?vo_w26) (w1 := (w24.setCell ⟨go21, (x32_1 : Int).toNat, none⟩ (.int .i64 (rd y130 x32_1)))) ?hg ?ho ?hn ?hr ?_; (case ho => rfl); (case hg => rfl); (case hn => rfl); (case hr => first | (go_simp; done) | (go_simp; rfl)); intro w26 hw; have hg : w24.grownBy w26 (some go21) := (by rw [hw]; exact HP25.2); have hp_ : Kd.R (Kd.int .i64) 3 w26 w.heap.size (fun k_ => some k_ ≠ (.slice (some ⟨go19, 0, none⟩) x9_1.length co14 : Value).ownBlock) (.slice (some ⟨go21, 0, none⟩) x10_1.length co21) y132 := (by rw [hw, Ny132.out]; exact HP25.1); clear HP25; have n0_ := Aside0.mk (Kd.R_after (v := (.slice (some ⟨go21, 0, none⟩) x10_1.length co21)) (v1 := (.slice (some ⟨go21, 0, none⟩) x10_1.length co21)) (ok := (fun _ => True)) (by (with_reducible repeat (first | apply Kd.R_alloc | apply Kd.R_drewN | apply Kd.R_drew)); exact Kd.R_mono HO_9.out (fun _ hk => ⟨trivial, hk⟩)) hg (.inl rfl)); have n1_ := Aside0.mk (hp_); have n2_ := Aside0.mk (IsS134.grown (by repeat (first | (with_reducible first | exact HI114.out | apply IsS134.alloc | apply IsS134.drewN | apply IsS134.drew | apply IsS134.set_1 | apply IsS134.set_2) | exact HI114.out)) hg (IsS134.own_ne HI114.out HO_10.out (by decide))); have n3_ := Aside0.mk ((by rw [hw]; exact below_set (HB.out) GB21.out : Below w.heap.size w w26)); clear HO_9; clear HO_10; clear HI114; clear HB; have HO_9 := n0_; have HO_10 := n1_; have HI114 := n2_; have HB := n3_; clear n0_ n1_ n2_ n3_; clear hg hw hp_))
        (try simp only [← hl9_1])
        go_roundg k1
        case measure => have := HK1.out; omega
        case rel => exact ⟨(y130), (y132), (wrap64 (x32_1 + 1)), (t128), (t129), (by first | rfl | (simp; done) | (simp [*]; done)), H', ⟨by have := HK1.out; omega⟩, ⟨by (try simp only [hl9_1]); (with_reducible repeat (first | apply Kd.R_alloc | apply Kd.R_drewN | apply Kd.R_drew)); exact Kd.R_mono HO_9.out (fun _ hk => hk.2)⟩, ⟨by (try simp only [hl9_1]); (with_reducible repeat (first | apply Kd.R_alloc | apply Kd.R_drewN | apply Kd.R_drew)); exact HO_10.out⟩, ⟨by repeat (first | (with_reducible first | exact HI114.out | apply IsS134.alloc | apply IsS134.drewN | apply IsS134.drew | apply IsS134.set_1 | apply IsS134.set_2) | exact HI114.out)⟩, ⟨by repeat (first | (with_reducible first | exact HB.out | apply below_alloc | apply pw_below_drewN | apply below_drew1 | refine below_set ?_ (IsS134.ge HI114.out)) | exact HB.out)⟩⟩
      rw [if_neg c15] at H
      have c15b0 : decide (x32_1 < (y121.length : Int)) = false := decide_eq_false c15
      (try simp only [hl9_1] at c15b0)
      clear c15
      replace H := Option.bind_eq_some_iff.mp H
      obtain ⟨⟨t133, t134, t135⟩, A270, H⟩ := H
      replace H : (spec_DrawBetween.l1 k1 (wrap64 (1 + t115)) (wrap64 (1 + t118)) x9_1 x10_1 t133 l0 t134 t135) = some (r1, r2, r3, r4) := H
      have A27 := Aside0.mk A270
      clear A270
      have H' := Aside0.mk H
      clear H
      go_wp2_with (first | ((with_reducible refine gate_callee (f := 95) rfl ?_); refine goesL_ (some 50) rfl rfl Try.func95 (by kernel_rfl) rfl #[.pointer (some ⟨gb114, 0, none⟩), .int .i64 4] rfl (by (try simp only [List.map_toArray, List.map_cons, List.map_nil]); first | done | rfl | (simp only [List.length_drop, List.length_take]; rfl)) ?_; (with_reducible refine (spec_l1Cur_pick.calls gb114 l0 x115001_1 x115002_1 4 t133 t134 t135 w _ ?side1 ?side2 A27.out).mono ?_); (case side1 => repeat (first | (with_reducible first | exact HI114.out | apply IsS134.alloc | apply IsS134.drewN | apply IsS134.drew | apply IsS134.set_1 | apply IsS134.set_2) | exact HI114.out)); (case side2 => repeat (first | (with_reducible first | exact HB.out | apply below_alloc | apply pw_below_drewN | apply below_drew1 | refine below_set ?_ (IsS134.ge HI114.out)) | exact HB.out)); rintro e w28 ⟨rfl, hi, hb, hk⟩; refine ⟨_, rfl, ?_⟩; have n0_ := Aside0.mk (Kd.R_mono (Kd.R_keep (IsS134.apart (show IsS134 w _ gb114 l0 x115001_1 x115002_1 from by repeat (first | (with_reducible first | exact HI114.out | apply IsS134.alloc | apply IsS134.drewN | apply IsS134.drew | apply IsS134.set_1 | apply IsS134.set_2) | exact HI114.out)) (by (with_reducible repeat (first | apply Kd.R_alloc | apply Kd.R_drewN | apply Kd.R_drew)); exact HO_9.out) (by decide)) hk (fun _ h => h.2)) (fun _ h => h.1)); have n1_ := Aside0.mk (Kd.R_mono (Kd.R_keep (IsS134.apart (show IsS134 w _ gb114 l0 x115001_1 x115002_1 from by repeat (first | (with_reducible first | exact HI114.out | apply IsS134.alloc | apply IsS134.drewN | apply IsS134.drew | apply IsS134.set_1 | apply IsS134.set_2) | exact HI114.out)) (by (with_reducible repeat (first | apply Kd.R_alloc | apply Kd.R_drewN | apply Kd.R_drew)); exact HO_10.out) (by decide)) hk (fun _ h => h.2)) (fun _ h => h.1)); have n2_ := Aside0.mk (hb); have n3_ := Aside0.mk (hi); clear HO_9; clear HO_10; clear HB; clear HI114; have HO_9 := n0_; have HO_10 := n1_; have HB := n2_; have HI114 := n3_; clear n0_ n1_ n2_ n3_; (try clear hb); (try clear hb2); (try clear hk); (try clear hi)))
      go_loopg [12] k1 (fun kq v12 w' => ∃ (x10_2 : List Int) (x12_2 : Int) (x115001_2 : Int) (x115002_2 : Int), v12 = .int .i64 x12_2 ∧ Aside0 (spec_DrawBetween.l1 kq (wrap64 (1 + t115)) (wrap64 (1 + t118)) x9_1 x10_2 x12_2 l0 x115001_2 x115002_2 = some (r1, r2, r3, r4)) ∧ Aside0 (kq ≤ k1) ∧ Aside0 (Kd.R (Kd.int .i64) 3 w' w.heap.size (fun k_ => some k_ ≠ (v125 : Value).ownBlock) (.slice Ao14 x9_1.length co14) x9_1) ∧ Aside0 (Kd.R (Kd.int .i64) 3 w' w.heap.size (fun k_ => some k_ ≠ ((.slice Ao14 x9_1.length co14) : Value).ownBlock) v125 x10_2) ∧ Aside0 (IsS134 w w' gb114 l0 x115001_2 x115002_2) ∧ Aside0 (Below w.heap.size w w'))
      case atStart => exact ⟨(x10_1), (t133), (t134), (t135), (by first | rfl | (simp; done) | (simp [*]; done)), H', ⟨Nat.le_refl _⟩, ⟨by (try simp only [hl9_1]); (with_reducible repeat (first | apply Kd.R_alloc | apply Kd.R_drewN | apply Kd.R_drew)); exact HO_9.out⟩, ⟨by (try simp only [hl9_1]); (with_reducible repeat (first | apply Kd.R_alloc | apply Kd.R_drewN | apply Kd.R_drew)); exact HO_10.out⟩, ⟨by repeat (first | (with_reducible first | exact HI114.out | apply IsS134.alloc | apply IsS134.drewN | apply IsS134.drew | apply IsS134.set_1 | apply IsS134.set_2) | exact HI114.out)⟩, ⟨by repeat (first | (with_reducible first | exact HB.out | apply below_alloc | apply pw_below_drewN | apply below_drew1 | refine below_set ?_ (IsS134.ge HI114.out)) | exact HB.out)⟩⟩
      case round =>
        clear H'
        try clear c1
        try clear p1
        try clear q1
        try clear hx1
        try clear hf1
        try clear c2
        try clear p2
        try clear q2
        try clear hx2
        try clear hf2
        try clear c3
        try clear c5
        try clear c5b0
        try clear c5b1
        try clear c6
        try clear c6b0
        try clear c6b1
        try clear p6
        try clear c9
        try clear p13
        try clear q13
        try clear hx13
        try clear c15
        try clear c15b0
        try clear c17
        try clear c17b0
        try clear c18
        try clear c18b0
        try clear p19
        try clear q19
        try clear hx19
        try clear hf19
        try clear c20
        try clear c20b0
        try clear p21
        try clear q21
        try clear hx21
        try clear hf21
        try clear hx131_0
        try clear hx19_0
        try clear hx21_0
        try clear p131
        try clear p19
        try clear p2
        try clear p21
        try clear p6
        try clear q131
        try clear q19
        try clear q21
        obtain ⟨x10_2, x12_2, x115001_2, x115002_2, rfl, HA, HK2, HO_9, HO_10, HI114, HB⟩ := hrel
        cases gk with
        | zero => exact absurd HA.out (by simp [spec_DrawBetween.l1])
        | succ k2 =>
          have H := HA.out
          clear HA
          simp only [spec_DrawBetween.l1] at H
          by_cases c29 : x12_2 > 0
          · rw [if_pos c29] at H
            have c29b0 : decide (0 < x12_2) = true := decide_eq_true c29
            clear c29
            replace H := Option.bind_eq_some_iff.mp H
            obtain ⟨⟨t136, t137, t138⟩, A300, H⟩ := H
            replace H : ((spec_l1Cur_pick.f l0 t137 t138 7).bind fun bt139 => (if 0 ≤ t136 then (if t136 < (x10_2.length : Int) then (spec_DrawBetween.l1 k2 (wrap64 (1 + t115)) (wrap64 (1 + t118)) x9_1 (x10_2.set (t136 : Int).toNat (wrap64 (bt139.1 - 1))) (wrap64 (x12_2 - 1)) l0 bt139.2.1 bt139.2.2) else (none)) else (none))) = some (r1, r2, r3, r4) := H
            have A30 := Aside0.mk A300
            clear A300
            replace H := Option.bind_eq_some_iff.mp H
            obtain ⟨⟨t139, t140, t141⟩, A310, H⟩ := H
            replace H : (if 0 ≤ t136 then (if t136 < (x10_2.length : Int) then (spec_DrawBetween.l1 k2 (wrap64 (1 + t115)) (wrap64 (1 + t118)) x9_1 (x10_2.set (t136 : Int).toNat (wrap64 (t139 - 1))) (wrap64 (x12_2 - 1)) l0 t140 t141) else (none)) else (none)) = some (r1, r2, r3, r4) := H
            have A31 := Aside0.mk A310
            clear A310
            by_cases c32 : 0 ≤ t136
            rotate_left
            · rw [if_neg c32] at H
              exact absurd H (by simp)
            rw [if_pos c32] at H
            have c32b0 : decide (0 ≤ t136) = true := decide_eq_true c32
            clear c32
            by_cases c33 : t136 < (x10_2.length : Int)
            rotate_left
            · rw [if_neg c33] at H
              exact absurd H (by simp)
            rw [if_pos c33] at H
            have c33b0 : decide (t136 < (x10_2.length : Int)) = true := decide_eq_true c33
            (try simp only [hl9_1] at c33b0)
            clear c33
            obtain ⟨y142, hy142⟩ : ∃ y_ : List Int, y_ = (x10_2.set (t136 : Int).toNat (wrap64 (t139 - 1))) := ⟨_, rfl⟩
            replace H : (spec_DrawBetween.l1 k2 (wrap64 (1 + t115)) (wrap64 (1 + t118)) x9_1 y142 (wrap64 (x12_2 - 1)) l0 t140 t141) = some (r1, r2, r3, r4) := by first | (rw [hy142]; with_reducible exact H) | (have H2_ := (Option.bind_some _ _).symm.trans H; rw [hy142]; with_reducible exact H2_) | (have H2_ := (Option.bind_some _ _).symm.trans H; with_reducible exact H2_) | with_reducible exact H | (rw [hy142]; exact H) | exact H
            have Ny142 := Aside0.mk hy142
            clear hy142
            have H' := Aside0.mk H
            clear H
            go_wp2_with (first | ((with_reducible refine gate_callee (f := 95) rfl ?_); refine goesL_ (some 60) rfl rfl Try.func95 (by kernel_rfl) rfl #[.pointer (some ⟨gb114, 0, none⟩), .int .i64 (wrap64 ((wrap64 (1 + t115)) * (wrap64 (1 + t118))))] rfl (by (try simp only [List.map_toArray, List.map_cons, List.map_nil]); first | done | (simp only [hji4]; rfl) | rfl | (simp only [List.length_drop, List.length_take]; rfl)) ?_; (with_reducible refine (spec_l1Cur_pick.calls gb114 l0 x115001_2 x115002_2 (wrap64 ((wrap64 (1 + t115)) * (wrap64 (1 + t118)))) t136 t137 t138 w _ ?side1 ?side2 A30.out).mono ?_); (case side1 => repeat (first | (with_reducible first | exact HI114.out | apply IsS134.alloc | apply IsS134.drewN | apply IsS134.drew | apply IsS134.set_1 | apply IsS134.set_2) | exact HI114.out)); (case side2 => repeat (first | (with_reducible first | exact HB.out | apply below_alloc | apply pw_below_drewN | apply below_drew1 | refine below_set ?_ (IsS134.ge HI114.out)) | exact HB.out)); rintro e w35 ⟨rfl, hi, hb, hk⟩; refine ⟨_, rfl, ?_⟩; have n0_ := Aside0.mk (Kd.R_mono (Kd.R_keep (IsS134.apart (show IsS134 w _ gb114 l0 x115001_2 x115002_2 from by repeat (first | (with_reducible first | exact HI114.out | apply IsS134.alloc | apply IsS134.drewN | apply IsS134.drew | apply IsS134.set_1 | apply IsS134.set_2) | exact HI114.out)) (by (with_reducible repeat (first | apply Kd.R_alloc | apply Kd.R_drewN | apply Kd.R_drew)); exact HO_9.out) (by decide)) hk (fun _ h => h.2)) (fun _ h => h.1)); have n1_ := Aside0.mk (Kd.R_mono (Kd.R_keep (IsS134.apart (show IsS134 w _ gb114 l0 x115001_2 x115002_2 from by repeat (first | (with_reducible first | exact HI114.out | apply IsS134.alloc | apply IsS134.drewN | apply IsS134.drew | apply IsS134.set_1 | apply IsS134.set_2) | exact HI114.out)) (by (with_reducible repeat (first | apply Kd.R_alloc | apply Kd.R_drewN | apply Kd.R_drew)); exact HO_10.out) (by decide)) hk (fun _ h => h.2)) (fun _ h => h.1)); have n2_ := Aside0.mk (hb); have n3_ := Aside0.mk (hi); clear HO_9; clear HO_10; clear HB; clear HI114; have HO_9 := n0_; have HO_10 := n1_; have HB := n2_; have HI114 := n3_; clear n0_ n1_ n2_ n3_; (try clear hb); (try clear hb2); (try clear hk); (try clear hi)) | ((with_reducible refine gate_callee (f := 95) rfl ?_); refine goesL_ (some 62) rfl rfl Try.func95 (by kernel_rfl) rfl #[.pointer (some ⟨gb114, 0, none⟩), .int .i64 7] rfl (by (try simp only [List.map_toArray, List.map_cons, List.map_nil]); first | done | rfl | (simp only [List.length_drop, List.length_take]; rfl)) ?_; (with_reducible refine (spec_l1Cur_pick.calls gb114 l0 t137 t138 7 t139 t140 t141 w _ ?side1 ?side2 A31.out).mono ?_); (case side1 => repeat (first | (with_reducible first | exact HI114.out | apply IsS134.alloc | apply IsS134.drewN | apply IsS134.drew | apply IsS134.set_1 | apply IsS134.set_2) | exact HI114.out)); (case side2 => repeat (first | (with_reducible first | exact HB.out | apply below_alloc | apply pw_below_drewN | apply below_drew1 | refine below_set ?_ (IsS134.ge HI114.out)) | exact HB.out)); rintro e w36 ⟨rfl, hi, hb, hk⟩; refine ⟨_, rfl, ?_⟩; have n0_ := Aside0.mk (Kd.R_mono (Kd.R_keep (IsS134.apart (show IsS134 w _ gb114 l0 t137 t138 from by repeat (first | (with_reducible first | exact HI114.out | apply IsS134.alloc | apply IsS134.drewN | apply IsS134.drew | apply IsS134.set_1 | apply IsS134.set_2) | exact HI114.out)) (by (with_reducible repeat (first | apply Kd.R_alloc | apply Kd.R_drewN | apply Kd.R_drew)); exact HO_9.out) (by decide)) hk (fun _ h => h.2)) (fun _ h => h.1)); have n1_ := Aside0.mk (Kd.R_mono (Kd.R_keep (IsS134.apart (show IsS134 w _ gb114 l0 t137 t138 from by repeat (first | (with_reducible first | exact HI114.out | apply IsS134.alloc | apply IsS134.drewN | apply IsS134.drew | apply IsS134.set_1 | apply IsS134.set_2) | exact HI114.out)) (by (with_reducible repeat (first | apply Kd.R_alloc | apply Kd.R_drewN | apply Kd.R_drew)); exact HO_10.out) (by decide)) hk (fun _ h => h.2)) (fun _ h => h.1)); have n2_ := Aside0.mk (hb); have n3_ := Aside0.mk (hi); clear HO_9; clear HO_10; clear HB; clear HI114; have HO_9 := n0_; have HO_10 := n1_; have HB := n2_; have HI114 := n3_; clear n0_ n1_ n2_ n3_; (try clear hb); (try clear hb2); (try clear hk); (try clear hi); have p34 : 0 ≤ (t136 : Int) := of_decide_eq_true (by first | (with_reducible assumption) | assumption); have q34 : (t136 : Int) < ((x10_2.length : Int) : Int) := of_decide_eq_true (by first | (with_reducible assumption) | assumption); obtain ⟨go34, co34, eo34, gb34, gl34, cl34, HG34⟩ := Kd.R_form HO_10.out (by omega); (first | cases eo34 | (injection eo34 with ea_ en_ ec_; (first | subst ea_ | (injection ea_ with ea_; subst ea_)); subst ec_; clear en_)); have GB34 := Aside0.mk gb34; have GG34 := Aside0.mk HG34; clear gb34 gl34 HG34; obtain ⟨hx34_0, hf34_0⟩ := Kd.R_celln 0 HO_10.out (t136 : Int) p34 q34; replace p34 := eq_true p34; replace q34 := eq_true q34; obtain ⟨hy37_, hz37_⟩ := Kd.R_celln 0 HO_10.out (t136 : Int) (of_decide_eq_true (by first | (with_reducible assumption) | assumption)) (of_decide_eq_true (by first | (with_reducible assumption) | assumption)); have HP37 := Kd.R_putg HO_10.out (t136 : Int) (wrap64 (t139 - 1))) | ((with_reducible refine gate_store (t := 3) (p := 64) rfl ?_); refine store_event (t := 3) (p := 64) (v := ?vo_w38) (w1 := (w36.setCell ⟨go34, (t136 : Int).toNat, none⟩ (.int .i64 (wrap64 (t139 - 1))))) ?hg ?ho ?hn ?hr ?_; (case ho => rfl); (case hg => rfl); (case hn => rfl); (case hr => first | (go_simp; done) | (go_simp; rfl)); intro w38 hw; have hg : w36.grownBy w38 (some go34) := (by rw [hw]; exact HP37.2); have hp_ : Kd.R (Kd.int .i64) 3 w38 w.heap.size (fun k_ => some k_ ≠ (.slice Ao14 x9_1.length co14 : Value).ownBlock) (.slice (some ⟨go34, 0, none⟩) x10_2.length co34) y142 := (by rw [hw, Ny142.out]; exact HP37.1); clear HP37; have n0_ := Aside0.mk (Kd.R_after (v := (.slice (some ⟨go34, 0, none⟩) x10_2.length co34)) (v1 := (.slice (some ⟨go34, 0, none⟩) x10_2.length co34)) (ok := (fun _ => True)) (by (with_reducible repeat (first | apply Kd.R_alloc | apply Kd.R_drewN | apply Kd.R_drew)); exact Kd.R_mono HO_9.out (fun _ hk => ⟨trivial, hk⟩)) hg (.inl rfl)); have n1_ := Aside0.mk (hp_); have n2_ := Aside0.mk (IsS134.grown (by repeat (first | (with_reducible first | exact HI114.out | apply IsS134.alloc | apply IsS134.drewN | apply IsS134.drew | apply IsS134.set_1 | apply IsS134.set_2) | exact HI114.out)) hg (IsS134.own_ne HI114.out HO_10.out (by decide))); have n3_ := Aside0.mk ((by rw [hw]; exact below_set (HB.out) GB34.out : Below w.heap.size w w38)); clear HO_9; clear HO_10; clear HI114; clear HB; have HO_9 := n0_; have HO_10 := n1_; have HI114 := n2_; have HB := n3_; clear n0_ n1_ n2_ n3_; clear hg hw hp_))
            go_roundg k2
            case measure => have := HK1.out; have := HK2.out; omega
            case rel => exact ⟨(y142), (wrap64 (x12_2 - 1)), (t140), (t141), (by first | rfl | (simp; done) | (simp [*]; done)), H', ⟨by have := HK1.out; have := HK2.out; omega⟩, ⟨by (try simp only [hl9_1]); (with_reducible repeat (first | apply Kd.R_alloc | apply Kd.R_drewN | apply Kd.R_drew)); exact Kd.R_mono HO_9.out (fun _ hk => hk.2)⟩, ⟨by (try simp only [hl9_1]); (with_reducible repeat (first | apply Kd.R_alloc | apply Kd.R_drewN | apply Kd.R_drew)); exact HO_10.out⟩, ⟨by repeat (first | (with_reducible first | exact HI114.out | apply IsS134.alloc | apply IsS134.drewN | apply IsS134.drew | apply IsS134.set_1 | apply IsS134.set_2) | exact HI114.out)⟩, ⟨by repeat (first | (with_reducible first | exact HB.out | apply below_alloc | apply pw_below_drewN | apply below_drew1 | refine below_set ?_ (IsS134.ge HI114.out)) | exact HB.out)⟩⟩
          rw [if_neg c29] at H
          have c29b0 : decide (0 < x12_2) = false := decide_eq_false c29
          clear c29
          replace H := Option.bind_eq_some_iff.mp H
          obtain ⟨⟨t143, t144, t145⟩, A390, H⟩ := H
          replace H : (if t143 = 0 then (some (wrap64 ((wrap64 (1 + t115)) + 1), (wrap64 (1 + t118)), x9_1, x10_2)) else (if t143 = 1 then (if 0 < (x10_2.length : Int) then (some ((wrap64 (1 + t115)), (wrap64 (1 + t118)), x9_1, (x10_2.set (0 : Int).toNat 256))) else (none)) else (some ((wrap64 (1 + t115)), (wrap64 (1 + t118)), x9_1, x10_2)))) = some (r1, r2, r3, r4) := H
          have A39 := Aside0.mk A390
          clear A390
          by_cases c40 : t143 = 0
          · rw [if_pos c40] at H
            have c40b0 : (t143 == 0) = true := beq_iff_eq.mpr c40
            have c40b1 : (t143 != 0) = false := bne_eq_false_iff_eq.mpr c40
            clear c40
            simp only [Option.some.injEq, Prod.mk.injEq] at H
            obtain ⟨rfl, rfl, rfl, rfl⟩ := H
            go_wp2_with (first | ((with_reducible refine gate_callee (f := 95) rfl ?_); refine goesL_ (some 66) rfl rfl Try.func95 (by kernel_rfl) rfl #[.pointer (some ⟨gb114, 0, none⟩), .int .i64 12] rfl (by (try simp only [List.map_toArray, List.map_cons, List.map_nil]); first | done | rfl | (simp only [List.length_drop, List.length_take]; rfl)) ?_; (with_reducible refine (spec_l1Cur_pick.calls gb114 l0 x115001_2 x115002_2 12 t143 t144 t145 w _ ?side1 ?side2 A39.out).mono ?_); (case side1 => repeat (first | (with_reducible first | exact HI114.out | apply IsS134.alloc | apply IsS134.drewN | apply IsS134.drew | apply IsS134.set_1 | apply IsS134.set_2) | exact HI114.out)); (case side2 => repeat (first | (with_reducible first | exact HB.out | apply below_alloc | apply pw_below_drewN | apply below_drew1 | refine below_set ?_ (IsS134.ge HI114.out)) | exact HB.out)); rintro e w41 ⟨rfl, hi, hb, hk⟩; refine ⟨_, rfl, ?_⟩; have n0_ := Aside0.mk (Kd.R_mono (Kd.R_keep (IsS134.apart (show IsS134 w _ gb114 l0 x115001_2 x115002_2 from by repeat (first | (with_reducible first | exact HI114.out | apply IsS134.alloc | apply IsS134.drewN | apply IsS134.drew | apply IsS134.set_1 | apply IsS134.set_2) | exact HI114.out)) (by (with_reducible repeat (first | apply Kd.R_alloc | apply Kd.R_drewN | apply Kd.R_drew)); exact HO_9.out) (by decide)) hk (fun _ h => h.2)) (fun _ h => h.1)); have n1_ := Aside0.mk (Kd.R_mono (Kd.R_keep (IsS134.apart (show IsS134 w _ gb114 l0 x115001_2 x115002_2 from by repeat (first | (with_reducible first | exact HI114.out | apply IsS134.alloc | apply IsS134.drewN | apply IsS134.drew | apply IsS134.set_1 | apply IsS134.set_2) | exact HI114.out)) (by (with_reducible repeat (first | apply Kd.R_alloc | apply Kd.R_drewN | apply Kd.R_drew)); exact HO_10.out) (by decide)) hk (fun _ h => h.2)) (fun _ h => h.1)); have n2_ := Aside0.mk (hb); have n3_ := Aside0.mk (hi); clear HO_9; clear HO_10; clear HB; clear HI114; have HO_9 := n0_; have HO_10 := n1_; have HB := n2_; have HI114 := n3_; clear n0_ n1_ n2_ n3_; (try clear hb); (try clear hb2); (try clear hk); (try clear hi)))
            refine bodyPost_ret (results_list (rs := [.tmp 2, .tmp 3, .tmp 4, .tmp 5]) rfl (by simp) (.tmp (.tmp (.tmp (.tmp .nil))))) rfl ?_
            exact ⟨_, _, by first | rfl | (simp [errW_none, errW_some] <;> rfl) | (simp only [← hji4]; first | rfl | (simp [errW_none, errW_some] <;> rfl)) | (simp [*, errW_none, errW_some] <;> rfl), by (with_reducible repeat (first | apply Kd.R_alloc | apply Kd.R_drewN | apply Kd.R_drew)); exact HO_9.out, by (with_reducible repeat (first | apply Kd.R_alloc | apply Kd.R_drewN | apply Kd.R_drew)); exact HO_10.out, by repeat (first | (with_reducible first | exact HB.out | apply below_alloc | apply pw_below_drewN | apply below_drew1 | refine below_set ?_ (IsS134.ge HI114.out)) | exact HB.out)⟩
          rw [if_neg c40] at H
          have c40b0 : (t143 == 0) = false := beq_eq_false_iff_ne.mpr c40
          have c40b1 : (t143 != 0) = true := bne_iff_ne.mpr c40
          by_cases c42 : t143 = 1
          rotate_left
          · rw [if_neg c42] at H
            have c42b0 : (t143 == 1) = false := beq_eq_false_iff_ne.mpr c42
            have c42b1 : (t143 != 1) = true := bne_iff_ne.mpr c42
            simp only [Option.some.injEq, Prod.mk.injEq] at H
            obtain ⟨rfl, rfl, rfl, rfl⟩ := H
            go_wp2_with (first | ((with_reducible refine gate_callee (f := 95) rfl ?_); refine goesL_ (some 66) rfl rfl Try.func95 (by kernel_rfl) rfl #[.pointer (some ⟨gb114, 0, none⟩), .int .i64 12] rfl (by (try simp only [List.map_toArray, List.map_cons, List.map_nil]); first | done | rfl | (simp only [List.length_drop, List.length_take]; rfl)) ?_; (with_reducible refine (spec_l1Cur_pick.calls gb114 l0 x115001_2 x115002_2 12 t143 t144 t145 w _ ?side1 ?side2 A39.out).mono ?_); (case side1 => repeat (first | (with_reducible first | exact HI114.out | apply IsS134.alloc | apply IsS134.drewN | apply IsS134.drew | apply IsS134.set_1 | apply IsS134.set_2) | exact HI114.out)); (case side2 => repeat (first | (with_reducible first | exact HB.out | apply below_alloc | apply pw_below_drewN | apply below_drew1 | refine below_set ?_ (IsS134.ge HI114.out)) | exact HB.out)); rintro e w48 ⟨rfl, hi, hb, hk⟩; refine ⟨_, rfl, ?_⟩; have n0_ := Aside0.mk (Kd.R_mono (Kd.R_keep (IsS134.apart (show IsS134 w _ gb114 l0 x115001_2 x115002_2 from by repeat (first | (with_reducible first | exact HI114.out | apply IsS134.alloc | apply IsS134.drewN | apply IsS134.drew | apply IsS134.set_1 | apply IsS134.set_2) | exact HI114.out)) (by (with_reducible repeat (first | apply Kd.R_alloc | apply Kd.R_drewN | apply Kd.R_drew)); exact HO_9.out) (by decide)) hk (fun _ h => h.2)) (fun _ h => h.1)); have n1_ := Aside0.mk (Kd.R_mono (Kd.R_keep (IsS134.apart (show IsS134 w _ gb114 l0 x115001_2 x115002_2 from by repeat (first | (with_reducible first | exact HI114.out | apply IsS134.alloc | apply IsS134.drewN | apply IsS134.drew | apply IsS134.set_1 | apply IsS134.set_2) | exact HI114.out)) (by (with_reducible repeat (first | apply Kd.R_alloc | apply Kd.R_drewN | apply Kd.R_drew)); exact HO_10.out) (by decide)) hk (fun _ h => h.2)) (fun _ h => h.1)); have n2_ := Aside0.mk (hb); have n3_ := Aside0.mk (hi); clear HO_9; clear HO_10; clear HB; clear HI114; have HO_9 := n0_; have HO_10 := n1_; have HB := n2_; have HI114 := n3_; clear n0_ n1_ n2_ n3_; (try clear hb); (try clear hb2); (try clear hk); (try clear hi)))
            refine bodyPost_ret (results_list (rs := [.tmp 2, .tmp 3, .tmp 4, .tmp 5]) rfl (by simp) (.tmp (.tmp (.tmp (.tmp .nil))))) rfl ?_
            exact ⟨_, _, by first | rfl | (simp [errW_none, errW_some] <;> rfl) | (simp only [← hji4]; first | rfl | (simp [errW_none, errW_some] <;> rfl)) | (simp [*, errW_none, errW_some] <;> rfl), by (with_reducible repeat (first | apply Kd.R_alloc | apply Kd.R_drewN | apply Kd.R_drew)); exact HO_9.out, by (with_reducible repeat (first | apply Kd.R_alloc | apply Kd.R_drewN | apply Kd.R_drew)); exact HO_10.out, by repeat (first | (with_reducible first | exact HB.out | apply below_alloc | apply pw_below_drewN | apply below_drew1 | refine below_set ?_ (IsS134.ge HI114.out)) | exact HB.out)⟩
          rw [if_pos c42] at H
          have c42b0 : (t143 == 1) = true := beq_iff_eq.mpr c42
          have c42b1 : (t143 != 1) = false := bne_eq_false_iff_eq.mpr c42
          clear c42
          by_cases c43 : 0 < (x10_2.length : Int)
          rotate_left
          · rw [if_neg c43] at H
            exact absurd H (by simp)
          rw [if_pos c43] at H
          have c43b0 : decide (0 < (x10_2.length : Int)) = true := decide_eq_true c43
          (try simp only [hl9_1] at c43b0)
          have c43b1 : decide (0 < x10_2.length) = true := decide_eq_true (by omega)
          (try simp only [hl9_1] at c43b1)
          have c43b2 : 0 < x10_2.length := by omega
          (try simp only [hl9_1] at c43b2)
          clear c43
          obtain ⟨y146, hy146⟩ : ∃ y_ : List Int, y_ = (x10_2.set (0 : Int).toNat 256) := ⟨_, rfl⟩
          replace H : (some ((wrap64 (1 + t115)), (wrap64 (1 + t118)), x9_1, y146)) = some (r1, r2, r3, r4) := by first | (rw [hy146]; with_reducible exact H) | (have H2_ := (Option.bind_some _ _).symm.trans H; rw [hy146]; with_reducible exact H2_) | (have H2_ := (Option.bind_some _ _).symm.trans H; with_reducible exact H2_) | with_reducible exact H | (rw [hy146]; exact H) | exact H
          have Ny146 := Aside0.mk hy146
          clear hy146
          simp only [Option.some.injEq, Prod.mk.injEq] at H
          obtain ⟨rfl, rfl, rfl, rfl⟩ := H
          go_wp2_with (first | ((with_reducible refine gate_callee (f := 95) rfl ?_); refine goesL_ (some 66) rfl rfl Try.func95 (by kernel_rfl) rfl #[.pointer (some ⟨gb114, 0, none⟩), .int .i64 12] rfl (by (try simp only [List.map_toArray, List.map_cons, List.map_nil]); first | done | rfl | (simp only [List.length_drop, List.length_take]; rfl)) ?_; (with_reducible refine (spec_l1Cur_pick.calls gb114 l0 x115001_2 x115002_2 12 t143 t144 t145 w _ ?side1 ?side2 A39.out).mono ?_); (case side1 => repeat (first | (with_reducible first | exact HI114.out | apply IsS134.alloc | apply IsS134.drewN | apply IsS134.drew | apply IsS134.set_1 | apply IsS134.set_2) | exact HI114.out)); (case side2 => repeat (first | (with_reducible first | exact HB.out | apply below_alloc | apply pw_below_drewN | apply below_drew1 | refine below_set ?_ (IsS134.ge HI114.out)) | exact HB.out)); rintro e w45 ⟨rfl, hi, hb, hk⟩; refine ⟨_, rfl, ?_⟩; have n0_ := Aside0.mk (Kd.R_mono (Kd.R_keep (IsS134.apart (show IsS134 w _ gb114 l0 x115001_2 x115002_2 from by repeat (first | (with_reducible first | exact HI114.out | apply IsS134.alloc | apply IsS134.drewN | apply IsS134.drew | apply IsS134.set_1 | apply IsS134.set_2) | exact HI114.out)) (by (with_reducible repeat (first | apply Kd.R_alloc | apply Kd.R_drewN | apply Kd.R_drew)); exact HO_9.out) (by decide)) hk (fun _ h => h.2)) (fun _ h => h.1)); have n1_ := Aside0.mk (Kd.R_mono (Kd.R_keep (IsS134.apart (show IsS134 w _ gb114 l0 x115001_2 x115002_2 from by repeat (first | (with_reducible first | exact HI114.out | apply IsS134.alloc | apply IsS134.drewN | apply IsS134.drew | apply IsS134.set_1 | apply IsS134.set_2) | exact HI114.out)) (by (with_reducible repeat (first | apply Kd.R_alloc | apply Kd.R_drewN | apply Kd.R_drew)); exact HO_10.out) (by decide)) hk (fun _ h => h.2)) (fun _ h => h.1)); have n2_ := Aside0.mk (hb); have n3_ := Aside0.mk (hi); clear HO_9; clear HO_10; clear HB; clear HI114; have HO_9 := n0_; have HO_10 := n1_; have HB := n2_; have HI114 := n3_; clear n0_ n1_ n2_ n3_; (try clear hb); (try clear hb2); (try clear hk); (try clear hi); have p44 : 0 ≤ (0 : Int) := (by omega); have q44 : (0 : Int) < ((x10_2.length : Int) : Int) := of_decide_eq_true (by first | (with_reducible assumption) | assumption); have qi44 : (0 < x10_2.length) = True := eq_true (by omega); obtain ⟨go44, co44, eo44, gb44, gl44, cl44, HG44⟩ := Kd.R_form HO_10.out (by omega); (first | cases eo44 | (injection eo44 with ea_ en_ ec_; (first | subst ea_ | (injection ea_ with ea_; subst ea_)); subst ec_; clear en_)); have GB44 := Aside0.mk gb44; have GG44 := Aside0.mk HG44; clear gb44 gl44 HG44; obtain ⟨hx44_0, hf44_0⟩ := Kd.R_celln 0 HO_10.out (0 : Int) p44 q44; (try rw [show ((0 : Int)).toNat = 0 from rfl] at hx44_0); (try simp only [Nat.reduceMul, Nat.zero_mul, Nat.zero_add, Nat.reduceAdd] at hx44_0); (try rw [show ((0 : Int)).toNat = 0 from rfl] at hf44_0); (try simp only [Nat.reduceMul, Nat.zero_mul, Nat.zero_add, Nat.reduceAdd] at hf44_0); replace p44 := eq_true p44; replace q44 := eq_true q44; obtain ⟨hy46_, hz46_⟩ := Kd.R_celln 0 HO_10.out (0 : Int) (by omega) (of_decide_eq_true (by first | (with_reducible assumption) | assumption)); (try simp only [Int.reduceToNat, Int.toNat_zero, Int.toNat_ofNat, Nat.reduceMul, Nat.zero_mul, Nat.zero_add] at hy46_ hz46_); (try rw [show ((0 : Int)).toNat = 0 from rfl] at hy46_); (try rw [show ((0 : Int)).toNat = 0 from rfl] at hz46_); have HP46 := Kd.R_putg HO_10.out (0 : Int) 256) | ((with_reducible refine gate_store (t := 3) (p := 74) rfl ?_); refine store_event (t := 3) (p := 74) (v := ?vo_w47) (w1 := (w45.setCell ⟨go44, (0 : Int).toNat, none⟩ (.int .i64 256))) ?hg ?ho ?hn ?hr ?_; (case ho => rfl); (case hg => rfl); (case hn => rfl); (case hr => first | (go_simp; done) | (go_simp; rfl)); intro w47 hw; have hg : w45.grownBy w47 (some go44) := (by rw [hw]; exact HP46.2); have hp_ : Kd.R (Kd.int .i64) 3 w47 w.heap.size (fun k_ => some k_ ≠ (.slice Ao14 x9_1.length co14 : Value).ownBlock) (.slice (some ⟨go44, 0, none⟩) x10_2.length co44) y146 := (by rw [hw, Ny146.out]; exact HP46.1); clear HP46; have n0_ := Aside0.mk (Kd.R_after (v := (.slice (some ⟨go44, 0, none⟩) x10_2.length co44)) (v1 := (.slice (some ⟨go44, 0, none⟩) x10_2.length co44)) (ok := (fun _ => True)) (by (with_reducible repeat (first | apply Kd.R_alloc | apply Kd.R_drewN | apply Kd.R_drew)); exact Kd.R_mono HO_9.out (fun _ hk => ⟨trivial, hk⟩)) hg (.inl rfl)); have n1_ := Aside0.mk (hp_); have n2_ := Aside0.mk (IsS134.grown (by repeat (first | (with_reducible first | exact HI114.out | apply IsS134.alloc | apply IsS134.drewN | apply IsS134.drew | apply IsS134.set_1 | apply IsS134.set_2) | exact HI114.out)) hg (IsS134.own_ne HI114.out HO_10.out (by decide))); have n3_ := Aside0.mk ((by rw [hw]; exact below_set (HB.out) GB44.out : Below w.heap.size w w47)); clear HO_9; clear HO_10; clear HI114; clear HB; have HO_9 := n0_; have HO_10 := n1_; have HI114 := n2_; have HB := n3_; clear n0_ n1_ n2_ n3_; clear hg hw hp_))
          refine bodyPost_ret (results_list (rs := [.tmp 2, .tmp 3, .tmp 4, .tmp 5]) rfl (by simp) (.tmp (.tmp (.tmp (.tmp .nil))))) rfl ?_
          exact ⟨_, _, by first | rfl | (simp [errW_none, errW_some] <;> rfl) | (simp only [← hji4]; first | rfl | (simp [errW_none, errW_some] <;> rfl)) | (simp [*, errW_none, errW_some] <;> rfl), by (with_reducible repeat (first | apply Kd.R_alloc | apply Kd.R_drewN | apply Kd.R_drew)); exact Kd.R_mono HO_9.out (fun _ hk => hk.2), by (with_reducible repeat (first | apply Kd.R_alloc | apply Kd.R_drewN | apply Kd.R_drew)); exact HO_10.out, by repeat (first | (with_reducible first | exact HB.out | apply below_alloc | apply pw_below_drewN | apply below_drew1 | refine below_set ?_ (IsS134.ge HI114.out)) | exact HB.out)⟩

/-! ### impl_goodSide: function 161 -/
def impl_goodSide.f (a0 : Int) : Option (Bool) := if a0 ≥ 1 then (some (decide (a0 ≤ 512))) else (some false)
set_option maxHeartbeats 8000000 in
set_option maxRecDepth 100000 in
theorem impl_goodSide.calls (a0 : Int) (r : Bool) (w : World) (h : impl_goodSide.f a0 = some r) :
    Calls Try.prog 161 #[.int .i64 a0] w fun e w' => e = .returned (.bool r) ∧ Drawn0 w w' := by
  have H : (if a0 ≥ 1 then (some (decide (a0 ≤ 512))) else (some false)) = some r := h
  clear h
  by_cases c2 : a0 ≥ 1
  · rw [if_pos c2] at H
    have c2b0 : decide (1 ≤ a0) = true := decide_eq_true c2
    clear c2
    obtain rfl := Option.some.inj H
    go_enter Try.func161, Try.ntmps161
    go_wp2
    go_ret
    exact ⟨by first | rfl | (simp; done) | (simp [*]; done), by repeat (first | exact Drawn0.refl _ | apply Drawn0.step)⟩
  · rw [if_neg c2] at H
    have c2b0 : decide (1 ≤ a0) = false := decide_eq_false c2
    clear c2
    obtain rfl := Option.some.inj H
    go_enter Try.func161, Try.ntmps161
    go_wp2
    go_ret
    exact ⟨by first | rfl | (simp; done) | (simp [*]; done), by repeat (first | exact Drawn0.refl _ | apply Drawn0.step)⟩

/-! ### impl_goodSides: function 96 -/
def impl_goodSides.f (a0 : Int) (a1 : Int) : Option (Bool) := (impl_goodSide.f a0).bind fun t147 => (if t147 = true then ((impl_goodSide.f a1).bind fun t148 => (if t148 = true then (some (decide ((wrap64 (a0 * a1)) ≤ 4096))) else (some false))) else (some false))
set_option maxHeartbeats 8000000 in
set_option maxRecDepth 100000 in
theorem impl_goodSides.calls (a0 : Int) (a1 : Int) (r : Bool) (w : World) (h : impl_goodSides.f a0 a1 = some r) :
    Calls Try.prog 96 #[.int .i64 a0, .int .i64 a1] w fun e w' => e = .returned (.bool r) ∧ Drawn0 w w' := by
  have H : ((impl_goodSide.f a0).bind fun t147 => (if t147 = true then ((impl_goodSide.f a1).bind fun t148 => (if t148 = true then (some (decide ((wrap64 (a0 * a1)) ≤ 4096))) else (some false))) else (some false))) = some r := h
  clear h
  replace H := Option.bind_eq_some_iff.mp H
  obtain ⟨t147, A30, H⟩ := H
  replace H : (if t147 = true then ((impl_goodSide.f a1).bind fun t148 => (if t148 = true then (some (decide ((wrap64 (a0 * a1)) ≤ 4096))) else (some false))) else (some false)) = some r := H
  have A3 := Aside0.mk A30
  clear A30
  by_cases c4 : t147 = true
  · subst c4
    have H1 : ((impl_goodSide.f a1).bind fun t148 => (if t148 = true then (some (decide ((wrap64 (a0 * a1)) ≤ 4096))) else (some false))) = some r := by rw [if_pos rfl] at H; exact H
    clear H
    have H := H1
    clear H1
    replace H := Option.bind_eq_some_iff.mp H
    obtain ⟨t148, A50, H⟩ := H
    replace H : (if t148 = true then (some (decide ((wrap64 (a0 * a1)) ≤ 4096))) else (some false)) = some r := H
    have A5 := Aside0.mk A50
    clear A50
    by_cases c6 : t148 = true
    · subst c6
      have H1 : (some (decide ((wrap64 (a0 * a1)) ≤ 4096))) = some r := by rw [if_pos rfl] at H; exact H
      clear H
      have H := H1
      clear H1
      obtain rfl := Option.some.inj H
      go_enter Try.func96, Try.ntmps96
      go_wp2_with (first | ((with_reducible refine gate_callee (f := 161) rfl ?_); refine goesL_ (some 6) rfl rfl Try.func161 (by kernel_rfl) rfl #[.int .i64 a0] rfl (by (try simp only [List.map_toArray, List.map_cons, List.map_nil]); first | done | rfl | (simp only [List.length_drop, List.length_take]; rfl)) ?_; (with_reducible refine (impl_goodSide.calls a0 true _ A3.out).mono ?_); rintro e w' ⟨rfl, ⟨nd, rfl⟩⟩; refine ⟨_, rfl, ?_⟩) | (go_at_call 161; (with_reducible refine (impl_goodSide.calls a1 true _ A5.out).mono ?_); rintro e w' ⟨rfl, ⟨nd, rfl⟩⟩))
      go_ret
      exact ⟨by first | rfl | (simp; done) | (simp [*]; done), by repeat (first | exact Drawn0.refl _ | apply Drawn0.step)⟩
    · replace c6 := Bool.eq_false_iff.mpr c6
      subst c6
      have H1 : (some false) = some r := by rw [if_neg (show ¬ (false = true) by decide)] at H; exact H
      clear H
      have H := H1
      clear H1
      obtain rfl := Option.some.inj H
      go_enter Try.func96, Try.ntmps96
      go_wp2_with (first | ((with_reducible refine gate_callee (f := 161) rfl ?_); refine goesL_ (some 6) rfl rfl Try.func161 (by kernel_rfl) rfl #[.int .i64 a0] rfl (by (try simp only [List.map_toArray, List.map_cons, List.map_nil]); first | done | rfl | (simp only [List.length_drop, List.length_take]; rfl)) ?_; (with_reducible refine (impl_goodSide.calls a0 true _ A3.out).mono ?_); rintro e w' ⟨rfl, ⟨nd, rfl⟩⟩; refine ⟨_, rfl, ?_⟩) | (go_at_call 161; (with_reducible refine (impl_goodSide.calls a1 false _ A5.out).mono ?_); rintro e w' ⟨rfl, ⟨nd, rfl⟩⟩))
      go_ret
      exact ⟨by first | rfl | (simp; done) | (simp [*]; done), by repeat (first | exact Drawn0.refl _ | apply Drawn0.step)⟩
  · replace c4 := Bool.eq_false_iff.mpr c4
    subst c4
    have H1 : (some false) = some r := by rw [if_neg (show ¬ (false = true) by decide)] at H; exact H
    clear H
    have H := H1
    clear H1
    obtain rfl := Option.some.inj H
    go_enter Try.func96, Try.ntmps96
    go_wp2_with (first | ((with_reducible refine gate_callee (f := 161) rfl ?_); refine goesL_ (some 6) rfl rfl Try.func161 (by kernel_rfl) rfl #[.int .i64 a0] rfl (by (try simp only [List.map_toArray, List.map_cons, List.map_nil]); first | done | rfl | (simp only [List.length_drop, List.length_take]; rfl)) ?_; (with_reducible refine (impl_goodSide.calls a0 false _ A3.out).mono ?_); rintro e w' ⟨rfl, ⟨nd, rfl⟩⟩; refine ⟨_, rfl, ?_⟩))
    go_ret
    exact ⟨by first | rfl | (simp; done) | (simp [*]; done), by repeat (first | exact Drawn0.refl _ | apply Drawn0.step)⟩

/-! ### impl_goodScreen: function 97 -/
def impl_goodScreen.l0 : Nat → List Int → Int → List Int → Int → Int → Option (Bool)
  | 0, _, _, _, _, _ => none
  | k + 1, x0, x1, x7, x8, x9 => if x9 < x8 then (if 0 ≤ x9 then (if x9 < (x7.length : Int) then (if (rd x7 x9) < (-1) then (some false) else (if (rd x7 x9) > 255 then (some false) else (impl_goodScreen.l0 k x0 x1 x7 x8 (wrap64 (x9 + 1))))) else (none)) else (none)) else (some ((x0.length : Int) == x1))
def impl_goodScreen.f (k : Nat) (l0 : List Int) (a1 : Int) : Option (Bool) := impl_goodScreen.l0 k l0 a1 l0 (l0.length : Int) 0
theorem impl_goodScreen.mono_l : ∀ k, (∀ y0 y1 y2 y3 y4, LeO (impl_goodScreen.l0 k y0 y1 y2 y3 y4) (impl_goodScreen.l0 (k + 1) y0 y1 y2 y3 y4))
  | 0 => fun _ _ _ _ _ r h => by simp [impl_goodScreen.l0] at h
  | k + 1 => by
    have ih0 := impl_goodScreen.mono_l k
    · intro y0 y1 y2 y3 y4
      unfold impl_goodScreen.l0
      repeat' first
      | (with_reducible exact ih0 _ _ _ _ _)
      | (with_reducible exact LeO.refl _)
      | (with_reducible exact LeO.none _)
      | (with_reducible refine LeO.ite ?_ ?_)
      | (with_reducible refine LeO.bind ?_ (fun _ => ?_))
      | exact ih0 _ _ _ _ _
      | exact LeO.none _
      | refine LeO.ite ?_ ?_
      | refine LeO.bind ?_ (fun _ => ?_)
theorem impl_goodScreen.mono : ∀ a0 a1 k, LeO (impl_goodScreen.f k a0 a1) (impl_goodScreen.f (k + 1) a0 a1) := by
  intro a0 a1 k
  have ih0 := impl_goodScreen.mono_l k
  unfold impl_goodScreen.f
  repeat' first
      | (with_reducible exact ih0 _ _ _ _ _)
      | (with_reducible exact LeO.refl _)
      | (with_reducible exact LeO.none _)
      | (with_reducible refine LeO.ite ?_ ?_)
      | (with_reducible refine LeO.bind ?_ (fun _ => ?_))
      | exact ih0 _ _ _ _ _
      | exact LeO.none _
      | refine LeO.ite ?_ ?_
      | refine LeO.bind ?_ (fun _ => ?_)
set_option maxHeartbeats 8000000 in
set_option maxRecDepth 100000 in
theorem impl_goodScreen.calls (k : Nat) (A0 : Option Addr) (c0 : Nat) (l0 : List Int) (a1 : Int) (r : Bool) (w : World) (hr0 : Kd.C (Kd.int .i64) w A0 l0.length l0) (hc0 : l0.length ≤ c0) (h : impl_goodScreen.f k l0 a1 = some r) :
    Calls Try.prog 97 #[.slice A0 l0.length c0, .int .i64 a1] w fun e w' => e = .returned (.bool r) ∧ Drawn0 w w' := by
  have HR0 := Aside0.mk hr0
  have HC0 := Aside0.mk hc0
  clear hr0 hc0
  have H : (impl_goodScreen.l0 k l0 a1 l0 (l0.length : Int) 0) = some r := h
  clear h
  have H' := Aside0.mk H
  clear H
  go_enter Try.func97, Try.ntmps97
  go_wp2
  go_loopg [9] k (fun kq v9 w' => ∃ (x9_1 : Int), v9 = .int .i64 x9_1 ∧ Aside0 (impl_goodScreen.l0 kq l0 a1 l0 (l0.length : Int) x9_1 = some r) ∧ Aside0 (kq ≤ k) ∧ Drawn0 w w')
  case atStart => exact ⟨(0), (by first | rfl | (simp; done) | (simp [*]; done)), H', ⟨Nat.le_refl _⟩, by repeat (first | exact Drawn0.refl _ | apply Drawn0.step)⟩
  case round =>
    clear H'
    try clear p2
    obtain ⟨x9_1, rfl, HA, HK1, ⟨m1, rfl⟩⟩ := hrel
    cases gk with
    | zero => exact absurd HA.out (by simp [impl_goodScreen.l0])
    | succ k1 =>
      have H := HA.out
      clear HA
      simp only [impl_goodScreen.l0] at H
      by_cases c3 : x9_1 < (l0.length : Int)
      rotate_left
      · rw [if_neg c3] at H
        have c3b0 : decide (x9_1 < (l0.length : Int)) = false := decide_eq_false c3
        clear c3
        obtain rfl := Option.some.inj H
        go_wp2
        go_ret
        exact ⟨by first | rfl | (simp; done) | (simp [*]; done), by repeat (first | exact Drawn0.refl _ | apply Drawn0.step)⟩
      rw [if_pos c3] at H
      have c3b0 : decide (x9_1 < (l0.length : Int)) = true := decide_eq_true c3
      clear c3
      by_cases c4 : 0 ≤ x9_1
      rotate_left
      · rw [if_neg c4] at H
        exact absurd H (by simp)
      rw [if_pos c4] at H
      have c4b0 : decide (0 ≤ x9_1) = true := decide_eq_true c4
      clear c4
      by_cases c5 : x9_1 < (l0.length : Int)
      rotate_left
      · rw [if_neg c5] at H
        exact absurd H (by simp)
      rw [if_pos c5] at H
      have c5b0 : decide (x9_1 < (l0.length : Int)) = true := decide_eq_true c5
      clear c5
      by_cases c6 : (rd l0 x9_1) < (-1)
      · rw [if_pos c6] at H
        have c6b0 : decide ((rd l0 x9_1) < (-1)) = true := decide_eq_true c6
        clear c6
        obtain rfl := Option.some.inj H
        have p149 : 0 ≤ (x9_1 : Int) := of_decide_eq_true (by first | (with_reducible assumption) | assumption)
        have q149 : x9_1 < (l0.length : Int) := of_decide_eq_true (by first | (with_reducible assumption) | assumption)
        obtain ⟨ad149, e149, hx149_0⟩ := Kd.at_int HR0.out x9_1 p149 q149
        cases e149
        replace p149 := eq_true p149
        replace q149 := eq_true q149
        go_wp2
        go_ret
        exact ⟨by first | rfl | (simp; done) | (simp [*]; done), by repeat (first | exact Drawn0.refl _ | apply Drawn0.step)⟩
      rw [if_neg c6] at H
      have c6b0 : decide ((rd l0 x9_1) < (-1)) = false := decide_eq_false c6
      clear c6
      by_cases c7 : (rd l0 x9_1) > 255
      · rw [if_pos c7] at H
        have c7b0 : decide (255 < (rd l0 x9_1)) = true := decide_eq_true c7
        clear c7
        obtain rfl := Option.some.inj H
        have p149 : 0 ≤ (x9_1 : Int) := of_decide_eq_true (by first | (with_reducible assumption) | assumption)
        have q149 : x9_1 < (l0.length : Int) := of_decide_eq_true (by first | (with_reducible assumption) | assumption)
        obtain ⟨ad149, e149, hx149_0⟩ := Kd.at_int HR0.out x9_1 p149 q149
        cases e149
        replace p149 := eq_true p149
        replace q149 := eq_true q149
        go_wp2
        go_ret
        exact ⟨by first | rfl | (simp; done) | (simp [*]; done), by repeat (first | exact Drawn0.refl _ | apply Drawn0.step)⟩
      rw [if_neg c7] at H
      have c7b0 : decide (255 < (rd l0 x9_1)) = false := decide_eq_false c7
      clear c7
      have H' := Aside0.mk H
      clear H
      have p149 : 0 ≤ (x9_1 : Int) := of_decide_eq_true (by first | (with_reducible assumption) | assumption)
      have q149 : x9_1 < (l0.length : Int) := of_decide_eq_true (by first | (with_reducible assumption) | assumption)
      obtain ⟨ad149, e149, hx149_0⟩ := Kd.at_int HR0.out x9_1 p149 q149
      cases e149
      replace p149 := eq_true p149
      replace q149 := eq_true q149
      go_wp2
      go_roundg k1
      case measure => have := HK1.out; omega
      case rel => exact ⟨(wrap64 (x9_1 + 1)), (by first | rfl | (simp; done) | (simp [*]; done)), H', ⟨by have := HK1.out; omega⟩, by repeat (first | exact Drawn0.refl _ | apply Drawn0.step)⟩

end Go.Proofs.Ytglaedjadlappaa.PFnBetween

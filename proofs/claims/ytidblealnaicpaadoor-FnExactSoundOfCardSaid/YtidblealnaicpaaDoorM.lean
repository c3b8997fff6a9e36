/-
What is proved: what impl.zc answers, off the table that the variable impl.zk holds (MX: its cells), and that this goes along with every world that is only made larger.
Conditions: none beyond each lemma's own.
-/
import Derived.Test.YtidblealnaicpaaDoorWWords
import Derived.Test.YtidblealnaicpaaDoorWLast
import Derived.Test.YtidblealnaicpaaDoorWMore
import Derived.Test.YtidblealnaicpaaDoorProg
namespace Go.Proofs.YtidblealnaicpaaDoorW.PrintWords
open Go.RowKit Go.Proofs.YtidblealnaicpaaDoorW.PrintLast Go.Proofs.YtidblealnaicpaaDoorW.PrintMore
def zkL : List Int := [16384, 16364, 16305, 16207, 16069, 15893, 15679, 15426, 15137, 14811, 14449, 14053, 13623, 13160, 12665, 12140, 11585, 11003, 10394, 9760, 9102, 8423, 7723, 7005, 6270, 5520, 4756, 3981, 3196, 2404, 1606, 804, 0]
def MX (w : World) : Prop := ∀ i : Nat, i < 33 → w.cell? ⟨1, i, none⟩ = some (.int .i64 (zkL.getD i 0))
theorem MX.below {w W : World} (h : MX w) (hb : Below w.heap.size w W) : MX W := fun i hi => (hb.cell (World.block_lt_of_cell? w _ (h i hi))).trans (h i hi)
theorem zk_at {w : World} (h : MX w) (i : Int) (h0 : 0 ≤ i) (h1 : i < 33) : w.cell? ⟨1, i.toNat, none⟩ = some (.int .i64 (rd zkL i)) := h i.toNat (by omega)
def impl_zc.f (a0 : Int) : Option (Int) := if (Go.bits .and .i64 a0 127) ≤ 32 then (if 0 ≤ (Go.bits .and .i64 a0 127) then (if (Go.bits .and .i64 a0 127) < 33 then (some (rd zkL (Go.bits .and .i64 a0 127))) else (none)) else (none)) else (if (Go.bits .and .i64 a0 127) ≤ 64 then (if 0 ≤ (wrap64 (64 - (Go.bits .and .i64 a0 127))) then (if (wrap64 (64 - (Go.bits .and .i64 a0 127))) < 33 then (some (wrap64 (-(rd zkL (wrap64 (64 - (Go.bits .and .i64 a0 127))))))) else (none)) else (none)) else (if (Go.bits .and .i64 a0 127) ≤ 96 then (if 0 ≤ (wrap64 ((Go.bits .and .i64 a0 127) - 64)) then (if (wrap64 ((Go.bits .and .i64 a0 127) - 64)) < 33 then (some (wrap64 (-(rd zkL (wrap64 ((Go.bits .and .i64 a0 127) - 64)))))) else (none)) else (none)) else (if 0 ≤ (wrap64 (128 - (Go.bits .and .i64 a0 127))) then (if (wrap64 (128 - (Go.bits .and .i64 a0 127))) < 33 then (some (rd zkL (wrap64 (128 - (Go.bits .and .i64 a0 127))))) else (none)) else (none))))
set_option maxHeartbeats 8000000 in
set_option maxRecDepth 100000 in
theorem impl_zc.calls (a0 : Int) (r : Int) (w : World) (hM : MX w) (h : impl_zc.f a0 = some r) :
    Calls Tryd.prog 44 #[.int .i64 a0] w fun e w' => e = .returned (.int .i64 r) ∧ Drawn0 w w' := by
  have H : (if (Go.bits .and .i64 a0 127) ≤ 32 then (if 0 ≤ (Go.bits .and .i64 a0 127) then (if (Go.bits .and .i64 a0 127) < 33 then (some (rd zkL (Go.bits .and .i64 a0 127))) else (none)) else (none)) else (if (Go.bits .and .i64 a0 127) ≤ 64 then (if 0 ≤ (wrap64 (64 - (Go.bits .and .i64 a0 127))) then (if (wrap64 (64 - (Go.bits .and .i64 a0 127))) < 33 then (some (wrap64 (-(rd zkL (wrap64 (64 - (Go.bits .and .i64 a0 127))))))) else (none)) else (none)) else (if (Go.bits .and .i64 a0 127) ≤ 96 then (if 0 ≤ (wrap64 ((Go.bits .and .i64 a0 127) - 64)) then (if (wrap64 ((Go.bits .and .i64 a0 127) - 64)) < 33 then (some (wrap64 (-(rd zkL (wrap64 ((Go.bits .and .i64 a0 127) - 64)))))) else (none)) else (none)) else (if 0 ≤ (wrap64 (128 - (Go.bits .and .i64 a0 127))) then (if (wrap64 (128 - (Go.bits .and .i64 a0 127))) < 33 then (some (rd zkL (wrap64 (128 - (Go.bits .and .i64 a0 127))))) else (none)) else (none))))) = some r := h
  clear h
  by_cases c3 : (Go.bits .and .i64 a0 127) ≤ 32
  · rw [if_pos c3] at H
    have c3b0 : decide ((Go.bits .and .i64 a0 127) ≤ 32) = true := decide_eq_true c3
    clear c3
    by_cases c4 : 0 ≤ (Go.bits .and .i64 a0 127)
    rotate_left
    · rw [if_neg c4] at H
      exact absurd H (by simp)
    rw [if_pos c4] at H
    have c4b0 : decide (0 ≤ (Go.bits .and .i64 a0 127)) = true := decide_eq_true c4
    clear c4
    by_cases c5 : (Go.bits .and .i64 a0 127) < 33
    rotate_left
    · rw [if_neg c5] at H
      exact absurd H (by simp)
    rw [if_pos c5] at H
    have c5b0 : decide ((Go.bits .and .i64 a0 127) < 33) = true := decide_eq_true c5
    clear c5
    obtain rfl := Option.some.inj H
    have p105 : 0 ≤ ((Go.bits .and .i64 a0 127) : Int) := of_decide_eq_true (by first | (with_reducible assumption) | assumption)
    have q105 : (Go.bits .and .i64 a0 127) < 33 := of_decide_eq_true (by first | (with_reducible assumption) | assumption)
    have hx105_0 := zk_at hM (Go.bits .and .i64 a0 127) p105 q105
    replace p105 := eq_true p105
    replace q105 := eq_true q105
    go_enter Tryd.func44, Tryd.ntmps44
    go_wp2
    go_ret
    exact ⟨by first | rfl | (simp; done) | (simp [*]; done), by repeat (first | exact Drawn0.refl _ | apply Drawn0.step)⟩
  rw [if_neg c3] at H
  have c3b0 : decide ((Go.bits .and .i64 a0 127) ≤ 32) = false := decide_eq_false c3
  clear c3
  by_cases c6 : (Go.bits .and .i64 a0 127) ≤ 64
  · rw [if_pos c6] at H
    have c6b0 : decide ((Go.bits .and .i64 a0 127) ≤ 64) = true := decide_eq_true c6
    clear c6
    obtain ⟨ji7, hji7⟩ : ∃ j_ : Int, (wrap64 (64 - (Go.bits .and .i64 a0 127))) = j_ := ⟨_, rfl⟩
    replace H : (if 0 ≤ (ji7) then (if (ji7) < 33 then (some (wrap64 (-(rd zkL (ji7))))) else (none)) else (none)) = some r := by first | (rw [hji7] at H; exact H) | (simp only [hji7] at H ⊢; exact H)
    have hji7w : (IntKind.i64.wrap (64 - (Go.bits .and .i64 a0 127))) = ji7 := (i64_w _).trans hji7
    by_cases c8 : 0 ≤ (ji7)
    rotate_left
    · rw [if_neg c8] at H
      exact absurd H (by simp)
    rw [if_pos c8] at H
    have c8b0 : decide (0 ≤ (ji7)) = true := decide_eq_true c8
    clear c8
    by_cases c9 : (ji7) < 33
    rotate_left
    · rw [if_neg c9] at H
      exact absurd H (by simp)
    rw [if_pos c9] at H
    have c9b0 : decide ((ji7) < 33) = true := decide_eq_true c9
    clear c9
    obtain rfl := Option.some.inj H
    have p106 : 0 ≤ ((ji7) : Int) := of_decide_eq_true (by first | (with_reducible assumption) | assumption)
    have q106 : (ji7) < 33 := of_decide_eq_true (by first | (with_reducible assumption) | assumption)
    have hx106_0 := zk_at hM (ji7) p106 q106
    replace p106 := eq_true p106
    replace q106 := eq_true q106
    go_enter Tryd.func44, Tryd.ntmps44
    go_wp2
    go_ret
    exact ⟨by first | rfl | (simp; done) | (simp only [← hji7] <;> (first | rfl | simp)) | (simp [*]; done), by repeat (first | exact Drawn0.refl _ | apply Drawn0.step)⟩
  rw [if_neg c6] at H
  have c6b0 : decide ((Go.bits .and .i64 a0 127) ≤ 64) = false := decide_eq_false c6
  clear c6
  by_cases c10 : (Go.bits .and .i64 a0 127) ≤ 96
  rotate_left
  · rw [if_neg c10] at H
    have c10b0 : decide ((Go.bits .and .i64 a0 127) ≤ 96) = false := decide_eq_false c10
    clear c10
    obtain ⟨ji14, hji14⟩ : ∃ j_ : Int, (wrap64 (128 - (Go.bits .and .i64 a0 127))) = j_ := ⟨_, rfl⟩
    replace H : (if 0 ≤ (ji14) then (if (ji14) < 33 then (some (rd zkL (ji14))) else (none)) else (none)) = some r := by first | (rw [hji14] at H; exact H) | (simp only [hji14] at H ⊢; exact H)
    have hji14w : (IntKind.i64.wrap (128 - (Go.bits .and .i64 a0 127))) = ji14 := (i64_w _).trans hji14
    by_cases c15 : 0 ≤ (ji14)
    rotate_left
    · rw [if_neg c15] at H
      exact absurd H (by simp)
    rw [if_pos c15] at H
    have c15b0 : decide (0 ≤ (ji14)) = true := decide_eq_true c15
    clear c15
    by_cases c16 : (ji14) < 33
    rotate_left
    · rw [if_neg c16] at H
      exact absurd H (by simp)
    rw [if_pos c16] at H
    have c16b0 : decide ((ji14) < 33) = true := decide_eq_true c16
    clear c16
    obtain rfl := Option.some.inj H
    have p108 : 0 ≤ ((ji14) : Int) := of_decide_eq_true (by first | (with_reducible assumption) | assumption)
    have q108 : (ji14) < 33 := of_decide_eq_true (by first | (with_reducible assumption) | assumption)
    have hx108_0 := zk_at hM (ji14) p108 q108
    replace p108 := eq_true p108
    replace q108 := eq_true q108
    go_enter Tryd.func44, Tryd.ntmps44
    go_wp2
    go_ret
    exact ⟨by first | rfl | (simp; done) | (simp only [← hji14] <;> (first | rfl | simp)) | (simp [*]; done), by repeat (first | exact Drawn0.refl _ | apply Drawn0.step)⟩
  rw [if_pos c10] at H
  have c10b0 : decide ((Go.bits .and .i64 a0 127) ≤ 96) = true := decide_eq_true c10
  clear c10
  obtain ⟨ji11, hji11⟩ : ∃ j_ : Int, (wrap64 ((Go.bits .and .i64 a0 127) - 64)) = j_ := ⟨_, rfl⟩
  replace H : (if 0 ≤ (ji11) then (if (ji11) < 33 then (some (wrap64 (-(rd zkL (ji11))))) else (none)) else (none)) = some r := by first | (rw [hji11] at H; exact H) | (simp only [hji11] at H ⊢; exact H)
  have hji11w : (IntKind.i64.wrap ((Go.bits .and .i64 a0 127) - 64)) = ji11 := (i64_w _).trans hji11
  by_cases c12 : 0 ≤ (ji11)
  rotate_left
  · rw [if_neg c12] at H
    exact absurd H (by simp)
  rw [if_pos c12] at H
  have c12b0 : decide (0 ≤ (ji11)) = true := decide_eq_true c12
  clear c12
  by_cases c13 : (ji11) < 33
  rotate_left
  · rw [if_neg c13] at H
    exact absurd H (by simp)
  rw [if_pos c13] at H
  have c13b0 : decide ((ji11) < 33) = true := decide_eq_true c13
  clear c13
  obtain rfl := Option.some.inj H
  have p107 : 0 ≤ ((ji11) : Int) := of_decide_eq_true (by first | (with_reducible assumption) | assumption)
  have q107 : (ji11) < 33 := of_decide_eq_true (by first | (with_reducible assumption) | assumption)
  have hx107_0 := zk_at hM (ji11) p107 q107
  replace p107 := eq_true p107
  replace q107 := eq_true q107
  go_enter Tryd.func44, Tryd.ntmps44
  go_wp2
  go_ret
  exact ⟨by first | rfl | (simp; done) | (simp only [← hji11] <;> (first | rfl | simp)) | (simp [*]; done), by repeat (first | exact Drawn0.refl _ | apply Drawn0.step)⟩
end Go.Proofs.YtidblealnaicpaaDoorW.PrintWords

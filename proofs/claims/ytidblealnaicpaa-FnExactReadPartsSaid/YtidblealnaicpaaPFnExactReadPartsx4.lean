-- written by myprint.py (a program of this session's over the kit's print)
import Derived.Test.YtidblealnaicpaaPFnExactReadPartsx0
import Derived.Test.YtidblealnaicpaaTFERPC
import Derived.Test.YtidblealnaicpaaPFnExactReadPartsx3
namespace Go.Proofs.Ytidblealnaicpaa.PFnExactReadParts
open Go.RowKit Go.Proofs.YtidblealnaicpaaW.PrintWords Go.Proofs.YtidblealnaicpaaW.PrintLast Go.Proofs.YtidblealnaicpaaW.PrintMore
attribute [local go_sem] max2_int min2_int max_two min_two max_three min_three max_four min_four   -- for this text's walks alone
set_option linter.unusedVariables false
set_option linter.unusedSimpArgs false

/-! ### impl_ReadParts: function 68 -/
theorem set6_blk {w : World} {g : Nat} {t : TypeId} {a0 a1 a2 a3 a4 a5 b0 b1 b2 b3 b4 b5 : Value} (h : w.heap[g]? = some (.cells #[a0, a1, a2, a3, a4, a5] t (0, 0))) : ((((((w.setCell ⟨g, 0, none⟩ b0).setCell ⟨g, 1, none⟩ b1).setCell ⟨g, 2, none⟩ b2).setCell ⟨g, 3, none⟩ b3).setCell ⟨g, 4, none⟩ b4).setCell ⟨g, 5, none⟩ b5).heap[g]? = some (.cells #[b0, b1, b2, b3, b4, b5] t (0, 0)) := (blk_put (blk_put (blk_put (blk_put (blk_put (blk_put h 0 b0 rfl) 1 b1 rfl) 2 b2 rfl) 3 b3 rfl) 4 b4 rfl) 5 b5 rfl)
theorem set6_R {α : Type} {d : Kd α} {e base : Nat} {ok : Nat → Prop} {v : Value} {xs : List α} {w : World} {g : Nat} {b0 b1 b2 b3 b4 b5 : Value} (h : d.R e w base ok v xs) (hk : ∀ k, ok k → k ≠ g) : d.R e ((((((w.setCell ⟨g, 0, none⟩ b0).setCell ⟨g, 1, none⟩ b1).setCell ⟨g, 2, none⟩ b2).setCell ⟨g, 3, none⟩ b3).setCell ⟨g, 4, none⟩ b4).setCell ⟨g, 5, none⟩ b5) base ok v xs := (Kd.R_far (p := ⟨g, 5, none⟩) (Kd.R_far (p := ⟨g, 4, none⟩) (Kd.R_far (p := ⟨g, 3, none⟩) (Kd.R_far (p := ⟨g, 2, none⟩) (Kd.R_far (p := ⟨g, 1, none⟩) (Kd.R_far (p := ⟨g, 0, none⟩) h hk b0) hk b1) hk b2) hk b3) hk b4) hk b5)
theorem set6_S {α : Type} {d : Kd α} {e base : Nat} {ok : Nat → Prop} {v : Value} {xs : List α} {w : World} {g : Nat} {b0 b1 b2 b3 b4 b5 : Value} (h : Kd.S d e w base ok v xs) (hk : ∀ k, ok k → k ≠ g) : Kd.S d e ((((((w.setCell ⟨g, 0, none⟩ b0).setCell ⟨g, 1, none⟩ b1).setCell ⟨g, 2, none⟩ b2).setCell ⟨g, 3, none⟩ b3).setCell ⟨g, 4, none⟩ b4).setCell ⟨g, 5, none⟩ b5) base ok v xs := (Kd.S_far (p := ⟨g, 5, none⟩) (Kd.S_far (p := ⟨g, 4, none⟩) (Kd.S_far (p := ⟨g, 3, none⟩) (Kd.S_far (p := ⟨g, 2, none⟩) (Kd.S_far (p := ⟨g, 1, none⟩) (Kd.S_far (p := ⟨g, 0, none⟩) h hk b0) hk b1) hk b2) hk b3) hk b4) hk b5)
mutual
def impl_ReadParts.l0 : Nat → List Int → Int → Int → Int → List Bool → List Int → List (List Int) → Option (Int × Int × Int × List Bool × List Int × (List (List Int)))
 | 0, _, _, _, _, _, _, _ => none
 | k + 1, x5, x191000, x191001, x191002, x191003, x191004, x191005 => if (x5.length : Int) > 0 then (if (x5.length : Int) < 5 then (impl_ReadParts.j1 k x5 true x191000 x191001 x191002 x191003 x191004 x191005) else (if 1 ≤ (x5.length : Int) then ((impl_zget4.f (x5.drop 1)).bind fun t226 => (impl_ReadParts.j1 k x5 (decide (t226 > (wrap64 ((x5.length : Int) - 9)))) x191000 x191001 x191002 x191003 x191004 x191005)) else (none))) else (if (x191005.length : Int) = 0 then ((impl_ReadParts_1.f 2).bind fun bt209 => (some (bt209.1, bt209.2.1, bt209.2.2.1, bt209.2.2.2.1, bt209.2.2.2.2.1, bt209.2.2.2.2.2))) else (some (x191000, x191001, x191002, x191003, x191004, x191005)))
def impl_ReadParts.j1 : Nat → List Int → Bool → Int → Int → Int → List Bool → List Int → List (List Int) → Option (Int × Int × Int × List Bool × List Int × (List (List Int)))
 | 0, _, _, _, _, _, _, _, _ => none
 | k + 1, x5, x64, x191000, x191001, x191002, x191003, x191004, x191005 => if x64 = true then ((impl_ReadParts_1.f 2).bind fun bt227 => (some (bt227.1, bt227.2.1, bt227.2.2.1, bt227.2.2.2.1, bt227.2.2.2.2.1, bt227.2.2.2.2.2))) else (if 1 ≤ (x5.length : Int) then ((impl_zget4.f (x5.drop 1)).bind fun t244 => (if 0 < (x5.length : Int) then (if (wrap64 (Go.bits .and .u8 (rd x5 0) 127)) > 40 then ((impl_ReadParts_1.f 5).bind fun bt247 => (some (bt247.1, bt247.2.1, bt247.2.2.1, bt247.2.2.2.1, bt247.2.2.2.2.1, bt247.2.2.2.2.2))) else (if 0 ≤ (wrap64 (5 + t244)) then (if (wrap64 (5 + t244)) ≤ (x5.length : Int) then ((impl_zget4.f (x5.drop ((wrap64 (5 + t244)) : Int).toNat)).bind fun t264 => ((impl_Crc.f k (x5.take ((wrap64 (5 + t244)) : Int).toNat)).bind fun t270 => (if t264 = (wrap64 (t270)) then (if (x191005.length : Int) = 0 then (impl_ReadParts.j2 k x5 (wrap64 (5 + t244)) (wrap64 (Go.bits .and .u8 (rd x5 0) 127)) (decide ((rd x5 0) > 127)) (!(decide ((rd x5 0) > 127))) x191000 x191001 x191002 x191003 x191004 x191005) else (impl_ReadParts.j2 k x5 (wrap64 (5 + t244)) (wrap64 (Go.bits .and .u8 (rd x5 0) 127)) (decide ((rd x5 0) > 127)) false x191000 x191001 x191002 x191003 x191004 x191005)) else ((impl_ReadParts_1.f 3).bind fun bt332 => (some (bt332.1, bt332.2.1, bt332.2.2.1, bt332.2.2.2.1, bt332.2.2.2.2.1, bt332.2.2.2.2.2)))))) else (none)) else (none))) else (none))) else (none))
def impl_ReadParts.j2 : Nat → List Int → Int → Int → Bool → Bool → Int → Int → Int → List Bool → List Int → List (List Int) → Option (Int × Int × Int × List Bool × List Int × (List (List Int)))
 | 0, _, _, _, _, _, _, _, _, _, _, _ => none
 | k + 1, x5, x6, x7, x8, x98, x191000, x191001, x191002, x191003, x191004, x191005 => if x98 = true then ((impl_ReadParts_1.f 6).bind fun bt271 => (some (bt271.1, bt271.2.1, bt271.2.2.1, bt271.2.2.2.1, bt271.2.2.2.2.1, bt271.2.2.2.2.2))) else (if (x191005.length : Int) = 24 then ((impl_ReadParts_1.f 7).bind fun bt283 => (some (bt283.1, bt283.2.1, bt283.2.2.1, bt283.2.2.2.1, bt283.2.2.2.2.1, bt283.2.2.2.2.2))) else (if (wrap64 ((wrap64 ((wrap64 ((x191005.length : Int) + 1)) * x191001)) * x191002)) > 8192 then ((impl_ReadParts_1.f 7).bind fun bt295 => (some (bt295.1, bt295.2.1, bt295.2.2.1, bt295.2.2.2.1, bt295.2.2.2.2.1, bt295.2.2.2.2.2))) else (if x191003.length < 140737488355328 then (if x191004.length < 17592186044416 then ((some (([] : List Int) : List Int)).bind fun y313 => (if 5 ≤ x6 then (if x6 ≤ (x5.length : Int) then ((some ((x5.take (x6 : Int).toNat).drop 5 : List Int)).bind fun y316 => (if y313.length + y316.length < 140737488355328 then (if x191005.length < 5864062014805 then (if 0 ≤ (wrap64 (x6 + 4)) then (if (wrap64 (x6 + 4)) ≤ (x5.length : Int) then (impl_ReadParts.l0 k (x5.drop ((wrap64 (x6 + 4)) : Int).toNat) x191000 x191001 x191002 (x191003 ++ [x8]) (x191004 ++ [x7]) (x191005 ++ [(y313 ++ y316)])) else (none)) else (none)) else (none)) else (none))) else (none)) else (none))) else (none)) else (none))))
end
def impl_ReadParts.f (k : Nat) (l0 : List Int) : Option (Int × Int × Int × List Bool × List Int × (List (List Int))) := if (l0.length : Int) > 60000 then ((impl_ReadParts_1.f 1).bind fun bt150 => (some (bt150.1, bt150.2.1, bt150.2.2.1, bt150.2.2.2.1, bt150.2.2.2.2.1, bt150.2.2.2.2.2))) else ((impl_zmagic.f k l0 (⟨#[86, 73, 68, 49]⟩ : ByteArray)).bind fun t162 => (if t162 = 0 then (if (l0.length : Int) < 6 then ((impl_ReadParts_1.f 2).bind fun bt163 => (some (bt163.1, bt163.2.1, bt163.2.2.1, bt163.2.2.2.1, bt163.2.2.2.2.1, bt163.2.2.2.2.2))) else (if 4 < (l0.length : Int) then (if 5 < (l0.length : Int) then ((impl_zsides.f (wrap64 (8 * (wrap64 (rd l0 4)))) (wrap64 (8 * (wrap64 (rd l0 5))))).bind fun t191 => (if t191 = true then (if 6 ≤ (l0.length : Int) then (impl_ReadParts.l0 k (l0.drop 6) 0 (wrap64 (8 * (wrap64 (rd l0 4)))) (wrap64 (8 * (wrap64 (rd l0 5)))) ([] : List Bool) ([] : List Int) ([] : List (List Int))) else (none)) else ((impl_ReadParts_1.f 5).bind fun bt192 => (some (bt192.1, bt192.2.1, bt192.2.2.1, bt192.2.2.2.1, bt192.2.2.2.2.1, bt192.2.2.2.2.2))))) else (none)) else (none))) else ((impl_zmagic.f k l0 (⟨#[86, 73, 68, 49]⟩ : ByteArray)).bind fun t175 => ((impl_ReadParts_1.f t175).bind fun bt176 => (some (bt176.1, bt176.2.1, bt176.2.2.1, bt176.2.2.2.1, bt176.2.2.2.2.1, bt176.2.2.2.2.2))))))
theorem impl_ReadParts.mono_l : ∀ k, (∀ y0 y1 y2 y3 y4 y5 y6, LeO (impl_ReadParts.l0 k y0 y1 y2 y3 y4 y5 y6) (impl_ReadParts.l0 (k + 1) y0 y1 y2 y3 y4 y5 y6)) ∧ (∀ y0 y1 y2 y3 y4 y5 y6 y7, LeO (impl_ReadParts.j1 k y0 y1 y2 y3 y4 y5 y6 y7) (impl_ReadParts.j1 (k + 1) y0 y1 y2 y3 y4 y5 y6 y7)) ∧ (∀ y0 y1 y2 y3 y4 y5 y6 y7 y8 y9 y10, LeO (impl_ReadParts.j2 k y0 y1 y2 y3 y4 y5 y6 y7 y8 y9 y10) (impl_ReadParts.j2 (k + 1) y0 y1 y2 y3 y4 y5 y6 y7 y8 y9 y10))
 | 0 => ⟨fun _ _ _ _ _ _ _ r h => by simp [impl_ReadParts.l0] at h, fun _ _ _ _ _ _ _ _ r h => by simp [impl_ReadParts.j1] at h, fun _ _ _ _ _ _ _ _ _ _ _ r h => by simp [impl_ReadParts.j2] at h⟩
 | k + 1 => by
  obtain ⟨ih0, ih1, ih2⟩ := impl_ReadParts.mono_l k
  refine ⟨?_, ?_, ?_⟩
  ·intro y0 y1 y2 y3 y4 y5 y6
   unfold impl_ReadParts.l0
   repeat' first
   | (with_reducible exact ih0 _ _ _ _ _ _ _)
   | (with_reducible exact ih1 _ _ _ _ _ _ _ _)
   | (with_reducible exact ih2 _ _ _ _ _ _ _ _ _ _ _)
   | (with_reducible exact impl_Crc.mono _ _)
   | (with_reducible exact impl_zmagic.mono _ _ _)
   | (with_reducible exact LeO.refl _)
   | (with_reducible exact LeO.none _)
   | (with_reducible refine LeO.ite ?_ ?_)
   | (with_reducible refine LeO.bind ?_ (fun _ => ?_))
   | exact ih0 _ _ _ _ _ _ _
   | exact ih1 _ _ _ _ _ _ _ _
   | exact ih2 _ _ _ _ _ _ _ _ _ _ _
   | exact impl_Crc.mono _ _
   | exact impl_zmagic.mono _ _ _
   | exact LeO.none _
   | refine LeO.ite ?_ ?_
   | refine LeO.bind ?_ (fun _ => ?_)
  ·intro y0 y1 y2 y3 y4 y5 y6 y7
   unfold impl_ReadParts.j1
   repeat' first
   | (with_reducible exact ih0 _ _ _ _ _ _ _)
   | (with_reducible exact ih1 _ _ _ _ _ _ _ _)
   | (with_reducible exact ih2 _ _ _ _ _ _ _ _ _ _ _)
   | (with_reducible exact impl_Crc.mono _ _)
   | (with_reducible exact impl_zmagic.mono _ _ _)
   | (with_reducible exact LeO.refl _)
   | (with_reducible exact LeO.none _)
   | (with_reducible refine LeO.ite ?_ ?_)
   | (with_reducible refine LeO.bind ?_ (fun _ => ?_))
   | exact ih0 _ _ _ _ _ _ _
   | exact ih1 _ _ _ _ _ _ _ _
   | exact ih2 _ _ _ _ _ _ _ _ _ _ _
   | exact impl_Crc.mono _ _
   | exact impl_zmagic.mono _ _ _
   | exact LeO.none _
   | refine LeO.ite ?_ ?_
   | refine LeO.bind ?_ (fun _ => ?_)
  ·intro y0 y1 y2 y3 y4 y5 y6 y7 y8 y9 y10
   unfold impl_ReadParts.j2
   repeat' first
   | (with_reducible exact ih0 _ _ _ _ _ _ _)
   | (with_reducible exact ih1 _ _ _ _ _ _ _ _)
   | (with_reducible exact ih2 _ _ _ _ _ _ _ _ _ _ _)
   | (with_reducible exact impl_Crc.mono _ _)
   | (with_reducible exact impl_zmagic.mono _ _ _)
   | (with_reducible exact LeO.refl _)
   | (with_reducible exact LeO.none _)
   | (with_reducible refine LeO.ite ?_ ?_)
   | (with_reducible refine LeO.bind ?_ (fun _ => ?_))
   | exact ih0 _ _ _ _ _ _ _
   | exact ih1 _ _ _ _ _ _ _ _
   | exact ih2 _ _ _ _ _ _ _ _ _ _ _
   | exact impl_Crc.mono _ _
   | exact impl_zmagic.mono _ _ _
   | exact LeO.none _
   | refine LeO.ite ?_ ?_
   | refine LeO.bind ?_ (fun _ => ?_)
theorem impl_ReadParts.mono : ∀ a0 k, LeO (impl_ReadParts.f k a0) (impl_ReadParts.f (k + 1) a0) := by
 intro a0 k
 obtain ⟨ih0, ih1, ih2⟩ := impl_ReadParts.mono_l k
 unfold impl_ReadParts.f
 repeat' first
   | (with_reducible exact ih0 _ _ _ _ _ _ _)
   | (with_reducible exact ih1 _ _ _ _ _ _ _ _)
   | (with_reducible exact ih2 _ _ _ _ _ _ _ _ _ _ _)
   | (with_reducible exact impl_Crc.mono _ _)
   | (with_reducible exact impl_zmagic.mono _ _ _)
   | (with_reducible exact LeO.refl _)
   | (with_reducible exact LeO.none _)
   | (with_reducible refine LeO.ite ?_ ?_)
   | (with_reducible refine LeO.bind ?_ (fun _ => ?_))
   | exact ih0 _ _ _ _ _ _ _
   | exact ih1 _ _ _ _ _ _ _ _
   | exact ih2 _ _ _ _ _ _ _ _ _ _ _
   | exact impl_Crc.mono _ _
   | exact impl_zmagic.mono _ _ _
   | exact LeO.none _
   | refine LeO.ite ?_ ?_
   | refine LeO.bind ?_ (fun _ => ?_)
def impl_ReadParts.T8 : Bool × List (List Nat × List Nat) := (true, [([], []), ([0], [0]), ([1], [1]), ([2], [2]), ([3], [3]), ([], []), ([5], [5]), ([6], [6]), ([7], [7]), ([8], [8]), ([4, 9], [4, 9]), ([], []), ([11, 10, 0, 1, 2, 3, 4, 5, 6, 7, 8, 9, 10, 11], [10, 11])])
def impl_ReadParts.B8 : List Nat := [0, 1, 3, 7, 15, 0, 32, 96, 224, 480, 1023, 0, 4095]
theorem impl_ReadParts.tab8 : rtab .any (opsOf Try.f68 8) = impl_ReadParts.T8 := by kernel_rfl
theorem impl_ReadParts.bits8 : waitsOk impl_ReadParts.T8.2 impl_ReadParts.B8 = true := by kernel_rfl
def impl_ReadParts.T20 : Bool × List (List Nat × List Nat) := (true, [([], []), ([], []), ([0, 1], [0, 1]), ([2], [2]), ([], []), ([], []), ([4, 5], [4, 5]), ([6, 3], [6]), ([7], [7]), ([3, 8], [3, 8]), ([9, 7], [9])])
def impl_ReadParts.B20 : List Nat := [0, 0, 3, 7, 0, 0, 48, 127, 255, 511, 1023]
theorem impl_ReadParts.tab20 : rtab .any (opsOf Try.f68 20) = impl_ReadParts.T20 := by kernel_rfl
theorem impl_ReadParts.bits20 : waitsOk impl_ReadParts.T20.2 impl_ReadParts.B20 = true := by kernel_rfl
def impl_ReadParts.T28 : Bool × List (List Nat × List Nat) := (true, [([], []), ([0], [0]), ([], []), ([], []), ([], []), ([3, 4], [3, 4]), ([2, 5], [2, 5]), ([6], [6]), ([1, 7, 6], [1, 7]), ([0, 1, 2, 3, 4, 5, 6, 7, 8], []), ([9, 8, 8, 0, 1, 2, 3, 4, 5, 6, 7, 8], [8, 9])])
def impl_ReadParts.B28 : List Nat := [0, 1, 0, 0, 0, 24, 60, 124, 255, 511, 1023]
theorem impl_ReadParts.tab28 : rtab .any (opsOf Try.f68 28) = impl_ReadParts.T28 := by kernel_rfl
theorem impl_ReadParts.bits28 : waitsOk impl_ReadParts.T28.2 impl_ReadParts.B28 = true := by kernel_rfl
set_option maxHeartbeats 32000000 in
set_option maxRecDepth 100000 in
theorem impl_ReadParts.calls (k : Nat) (P0_ : Nat → Prop) (A0 : Option Addr) (c0 : Nat) (l0 : List Int) (r1 : Int) (r2 : Int) (r3 : Int) (r4 : List Bool) (r5 : List Int) (r6 : List (List Int)) (w : World) (hs0 : Kd.V (Kd.int .u8) 5 w w.heap.size (fun k_ => P0_ k_) (.slice A0 l0.length c0) l0) (h : impl_ReadParts.f k l0 = some (r1, r2, r3, r4, r5, r6)) :
  Calls Try.prog 68 #[.slice A0 l0.length c0] w fun e w' => ∃ v3_ v4_ v5_ : Value, e = .returned (.agg #[.int .i64 r1, .int .i64 r2, .int .i64 r3, v3_, v4_, v5_]) ∧ Kd.R Kd.bool 4 w' w.heap.size (fun k_ => (w.heap.size ≤ k_)) v3_ r4 ∧ Kd.R (Kd.int .i64) 3 w' w.heap.size (fun k_ => (w.heap.size ≤ k_)) v4_ r5 ∧ Kd.S (Kd.slice 5 (Kd.int .u8)) 51 w' w.heap.size (fun k_ => (w.heap.size ≤ k_)) v5_ r6 ∧ Below w.heap.size w w' := by
 have hu94 := Try.underlying94
 have HO0 := Aside0.mk (show Kd.V (Kd.int .u8) 5 w w.heap.size (fun k_ => (P0_ k_ ∨ w.heap.size ≤ k_)) (.slice A0 l0.length c0) l0 from Kd.V_mono hs0 (fun k_ hk => .inl hk))
 have HB := Aside0.mk (Below.refl w.heap.size w)
 have H : (if (l0.length : Int) > 60000 then ((impl_ReadParts_1.f 1).bind fun bt150 => (some (bt150.1, bt150.2.1, bt150.2.2.1, bt150.2.2.2.1, bt150.2.2.2.2.1, bt150.2.2.2.2.2))) else ((impl_zmagic.f k l0 (⟨#[86, 73, 68, 49]⟩ : ByteArray)).bind fun t162 => (if t162 = 0 then (if (l0.length : Int) < 6 then ((impl_ReadParts_1.f 2).bind fun bt163 => (some (bt163.1, bt163.2.1, bt163.2.2.1, bt163.2.2.2.1, bt163.2.2.2.2.1, bt163.2.2.2.2.2))) else (if 4 < (l0.length : Int) then (if 5 < (l0.length : Int) then ((impl_zsides.f (wrap64 (8 * (wrap64 (rd l0 4)))) (wrap64 (8 * (wrap64 (rd l0 5))))).bind fun t191 => (if t191 = true then (if 6 ≤ (l0.length : Int) then (impl_ReadParts.l0 k (l0.drop 6) 0 (wrap64 (8 * (wrap64 (rd l0 4)))) (wrap64 (8 * (wrap64 (rd l0 5)))) ([] : List Bool) ([] : List Int) ([] : List (List Int))) else (none)) else ((impl_ReadParts_1.f 5).bind fun bt192 => (some (bt192.1, bt192.2.1, bt192.2.2.1, bt192.2.2.2.1, bt192.2.2.2.2.1, bt192.2.2.2.2.2))))) else (none)) else (none))) else ((impl_zmagic.f k l0 (⟨#[86, 73, 68, 49]⟩ : ByteArray)).bind fun t175 => ((impl_ReadParts_1.f t175).bind fun bt176 => (some (bt176.1, bt176.2.1, bt176.2.2.1, bt176.2.2.2.1, bt176.2.2.2.2.1, bt176.2.2.2.2.2))))))) = some (r1, r2, r3, r4, r5, r6) := h
 clear h
 by_cases c2 : (l0.length : Int) > 60000
 ·rw [if_pos c2] at H
  have c2b0 : decide (60000 < (l0.length : Int)) = true := decide_eq_true c2
  have c2b1 : decide (60000 < l0.length) = true := decide_eq_true (by omega)
  have c2b2 : 60000 < l0.length := by omega
  clear c2
  replace H := Option.bind_eq_some_iff.mp H
  obtain ⟨⟨t150, t151, t152, t153, t156, t159⟩, A30, H⟩ := H
  replace H : (some (t150, t151, t152, t153, t156, t159)) = some (r1, r2, r3, r4, r5, r6) := H
  have A3 := Aside0.mk A30
  clear A30
  simp only [Option.some.injEq, Prod.mk.injEq] at H
  obtain ⟨rfl, rfl, rfl, rfl, rfl, rfl⟩ := H
  go_enter Try.func68, Try.ntmps68
  go_wp2_with (first | ((with_reducible refine gate_dst (N := 2) rfl ?_); (try (refine gate_guard (by rfl) ?_; dsimp only)); refine box_event ?hg (N := 2) ?hd (cs := #[.int .i64 0, .int .i64 0, .int .i64 0, .slice none 0 0, .slice none 0 0, .slice none 0 0]) (t := 94) ?hr ?_; (case hd => rfl); (case hg => rfl); (case hr => first | (go_simp; done) | (go_simp; rfl)); intro gb149 hg w4 hbox hb; have n0_ := Aside0.mk (Kd.V_below (Kd.V_elderB (by (with_reducible repeat (first | apply Kd.V_alloc | apply Kd.V_drewN | apply Kd.V_drew)); exact HO0.out) gb149 (Nat.le_of_eq hg.symm)) hb); have n1_ := Aside0.mk (below_step (by repeat (first | (with_reducible first | exact HB.out | apply below_alloc | apply pw_below_drewN | apply below_drew1) | exact HB.out)) hb); have n2_ := Aside0.mk (hbox); have n3_ := Aside0.mk ((by rw [hg]; exact (below_size (by repeat (first | (with_reducible first | exact HB.out | apply below_alloc | apply pw_below_drewN | apply below_drew1) | exact HB.out))) : w.heap.size ≤ gb149)); have n4_ := n3_; clear HO0 HB; have HO0 := n0_; have HB := n1_; have BK149 := n2_; have GW149 := n3_; have GE149 := n4_; clear n0_ n1_ n2_ n3_ n4_; clear hb hbox hg) | ((with_reducible refine gate_dst (N := 14) rfl ?_); refine goesLC_ (some 14) rfl rfl Try.func144 (by kernel_rfl) rfl (#[.int .i64 1]) rfl rfl ?ha ?_; (case ha => (try simp only [List.map_toArray, List.map_cons, List.map_nil]); first | done | rfl | (simp only [List.length_drop, List.length_take]; rfl)); (with_reducible refine (impl_ReadParts_1.calls 1 t150 t151 t152 t153 t156 t159 _ A3.out).mono ?_); rintro e w5 ⟨v154, v157, v160, rfl, ho0, ho1, ho2, hb⟩; refine ⟨_, rfl, ?_⟩; have n0_ := Aside0.mk (Kd.V_mono (Kd.V_told (Kd.V_told (Kd.V_told (Kd.V_old (by (with_reducible repeat (first | apply Kd.V_alloc | apply Kd.V_drewN | apply Kd.V_drew)); exact HO0.out) hb) (Kd.R_base ho0)) (Kd.R_base ho1)) (Kd.S_base ho2)) (fun _ h_ => h_.1)); have n1_ := Aside0.mk (Kd.R_lower (Kd.R_newM (M := fun k_ => (w.heap.size ≤ k_)) ho0 (below_size (by repeat (first | (with_reducible first | exact HB.out | apply below_alloc | apply pw_below_drewN | apply below_drew1 | refine below_set ?_ GE149.out) | exact HB.out))) (fun k_ h_ => h_)) (below_size (by repeat (first | (with_reducible first | exact HB.out | apply below_alloc | apply pw_below_drewN | apply below_drew1 | refine below_set ?_ GE149.out) | exact HB.out)))); have n2_ := Aside0.mk (Kd.R_lower (Kd.R_newM (M := fun k_ => (w.heap.size ≤ k_)) ho1 (below_size (by repeat (first | (with_reducible first | exact HB.out | apply below_alloc | apply pw_below_drewN | apply below_drew1 | refine below_set ?_ GE149.out) | exact HB.out))) (fun k_ h_ => h_)) (below_size (by repeat (first | (with_reducible first | exact HB.out | apply below_alloc | apply pw_below_drewN | apply below_drew1 | refine below_set ?_ GE149.out) | exact HB.out)))); have n3_ := Aside0.mk (Kd.S_lower (Kd.S_newM (M := fun k_ => (w.heap.size ≤ k_)) ho2 (below_size (by repeat (first | (with_reducible first | exact HB.out | apply below_alloc | apply pw_below_drewN | apply below_drew1 | refine below_set ?_ GE149.out) | exact HB.out))) (fun k_ h_ => h_)) (below_size (by repeat (first | (with_reducible first | exact HB.out | apply below_alloc | apply pw_below_drewN | apply below_drew1 | refine below_set ?_ GE149.out) | exact HB.out)))); have n4_ := Aside0.mk (blk_below (g := gb149) (o := .cells #[.int .i64 0, .int .i64 0, .int .i64 0, .slice none 0 0, .slice none 0 0, .slice none 0 0] 94 (0, 0)) (by (with_reducible repeat (first | refine blk_drewN ?_ _ | refine blk_drew ?_ | refine blk_alloc ?_ _)); exact BK149.out) hb); have n5_ := Aside0.mk (below_step (by repeat (first | (with_reducible first | exact HB.out | apply below_alloc | apply pw_below_drewN | apply below_drew1 | refine below_set ?_ GE149.out) | exact HB.out)) hb); clear HO0 BK149 HB; have HO0 := n0_; have HO155 := n1_; have HO158 := n2_; have HO161 := n3_; have BK149 := n4_; have HB := n5_; clear n0_ n1_ n2_ n3_ n4_ n5_; (try clear hb); (try clear hb2); (try clear hk); (try clear hi); (try clear ho0); (try clear ho1); (try clear ho2); have hcz6_0 : w5.cell? ⟨gb149, 0, none⟩ = some (.int .i64 0) := (blk_cell BK149.out 0).trans rfl; have hcz6_1 : w5.cell? ⟨gb149, 1, none⟩ = some (.int .i64 0) := (blk_cell BK149.out 1).trans rfl; have hcz6_2 : w5.cell? ⟨gb149, 2, none⟩ = some (.int .i64 0) := (blk_cell BK149.out 2).trans rfl; have hcz6_3 : w5.cell? ⟨gb149, 3, none⟩ = some (.slice none 0 0) := (blk_cell BK149.out 3).trans rfl; have hcz6_4 : w5.cell? ⟨gb149, 4, none⟩ = some (.slice none 0 0) := (blk_cell BK149.out 4).trans rfl; have hcz6_5 : w5.cell? ⟨gb149, 5, none⟩ = some (.slice none 0 0) := (blk_cell BK149.out 5).trans rfl; have hfz6_0 := blk_frozen BK149.out 0; have hfz6_1 := blk_frozen BK149.out 1; have hfz6_2 := blk_frozen BK149.out 2; have hfz6_3 := blk_frozen BK149.out 3; have hfz6_4 := blk_frozen BK149.out 4; have hfz6_5 := blk_frozen BK149.out 5; obtain ⟨Ao7, co7, eo7⟩ := Kd.R_slice HO155.out; subst eo7; obtain ⟨Ao8, co8, eo8⟩ := Kd.R_slice HO158.out; subst eo8; obtain ⟨Ao9, co9, eo9⟩ := Kd.S_slice HO161.out; subst eo9))
  refine bodyPost_ret (results_cell_row rfl _ _ gb149 94 #[.int .i64 t150, .int .i64 t151, .int .i64 t152, .slice Ao7 t153.length co7, .slice Ao8 t156.length co8, .slice Ao9 t159.length co9] (0, 0) _ rfl (set6_blk BK149.out) Try.underlying94 rfl (by kernel_rfl)) rfl ?_
  exact ⟨_, _, _, by first | rfl | (simp [*, errW_none, errW_some] <;> rfl), by (with_reducible repeat (first | apply Kd.R_alloc | apply Kd.R_drewN | apply Kd.R_drew)); exact Kd.R_mono (set6_R (Kd.R_types HO155.out BK149.out (by decide)) (fun _ hk => hk.2)) (fun _ hk => hk.1.1), by (with_reducible repeat (first | apply Kd.R_alloc | apply Kd.R_drewN | apply Kd.R_drew)); exact Kd.R_mono (set6_R (Kd.R_types HO158.out BK149.out (by decide)) (fun _ hk => hk.2)) (fun _ hk => hk.1.1), by (with_reducible repeat (first | apply Kd.S_alloc | apply Kd.S_drewN | apply Kd.S_drew)); exact Kd.S_mono (set6_S (Kd.S_types HO161.out BK149.out (by decide)) (fun _ hk => hk.2)) (fun _ hk => hk.1.1), by repeat (first | (with_reducible first | exact HB.out | apply below_alloc | apply pw_below_drewN | apply below_drew1 | refine below_set ?_ GE149.out) | exact HB.out)⟩
 rw [if_neg c2] at H
 have c2b0 : decide (60000 < (l0.length : Int)) = false := decide_eq_false c2
 have c2b1 : decide (60000 < l0.length) = false := decide_eq_false (by omega)
 have c2b2 : ¬ (60000 < l0.length) := by omega
 clear c2
 replace H := Option.bind_eq_some_iff.mp H
 obtain ⟨t162, A100, H⟩ := H
 replace H : (if t162 = 0 then (if (l0.length : Int) < 6 then ((impl_ReadParts_1.f 2).bind fun bt163 => (some (bt163.1, bt163.2.1, bt163.2.2.1, bt163.2.2.2.1, bt163.2.2.2.2.1, bt163.2.2.2.2.2))) else (if 4 < (l0.length : Int) then (if 5 < (l0.length : Int) then ((impl_zsides.f (wrap64 (8 * (wrap64 (rd l0 4)))) (wrap64 (8 * (wrap64 (rd l0 5))))).bind fun t191 => (if t191 = true then (if 6 ≤ (l0.length : Int) then (impl_ReadParts.l0 k (l0.drop 6) 0 (wrap64 (8 * (wrap64 (rd l0 4)))) (wrap64 (8 * (wrap64 (rd l0 5)))) ([] : List Bool) ([] : List Int) ([] : List (List Int))) else (none)) else ((impl_ReadParts_1.f 5).bind fun bt192 => (some (bt192.1, bt192.2.1, bt192.2.2.1, bt192.2.2.2.1, bt192.2.2.2.2.1, bt192.2.2.2.2.2))))) else (none)) else (none))) else ((impl_zmagic.f k l0 (⟨#[86, 73, 68, 49]⟩ : ByteArray)).bind fun t175 => ((impl_ReadParts_1.f t175).bind fun bt176 => (some (bt176.1, bt176.2.1, bt176.2.2.1, bt176.2.2.2.1, bt176.2.2.2.2.1, bt176.2.2.2.2.2))))) = some (r1, r2, r3, r4, r5, r6) := H
 have A10 := Aside0.mk A100
 clear A100
 by_cases c11 : t162 = 0
 rotate_left
 ·rw [if_neg c11] at H
  have c11b0 : (t162 == 0) = false := beq_eq_false_iff_ne.mpr c11
  have c11b1 : (t162 != 0) = true := bne_iff_ne.mpr c11
  replace H := Option.bind_eq_some_iff.mp H
  obtain ⟨t175, A1890, H⟩ := H
  replace H : ((impl_ReadParts_1.f t175).bind fun bt176 => (some (bt176.1, bt176.2.1, bt176.2.2.1, bt176.2.2.2.1, bt176.2.2.2.2.1, bt176.2.2.2.2.2))) = some (r1, r2, r3, r4, r5, r6) := H
  have A189 := Aside0.mk A1890
  clear A1890
  replace H := Option.bind_eq_some_iff.mp H
  obtain ⟨⟨t176, t177, t178, t179, t182, t185⟩, A1900, H⟩ := H
  replace H : (some (t176, t177, t178, t179, t182, t185)) = some (r1, r2, r3, r4, r5, r6) := H
  have A190 := Aside0.mk A1900
  clear A1900
  simp only [Option.some.injEq, Prod.mk.injEq] at H
  obtain ⟨rfl, rfl, rfl, rfl, rfl, rfl⟩ := H
  go_enter Try.func68, Try.ntmps68
  go_wp2_with (first | ((with_reducible refine gate_dst (N := 2) rfl ?_); (try (refine gate_guard (by rfl) ?_; dsimp only)); refine box_event ?hg (N := 2) ?hd (cs := #[.int .i64 0, .int .i64 0, .int .i64 0, .slice none 0 0, .slice none 0 0, .slice none 0 0]) (t := 94) ?hr ?_; (case hd => rfl); (case hg => rfl); (case hr => first | (go_simp; done) | (go_simp; rfl)); intro gb149 hg w191 hbox hb; have n0_ := Aside0.mk (Kd.V_below (Kd.V_elderB (by (with_reducible repeat (first | apply Kd.V_alloc | apply Kd.V_drewN | apply Kd.V_drew)); exact HO0.out) gb149 (Nat.le_of_eq hg.symm)) hb); have n1_ := Aside0.mk (below_step (by repeat (first | (with_reducible first | exact HB.out | apply below_alloc | apply pw_below_drewN | apply below_drew1) | exact HB.out)) hb); have n2_ := Aside0.mk (hbox); have n3_ := Aside0.mk ((by rw [hg]; exact (below_size (by repeat (first | (with_reducible first | exact HB.out | apply below_alloc | apply pw_below_drewN | apply below_drew1) | exact HB.out))) : w.heap.size ≤ gb149)); have n4_ := n3_; clear HO0 HB; have HO0 := n0_; have HB := n1_; have BK149 := n2_; have GW149 := n3_; have GE149 := n4_; clear n0_ n1_ n2_ n3_ n4_; clear hb hbox hg) | ((with_reducible refine gate_callee (f := 145) rfl ?_); refine goesL_ (some 17) rfl rfl Try.func145 (by kernel_rfl) rfl #[.slice A0 l0.length c0, .string (⟨#[86, 73, 68, 49]⟩ : ByteArray)] rfl (by (try simp only [List.map_toArray, List.map_cons, List.map_nil]); first | done | rfl | (simp only [List.length_drop, List.length_take]; rfl)) ?_; (with_reducible refine (impl_zmagic.calls k _ _ l0 (⟨#[86, 73, 68, 49]⟩ : ByteArray) t162 _ ?side1 ?side2 A10.out).mono ?_); (case side1 => repeat (first | exact (Kd.V_reads' HO0.out).2.2 | (with_reducible refine Kd.C_alloc ?_ _) | (with_reducible refine Kd.C_drewN ?_ _) | (with_reducible refine Kd.C_drew ?_))); (case side2 => exact (Kd.V_reads' HO0.out).2.1); rintro e w' ⟨rfl, ⟨nd, rfl⟩⟩; refine ⟨_, rfl, ?_⟩; (try (rw [drewN_self w191]; generalize hq_ : World.drewN w191 _ = w191; have n0_ : Aside0 (Kd.V (Kd.int .u8) 5 w191 w.heap.size (fun k_ => (((P0_ k_ ∨ w.heap.size ≤ k_)) ∧ k_ ≠ gb149)) (.slice A0 l0.length c0) l0) := ⟨by rw [← hq_]; exact (by (with_reducible repeat (first | apply Kd.V_alloc | apply Kd.V_drewN | apply Kd.V_drew)); exact HO0.out)⟩; have n1_ : Aside0 (w191.heap[gb149]? = some (.cells #[.int .i64 0, .int .i64 0, .int .i64 0, .slice none 0 0, .slice none 0 0, .slice none 0 0] 94 (0, 0))) := ⟨by rw [← hq_]; exact (by (with_reducible repeat (first | refine blk_drewN ?_ _ | refine blk_drew ?_ | refine blk_alloc ?_ _)); exact BK149.out)⟩; have n2_ : Aside0 (Below w.heap.size w w191) := ⟨by rw [← hq_]; exact (by repeat (first | (with_reducible first | exact HB.out | apply below_alloc | apply pw_below_drewN | apply below_drew1 | refine below_set ?_ GE149.out) | exact HB.out))⟩; clear HO0 BK149 HB hq_; have HO0 := n0_; have BK149 := n1_; have HB := n2_; clear n0_ n1_ n2_))) | ((with_reducible refine gate_callee (f := 145) rfl ?_); refine goesL_ (some 21) rfl rfl Try.func145 (by kernel_rfl) rfl #[.slice A0 l0.length c0, .string (⟨#[86, 73, 68, 49]⟩ : ByteArray)] rfl (by (try simp only [List.map_toArray, List.map_cons, List.map_nil]); first | done | rfl | (simp only [List.length_drop, List.length_take]; rfl)) ?_; (with_reducible refine (impl_zmagic.calls k _ _ l0 (⟨#[86, 73, 68, 49]⟩ : ByteArray) t175 _ ?side1 ?side2 A189.out).mono ?_); (case side1 => repeat (first | exact (Kd.V_reads' HO0.out).2.2 | (with_reducible refine Kd.C_alloc ?_ _) | (with_reducible refine Kd.C_drewN ?_ _) | (with_reducible refine Kd.C_drew ?_))); (case side2 => exact (Kd.V_reads' HO0.out).2.1); rintro e w' ⟨rfl, ⟨nd, rfl⟩⟩; refine ⟨_, rfl, ?_⟩; (try (rw [drewN_self w191]; generalize hq_ : World.drewN w191 _ = w191; have n0_ : Aside0 (Kd.V (Kd.int .u8) 5 w191 w.heap.size (fun k_ => (((P0_ k_ ∨ w.heap.size ≤ k_)) ∧ k_ ≠ gb149)) (.slice A0 l0.length c0) l0) := ⟨by rw [← hq_]; exact (by (with_reducible repeat (first | apply Kd.V_alloc | apply Kd.V_drewN | apply Kd.V_drew)); exact HO0.out)⟩; have n1_ : Aside0 (w191.heap[gb149]? = some (.cells #[.int .i64 0, .int .i64 0, .int .i64 0, .slice none 0 0, .slice none 0 0, .slice none 0 0] 94 (0, 0))) := ⟨by rw [← hq_]; exact (by (with_reducible repeat (first | refine blk_drewN ?_ _ | refine blk_drew ?_ | refine blk_alloc ?_ _)); exact BK149.out)⟩; have n2_ : Aside0 (Below w.heap.size w w191) := ⟨by rw [← hq_]; exact (by repeat (first | (with_reducible first | exact HB.out | apply below_alloc | apply pw_below_drewN | apply below_drew1 | refine below_set ?_ GE149.out) | exact HB.out))⟩; clear HO0 BK149 HB hq_; have HO0 := n0_; have BK149 := n1_; have HB := n2_; clear n0_ n1_ n2_))) | ((with_reducible refine gate_dst (N := 22) rfl ?_); refine goesLC_ (some 22) rfl rfl Try.func144 (by kernel_rfl) rfl (#[.int .i64 t175]) rfl rfl ?ha ?_; (case ha => (try simp only [List.map_toArray, List.map_cons, List.map_nil]); first | done | rfl | (simp only [List.length_drop, List.length_take]; rfl)); (with_reducible refine (impl_ReadParts_1.calls t175 t176 t177 t178 t179 t182 t185 _ A190.out).mono ?_); rintro e w192 ⟨v180, v183, v186, rfl, ho0, ho1, ho2, hb⟩; refine ⟨_, rfl, ?_⟩; have n0_ := Aside0.mk (Kd.V_mono (Kd.V_told (Kd.V_told (Kd.V_told (Kd.V_old (by (with_reducible repeat (first | apply Kd.V_alloc | apply Kd.V_drewN | apply Kd.V_drew)); exact HO0.out) hb) (Kd.R_base ho0)) (Kd.R_base ho1)) (Kd.S_base ho2)) (fun _ h_ => h_.1)); have n1_ := Aside0.mk (Kd.R_lower (Kd.R_newM (M := fun k_ => (w.heap.size ≤ k_)) ho0 (below_size (by repeat (first | (with_reducible first | exact HB.out | apply below_alloc | apply pw_below_drewN | apply below_drew1 | refine below_set ?_ GE149.out) | exact HB.out))) (fun k_ h_ => h_)) (below_size (by repeat (first | (with_reducible first | exact HB.out | apply below_alloc | apply pw_below_drewN | apply below_drew1 | refine below_set ?_ GE149.out) | exact HB.out)))); have n2_ := Aside0.mk (Kd.R_lower (Kd.R_newM (M := fun k_ => (w.heap.size ≤ k_)) ho1 (below_size (by repeat (first | (with_reducible first | exact HB.out | apply below_alloc | apply pw_below_drewN | apply below_drew1 | refine below_set ?_ GE149.out) | exact HB.out))) (fun k_ h_ => h_)) (below_size (by repeat (first | (with_reducible first | exact HB.out | apply below_alloc | apply pw_below_drewN | apply below_drew1 | refine below_set ?_ GE149.out) | exact HB.out)))); have n3_ := Aside0.mk (Kd.S_lower (Kd.S_newM (M := fun k_ => (w.heap.size ≤ k_)) ho2 (below_size (by repeat (first | (with_reducible first | exact HB.out | apply below_alloc | apply pw_below_drewN | apply below_drew1 | refine below_set ?_ GE149.out) | exact HB.out))) (fun k_ h_ => h_)) (below_size (by repeat (first | (with_reducible first | exact HB.out | apply below_alloc | apply pw_below_drewN | apply below_drew1 | refine below_set ?_ GE149.out) | exact HB.out)))); have n4_ := Aside0.mk (blk_below (g := gb149) (o := .cells #[.int .i64 0, .int .i64 0, .int .i64 0, .slice none 0 0, .slice none 0 0, .slice none 0 0] 94 (0, 0)) (by (with_reducible repeat (first | refine blk_drewN ?_ _ | refine blk_drew ?_ | refine blk_alloc ?_ _)); exact BK149.out) hb); have n5_ := Aside0.mk (below_step (by repeat (first | (with_reducible first | exact HB.out | apply below_alloc | apply pw_below_drewN | apply below_drew1 | refine below_set ?_ GE149.out) | exact HB.out)) hb); clear HO0 BK149 HB; have HO0 := n0_; have HO181 := n1_; have HO184 := n2_; have HO187 := n3_; have BK149 := n4_; have HB := n5_; clear n0_ n1_ n2_ n3_ n4_ n5_; (try clear hb); (try clear hb2); (try clear hk); (try clear hi); (try clear ho0); (try clear ho1); (try clear ho2); have hcz193_0 : w192.cell? ⟨gb149, 0, none⟩ = some (.int .i64 0) := (blk_cell BK149.out 0).trans rfl; have hcz193_1 : w192.cell? ⟨gb149, 1, none⟩ = some (.int .i64 0) := (blk_cell BK149.out 1).trans rfl; have hcz193_2 : w192.cell? ⟨gb149, 2, none⟩ = some (.int .i64 0) := (blk_cell BK149.out 2).trans rfl; have hcz193_3 : w192.cell? ⟨gb149, 3, none⟩ = some (.slice none 0 0) := (blk_cell BK149.out 3).trans rfl; have hcz193_4 : w192.cell? ⟨gb149, 4, none⟩ = some (.slice none 0 0) := (blk_cell BK149.out 4).trans rfl; have hcz193_5 : w192.cell? ⟨gb149, 5, none⟩ = some (.slice none 0 0) := (blk_cell BK149.out 5).trans rfl; have hfz193_0 := blk_frozen BK149.out 0; have hfz193_1 := blk_frozen BK149.out 1; have hfz193_2 := blk_frozen BK149.out 2; have hfz193_3 := blk_frozen BK149.out 3; have hfz193_4 := blk_frozen BK149.out 4; have hfz193_5 := blk_frozen BK149.out 5; obtain ⟨Ao194, co194, eo194⟩ := Kd.R_slice HO181.out; subst eo194; obtain ⟨Ao195, co195, eo195⟩ := Kd.R_slice HO184.out; subst eo195; obtain ⟨Ao196, co196, eo196⟩ := Kd.S_slice HO187.out; subst eo196))
  refine bodyPost_ret (results_cell_row rfl _ _ gb149 94 #[.int .i64 t176, .int .i64 t177, .int .i64 t178, .slice Ao194 t179.length co194, .slice Ao195 t182.length co195, .slice Ao196 t185.length co196] (0, 0) _ rfl (set6_blk BK149.out) Try.underlying94 rfl (by kernel_rfl)) rfl ?_
  exact ⟨_, _, _, by first | rfl | (simp [*, errW_none, errW_some] <;> rfl), by (with_reducible repeat (first | apply Kd.R_alloc | apply Kd.R_drewN | apply Kd.R_drew)); exact Kd.R_mono (set6_R (Kd.R_types HO181.out BK149.out (by decide)) (fun _ hk => hk.2)) (fun _ hk => hk.1.1), by (with_reducible repeat (first | apply Kd.R_alloc | apply Kd.R_drewN | apply Kd.R_drew)); exact Kd.R_mono (set6_R (Kd.R_types HO184.out BK149.out (by decide)) (fun _ hk => hk.2)) (fun _ hk => hk.1.1), by (with_reducible repeat (first | apply Kd.S_alloc | apply Kd.S_drewN | apply Kd.S_drew)); exact Kd.S_mono (set6_S (Kd.S_types HO187.out BK149.out (by decide)) (fun _ hk => hk.2)) (fun _ hk => hk.1.1), by repeat (first | (with_reducible first | exact HB.out | apply below_alloc | apply pw_below_drewN | apply below_drew1 | refine below_set ?_ GE149.out) | exact HB.out)⟩
 rw [if_pos c11] at H
 have c11b0 : (t162 == 0) = true := beq_iff_eq.mpr c11
 have c11b1 : (t162 != 0) = false := bne_eq_false_iff_eq.mpr c11
 clear c11
 by_cases c12 : (l0.length : Int) < 6
 ·rw [if_pos c12] at H
  have c12b0 : decide ((l0.length : Int) < 6) = true := decide_eq_true c12
  have c12b1 : decide (l0.length < 6) = true := decide_eq_true (by omega)
  have c12b2 : l0.length < 6 := by omega
  clear c12
  replace H := Option.bind_eq_some_iff.mp H
  obtain ⟨⟨t163, t164, t165, t166, t169, t172⟩, A130, H⟩ := H
  replace H : (some (t163, t164, t165, t166, t169, t172)) = some (r1, r2, r3, r4, r5, r6) := H
  have A13 := Aside0.mk A130
  clear A130
  simp only [Option.some.injEq, Prod.mk.injEq] at H
  obtain ⟨rfl, rfl, rfl, rfl, rfl, rfl⟩ := H
  go_enter Try.func68, Try.ntmps68
  go_wp2_with (first | ((with_reducible refine gate_dst (N := 2) rfl ?_); (try (refine gate_guard (by rfl) ?_; dsimp only)); refine box_event ?hg (N := 2) ?hd (cs := #[.int .i64 0, .int .i64 0, .int .i64 0, .slice none 0 0, .slice none 0 0, .slice none 0 0]) (t := 94) ?hr ?_; (case hd => rfl); (case hg => rfl); (case hr => first | (go_simp; done) | (go_simp; rfl)); intro gb149 hg w14 hbox hb; have n0_ := Aside0.mk (Kd.V_below (Kd.V_elderB (by (with_reducible repeat (first | apply Kd.V_alloc | apply Kd.V_drewN | apply Kd.V_drew)); exact HO0.out) gb149 (Nat.le_of_eq hg.symm)) hb); have n1_ := Aside0.mk (below_step (by repeat (first | (with_reducible first | exact HB.out | apply below_alloc | apply pw_below_drewN | apply below_drew1) | exact HB.out)) hb); have n2_ := Aside0.mk (hbox); have n3_ := Aside0.mk ((by rw [hg]; exact (below_size (by repeat (first | (with_reducible first | exact HB.out | apply below_alloc | apply pw_below_drewN | apply below_drew1) | exact HB.out))) : w.heap.size ≤ gb149)); have n4_ := n3_; clear HO0 HB; have HO0 := n0_; have HB := n1_; have BK149 := n2_; have GW149 := n3_; have GE149 := n4_; clear n0_ n1_ n2_ n3_ n4_; clear hb hbox hg) | ((with_reducible refine gate_callee (f := 145) rfl ?_); refine goesL_ (some 17) rfl rfl Try.func145 (by kernel_rfl) rfl #[.slice A0 l0.length c0, .string (⟨#[86, 73, 68, 49]⟩ : ByteArray)] rfl (by (try simp only [List.map_toArray, List.map_cons, List.map_nil]); first | done | rfl | (simp only [List.length_drop, List.length_take]; rfl)) ?_; (with_reducible refine (impl_zmagic.calls k _ _ l0 (⟨#[86, 73, 68, 49]⟩ : ByteArray) t162 _ ?side1 ?side2 A10.out).mono ?_); (case side1 => repeat (first | exact (Kd.V_reads' HO0.out).2.2 | (with_reducible refine Kd.C_alloc ?_ _) | (with_reducible refine Kd.C_drewN ?_ _) | (with_reducible refine Kd.C_drew ?_))); (case side2 => exact (Kd.V_reads' HO0.out).2.1); rintro e w' ⟨rfl, ⟨nd, rfl⟩⟩; refine ⟨_, rfl, ?_⟩; (try (rw [drewN_self w14]; generalize hq_ : World.drewN w14 _ = w14; have n0_ : Aside0 (Kd.V (Kd.int .u8) 5 w14 w.heap.size (fun k_ => (((P0_ k_ ∨ w.heap.size ≤ k_)) ∧ k_ ≠ gb149)) (.slice A0 l0.length c0) l0) := ⟨by rw [← hq_]; exact (by (with_reducible repeat (first | apply Kd.V_alloc | apply Kd.V_drewN | apply Kd.V_drew)); exact HO0.out)⟩; have n1_ : Aside0 (w14.heap[gb149]? = some (.cells #[.int .i64 0, .int .i64 0, .int .i64 0, .slice none 0 0, .slice none 0 0, .slice none 0 0] 94 (0, 0))) := ⟨by rw [← hq_]; exact (by (with_reducible repeat (first | refine blk_drewN ?_ _ | refine blk_drew ?_ | refine blk_alloc ?_ _)); exact BK149.out)⟩; have n2_ : Aside0 (Below w.heap.size w w14) := ⟨by rw [← hq_]; exact (by repeat (first | (with_reducible first | exact HB.out | apply below_alloc | apply pw_below_drewN | apply below_drew1 | refine below_set ?_ GE149.out) | exact HB.out))⟩; clear HO0 BK149 HB hq_; have HO0 := n0_; have BK149 := n1_; have HB := n2_; clear n0_ n1_ n2_))) | ((with_reducible refine gate_dst (N := 28) rfl ?_); refine goesLC_ (some 28) rfl rfl Try.func144 (by kernel_rfl) rfl (#[.int .i64 2]) rfl rfl ?ha ?_; (case ha => (try simp only [List.map_toArray, List.map_cons, List.map_nil]); first | done | rfl | (simp only [List.length_drop, List.length_take]; rfl)); (with_reducible refine (impl_ReadParts_1.calls 2 t163 t164 t165 t166 t169 t172 _ A13.out).mono ?_); rintro e w15 ⟨v167, v170, v173, rfl, ho0, ho1, ho2, hb⟩; refine ⟨_, rfl, ?_⟩; have n0_ := Aside0.mk (Kd.V_mono (Kd.V_told (Kd.V_told (Kd.V_told (Kd.V_old (by (with_reducible repeat (first | apply Kd.V_alloc | apply Kd.V_drewN | apply Kd.V_drew)); exact HO0.out) hb) (Kd.R_base ho0)) (Kd.R_base ho1)) (Kd.S_base ho2)) (fun _ h_ => h_.1)); have n1_ := Aside0.mk (Kd.R_lower (Kd.R_newM (M := fun k_ => (w.heap.size ≤ k_)) ho0 (below_size (by repeat (first | (with_reducible first | exact HB.out | apply below_alloc | apply pw_below_drewN | apply below_drew1 | refine below_set ?_ GE149.out) | exact HB.out))) (fun k_ h_ => h_)) (below_size (by repeat (first | (with_reducible first | exact HB.out | apply below_alloc | apply pw_below_drewN | apply below_drew1 | refine below_set ?_ GE149.out) | exact HB.out)))); have n2_ := Aside0.mk (Kd.R_lower (Kd.R_newM (M := fun k_ => (w.heap.size ≤ k_)) ho1 (below_size (by repeat (first | (with_reducible first | exact HB.out | apply below_alloc | apply pw_below_drewN | apply below_drew1 | refine below_set ?_ GE149.out) | exact HB.out))) (fun k_ h_ => h_)) (below_size (by repeat (first | (with_reducible first | exact HB.out | apply below_alloc | apply pw_below_drewN | apply below_drew1 | refine below_set ?_ GE149.out) | exact HB.out)))); have n3_ := Aside0.mk (Kd.S_lower (Kd.S_newM (M := fun k_ => (w.heap.size ≤ k_)) ho2 (below_size (by repeat (first | (with_reducible first | exact HB.out | apply below_alloc | apply pw_below_drewN | apply below_drew1 | refine below_set ?_ GE149.out) | exact HB.out))) (fun k_ h_ => h_)) (below_size (by repeat (first | (with_reducible first | exact HB.out | apply below_alloc | apply pw_below_drewN | apply below_drew1 | refine below_set ?_ GE149.out) | exact HB.out)))); have n4_ := Aside0.mk (blk_below (g := gb149) (o := .cells #[.int .i64 0, .int .i64 0, .int .i64 0, .slice none 0 0, .slice none 0 0, .slice none 0 0] 94 (0, 0)) (by (with_reducible repeat (first | refine blk_drewN ?_ _ | refine blk_drew ?_ | refine blk_alloc ?_ _)); exact BK149.out) hb); have n5_ := Aside0.mk (below_step (by repeat (first | (with_reducible first | exact HB.out | apply below_alloc | apply pw_below_drewN | apply below_drew1 | refine below_set ?_ GE149.out) | exact HB.out)) hb); clear HO0 BK149 HB; have HO0 := n0_; have HO168 := n1_; have HO171 := n2_; have HO174 := n3_; have BK149 := n4_; have HB := n5_; clear n0_ n1_ n2_ n3_ n4_ n5_; (try clear hb); (try clear hb2); (try clear hk); (try clear hi); (try clear ho0); (try clear ho1); (try clear ho2); have hcz16_0 : w15.cell? ⟨gb149, 0, none⟩ = some (.int .i64 0) := (blk_cell BK149.out 0).trans rfl; have hcz16_1 : w15.cell? ⟨gb149, 1, none⟩ = some (.int .i64 0) := (blk_cell BK149.out 1).trans rfl; have hcz16_2 : w15.cell? ⟨gb149, 2, none⟩ = some (.int .i64 0) := (blk_cell BK149.out 2).trans rfl; have hcz16_3 : w15.cell? ⟨gb149, 3, none⟩ = some (.slice none 0 0) := (blk_cell BK149.out 3).trans rfl; have hcz16_4 : w15.cell? ⟨gb149, 4, none⟩ = some (.slice none 0 0) := (blk_cell BK149.out 4).trans rfl; have hcz16_5 : w15.cell? ⟨gb149, 5, none⟩ = some (.slice none 0 0) := (blk_cell BK149.out 5).trans rfl; have hfz16_0 := blk_frozen BK149.out 0; have hfz16_1 := blk_frozen BK149.out 1; have hfz16_2 := blk_frozen BK149.out 2; have hfz16_3 := blk_frozen BK149.out 3; have hfz16_4 := blk_frozen BK149.out 4; have hfz16_5 := blk_frozen BK149.out 5; obtain ⟨Ao17, co17, eo17⟩ := Kd.R_slice HO168.out; subst eo17; obtain ⟨Ao18, co18, eo18⟩ := Kd.R_slice HO171.out; subst eo18; obtain ⟨Ao19, co19, eo19⟩ := Kd.S_slice HO174.out; subst eo19))
  refine bodyPost_ret (results_cell_row rfl _ _ gb149 94 #[.int .i64 t163, .int .i64 t164, .int .i64 t165, .slice Ao17 t166.length co17, .slice Ao18 t169.length co18, .slice Ao19 t172.length co19] (0, 0) _ rfl (set6_blk BK149.out) Try.underlying94 rfl (by kernel_rfl)) rfl ?_
  exact ⟨_, _, _, by first | rfl | (simp [*, errW_none, errW_some] <;> rfl), by (with_reducible repeat (first | apply Kd.R_alloc | apply Kd.R_drewN | apply Kd.R_drew)); exact Kd.R_mono (set6_R (Kd.R_types HO168.out BK149.out (by decide)) (fun _ hk => hk.2)) (fun _ hk => hk.1.1), by (with_reducible repeat (first | apply Kd.R_alloc | apply Kd.R_drewN | apply Kd.R_drew)); exact Kd.R_mono (set6_R (Kd.R_types HO171.out BK149.out (by decide)) (fun _ hk => hk.2)) (fun _ hk => hk.1.1), by (with_reducible repeat (first | apply Kd.S_alloc | apply Kd.S_drewN | apply Kd.S_drew)); exact Kd.S_mono (set6_S (Kd.S_types HO174.out BK149.out (by decide)) (fun _ hk => hk.2)) (fun _ hk => hk.1.1), by repeat (first | (with_reducible first | exact HB.out | apply below_alloc | apply pw_below_drewN | apply below_drew1 | refine below_set ?_ GE149.out) | exact HB.out)⟩
 rw [if_neg c12] at H
 have c12b0 : decide ((l0.length : Int) < 6) = false := decide_eq_false c12
 have c12b1 : decide (l0.length < 6) = false := decide_eq_false (by omega)
 have c12b2 : ¬ (l0.length < 6) := by omega
 clear c12
 by_cases c20 : 4 < (l0.length : Int)
 rotate_left
 ·rw [if_neg c20] at H
  exact absurd H (by simp)
 rw [if_pos c20] at H
 have c20b0 : decide (4 < (l0.length : Int)) = true := decide_eq_true c20
 have c20b1 : decide (4 < l0.length) = true := decide_eq_true (by omega)
 have c20b2 : 4 < l0.length := by omega
 clear c20
 by_cases c21 : 5 < (l0.length : Int)
 rotate_left
 ·rw [if_neg c21] at H
  exact absurd H (by simp)
 rw [if_pos c21] at H
 have c21b0 : decide (5 < (l0.length : Int)) = true := decide_eq_true c21
 have c21b1 : decide (5 < l0.length) = true := decide_eq_true (by omega)
 have c21b2 : 5 < l0.length := by omega
 clear c21
 replace H := Option.bind_eq_some_iff.mp H
 obtain ⟨t191, A220, H⟩ := H
 replace H : (if t191 = true then (if 6 ≤ (l0.length : Int) then (impl_ReadParts.l0 k (l0.drop 6) 0 (wrap64 (8 * (wrap64 (rd l0 4)))) (wrap64 (8 * (wrap64 (rd l0 5)))) ([] : List Bool) ([] : List Int) ([] : List (List Int))) else (none)) else ((impl_ReadParts_1.f 5).bind fun bt192 => (some (bt192.1, bt192.2.1, bt192.2.2.1, bt192.2.2.2.1, bt192.2.2.2.2.1, bt192.2.2.2.2.2)))) = some (r1, r2, r3, r4, r5, r6) := H
 have A22 := Aside0.mk A220
 clear A220
 by_cases c23 : t191 = true
 rotate_left
 ·replace c23 := Bool.eq_false_iff.mpr c23
  subst c23
  replace H : ((impl_ReadParts_1.f 5).bind fun bt192 => (some (bt192.1, bt192.2.1, bt192.2.2.1, bt192.2.2.2.1, bt192.2.2.2.2.1, bt192.2.2.2.2.2))) = some (r1, r2, r3, r4, r5, r6) := by rw [if_neg (show ¬ (false = true) by decide)] at H; exact H
  replace H := Option.bind_eq_some_iff.mp H
  obtain ⟨⟨t192, t193, t194, t195, t198, t201⟩, A1720, H⟩ := H
  replace H : (some (t192, t193, t194, t195, t198, t201)) = some (r1, r2, r3, r4, r5, r6) := H
  have A172 := Aside0.mk A1720
  clear A1720
  simp only [Option.some.injEq, Prod.mk.injEq] at H
  obtain ⟨rfl, rfl, rfl, rfl, rfl, rfl⟩ := H
  go_enter Try.func68, Try.ntmps68
  try go_wp2_with (first | ((with_reducible refine gate_dst (N := 2) rfl ?_); (try (refine gate_guard (by rfl) ?_; dsimp only)); refine box_event ?hg (N := 2) ?hd (cs := #[.int .i64 0, .int .i64 0, .int .i64 0, .slice none 0 0, .slice none 0 0, .slice none 0 0]) (t := 94) ?hr ?_; (case hd => rfl); (case hg => rfl); (case hr => first | (go_simp; done) | (go_simp; rfl)); intro gb149 hg w173 hbox hb; have n0_ := Aside0.mk (Kd.V_below (Kd.V_elderB (by (with_reducible repeat (first | apply Kd.V_alloc | apply Kd.V_drewN | apply Kd.V_drew)); exact HO0.out) gb149 (Nat.le_of_eq hg.symm)) hb); have n1_ := Aside0.mk (below_step (by repeat (first | (with_reducible first | exact HB.out | apply below_alloc | apply pw_below_drewN | apply below_drew1) | exact HB.out)) hb); have n2_ := Aside0.mk (hbox); have n3_ := Aside0.mk ((by rw [hg]; exact (below_size (by repeat (first | (with_reducible first | exact HB.out | apply below_alloc | apply pw_below_drewN | apply below_drew1) | exact HB.out))) : w.heap.size ≤ gb149)); have n4_ := n3_; clear HO0 HB; have HO0 := n0_; have HB := n1_; have BK149 := n2_; have GW149 := n3_; have GE149 := n4_; clear n0_ n1_ n2_ n3_ n4_; clear hb hbox hg) | ((with_reducible refine gate_callee (f := 145) rfl ?_); refine goesL_ (some 17) rfl rfl Try.func145 (by kernel_rfl) rfl #[.slice A0 l0.length c0, .string (⟨#[86, 73, 68, 49]⟩ : ByteArray)] rfl (by (try simp only [List.map_toArray, List.map_cons, List.map_nil]); first | done | rfl | (simp only [List.length_drop, List.length_take]; rfl)) ?_; (with_reducible refine (impl_zmagic.calls k _ _ l0 (⟨#[86, 73, 68, 49]⟩ : ByteArray) t162 _ ?side1 ?side2 A10.out).mono ?_); (case side1 => repeat (first | exact (Kd.V_reads' HO0.out).2.2 | (with_reducible refine Kd.C_alloc ?_ _) | (with_reducible refine Kd.C_drewN ?_ _) | (with_reducible refine Kd.C_drew ?_))); (case side2 => exact (Kd.V_reads' HO0.out).2.1); rintro e w' ⟨rfl, ⟨nd, rfl⟩⟩; refine ⟨_, rfl, ?_⟩; (try (rw [drewN_self w173]; generalize hq_ : World.drewN w173 _ = w173; have n0_ : Aside0 (Kd.V (Kd.int .u8) 5 w173 w.heap.size (fun k_ => (((P0_ k_ ∨ w.heap.size ≤ k_)) ∧ k_ ≠ gb149)) (.slice A0 l0.length c0) l0) := ⟨by rw [← hq_]; exact (by (with_reducible repeat (first | apply Kd.V_alloc | apply Kd.V_drewN | apply Kd.V_drew)); exact HO0.out)⟩; have n1_ : Aside0 (w173.heap[gb149]? = some (.cells #[.int .i64 0, .int .i64 0, .int .i64 0, .slice none 0 0, .slice none 0 0, .slice none 0 0] 94 (0, 0))) := ⟨by rw [← hq_]; exact (by (with_reducible repeat (first | refine blk_drewN ?_ _ | refine blk_drew ?_ | refine blk_alloc ?_ _)); exact BK149.out)⟩; have n2_ : Aside0 (Below w.heap.size w w173) := ⟨by rw [← hq_]; exact (by repeat (first | (with_reducible first | exact HB.out | apply below_alloc | apply pw_below_drewN | apply below_drew1 | refine below_set ?_ GE149.out) | exact HB.out))⟩; clear HO0 BK149 HB hq_; have HO0 := n0_; have BK149 := n1_; have HB := n2_; clear n0_ n1_ n2_))))
  have n0_ := Aside0.mk (Kd.V_drew HO0.out)
  have n1_ := Aside0.mk (blk_drew BK149.out)
  have n2_ := Aside0.mk (below_drew1 HB.out)
  clear HO0
  clear BK149
  clear HB
  have HO0 := n0_
  have BK149 := n1_
  have HB := n2_
  clear n0_ n1_ n2_
  have p188 : 0 ≤ (4 : Int) := (by omega)
  have q188 : 4 < (l0.length : Int) := of_decide_eq_true (by first | (with_reducible assumption) | assumption)
  obtain ⟨ad188, e188, hx188_0⟩ := Kd.at_int (Kd.V_reads' HO0.out).2.2 4 p188 q188
  cases e188
  (try simp only [show (4 : Int).toNat = 4 from rfl, Nat.reduceMul, Nat.reduceEqDiff, Go.Addr.add, ↓reduceIte] at hx188_0)
  have qi188 : (4 < l0.length) = True := eq_true (by omega)
  (try rw [show ((4 : Int)).toNat = 4 from rfl] at hx188_0)
  replace p188 := eq_true p188
  replace q188 := eq_true q188
  have p189 : 0 ≤ (5 : Int) := (by omega)
  have q189 : 5 < (l0.length : Int) := of_decide_eq_true (by first | (with_reducible assumption) | assumption)
  obtain ⟨ad189, e189, hx189_0⟩ := Kd.at_int (Kd.V_reads' HO0.out).2.2 5 p189 q189
  obtain rfl : ad188 = ad189 := (by injection e189)
  (try simp only [show (5 : Int).toNat = 5 from rfl, Nat.reduceMul, Nat.reduceEqDiff, Go.Addr.add, ↓reduceIte] at hx189_0)
  have qi189 : (5 < l0.length) = True := eq_true (by omega)
  (try rw [show ((5 : Int)).toNat = 5 from rfl] at hx189_0)
  replace p189 := eq_true p189
  replace q189 := eq_true q189
  refine start_ (n := 13) (S := fun w' => w'.cell? ⟨ad188.block, ad188.off + 4, none⟩ = some (.int .u8 (rd l0 4)) ∧ w'.cell? ⟨ad188.block, ad188.off + 5, none⟩ = some (.int .u8 (rd l0 5))) (ds := []) #[false, false, false, false, false, false, false, false, false, false, false, false, false] (by kernel_rfl) rfl rfl ⟨hx188_0, hx189_0⟩ (fun hHeld => ?_); refine with_tabW impl_ReadParts.tab8 impl_ReadParts.bits8 (fun HT_ HW_ => ?_)
  generalize w173.drew = w174 at HO0 BK149 HB hx188_0 hx189_0 hHeld ⊢
  refine pure_ (i := 0) (N := some 29) (v := ?_) (a' := ?_) #[true, false, false, false, false, false, false, false, false, false, false, false, false] rfl rfl (any_of HT_.out (by kernel_rfl)) (fun _ _ _ h => h) (Or.inl ⟨by rfl, ?_⟩) ?_ ?_
  rotate_left
  ·intro w'
   go_simp
   with_reducible rfl
  rotate_left
  ·simp only [Act.put, List.setIfInBounds_toArray, List.set_cons_zero, List.set_cons_succ, i64_w, i32_w]
   rfl
  refine pure_ (i := 1) (N := some 30) (v := ?_) (a' := ?_) #[true, true, false, false, false, false, false, false, false, false, false, false, false] rfl rfl (any_of HT_.out (by kernel_rfl)) (fun _ _ _ h => h) (Or.inl ⟨by rfl, ?_⟩) ?_ ?_
  rotate_left
  ·intro w'
   go_simp
   with_reducible rfl
  rotate_left
  ·simp only [Act.put, List.setIfInBounds_toArray, List.set_cons_zero, List.set_cons_succ, i64_w, i32_w]
   rfl
  refine pure_ (i := 5) (N := some 34) (v := ?_) (a' := ?_) #[true, true, false, false, false, true, false, false, false, false, false, false, false] rfl rfl (any_of HT_.out (by kernel_rfl)) (fun _ _ _ h => h) (Or.inl ⟨by rfl, ?_⟩) ?_ ?_
  rotate_left
  ·intro w'
   go_simp
   with_reducible rfl
  rotate_left
  ·simp only [Act.put, List.setIfInBounds_toArray, List.set_cons_zero, List.set_cons_succ, i64_w, i32_w]
   rfl
  refine pure_ (i := 6) (N := some 35) (v := ?_) (a' := ?_) #[true, true, false, false, false, true, true, false, false, false, false, false, false] rfl rfl (any_of HT_.out (by kernel_rfl)) (fun _ _ _ h => h) (Or.inl ⟨by rfl, ?_⟩) ?_ ?_
  rotate_left
  ·intro w'
   go_simp
   with_reducible rfl
  rotate_left
  ·simp only [Act.put, List.setIfInBounds_toArray, List.set_cons_zero, List.set_cons_succ, i64_w, i32_w]
   rfl
  refine take_ (i := 2) (N := some 31) (v := ?_) (a' := ?_) #[true, true, true, false, false, true, true, false, false, false, false, false, false] rfl rfl (take_ofW HT_.out HW_.out (by kernel_rfl)) (fun _ _ _ h => h) (Or.inl ⟨by rfl, ?_⟩) hHeld ?_ ?_
  rotate_left
  ·rintro w' ⟨s0, s1⟩
   go_simp
   with_reducible rfl
  rotate_left
  ·simp only [Act.put, List.setIfInBounds_toArray, List.set_cons_zero, List.set_cons_succ, i64_w, i32_w]
   rfl
  refine pure_ (i := 3) (N := some 32) (v := ?_) (a' := ?_) #[true, true, true, true, false, true, true, false, false, false, false, false, false] rfl rfl (any_of HT_.out (by kernel_rfl)) (fun _ _ _ h => h) (Or.inl ⟨by rfl, ?_⟩) ?_ ?_
  rotate_left
  ·intro w'
   go_simp
   with_reducible rfl
  rotate_left
  ·simp only [Act.put, List.setIfInBounds_toArray, List.set_cons_zero, List.set_cons_succ, i64_w, i32_w]
   rfl
  refine pure_ (i := 4) (N := some 33) (v := ?_) (a' := ?_) #[true, true, true, true, true, true, true, false, false, false, false, false, false] rfl rfl (any_of HT_.out (by kernel_rfl)) (fun _ _ _ h => h) (Or.inl ⟨by rfl, ?_⟩) ?_ ?_
  rotate_left
  ·intro w'
   go_simp
   with_reducible rfl
  rotate_left
  ·simp only [Act.put, List.setIfInBounds_toArray, List.set_cons_zero, List.set_cons_succ, i64_w, i32_w]
   rfl
  refine take_ (i := 7) (N := some 36) (v := ?_) (a' := ?_) #[true, true, true, true, true, true, true, true, false, false, false, false, false] rfl rfl (take_ofW HT_.out HW_.out (by kernel_rfl)) (fun _ _ _ h => h) (Or.inl ⟨by rfl, ?_⟩) hHeld ?_ ?_
  rotate_left
  ·rintro w' ⟨s0, s1⟩
   go_simp
   with_reducible rfl
  rotate_left
  ·simp only [Act.put, List.setIfInBounds_toArray, List.set_cons_zero, List.set_cons_succ, i64_w, i32_w]
   rfl
  refine pure_ (i := 8) (N := some 37) (v := ?_) (a' := ?_) #[true, true, true, true, true, true, true, true, true, false, false, false, false] rfl rfl (any_of HT_.out (by kernel_rfl)) (fun _ _ _ h => h) (Or.inl ⟨by rfl, ?_⟩) ?_ ?_
  rotate_left
  ·intro w'
   go_simp
   with_reducible rfl
  rotate_left
  ·simp only [Act.put, List.setIfInBounds_toArray, List.set_cons_zero, List.set_cons_succ, i64_w, i32_w]
   rfl
  refine pure_ (i := 9) (N := some 38) (v := ?_) (a' := ?_) #[true, true, true, true, true, true, true, true, true, true, false, false, false] rfl rfl (any_of HT_.out (by kernel_rfl)) (fun _ _ _ h => h) (Or.inl ⟨by rfl, ?_⟩) ?_ ?_
  rotate_left
  ·intro w'
   go_simp
   with_reducible rfl
  rotate_left
  ·simp only [Act.put, List.setIfInBounds_toArray, List.set_cons_zero, List.set_cons_succ, i64_w, i32_w]
   rfl
  refine pure_ (i := 10) (N := some 39) (v := ?_) (a' := ?_) #[true, true, true, true, true, true, true, true, true, true, true, false, false] rfl rfl (any_of HT_.out (by kernel_rfl)) (fun _ _ _ h => h) (Or.inl ⟨by rfl, ?_⟩) ?_ ?_
  rotate_left
  ·intro w'
   go_simp
   with_reducible rfl
  rotate_left
  ·simp only [Act.put, List.setIfInBounds_toArray, List.set_cons_zero, List.set_cons_succ, i64_w, i32_w]
   rfl
  refine one_ (i := 11) (N := some 4) #[true, true, true, true, true, true, true, true, true, true, true, true, false] rfl rfl (one_of HT_.out (by kernel_rfl)) (by decide) (fun K hK => ?_)
  refine box_step ?hg (N := 4) ?hd (cs := #[.int .i64 0, .int .i64 0, .int .i64 0, .slice none 0 0, .slice none 0 0, .slice none 0 0]) (t := 94) ?hr ?_; (case hd => rfl); (case hg => rfl); (case hr => first | (go_simp; done) | (go_simp; rfl))
  intro gb190 hg w175 hbox hb; have zv_gb190 : ad188.block ≠ gb190 := (by have z_ := World.block_lt_of_cell? _ _ hx188_0; rw [hg]; exact Nat.ne_of_lt z_)
  have HS0_ := (hb.cell (World.block_lt_of_cell? _ _ (hHeld.1))).trans (hHeld.1)
  have HS1_ := (hb.cell (World.block_lt_of_cell? _ _ (hHeld.2))).trans (hHeld.2)
  have n0_ := Aside0.mk (Kd.V_below (Kd.V_elderB (by (with_reducible repeat (first | apply Kd.V_alloc | apply Kd.V_drewN | apply Kd.V_drew)); exact HO0.out) gb190 (Nat.le_of_eq hg.symm)) hb)
  have n1_ := Aside0.mk (blk_below (g := gb149) (o := .cells #[.int .i64 0, .int .i64 0, .int .i64 0, .slice none 0 0, .slice none 0 0, .slice none 0 0] 94 (0, 0)) (by (with_reducible repeat (first | refine blk_drewN ?_ _ | refine blk_drew ?_ | refine blk_alloc ?_ _)); exact BK149.out) hb)
  have n2_ := Aside0.mk (below_step (by repeat (first | (with_reducible first | exact HB.out | apply below_alloc | apply pw_below_drewN | apply below_drew1 | refine below_set ?_ GE149.out) | exact HB.out)) hb)
  have n3_ := Aside0.mk (hbox)
  have n4_ := Aside0.mk ((by rw [hg]; exact (below_size (by repeat (first | (with_reducible first | exact HB.out | apply below_alloc | apply pw_below_drewN | apply below_drew1 | refine below_set ?_ GE149.out) | exact HB.out))) : w.heap.size ≤ gb190))
  have n5_ := Aside0.mk ((by rw [hg]; exact (below_size (by repeat (first | (with_reducible first | exact HB.out | apply below_alloc | apply pw_below_drewN | apply below_drew1 | refine below_set ?_ GE149.out) | exact HB.out))) : w.heap.size ≤ gb190))
  have n6_ := Aside0.mk ((by rw [hg]; exact Nat.ne_of_lt (blk_lt (g := gb149) (o := .cells #[.int .i64 0, .int .i64 0, .int .i64 0, .slice none 0 0, .slice none 0 0, .slice none 0 0] 94 (0, 0)) (by (with_reducible repeat (first | refine blk_drewN ?_ _ | refine blk_drew ?_ | refine blk_alloc ?_ _)); exact BK149.out)) : gb149 ≠ gb190))
  have n7_ := Aside0.mk ((by rw [hg]; exact Nat.ne_of_gt (blk_lt (g := gb149) (o := .cells #[.int .i64 0, .int .i64 0, .int .i64 0, .slice none 0 0, .slice none 0 0, .slice none 0 0] 94 (0, 0)) (by (with_reducible repeat (first | refine blk_drewN ?_ _ | refine blk_drew ?_ | refine blk_alloc ?_ _)); exact BK149.out)) : gb190 ≠ gb149))
  clear HO0
  clear BK149
  clear HB
  have HO0 := n0_
  have BK149 := n1_
  have HB := n2_
  have BK190 := n3_
  have GW190 := n4_
  have GE190 := n5_
  have NB149_190 := n6_
  have NB190_149 := n7_
  clear n0_ n1_ n2_ n3_ n4_ n5_ n6_ n7_
  clear hb hbox hg
  refine hK.out _ _ ⟨HS0_, HS1_⟩ (fun hHeld => ?_)
  clear hK K
  refine norm_ (a' := ?_) ?_ ?_
  rotate_left
  ·show Act.put _ (some 4) _ = _
   simp only [Act.put, List.setIfInBounds_toArray, List.set_cons_zero, List.set_cons_succ, i64_w, i32_w]
   rfl
  refine one_ (i := 12) (N := none) #[true, true, true, true, true, true, true, true, true, true, true, true, true] rfl rfl (one_of HT_.out (by kernel_rfl)) (by decide) (fun K hK => ?_)
  have hs176 : w175.cell? ⟨gb190, 0, none⟩ = some (.int .i64 0) := (blk_cell BK190.out 0).trans rfl
  have hfs176 := blk_frozen BK190.out 0
  have hns176_0 := NB149_190.out
  have hms176_0 := NB190_149.out
  have hs177 : w175.cell? ⟨gb190, 1, none⟩ = some (.int .i64 0) := (blk_cell BK190.out 1).trans rfl
  have hfs177 := blk_frozen BK190.out 1
  have hns177_0 := NB149_190.out
  have hms177_0 := NB190_149.out
  have hs178 : w175.cell? ⟨gb190, 2, none⟩ = some (.int .i64 0) := (blk_cell BK190.out 2).trans rfl
  have hfs178 := blk_frozen BK190.out 2
  have hns178_0 := NB149_190.out
  have hms178_0 := NB190_149.out
  have hs179 : w175.cell? ⟨gb190, 3, none⟩ = some (.slice none 0 0) := (blk_cell BK190.out 3).trans rfl
  have hfs179 := blk_frozen BK190.out 3
  have hns179_0 := NB149_190.out
  have hms179_0 := NB190_149.out
  have hs180 : w175.cell? ⟨gb190, 4, none⟩ = some (.slice none 0 0) := (blk_cell BK190.out 4).trans rfl
  have hfs180 := blk_frozen BK190.out 4
  have hns180_0 := NB149_190.out
  have hms180_0 := NB190_149.out
  have hs181 : w175.cell? ⟨gb190, 5, none⟩ = some (.slice none 0 0) := (blk_cell BK190.out 5).trans rfl
  have hfs181 := blk_frozen BK190.out 5
  have hns181_0 := NB149_190.out
  have hms181_0 := NB190_149.out
  refine skip_ (w1 := ?_) (by rfl) rfl ?_ ?_
  rotate_left
  ·go_simp
   rfl
  refine hK.out _ _ ?_ ?_
  ·refine ⟨?_, ?_⟩
   ·refine (cell_far (p := ⟨gb190, 5, none⟩) (a := ⟨ad188.block, ad188.off + 4, none⟩) zv_gb190 _).trans ?_
    refine (cell_far (p := ⟨gb190, 4, none⟩) (a := ⟨ad188.block, ad188.off + 4, none⟩) zv_gb190 _).trans ?_
    refine (cell_far (p := ⟨gb190, 3, none⟩) (a := ⟨ad188.block, ad188.off + 4, none⟩) zv_gb190 _).trans ?_
    refine (cell_far (p := ⟨gb190, 2, none⟩) (a := ⟨ad188.block, ad188.off + 4, none⟩) zv_gb190 _).trans ?_
    refine (cell_far (p := ⟨gb190, 1, none⟩) (a := ⟨ad188.block, ad188.off + 4, none⟩) zv_gb190 _).trans ?_
    refine (cell_far (p := ⟨gb190, 0, none⟩) (a := ⟨ad188.block, ad188.off + 4, none⟩) zv_gb190 _).trans ?_
    exact hHeld.1
   ·refine (cell_far (p := ⟨gb190, 5, none⟩) (a := ⟨ad188.block, ad188.off + 5, none⟩) zv_gb190 _).trans ?_
    refine (cell_far (p := ⟨gb190, 4, none⟩) (a := ⟨ad188.block, ad188.off + 5, none⟩) zv_gb190 _).trans ?_
    refine (cell_far (p := ⟨gb190, 3, none⟩) (a := ⟨ad188.block, ad188.off + 5, none⟩) zv_gb190 _).trans ?_
    refine (cell_far (p := ⟨gb190, 2, none⟩) (a := ⟨ad188.block, ad188.off + 5, none⟩) zv_gb190 _).trans ?_
    refine (cell_far (p := ⟨gb190, 1, none⟩) (a := ⟨ad188.block, ad188.off + 5, none⟩) zv_gb190 _).trans ?_
    refine (cell_far (p := ⟨gb190, 0, none⟩) (a := ⟨ad188.block, ad188.off + 5, none⟩) zv_gb190 _).trans ?_
    exact hHeld.2
  refine fun hHeld => ?_
  clear hK K
  refine done_ (done_of HT_.out (by kernel_rfl)) ?_
  have hnb182 := NB190_149.out
  have hnc182 := NB149_190.out
  have hcz183_0 : w175.cell? ⟨gb190, 0, none⟩ = some (.int .i64 0) := (blk_cell BK190.out 0).trans rfl
  have hcz183_1 : w175.cell? ⟨gb190, 1, none⟩ = some (.int .i64 0) := (blk_cell BK190.out 1).trans rfl
  have hcz183_2 : w175.cell? ⟨gb190, 2, none⟩ = some (.int .i64 0) := (blk_cell BK190.out 2).trans rfl
  have hcz183_3 : w175.cell? ⟨gb190, 3, none⟩ = some (.slice none 0 0) := (blk_cell BK190.out 3).trans rfl
  have hcz183_4 : w175.cell? ⟨gb190, 4, none⟩ = some (.slice none 0 0) := (blk_cell BK190.out 4).trans rfl
  have hcz183_5 : w175.cell? ⟨gb190, 5, none⟩ = some (.slice none 0 0) := (blk_cell BK190.out 5).trans rfl
  have hfz183_0 := blk_frozen BK190.out 0
  have hfz183_1 := blk_frozen BK190.out 1
  have hfz183_2 := blk_frozen BK190.out 2
  have hfz183_3 := blk_frozen BK190.out 3
  have hfz183_4 := blk_frozen BK190.out 4
  have hfz183_5 := blk_frozen BK190.out 5
  try go_wp2_with (first | ((with_reducible refine gate_callee (f := 146) rfl ?_); refine goesL_ (some 44) rfl rfl Try.func146 (by kernel_rfl) rfl #[.int .i64 (wrap64 (8 * (wrap64 (rd l0 4)))), .int .i64 (wrap64 (8 * (wrap64 (rd l0 5))))] rfl (by (try simp only [List.map_toArray, List.map_cons, List.map_nil]); first | done | rfl | (simp only [List.length_drop, List.length_take]; rfl)) ?_; (with_reducible refine (impl_zsides.calls (wrap64 (8 * (wrap64 (rd l0 4)))) (wrap64 (8 * (wrap64 (rd l0 5)))) false _ A22.out).mono ?_); rintro e w' ⟨rfl, ⟨nd, rfl⟩⟩; refine ⟨_, rfl, ?_⟩) | ((with_reducible refine gate_dst (N := 47) rfl ?_); refine goesLC_ (some 47) rfl rfl Try.func144 (by kernel_rfl) rfl (#[.int .i64 5]) rfl rfl ?ha ?_; (case ha => (try simp only [List.map_toArray, List.map_cons, List.map_nil]); first | done | rfl | (simp only [List.length_drop, List.length_take]; rfl)); (with_reducible refine (impl_ReadParts_1.calls 5 t192 t193 t194 t195 t198 t201 _ A172.out).mono ?_); rintro e w184 ⟨v196, v199, v202, rfl, ho0, ho1, ho2, hb⟩; refine ⟨_, rfl, ?_⟩; have n0_ := Aside0.mk (Kd.V_mono (Kd.V_told (Kd.V_told (Kd.V_told (Kd.V_old (by (with_reducible repeat (first | apply Kd.V_alloc | apply Kd.V_drewN | apply Kd.V_drew)); exact (Kd.V_mono (Kd.V_far (p := ⟨gb190, 5, none⟩) (Kd.V_far (p := ⟨gb190, 4, none⟩) (Kd.V_far (p := ⟨gb190, 3, none⟩) (Kd.V_far (p := ⟨gb190, 2, none⟩) (Kd.V_far (p := ⟨gb190, 1, none⟩) (Kd.V_far (p := ⟨gb190, 0, none⟩) (Kd.V_mono HO0.out (fun k_ hk => (⟨hk, hk.2⟩ : _ ∧ k_ ≠ gb190))) (fun _ hk => hk.2) (.int .i64 0)) (fun _ hk => hk.2) (.int .i64 (wrap64 (8 * (wrap64 (rd l0 4)))))) (fun _ hk => hk.2) (.int .i64 (wrap64 (8 * (wrap64 (rd l0 5)))))) (fun _ hk => hk.2) (.slice none 0 0)) (fun _ hk => hk.2) (.slice none 0 0)) (fun _ hk => hk.2) (.slice none 0 0)) (fun _ h_ => h_.1))) hb) (Kd.R_base ho0)) (Kd.R_base ho1)) (Kd.S_base ho2)) (fun _ h_ => h_.1)); have n1_ := Aside0.mk (Kd.R_lower (Kd.R_newM (M := fun k_ => (w.heap.size ≤ k_)) ho0 (below_size (by repeat (first | (with_reducible first | exact HB.out | apply below_alloc | apply pw_below_drewN | apply below_drew1 | refine below_set ?_ GE149.out | refine below_set ?_ GE190.out) | exact HB.out))) (fun k_ h_ => h_)) (below_size (by repeat (first | (with_reducible first | exact HB.out | apply below_alloc | apply pw_below_drewN | apply below_drew1 | refine below_set ?_ GE149.out | refine below_set ?_ GE190.out) | exact HB.out)))); have n2_ := Aside0.mk (Kd.R_lower (Kd.R_newM (M := fun k_ => (w.heap.size ≤ k_)) ho1 (below_size (by repeat (first | (with_reducible first | exact HB.out | apply below_alloc | apply pw_below_drewN | apply below_drew1 | refine below_set ?_ GE149.out | refine below_set ?_ GE190.out) | exact HB.out))) (fun k_ h_ => h_)) (below_size (by repeat (first | (with_reducible first | exact HB.out | apply below_alloc | apply pw_below_drewN | apply below_drew1 | refine below_set ?_ GE149.out | refine below_set ?_ GE190.out) | exact HB.out)))); have n3_ := Aside0.mk (Kd.S_lower (Kd.S_newM (M := fun k_ => (w.heap.size ≤ k_)) ho2 (below_size (by repeat (first | (with_reducible first | exact HB.out | apply below_alloc | apply pw_below_drewN | apply below_drew1 | refine below_set ?_ GE149.out | refine below_set ?_ GE190.out) | exact HB.out))) (fun k_ h_ => h_)) (below_size (by repeat (first | (with_reducible first | exact HB.out | apply below_alloc | apply pw_below_drewN | apply below_drew1 | refine below_set ?_ GE149.out | refine below_set ?_ GE190.out) | exact HB.out)))); have n4_ := Aside0.mk (blk_below (g := gb149) (o := .cells #[.int .i64 0, .int .i64 0, .int .i64 0, .slice none 0 0, .slice none 0 0, .slice none 0 0] 94 (0, 0)) (by (with_reducible repeat (first | refine blk_drewN ?_ _ | refine blk_drew ?_ | refine blk_alloc ?_ _)); refine blk_far ?_ NB149_190.out _; (with_reducible repeat (first | refine blk_drewN ?_ _ | refine blk_drew ?_ | refine blk_alloc ?_ _)); refine blk_far ?_ NB149_190.out _; (with_reducible repeat (first | refine blk_drewN ?_ _ | refine blk_drew ?_ | refine blk_alloc ?_ _)); refine blk_far ?_ NB149_190.out _; (with_reducible repeat (first | refine blk_drewN ?_ _ | refine blk_drew ?_ | refine blk_alloc ?_ _)); refine blk_far ?_ NB149_190.out _; (with_reducible repeat (first | refine blk_drewN ?_ _ | refine blk_drew ?_ | refine blk_alloc ?_ _)); refine blk_far ?_ NB149_190.out _; (with_reducible repeat (first | refine blk_drewN ?_ _ | refine blk_drew ?_ | refine blk_alloc ?_ _)); refine blk_far ?_ NB149_190.out _; (with_reducible repeat (first | refine blk_drewN ?_ _ | refine blk_drew ?_ | refine blk_alloc ?_ _)); exact BK149.out) hb); have n5_ := Aside0.mk (blk_below (g := gb190) (o := .cells #[.int .i64 0, .int .i64 (wrap64 (8 * (wrap64 (rd l0 4)))), .int .i64 (wrap64 (8 * (wrap64 (rd l0 5)))), .slice none 0 0, .slice none 0 0, .slice none 0 0] 94 (0, 0)) (by (with_reducible repeat (first | refine blk_drewN ?_ _ | refine blk_drew ?_ | refine blk_alloc ?_ _)); exact set6_blk (by (with_reducible repeat (first | refine blk_drewN ?_ _ | refine blk_drew ?_ | refine blk_alloc ?_ _)); exact BK190.out)) hb); have n6_ := Aside0.mk (below_step (by repeat (first | (with_reducible first | exact HB.out | apply below_alloc | apply pw_below_drewN | apply below_drew1 | refine below_set ?_ GE149.out | refine below_set ?_ GE190.out) | exact HB.out)) hb); clear HO0 BK149 BK190 HB; have HO0 := n0_; have HO197 := n1_; have HO200 := n2_; have HO203 := n3_; have BK149 := n4_; have BK190 := n5_; have HB := n6_; clear n0_ n1_ n2_ n3_ n4_ n5_ n6_; (try clear hb); (try clear hb2); (try clear hk); (try clear hi); (try clear ho0); (try clear ho1); (try clear ho2); have hcz185_0 : w184.cell? ⟨gb149, 0, none⟩ = some (.int .i64 0) := (blk_cell BK149.out 0).trans rfl; have hcz185_1 : w184.cell? ⟨gb149, 1, none⟩ = some (.int .i64 0) := (blk_cell BK149.out 1).trans rfl; have hcz185_2 : w184.cell? ⟨gb149, 2, none⟩ = some (.int .i64 0) := (blk_cell BK149.out 2).trans rfl; have hcz185_3 : w184.cell? ⟨gb149, 3, none⟩ = some (.slice none 0 0) := (blk_cell BK149.out 3).trans rfl; have hcz185_4 : w184.cell? ⟨gb149, 4, none⟩ = some (.slice none 0 0) := (blk_cell BK149.out 4).trans rfl; have hcz185_5 : w184.cell? ⟨gb149, 5, none⟩ = some (.slice none 0 0) := (blk_cell BK149.out 5).trans rfl; have hfz185_0 := blk_frozen BK149.out 0; have hfz185_1 := blk_frozen BK149.out 1; have hfz185_2 := blk_frozen BK149.out 2; have hfz185_3 := blk_frozen BK149.out 3; have hfz185_4 := blk_frozen BK149.out 4; have hfz185_5 := blk_frozen BK149.out 5; obtain ⟨Ao186, co186, eo186⟩ := Kd.R_slice HO197.out; subst eo186; obtain ⟨Ao187, co187, eo187⟩ := Kd.R_slice HO200.out; subst eo187; obtain ⟨Ao188, co188, eo188⟩ := Kd.S_slice HO203.out; subst eo188))
  refine bodyPost_ret (results_cell_row rfl _ _ gb149 94 #[.int .i64 t192, .int .i64 t193, .int .i64 t194, .slice Ao186 t195.length co186, .slice Ao187 t198.length co187, .slice Ao188 t201.length co188] (0, 0) _ rfl (set6_blk BK149.out) Try.underlying94 rfl (by kernel_rfl)) rfl ?_
  exact ⟨_, _, _, by first | rfl | (simp [*, errW_none, errW_some] <;> rfl), by (with_reducible repeat (first | apply Kd.R_alloc | apply Kd.R_drewN | apply Kd.R_drew)); exact Kd.R_mono (set6_R (Kd.R_types HO197.out BK149.out (by decide)) (fun _ hk => hk.2)) (fun _ hk => hk.1.1), by (with_reducible repeat (first | apply Kd.R_alloc | apply Kd.R_drewN | apply Kd.R_drew)); exact Kd.R_mono (set6_R (Kd.R_types HO200.out BK149.out (by decide)) (fun _ hk => hk.2)) (fun _ hk => hk.1.1), by (with_reducible repeat (first | apply Kd.S_alloc | apply Kd.S_drewN | apply Kd.S_drew)); exact Kd.S_mono (set6_S (Kd.S_types HO203.out BK149.out (by decide)) (fun _ hk => hk.2)) (fun _ hk => hk.1.1), by repeat (first | (with_reducible first | exact HB.out | apply below_alloc | apply pw_below_drewN | apply below_drew1 | refine below_set ?_ GE149.out | refine below_set ?_ GE190.out) | exact HB.out)⟩
 subst c23
 replace H : (if 6 ≤ (l0.length : Int) then (impl_ReadParts.l0 k (l0.drop 6) 0 (wrap64 (8 * (wrap64 (rd l0 4)))) (wrap64 (8 * (wrap64 (rd l0 5)))) ([] : List Bool) ([] : List Int) ([] : List (List Int))) else (none)) = some (r1, r2, r3, r4, r5, r6) := by rw [if_pos rfl] at H; exact H
 by_cases c24 : 6 ≤ (l0.length : Int)
 rotate_left
 ·rw [if_neg c24] at H
  exact absurd H (by simp)
 rw [if_pos c24] at H
 have c24b0 := eq_true c24
 have c24b1 : decide (6 ≤ (l0.length : Int)) = true := decide_eq_true c24
 clear c24
 obtain ⟨y204, hy204⟩ : ∃ y_ : List Int, y_ = (l0.drop 6) := ⟨_, rfl⟩
 replace H : (impl_ReadParts.l0 k y204 0 (wrap64 (8 * (wrap64 (rd l0 4)))) (wrap64 (8 * (wrap64 (rd l0 5)))) ([] : List Bool) ([] : List Int) ([] : List (List Int))) = some (r1, r2, r3, r4, r5, r6) := by first | (rw [hy204]; with_reducible exact H) | (have H2_ := (Option.bind_some _ _).symm.trans H; rw [hy204]; with_reducible exact H2_) | (have H2_ := (Option.bind_some _ _).symm.trans H; with_reducible exact H2_) | with_reducible exact H | (rw [hy204]; exact H) | exact H
 have Ny204 := Aside0.mk hy204
 clear hy204
 have H' := Aside0.mk H
 clear H
 go_enter Try.func68, Try.ntmps68
 try go_wp2_with (first | ((with_reducible refine gate_dst (N := 2) rfl ?_); (try (refine gate_guard (by rfl) ?_; dsimp only)); refine box_event ?hg (N := 2) ?hd (cs := #[.int .i64 0, .int .i64 0, .int .i64 0, .slice none 0 0, .slice none 0 0, .slice none 0 0]) (t := 94) ?hr ?_; (case hd => rfl); (case hg => rfl); (case hr => first | (go_simp; done) | (go_simp; rfl)); intro gb149 hg w25 hbox hb; have n0_ := Aside0.mk (Kd.V_below (Kd.V_elderB (by (with_reducible repeat (first | apply Kd.V_alloc | apply Kd.V_drewN | apply Kd.V_drew)); exact HO0.out) gb149 (Nat.le_of_eq hg.symm)) hb); have n1_ := Aside0.mk (below_step (by repeat (first | (with_reducible first | exact HB.out | apply below_alloc | apply pw_below_drewN | apply below_drew1) | exact HB.out)) hb); have n2_ := Aside0.mk (hbox); have n3_ := Aside0.mk ((by rw [hg]; exact (below_size (by repeat (first | (with_reducible first | exact HB.out | apply below_alloc | apply pw_below_drewN | apply below_drew1) | exact HB.out))) : w.heap.size ≤ gb149)); have n4_ := n3_; clear HO0 HB; have HO0 := n0_; have HB := n1_; have BK149 := n2_; have GW149 := n3_; have GE149 := n4_; clear n0_ n1_ n2_ n3_ n4_; clear hb hbox hg) | ((with_reducible refine gate_callee (f := 145) rfl ?_); refine goesL_ (some 17) rfl rfl Try.func145 (by kernel_rfl) rfl #[.slice A0 l0.length c0, .string (⟨#[86, 73, 68, 49]⟩ : ByteArray)] rfl (by (try simp only [List.map_toArray, List.map_cons, List.map_nil]); first | done | rfl | (simp only [List.length_drop, List.length_take]; rfl)) ?_; (with_reducible refine (impl_zmagic.calls k _ _ l0 (⟨#[86, 73, 68, 49]⟩ : ByteArray) t162 _ ?side1 ?side2 A10.out).mono ?_); (case side1 => repeat (first | exact (Kd.V_reads' HO0.out).2.2 | (with_reducible refine Kd.C_alloc ?_ _) | (with_reducible refine Kd.C_drewN ?_ _) | (with_reducible refine Kd.C_drew ?_))); (case side2 => exact (Kd.V_reads' HO0.out).2.1); rintro e w' ⟨rfl, ⟨nd, rfl⟩⟩; refine ⟨_, rfl, ?_⟩; (try (rw [drewN_self w25]; generalize hq_ : World.drewN w25 _ = w25; have n0_ : Aside0 (Kd.V (Kd.int .u8) 5 w25 w.heap.size (fun k_ => (((P0_ k_ ∨ w.heap.size ≤ k_)) ∧ k_ ≠ gb149)) (.slice A0 l0.length c0) l0) := ⟨by rw [← hq_]; exact (by (with_reducible repeat (first | apply Kd.V_alloc | apply Kd.V_drewN | apply Kd.V_drew)); exact HO0.out)⟩; have n1_ : Aside0 (w25.heap[gb149]? = some (.cells #[.int .i64 0, .int .i64 0, .int .i64 0, .slice none 0 0, .slice none 0 0, .slice none 0 0] 94 (0, 0))) := ⟨by rw [← hq_]; exact (by (with_reducible repeat (first | refine blk_drewN ?_ _ | refine blk_drew ?_ | refine blk_alloc ?_ _)); exact BK149.out)⟩; have n2_ : Aside0 (Below w.heap.size w w25) := ⟨by rw [← hq_]; exact (by repeat (first | (with_reducible first | exact HB.out | apply below_alloc | apply pw_below_drewN | apply below_drew1 | refine below_set ?_ GE149.out) | exact HB.out))⟩; clear HO0 BK149 HB hq_; have HO0 := n0_; have BK149 := n1_; have HB := n2_; clear n0_ n1_ n2_))))
 have n0_ := Aside0.mk (Kd.V_drew HO0.out)
 have n1_ := Aside0.mk (blk_drew BK149.out)
 have n2_ := Aside0.mk (below_drew1 HB.out)
 clear HO0
 clear BK149
 clear HB
 have HO0 := n0_
 have BK149 := n1_
 have HB := n2_
 clear n0_ n1_ n2_
 have p188 : 0 ≤ (4 : Int) := (by omega)
 have q188 : 4 < (l0.length : Int) := of_decide_eq_true (by first | (with_reducible assumption) | assumption)
 obtain ⟨ad188, e188, hx188_0⟩ := Kd.at_int (Kd.V_reads' HO0.out).2.2 4 p188 q188
 cases e188
 (try simp only [show (4 : Int).toNat = 4 from rfl, Nat.reduceMul, Nat.reduceEqDiff, Go.Addr.add, ↓reduceIte] at hx188_0)
 have qi188 : (4 < l0.length) = True := eq_true (by omega)
 (try rw [show ((4 : Int)).toNat = 4 from rfl] at hx188_0)
 replace p188 := eq_true p188
 replace q188 := eq_true q188
 have p189 : 0 ≤ (5 : Int) := (by omega)
 have q189 : 5 < (l0.length : Int) := of_decide_eq_true (by first | (with_reducible assumption) | assumption)
 obtain ⟨ad189, e189, hx189_0⟩ := Kd.at_int (Kd.V_reads' HO0.out).2.2 5 p189 q189
 obtain rfl : ad188 = ad189 := (by injection e189)
 (try simp only [show (5 : Int).toNat = 5 from rfl, Nat.reduceMul, Nat.reduceEqDiff, Go.Addr.add, ↓reduceIte] at hx189_0)
 have qi189 : (5 < l0.length) = True := eq_true (by omega)
 (try rw [show ((5 : Int)).toNat = 5 from rfl] at hx189_0)
 replace p189 := eq_true p189
 replace q189 := eq_true q189
 refine start_ (n := 13) (S := fun w' => w'.cell? ⟨ad188.block, ad188.off + 4, none⟩ = some (.int .u8 (rd l0 4)) ∧ w'.cell? ⟨ad188.block, ad188.off + 5, none⟩ = some (.int .u8 (rd l0 5))) (ds := []) #[false, false, false, false, false, false, false, false, false, false, false, false, false] (by kernel_rfl) rfl rfl ⟨hx188_0, hx189_0⟩ (fun hHeld => ?_); refine with_tabW impl_ReadParts.tab8 impl_ReadParts.bits8 (fun HT_ HW_ => ?_)
 generalize w25.drew = w26 at HO0 BK149 HB hx188_0 hx189_0 hHeld ⊢
 refine pure_ (i := 0) (N := some 29) (v := ?_) (a' := ?_) #[true, false, false, false, false, false, false, false, false, false, false, false, false] rfl rfl (any_of HT_.out (by kernel_rfl)) (fun _ _ _ h => h) (Or.inl ⟨by rfl, ?_⟩) ?_ ?_
 rotate_left
 ·intro w'
  go_simp
  with_reducible rfl
 rotate_left
 ·simp only [Act.put, List.setIfInBounds_toArray, List.set_cons_zero, List.set_cons_succ, i64_w, i32_w]
  rfl
 refine pure_ (i := 1) (N := some 30) (v := ?_) (a' := ?_) #[true, true, false, false, false, false, false, false, false, false, false, false, false] rfl rfl (any_of HT_.out (by kernel_rfl)) (fun _ _ _ h => h) (Or.inl ⟨by rfl, ?_⟩) ?_ ?_
 rotate_left
 ·intro w'
  go_simp
  with_reducible rfl
 rotate_left
 ·simp only [Act.put, List.setIfInBounds_toArray, List.set_cons_zero, List.set_cons_succ, i64_w, i32_w]
  rfl
 refine pure_ (i := 5) (N := some 34) (v := ?_) (a' := ?_) #[true, true, false, false, false, true, false, false, false, false, false, false, false] rfl rfl (any_of HT_.out (by kernel_rfl)) (fun _ _ _ h => h) (Or.inl ⟨by rfl, ?_⟩) ?_ ?_
 rotate_left
 ·intro w'
  go_simp
  with_reducible rfl
 rotate_left
 ·simp only [Act.put, List.setIfInBounds_toArray, List.set_cons_zero, List.set_cons_succ, i64_w, i32_w]
  rfl
 refine pure_ (i := 6) (N := some 35) (v := ?_) (a' := ?_) #[true, true, false, false, false, true, true, false, false, false, false, false, false] rfl rfl (any_of HT_.out (by kernel_rfl)) (fun _ _ _ h => h) (Or.inl ⟨by rfl, ?_⟩) ?_ ?_
 rotate_left
 ·intro w'
  go_simp
  with_reducible rfl
 rotate_left
 ·simp only [Act.put, List.setIfInBounds_toArray, List.set_cons_zero, List.set_cons_succ, i64_w, i32_w]
  rfl
 refine take_ (i := 2) (N := some 31) (v := ?_) (a' := ?_) #[true, true, true, false, false, true, true, false, false, false, false, false, false] rfl rfl (take_ofW HT_.out HW_.out (by kernel_rfl)) (fun _ _ _ h => h) (Or.inl ⟨by rfl, ?_⟩) hHeld ?_ ?_
 rotate_left
 ·rintro w' ⟨s0, s1⟩
  go_simp
  with_reducible rfl
 rotate_left
 ·simp only [Act.put, List.setIfInBounds_toArray, List.set_cons_zero, List.set_cons_succ, i64_w, i32_w]
  rfl
 refine pure_ (i := 3) (N := some 32) (v := ?_) (a' := ?_) #[true, true, true, true, false, true, true, false, false, false, false, false, false] rfl rfl (any_of HT_.out (by kernel_rfl)) (fun _ _ _ h => h) (Or.inl ⟨by rfl, ?_⟩) ?_ ?_
 rotate_left
 ·intro w'
  go_simp
  with_reducible rfl
 rotate_left
 ·simp only [Act.put, List.setIfInBounds_toArray, List.set_cons_zero, List.set_cons_succ, i64_w, i32_w]
  rfl
 refine pure_ (i := 4) (N := some 33) (v := ?_) (a' := ?_) #[true, true, true, true, true, true, true, false, false, false, false, false, false] rfl rfl (any_of HT_.out (by kernel_rfl)) (fun _ _ _ h => h) (Or.inl ⟨by rfl, ?_⟩) ?_ ?_
 rotate_left
 ·intro w'
  go_simp
  with_reducible rfl
 rotate_left
 ·simp only [Act.put, List.setIfInBounds_toArray, List.set_cons_zero, List.set_cons_succ, i64_w, i32_w]
  rfl
 refine take_ (i := 7) (N := some 36) (v := ?_) (a' := ?_) #[true, true, true, true, true, true, true, true, false, false, false, false, false] rfl rfl (take_ofW HT_.out HW_.out (by kernel_rfl)) (fun _ _ _ h => h) (Or.inl ⟨by rfl, ?_⟩) hHeld ?_ ?_
 rotate_left
 ·rintro w' ⟨s0, s1⟩
  go_simp
  with_reducible rfl
 rotate_left
 ·simp only [Act.put, List.setIfInBounds_toArray, List.set_cons_zero, List.set_cons_succ, i64_w, i32_w]
  rfl
 refine pure_ (i := 8) (N := some 37) (v := ?_) (a' := ?_) #[true, true, true, true, true, true, true, true, true, false, false, false, false] rfl rfl (any_of HT_.out (by kernel_rfl)) (fun _ _ _ h => h) (Or.inl ⟨by rfl, ?_⟩) ?_ ?_
 rotate_left
 ·intro w'
  go_simp
  with_reducible rfl
 rotate_left
 ·simp only [Act.put, List.setIfInBounds_toArray, List.set_cons_zero, List.set_cons_succ, i64_w, i32_w]
  rfl
 refine pure_ (i := 9) (N := some 38) (v := ?_) (a' := ?_) #[true, true, true, true, true, true, true, true, true, true, false, false, false] rfl rfl (any_of HT_.out (by kernel_rfl)) (fun _ _ _ h => h) (Or.inl ⟨by rfl, ?_⟩) ?_ ?_
 rotate_left
 ·intro w'
  go_simp
  with_reducible rfl
 rotate_left
 ·simp only [Act.put, List.setIfInBounds_toArray, List.set_cons_zero, List.set_cons_succ, i64_w, i32_w]
  rfl
 refine pure_ (i := 10) (N := some 39) (v := ?_) (a' := ?_) #[true, true, true, true, true, true, true, true, true, true, true, false, false] rfl rfl (any_of HT_.out (by kernel_rfl)) (fun _ _ _ h => h) (Or.inl ⟨by rfl, ?_⟩) ?_ ?_
 rotate_left
 ·intro w'
  go_simp
  with_reducible rfl
 rotate_left
 ·simp only [Act.put, List.setIfInBounds_toArray, List.set_cons_zero, List.set_cons_succ, i64_w, i32_w]
  rfl
 refine one_ (i := 11) (N := some 4) #[true, true, true, true, true, true, true, true, true, true, true, true, false] rfl rfl (one_of HT_.out (by kernel_rfl)) (by decide) (fun K hK => ?_)
 refine box_step ?hg (N := 4) ?hd (cs := #[.int .i64 0, .int .i64 0, .int .i64 0, .slice none 0 0, .slice none 0 0, .slice none 0 0]) (t := 94) ?hr ?_; (case hd => rfl); (case hg => rfl); (case hr => first | (go_simp; done) | (go_simp; rfl))
 intro gb190 hg w27 hbox hb; have zv_gb190 : ad188.block ≠ gb190 := (by have z_ := World.block_lt_of_cell? _ _ hx188_0; rw [hg]; exact Nat.ne_of_lt z_)
 have HS0_ := (hb.cell (World.block_lt_of_cell? _ _ (hHeld.1))).trans (hHeld.1)
 have HS1_ := (hb.cell (World.block_lt_of_cell? _ _ (hHeld.2))).trans (hHeld.2)
 have n0_ := Aside0.mk (Kd.V_below (Kd.V_elderB (by (with_reducible repeat (first | apply Kd.V_alloc | apply Kd.V_drewN | apply Kd.V_drew)); exact HO0.out) gb190 (Nat.le_of_eq hg.symm)) hb)
 have n1_ := Aside0.mk (blk_below (g := gb149) (o := .cells #[.int .i64 0, .int .i64 0, .int .i64 0, .slice none 0 0, .slice none 0 0, .slice none 0 0] 94 (0, 0)) (by (with_reducible repeat (first | refine blk_drewN ?_ _ | refine blk_drew ?_ | refine blk_alloc ?_ _)); exact BK149.out) hb)
 have n2_ := Aside0.mk (below_step (by repeat (first | (with_reducible first | exact HB.out | apply below_alloc | apply pw_below_drewN | apply below_drew1 | refine below_set ?_ GE149.out) | exact HB.out)) hb)
 have n3_ := Aside0.mk (hbox)
 have n4_ := Aside0.mk ((by rw [hg]; exact (below_size (by repeat (first | (with_reducible first | exact HB.out | apply below_alloc | apply pw_below_drewN | apply below_drew1 | refine below_set ?_ GE149.out) | exact HB.out))) : w.heap.size ≤ gb190))
 have n5_ := Aside0.mk ((by rw [hg]; exact (below_size (by repeat (first | (with_reducible first | exact HB.out | apply below_alloc | apply pw_below_drewN | apply below_drew1 | refine below_set ?_ GE149.out) | exact HB.out))) : w.heap.size ≤ gb190))
 have n6_ := Aside0.mk ((by rw [hg]; exact Nat.ne_of_lt (blk_lt (g := gb149) (o := .cells #[.int .i64 0, .int .i64 0, .int .i64 0, .slice none 0 0, .slice none 0 0, .slice none 0 0] 94 (0, 0)) (by (with_reducible repeat (first | refine blk_drewN ?_ _ | refine blk_drew ?_ | refine blk_alloc ?_ _)); exact BK149.out)) : gb149 ≠ gb190))
 have n7_ := Aside0.mk ((by rw [hg]; exact Nat.ne_of_gt (blk_lt (g := gb149) (o := .cells #[.int .i64 0, .int .i64 0, .int .i64 0, .slice none 0 0, .slice none 0 0, .slice none 0 0] 94 (0, 0)) (by (with_reducible repeat (first | refine blk_drewN ?_ _ | refine blk_drew ?_ | refine blk_alloc ?_ _)); exact BK149.out)) : gb190 ≠ gb149))
 clear HO0
 clear BK149
 clear HB
 have HO0 := n0_
 have BK149 := n1_
 have HB := n2_
 have BK190 := n3_
 have GW190 := n4_
 have GE190 := n5_
 have NB149_190 := n6_
 have NB190_149 := n7_
 clear n0_ n1_ n2_ n3_ n4_ n5_ n6_ n7_
 clear hb hbox hg
 refine hK.out _ _ ⟨HS0_, HS1_⟩ (fun hHeld => ?_)
 clear hK K
 refine norm_ (a' := ?_) ?_ ?_
 rotate_left
 ·show Act.put _ (some 4) _ = _
  simp only [Act.put, List.setIfInBounds_toArray, List.set_cons_zero, List.set_cons_succ, i64_w, i32_w]
  rfl
 refine one_ (i := 12) (N := none) #[true, true, true, true, true, true, true, true, true, true, true, true, true] rfl rfl (one_of HT_.out (by kernel_rfl)) (by decide) (fun K hK => ?_)
 have hs28 : w27.cell? ⟨gb190, 0, none⟩ = some (.int .i64 0) := (blk_cell BK190.out 0).trans rfl
 have hfs28 := blk_frozen BK190.out 0
 have hns28_0 := NB149_190.out
 have hms28_0 := NB190_149.out
 have hs29 : w27.cell? ⟨gb190, 1, none⟩ = some (.int .i64 0) := (blk_cell BK190.out 1).trans rfl
 have hfs29 := blk_frozen BK190.out 1
 have hns29_0 := NB149_190.out
 have hms29_0 := NB190_149.out
 have hs30 : w27.cell? ⟨gb190, 2, none⟩ = some (.int .i64 0) := (blk_cell BK190.out 2).trans rfl
 have hfs30 := blk_frozen BK190.out 2
 have hns30_0 := NB149_190.out
 have hms30_0 := NB190_149.out
 have hs31 : w27.cell? ⟨gb190, 3, none⟩ = some (.slice none 0 0) := (blk_cell BK190.out 3).trans rfl
 have hfs31 := blk_frozen BK190.out 3
 have hns31_0 := NB149_190.out
 have hms31_0 := NB190_149.out
 have hs32 : w27.cell? ⟨gb190, 4, none⟩ = some (.slice none 0 0) := (blk_cell BK190.out 4).trans rfl
 have hfs32 := blk_frozen BK190.out 4
 have hns32_0 := NB149_190.out
 have hms32_0 := NB190_149.out
 have hs33 : w27.cell? ⟨gb190, 5, none⟩ = some (.slice none 0 0) := (blk_cell BK190.out 5).trans rfl
 have hfs33 := blk_frozen BK190.out 5
 have hns33_0 := NB149_190.out
 have hms33_0 := NB190_149.out
 refine skip_ (w1 := ?_) (by rfl) rfl ?_ ?_
 rotate_left
 ·go_simp
  rfl
 refine hK.out _ _ ?_ ?_
 ·refine ⟨?_, ?_⟩
  ·refine (cell_far (p := ⟨gb190, 5, none⟩) (a := ⟨ad188.block, ad188.off + 4, none⟩) zv_gb190 _).trans ?_
   refine (cell_far (p := ⟨gb190, 4, none⟩) (a := ⟨ad188.block, ad188.off + 4, none⟩) zv_gb190 _).trans ?_
   refine (cell_far (p := ⟨gb190, 3, none⟩) (a := ⟨ad188.block, ad188.off + 4, none⟩) zv_gb190 _).trans ?_
   refine (cell_far (p := ⟨gb190, 2, none⟩) (a := ⟨ad188.block, ad188.off + 4, none⟩) zv_gb190 _).trans ?_
   refine (cell_far (p := ⟨gb190, 1, none⟩) (a := ⟨ad188.block, ad188.off + 4, none⟩) zv_gb190 _).trans ?_
   refine (cell_far (p := ⟨gb190, 0, none⟩) (a := ⟨ad188.block, ad188.off + 4, none⟩) zv_gb190 _).trans ?_
   exact hHeld.1
  ·refine (cell_far (p := ⟨gb190, 5, none⟩) (a := ⟨ad188.block, ad188.off + 5, none⟩) zv_gb190 _).trans ?_
   refine (cell_far (p := ⟨gb190, 4, none⟩) (a := ⟨ad188.block, ad188.off + 5, none⟩) zv_gb190 _).trans ?_
   refine (cell_far (p := ⟨gb190, 3, none⟩) (a := ⟨ad188.block, ad188.off + 5, none⟩) zv_gb190 _).trans ?_
   refine (cell_far (p := ⟨gb190, 2, none⟩) (a := ⟨ad188.block, ad188.off + 5, none⟩) zv_gb190 _).trans ?_
   refine (cell_far (p := ⟨gb190, 1, none⟩) (a := ⟨ad188.block, ad188.off + 5, none⟩) zv_gb190 _).trans ?_
   refine (cell_far (p := ⟨gb190, 0, none⟩) (a := ⟨ad188.block, ad188.off + 5, none⟩) zv_gb190 _).trans ?_
   exact hHeld.2
 refine fun hHeld => ?_
 clear hK K
 refine done_ (done_of HT_.out (by kernel_rfl)) ?_
 have n0_ : Aside0 (Kd.V (Kd.int .u8) 5 ((((((w27.setCell ⟨gb190, 0, none⟩ (.int .i64 0)).setCell ⟨gb190, 1, none⟩ (.int .i64 (wrap64 (8 * (wrap64 (rd l0 4)))))).setCell ⟨gb190, 2, none⟩ (.int .i64 (wrap64 (8 * (wrap64 (rd l0 5)))))).setCell ⟨gb190, 3, none⟩ (.slice none 0 0)).setCell ⟨gb190, 4, none⟩ (.slice none 0 0)).setCell ⟨gb190, 5, none⟩ (.slice none 0 0)) w.heap.size (fun k_ => (P0_ k_ ∨ w.heap.size ≤ k_) ∧ k_ ≠ gb149 ∧ k_ ≠ gb190) (.slice (some ad188) l0.length c0) l0) := ⟨by (with_reducible repeat (first | apply Kd.V_alloc | apply Kd.V_drewN | apply Kd.V_drew)); exact Kd.V_mono (Kd.V_far (p := ⟨gb190, 5, none⟩) (Kd.V_far (p := ⟨gb190, 4, none⟩) (Kd.V_far (p := ⟨gb190, 3, none⟩) (Kd.V_far (p := ⟨gb190, 2, none⟩) (Kd.V_far (p := ⟨gb190, 1, none⟩) (Kd.V_far (p := ⟨gb190, 0, none⟩) (Kd.V_mono HO0.out (fun k_ hk => (⟨hk, hk.2⟩ : _ ∧ k_ ≠ gb190))) (fun _ hk => hk.2) (.int .i64 0)) (fun _ hk => hk.2) (.int .i64 (wrap64 (8 * (wrap64 (rd l0 4)))))) (fun _ hk => hk.2) (.int .i64 (wrap64 (8 * (wrap64 (rd l0 5)))))) (fun _ hk => hk.2) (.slice none 0 0)) (fun _ hk => hk.2) (.slice none 0 0)) (fun _ hk => hk.2) (.slice none 0 0)) (fun _ hk => ⟨hk.1.1.1, ⟨hk.1.1.2, hk.1.2⟩⟩)⟩
 have n1_ : Aside0 (((((((w27.setCell ⟨gb190, 0, none⟩ (.int .i64 0)).setCell ⟨gb190, 1, none⟩ (.int .i64 (wrap64 (8 * (wrap64 (rd l0 4)))))).setCell ⟨gb190, 2, none⟩ (.int .i64 (wrap64 (8 * (wrap64 (rd l0 5)))))).setCell ⟨gb190, 3, none⟩ (.slice none 0 0)).setCell ⟨gb190, 4, none⟩ (.slice none 0 0)).setCell ⟨gb190, 5, none⟩ (.slice none 0 0)).heap[gb149]? = some (.cells #[.int .i64 0, .int .i64 0, .int .i64 0, .slice none 0 0, .slice none 0 0, .slice none 0 0] 94 (0, 0))) := ⟨by (with_reducible repeat (first | refine blk_drewN ?_ _ | refine blk_drew ?_ | refine blk_alloc ?_ _)); refine blk_far ?_ NB149_190.out _; (with_reducible repeat (first | refine blk_drewN ?_ _ | refine blk_drew ?_ | refine blk_alloc ?_ _)); refine blk_far ?_ NB149_190.out _; (with_reducible repeat (first | refine blk_drewN ?_ _ | refine blk_drew ?_ | refine blk_alloc ?_ _)); refine blk_far ?_ NB149_190.out _; (with_reducible repeat (first | refine blk_drewN ?_ _ | refine blk_drew ?_ | refine blk_alloc ?_ _)); refine blk_far ?_ NB149_190.out _; (with_reducible repeat (first | refine blk_drewN ?_ _ | refine blk_drew ?_ | refine blk_alloc ?_ _)); refine blk_far ?_ NB149_190.out _; (with_reducible repeat (first | refine blk_drewN ?_ _ | refine blk_drew ?_ | refine blk_alloc ?_ _)); refine blk_far ?_ NB149_190.out _; (with_reducible repeat (first | refine blk_drewN ?_ _ | refine blk_drew ?_ | refine blk_alloc ?_ _)); exact BK149.out⟩
 have n2_ : Aside0 (((((((w27.setCell ⟨gb190, 0, none⟩ (.int .i64 0)).setCell ⟨gb190, 1, none⟩ (.int .i64 (wrap64 (8 * (wrap64 (rd l0 4)))))).setCell ⟨gb190, 2, none⟩ (.int .i64 (wrap64 (8 * (wrap64 (rd l0 5)))))).setCell ⟨gb190, 3, none⟩ (.slice none 0 0)).setCell ⟨gb190, 4, none⟩ (.slice none 0 0)).setCell ⟨gb190, 5, none⟩ (.slice none 0 0)).heap[gb190]? = some (.cells #[.int .i64 0, .int .i64 (wrap64 (8 * (wrap64 (rd l0 4)))), .int .i64 (wrap64 (8 * (wrap64 (rd l0 5)))), .slice none 0 0, .slice none 0 0, .slice none 0 0] 94 (0, 0))) := ⟨by (with_reducible repeat (first | refine blk_drewN ?_ _ | refine blk_drew ?_ | refine blk_alloc ?_ _)); refine blk_put (cs := #[.int .i64 0, .int .i64 (wrap64 (8 * (wrap64 (rd l0 4)))), .int .i64 (wrap64 (8 * (wrap64 (rd l0 5)))), .slice none 0 0, .slice none 0 0, .slice none 0 0]) ?_ 5 _ rfl; (with_reducible repeat (first | refine blk_drewN ?_ _ | refine blk_drew ?_ | refine blk_alloc ?_ _)); refine blk_put (cs := #[.int .i64 0, .int .i64 (wrap64 (8 * (wrap64 (rd l0 4)))), .int .i64 (wrap64 (8 * (wrap64 (rd l0 5)))), .slice none 0 0, .slice none 0 0, .slice none 0 0]) ?_ 4 _ rfl; (with_reducible repeat (first | refine blk_drewN ?_ _ | refine blk_drew ?_ | refine blk_alloc ?_ _)); refine blk_put (cs := #[.int .i64 0, .int .i64 (wrap64 (8 * (wrap64 (rd l0 4)))), .int .i64 (wrap64 (8 * (wrap64 (rd l0 5)))), .slice none 0 0, .slice none 0 0, .slice none 0 0]) ?_ 3 _ rfl; (with_reducible repeat (first | refine blk_drewN ?_ _ | refine blk_drew ?_ | refine blk_alloc ?_ _)); refine blk_put (cs := #[.int .i64 0, .int .i64 (wrap64 (8 * (wrap64 (rd l0 4)))), .int .i64 0, .slice none 0 0, .slice none 0 0, .slice none 0 0]) ?_ 2 _ rfl; (with_reducible repeat (first | refine blk_drewN ?_ _ | refine blk_drew ?_ | refine blk_alloc ?_ _)); refine blk_put (cs := #[.int .i64 0, .int .i64 0, .int .i64 0, .slice none 0 0, .slice none 0 0, .slice none 0 0]) ?_ 1 _ rfl; (with_reducible repeat (first | refine blk_drewN ?_ _ | refine blk_drew ?_ | refine blk_alloc ?_ _)); refine blk_put (cs := #[.int .i64 0, .int .i64 0, .int .i64 0, .slice none 0 0, .slice none 0 0, .slice none 0 0]) ?_ 0 _ rfl; (with_reducible repeat (first | refine blk_drewN ?_ _ | refine blk_drew ?_ | refine blk_alloc ?_ _)); exact BK190.out⟩
 have n3_ : Aside0 (Below w.heap.size w ((((((w27.setCell ⟨gb190, 0, none⟩ (.int .i64 0)).setCell ⟨gb190, 1, none⟩ (.int .i64 (wrap64 (8 * (wrap64 (rd l0 4)))))).setCell ⟨gb190, 2, none⟩ (.int .i64 (wrap64 (8 * (wrap64 (rd l0 5)))))).setCell ⟨gb190, 3, none⟩ (.slice none 0 0)).setCell ⟨gb190, 4, none⟩ (.slice none 0 0)).setCell ⟨gb190, 5, none⟩ (.slice none 0 0))) := ⟨by repeat (first | (with_reducible first | exact HB.out | apply below_alloc | apply pw_below_drewN | apply below_drew1 | refine below_set ?_ GE149.out | refine below_set ?_ GE190.out) | exact HB.out)⟩
 (try clear HO0)
 (try clear BK149)
 (try clear BK190)
 (try clear HB)
 generalize ((((((w27.setCell ⟨gb190, 0, none⟩ (.int .i64 0)).setCell ⟨gb190, 1, none⟩ (.int .i64 (wrap64 (8 * (wrap64 (rd l0 4)))))).setCell ⟨gb190, 2, none⟩ (.int .i64 (wrap64 (8 * (wrap64 (rd l0 5)))))).setCell ⟨gb190, 3, none⟩ (.slice none 0 0)).setCell ⟨gb190, 4, none⟩ (.slice none 0 0)).setCell ⟨gb190, 5, none⟩ (.slice none 0 0)) = w34 at n0_ n1_ n2_ n3_ ⊢
 have HO0 := n0_
 have BK149 := n1_
 have BK190 := n2_
 have HB := n3_
 clear n0_ n1_ n2_ n3_
 have hnb35 := NB190_149.out
 have hnc35 := NB149_190.out
 have hcz36_0 : w34.cell? ⟨gb190, 0, none⟩ = some (.int .i64 0) := (blk_cell BK190.out 0).trans rfl
 have hcz36_1 : w34.cell? ⟨gb190, 1, none⟩ = some (.int .i64 (wrap64 (8 * (wrap64 (rd l0 4))))) := (blk_cell BK190.out 1).trans rfl
 have hcz36_2 : w34.cell? ⟨gb190, 2, none⟩ = some (.int .i64 (wrap64 (8 * (wrap64 (rd l0 5))))) := (blk_cell BK190.out 2).trans rfl
 have hcz36_3 : w34.cell? ⟨gb190, 3, none⟩ = some (.slice none 0 0) := (blk_cell BK190.out 3).trans rfl
 have hcz36_4 : w34.cell? ⟨gb190, 4, none⟩ = some (.slice none 0 0) := (blk_cell BK190.out 4).trans rfl
 have hcz36_5 : w34.cell? ⟨gb190, 5, none⟩ = some (.slice none 0 0) := (blk_cell BK190.out 5).trans rfl
 have hfz36_0 := blk_frozen BK190.out 0
 have hfz36_1 := blk_frozen BK190.out 1
 have hfz36_2 := blk_frozen BK190.out 2
 have hfz36_3 := blk_frozen BK190.out 3
 have hfz36_4 := blk_frozen BK190.out 4
 have hfz36_5 := blk_frozen BK190.out 5
 try go_wp2_with (first | ((with_reducible refine gate_callee (f := 146) rfl ?_); refine goesL_ (some 44) rfl rfl Try.func146 (by kernel_rfl) rfl #[.int .i64 (wrap64 (8 * (wrap64 (rd l0 4)))), .int .i64 (wrap64 (8 * (wrap64 (rd l0 5))))] rfl (by (try simp only [List.map_toArray, List.map_cons, List.map_nil]); first | done | rfl | (simp only [List.length_drop, List.length_take]; rfl)) ?_; (with_reducible refine (impl_zsides.calls (wrap64 (8 * (wrap64 (rd l0 4)))) (wrap64 (8 * (wrap64 (rd l0 5)))) true _ A22.out).mono ?_); rintro e w' ⟨rfl, ⟨nd, rfl⟩⟩; refine ⟨_, rfl, ?_⟩; have q37 : (6 : Int) ≤ ((l0.length : Int) : Int) := of_decide_eq_true (by first | (with_reducible assumption) | assumption); obtain ⟨i037, hi037, _, hsz37, _⟩ := info_parts info5; have hroom37 : l0.length ≤ c0 := (Kd.V_reads' HO0.out).2.1; have hC37 : Kd.F (Kd.int .u8) _ _ (some ad188) l0.length l0 := (Kd.V_at (base := w.heap.size) HO0.out).2.2; have hcut37 := cut_from (P := Try.prog) 51 5 .i64 Try.underlying51 hi037 1 hsz37 (some ad188) l0.length c0 6 (by omega) q37; have hr37 := Kd.F_cut (m := (6 : Int).toNat) (c := c0) hC37 (by omega) hroom37; obtain ⟨A37, hA37⟩ : ∃ A1, A1 = (if c0 = (6 : Int).toNat then (some ad188) else ((some ad188) : Option Addr).map (·.add ((6 : Int).toNat * 1))) := ⟨_, rfl⟩; obtain ⟨c37, hc37⟩ : ∃ c1, c1 = c0 - (6 : Int).toNat := ⟨_, rfl⟩; have hy37 : y204.length = l0.length - (6 : Int).toNat := (by rw [Ny204.out, List.length_drop] <;> omega); rw [show (l0).drop (6 : Int).toNat = y204 from Ny204.out.symm] at hr37; replace hr37 : Kd.F (Kd.int .u8) _ _ A37 y204.length y204 := (by rw [hA37]; exact hr37); rw [← hy37, ← hA37, ← hc37] at hcut37; have HO208 := Aside0.mk (show Kd.V (Kd.int .u8) 5 _ w.heap.size _ (.slice A37 y204.length c37) y204 from Kd.V_mk (by rw [hy37, hc37]; exact Nat.sub_le_sub_right hroom37 _) hr37); have HC208 := Aside0.mk (show y204.length ≤ c37 from by rw [hy37, hc37]; exact Nat.sub_le_sub_right hroom37 _); clear hr37 hC37 hroom37 hi037 hsz37 hc37; have KY37 := Aside0.mk hy37; have KA37 := Aside0.mk hA37; clear hy37 hA37; replace q37 := eq_true q37))
 go_loopg [5] k (fun kq v5 w' => ∃ (x5_1 : List Int) (x150000_1 : Int) (x150001_1 : Int) (x150002_1 : Int) (x191003_1 : List Bool) (x191004_1 : List Int) (x191005_1 : List (List Int)) (u191003 : Value) (u191004 : Value) (u191005 : Value), Aside0 (impl_ReadParts.l0 kq x5_1 0 (wrap64 (8 * (wrap64 (rd l0 4)))) (wrap64 (8 * (wrap64 (rd l0 5)))) x191003_1 x191004_1 x191005_1 = some (r1, r2, r3, r4, r5, r6)) ∧ Aside0 (kq ≤ k) ∧ Aside0 (Kd.V (Kd.int .u8) 5 w' w.heap.size (fun k_ => (P0_ k_ ∨ w.heap.size ≤ k_) ∧ some k_ ≠ (u191003 : Value).ownBlock ∧ some k_ ≠ (u191004 : Value).ownBlock ∧ some k_ ≠ (u191005 : Value).ownBlock ∧ k_ ≠ gb149 ∧ k_ ≠ gb190) v5 x5_1) ∧ Aside0 (Kd.R Kd.bool 4 w' w.heap.size (fun k_ => (w.heap.size ≤ k_)) u191003 x191003_1) ∧ Aside0 (Kd.R (Kd.int .i64) 3 w' w.heap.size (fun k_ => (w.heap.size ≤ k_)) u191004 x191004_1) ∧ Aside0 (Kd.S (Kd.slice 5 (Kd.int .u8)) 51 w' w.heap.size (fun k_ => (w.heap.size ≤ k_)) u191005 x191005_1) ∧ Aside0 (w'.heap[gb149]? = some (.cells #[.int .i64 x150000_1, .int .i64 x150001_1, .int .i64 x150002_1, (.slice none 0 0), (.slice none 0 0), (.slice none 0 0)] 94 (0, 0))) ∧ Aside0 (w'.heap[gb190]? = some (.cells #[.int .i64 0, .int .i64 (wrap64 (8 * (wrap64 (rd l0 4)))), .int .i64 (wrap64 (8 * (wrap64 (rd l0 5)))), u191003, u191004, u191005] 94 (0, 0))) ∧ Aside0 (Below w.heap.size w w'))
 case atStart => exact ⟨(y204), (0), (0), (0), (([] : List Bool)), (([] : List Int)), (([] : List (List Int))), (.slice none 0 0), (.slice none 0 0), (.slice none 0 0), H', ⟨Nat.le_refl _⟩, ⟨by (with_reducible repeat (first | apply Kd.V_alloc | apply Kd.V_drewN | apply Kd.V_drew)); exact Kd.V_mono HO208.out (fun _ hk => ⟨hk.1, ⟨(by simp [Value.ownBlock]), ⟨(by simp [Value.ownBlock]), ⟨(by simp [Value.ownBlock]), ⟨hk.2.1, hk.2.2⟩⟩⟩⟩⟩)⟩, ⟨by first | exact Kd.R_nil _ _ _ _ _ | exact Kd.N_nil _ _ _ _ _ | exact Kd.V_nil _ _ _ _ _ | exact Kd.Q_nil _ _ _ _ _ | exact Kd.S_nil _ _ _ _ _⟩, ⟨by first | exact Kd.R_nil _ _ _ _ _ | exact Kd.N_nil _ _ _ _ _ | exact Kd.V_nil _ _ _ _ _ | exact Kd.Q_nil _ _ _ _ _ | exact Kd.S_nil _ _ _ _ _⟩, ⟨by first | exact Kd.S_nil _ _ _ _ _ | exact Kd.N_nil _ _ _ _ _ | exact Kd.V_nil _ _ _ _ _ | exact Kd.Q_nil _ _ _ _ _ | exact Kd.R_nil _ _ _ _ _⟩, ⟨by (with_reducible repeat (first | refine blk_drewN ?_ _ | refine blk_drew ?_ | refine blk_alloc ?_ _)); exact BK149.out⟩, ⟨by (with_reducible repeat (first | refine blk_drewN ?_ _ | refine blk_drew ?_ | refine blk_alloc ?_ _)); exact BK190.out⟩, ⟨by repeat (first | (with_reducible first | exact HB.out | apply below_alloc | apply pw_below_drewN | apply below_drew1 | refine below_set ?_ GE149.out | refine below_set ?_ GE190.out) | exact HB.out)⟩⟩
 case round =>
  clear H'
  try clear c1
  try clear p1
  try clear q1
  try clear hx1
  try clear qi1
  try clear c2
  try clear c2b0
  try clear c2b1
  try clear c2b2
  try clear p2
  try clear c3
  try clear q3
  try clear c6
  try clear p6
  try clear c11
  try clear c11b0
  try clear c11b1
  try clear c12
  try clear c12b0
  try clear c12b1
  try clear c12b2
  try clear c14
  try clear p18
  try clear q18
  try clear hx18
  try clear qi18
  try clear c20
  try clear c20b0
  try clear c20b1
  try clear c20b2
  try clear c21
  try clear c21b0
  try clear c21b1
  try clear c21b2
  try clear c23
  try clear c24
  try clear c24b0
  try clear c24b1
  try clear c35
  try clear c37
  try clear q37
  try clear hcz16_0
  try clear hcz16_1
  try clear hcz16_2
  try clear hcz16_3
  try clear hcz16_4
  try clear hcz16_5
  try clear hcz36_0
  try clear hcz36_1
  try clear hcz36_2
  try clear hcz36_3
  try clear hcz36_4
  try clear hcz36_5
  try clear hcz6_0
  try clear hcz6_1
  try clear hcz6_2
  try clear hcz6_3
  try clear hcz6_4
  try clear hcz6_5
  try clear hfz16_0
  try clear hfz16_1
  try clear hfz16_2
  try clear hfz16_3
  try clear hfz16_4
  try clear hfz16_5
  try clear hfz36_0
  try clear hfz36_1
  try clear hfz36_2
  try clear hfz36_3
  try clear hfz36_4
  try clear hfz36_5
  try clear hfz6_0
  try clear hfz6_1
  try clear hfz6_2
  try clear hfz6_3
  try clear hfz6_4
  try clear hfz6_5
  try clear hx188_0
  try clear hx189_0
  try clear p188
  try clear p189
  try clear q188
  try clear q189
  try clear q37
  obtain ⟨x5_1, x150000_1, x150001_1, x150002_1, x191003_1, x191004_1, x191005_1, u191003, u191004, u191005, HA, HK1, HO_5, HO_191003, HO_191004, HO_191005, BK149, BK190, HB⟩ := hrel
  cases gk with
  | zero => exact absurd HA.out (by simp [impl_ReadParts.l0])
  | succ k1 =>
   have H := HA.out
   clear HA
   simp only [impl_ReadParts.l0] at H
   by_cases c38 : (x5_1.length : Int) > 0
   rotate_left
   ·rw [if_neg c38] at H
    have c38b0 : decide (0 < (x5_1.length : Int)) = false := decide_eq_false c38
    have c38b1 : decide (0 < x5_1.length) = false := decide_eq_false (by omega)
    have c38b2 : ¬ (0 < x5_1.length) := by omega
    clear c38
    by_cases c154 : (x191005_1.length : Int) = 0
    rotate_left
    ·rw [if_neg c154] at H
     have c154b0 : ((x191005_1.length : Int) == 0) = false := beq_eq_false_iff_ne.mpr c154
     have c154b1 : ((x191005_1.length : Int) != 0) = true := bne_iff_ne.mpr c154
     have c154b2 : ¬ (x191005_1 = []) := fun h_ => c154 (by rw [h_]; rfl)
     simp only [Option.some.injEq, Prod.mk.injEq] at H
     obtain ⟨rfl, rfl, rfl, rfl, rfl, rfl⟩ := H
     obtain ⟨Ao165, co165, eo165⟩ := Kd.V_slice HO_5.out
     subst eo165
     have hnb166 := NB190_149.out
     have hnc166 := NB149_190.out
     have hcz167_0 : wr.cell? ⟨gb190, 0, none⟩ = some (.int .i64 0) := (blk_cell BK190.out 0).trans rfl
     have hcz167_1 : wr.cell? ⟨gb190, 1, none⟩ = some (.int .i64 (wrap64 (8 * (wrap64 (rd l0 4))))) := (blk_cell BK190.out 1).trans rfl
     have hcz167_2 : wr.cell? ⟨gb190, 2, none⟩ = some (.int .i64 (wrap64 (8 * (wrap64 (rd l0 5))))) := (blk_cell BK190.out 2).trans rfl
     have hcz167_3 : wr.cell? ⟨gb190, 3, none⟩ = some (u191003) := (blk_cell BK190.out 3).trans rfl
     have hcz167_4 : wr.cell? ⟨gb190, 4, none⟩ = some (u191004) := (blk_cell BK190.out 4).trans rfl
     have hcz167_5 : wr.cell? ⟨gb190, 5, none⟩ = some (u191005) := (blk_cell BK190.out 5).trans rfl
     have hfz167_0 := blk_frozen BK190.out 0
     have hfz167_1 := blk_frozen BK190.out 1
     have hfz167_2 := blk_frozen BK190.out 2
     have hfz167_3 := blk_frozen BK190.out 3
     have hfz167_4 := blk_frozen BK190.out 4
     have hfz167_5 := blk_frozen BK190.out 5
     obtain ⟨Ao168, co168, eo168⟩ := Kd.S_slice HO_191005.out
     subst eo168
     have hcz169_0 : wr.cell? ⟨gb149, 0, none⟩ = some (.int .i64 x150000_1) := (blk_cell BK149.out 0).trans rfl
     have hcz169_1 : wr.cell? ⟨gb149, 1, none⟩ = some (.int .i64 x150001_1) := (blk_cell BK149.out 1).trans rfl
     have hcz169_2 : wr.cell? ⟨gb149, 2, none⟩ = some (.int .i64 x150002_1) := (blk_cell BK149.out 2).trans rfl
     have hcz169_3 : wr.cell? ⟨gb149, 3, none⟩ = some (.slice none 0 0) := (blk_cell BK149.out 3).trans rfl
     have hcz169_4 : wr.cell? ⟨gb149, 4, none⟩ = some (.slice none 0 0) := (blk_cell BK149.out 4).trans rfl
     have hcz169_5 : wr.cell? ⟨gb149, 5, none⟩ = some (.slice none 0 0) := (blk_cell BK149.out 5).trans rfl
     have hfz169_0 := blk_frozen BK149.out 0
     have hfz169_1 := blk_frozen BK149.out 1
     have hfz169_2 := blk_frozen BK149.out 2
     have hfz169_3 := blk_frozen BK149.out 3
     have hfz169_4 := blk_frozen BK149.out 4
     have hfz169_5 := blk_frozen BK149.out 5
     obtain ⟨Ao170, co170, eo170⟩ := Kd.R_slice HO_191003.out
     subst eo170
     obtain ⟨Ao171, co171, eo171⟩ := Kd.R_slice HO_191004.out
     subst eo171
     go_wp2
     refine bodyPost_ret (results_cell_row rfl _ _ gb149 94 #[.int .i64 0, .int .i64 (wrap64 (8 * (wrap64 (rd l0 4)))), .int .i64 (wrap64 (8 * (wrap64 (rd l0 5)))), .slice Ao170 x191003_1.length co170, .slice Ao171 x191004_1.length co171, .slice Ao168 x191005_1.length co168] (0, 0) _ rfl (set6_blk BK149.out) Try.underlying94 rfl (by kernel_rfl)) rfl ?_
     exact ⟨_, _, _, by first | rfl | (simp [*, errW_none, errW_some] <;> rfl), by (with_reducible repeat (first | apply Kd.R_alloc | apply Kd.R_drewN | apply Kd.R_drew)); exact Kd.R_mono (set6_R (Kd.R_types HO_191003.out BK149.out (by decide)) (fun _ hk => hk.2)) (fun _ hk => hk.1), by (with_reducible repeat (first | apply Kd.R_alloc | apply Kd.R_drewN | apply Kd.R_drew)); exact Kd.R_mono (set6_R (Kd.R_types HO_191004.out BK149.out (by decide)) (fun _ hk => hk.2)) (fun _ hk => hk.1), by (with_reducible repeat (first | apply Kd.S_alloc | apply Kd.S_drewN | apply Kd.S_drew)); exact Kd.S_mono (set6_S (Kd.S_types HO_191005.out BK149.out (by decide)) (fun _ hk => hk.2)) (fun _ hk => hk.1), by repeat (first | (with_reducible first | exact HB.out | apply below_alloc | apply pw_below_drewN | apply below_drew1 | refine below_set ?_ GE149.out | refine below_set ?_ GE190.out) | exact HB.out)⟩
    rw [if_pos c154] at H
    have c154b0 : ((x191005_1.length : Int) == 0) = true := beq_iff_eq.mpr c154
    have c154b1 : ((x191005_1.length : Int) != 0) = false := bne_eq_false_iff_eq.mpr c154
    clear c154
    replace H := Option.bind_eq_some_iff.mp H
    obtain ⟨⟨t209, t210, t211, t212, t215, t218⟩, A1550, H⟩ := H
    replace H : (some (t209, t210, t211, t212, t215, t218)) = some (r1, r2, r3, r4, r5, r6) := H
    have A155 := Aside0.mk A1550
    clear A1550
    simp only [Option.some.injEq, Prod.mk.injEq] at H
    obtain ⟨rfl, rfl, rfl, rfl, rfl, rfl⟩ := H
    obtain ⟨Ao156, co156, eo156⟩ := Kd.V_slice HO_5.out
    subst eo156
    have hnb157 := NB190_149.out
    have hnc157 := NB149_190.out
    have hcz158_0 : wr.cell? ⟨gb190, 0, none⟩ = some (.int .i64 0) := (blk_cell BK190.out 0).trans rfl
    have hcz158_1 : wr.cell? ⟨gb190, 1, none⟩ = some (.int .i64 (wrap64 (8 * (wrap64 (rd l0 4))))) := (blk_cell BK190.out 1).trans rfl
    have hcz158_2 : wr.cell? ⟨gb190, 2, none⟩ = some (.int .i64 (wrap64 (8 * (wrap64 (rd l0 5))))) := (blk_cell BK190.out 2).trans rfl
    have hcz158_3 : wr.cell? ⟨gb190, 3, none⟩ = some (u191003) := (blk_cell BK190.out 3).trans rfl
    have hcz158_4 : wr.cell? ⟨gb190, 4, none⟩ = some (u191004) := (blk_cell BK190.out 4).trans rfl
    have hcz158_5 : wr.cell? ⟨gb190, 5, none⟩ = some (u191005) := (blk_cell BK190.out 5).trans rfl
    have hfz158_0 := blk_frozen BK190.out 0
    have hfz158_1 := blk_frozen BK190.out 1
    have hfz158_2 := blk_frozen BK190.out 2
    have hfz158_3 := blk_frozen BK190.out 3
    have hfz158_4 := blk_frozen BK190.out 4
    have hfz158_5 := blk_frozen BK190.out 5
    obtain ⟨Ao159, co159, eo159⟩ := Kd.S_slice HO_191005.out
    subst eo159
    go_wp2_with (first | ((with_reducible refine gate_dst (N := 160) rfl ?_); refine goesLC_ (some 160) rfl rfl Try.func144 (by kernel_rfl) rfl (#[.int .i64 2]) rfl rfl ?ha ?_; (case ha => (try simp only [List.map_toArray, List.map_cons, List.map_nil]); first | done | rfl | (simp only [List.length_drop, List.length_take]; rfl)); (with_reducible refine (impl_ReadParts_1.calls 2 t209 t210 t211 t212 t215 t218 _ A155.out).mono ?_); rintro e w160 ⟨v213, v216, v219, rfl, ho0, ho1, ho2, hb⟩; refine ⟨_, rfl, ?_⟩; have n0_ := Aside0.mk (Kd.V_mono (Kd.V_told (Kd.V_told (Kd.V_told (Kd.V_old (by (with_reducible repeat (first | apply Kd.V_alloc | apply Kd.V_drewN | apply Kd.V_drew)); exact HO_5.out) hb) (Kd.R_base ho0)) (Kd.R_base ho1)) (Kd.S_base ho2)) (fun _ h_ => h_.1)); have n1_ := Aside0.mk (Kd.R_elder' (by (with_reducible repeat (first | apply Kd.R_alloc | apply Kd.R_drewN | apply Kd.R_drew)); exact HO_191003.out) (Kd.R_base ho0) hb); have n2_ := Aside0.mk (Kd.R_elder' (by (with_reducible repeat (first | apply Kd.R_alloc | apply Kd.R_drewN | apply Kd.R_drew)); exact HO_191004.out) (Kd.R_base ho1) hb); have n3_ := Aside0.mk (Kd.S_elder' (by (with_reducible repeat (first | apply Kd.S_alloc | apply Kd.S_drewN | apply Kd.S_drew)); exact HO_191005.out) (Kd.S_base ho2) hb); have n4_ := Aside0.mk (Kd.R_lower (Kd.R_new' (Kd.R_newM (M := fun k_ => (w.heap.size ≤ k_)) ho0 (below_size (by repeat (first | (with_reducible first | exact HB.out | apply below_alloc | apply pw_below_drewN | apply below_drew1 | refine below_set ?_ GE149.out | refine below_set ?_ GE190.out) | exact HB.out))) (fun k_ h_ => h_)) (Kd.R_lt (by (with_reducible repeat (first | apply Kd.R_alloc | apply Kd.R_drewN | apply Kd.R_drew)); exact HO_191003.out))) (below_size (by repeat (first | (with_reducible first | exact HB.out | apply below_alloc | apply pw_below_drewN | apply below_drew1 | refine below_set ?_ GE149.out | refine below_set ?_ GE190.out) | exact HB.out)))); have n5_ := Aside0.mk (Kd.R_lower (Kd.R_new' (Kd.R_newM (M := fun k_ => (w.heap.size ≤ k_)) ho1 (below_size (by repeat (first | (with_reducible first | exact HB.out | apply below_alloc | apply pw_below_drewN | apply below_drew1 | refine below_set ?_ GE149.out | refine below_set ?_ GE190.out) | exact HB.out))) (fun k_ h_ => h_)) (Kd.R_lt (by (with_reducible repeat (first | apply Kd.R_alloc | apply Kd.R_drewN | apply Kd.R_drew)); exact HO_191004.out))) (below_size (by repeat (first | (with_reducible first | exact HB.out | apply below_alloc | apply pw_below_drewN | apply below_drew1 | refine below_set ?_ GE149.out | refine below_set ?_ GE190.out) | exact HB.out)))); have n6_ := Aside0.mk (Kd.S_lower (Kd.S_new' (Kd.S_newM (M := fun k_ => (w.heap.size ≤ k_)) ho2 (below_size (by repeat (first | (with_reducible first | exact HB.out | apply below_alloc | apply pw_below_drewN | apply below_drew1 | refine below_set ?_ GE149.out | refine below_set ?_ GE190.out) | exact HB.out))) (fun k_ h_ => h_)) (Kd.S_lt (by (with_reducible repeat (first | apply Kd.S_alloc | apply Kd.S_drewN | apply Kd.S_drew)); exact HO_191005.out))) (below_size (by repeat (first | (with_reducible first | exact HB.out | apply below_alloc | apply pw_below_drewN | apply below_drew1 | refine below_set ?_ GE149.out | refine below_set ?_ GE190.out) | exact HB.out)))); have n7_ := Aside0.mk (blk_below (g := gb149) (o := .cells #[.int .i64 x150000_1, .int .i64 x150001_1, .int .i64 x150002_1, .slice none 0 0, .slice none 0 0, .slice none 0 0] 94 (0, 0)) (by (with_reducible repeat (first | refine blk_drewN ?_ _ | refine blk_drew ?_ | refine blk_alloc ?_ _)); exact BK149.out) hb); have n8_ := Aside0.mk (blk_below (g := gb190) (o := .cells #[.int .i64 0, .int .i64 (wrap64 (8 * (wrap64 (rd l0 4)))), .int .i64 (wrap64 (8 * (wrap64 (rd l0 5)))), u191003, u191004, .slice Ao159 x191005_1.length co159] 94 (0, 0)) (by (with_reducible repeat (first | refine blk_drewN ?_ _ | refine blk_drew ?_ | refine blk_alloc ?_ _)); exact BK190.out) hb); have n9_ := Aside0.mk (below_step (by repeat (first | (with_reducible first | exact HB.out | apply below_alloc | apply pw_below_drewN | apply below_drew1 | refine below_set ?_ GE149.out | refine below_set ?_ GE190.out) | exact HB.out)) hb); clear HO_5 HO_191003 HO_191004 HO_191005 BK149 BK190 HB; have HO_5 := n0_; have HO_191003 := n1_; have HO_191004 := n2_; have HO_191005 := n3_; have HO214 := n4_; have HO217 := n5_; have HO220 := n6_; have BK149 := n7_; have BK190 := n8_; have HB := n9_; clear n0_ n1_ n2_ n3_ n4_ n5_ n6_ n7_ n8_ n9_; (try clear hb); (try clear hb2); (try clear hk); (try clear hi); (try clear ho0); (try clear ho1); (try clear ho2); have hcz161_0 : w160.cell? ⟨gb149, 0, none⟩ = some (.int .i64 x150000_1) := (blk_cell BK149.out 0).trans rfl; have hcz161_1 : w160.cell? ⟨gb149, 1, none⟩ = some (.int .i64 x150001_1) := (blk_cell BK149.out 1).trans rfl; have hcz161_2 : w160.cell? ⟨gb149, 2, none⟩ = some (.int .i64 x150002_1) := (blk_cell BK149.out 2).trans rfl; have hcz161_3 : w160.cell? ⟨gb149, 3, none⟩ = some (.slice none 0 0) := (blk_cell BK149.out 3).trans rfl; have hcz161_4 : w160.cell? ⟨gb149, 4, none⟩ = some (.slice none 0 0) := (blk_cell BK149.out 4).trans rfl; have hcz161_5 : w160.cell? ⟨gb149, 5, none⟩ = some (.slice none 0 0) := (blk_cell BK149.out 5).trans rfl; have hfz161_0 := blk_frozen BK149.out 0; have hfz161_1 := blk_frozen BK149.out 1; have hfz161_2 := blk_frozen BK149.out 2; have hfz161_3 := blk_frozen BK149.out 3; have hfz161_4 := blk_frozen BK149.out 4; have hfz161_5 := blk_frozen BK149.out 5; obtain ⟨Ao162, co162, eo162⟩ := Kd.R_slice HO214.out; subst eo162; obtain ⟨Ao163, co163, eo163⟩ := Kd.R_slice HO217.out; subst eo163; obtain ⟨Ao164, co164, eo164⟩ := Kd.S_slice HO220.out; subst eo164))
    refine bodyPost_ret (results_cell_row rfl _ _ gb149 94 #[.int .i64 t209, .int .i64 t210, .int .i64 t211, .slice Ao162 t212.length co162, .slice Ao163 t215.length co163, .slice Ao164 t218.length co164] (0, 0) _ rfl (set6_blk BK149.out) Try.underlying94 rfl (by kernel_rfl)) rfl ?_
    exact ⟨_, _, _, by first | rfl | (simp [*, errW_none, errW_some] <;> rfl), by (with_reducible repeat (first | apply Kd.R_alloc | apply Kd.R_drewN | apply Kd.R_drew)); exact Kd.R_mono (set6_R (Kd.R_types HO214.out BK149.out (by decide)) (fun _ hk => hk.2)) (fun _ hk => hk.1.1.1), by (with_reducible repeat (first | apply Kd.R_alloc | apply Kd.R_drewN | apply Kd.R_drew)); exact Kd.R_mono (set6_R (Kd.R_types HO217.out BK149.out (by decide)) (fun _ hk => hk.2)) (fun _ hk => hk.1.1.1), by (with_reducible repeat (first | apply Kd.S_alloc | apply Kd.S_drewN | apply Kd.S_drew)); exact Kd.S_mono (set6_S (Kd.S_types HO220.out BK149.out (by decide)) (fun _ hk => hk.2)) (fun _ hk => hk.1.1.1), by repeat (first | (with_reducible first | exact HB.out | apply below_alloc | apply pw_below_drewN | apply below_drew1 | refine below_set ?_ GE149.out | refine below_set ?_ GE190.out) | exact HB.out)⟩
   rw [if_pos c38] at H
   have c38b0 : decide (0 < (x5_1.length : Int)) = true := decide_eq_true c38
   have c38b1 : decide (0 < x5_1.length) = true := decide_eq_true (by omega)
   have c38b2 : 0 < x5_1.length := by omega
   clear c38
   have HC39 := Aside0.mk H
   clear H
   obtain ⟨Ao40, co40, eo40⟩ := Kd.V_slice HO_5.out
   subst eo40
   go_upto_region 13 with (fail)
   go_cut [64] (fun v64 wc => ∃ (kq : Nat) (x64_38 : Bool), v64 = .bool x64_38 ∧ Aside0 (impl_ReadParts.j1 kq x5_1 x64_38 0 (wrap64 (8 * (wrap64 (rd l0 4)))) (wrap64 (8 * (wrap64 (rd l0 5)))) x191003_1 x191004_1 x191005_1 = some (r1, r2, r3, r4, r5, r6)) ∧ Aside0 (kq ≤ k1) ∧ Aside0 (Kd.V (Kd.int .u8) 5 wc w.heap.size (fun k_ => (P0_ k_ ∨ w.heap.size ≤ k_) ∧ some k_ ≠ (u191003 : Value).ownBlock ∧ some k_ ≠ (u191004 : Value).ownBlock ∧ some k_ ≠ (u191005 : Value).ownBlock ∧ k_ ≠ gb149 ∧ k_ ≠ gb190) (.slice Ao40 x5_1.length co40) x5_1) ∧ Aside0 (Kd.R Kd.bool 4 wc w.heap.size (fun k_ => (w.heap.size ≤ k_)) u191003 x191003_1) ∧ Aside0 (Kd.R (Kd.int .i64) 3 wc w.heap.size (fun k_ => (w.heap.size ≤ k_)) u191004 x191004_1) ∧ Aside0 (Kd.S (Kd.slice 5 (Kd.int .u8)) 51 wc w.heap.size (fun k_ => (w.heap.size ≤ k_)) u191005 x191005_1) ∧ Aside0 (wc.heap[gb149]? = some (.cells #[.int .i64 x150000_1, .int .i64 x150001_1, .int .i64 x150002_1, (.slice none 0 0), (.slice none 0 0), (.slice none 0 0)] 94 (0, 0))) ∧ Aside0 (wc.heap[gb190]? = some (.cells #[.int .i64 0, .int .i64 (wrap64 (8 * (wrap64 (rd l0 4)))), .int .i64 (wrap64 (8 * (wrap64 (rd l0 5)))), u191003, u191004, u191005] 94 (0, 0))) ∧ Aside0 (Below w.heap.size w wc))
   case first =>
    have H := HC39.out
    clear HC39
    by_cases c41 : (x5_1.length : Int) < 5
    ·rw [if_pos c41] at H
     have c41b0 : decide ((x5_1.length : Int) < 5) = true := decide_eq_true c41
     have c41b1 : decide (x5_1.length < 5) = true := decide_eq_true (by omega)
     have c41b2 : x5_1.length < 5 := by omega
     clear c41
     (first | rw [c41b0] | (simp only [i64_w, i32_w]; rw [c41b0]) | skip)
     have H' := Aside0.mk H
     clear H
     go_wp2
     go_meet
     case rel => exact ⟨_, (true), (by first | rfl | (simp; done) | (simp [*]; done)), H', ⟨by have := HK1.out; first | omega | exact Nat.le_refl _⟩, ⟨by (with_reducible repeat (first | apply Kd.V_alloc | apply Kd.V_drewN | apply Kd.V_drew)); exact HO_5.out⟩, ⟨by (with_reducible repeat (first | apply Kd.R_alloc | apply Kd.R_drewN | apply Kd.R_drew)); exact HO_191003.out⟩, ⟨by (with_reducible repeat (first | apply Kd.R_alloc | apply Kd.R_drewN | apply Kd.R_drew)); exact HO_191004.out⟩, ⟨by (with_reducible repeat (first | apply Kd.S_alloc | apply Kd.S_drewN | apply Kd.S_drew)); exact HO_191005.out⟩, ⟨by (with_reducible repeat (first | refine blk_drewN ?_ _ | refine blk_drew ?_ | refine blk_alloc ?_ _)); exact BK149.out⟩, ⟨by (with_reducible repeat (first | refine blk_drewN ?_ _ | refine blk_drew ?_ | refine blk_alloc ?_ _)); exact BK190.out⟩, ⟨by repeat (first | (with_reducible first | exact HB.out | apply below_alloc | apply pw_below_drewN | apply below_drew1 | refine below_set ?_ GE149.out | refine below_set ?_ GE190.out) | exact HB.out)⟩⟩
    rw [if_neg c41] at H
    have c41b0 : decide ((x5_1.length : Int) < 5) = false := decide_eq_false c41
    have c41b1 : decide (x5_1.length < 5) = false := decide_eq_false (by omega)
    have c41b2 : ¬ (x5_1.length < 5) := by omega
    clear c41
    (first | rw [c41b0] | (simp only [i64_w, i32_w]; rw [c41b0]) | skip)
    by_cases c42 : 1 ≤ (x5_1.length : Int)
    rotate_left
    ·rw [if_neg c42] at H
     exact absurd H (by simp)
    rw [if_pos c42] at H
    have c42b0 := eq_true c42
    have c42b1 : decide (1 ≤ (x5_1.length : Int)) = true := decide_eq_true c42
    clear c42
    obtain ⟨y221, hy221⟩ : ∃ y_ : List Int, y_ = (x5_1.drop 1) := ⟨_, rfl⟩
    replace H : ((impl_zget4.f y221).bind fun t226 => (impl_ReadParts.j1 k1 x5_1 (decide (t226 > (wrap64 ((x5_1.length : Int) - 9)))) 0 (wrap64 (8 * (wrap64 (rd l0 4)))) (wrap64 (8 * (wrap64 (rd l0 5)))) x191003_1 x191004_1 x191005_1)) = some (r1, r2, r3, r4, r5, r6) := by first | (rw [hy221]; with_reducible exact H) | (have H2_ := (Option.bind_some _ _).symm.trans H; rw [hy221]; with_reducible exact H2_) | (have H2_ := (Option.bind_some _ _).symm.trans H; with_reducible exact H2_) | with_reducible exact H | (rw [hy221]; exact H) | exact H
    have Ny221 := Aside0.mk hy221
    clear hy221
    replace H := Option.bind_eq_some_iff.mp H
    obtain ⟨t226, A430, H⟩ := H
    replace H : (impl_ReadParts.j1 k1 x5_1 (decide (t226 > (wrap64 ((x5_1.length : Int) - 9)))) 0 (wrap64 (8 * (wrap64 (rd l0 4)))) (wrap64 (8 * (wrap64 (rd l0 5)))) x191003_1 x191004_1 x191005_1) = some (r1, r2, r3, r4, r5, r6) := H
    have A43 := Aside0.mk A430
    clear A430
    have H' := Aside0.mk H
    clear H
    have q44 : (1 : Int) ≤ ((x5_1.length : Int) : Int) := of_decide_eq_true (by first | (with_reducible assumption) | assumption)
    obtain ⟨i044, hi044, _, hsz44, _⟩ := info_parts info5
    have hroom44 : x5_1.length ≤ co40 := (Kd.V_reads' HO_5.out).2.1
    have hC44 : Kd.F (Kd.int .u8) _ _ Ao40 x5_1.length x5_1 := (Kd.V_at (base := w.heap.size) HO_5.out).2.2
    have hcut44 := cut_from (P := Try.prog) 51 5 .i64 Try.underlying51 hi044 1 hsz44 Ao40 x5_1.length co40 1 (by omega) q44
    have hr44 := Kd.F_cut (m := (1 : Int).toNat) (c := co40) hC44 (by omega) hroom44
    obtain ⟨A44, hA44⟩ : ∃ A1, A1 = (if co40 = (1 : Int).toNat then Ao40 else (Ao40 : Option Addr).map (·.add ((1 : Int).toNat * 1))) := ⟨_, rfl⟩
    obtain ⟨c44, hc44⟩ : ∃ c1, c1 = co40 - (1 : Int).toNat := ⟨_, rfl⟩
    have hy44 : y221.length = x5_1.length - (1 : Int).toNat := (by rw [Ny221.out, List.length_drop] <;> omega)
    rw [show (x5_1).drop (1 : Int).toNat = y221 from Ny221.out.symm] at hr44
    replace hr44 : Kd.F (Kd.int .u8) _ _ A44 y221.length y221 := (by rw [hA44]; exact hr44)
    rw [← hy44, ← hA44, ← hc44] at hcut44
    have HO225 := Aside0.mk (show Kd.V (Kd.int .u8) 5 _ w.heap.size _ (.slice A44 y221.length c44) y221 from Kd.V_mk (by rw [hy44, hc44]; exact Nat.sub_le_sub_right hroom44 _) hr44)
    have HC225 := Aside0.mk (show y221.length ≤ c44 from by rw [hy44, hc44]; exact Nat.sub_le_sub_right hroom44 _)
    clear hr44 hC44 hroom44 hi044 hsz44 hc44
    have KY44 := Aside0.mk hy44
    have KA44 := Aside0.mk hA44
    clear hy44 hA44
    replace q44 := eq_true q44
    go_wp2_with (first | (go_at_call 147; (with_reducible refine (impl_zget4.calls _ _ y221 t226 _ ?side1 ?side2 A43.out).mono ?_); (case side1 => repeat (first | exact (Kd.V_reads' HO225.out).2.2 | (with_reducible refine Kd.C_alloc ?_ _) | (with_reducible refine Kd.C_drewN ?_ _) | (with_reducible refine Kd.C_drew ?_))); (case side2 => exact (Kd.V_reads' HO225.out).2.1); rintro e w' ⟨rfl, ⟨nd, rfl⟩⟩))
    go_meet
    case rel => exact ⟨_, (decide (t226 > (wrap64 ((x5_1.length : Int) - 9)))), (by first | rfl | (simp; done) | (simp [*]; done)), H', ⟨by have := HK1.out; first | omega | exact Nat.le_refl _⟩, ⟨by (with_reducible repeat (first | apply Kd.V_alloc | apply Kd.V_drewN | apply Kd.V_drew)); exact HO_5.out⟩, ⟨by (with_reducible repeat (first | apply Kd.R_alloc | apply Kd.R_drewN | apply Kd.R_drew)); exact HO_191003.out⟩, ⟨by (with_reducible repeat (first | apply Kd.R_alloc | apply Kd.R_drewN | apply Kd.R_drew)); exact HO_191004.out⟩, ⟨by (with_reducible repeat (first | apply Kd.S_alloc | apply Kd.S_drewN | apply Kd.S_drew)); exact HO_191005.out⟩, ⟨by (with_reducible repeat (first | refine blk_drewN ?_ _ | refine blk_drew ?_ | refine blk_alloc ?_ _)); exact BK149.out⟩, ⟨by (with_reducible repeat (first | refine blk_drewN ?_ _ | refine blk_drew ?_ | refine blk_alloc ?_ _)); exact BK190.out⟩, ⟨by repeat (first | (with_reducible first | exact HB.out | apply below_alloc | apply pw_below_drewN | apply below_drew1 | refine below_set ?_ GE149.out | refine below_set ?_ GE190.out) | exact HB.out)⟩⟩
   case rest =>
    clear HC39
    try clear c1
    try clear p1
    try clear q1
    try clear hx1
    try clear qi1
    try clear c2
    try clear c2b0
    try clear c2b1
    try clear c2b2
    try clear p2
    try clear c3
    try clear q3
    try clear c4
    try clear q4
    try clear c6
    try clear p6
    try clear c11
    try clear c11b0
    try clear c11b1
    try clear c12
    try clear c12b0
    try clear c12b1
    try clear c12b2
    try clear c14
    try clear p18
    try clear q18
    try clear hx18
    try clear qi18
    try clear c20
    try clear c20b0
    try clear c20b1
    try clear c20b2
    try clear c21
    try clear c21b0
    try clear c21b1
    try clear c21b2
    try clear c23
    try clear c24
    try clear c24b0
    try clear c24b1
    try clear c35
    try clear c37
    try clear q37
    try clear c38
    try clear c38b0
    try clear c38b1
    try clear c38b2
    try clear c41
    try clear c41b0
    try clear c41b1
    try clear c41b2
    try clear c42
    try clear c42b0
    try clear c42b1
    try clear c44
    try clear q44
    try clear hcz16_0
    try clear hcz16_1
    try clear hcz16_2
    try clear hcz16_3
    try clear hcz16_4
    try clear hcz16_5
    try clear hcz36_0
    try clear hcz36_1
    try clear hcz36_2
    try clear hcz36_3
    try clear hcz36_4
    try clear hcz36_5
    try clear hcz6_0
    try clear hcz6_1
    try clear hcz6_2
    try clear hcz6_3
    try clear hcz6_4
    try clear hcz6_5
    try clear hfz16_0
    try clear hfz16_1
    try clear hfz16_2
    try clear hfz16_3
    try clear hfz16_4
    try clear hfz16_5
    try clear hfz36_0
    try clear hfz36_1
    try clear hfz36_2
    try clear hfz36_3
    try clear hfz36_4
    try clear hfz36_5
    try clear hfz6_0
    try clear hfz6_1
    try clear hfz6_2
    try clear hfz6_3
    try clear hfz6_4
    try clear hfz6_5
    try clear hx188_0
    try clear hx189_0
    try clear p1
    try clear p18
    try clear p188
    try clear p189
    try clear p2
    try clear p6
    try clear q1
    try clear q18
    try clear q188
    try clear q189
    try clear q3
    try clear q37
    try clear q44
    obtain ⟨kq, x64_38, rfl, HA, HJ38, HO_5, HO_191003, HO_191004, HO_191005, BK149, BK190, HB⟩ := hcut
    cases kq with
    | zero => exact absurd HA.out (by simp [impl_ReadParts.j1])
    | succ kj38 =>
     have H := HA.out
     clear HA
     simp only [impl_ReadParts.j1] at H
     by_cases c45 : x64_38 = true
     ·subst c45
      replace H : ((impl_ReadParts_1.f 2).bind fun bt227 => (some (bt227.1, bt227.2.1, bt227.2.2.1, bt227.2.2.2.1, bt227.2.2.2.2.1, bt227.2.2.2.2.2))) = some (r1, r2, r3, r4, r5, r6) := by rw [if_pos rfl] at H; exact H
      replace H := Option.bind_eq_some_iff.mp H
      obtain ⟨⟨t227, t228, t229, t230, t233, t236⟩, A460, H⟩ := H
      replace H : (some (t227, t228, t229, t230, t233, t236)) = some (r1, r2, r3, r4, r5, r6) := H
      have A46 := Aside0.mk A460
      clear A460
      simp only [Option.some.injEq, Prod.mk.injEq] at H
      obtain ⟨rfl, rfl, rfl, rfl, rfl, rfl⟩ := H
      go_wp2_with (first | ((with_reducible refine gate_dst (N := 66) rfl ?_); refine goesLC_ (some 66) rfl rfl Try.func144 (by kernel_rfl) rfl (#[.int .i64 2]) rfl rfl ?ha ?_; (case ha => (try simp only [List.map_toArray, List.map_cons, List.map_nil]); first | done | rfl | (simp only [List.length_drop, List.length_take]; rfl)); (with_reducible refine (impl_ReadParts_1.calls 2 t227 t228 t229 t230 t233 t236 _ A46.out).mono ?_); rintro e w47 ⟨v231, v234, v237, rfl, ho0, ho1, ho2, hb⟩; refine ⟨_, rfl, ?_⟩; have n0_ := Aside0.mk (Kd.V_mono (Kd.V_told (Kd.V_told (Kd.V_told (Kd.V_old (by (with_reducible repeat (first | apply Kd.V_alloc | apply Kd.V_drewN | apply Kd.V_drew)); exact HO_5.out) hb) (Kd.R_base ho0)) (Kd.R_base ho1)) (Kd.S_base ho2)) (fun _ h_ => h_.1)); have n1_ := Aside0.mk (Kd.R_elder' (by (with_reducible repeat (first | apply Kd.R_alloc | apply Kd.R_drewN | apply Kd.R_drew)); exact HO_191003.out) (Kd.R_base ho0) hb); have n2_ := Aside0.mk (Kd.R_elder' (by (with_reducible repeat (first | apply Kd.R_alloc | apply Kd.R_drewN | apply Kd.R_drew)); exact HO_191004.out) (Kd.R_base ho1) hb); have n3_ := Aside0.mk (Kd.S_elder' (by (with_reducible repeat (first | apply Kd.S_alloc | apply Kd.S_drewN | apply Kd.S_drew)); exact HO_191005.out) (Kd.S_base ho2) hb); have n4_ := Aside0.mk (Kd.R_lower (Kd.R_new' (Kd.R_newM (M := fun k_ => (w.heap.size ≤ k_)) ho0 (below_size (by repeat (first | (with_reducible first | exact HB.out | apply below_alloc | apply pw_below_drewN | apply below_drew1 | refine below_set ?_ GE149.out | refine below_set ?_ GE190.out) | exact HB.out))) (fun k_ h_ => h_)) (Kd.R_lt (by (with_reducible repeat (first | apply Kd.R_alloc | apply Kd.R_drewN | apply Kd.R_drew)); exact HO_191003.out))) (below_size (by repeat (first | (with_reducible first | exact HB.out | apply below_alloc | apply pw_below_drewN | apply below_drew1 | refine below_set ?_ GE149.out | refine below_set ?_ GE190.out) | exact HB.out)))); have n5_ := Aside0.mk (Kd.R_lower (Kd.R_new' (Kd.R_newM (M := fun k_ => (w.heap.size ≤ k_)) ho1 (below_size (by repeat (first | (with_reducible first | exact HB.out | apply below_alloc | apply pw_below_drewN | apply below_drew1 | refine below_set ?_ GE149.out | refine below_set ?_ GE190.out) | exact HB.out))) (fun k_ h_ => h_)) (Kd.R_lt (by (with_reducible repeat (first | apply Kd.R_alloc | apply Kd.R_drewN | apply Kd.R_drew)); exact HO_191004.out))) (below_size (by repeat (first | (with_reducible first | exact HB.out | apply below_alloc | apply pw_below_drewN | apply below_drew1 | refine below_set ?_ GE149.out | refine below_set ?_ GE190.out) | exact HB.out)))); have n6_ := Aside0.mk (Kd.S_lower (Kd.S_new' (Kd.S_newM (M := fun k_ => (w.heap.size ≤ k_)) ho2 (below_size (by repeat (first | (with_reducible first | exact HB.out | apply below_alloc | apply pw_below_drewN | apply below_drew1 | refine below_set ?_ GE149.out | refine below_set ?_ GE190.out) | exact HB.out))) (fun k_ h_ => h_)) (Kd.S_lt (by (with_reducible repeat (first | apply Kd.S_alloc | apply Kd.S_drewN | apply Kd.S_drew)); exact HO_191005.out))) (below_size (by repeat (first | (with_reducible first | exact HB.out | apply below_alloc | apply pw_below_drewN | apply below_drew1 | refine below_set ?_ GE149.out | refine below_set ?_ GE190.out) | exact HB.out)))); have n7_ := Aside0.mk (blk_below (g := gb149) (o := .cells #[.int .i64 x150000_1, .int .i64 x150001_1, .int .i64 x150002_1, .slice none 0 0, .slice none 0 0, .slice none 0 0] 94 (0, 0)) (by (with_reducible repeat (first | refine blk_drewN ?_ _ | refine blk_drew ?_ | refine blk_alloc ?_ _)); exact BK149.out) hb); have n8_ := Aside0.mk (blk_below (g := gb190) (o := .cells #[.int .i64 0, .int .i64 (wrap64 (8 * (wrap64 (rd l0 4)))), .int .i64 (wrap64 (8 * (wrap64 (rd l0 5)))), u191003, u191004, u191005] 94 (0, 0)) (by (with_reducible repeat (first | refine blk_drewN ?_ _ | refine blk_drew ?_ | refine blk_alloc ?_ _)); exact BK190.out) hb); have n9_ := Aside0.mk (below_step (by repeat (first | (with_reducible first | exact HB.out | apply below_alloc | apply pw_below_drewN | apply below_drew1 | refine below_set ?_ GE149.out | refine below_set ?_ GE190.out) | exact HB.out)) hb); clear HO_5 HO_191003 HO_191004 HO_191005 BK149 BK190 HB; have HO_5 := n0_; have HO_191003 := n1_; have HO_191004 := n2_; have HO_191005 := n3_; have HO232 := n4_; have HO235 := n5_; have HO238 := n6_; have BK149 := n7_; have BK190 := n8_; have HB := n9_; clear n0_ n1_ n2_ n3_ n4_ n5_ n6_ n7_ n8_ n9_; (try clear hb); (try clear hb2); (try clear hk); (try clear hi); (try clear ho0); (try clear ho1); (try clear ho2); have hnb48 := NB149_190.out; have hnc48 := NB190_149.out; have hcz49_0 : w47.cell? ⟨gb149, 0, none⟩ = some (.int .i64 x150000_1) := (blk_cell BK149.out 0).trans rfl; have hcz49_1 : w47.cell? ⟨gb149, 1, none⟩ = some (.int .i64 x150001_1) := (blk_cell BK149.out 1).trans rfl; have hcz49_2 : w47.cell? ⟨gb149, 2, none⟩ = some (.int .i64 x150002_1) := (blk_cell BK149.out 2).trans rfl; have hcz49_3 : w47.cell? ⟨gb149, 3, none⟩ = some (.slice none 0 0) := (blk_cell BK149.out 3).trans rfl; have hcz49_4 : w47.cell? ⟨gb149, 4, none⟩ = some (.slice none 0 0) := (blk_cell BK149.out 4).trans rfl; have hcz49_5 : w47.cell? ⟨gb149, 5, none⟩ = some (.slice none 0 0) := (blk_cell BK149.out 5).trans rfl; have hfz49_0 := blk_frozen BK149.out 0; have hfz49_1 := blk_frozen BK149.out 1; have hfz49_2 := blk_frozen BK149.out 2; have hfz49_3 := blk_frozen BK149.out 3; have hfz49_4 := blk_frozen BK149.out 4; have hfz49_5 := blk_frozen BK149.out 5; obtain ⟨Ao50, co50, eo50⟩ := Kd.R_slice HO232.out; subst eo50; obtain ⟨Ao51, co51, eo51⟩ := Kd.R_slice HO235.out; subst eo51; obtain ⟨Ao52, co52, eo52⟩ := Kd.S_slice HO238.out; subst eo52))
      refine bodyPost_ret (results_cell_row rfl _ _ gb149 94 #[.int .i64 t227, .int .i64 t228, .int .i64 t229, .slice Ao50 t230.length co50, .slice Ao51 t233.length co51, .slice Ao52 t236.length co52] (0, 0) _ rfl (set6_blk BK149.out) Try.underlying94 rfl (by kernel_rfl)) rfl ?_
      exact ⟨_, _, _, by first | rfl | (simp [*, errW_none, errW_some] <;> rfl), by (with_reducible repeat (first | apply Kd.R_alloc | apply Kd.R_drewN | apply Kd.R_drew)); exact Kd.R_mono (set6_R (Kd.R_types HO232.out BK149.out (by decide)) (fun _ hk => hk.2)) (fun _ hk => hk.1.1.1), by (with_reducible repeat (first | apply Kd.R_alloc | apply Kd.R_drewN | apply Kd.R_drew)); exact Kd.R_mono (set6_R (Kd.R_types HO235.out BK149.out (by decide)) (fun _ hk => hk.2)) (fun _ hk => hk.1.1.1), by (with_reducible repeat (first | apply Kd.S_alloc | apply Kd.S_drewN | apply Kd.S_drew)); exact Kd.S_mono (set6_S (Kd.S_types HO238.out BK149.out (by decide)) (fun _ hk => hk.2)) (fun _ hk => hk.1.1.1), by repeat (first | (with_reducible first | exact HB.out | apply below_alloc | apply pw_below_drewN | apply below_drew1 | refine below_set ?_ GE149.out | refine below_set ?_ GE190.out) | exact HB.out)⟩
     replace c45 := Bool.eq_false_iff.mpr c45
     subst c45
     replace H : (if 1 ≤ (x5_1.length : Int) then ((impl_zget4.f (x5_1.drop 1)).bind fun t244 => (if 0 < (x5_1.length : Int) then (if (wrap64 (Go.bits .and .u8 (rd x5_1 0) 127)) > 40 then ((impl_ReadParts_1.f 5).bind fun bt247 => (some (bt247.1, bt247.2.1, bt247.2.2.1, bt247.2.2.2.1, bt247.2.2.2.2.1, bt247.2.2.2.2.2))) else (if 0 ≤ (wrap64 (5 + t244)) then (if (wrap64 (5 + t244)) ≤ (x5_1.length : Int) then ((impl_zget4.f (x5_1.drop ((wrap64 (5 + t244)) : Int).toNat)).bind fun t264 => ((impl_Crc.f kj38 (x5_1.take ((wrap64 (5 + t244)) : Int).toNat)).bind fun t270 => (if t264 = (wrap64 (t270)) then (if (x191005_1.length : Int) = 0 then (impl_ReadParts.j2 kj38 x5_1 (wrap64 (5 + t244)) (wrap64 (Go.bits .and .u8 (rd x5_1 0) 127)) (decide ((rd x5_1 0) > 127)) (!(decide ((rd x5_1 0) > 127))) 0 (wrap64 (8 * (wrap64 (rd l0 4)))) (wrap64 (8 * (wrap64 (rd l0 5)))) x191003_1 x191004_1 x191005_1) else (impl_ReadParts.j2 kj38 x5_1 (wrap64 (5 + t244)) (wrap64 (Go.bits .and .u8 (rd x5_1 0) 127)) (decide ((rd x5_1 0) > 127)) false 0 (wrap64 (8 * (wrap64 (rd l0 4)))) (wrap64 (8 * (wrap64 (rd l0 5)))) x191003_1 x191004_1 x191005_1)) else ((impl_ReadParts_1.f 3).bind fun bt332 => (some (bt332.1, bt332.2.1, bt332.2.2.1, bt332.2.2.2.1, bt332.2.2.2.2.1, bt332.2.2.2.2.2)))))) else (none)) else (none))) else (none))) else (none)) = some (r1, r2, r3, r4, r5, r6) := by rw [if_neg (show ¬ (false = true) by decide)] at H; exact H
     by_cases c53 : 1 ≤ (x5_1.length : Int)
     rotate_left
     ·rw [if_neg c53] at H
      exact absurd H (by simp)
     rw [if_pos c53] at H
     have c53b0 := eq_true c53
     have c53b1 : decide (1 ≤ (x5_1.length : Int)) = true := decide_eq_true c53
     clear c53
     obtain ⟨y239, hy239⟩ : ∃ y_ : List Int, y_ = (x5_1.drop 1) := ⟨_, rfl⟩
     replace H : ((impl_zget4.f y239).bind fun t244 => (if 0 < (x5_1.length : Int) then (if (wrap64 (Go.bits .and .u8 (rd x5_1 0) 127)) > 40 then ((impl_ReadParts_1.f 5).bind fun bt247 => (some (bt247.1, bt247.2.1, bt247.2.2.1, bt247.2.2.2.1, bt247.2.2.2.2.1, bt247.2.2.2.2.2))) else (if 0 ≤ (wrap64 (5 + t244)) then (if (wrap64 (5 + t244)) ≤ (x5_1.length : Int) then ((impl_zget4.f (x5_1.drop ((wrap64 (5 + t244)) : Int).toNat)).bind fun t264 => ((impl_Crc.f kj38 (x5_1.take ((wrap64 (5 + t244)) : Int).toNat)).bind fun t270 => (if t264 = (wrap64 (t270)) then (if (x191005_1.length : Int) = 0 then (impl_ReadParts.j2 kj38 x5_1 (wrap64 (5 + t244)) (wrap64 (Go.bits .and .u8 (rd x5_1 0) 127)) (decide ((rd x5_1 0) > 127)) (!(decide ((rd x5_1 0) > 127))) 0 (wrap64 (8 * (wrap64 (rd l0 4)))) (wrap64 (8 * (wrap64 (rd l0 5)))) x191003_1 x191004_1 x191005_1) else (impl_ReadParts.j2 kj38 x5_1 (wrap64 (5 + t244)) (wrap64 (Go.bits .and .u8 (rd x5_1 0) 127)) (decide ((rd x5_1 0) > 127)) false 0 (wrap64 (8 * (wrap64 (rd l0 4)))) (wrap64 (8 * (wrap64 (rd l0 5)))) x191003_1 x191004_1 x191005_1)) else ((impl_ReadParts_1.f 3).bind fun bt332 => (some (bt332.1, bt332.2.1, bt332.2.2.1, bt332.2.2.2.1, bt332.2.2.2.2.1, bt332.2.2.2.2.2)))))) else (none)) else (none))) else (none))) = some (r1, r2, r3, r4, r5, r6) := by first | (rw [hy239]; with_reducible exact H) | (have H2_ := (Option.bind_some _ _).symm.trans H; rw [hy239]; with_reducible exact H2_) | (have H2_ := (Option.bind_some _ _).symm.trans H; with_reducible exact H2_) | with_reducible exact H | (rw [hy239]; exact H) | exact H
     have Ny239 := Aside0.mk hy239
     clear hy239
     replace H := Option.bind_eq_some_iff.mp H
     obtain ⟨t244, A540, H⟩ := H
     replace H : (if 0 < (x5_1.length : Int) then (if (wrap64 (Go.bits .and .u8 (rd x5_1 0) 127)) > 40 then ((impl_ReadParts_1.f 5).bind fun bt247 => (some (bt247.1, bt247.2.1, bt247.2.2.1, bt247.2.2.2.1, bt247.2.2.2.2.1, bt247.2.2.2.2.2))) else (if 0 ≤ (wrap64 (5 + t244)) then (if (wrap64 (5 + t244)) ≤ (x5_1.length : Int) then ((impl_zget4.f (x5_1.drop ((wrap64 (5 + t244)) : Int).toNat)).bind fun t264 => ((impl_Crc.f kj38 (x5_1.take ((wrap64 (5 + t244)) : Int).toNat)).bind fun t270 => (if t264 = (wrap64 (t270)) then (if (x191005_1.length : Int) = 0 then (impl_ReadParts.j2 kj38 x5_1 (wrap64 (5 + t244)) (wrap64 (Go.bits .and .u8 (rd x5_1 0) 127)) (decide ((rd x5_1 0) > 127)) (!(decide ((rd x5_1 0) > 127))) 0 (wrap64 (8 * (wrap64 (rd l0 4)))) (wrap64 (8 * (wrap64 (rd l0 5)))) x191003_1 x191004_1 x191005_1) else (impl_ReadParts.j2 kj38 x5_1 (wrap64 (5 + t244)) (wrap64 (Go.bits .and .u8 (rd x5_1 0) 127)) (decide ((rd x5_1 0) > 127)) false 0 (wrap64 (8 * (wrap64 (rd l0 4)))) (wrap64 (8 * (wrap64 (rd l0 5)))) x191003_1 x191004_1 x191005_1)) else ((impl_ReadParts_1.f 3).bind fun bt332 => (some (bt332.1, bt332.2.1, bt332.2.2.1, bt332.2.2.2.1, bt332.2.2.2.2.1, bt332.2.2.2.2.2)))))) else (none)) else (none))) else (none)) = some (r1, r2, r3, r4, r5, r6) := H
     have A54 := Aside0.mk A540
     clear A540
     by_cases c55 : 0 < (x5_1.length : Int)
     rotate_left
     ·rw [if_neg c55] at H
      exact absurd H (by simp)
     rw [if_pos c55] at H
     have c55b0 : decide (0 < (x5_1.length : Int)) = true := decide_eq_true c55
     have c55b1 : decide (0 < x5_1.length) = true := decide_eq_true (by omega)
     have c55b2 : 0 < x5_1.length := by omega
     clear c55
     by_cases c56 : (wrap64 (Go.bits .and .u8 (rd x5_1 0) 127)) > 40
     ·rw [if_pos c56] at H
      have c56b0 : decide (40 < (wrap64 (Go.bits .and .u8 (rd x5_1 0) 127))) = true := decide_eq_true c56
      clear c56
      replace H := Option.bind_eq_some_iff.mp H
      obtain ⟨⟨t247, t248, t249, t250, t253, t256⟩, A570, H⟩ := H
      replace H : (some (t247, t248, t249, t250, t253, t256)) = some (r1, r2, r3, r4, r5, r6) := H
      have A57 := Aside0.mk A570
      clear A570
      simp only [Option.some.injEq, Prod.mk.injEq] at H
      obtain ⟨rfl, rfl, rfl, rfl, rfl, rfl⟩ := H
      have q58 : (1 : Int) ≤ ((x5_1.length : Int) : Int) := of_decide_eq_true (by first | (with_reducible assumption) | assumption)
      obtain ⟨i058, hi058, _, hsz58, _⟩ := info_parts info5
      have hroom58 : x5_1.length ≤ co40 := (Kd.V_reads' HO_5.out).2.1
      have hC58 : Kd.F (Kd.int .u8) _ _ Ao40 x5_1.length x5_1 := (Kd.V_at (base := w.heap.size) HO_5.out).2.2
      have hcut58 := cut_from (P := Try.prog) 51 5 .i64 Try.underlying51 hi058 1 hsz58 Ao40 x5_1.length co40 1 (by omega) q58
      have hr58 := Kd.F_cut (m := (1 : Int).toNat) (c := co40) hC58 (by omega) hroom58
      obtain ⟨A58, hA58⟩ : ∃ A1, A1 = (if co40 = (1 : Int).toNat then Ao40 else (Ao40 : Option Addr).map (·.add ((1 : Int).toNat * 1))) := ⟨_, rfl⟩
      obtain ⟨c58, hc58⟩ : ∃ c1, c1 = co40 - (1 : Int).toNat := ⟨_, rfl⟩
      have hy58 : y239.length = x5_1.length - (1 : Int).toNat := (by rw [Ny239.out, List.length_drop] <;> omega)
      rw [show (x5_1).drop (1 : Int).toNat = y239 from Ny239.out.symm] at hr58
      replace hr58 : Kd.F (Kd.int .u8) _ _ A58 y239.length y239 := (by rw [hA58]; exact hr58)
      rw [← hy58, ← hA58, ← hc58] at hcut58
      have HO243 := Aside0.mk (show Kd.V (Kd.int .u8) 5 _ w.heap.size _ (.slice A58 y239.length c58) y239 from Kd.V_mk (by rw [hy58, hc58]; exact Nat.sub_le_sub_right hroom58 _) hr58)
      have HC243 := Aside0.mk (show y239.length ≤ c58 from by rw [hy58, hc58]; exact Nat.sub_le_sub_right hroom58 _)
      clear hr58 hC58 hroom58 hi058 hsz58 hc58
      have KY58 := Aside0.mk hy58
      have KA58 := Aside0.mk hA58
      clear hy58 hA58
      replace q58 := eq_true q58
      go_wp2_with (first | ((with_reducible refine gate_callee (f := 147) rfl ?_); refine goesL_ (some 69) rfl rfl Try.func147 (by kernel_rfl) rfl #[.slice A58 y239.length c58] rfl (by (try simp only [List.map_toArray, List.map_cons, List.map_nil]); first | done | rfl | (simp only [List.length_drop, List.length_take]; rfl)) ?_; (with_reducible refine (impl_zget4.calls _ _ y239 t244 _ ?side1 ?side2 A54.out).mono ?_); (case side1 => repeat (first | exact (Kd.V_reads' HO243.out).2.2 | (with_reducible refine Kd.C_alloc ?_ _) | (with_reducible refine Kd.C_drewN ?_ _) | (with_reducible refine Kd.C_drew ?_))); (case side2 => exact (Kd.V_reads' HO243.out).2.1); rintro e w' ⟨rfl, ⟨nd, rfl⟩⟩; refine ⟨_, rfl, ?_⟩; (try (rw [drewN_self wc]; generalize hq_ : World.drewN wc _ = wc; have n0_ : Aside0 (Kd.V (Kd.int .u8) 5 wc w.heap.size (fun k_ => (((P0_ k_ ∨ w.heap.size ≤ k_)) ∧ (some k_ ≠ (u191003 : Value).ownBlock ∧ (some k_ ≠ (u191004 : Value).ownBlock ∧ (some k_ ≠ (u191005 : Value).ownBlock ∧ (k_ ≠ gb149 ∧ k_ ≠ gb190)))))) (.slice A58 y239.length c58) y239) := ⟨by rw [← hq_]; exact (by (with_reducible repeat (first | apply Kd.V_alloc | apply Kd.V_drewN | apply Kd.V_drew)); exact HO243.out)⟩; have n1_ : Aside0 (Kd.R Kd.bool 4 wc w.heap.size (fun k_ => ((w.heap.size ≤ k_))) u191003 x191003_1) := ⟨by rw [← hq_]; exact (by (with_reducible repeat (first | apply Kd.R_alloc | apply Kd.R_drewN | apply Kd.R_drew)); exact HO_191003.out)⟩; have n2_ : Aside0 (Kd.R (Kd.int .i64) 3 wc w.heap.size (fun k_ => ((w.heap.size ≤ k_))) u191004 x191004_1) := ⟨by rw [← hq_]; exact (by (with_reducible repeat (first | apply Kd.R_alloc | apply Kd.R_drewN | apply Kd.R_drew)); exact HO_191004.out)⟩; have n3_ : Aside0 (Kd.S (Kd.slice 5 (Kd.int .u8)) 51 wc w.heap.size (fun k_ => ((w.heap.size ≤ k_))) u191005 x191005_1) := ⟨by rw [← hq_]; exact (by (with_reducible repeat (first | apply Kd.S_alloc | apply Kd.S_drewN | apply Kd.S_drew)); exact HO_191005.out)⟩; have n4_ : Aside0 (Kd.V (Kd.int .u8) 5 wc w.heap.size (fun k_ => (((P0_ k_ ∨ w.heap.size ≤ k_)) ∧ (some k_ ≠ (u191003 : Value).ownBlock ∧ (some k_ ≠ (u191004 : Value).ownBlock ∧ (some k_ ≠ (u191005 : Value).ownBlock ∧ (k_ ≠ gb149 ∧ k_ ≠ gb190)))))) (.slice Ao40 x5_1.length co40) x5_1) := ⟨by rw [← hq_]; exact (by (with_reducible repeat (first | apply Kd.V_alloc | apply Kd.V_drewN | apply Kd.V_drew)); exact HO_5.out)⟩; have n5_ : Aside0 (wc.heap[gb149]? = some (.cells #[.int .i64 x150000_1, .int .i64 x150001_1, .int .i64 x150002_1, .slice none 0 0, .slice none 0 0, .slice none 0 0] 94 (0, 0))) := ⟨by rw [← hq_]; exact (by (with_reducible repeat (first | refine blk_drewN ?_ _ | refine blk_drew ?_ | refine blk_alloc ?_ _)); exact BK149.out)⟩; have n6_ : Aside0 (wc.heap[gb190]? = some (.cells #[.int .i64 0, .int .i64 (wrap64 (8 * (wrap64 (rd l0 4)))), .int .i64 (wrap64 (8 * (wrap64 (rd l0 5)))), u191003, u191004, u191005] 94 (0, 0))) := ⟨by rw [← hq_]; exact (by (with_reducible repeat (first | refine blk_drewN ?_ _ | refine blk_drew ?_ | refine blk_alloc ?_ _)); exact BK190.out)⟩; have n7_ : Aside0 (Below w.heap.size w wc) := ⟨by rw [← hq_]; exact (by repeat (first | (with_reducible first | exact HB.out | apply below_alloc | apply pw_below_drewN | apply below_drew1 | refine below_set ?_ GE149.out | refine below_set ?_ GE190.out) | exact HB.out))⟩; clear HO243 HO_191003 HO_191004 HO_191005 HO_5 BK149 BK190 HB hq_; have HO243 := n0_; have HO_191003 := n1_; have HO_191004 := n2_; have HO_191005 := n3_; have HO_5 := n4_; have BK149 := n5_; have BK190 := n6_; have HB := n7_; clear n0_ n1_ n2_ n3_ n4_ n5_ n6_ n7_)); have p245 : 0 ≤ (0 : Int) := (by omega); have q245 : 0 < (x5_1.length : Int) := of_decide_eq_true (by first | (with_reducible assumption) | assumption); obtain ⟨ad245, e245, hx245_0⟩ := Kd.at_int (Kd.V_reads' HO_5.out).2.2 0 p245 q245; cases e245; have qi245 : (0 < x5_1.length) = True := eq_true (by omega); (try rw [show ((0 : Int)).toNat = 0 from rfl] at hx245_0); (try rw [Addr.add_zero'] at hx245_0); replace p245 := eq_true p245; replace q245 := eq_true q245; have p246 : 0 ≤ (0 : Int) := (by omega); have q246 : 0 < (x5_1.length : Int) := of_decide_eq_true (by first | (with_reducible assumption) | assumption); obtain ⟨ad246, e246, hx246_0⟩ := Kd.at_int (Kd.V_reads' HO_5.out).2.2 0 p246 q246; obtain rfl : ad245 = ad246 := (by injection e246); have qi246 : (0 < x5_1.length) = True := eq_true (by omega); (try rw [show ((0 : Int)).toNat = 0 from rfl] at hx246_0); (try rw [Addr.add_zero'] at hx246_0); replace p246 := eq_true p246; replace q246 := eq_true q246) | ((with_reducible refine gate_dst (N := 84) rfl ?_); refine goesLC_ (some 84) rfl rfl Try.func144 (by kernel_rfl) rfl (#[.int .i64 5]) rfl rfl ?ha ?_; (case ha => (try simp only [List.map_toArray, List.map_cons, List.map_nil]); first | done | rfl | (simp only [List.length_drop, List.length_take]; rfl)); (with_reducible refine (impl_ReadParts_1.calls 5 t247 t248 t249 t250 t253 t256 _ A57.out).mono ?_); rintro e w59 ⟨v251, v254, v257, rfl, ho0, ho1, ho2, hb⟩; refine ⟨_, rfl, ?_⟩; have n0_ := Aside0.mk (Kd.V_mono (Kd.V_told (Kd.V_told (Kd.V_told (Kd.V_old (by (with_reducible repeat (first | apply Kd.V_alloc | apply Kd.V_drewN | apply Kd.V_drew)); exact HO_5.out) hb) (Kd.R_base ho0)) (Kd.R_base ho1)) (Kd.S_base ho2)) (fun _ h_ => h_.1)); have n1_ := Aside0.mk (Kd.R_elder' (by (with_reducible repeat (first | apply Kd.R_alloc | apply Kd.R_drewN | apply Kd.R_drew)); exact HO_191003.out) (Kd.R_base ho0) hb); have n2_ := Aside0.mk (Kd.R_elder' (by (with_reducible repeat (first | apply Kd.R_alloc | apply Kd.R_drewN | apply Kd.R_drew)); exact HO_191004.out) (Kd.R_base ho1) hb); have n3_ := Aside0.mk (Kd.S_elder' (by (with_reducible repeat (first | apply Kd.S_alloc | apply Kd.S_drewN | apply Kd.S_drew)); exact HO_191005.out) (Kd.S_base ho2) hb); have n4_ := Aside0.mk (Kd.V_mono (Kd.V_told (Kd.V_told (Kd.V_told (Kd.V_old (by (with_reducible repeat (first | apply Kd.V_alloc | apply Kd.V_drewN | apply Kd.V_drew)); exact HO243.out) hb) (Kd.R_base ho0)) (Kd.R_base ho1)) (Kd.S_base ho2)) (fun _ h_ => h_.1)); have n5_ := Aside0.mk (Kd.R_lower (Kd.R_new' (Kd.R_newM (M := fun k_ => (w.heap.size ≤ k_)) ho0 (below_size (by repeat (first | (with_reducible first | exact HB.out | apply below_alloc | apply pw_below_drewN | apply below_drew1 | refine below_set ?_ GE149.out | refine below_set ?_ GE190.out) | exact HB.out))) (fun k_ h_ => h_)) (Kd.R_lt (by (with_reducible repeat (first | apply Kd.R_alloc | apply Kd.R_drewN | apply Kd.R_drew)); exact HO_191003.out))) (below_size (by repeat (first | (with_reducible first | exact HB.out | apply below_alloc | apply pw_below_drewN | apply below_drew1 | refine below_set ?_ GE149.out | refine below_set ?_ GE190.out) | exact HB.out)))); have n6_ := Aside0.mk (Kd.R_lower (Kd.R_new' (Kd.R_newM (M := fun k_ => (w.heap.size ≤ k_)) ho1 (below_size (by repeat (first | (with_reducible first | exact HB.out | apply below_alloc | apply pw_below_drewN | apply below_drew1 | refine below_set ?_ GE149.out | refine below_set ?_ GE190.out) | exact HB.out))) (fun k_ h_ => h_)) (Kd.R_lt (by (with_reducible repeat (first | apply Kd.R_alloc | apply Kd.R_drewN | apply Kd.R_drew)); exact HO_191004.out))) (below_size (by repeat (first | (with_reducible first | exact HB.out | apply below_alloc | apply pw_below_drewN | apply below_drew1 | refine below_set ?_ GE149.out | refine below_set ?_ GE190.out) | exact HB.out)))); have n7_ := Aside0.mk (Kd.S_lower (Kd.S_new' (Kd.S_newM (M := fun k_ => (w.heap.size ≤ k_)) ho2 (below_size (by repeat (first | (with_reducible first | exact HB.out | apply below_alloc | apply pw_below_drewN | apply below_drew1 | refine below_set ?_ GE149.out | refine below_set ?_ GE190.out) | exact HB.out))) (fun k_ h_ => h_)) (Kd.S_lt (by (with_reducible repeat (first | apply Kd.S_alloc | apply Kd.S_drewN | apply Kd.S_drew)); exact HO_191005.out))) (below_size (by repeat (first | (with_reducible first | exact HB.out | apply below_alloc | apply pw_below_drewN | apply below_drew1 | refine below_set ?_ GE149.out | refine below_set ?_ GE190.out) | exact HB.out)))); have n8_ := Aside0.mk (blk_below (g := gb149) (o := .cells #[.int .i64 x150000_1, .int .i64 x150001_1, .int .i64 x150002_1, .slice none 0 0, .slice none 0 0, .slice none 0 0] 94 (0, 0)) (by (with_reducible repeat (first | refine blk_drewN ?_ _ | refine blk_drew ?_ | refine blk_alloc ?_ _)); exact BK149.out) hb); have n9_ := Aside0.mk (blk_below (g := gb190) (o := .cells #[.int .i64 0, .int .i64 (wrap64 (8 * (wrap64 (rd l0 4)))), .int .i64 (wrap64 (8 * (wrap64 (rd l0 5)))), u191003, u191004, u191005] 94 (0, 0)) (by (with_reducible repeat (first | refine blk_drewN ?_ _ | refine blk_drew ?_ | refine blk_alloc ?_ _)); exact BK190.out) hb); have n10_ := Aside0.mk (below_step (by repeat (first | (with_reducible first | exact HB.out | apply below_alloc | apply pw_below_drewN | apply below_drew1 | refine below_set ?_ GE149.out | refine below_set ?_ GE190.out) | exact HB.out)) hb); clear HO_5 HO_191003 HO_191004 HO_191005 HO243 BK149 BK190 HB; have HO_5 := n0_; have HO_191003 := n1_; have HO_191004 := n2_; have HO_191005 := n3_; have HO243 := n4_; have HO252 := n5_; have HO255 := n6_; have HO258 := n7_; have BK149 := n8_; have BK190 := n9_; have HB := n10_; clear n0_ n1_ n2_ n3_ n4_ n5_ n6_ n7_ n8_ n9_ n10_; (try clear hb); (try clear hb2); (try clear hk); (try clear hi); (try clear ho0); (try clear ho1); (try clear ho2); have hnb60 := NB149_190.out; have hnc60 := NB190_149.out; have hcz61_0 : w59.cell? ⟨gb149, 0, none⟩ = some (.int .i64 x150000_1) := (blk_cell BK149.out 0).trans rfl; have hcz61_1 : w59.cell? ⟨gb149, 1, none⟩ = some (.int .i64 x150001_1) := (blk_cell BK149.out 1).trans rfl; have hcz61_2 : w59.cell? ⟨gb149, 2, none⟩ = some (.int .i64 x150002_1) := (blk_cell BK149.out 2).trans rfl; have hcz61_3 : w59.cell? ⟨gb149, 3, none⟩ = some (.slice none 0 0) := (blk_cell BK149.out 3).trans rfl; have hcz61_4 : w59.cell? ⟨gb149, 4, none⟩ = some (.slice none 0 0) := (blk_cell BK149.out 4).trans rfl; have hcz61_5 : w59.cell? ⟨gb149, 5, none⟩ = some (.slice none 0 0) := (blk_cell BK149.out 5).trans rfl; have hfz61_0 := blk_frozen BK149.out 0; have hfz61_1 := blk_frozen BK149.out 1; have hfz61_2 := blk_frozen BK149.out 2; have hfz61_3 := blk_frozen BK149.out 3; have hfz61_4 := blk_frozen BK149.out 4; have hfz61_5 := blk_frozen BK149.out 5; obtain ⟨Ao62, co62, eo62⟩ := Kd.R_slice HO252.out; subst eo62; obtain ⟨Ao63, co63, eo63⟩ := Kd.R_slice HO255.out; subst eo63; obtain ⟨Ao64, co64, eo64⟩ := Kd.S_slice HO258.out; subst eo64))
      refine bodyPost_ret (results_cell_row rfl _ _ gb149 94 #[.int .i64 t247, .int .i64 t248, .int .i64 t249, .slice Ao62 t250.length co62, .slice Ao63 t253.length co63, .slice Ao64 t256.length co64] (0, 0) _ rfl (set6_blk BK149.out) Try.underlying94 rfl (by kernel_rfl)) rfl ?_
      exact ⟨_, _, _, by first | rfl | (simp [*, errW_none, errW_some] <;> rfl), by (with_reducible repeat (first | apply Kd.R_alloc | apply Kd.R_drewN | apply Kd.R_drew)); exact Kd.R_mono (set6_R (Kd.R_types HO252.out BK149.out (by decide)) (fun _ hk => hk.2)) (fun _ hk => hk.1.1.1), by (with_reducible repeat (first | apply Kd.R_alloc | apply Kd.R_drewN | apply Kd.R_drew)); exact Kd.R_mono (set6_R (Kd.R_types HO255.out BK149.out (by decide)) (fun _ hk => hk.2)) (fun _ hk => hk.1.1.1), by (with_reducible repeat (first | apply Kd.S_alloc | apply Kd.S_drewN | apply Kd.S_drew)); exact Kd.S_mono (set6_S (Kd.S_types HO258.out BK149.out (by decide)) (fun _ hk => hk.2)) (fun _ hk => hk.1.1.1), by repeat (first | (with_reducible first | exact HB.out | apply below_alloc | apply pw_below_drewN | apply below_drew1 | refine below_set ?_ GE149.out | refine below_set ?_ GE190.out) | exact HB.out)⟩
     rw [if_neg c56] at H
     have c56b0 : decide (40 < (wrap64 (Go.bits .and .u8 (rd x5_1 0) 127))) = false := decide_eq_false c56
     clear c56
     obtain ⟨ji65, hji65⟩ : ∃ j_ : Int, (wrap64 (5 + t244)) = j_ := ⟨_, rfl⟩
     replace H : (if 0 ≤ (ji65) then (if (ji65) ≤ (x5_1.length : Int) then ((impl_zget4.f (x5_1.drop ((ji65) : Int).toNat)).bind fun t264 => ((impl_Crc.f kj38 (x5_1.take ((ji65) : Int).toNat)).bind fun t270 => (if t264 = (wrap64 (t270)) then (if (x191005_1.length : Int) = 0 then (impl_ReadParts.j2 kj38 x5_1 ji65 (wrap64 (Go.bits .and .u8 (rd x5_1 0) 127)) (decide ((rd x5_1 0) > 127)) (!(decide ((rd x5_1 0) > 127))) 0 (wrap64 (8 * (wrap64 (rd l0 4)))) (wrap64 (8 * (wrap64 (rd l0 5)))) x191003_1 x191004_1 x191005_1) else (impl_ReadParts.j2 kj38 x5_1 ji65 (wrap64 (Go.bits .and .u8 (rd x5_1 0) 127)) (decide ((rd x5_1 0) > 127)) false 0 (wrap64 (8 * (wrap64 (rd l0 4)))) (wrap64 (8 * (wrap64 (rd l0 5)))) x191003_1 x191004_1 x191005_1)) else ((impl_ReadParts_1.f 3).bind fun bt332 => (some (bt332.1, bt332.2.1, bt332.2.2.1, bt332.2.2.2.1, bt332.2.2.2.2.1, bt332.2.2.2.2.2)))))) else (none)) else (none)) = some (r1, r2, r3, r4, r5, r6) := by first | (rw [hji65] at H; exact H) | (simp only [hji65] at H ⊢; exact H)
     (try rw [hji65] at A54)
     have hji65w : (IntKind.i64.wrap (5 + t244)) = ji65 := (i64_w _).trans hji65
     by_cases c66 : 0 ≤ (ji65)
     rotate_left
     ·rw [if_neg c66] at H
      exact absurd H (by simp)
     rw [if_pos c66] at H
     have c66b0 := eq_true c66
     have c66b1 : decide (0 ≤ (ji65)) = true := decide_eq_true c66
     clear c66
     by_cases c67 : (ji65) ≤ (x5_1.length : Int)
     rotate_left
     ·rw [if_neg c67] at H
      exact absurd H (by simp)
     rw [if_pos c67] at H
     have c67b0 := eq_true c67
     have c67b1 : decide ((ji65) ≤ (x5_1.length : Int)) = true := decide_eq_true c67
     clear c67
     obtain ⟨y259, hy259⟩ : ∃ y_ : List Int, y_ = (x5_1.drop ((ji65) : Int).toNat) := ⟨_, rfl⟩
     replace H : ((impl_zget4.f y259).bind fun t264 => ((impl_Crc.f kj38 (x5_1.take ((ji65) : Int).toNat)).bind fun t270 => (if t264 = (wrap64 (t270)) then (if (x191005_1.length : Int) = 0 then (impl_ReadParts.j2 kj38 x5_1 ji65 (wrap64 (Go.bits .and .u8 (rd x5_1 0) 127)) (decide ((rd x5_1 0) > 127)) (!(decide ((rd x5_1 0) > 127))) 0 (wrap64 (8 * (wrap64 (rd l0 4)))) (wrap64 (8 * (wrap64 (rd l0 5)))) x191003_1 x191004_1 x191005_1) else (impl_ReadParts.j2 kj38 x5_1 ji65 (wrap64 (Go.bits .and .u8 (rd x5_1 0) 127)) (decide ((rd x5_1 0) > 127)) false 0 (wrap64 (8 * (wrap64 (rd l0 4)))) (wrap64 (8 * (wrap64 (rd l0 5)))) x191003_1 x191004_1 x191005_1)) else ((impl_ReadParts_1.f 3).bind fun bt332 => (some (bt332.1, bt332.2.1, bt332.2.2.1, bt332.2.2.2.1, bt332.2.2.2.2.1, bt332.2.2.2.2.2)))))) = some (r1, r2, r3, r4, r5, r6) := by first | (rw [hy259]; with_reducible exact H) | (have H2_ := (Option.bind_some _ _).symm.trans H; rw [hy259]; with_reducible exact H2_) | (have H2_ := (Option.bind_some _ _).symm.trans H; with_reducible exact H2_) | with_reducible exact H | (rw [hy259]; exact H) | exact H
     have Ny259 := Aside0.mk hy259
     clear hy259
     replace H := Option.bind_eq_some_iff.mp H
     obtain ⟨t264, A680, H⟩ := H
     replace H : ((impl_Crc.f kj38 (x5_1.take ((ji65) : Int).toNat)).bind fun t270 => (if t264 = (wrap64 (t270)) then (if (x191005_1.length : Int) = 0 then (impl_ReadParts.j2 kj38 x5_1 ji65 (wrap64 (Go.bits .and .u8 (rd x5_1 0) 127)) (decide ((rd x5_1 0) > 127)) (!(decide ((rd x5_1 0) > 127))) 0 (wrap64 (8 * (wrap64 (rd l0 4)))) (wrap64 (8 * (wrap64 (rd l0 5)))) x191003_1 x191004_1 x191005_1) else (impl_ReadParts.j2 kj38 x5_1 ji65 (wrap64 (Go.bits .and .u8 (rd x5_1 0) 127)) (decide ((rd x5_1 0) > 127)) false 0 (wrap64 (8 * (wrap64 (rd l0 4)))) (wrap64 (8 * (wrap64 (rd l0 5)))) x191003_1 x191004_1 x191005_1)) else ((impl_ReadParts_1.f 3).bind fun bt332 => (some (bt332.1, bt332.2.1, bt332.2.2.1, bt332.2.2.2.1, bt332.2.2.2.2.1, bt332.2.2.2.2.2))))) = some (r1, r2, r3, r4, r5, r6) := H
     have A68 := Aside0.mk A680
     clear A680
     have c69b0 := eq_true (of_decide_eq_true (by first | (with_reducible assumption) | assumption) : 0 ≤ (ji65))
     have c70b0 := eq_true (of_decide_eq_true (by first | (with_reducible assumption) | assumption) : (ji65) ≤ (x5_1.length : Int))
     obtain ⟨y265, hy265⟩ : ∃ y_ : List Int, y_ = (x5_1.take ((ji65) : Int).toNat) := ⟨_, rfl⟩
     replace H : ((impl_Crc.f kj38 y265).bind fun t270 => (if t264 = (wrap64 (t270)) then (if (x191005_1.length : Int) = 0 then (impl_ReadParts.j2 kj38 x5_1 ji65 (wrap64 (Go.bits .and .u8 (rd x5_1 0) 127)) (decide ((rd x5_1 0) > 127)) (!(decide ((rd x5_1 0) > 127))) 0 (wrap64 (8 * (wrap64 (rd l0 4)))) (wrap64 (8 * (wrap64 (rd l0 5)))) x191003_1 x191004_1 x191005_1) else (impl_ReadParts.j2 kj38 x5_1 ji65 (wrap64 (Go.bits .and .u8 (rd x5_1 0) 127)) (decide ((rd x5_1 0) > 127)) false 0 (wrap64 (8 * (wrap64 (rd l0 4)))) (wrap64 (8 * (wrap64 (rd l0 5)))) x191003_1 x191004_1 x191005_1)) else ((impl_ReadParts_1.f 3).bind fun bt332 => (some (bt332.1, bt332.2.1, bt332.2.2.1, bt332.2.2.2.1, bt332.2.2.2.2.1, bt332.2.2.2.2.2))))) = some (r1, r2, r3, r4, r5, r6) := by first | (rw [hy265]; with_reducible exact H) | (have H2_ := (Option.bind_some _ _).symm.trans H; rw [hy265]; with_reducible exact H2_) | (have H2_ := (Option.bind_some _ _).symm.trans H; with_reducible exact H2_) | with_reducible exact H | (rw [hy265]; exact H) | exact H
     have Ny265 := Aside0.mk hy265
     clear hy265
     replace H := Option.bind_eq_some_iff.mp H
     obtain ⟨t270, A710, H⟩ := H
     replace H : (if t264 = (wrap64 (t270)) then (if (x191005_1.length : Int) = 0 then (impl_ReadParts.j2 kj38 x5_1 ji65 (wrap64 (Go.bits .and .u8 (rd x5_1 0) 127)) (decide ((rd x5_1 0) > 127)) (!(decide ((rd x5_1 0) > 127))) 0 (wrap64 (8 * (wrap64 (rd l0 4)))) (wrap64 (8 * (wrap64 (rd l0 5)))) x191003_1 x191004_1 x191005_1) else (impl_ReadParts.j2 kj38 x5_1 ji65 (wrap64 (Go.bits .and .u8 (rd x5_1 0) 127)) (decide ((rd x5_1 0) > 127)) false 0 (wrap64 (8 * (wrap64 (rd l0 4)))) (wrap64 (8 * (wrap64 (rd l0 5)))) x191003_1 x191004_1 x191005_1)) else ((impl_ReadParts_1.f 3).bind fun bt332 => (some (bt332.1, bt332.2.1, bt332.2.2.1, bt332.2.2.2.1, bt332.2.2.2.2.1, bt332.2.2.2.2.2)))) = some (r1, r2, r3, r4, r5, r6) := H
     have A71 := Aside0.mk A710
     clear A710
     by_cases c72 : t264 = (wrap64 (t270))
     rotate_left
     ·rw [if_neg c72] at H
      have c72b0 : (t264 == (wrap64 (t270))) = false := beq_eq_false_iff_ne.mpr c72
      have c72b1 : (t264 != (wrap64 (t270))) = true := bne_iff_ne.mpr c72
      replace H := Option.bind_eq_some_iff.mp H
      obtain ⟨⟨t332, t333, t334, t335, t338, t341⟩, A1430, H⟩ := H
      replace H : (some (t332, t333, t334, t335, t338, t341)) = some (r1, r2, r3, r4, r5, r6) := H
      have A143 := Aside0.mk A1430
      clear A1430
      simp only [Option.some.injEq, Prod.mk.injEq] at H
      obtain ⟨rfl, rfl, rfl, rfl, rfl, rfl⟩ := H
      have q144 : (1 : Int) ≤ ((x5_1.length : Int) : Int) := of_decide_eq_true (by first | (with_reducible assumption) | assumption)
      obtain ⟨i0144, hi0144, _, hsz144, _⟩ := info_parts info5
      have hroom144 : x5_1.length ≤ co40 := (Kd.V_reads' HO_5.out).2.1
      have hC144 : Kd.F (Kd.int .u8) _ _ Ao40 x5_1.length x5_1 := (Kd.V_at (base := w.heap.size) HO_5.out).2.2
      have hcut144 := cut_from (P := Try.prog) 51 5 .i64 Try.underlying51 hi0144 1 hsz144 Ao40 x5_1.length co40 1 (by omega) q144
      have hr144 := Kd.F_cut (m := (1 : Int).toNat) (c := co40) hC144 (by omega) hroom144
      obtain ⟨A144, hA144⟩ : ∃ A1, A1 = (if co40 = (1 : Int).toNat then Ao40 else (Ao40 : Option Addr).map (·.add ((1 : Int).toNat * 1))) := ⟨_, rfl⟩
      obtain ⟨c144, hc144⟩ : ∃ c1, c1 = co40 - (1 : Int).toNat := ⟨_, rfl⟩
      have hy144 : y239.length = x5_1.length - (1 : Int).toNat := (by rw [Ny239.out, List.length_drop] <;> omega)
      rw [show (x5_1).drop (1 : Int).toNat = y239 from Ny239.out.symm] at hr144
      replace hr144 : Kd.F (Kd.int .u8) _ _ A144 y239.length y239 := (by rw [hA144]; exact hr144)
      rw [← hy144, ← hA144, ← hc144] at hcut144
      have HO243 := Aside0.mk (show Kd.V (Kd.int .u8) 5 _ w.heap.size _ (.slice A144 y239.length c144) y239 from Kd.V_mk (by rw [hy144, hc144]; exact Nat.sub_le_sub_right hroom144 _) hr144)
      have HC243 := Aside0.mk (show y239.length ≤ c144 from by rw [hy144, hc144]; exact Nat.sub_le_sub_right hroom144 _)
      clear hr144 hC144 hroom144 hi0144 hsz144 hc144
      have KY144 := Aside0.mk hy144
      have KA144 := Aside0.mk hA144
      clear hy144 hA144
      replace q144 := eq_true q144
      try go_wp2_with (first | ((with_reducible refine gate_callee (f := 147) rfl ?_); refine goesL_ (some 69) rfl rfl Try.func147 (by kernel_rfl) rfl #[.slice A144 y239.length c144] rfl (by (try simp only [List.map_toArray, List.map_cons, List.map_nil]); first | done | rfl | (simp only [List.length_drop, List.length_take]; rfl)) ?_; (with_reducible refine (impl_zget4.calls _ _ y239 t244 _ ?side1 ?side2 A54.out).mono ?_); (case side1 => repeat (first | exact (Kd.V_reads' HO243.out).2.2 | (with_reducible refine Kd.C_alloc ?_ _) | (with_reducible refine Kd.C_drewN ?_ _) | (with_reducible refine Kd.C_drew ?_))); (case side2 => exact (Kd.V_reads' HO243.out).2.1); rintro e w' ⟨rfl, ⟨nd, rfl⟩⟩; refine ⟨_, rfl, ?_⟩; (try (rw [drewN_self wc]; generalize hq_ : World.drewN wc _ = wc; have n0_ : Aside0 (Kd.V (Kd.int .u8) 5 wc w.heap.size (fun k_ => (((P0_ k_ ∨ w.heap.size ≤ k_)) ∧ (some k_ ≠ (u191003 : Value).ownBlock ∧ (some k_ ≠ (u191004 : Value).ownBlock ∧ (some k_ ≠ (u191005 : Value).ownBlock ∧ (k_ ≠ gb149 ∧ k_ ≠ gb190)))))) (.slice A144 y239.length c144) y239) := ⟨by rw [← hq_]; exact (by (with_reducible repeat (first | apply Kd.V_alloc | apply Kd.V_drewN | apply Kd.V_drew)); exact HO243.out)⟩; have n1_ : Aside0 (Kd.R Kd.bool 4 wc w.heap.size (fun k_ => ((w.heap.size ≤ k_))) u191003 x191003_1) := ⟨by rw [← hq_]; exact (by (with_reducible repeat (first | apply Kd.R_alloc | apply Kd.R_drewN | apply Kd.R_drew)); exact HO_191003.out)⟩; have n2_ : Aside0 (Kd.R (Kd.int .i64) 3 wc w.heap.size (fun k_ => ((w.heap.size ≤ k_))) u191004 x191004_1) := ⟨by rw [← hq_]; exact (by (with_reducible repeat (first | apply Kd.R_alloc | apply Kd.R_drewN | apply Kd.R_drew)); exact HO_191004.out)⟩; have n3_ : Aside0 (Kd.S (Kd.slice 5 (Kd.int .u8)) 51 wc w.heap.size (fun k_ => ((w.heap.size ≤ k_))) u191005 x191005_1) := ⟨by rw [← hq_]; exact (by (with_reducible repeat (first | apply Kd.S_alloc | apply Kd.S_drewN | apply Kd.S_drew)); exact HO_191005.out)⟩; have n4_ : Aside0 (Kd.V (Kd.int .u8) 5 wc w.heap.size (fun k_ => (((P0_ k_ ∨ w.heap.size ≤ k_)) ∧ (some k_ ≠ (u191003 : Value).ownBlock ∧ (some k_ ≠ (u191004 : Value).ownBlock ∧ (some k_ ≠ (u191005 : Value).ownBlock ∧ (k_ ≠ gb149 ∧ k_ ≠ gb190)))))) (.slice Ao40 x5_1.length co40) x5_1) := ⟨by rw [← hq_]; exact (by (with_reducible repeat (first | apply Kd.V_alloc | apply Kd.V_drewN | apply Kd.V_drew)); exact HO_5.out)⟩; have n5_ : Aside0 (wc.heap[gb149]? = some (.cells #[.int .i64 x150000_1, .int .i64 x150001_1, .int .i64 x150002_1, .slice none 0 0, .slice none 0 0, .slice none 0 0] 94 (0, 0))) := ⟨by rw [← hq_]; exact (by (with_reducible repeat (first | refine blk_drewN ?_ _ | refine blk_drew ?_ | refine blk_alloc ?_ _)); exact BK149.out)⟩; have n6_ : Aside0 (wc.heap[gb190]? = some (.cells #[.int .i64 0, .int .i64 (wrap64 (8 * (wrap64 (rd l0 4)))), .int .i64 (wrap64 (8 * (wrap64 (rd l0 5)))), u191003, u191004, u191005] 94 (0, 0))) := ⟨by rw [← hq_]; exact (by (with_reducible repeat (first | refine blk_drewN ?_ _ | refine blk_drew ?_ | refine blk_alloc ?_ _)); exact BK190.out)⟩; have n7_ : Aside0 (Below w.heap.size w wc) := ⟨by rw [← hq_]; exact (by repeat (first | (with_reducible first | exact HB.out | apply below_alloc | apply pw_below_drewN | apply below_drew1 | refine below_set ?_ GE149.out | refine below_set ?_ GE190.out) | exact HB.out))⟩; clear HO243 HO_191003 HO_191004 HO_191005 HO_5 BK149 BK190 HB hq_; have HO243 := n0_; have HO_191003 := n1_; have HO_191004 := n2_; have HO_191005 := n3_; have HO_5 := n4_; have BK149 := n5_; have BK190 := n6_; have HB := n7_; clear n0_ n1_ n2_ n3_ n4_ n5_ n6_ n7_)); have p245 : 0 ≤ (0 : Int) := (by omega); have q245 : 0 < (x5_1.length : Int) := of_decide_eq_true (by first | (with_reducible assumption) | assumption); obtain ⟨ad245, e245, hx245_0⟩ := Kd.at_int (Kd.V_reads' HO_5.out).2.2 0 p245 q245; cases e245; have qi245 : (0 < x5_1.length) = True := eq_true (by omega); (try rw [show ((0 : Int)).toNat = 0 from rfl] at hx245_0); (try rw [Addr.add_zero'] at hx245_0); replace p245 := eq_true p245; replace q245 := eq_true q245; have p246 : 0 ≤ (0 : Int) := (by omega); have q246 : 0 < (x5_1.length : Int) := of_decide_eq_true (by first | (with_reducible assumption) | assumption); obtain ⟨ad246, e246, hx246_0⟩ := Kd.at_int (Kd.V_reads' HO_5.out).2.2 0 p246 q246; obtain rfl : ad245 = ad246 := (by injection e246); have qi246 : (0 < x5_1.length) = True := eq_true (by omega); (try rw [show ((0 : Int)).toNat = 0 from rfl] at hx246_0); (try rw [Addr.add_zero'] at hx246_0); replace p246 := eq_true p246; replace q246 := eq_true q246))
      have n0_ := Aside0.mk (Kd.V_drew HO_5.out)
      have n1_ := Aside0.mk (Kd.R_drew HO_191003.out)
      have n2_ := Aside0.mk (Kd.R_drew HO_191004.out)
      have n3_ := Aside0.mk (Kd.S_drew HO_191005.out)
      have n4_ := Aside0.mk (Kd.V_drew HO243.out)
      have n5_ := Aside0.mk (blk_drew BK149.out)
      have n6_ := Aside0.mk (blk_drew BK190.out)
      have n7_ := Aside0.mk (below_drew1 HB.out)
      clear HO_5
      clear HO_191003
      clear HO_191004
      clear HO_191005
      clear HO243
      clear BK149
      clear BK190
      clear HB
      have HO_5 := n0_
      have HO_191003 := n1_
      have HO_191004 := n2_
      have HO_191005 := n3_
      have HO243 := n4_
      have BK149 := n5_
      have BK190 := n6_
      have HB := n7_
      clear n0_ n1_ n2_ n3_ n4_ n5_ n6_ n7_
      have q146 : ((ji65) : Int) ≤ ((x5_1.length : Int) : Int) := of_decide_eq_true (by first | (with_reducible assumption) | assumption)
      obtain ⟨i0146, hi0146, _, hsz146, _⟩ := info_parts info5
      have hroom146 : x5_1.length ≤ co40 := (Kd.V_reads' HO_5.out).2.1
      have hC146 : Kd.F (Kd.int .u8) _ _ (some ad245) x5_1.length x5_1 := (Kd.V_at (base := w.heap.size) HO_5.out).2.2
      have q0146 : (0 : Int) ≤ ((ji65) : Int) := of_decide_eq_true (by first | (with_reducible assumption) | assumption)
      have hcut146 := cut_from (P := Try.prog) 51 5 .i64 Try.underlying51 hi0146 1 hsz146 (some ad245) x5_1.length co40 (ji65) q0146 q146
      have hr146 := Kd.F_cut (m := ((ji65) : Int).toNat) (c := co40) hC146 (by omega) hroom146
      obtain ⟨A146, hA146⟩ : ∃ A1, A1 = (if co40 = ((ji65) : Int).toNat then (some ad245) else ((some ad245) : Option Addr).map (·.add (((ji65) : Int).toNat * 1))) := ⟨_, rfl⟩
      obtain ⟨c146, hc146⟩ : ∃ c1, c1 = co40 - ((ji65) : Int).toNat := ⟨_, rfl⟩
      have hy146 : y259.length = x5_1.length - ((ji65) : Int).toNat := (by rw [Ny259.out, List.length_drop] <;> omega)
      rw [show (x5_1).drop ((ji65) : Int).toNat = y259 from Ny259.out.symm] at hr146
      replace hr146 : Kd.F (Kd.int .u8) _ _ A146 y259.length y259 := (by rw [hA146]; exact hr146)
      rw [← hy146, ← hA146, ← hc146] at hcut146
      have HO263 := Aside0.mk (show Kd.V (Kd.int .u8) 5 _ w.heap.size _ (.slice A146 y259.length c146) y259 from Kd.V_mk (by rw [hy146, hc146]; exact Nat.sub_le_sub_right hroom146 _) hr146)
      have HC263 := Aside0.mk (show y259.length ≤ c146 from by rw [hy146, hc146]; exact Nat.sub_le_sub_right hroom146 _)
      clear hr146 hC146 hroom146 hi0146 hsz146 hc146
      have KY146 := Aside0.mk hy146
      have KA146 := Aside0.mk hA146
      clear hy146 hA146
      replace q146 := eq_true q146
      have q147 : ((ji65) : Int) ≤ ((x5_1.length : Int) : Int) := of_decide_eq_true (by first | (with_reducible assumption) | assumption)
      obtain ⟨i0147, hi0147, _, hsz147, _⟩ := info_parts info5
      have hroom147 : x5_1.length ≤ co40 := (Kd.V_reads' HO_5.out).2.1
      have hC147 : Kd.F (Kd.int .u8) _ _ (some ad245) x5_1.length x5_1 := (Kd.V_at (base := w.heap.size) HO_5.out).2.2
      have hcut147 := cut_to (P := Try.prog) 51 5 .i64 Try.underlying51 hi0147 (some ad245) x5_1.length co40 (ji65) (of_decide_eq_true (by first | (with_reducible assumption) | assumption)) q147 hroom147
      have hr147 := Kd.F_take (m := ((ji65) : Int).toNat) hC147 (by omega)
      have hy147 : y265.length = ((ji65) : Int).toNat := (by rw [Ny265.out, List.length_take]; omega)
      rw [← Ny265.out] at hr147
      rw [← hy147] at hcut147
      have HO269 := Aside0.mk (show Kd.V (Kd.int .u8) 5 _ w.heap.size _ (.slice (some ad245) y265.length co40) y265 from Kd.V_mk (by omega) hr147)
      have HC269 := Aside0.mk (show y265.length ≤ co40 from by omega)
      clear hr147 hC147 hroom147 hi0147 hsz147
      have KY147 := Aside0.mk hy147
      clear hy147
      replace q147 := eq_true q147
      refine start_ (n := 11) (S := fun w' => True) (ds := []) #[false, false, false, false, false, false, false, false, false, false, false] (by kernel_rfl) rfl rfl trivial (fun hHeld => ?_); refine with_tabW impl_ReadParts.tab20 impl_ReadParts.bits20 (fun HT_ HW_ => ?_)
      generalize wc.drew = w145 at HO_5 HO_191003 HO_191004 HO_191005 HO243 BK149 BK190 HB HO263 HO269 hHeld ⊢
      refine pure_ (i := 0) (N := some 86) (v := ?_) (a' := ?_) #[true, false, false, false, false, false, false, false, false, false, false] rfl rfl (any_of HT_.out (by kernel_rfl)) (fun _ _ _ h => h) (Or.inl ⟨by rfl, ?_⟩) ?_ ?_
      rotate_left
      ·intro w'
       go_simp
       with_reducible rfl
      rotate_left
      ·simp only [Act.put, List.setIfInBounds_toArray, List.set_cons_zero, List.set_cons_succ, i64_w, i32_w]
       rfl
      refine pure_ (i := 1) (N := some 87) (v := ?_) (a' := ?_) #[true, true, false, false, false, false, false, false, false, false, false] rfl rfl (any_of HT_.out (by kernel_rfl)) (fun _ _ _ h => h) (Or.inl ⟨by rfl, ?_⟩) ?_ ?_
      rotate_left
      ·intro w'
       go_simp
       with_reducible rfl
      rotate_left
      ·simp only [Act.put, List.setIfInBounds_toArray, List.set_cons_zero, List.set_cons_succ, i64_w, i32_w]
       rfl
      refine pure_ (i := 2) (N := some 88) (v := ?_) (a' := ?_) #[true, true, true, false, false, false, false, false, false, false, false] rfl rfl (any_of HT_.out (by kernel_rfl)) (fun _ _ _ h => h) (Or.inl ⟨by rfl, ?_⟩) ?_ ?_
      rotate_left
      ·intro w'
       go_simp
       with_reducible rfl
      rotate_left
      ·simp only [Act.put, List.setIfInBounds_toArray, List.set_cons_zero, List.set_cons_succ, i64_w, i32_w]
       rfl
      refine pure_ (i := 4) (N := some 90) (v := ?_) (a' := ?_) #[true, true, true, false, true, false, false, false, false, false, false] rfl rfl (any_of HT_.out (by kernel_rfl)) (fun _ _ _ h => h) (Or.inl ⟨by rfl, ?_⟩) ?_ ?_
      rotate_left
      ·intro w'
       go_simp
       with_reducible rfl
      rotate_left
      ·simp only [Act.put, List.setIfInBounds_toArray, List.set_cons_zero, List.set_cons_succ, i64_w, i32_w]
       rfl
      refine pure_ (i := 5) (N := some 91) (v := ?_) (a' := ?_) #[true, true, true, false, true, true, false, false, false, false, false] rfl rfl (any_of HT_.out (by kernel_rfl)) (fun _ _ _ h => h) (Or.inl ⟨by rfl, ?_⟩) ?_ ?_
      rotate_left
      ·intro w'
       go_simp
       with_reducible rfl
      rotate_left
      ·simp only [Act.put, List.setIfInBounds_toArray, List.set_cons_zero, List.set_cons_succ, i64_w, i32_w]
       rfl
      refine pure_ (i := 6) (N := some 92) (v := ?_) (a' := ?_) #[true, true, true, false, true, true, true, false, false, false, false] rfl rfl (any_of HT_.out (by kernel_rfl)) (fun _ _ _ h => h) (Or.inl ⟨by rfl, ?_⟩) ?_ ?_
      rotate_left
      ·intro w'
       go_simp
       with_reducible rfl
      rotate_left
      ·simp only [Act.put, List.setIfInBounds_toArray, List.set_cons_zero, List.set_cons_succ, i64_w, i32_w]
       rfl
      refine one_ (i := 3) (N := some 89) #[true, true, true, true, true, true, true, false, false, false, false] rfl rfl (one_of HT_.out (by kernel_rfl)) (by decide) (fun K hK => ?_)
      refine goes_ Try.func147 (by kernel_rfl) rfl #[.slice A146 y259.length c146] (by rfl) rfl rfl (by (try simp only [List.map_toArray, List.map_cons, List.map_nil]); first | done | rfl | (simp only [List.length_drop, List.length_take]; rfl)) ?_
      with_reducible refine (impl_zget4.calls _ _ y259 t264 _ ?side1 ?side2 A68.out).mono ?_
      (case side1 => repeat (first | exact (Kd.V_reads' HO263.out).2.2 | (with_reducible refine Kd.C_alloc ?_ _) | (with_reducible refine Kd.C_drewN ?_ _) | (with_reducible refine Kd.C_drew ?_)))
      (case side2 => exact (Kd.V_reads' HO263.out).2.1)
      rintro e w' ⟨rfl, ⟨nd, rfl⟩⟩
      refine ⟨_, rfl, ?_⟩
      refine hK.out _ _ trivial (fun hHeld => ?_)
      clear hK K
      refine norm_ (a' := ?_) ?_ ?_
      rotate_left
      ·show Act.put _ (some 89) _ = _
       simp only [Act.put, List.setIfInBounds_toArray, List.set_cons_zero, List.set_cons_succ, i64_w, i32_w]
       rfl
      refine one_ (i := 7) (N := some 93) #[true, true, true, true, true, true, true, true, false, false, false] rfl rfl (one_of HT_.out (by kernel_rfl)) (by decide) (fun K hK => ?_)
      refine goes_ Try.func148 (by kernel_rfl) rfl #[.slice (some ad245) y265.length co40] (by rfl) rfl rfl (by (try simp only [List.map_toArray, List.map_cons, List.map_nil]); first | done | rfl | (simp only [List.length_drop, List.length_take]; rfl)) ?_
      with_reducible refine (impl_Crc.calls kj38 _ _ y265 t270 _ ?side1 ?side2 A71.out).mono ?_
      (case side1 => repeat (first | exact (Kd.V_reads' HO269.out).2.2 | (with_reducible refine Kd.C_alloc ?_ _) | (with_reducible refine Kd.C_drewN ?_ _) | (with_reducible refine Kd.C_drew ?_)))
      (case side2 => exact (Kd.V_reads' HO269.out).2.1)
      rintro e w' ⟨rfl, ⟨nd, rfl⟩⟩
      refine ⟨_, rfl, ?_⟩
      refine hK.out _ _ trivial (fun hHeld => ?_)
      clear hK K
      refine norm_ (a' := ?_) ?_ ?_
      rotate_left
      ·show Act.put _ (some 93) _ = _
       simp only [Act.put, List.setIfInBounds_toArray, List.set_cons_zero, List.set_cons_succ, i64_w, i32_w]
       rfl
      refine pure_ (i := 8) (N := some 94) (v := ?_) (a' := ?_) #[true, true, true, true, true, true, true, true, true, false, false] rfl rfl (any_of HT_.out (by kernel_rfl)) (fun _ _ _ h => h) (Or.inl ⟨by rfl, ?_⟩) ?_ ?_
      rotate_left
      ·intro w'
       go_simp
       with_reducible rfl
      rotate_left
      ·simp only [Act.put, List.setIfInBounds_toArray, List.set_cons_zero, List.set_cons_succ, i64_w, i32_w]
       rfl
      refine pure_ (i := 9) (N := some 95) (v := ?_) (a' := ?_) #[true, true, true, true, true, true, true, true, true, true, false] rfl rfl (any_of HT_.out (by kernel_rfl)) (fun _ _ _ h => h) (Or.inl ⟨by rfl, ?_⟩) ?_ ?_
      rotate_left
      ·intro w'
       go_simp
       with_reducible rfl
      rotate_left
      ·simp only [Act.put, List.setIfInBounds_toArray, List.set_cons_zero, List.set_cons_succ, i64_w, i32_w]
       rfl
      refine pure_ (i := 10) (N := some 85) (v := ?_) (a' := ?_) #[true, true, true, true, true, true, true, true, true, true, true] rfl rfl (any_of HT_.out (by kernel_rfl)) (fun _ _ _ h => h) (Or.inl ⟨by rfl, ?_⟩) ?_ ?_
      rotate_left
      ·intro w'
       go_simp
       with_reducible rfl
      rotate_left
      ·simp only [Act.put, List.setIfInBounds_toArray, List.set_cons_zero, List.set_cons_succ, i64_w, i32_w]
       rfl
      refine done_ (done_of HT_.out (by kernel_rfl)) ?_
      try go_wp2_with (first | ((with_reducible refine gate_dst (N := 97) rfl ?_); refine goesLC_ (some 97) rfl rfl Try.func144 (by kernel_rfl) rfl (#[.int .i64 3]) rfl rfl ?ha ?_; (case ha => (try simp only [List.map_toArray, List.map_cons, List.map_nil]); first | done | rfl | (simp only [List.length_drop, List.length_take]; rfl)); (with_reducible refine (impl_ReadParts_1.calls 3 t332 t333 t334 t335 t338 t341 _ A143.out).mono ?_); rintro e w148 ⟨v336, v339, v342, rfl, ho0, ho1, ho2, hb⟩; refine ⟨_, rfl, ?_⟩; have n0_ := Aside0.mk (Kd.V_mono (Kd.V_told (Kd.V_told (Kd.V_told (Kd.V_old (by (with_reducible repeat (first | apply Kd.V_alloc | apply Kd.V_drewN | apply Kd.V_drew)); exact HO_5.out) hb) (Kd.R_base ho0)) (Kd.R_base ho1)) (Kd.S_base ho2)) (fun _ h_ => h_.1)); have n1_ := Aside0.mk (Kd.R_elder' (by (with_reducible repeat (first | apply Kd.R_alloc | apply Kd.R_drewN | apply Kd.R_drew)); exact HO_191003.out) (Kd.R_base ho0) hb); have n2_ := Aside0.mk (Kd.R_elder' (by (with_reducible repeat (first | apply Kd.R_alloc | apply Kd.R_drewN | apply Kd.R_drew)); exact HO_191004.out) (Kd.R_base ho1) hb); have n3_ := Aside0.mk (Kd.S_elder' (by (with_reducible repeat (first | apply Kd.S_alloc | apply Kd.S_drewN | apply Kd.S_drew)); exact HO_191005.out) (Kd.S_base ho2) hb); have n4_ := Aside0.mk (Kd.V_mono (Kd.V_told (Kd.V_told (Kd.V_told (Kd.V_old (by (with_reducible repeat (first | apply Kd.V_alloc | apply Kd.V_drewN | apply Kd.V_drew)); exact HO243.out) hb) (Kd.R_base ho0)) (Kd.R_base ho1)) (Kd.S_base ho2)) (fun _ h_ => h_.1)); have n5_ := Aside0.mk (Kd.V_mono (Kd.V_told (Kd.V_told (Kd.V_told (Kd.V_old (by (with_reducible repeat (first | apply Kd.V_alloc | apply Kd.V_drewN | apply Kd.V_drew)); exact HO263.out) hb) (Kd.R_base ho0)) (Kd.R_base ho1)) (Kd.S_base ho2)) (fun _ h_ => h_.1)); have n6_ := Aside0.mk (Kd.V_mono (Kd.V_told (Kd.V_told (Kd.V_told (Kd.V_old (by (with_reducible repeat (first | apply Kd.V_alloc | apply Kd.V_drewN | apply Kd.V_drew)); exact HO269.out) hb) (Kd.R_base ho0)) (Kd.R_base ho1)) (Kd.S_base ho2)) (fun _ h_ => h_.1)); have n7_ := Aside0.mk (Kd.R_lower (Kd.R_new' (Kd.R_newM (M := fun k_ => (w.heap.size ≤ k_)) ho0 (below_size (by repeat (first | (with_reducible first | exact HB.out | apply below_alloc | apply pw_below_drewN | apply below_drew1 | refine below_set ?_ GE149.out | refine below_set ?_ GE190.out) | exact HB.out))) (fun k_ h_ => h_)) (Kd.R_lt (by (with_reducible repeat (first | apply Kd.R_alloc | apply Kd.R_drewN | apply Kd.R_drew)); exact HO_191003.out))) (below_size (by repeat (first | (with_reducible first | exact HB.out | apply below_alloc | apply pw_below_drewN | apply below_drew1 | refine below_set ?_ GE149.out | refine below_set ?_ GE190.out) | exact HB.out)))); have n8_ := Aside0.mk (Kd.R_lower (Kd.R_new' (Kd.R_newM (M := fun k_ => (w.heap.size ≤ k_)) ho1 (below_size (by repeat (first | (with_reducible first | exact HB.out | apply below_alloc | apply pw_below_drewN | apply below_drew1 | refine below_set ?_ GE149.out | refine below_set ?_ GE190.out) | exact HB.out))) (fun k_ h_ => h_)) (Kd.R_lt (by (with_reducible repeat (first | apply Kd.R_alloc | apply Kd.R_drewN | apply Kd.R_drew)); exact HO_191004.out))) (below_size (by repeat (first | (with_reducible first | exact HB.out | apply below_alloc | apply pw_below_drewN | apply below_drew1 | refine below_set ?_ GE149.out | refine below_set ?_ GE190.out) | exact HB.out)))); have n9_ := Aside0.mk (Kd.S_lower (Kd.S_new' (Kd.S_newM (M := fun k_ => (w.heap.size ≤ k_)) ho2 (below_size (by repeat (first | (with_reducible first | exact HB.out | apply below_alloc | apply pw_below_drewN | apply below_drew1 | refine below_set ?_ GE149.out | refine below_set ?_ GE190.out) | exact HB.out))) (fun k_ h_ => h_)) (Kd.S_lt (by (with_reducible repeat (first | apply Kd.S_alloc | apply Kd.S_drewN | apply Kd.S_drew)); exact HO_191005.out))) (below_size (by repeat (first | (with_reducible first | exact HB.out | apply below_alloc | apply pw_below_drewN | apply below_drew1 | refine below_set ?_ GE149.out | refine below_set ?_ GE190.out) | exact HB.out)))); have n10_ := Aside0.mk (blk_below (g := gb149) (o := .cells #[.int .i64 x150000_1, .int .i64 x150001_1, .int .i64 x150002_1, .slice none 0 0, .slice none 0 0, .slice none 0 0] 94 (0, 0)) (by (with_reducible repeat (first | refine blk_drewN ?_ _ | refine blk_drew ?_ | refine blk_alloc ?_ _)); exact BK149.out) hb); have n11_ := Aside0.mk (blk_below (g := gb190) (o := .cells #[.int .i64 0, .int .i64 (wrap64 (8 * (wrap64 (rd l0 4)))), .int .i64 (wrap64 (8 * (wrap64 (rd l0 5)))), u191003, u191004, u191005] 94 (0, 0)) (by (with_reducible repeat (first | refine blk_drewN ?_ _ | refine blk_drew ?_ | refine blk_alloc ?_ _)); exact BK190.out) hb); have n12_ := Aside0.mk (below_step (by repeat (first | (with_reducible first | exact HB.out | apply below_alloc | apply pw_below_drewN | apply below_drew1 | refine below_set ?_ GE149.out | refine below_set ?_ GE190.out) | exact HB.out)) hb); clear HO_5 HO_191003 HO_191004 HO_191005 HO243 HO263 HO269 BK149 BK190 HB; have HO_5 := n0_; have HO_191003 := n1_; have HO_191004 := n2_; have HO_191005 := n3_; have HO243 := n4_; have HO263 := n5_; have HO269 := n6_; have HO337 := n7_; have HO340 := n8_; have HO343 := n9_; have BK149 := n10_; have BK190 := n11_; have HB := n12_; clear n0_ n1_ n2_ n3_ n4_ n5_ n6_ n7_ n8_ n9_ n10_ n11_ n12_; (try clear hb); (try clear hb2); (try clear hk); (try clear hi); (try clear ho0); (try clear ho1); (try clear ho2); have hnb149 := NB149_190.out; have hnc149 := NB190_149.out; have hcz150_0 : w148.cell? ⟨gb149, 0, none⟩ = some (.int .i64 x150000_1) := (blk_cell BK149.out 0).trans rfl; have hcz150_1 : w148.cell? ⟨gb149, 1, none⟩ = some (.int .i64 x150001_1) := (blk_cell BK149.out 1).trans rfl; have hcz150_2 : w148.cell? ⟨gb149, 2, none⟩ = some (.int .i64 x150002_1) := (blk_cell BK149.out 2).trans rfl; have hcz150_3 : w148.cell? ⟨gb149, 3, none⟩ = some (.slice none 0 0) := (blk_cell BK149.out 3).trans rfl; have hcz150_4 : w148.cell? ⟨gb149, 4, none⟩ = some (.slice none 0 0) := (blk_cell BK149.out 4).trans rfl; have hcz150_5 : w148.cell? ⟨gb149, 5, none⟩ = some (.slice none 0 0) := (blk_cell BK149.out 5).trans rfl; have hfz150_0 := blk_frozen BK149.out 0; have hfz150_1 := blk_frozen BK149.out 1; have hfz150_2 := blk_frozen BK149.out 2; have hfz150_3 := blk_frozen BK149.out 3; have hfz150_4 := blk_frozen BK149.out 4; have hfz150_5 := blk_frozen BK149.out 5; obtain ⟨Ao151, co151, eo151⟩ := Kd.R_slice HO337.out; subst eo151; obtain ⟨Ao152, co152, eo152⟩ := Kd.R_slice HO340.out; subst eo152; obtain ⟨Ao153, co153, eo153⟩ := Kd.S_slice HO343.out; subst eo153))
      refine bodyPost_ret (results_cell_row rfl _ _ gb149 94 #[.int .i64 t332, .int .i64 t333, .int .i64 t334, .slice Ao151 t335.length co151, .slice Ao152 t338.length co152, .slice Ao153 t341.length co153] (0, 0) _ rfl (set6_blk BK149.out) Try.underlying94 rfl (by kernel_rfl)) rfl ?_
      exact ⟨_, _, _, by first | rfl | (simp [*, errW_none, errW_some] <;> rfl), by (with_reducible repeat (first | apply Kd.R_alloc | apply Kd.R_drewN | apply Kd.R_drew)); exact Kd.R_mono (set6_R (Kd.R_types HO337.out BK149.out (by decide)) (fun _ hk => hk.2)) (fun _ hk => hk.1.1.1), by (with_reducible repeat (first | apply Kd.R_alloc | apply Kd.R_drewN | apply Kd.R_drew)); exact Kd.R_mono (set6_R (Kd.R_types HO340.out BK149.out (by decide)) (fun _ hk => hk.2)) (fun _ hk => hk.1.1.1), by (with_reducible repeat (first | apply Kd.S_alloc | apply Kd.S_drewN | apply Kd.S_drew)); exact Kd.S_mono (set6_S (Kd.S_types HO343.out BK149.out (by decide)) (fun _ hk => hk.2)) (fun _ hk => hk.1.1.1), by repeat (first | (with_reducible first | exact HB.out | apply below_alloc | apply pw_below_drewN | apply below_drew1 | refine below_set ?_ GE149.out | refine below_set ?_ GE190.out) | exact HB.out)⟩
     rw [if_pos c72] at H
     have c72b0 : (t264 == (wrap64 (t270))) = true := beq_iff_eq.mpr c72
     have c72b1 : (t264 != (wrap64 (t270))) = false := bne_eq_false_iff_eq.mpr c72
     clear c72
     have HC73 := Aside0.mk H
     clear H
     have q74 : (1 : Int) ≤ ((x5_1.length : Int) : Int) := of_decide_eq_true (by first | (with_reducible assumption) | assumption)
     obtain ⟨i074, hi074, _, hsz74, _⟩ := info_parts info5
     have hroom74 : x5_1.length ≤ co40 := (Kd.V_reads' HO_5.out).2.1
     have hC74 : Kd.F (Kd.int .u8) _ _ Ao40 x5_1.length x5_1 := (Kd.V_at (base := w.heap.size) HO_5.out).2.2
     have hcut74 := cut_from (P := Try.prog) 51 5 .i64 Try.underlying51 hi074 1 hsz74 Ao40 x5_1.length co40 1 (by omega) q74
     have hr74 := Kd.F_cut (m := (1 : Int).toNat) (c := co40) hC74 (by omega) hroom74
     obtain ⟨A74, hA74⟩ : ∃ A1, A1 = (if co40 = (1 : Int).toNat then Ao40 else (Ao40 : Option Addr).map (·.add ((1 : Int).toNat * 1))) := ⟨_, rfl⟩
     obtain ⟨c74, hc74⟩ : ∃ c1, c1 = co40 - (1 : Int).toNat := ⟨_, rfl⟩
     have hy74 : y239.length = x5_1.length - (1 : Int).toNat := (by rw [Ny239.out, List.length_drop] <;> omega)
     rw [show (x5_1).drop (1 : Int).toNat = y239 from Ny239.out.symm] at hr74
     replace hr74 : Kd.F (Kd.int .u8) _ _ A74 y239.length y239 := (by rw [hA74]; exact hr74)
     rw [← hy74, ← hA74, ← hc74] at hcut74
     have HO243 := Aside0.mk (show Kd.V (Kd.int .u8) 5 _ w.heap.size _ (.slice A74 y239.length c74) y239 from Kd.V_mk (by rw [hy74, hc74]; exact Nat.sub_le_sub_right hroom74 _) hr74)
     have HC243 := Aside0.mk (show y239.length ≤ c74 from by rw [hy74, hc74]; exact Nat.sub_le_sub_right hroom74 _)
     clear hr74 hC74 hroom74 hi074 hsz74 hc74
     have KY74 := Aside0.mk hy74
     have KA74 := Aside0.mk hA74
     clear hy74 hA74
     replace q74 := eq_true q74
     try go_wp2_with (first | ((with_reducible refine gate_callee (f := 147) rfl ?_); refine goesL_ (some 69) rfl rfl Try.func147 (by kernel_rfl) rfl #[.slice A74 y239.length c74] rfl (by (try simp only [List.map_toArray, List.map_cons, List.map_nil]); first | done | rfl | (simp only [List.length_drop, List.length_take]; rfl)) ?_; (with_reducible refine (impl_zget4.calls _ _ y239 t244 _ ?side1 ?side2 A54.out).mono ?_); (case side1 => repeat (first | exact (Kd.V_reads' HO243.out).2.2 | (with_reducible refine Kd.C_alloc ?_ _) | (with_reducible refine Kd.C_drewN ?_ _) | (with_reducible refine Kd.C_drew ?_))); (case side2 => exact (Kd.V_reads' HO243.out).2.1); rintro e w' ⟨rfl, ⟨nd, rfl⟩⟩; refine ⟨_, rfl, ?_⟩; have p245 : 0 ≤ (0 : Int) := (by omega); have q245 : 0 < (x5_1.length : Int) := of_decide_eq_true (by first | (with_reducible assumption) | assumption); obtain ⟨ad245, e245, hx245_0⟩ := Kd.at_int (Kd.V_reads' HO_5.out).2.2 0 p245 q245; cases e245; have qi245 : (0 < x5_1.length) = True := eq_true (by omega); (try rw [show ((0 : Int)).toNat = 0 from rfl] at hx245_0); (try rw [Addr.add_zero'] at hx245_0); replace p245 := eq_true p245; replace q245 := eq_true q245; have p246 : 0 ≤ (0 : Int) := (by omega); have q246 : 0 < (x5_1.length : Int) := of_decide_eq_true (by first | (with_reducible assumption) | assumption); obtain ⟨ad246, e246, hx246_0⟩ := Kd.at_int (Kd.V_reads' HO_5.out).2.2 0 p246 q246; obtain rfl : ad245 = ad246 := (by injection e246); have qi246 : (0 < x5_1.length) = True := eq_true (by omega); (try rw [show ((0 : Int)).toNat = 0 from rfl] at hx246_0); (try rw [Addr.add_zero'] at hx246_0); replace p246 := eq_true p246; replace q246 := eq_true q246))
     (try (rw [drewN_self wc]; generalize hq_ : World.drewN wc _ = wc; have n0_ : Aside0 (Kd.V (Kd.int .u8) 5 wc w.heap.size (fun k_ => (((P0_ k_ ∨ w.heap.size ≤ k_)) ∧ (some k_ ≠ (u191003 : Value).ownBlock ∧ (some k_ ≠ (u191004 : Value).ownBlock ∧ (some k_ ≠ (u191005 : Value).ownBlock ∧ (k_ ≠ gb149 ∧ k_ ≠ gb190)))))) (.slice A74 y239.length c74) y239) := ⟨by rw [← hq_]; exact (by (with_reducible repeat (first | apply Kd.V_alloc | apply Kd.V_drewN | apply Kd.V_drew)); exact HO243.out)⟩; have n1_ : Aside0 (Kd.R Kd.bool 4 wc w.heap.size (fun k_ => ((w.heap.size ≤ k_))) u191003 x191003_1) := ⟨by rw [← hq_]; exact (by (with_reducible repeat (first | apply Kd.R_alloc | apply Kd.R_drewN | apply Kd.R_drew)); exact HO_191003.out)⟩; have n2_ : Aside0 (Kd.R (Kd.int .i64) 3 wc w.heap.size (fun k_ => ((w.heap.size ≤ k_))) u191004 x191004_1) := ⟨by rw [← hq_]; exact (by (with_reducible repeat (first | apply Kd.R_alloc | apply Kd.R_drewN | apply Kd.R_drew)); exact HO_191004.out)⟩; have n3_ : Aside0 (Kd.S (Kd.slice 5 (Kd.int .u8)) 51 wc w.heap.size (fun k_ => ((w.heap.size ≤ k_))) u191005 x191005_1) := ⟨by rw [← hq_]; exact (by (with_reducible repeat (first | apply Kd.S_alloc | apply Kd.S_drewN | apply Kd.S_drew)); exact HO_191005.out)⟩; have n4_ : Aside0 (Kd.V (Kd.int .u8) 5 wc w.heap.size (fun k_ => (((P0_ k_ ∨ w.heap.size ≤ k_)) ∧ (some k_ ≠ (u191003 : Value).ownBlock ∧ (some k_ ≠ (u191004 : Value).ownBlock ∧ (some k_ ≠ (u191005 : Value).ownBlock ∧ (k_ ≠ gb149 ∧ k_ ≠ gb190)))))) (.slice (some ad245) x5_1.length co40) x5_1) := ⟨by rw [← hq_]; exact (by (with_reducible repeat (first | apply Kd.V_alloc | apply Kd.V_drewN | apply Kd.V_drew)); exact HO_5.out)⟩; have n5_ : Aside0 (wc.heap[gb149]? = some (.cells #[.int .i64 x150000_1, .int .i64 x150001_1, .int .i64 x150002_1, .slice none 0 0, .slice none 0 0, .slice none 0 0] 94 (0, 0))) := ⟨by rw [← hq_]; exact (by (with_reducible repeat (first | refine blk_drewN ?_ _ | refine blk_drew ?_ | refine blk_alloc ?_ _)); exact BK149.out)⟩; have n6_ : Aside0 (wc.heap[gb190]? = some (.cells #[.int .i64 0, .int .i64 (wrap64 (8 * (wrap64 (rd l0 4)))), .int .i64 (wrap64 (8 * (wrap64 (rd l0 5)))), u191003, u191004, u191005] 94 (0, 0))) := ⟨by rw [← hq_]; exact (by (with_reducible repeat (first | refine blk_drewN ?_ _ | refine blk_drew ?_ | refine blk_alloc ?_ _)); exact BK190.out)⟩; have n7_ : Aside0 (Below w.heap.size w wc) := ⟨by rw [← hq_]; exact (by repeat (first | (with_reducible first | exact HB.out | apply below_alloc | apply pw_below_drewN | apply below_drew1 | refine below_set ?_ GE149.out | refine below_set ?_ GE190.out) | exact HB.out))⟩; clear HO243 HO_191003 HO_191004 HO_191005 HO_5 BK149 BK190 HB hq_; have HO243 := n0_; have HO_191003 := n1_; have HO_191004 := n2_; have HO_191005 := n3_; have HO_5 := n4_; have BK149 := n5_; have BK190 := n6_; have HB := n7_; clear n0_ n1_ n2_ n3_ n4_ n5_ n6_ n7_))
     have n0_ := Aside0.mk (Kd.V_drew HO_5.out)
     have n1_ := Aside0.mk (Kd.R_drew HO_191003.out)
     have n2_ := Aside0.mk (Kd.R_drew HO_191004.out)
     have n3_ := Aside0.mk (Kd.S_drew HO_191005.out)
     have n4_ := Aside0.mk (Kd.V_drew HO243.out)
     have n5_ := Aside0.mk (blk_drew BK149.out)
     have n6_ := Aside0.mk (blk_drew BK190.out)
     have n7_ := Aside0.mk (below_drew1 HB.out)
     clear HO_5
     clear HO_191003
     clear HO_191004
     clear HO_191005
     clear HO243
     clear BK149
     clear BK190
     clear HB
     have HO_5 := n0_
     have HO_191003 := n1_
     have HO_191004 := n2_
     have HO_191005 := n3_
     have HO243 := n4_
     have BK149 := n5_
     have BK190 := n6_
     have HB := n7_
     clear n0_ n1_ n2_ n3_ n4_ n5_ n6_ n7_
     have q76 : ((ji65) : Int) ≤ ((x5_1.length : Int) : Int) := of_decide_eq_true (by first | (with_reducible assumption) | assumption)
     obtain ⟨i076, hi076, _, hsz76, _⟩ := info_parts info5
     have hroom76 : x5_1.length ≤ co40 := (Kd.V_reads' HO_5.out).2.1
     have hC76 : Kd.F (Kd.int .u8) _ _ (some ad245) x5_1.length x5_1 := (Kd.V_at (base := w.heap.size) HO_5.out).2.2
     have q076 : (0 : Int) ≤ ((ji65) : Int) := of_decide_eq_true (by first | (with_reducible assumption) | assumption)
     have hcut76 := cut_from (P := Try.prog) 51 5 .i64 Try.underlying51 hi076 1 hsz76 (some ad245) x5_1.length co40 (ji65) q076 q76
     have hr76 := Kd.F_cut (m := ((ji65) : Int).toNat) (c := co40) hC76 (by omega) hroom76
     obtain ⟨A76, hA76⟩ : ∃ A1, A1 = (if co40 = ((ji65) : Int).toNat then (some ad245) else ((some ad245) : Option Addr).map (·.add (((ji65) : Int).toNat * 1))) := ⟨_, rfl⟩
     obtain ⟨c76, hc76⟩ : ∃ c1, c1 = co40 - ((ji65) : Int).toNat := ⟨_, rfl⟩
     have hy76 : y259.length = x5_1.length - ((ji65) : Int).toNat := (by rw [Ny259.out, List.length_drop] <;> omega)
     rw [show (x5_1).drop ((ji65) : Int).toNat = y259 from Ny259.out.symm] at hr76
     replace hr76 : Kd.F (Kd.int .u8) _ _ A76 y259.length y259 := (by rw [hA76]; exact hr76)
     rw [← hy76, ← hA76, ← hc76] at hcut76
     have HO263 := Aside0.mk (show Kd.V (Kd.int .u8) 5 _ w.heap.size _ (.slice A76 y259.length c76) y259 from Kd.V_mk (by rw [hy76, hc76]; exact Nat.sub_le_sub_right hroom76 _) hr76)
     have HC263 := Aside0.mk (show y259.length ≤ c76 from by rw [hy76, hc76]; exact Nat.sub_le_sub_right hroom76 _)
     clear hr76 hC76 hroom76 hi076 hsz76 hc76
     have KY76 := Aside0.mk hy76
     have KA76 := Aside0.mk hA76
     clear hy76 hA76
     replace q76 := eq_true q76
     have q77 : ((ji65) : Int) ≤ ((x5_1.length : Int) : Int) := of_decide_eq_true (by first | (with_reducible assumption) | assumption)
     obtain ⟨i077, hi077, _, hsz77, _⟩ := info_parts info5
     have hroom77 : x5_1.length ≤ co40 := (Kd.V_reads' HO_5.out).2.1
     have hC77 : Kd.F (Kd.int .u8) _ _ (some ad245) x5_1.length x5_1 := (Kd.V_at (base := w.heap.size) HO_5.out).2.2
     have hcut77 := cut_to (P := Try.prog) 51 5 .i64 Try.underlying51 hi077 (some ad245) x5_1.length co40 (ji65) (of_decide_eq_true (by first | (with_reducible assumption) | assumption)) q77 hroom77
     have hr77 := Kd.F_take (m := ((ji65) : Int).toNat) hC77 (by omega)
     have hy77 : y265.length = ((ji65) : Int).toNat := (by rw [Ny265.out, List.length_take]; omega)
     rw [← Ny265.out] at hr77
     rw [← hy77] at hcut77
     have HO269 := Aside0.mk (show Kd.V (Kd.int .u8) 5 _ w.heap.size _ (.slice (some ad245) y265.length co40) y265 from Kd.V_mk (by omega) hr77)
     have HC269 := Aside0.mk (show y265.length ≤ co40 from by omega)
     clear hr77 hC77 hroom77 hi077 hsz77
     have KY77 := Aside0.mk hy77
     clear hy77
     replace q77 := eq_true q77
     refine start_ (n := 11) (S := fun w' => True) (ds := []) #[false, false, false, false, false, false, false, false, false, false, false] (by kernel_rfl) rfl rfl trivial (fun hHeld => ?_); refine with_tabW impl_ReadParts.tab20 impl_ReadParts.bits20 (fun HT_ HW_ => ?_)
     generalize wc.drew = w75 at HO_5 HO_191003 HO_191004 HO_191005 HO243 BK149 BK190 HB HO263 HO269 hHeld ⊢
     refine pure_ (i := 0) (N := some 86) (v := ?_) (a' := ?_) #[true, false, false, false, false, false, false, false, false, false, false] rfl rfl (any_of HT_.out (by kernel_rfl)) (fun _ _ _ h => h) (Or.inl ⟨by rfl, ?_⟩) ?_ ?_
     rotate_left
     ·intro w'
      go_simp
      with_reducible rfl
     rotate_left
     ·simp only [Act.put, List.setIfInBounds_toArray, List.set_cons_zero, List.set_cons_succ, i64_w, i32_w]
      rfl
     refine pure_ (i := 1) (N := some 87) (v := ?_) (a' := ?_) #[true, true, false, false, false, false, false, false, false, false, false] rfl rfl (any_of HT_.out (by kernel_rfl)) (fun _ _ _ h => h) (Or.inl ⟨by rfl, ?_⟩) ?_ ?_
     rotate_left
     ·intro w'
      go_simp
      with_reducible rfl
     rotate_left
     ·simp only [Act.put, List.setIfInBounds_toArray, List.set_cons_zero, List.set_cons_succ, i64_w, i32_w]
      rfl
     refine pure_ (i := 2) (N := some 88) (v := ?_) (a' := ?_) #[true, true, true, false, false, false, false, false, false, false, false] rfl rfl (any_of HT_.out (by kernel_rfl)) (fun _ _ _ h => h) (Or.inl ⟨by rfl, ?_⟩) ?_ ?_
     rotate_left
     ·intro w'
      go_simp
      with_reducible rfl
     rotate_left
     ·simp only [Act.put, List.setIfInBounds_toArray, List.set_cons_zero, List.set_cons_succ, i64_w, i32_w]
      rfl
     refine pure_ (i := 4) (N := some 90) (v := ?_) (a' := ?_) #[true, true, true, false, true, false, false, false, false, false, false] rfl rfl (any_of HT_.out (by kernel_rfl)) (fun _ _ _ h => h) (Or.inl ⟨by rfl, ?_⟩) ?_ ?_
     rotate_left
     ·intro w'
      go_simp
      with_reducible rfl
     rotate_left
     ·simp only [Act.put, List.setIfInBounds_toArray, List.set_cons_zero, List.set_cons_succ, i64_w, i32_w]
      rfl
     refine pure_ (i := 5) (N := some 91) (v := ?_) (a' := ?_) #[true, true, true, false, true, true, false, false, false, false, false] rfl rfl (any_of HT_.out (by kernel_rfl)) (fun _ _ _ h => h) (Or.inl ⟨by rfl, ?_⟩) ?_ ?_
     rotate_left
     ·intro w'
      go_simp
      with_reducible rfl
     rotate_left
     ·simp only [Act.put, List.setIfInBounds_toArray, List.set_cons_zero, List.set_cons_succ, i64_w, i32_w]
      rfl
     refine pure_ (i := 6) (N := some 92) (v := ?_) (a' := ?_) #[true, true, true, false, true, true, true, false, false, false, false] rfl rfl (any_of HT_.out (by kernel_rfl)) (fun _ _ _ h => h) (Or.inl ⟨by rfl, ?_⟩) ?_ ?_
     rotate_left
     ·intro w'
      go_simp
      with_reducible rfl
     rotate_left
     ·simp only [Act.put, List.setIfInBounds_toArray, List.set_cons_zero, List.set_cons_succ, i64_w, i32_w]
      rfl
     refine one_ (i := 3) (N := some 89) #[true, true, true, true, true, true, true, false, false, false, false] rfl rfl (one_of HT_.out (by kernel_rfl)) (by decide) (fun K hK => ?_)
     refine goes_ Try.func147 (by kernel_rfl) rfl #[.slice A76 y259.length c76] (by rfl) rfl rfl (by (try simp only [List.map_toArray, List.map_cons, List.map_nil]); first | done | rfl | (simp only [List.length_drop, List.length_take]; rfl)) ?_
     with_reducible refine (impl_zget4.calls _ _ y259 t264 _ ?side1 ?side2 A68.out).mono ?_
     (case side1 => repeat (first | exact (Kd.V_reads' HO263.out).2.2 | (with_reducible refine Kd.C_alloc ?_ _) | (with_reducible refine Kd.C_drewN ?_ _) | (with_reducible refine Kd.C_drew ?_)))
     (case side2 => exact (Kd.V_reads' HO263.out).2.1)
     rintro e w' ⟨rfl, ⟨nd, rfl⟩⟩
     refine ⟨_, rfl, ?_⟩
     refine hK.out _ _ trivial (fun hHeld => ?_)
     clear hK K
     refine norm_ (a' := ?_) ?_ ?_
     rotate_left
     ·show Act.put _ (some 89) _ = _
      simp only [Act.put, List.setIfInBounds_toArray, List.set_cons_zero, List.set_cons_succ, i64_w, i32_w]
      rfl
     refine one_ (i := 7) (N := some 93) #[true, true, true, true, true, true, true, true, false, false, false] rfl rfl (one_of HT_.out (by kernel_rfl)) (by decide) (fun K hK => ?_)
     refine goes_ Try.func148 (by kernel_rfl) rfl #[.slice (some ad245) y265.length co40] (by rfl) rfl rfl (by (try simp only [List.map_toArray, List.map_cons, List.map_nil]); first | done | rfl | (simp only [List.length_drop, List.length_take]; rfl)) ?_
     with_reducible refine (impl_Crc.calls kj38 _ _ y265 t270 _ ?side1 ?side2 A71.out).mono ?_
     (case side1 => repeat (first | exact (Kd.V_reads' HO269.out).2.2 | (with_reducible refine Kd.C_alloc ?_ _) | (with_reducible refine Kd.C_drewN ?_ _) | (with_reducible refine Kd.C_drew ?_)))
     (case side2 => exact (Kd.V_reads' HO269.out).2.1)
     rintro e w' ⟨rfl, ⟨nd, rfl⟩⟩
     refine ⟨_, rfl, ?_⟩
     refine hK.out _ _ trivial (fun hHeld => ?_)
     clear hK K
     refine norm_ (a' := ?_) ?_ ?_
     rotate_left
     ·show Act.put _ (some 93) _ = _
      simp only [Act.put, List.setIfInBounds_toArray, List.set_cons_zero, List.set_cons_succ, i64_w, i32_w]
      rfl
     refine pure_ (i := 8) (N := some 94) (v := ?_) (a' := ?_) #[true, true, true, true, true, true, true, true, true, false, false] rfl rfl (any_of HT_.out (by kernel_rfl)) (fun _ _ _ h => h) (Or.inl ⟨by rfl, ?_⟩) ?_ ?_
     rotate_left
     ·intro w'
      go_simp
      with_reducible rfl
     rotate_left
     ·simp only [Act.put, List.setIfInBounds_toArray, List.set_cons_zero, List.set_cons_succ, i64_w, i32_w]
      rfl
     refine pure_ (i := 9) (N := some 95) (v := ?_) (a' := ?_) #[true, true, true, true, true, true, true, true, true, true, false] rfl rfl (any_of HT_.out (by kernel_rfl)) (fun _ _ _ h => h) (Or.inl ⟨by rfl, ?_⟩) ?_ ?_
     rotate_left
     ·intro w'
      go_simp
      with_reducible rfl
     rotate_left
     ·simp only [Act.put, List.setIfInBounds_toArray, List.set_cons_zero, List.set_cons_succ, i64_w, i32_w]
      rfl
     refine pure_ (i := 10) (N := some 85) (v := ?_) (a' := ?_) #[true, true, true, true, true, true, true, true, true, true, true] rfl rfl (any_of HT_.out (by kernel_rfl)) (fun _ _ _ h => h) (Or.inl ⟨by rfl, ?_⟩) ?_ ?_
     rotate_left
     ·intro w'
      go_simp
      with_reducible rfl
     rotate_left
     ·simp only [Act.put, List.setIfInBounds_toArray, List.set_cons_zero, List.set_cons_succ, i64_w, i32_w]
      rfl
     refine done_ (done_of HT_.out (by kernel_rfl)) ?_
     go_upto_region 22 with (fail)
     go_cut [98] (fun v98 wc => ∃ (kq : Nat) (x98_72 : Bool), v98 = .bool x98_72 ∧ Aside0 (impl_ReadParts.j2 kq x5_1 ji65 (wrap64 (Go.bits .and .u8 (rd x5_1 0) 127)) (decide ((rd x5_1 0) > 127)) x98_72 0 (wrap64 (8 * (wrap64 (rd l0 4)))) (wrap64 (8 * (wrap64 (rd l0 5)))) x191003_1 x191004_1 x191005_1 = some (r1, r2, r3, r4, r5, r6)) ∧ Aside0 (kq ≤ kj38) ∧ Aside0 (Kd.V (Kd.int .u8) 5 wc w.heap.size (fun k_ => (P0_ k_ ∨ w.heap.size ≤ k_) ∧ some k_ ≠ (u191003 : Value).ownBlock ∧ some k_ ≠ (u191004 : Value).ownBlock ∧ some k_ ≠ (u191005 : Value).ownBlock ∧ k_ ≠ gb149 ∧ k_ ≠ gb190) (.slice (some ad245) x5_1.length co40) x5_1) ∧ Aside0 (Kd.R Kd.bool 4 wc w.heap.size (fun k_ => (w.heap.size ≤ k_)) u191003 x191003_1) ∧ Aside0 (Kd.R (Kd.int .i64) 3 wc w.heap.size (fun k_ => (w.heap.size ≤ k_)) u191004 x191004_1) ∧ Aside0 (Kd.S (Kd.slice 5 (Kd.int .u8)) 51 wc w.heap.size (fun k_ => (w.heap.size ≤ k_)) u191005 x191005_1) ∧ Aside0 (wc.heap[gb149]? = some (.cells #[.int .i64 x150000_1, .int .i64 x150001_1, .int .i64 x150002_1, (.slice none 0 0), (.slice none 0 0), (.slice none 0 0)] 94 (0, 0))) ∧ Aside0 (wc.heap[gb190]? = some (.cells #[.int .i64 0, .int .i64 (wrap64 (8 * (wrap64 (rd l0 4)))), .int .i64 (wrap64 (8 * (wrap64 (rd l0 5)))), u191003, u191004, u191005] 94 (0, 0))) ∧ Aside0 (Below w.heap.size w wc))
     case first =>
      have H := HC73.out
      clear HC73
      by_cases c78 : (x191005_1.length : Int) = 0
      ·rw [if_pos c78] at H
       have c78b0 : ((x191005_1.length : Int) == 0) = true := beq_iff_eq.mpr c78
       have c78b1 : ((x191005_1.length : Int) != 0) = false := bne_eq_false_iff_eq.mpr c78
       clear c78
       (first | rw [c78b0] | (simp only [i64_w, i32_w]; rw [c78b0]) | skip)
       have H' := Aside0.mk H
       clear H
       have hnb79 := NB190_149.out
       have hnc79 := NB149_190.out
       have hcz80_0 : w75.cell? ⟨gb190, 0, none⟩ = some (.int .i64 0) := (blk_cell BK190.out 0).trans rfl
       have hcz80_1 : w75.cell? ⟨gb190, 1, none⟩ = some (.int .i64 (wrap64 (8 * (wrap64 (rd l0 4))))) := (blk_cell BK190.out 1).trans rfl
       have hcz80_2 : w75.cell? ⟨gb190, 2, none⟩ = some (.int .i64 (wrap64 (8 * (wrap64 (rd l0 5))))) := (blk_cell BK190.out 2).trans rfl
       have hcz80_3 : w75.cell? ⟨gb190, 3, none⟩ = some (u191003) := (blk_cell BK190.out 3).trans rfl
       have hcz80_4 : w75.cell? ⟨gb190, 4, none⟩ = some (u191004) := (blk_cell BK190.out 4).trans rfl
       have hcz80_5 : w75.cell? ⟨gb190, 5, none⟩ = some (u191005) := (blk_cell BK190.out 5).trans rfl
       have hfz80_0 := blk_frozen BK190.out 0
       have hfz80_1 := blk_frozen BK190.out 1
       have hfz80_2 := blk_frozen BK190.out 2
       have hfz80_3 := blk_frozen BK190.out 3
       have hfz80_4 := blk_frozen BK190.out 4
       have hfz80_5 := blk_frozen BK190.out 5
       obtain ⟨Ao81, co81, eo81⟩ := Kd.S_slice HO_191005.out
       subst eo81
       go_wp2
       go_meet
       case rel => exact ⟨_, (!(decide ((rd x5_1 0) > 127))), (by first | rfl | (simp; done) | (simp [*]; done)), H', ⟨by have := HK1.out; have := HJ38.out; first | omega | exact Nat.le_refl _⟩, ⟨by (with_reducible repeat (first | apply Kd.V_alloc | apply Kd.V_drewN | apply Kd.V_drew)); exact HO_5.out⟩, ⟨by (with_reducible repeat (first | apply Kd.R_alloc | apply Kd.R_drewN | apply Kd.R_drew)); exact HO_191003.out⟩, ⟨by (with_reducible repeat (first | apply Kd.R_alloc | apply Kd.R_drewN | apply Kd.R_drew)); exact HO_191004.out⟩, ⟨by (with_reducible repeat (first | apply Kd.S_alloc | apply Kd.S_drewN | apply Kd.S_drew)); exact HO_191005.out⟩, ⟨by (with_reducible repeat (first | refine blk_drewN ?_ _ | refine blk_drew ?_ | refine blk_alloc ?_ _)); exact BK149.out⟩, ⟨by (with_reducible repeat (first | refine blk_drewN ?_ _ | refine blk_drew ?_ | refine blk_alloc ?_ _)); exact BK190.out⟩, ⟨by repeat (first | (with_reducible first | exact HB.out | apply below_alloc | apply pw_below_drewN | apply below_drew1 | refine below_set ?_ GE149.out | refine below_set ?_ GE190.out) | exact HB.out)⟩⟩
      rw [if_neg c78] at H
      have c78b0 : ((x191005_1.length : Int) == 0) = false := beq_eq_false_iff_ne.mpr c78
      have c78b1 : ((x191005_1.length : Int) != 0) = true := bne_iff_ne.mpr c78
      have c78b2 : ¬ (x191005_1 = []) := fun h_ => c78 (by rw [h_]; rfl)
      (first | rw [c78b0] | (simp only [i64_w, i32_w]; rw [c78b0]) | skip)
      have H' := Aside0.mk H
      clear H
      have hnb82 := NB190_149.out
      have hnc82 := NB149_190.out
      have hcz83_0 : w75.cell? ⟨gb190, 0, none⟩ = some (.int .i64 0) := (blk_cell BK190.out 0).trans rfl
      have hcz83_1 : w75.cell? ⟨gb190, 1, none⟩ = some (.int .i64 (wrap64 (8 * (wrap64 (rd l0 4))))) := (blk_cell BK190.out 1).trans rfl
      have hcz83_2 : w75.cell? ⟨gb190, 2, none⟩ = some (.int .i64 (wrap64 (8 * (wrap64 (rd l0 5))))) := (blk_cell BK190.out 2).trans rfl
      have hcz83_3 : w75.cell? ⟨gb190, 3, none⟩ = some (u191003) := (blk_cell BK190.out 3).trans rfl
      have hcz83_4 : w75.cell? ⟨gb190, 4, none⟩ = some (u191004) := (blk_cell BK190.out 4).trans rfl
      have hcz83_5 : w75.cell? ⟨gb190, 5, none⟩ = some (u191005) := (blk_cell BK190.out 5).trans rfl
      have hfz83_0 := blk_frozen BK190.out 0
      have hfz83_1 := blk_frozen BK190.out 1
      have hfz83_2 := blk_frozen BK190.out 2
      have hfz83_3 := blk_frozen BK190.out 3
      have hfz83_4 := blk_frozen BK190.out 4
      have hfz83_5 := blk_frozen BK190.out 5
      obtain ⟨Ao84, co84, eo84⟩ := Kd.S_slice HO_191005.out
      subst eo84
      go_wp2
      go_meet
      case rel => exact ⟨_, (false), (by first | rfl | (simp; done) | (simp [*]; done)), H', ⟨by have := HK1.out; have := HJ38.out; first | omega | exact Nat.le_refl _⟩, ⟨by (with_reducible repeat (first | apply Kd.V_alloc | apply Kd.V_drewN | apply Kd.V_drew)); exact HO_5.out⟩, ⟨by (with_reducible repeat (first | apply Kd.R_alloc | apply Kd.R_drewN | apply Kd.R_drew)); exact HO_191003.out⟩, ⟨by (with_reducible repeat (first | apply Kd.R_alloc | apply Kd.R_drewN | apply Kd.R_drew)); exact HO_191004.out⟩, ⟨by (with_reducible repeat (first | apply Kd.S_alloc | apply Kd.S_drewN | apply Kd.S_drew)); exact HO_191005.out⟩, ⟨by (with_reducible repeat (first | refine blk_drewN ?_ _ | refine blk_drew ?_ | refine blk_alloc ?_ _)); exact BK149.out⟩, ⟨by (with_reducible repeat (first | refine blk_drewN ?_ _ | refine blk_drew ?_ | refine blk_alloc ?_ _)); exact BK190.out⟩, ⟨by repeat (first | (with_reducible first | exact HB.out | apply below_alloc | apply pw_below_drewN | apply below_drew1 | refine below_set ?_ GE149.out | refine below_set ?_ GE190.out) | exact HB.out)⟩⟩
     case rest =>
      clear HC73
      try clear c1
      try clear p1
      try clear q1
      try clear hx1
      try clear qi1
      try clear c2
      try clear c2b0
      try clear c2b1
      try clear c2b2
      try clear p2
      try clear q2
      try clear hx2
      try clear qi2
      try clear c3
      try clear q3
      try clear c4
      try clear q4
      try clear c5
      try clear q5
      try clear c6
      try clear p6
      try clear c7
      try clear q7
      try clear c8
      try clear c11
      try clear c11b0
      try clear c11b1
      try clear c12
      try clear c12b0
      try clear c12b1
      try clear c12b2
      try clear c14
      try clear p18
      try clear q18
      try clear hx18
      try clear qi18
      try clear c20
      try clear c20b0
      try clear c20b1
      try clear c20b2
      try clear c21
      try clear c21b0
      try clear c21b1
      try clear c21b2
      try clear c23
      try clear c24
      try clear c24b0
      try clear c24b1
      try clear p24
      try clear q24
      try clear hx24
      try clear qi24
      try clear c35
      try clear c37
      try clear q37
      try clear c38
      try clear c38b0
      try clear c38b1
      try clear c38b2
      try clear c41
      try clear c41b0
      try clear c41b1
      try clear c41b2
      try clear c42
      try clear c42b0
      try clear c42b1
      try clear c44
      try clear q44
      try clear c45
      try clear c48
      try clear c53
      try clear c53b0
      try clear c53b1
      try clear c55
      try clear c55b0
      try clear c55b1
      try clear c55b2
      try clear c56
      try clear c56b0
      try clear c58
      try clear q58
      try clear c60
      try clear p64
      try clear c66
      try clear c66b0
      try clear c66b1
      try clear c67
      try clear c67b0
      try clear c67b1
      try clear c69
      try clear c69b0
      try clear c70
      try clear c70b0
      try clear c72
      try clear c72b0
      try clear c72b1
      try clear c74
      try clear q74
      try clear c76
      try clear q76
      try clear q77
      try clear c78
      try clear c78b0
      try clear c78b1
      try clear c78b2
      try clear c79
      try clear c82
      try clear hcz16_0
      try clear hcz16_1
      try clear hcz16_2
      try clear hcz16_3
      try clear hcz16_4
      try clear hcz16_5
      try clear hcz36_0
      try clear hcz36_1
      try clear hcz36_2
      try clear hcz36_3
      try clear hcz36_4
      try clear hcz36_5
      try clear hcz49_0
      try clear hcz49_1
      try clear hcz49_2
      try clear hcz49_3
      try clear hcz49_4
      try clear hcz49_5
      try clear hcz61_0
      try clear hcz61_1
      try clear hcz61_2
      try clear hcz61_3
      try clear hcz61_4
      try clear hcz61_5
      try clear hcz6_0
      try clear hcz6_1
      try clear hcz6_2
      try clear hcz6_3
      try clear hcz6_4
      try clear hcz6_5
      try clear hcz80_0
      try clear hcz80_1
      try clear hcz80_2
      try clear hcz80_3
      try clear hcz80_4
      try clear hcz80_5
      try clear hcz83_0
      try clear hcz83_1
      try clear hcz83_2
      try clear hcz83_3
      try clear hcz83_4
      try clear hcz83_5
      try clear hfz16_0
      try clear hfz16_1
      try clear hfz16_2
      try clear hfz16_3
      try clear hfz16_4
      try clear hfz16_5
      try clear hfz36_0
      try clear hfz36_1
      try clear hfz36_2
      try clear hfz36_3
      try clear hfz36_4
      try clear hfz36_5
      try clear hfz49_0
      try clear hfz49_1
      try clear hfz49_2
      try clear hfz49_3
      try clear hfz49_4
      try clear hfz49_5
      try clear hfz61_0
      try clear hfz61_1
      try clear hfz61_2
      try clear hfz61_3
      try clear hfz61_4
      try clear hfz61_5
      try clear hfz6_0
      try clear hfz6_1
      try clear hfz6_2
      try clear hfz6_3
      try clear hfz6_4
      try clear hfz6_5
      try clear hfz80_0
      try clear hfz80_1
      try clear hfz80_2
      try clear hfz80_3
      try clear hfz80_4
      try clear hfz80_5
      try clear hfz83_0
      try clear hfz83_1
      try clear hfz83_2
      try clear hfz83_3
      try clear hfz83_4
      try clear hfz83_5
      try clear hx188_0
      try clear hx189_0
      try clear hx245_0
      try clear hx246_0
      try clear p1
      try clear p18
      try clear p188
      try clear p189
      try clear p2
      try clear p245
      try clear p246
      try clear p6
      try clear q076
      try clear q1
      try clear q18
      try clear q188
      try clear q189
      try clear q245
      try clear q246
      try clear q3
      try clear q37
      try clear q4
      try clear q44
      try clear q58
      try clear q74
      try clear q76
      try clear q77
      obtain ⟨kq, x98_72, rfl, HA, HJ72, HO_5, HO_191003, HO_191004, HO_191005, BK149, BK190, HB⟩ := hcut
      cases kq with
      | zero => exact absurd HA.out (by simp [impl_ReadParts.j2])
      | succ kj72 =>
       have H := HA.out
       clear HA
       simp only [impl_ReadParts.j2] at H
       by_cases c85 : x98_72 = true
       ·subst c85
        replace H : ((impl_ReadParts_1.f 6).bind fun bt271 => (some (bt271.1, bt271.2.1, bt271.2.2.1, bt271.2.2.2.1, bt271.2.2.2.2.1, bt271.2.2.2.2.2))) = some (r1, r2, r3, r4, r5, r6) := by rw [if_pos rfl] at H; exact H
        replace H := Option.bind_eq_some_iff.mp H
        obtain ⟨⟨t271, t272, t273, t274, t277, t280⟩, A860, H⟩ := H
        replace H : (some (t271, t272, t273, t274, t277, t280)) = some (r1, r2, r3, r4, r5, r6) := H
        have A86 := Aside0.mk A860
        clear A860
        simp only [Option.some.injEq, Prod.mk.injEq] at H
        obtain ⟨rfl, rfl, rfl, rfl, rfl, rfl⟩ := H
        go_wp2_with (first | ((with_reducible refine gate_dst (N := 108) rfl ?_); refine goesLC_ (some 108) rfl rfl Try.func144 (by kernel_rfl) rfl (#[.int .i64 6]) rfl rfl ?ha ?_; (case ha => (try simp only [List.map_toArray, List.map_cons, List.map_nil]); first | done | rfl | (simp only [List.length_drop, List.length_take]; rfl)); (with_reducible refine (impl_ReadParts_1.calls 6 t271 t272 t273 t274 t277 t280 _ A86.out).mono ?_); rintro e w87 ⟨v275, v278, v281, rfl, ho0, ho1, ho2, hb⟩; refine ⟨_, rfl, ?_⟩; have n0_ := Aside0.mk (Kd.V_mono (Kd.V_told (Kd.V_told (Kd.V_told (Kd.V_old (by (with_reducible repeat (first | apply Kd.V_alloc | apply Kd.V_drewN | apply Kd.V_drew)); exact HO_5.out) hb) (Kd.R_base ho0)) (Kd.R_base ho1)) (Kd.S_base ho2)) (fun _ h_ => h_.1)); have n1_ := Aside0.mk (Kd.R_elder' (by (with_reducible repeat (first | apply Kd.R_alloc | apply Kd.R_drewN | apply Kd.R_drew)); exact HO_191003.out) (Kd.R_base ho0) hb); have n2_ := Aside0.mk (Kd.R_elder' (by (with_reducible repeat (first | apply Kd.R_alloc | apply Kd.R_drewN | apply Kd.R_drew)); exact HO_191004.out) (Kd.R_base ho1) hb); have n3_ := Aside0.mk (Kd.S_elder' (by (with_reducible repeat (first | apply Kd.S_alloc | apply Kd.S_drewN | apply Kd.S_drew)); exact HO_191005.out) (Kd.S_base ho2) hb); have n4_ := Aside0.mk (Kd.R_lower (Kd.R_new' (Kd.R_newM (M := fun k_ => (w.heap.size ≤ k_)) ho0 (below_size (by repeat (first | (with_reducible first | exact HB.out | apply below_alloc | apply pw_below_drewN | apply below_drew1 | refine below_set ?_ GE149.out | refine below_set ?_ GE190.out) | exact HB.out))) (fun k_ h_ => h_)) (Kd.R_lt (by (with_reducible repeat (first | apply Kd.R_alloc | apply Kd.R_drewN | apply Kd.R_drew)); exact HO_191003.out))) (below_size (by repeat (first | (with_reducible first | exact HB.out | apply below_alloc | apply pw_below_drewN | apply below_drew1 | refine below_set ?_ GE149.out | refine below_set ?_ GE190.out) | exact HB.out)))); have n5_ := Aside0.mk (Kd.R_lower (Kd.R_new' (Kd.R_newM (M := fun k_ => (w.heap.size ≤ k_)) ho1 (below_size (by repeat (first | (with_reducible first | exact HB.out | apply below_alloc | apply pw_below_drewN | apply below_drew1 | refine below_set ?_ GE149.out | refine below_set ?_ GE190.out) | exact HB.out))) (fun k_ h_ => h_)) (Kd.R_lt (by (with_reducible repeat (first | apply Kd.R_alloc | apply Kd.R_drewN | apply Kd.R_drew)); exact HO_191004.out))) (below_size (by repeat (first | (with_reducible first | exact HB.out | apply below_alloc | apply pw_below_drewN | apply below_drew1 | refine below_set ?_ GE149.out | refine below_set ?_ GE190.out) | exact HB.out)))); have n6_ := Aside0.mk (Kd.S_lower (Kd.S_new' (Kd.S_newM (M := fun k_ => (w.heap.size ≤ k_)) ho2 (below_size (by repeat (first | (with_reducible first | exact HB.out | apply below_alloc | apply pw_below_drewN | apply below_drew1 | refine below_set ?_ GE149.out | refine below_set ?_ GE190.out) | exact HB.out))) (fun k_ h_ => h_)) (Kd.S_lt (by (with_reducible repeat (first | apply Kd.S_alloc | apply Kd.S_drewN | apply Kd.S_drew)); exact HO_191005.out))) (below_size (by repeat (first | (with_reducible first | exact HB.out | apply below_alloc | apply pw_below_drewN | apply below_drew1 | refine below_set ?_ GE149.out | refine below_set ?_ GE190.out) | exact HB.out)))); have n7_ := Aside0.mk (blk_below (g := gb149) (o := .cells #[.int .i64 x150000_1, .int .i64 x150001_1, .int .i64 x150002_1, .slice none 0 0, .slice none 0 0, .slice none 0 0] 94 (0, 0)) (by (with_reducible repeat (first | refine blk_drewN ?_ _ | refine blk_drew ?_ | refine blk_alloc ?_ _)); exact BK149.out) hb); have n8_ := Aside0.mk (blk_below (g := gb190) (o := .cells #[.int .i64 0, .int .i64 (wrap64 (8 * (wrap64 (rd l0 4)))), .int .i64 (wrap64 (8 * (wrap64 (rd l0 5)))), u191003, u191004, u191005] 94 (0, 0)) (by (with_reducible repeat (first | refine blk_drewN ?_ _ | refine blk_drew ?_ | refine blk_alloc ?_ _)); exact BK190.out) hb); have n9_ := Aside0.mk (below_step (by repeat (first | (with_reducible first | exact HB.out | apply below_alloc | apply pw_below_drewN | apply below_drew1 | refine below_set ?_ GE149.out | refine below_set ?_ GE190.out) | exact HB.out)) hb); clear HO_5 HO_191003 HO_191004 HO_191005 BK149 BK190 HB; have HO_5 := n0_; have HO_191003 := n1_; have HO_191004 := n2_; have HO_191005 := n3_; have HO276 := n4_; have HO279 := n5_; have HO282 := n6_; have BK149 := n7_; have BK190 := n8_; have HB := n9_; clear n0_ n1_ n2_ n3_ n4_ n5_ n6_ n7_ n8_ n9_; (try clear hb); (try clear hb2); (try clear hk); (try clear hi); (try clear ho0); (try clear ho1); (try clear ho2); have hnb88 := NB149_190.out; have hnc88 := NB190_149.out; have hcz89_0 : w87.cell? ⟨gb149, 0, none⟩ = some (.int .i64 x150000_1) := (blk_cell BK149.out 0).trans rfl; have hcz89_1 : w87.cell? ⟨gb149, 1, none⟩ = some (.int .i64 x150001_1) := (blk_cell BK149.out 1).trans rfl; have hcz89_2 : w87.cell? ⟨gb149, 2, none⟩ = some (.int .i64 x150002_1) := (blk_cell BK149.out 2).trans rfl; have hcz89_3 : w87.cell? ⟨gb149, 3, none⟩ = some (.slice none 0 0) := (blk_cell BK149.out 3).trans rfl; have hcz89_4 : w87.cell? ⟨gb149, 4, none⟩ = some (.slice none 0 0) := (blk_cell BK149.out 4).trans rfl; have hcz89_5 : w87.cell? ⟨gb149, 5, none⟩ = some (.slice none 0 0) := (blk_cell BK149.out 5).trans rfl; have hfz89_0 := blk_frozen BK149.out 0; have hfz89_1 := blk_frozen BK149.out 1; have hfz89_2 := blk_frozen BK149.out 2; have hfz89_3 := blk_frozen BK149.out 3; have hfz89_4 := blk_frozen BK149.out 4; have hfz89_5 := blk_frozen BK149.out 5; obtain ⟨Ao90, co90, eo90⟩ := Kd.R_slice HO276.out; subst eo90; obtain ⟨Ao91, co91, eo91⟩ := Kd.R_slice HO279.out; subst eo91; obtain ⟨Ao92, co92, eo92⟩ := Kd.S_slice HO282.out; subst eo92))
        refine bodyPost_ret (results_cell_row rfl _ _ gb149 94 #[.int .i64 t271, .int .i64 t272, .int .i64 t273, .slice Ao90 t274.length co90, .slice Ao91 t277.length co91, .slice Ao92 t280.length co92] (0, 0) _ rfl (set6_blk BK149.out) Try.underlying94 rfl (by kernel_rfl)) rfl ?_
        exact ⟨_, _, _, by first | rfl | (simp [*, errW_none, errW_some] <;> rfl), by (with_reducible repeat (first | apply Kd.R_alloc | apply Kd.R_drewN | apply Kd.R_drew)); exact Kd.R_mono (set6_R (Kd.R_types HO276.out BK149.out (by decide)) (fun _ hk => hk.2)) (fun _ hk => hk.1.1.1), by (with_reducible repeat (first | apply Kd.R_alloc | apply Kd.R_drewN | apply Kd.R_drew)); exact Kd.R_mono (set6_R (Kd.R_types HO279.out BK149.out (by decide)) (fun _ hk => hk.2)) (fun _ hk => hk.1.1.1), by (with_reducible repeat (first | apply Kd.S_alloc | apply Kd.S_drewN | apply Kd.S_drew)); exact Kd.S_mono (set6_S (Kd.S_types HO282.out BK149.out (by decide)) (fun _ hk => hk.2)) (fun _ hk => hk.1.1.1), by repeat (first | (with_reducible first | exact HB.out | apply below_alloc | apply pw_below_drewN | apply below_drew1 | refine below_set ?_ GE149.out | refine below_set ?_ GE190.out) | exact HB.out)⟩
       replace c85 := Bool.eq_false_iff.mpr c85
       subst c85
       replace H : (if (x191005_1.length : Int) = 24 then ((impl_ReadParts_1.f 7).bind fun bt283 => (some (bt283.1, bt283.2.1, bt283.2.2.1, bt283.2.2.2.1, bt283.2.2.2.2.1, bt283.2.2.2.2.2))) else (if (wrap64 ((wrap64 ((wrap64 ((x191005_1.length : Int) + 1)) * (wrap64 (8 * (wrap64 (rd l0 4)))))) * (wrap64 (8 * (wrap64 (rd l0 5)))))) > 8192 then ((impl_ReadParts_1.f 7).bind fun bt295 => (some (bt295.1, bt295.2.1, bt295.2.2.1, bt295.2.2.2.1, bt295.2.2.2.2.1, bt295.2.2.2.2.2))) else (if x191003_1.length < 140737488355328 then (if x191004_1.length < 17592186044416 then ((some (([] : List Int) : List Int)).bind fun y313 => (if 5 ≤ ji65 then (if ji65 ≤ (x5_1.length : Int) then ((some ((x5_1.take (ji65 : Int).toNat).drop 5 : List Int)).bind fun y316 => (if y313.length + y316.length < 140737488355328 then (if x191005_1.length < 5864062014805 then (if 0 ≤ (wrap64 (ji65 + 4)) then (if (wrap64 (ji65 + 4)) ≤ (x5_1.length : Int) then (impl_ReadParts.l0 kj72 (x5_1.drop ((wrap64 (ji65 + 4)) : Int).toNat) 0 (wrap64 (8 * (wrap64 (rd l0 4)))) (wrap64 (8 * (wrap64 (rd l0 5)))) (x191003_1 ++ [(decide ((rd x5_1 0) > 127))]) (x191004_1 ++ [(wrap64 (Go.bits .and .u8 (rd x5_1 0) 127))]) (x191005_1 ++ [(y313 ++ y316)])) else (none)) else (none)) else (none)) else (none))) else (none)) else (none))) else (none)) else (none)))) = some (r1, r2, r3, r4, r5, r6) := by rw [if_neg (show ¬ (false = true) by decide)] at H; exact H
       by_cases c93 : (x191005_1.length : Int) = 24
       ·rw [if_pos c93] at H
        have c93b0 : ((x191005_1.length : Int) == 24) = true := beq_iff_eq.mpr c93
        have c93b1 : ((x191005_1.length : Int) != 24) = false := bne_eq_false_iff_eq.mpr c93
        clear c93
        replace H := Option.bind_eq_some_iff.mp H
        obtain ⟨⟨t283, t284, t285, t286, t289, t292⟩, A940, H⟩ := H
        replace H : (some (t283, t284, t285, t286, t289, t292)) = some (r1, r2, r3, r4, r5, r6) := H
        have A94 := Aside0.mk A940
        clear A940
        simp only [Option.some.injEq, Prod.mk.injEq] at H
        obtain ⟨rfl, rfl, rfl, rfl, rfl, rfl⟩ := H
        have hnb95 := NB190_149.out
        have hnc95 := NB149_190.out
        have hcz96_0 : wc.cell? ⟨gb190, 0, none⟩ = some (.int .i64 0) := (blk_cell BK190.out 0).trans rfl
        have hcz96_1 : wc.cell? ⟨gb190, 1, none⟩ = some (.int .i64 (wrap64 (8 * (wrap64 (rd l0 4))))) := (blk_cell BK190.out 1).trans rfl
        have hcz96_2 : wc.cell? ⟨gb190, 2, none⟩ = some (.int .i64 (wrap64 (8 * (wrap64 (rd l0 5))))) := (blk_cell BK190.out 2).trans rfl
        have hcz96_3 : wc.cell? ⟨gb190, 3, none⟩ = some (u191003) := (blk_cell BK190.out 3).trans rfl
        have hcz96_4 : wc.cell? ⟨gb190, 4, none⟩ = some (u191004) := (blk_cell BK190.out 4).trans rfl
        have hcz96_5 : wc.cell? ⟨gb190, 5, none⟩ = some (u191005) := (blk_cell BK190.out 5).trans rfl
        have hfz96_0 := blk_frozen BK190.out 0
        have hfz96_1 := blk_frozen BK190.out 1
        have hfz96_2 := blk_frozen BK190.out 2
        have hfz96_3 := blk_frozen BK190.out 3
        have hfz96_4 := blk_frozen BK190.out 4
        have hfz96_5 := blk_frozen BK190.out 5
        obtain ⟨Ao97, co97, eo97⟩ := Kd.S_slice HO_191005.out
        subst eo97
        go_wp2_with (first | ((with_reducible refine gate_dst (N := 128) rfl ?_); refine goesLC_ (some 128) rfl rfl Try.func144 (by kernel_rfl) rfl (#[.int .i64 7]) rfl rfl ?ha ?_; (case ha => (try simp only [List.map_toArray, List.map_cons, List.map_nil]); first | done | rfl | (simp only [List.length_drop, List.length_take]; rfl)); (with_reducible refine (impl_ReadParts_1.calls 7 t283 t284 t285 t286 t289 t292 _ A94.out).mono ?_); rintro e w98 ⟨v287, v290, v293, rfl, ho0, ho1, ho2, hb⟩; refine ⟨_, rfl, ?_⟩; have n0_ := Aside0.mk (Kd.V_mono (Kd.V_told (Kd.V_told (Kd.V_told (Kd.V_old (by (with_reducible repeat (first | apply Kd.V_alloc | apply Kd.V_drewN | apply Kd.V_drew)); exact HO_5.out) hb) (Kd.R_base ho0)) (Kd.R_base ho1)) (Kd.S_base ho2)) (fun _ h_ => h_.1)); have n1_ := Aside0.mk (Kd.R_elder' (by (with_reducible repeat (first | apply Kd.R_alloc | apply Kd.R_drewN | apply Kd.R_drew)); exact HO_191003.out) (Kd.R_base ho0) hb); have n2_ := Aside0.mk (Kd.R_elder' (by (with_reducible repeat (first | apply Kd.R_alloc | apply Kd.R_drewN | apply Kd.R_drew)); exact HO_191004.out) (Kd.R_base ho1) hb); have n3_ := Aside0.mk (Kd.S_elder' (by (with_reducible repeat (first | apply Kd.S_alloc | apply Kd.S_drewN | apply Kd.S_drew)); exact HO_191005.out) (Kd.S_base ho2) hb); have n4_ := Aside0.mk (Kd.R_lower (Kd.R_new' (Kd.R_newM (M := fun k_ => (w.heap.size ≤ k_)) ho0 (below_size (by repeat (first | (with_reducible first | exact HB.out | apply below_alloc | apply pw_below_drewN | apply below_drew1 | refine below_set ?_ GE149.out | refine below_set ?_ GE190.out) | exact HB.out))) (fun k_ h_ => h_)) (Kd.R_lt (by (with_reducible repeat (first | apply Kd.R_alloc | apply Kd.R_drewN | apply Kd.R_drew)); exact HO_191003.out))) (below_size (by repeat (first | (with_reducible first | exact HB.out | apply below_alloc | apply pw_below_drewN | apply below_drew1 | refine below_set ?_ GE149.out | refine below_set ?_ GE190.out) | exact HB.out)))); have n5_ := Aside0.mk (Kd.R_lower (Kd.R_new' (Kd.R_newM (M := fun k_ => (w.heap.size ≤ k_)) ho1 (below_size (by repeat (first | (with_reducible first | exact HB.out | apply below_alloc | apply pw_below_drewN | apply below_drew1 | refine below_set ?_ GE149.out | refine below_set ?_ GE190.out) | exact HB.out))) (fun k_ h_ => h_)) (Kd.R_lt (by (with_reducible repeat (first | apply Kd.R_alloc | apply Kd.R_drewN | apply Kd.R_drew)); exact HO_191004.out))) (below_size (by repeat (first | (with_reducible first | exact HB.out | apply below_alloc | apply pw_below_drewN | apply below_drew1 | refine below_set ?_ GE149.out | refine below_set ?_ GE190.out) | exact HB.out)))); have n6_ := Aside0.mk (Kd.S_lower (Kd.S_new' (Kd.S_newM (M := fun k_ => (w.heap.size ≤ k_)) ho2 (below_size (by repeat (first | (with_reducible first | exact HB.out | apply below_alloc | apply pw_below_drewN | apply below_drew1 | refine below_set ?_ GE149.out | refine below_set ?_ GE190.out) | exact HB.out))) (fun k_ h_ => h_)) (Kd.S_lt (by (with_reducible repeat (first | apply Kd.S_alloc | apply Kd.S_drewN | apply Kd.S_drew)); exact HO_191005.out))) (below_size (by repeat (first | (with_reducible first | exact HB.out | apply below_alloc | apply pw_below_drewN | apply below_drew1 | refine below_set ?_ GE149.out | refine below_set ?_ GE190.out) | exact HB.out)))); have n7_ := Aside0.mk (blk_below (g := gb149) (o := .cells #[.int .i64 x150000_1, .int .i64 x150001_1, .int .i64 x150002_1, .slice none 0 0, .slice none 0 0, .slice none 0 0] 94 (0, 0)) (by (with_reducible repeat (first | refine blk_drewN ?_ _ | refine blk_drew ?_ | refine blk_alloc ?_ _)); exact BK149.out) hb); have n8_ := Aside0.mk (blk_below (g := gb190) (o := .cells #[.int .i64 0, .int .i64 (wrap64 (8 * (wrap64 (rd l0 4)))), .int .i64 (wrap64 (8 * (wrap64 (rd l0 5)))), u191003, u191004, .slice Ao97 x191005_1.length co97] 94 (0, 0)) (by (with_reducible repeat (first | refine blk_drewN ?_ _ | refine blk_drew ?_ | refine blk_alloc ?_ _)); exact BK190.out) hb); have n9_ := Aside0.mk (below_step (by repeat (first | (with_reducible first | exact HB.out | apply below_alloc | apply pw_below_drewN | apply below_drew1 | refine below_set ?_ GE149.out | refine below_set ?_ GE190.out) | exact HB.out)) hb); clear HO_5 HO_191003 HO_191004 HO_191005 BK149 BK190 HB; have HO_5 := n0_; have HO_191003 := n1_; have HO_191004 := n2_; have HO_191005 := n3_; have HO288 := n4_; have HO291 := n5_; have HO294 := n6_; have BK149 := n7_; have BK190 := n8_; have HB := n9_; clear n0_ n1_ n2_ n3_ n4_ n5_ n6_ n7_ n8_ n9_; (try clear hb); (try clear hb2); (try clear hk); (try clear hi); (try clear ho0); (try clear ho1); (try clear ho2); have hcz99_0 : w98.cell? ⟨gb149, 0, none⟩ = some (.int .i64 x150000_1) := (blk_cell BK149.out 0).trans rfl; have hcz99_1 : w98.cell? ⟨gb149, 1, none⟩ = some (.int .i64 x150001_1) := (blk_cell BK149.out 1).trans rfl; have hcz99_2 : w98.cell? ⟨gb149, 2, none⟩ = some (.int .i64 x150002_1) := (blk_cell BK149.out 2).trans rfl; have hcz99_3 : w98.cell? ⟨gb149, 3, none⟩ = some (.slice none 0 0) := (blk_cell BK149.out 3).trans rfl; have hcz99_4 : w98.cell? ⟨gb149, 4, none⟩ = some (.slice none 0 0) := (blk_cell BK149.out 4).trans rfl; have hcz99_5 : w98.cell? ⟨gb149, 5, none⟩ = some (.slice none 0 0) := (blk_cell BK149.out 5).trans rfl; have hfz99_0 := blk_frozen BK149.out 0; have hfz99_1 := blk_frozen BK149.out 1; have hfz99_2 := blk_frozen BK149.out 2; have hfz99_3 := blk_frozen BK149.out 3; have hfz99_4 := blk_frozen BK149.out 4; have hfz99_5 := blk_frozen BK149.out 5; obtain ⟨Ao100, co100, eo100⟩ := Kd.R_slice HO288.out; subst eo100; obtain ⟨Ao101, co101, eo101⟩ := Kd.R_slice HO291.out; subst eo101; obtain ⟨Ao102, co102, eo102⟩ := Kd.S_slice HO294.out; subst eo102))
        refine bodyPost_ret (results_cell_row rfl _ _ gb149 94 #[.int .i64 t283, .int .i64 t284, .int .i64 t285, .slice Ao100 t286.length co100, .slice Ao101 t289.length co101, .slice Ao102 t292.length co102] (0, 0) _ rfl (set6_blk BK149.out) Try.underlying94 rfl (by kernel_rfl)) rfl ?_
        exact ⟨_, _, _, by first | rfl | (simp [*, errW_none, errW_some] <;> rfl), by (with_reducible repeat (first | apply Kd.R_alloc | apply Kd.R_drewN | apply Kd.R_drew)); exact Kd.R_mono (set6_R (Kd.R_types HO288.out BK149.out (by decide)) (fun _ hk => hk.2)) (fun _ hk => hk.1.1.1), by (with_reducible repeat (first | apply Kd.R_alloc | apply Kd.R_drewN | apply Kd.R_drew)); exact Kd.R_mono (set6_R (Kd.R_types HO291.out BK149.out (by decide)) (fun _ hk => hk.2)) (fun _ hk => hk.1.1.1), by (with_reducible repeat (first | apply Kd.S_alloc | apply Kd.S_drewN | apply Kd.S_drew)); exact Kd.S_mono (set6_S (Kd.S_types HO294.out BK149.out (by decide)) (fun _ hk => hk.2)) (fun _ hk => hk.1.1.1), by repeat (first | (with_reducible first | exact HB.out | apply below_alloc | apply pw_below_drewN | apply below_drew1 | refine below_set ?_ GE149.out | refine below_set ?_ GE190.out) | exact HB.out)⟩
       rw [if_neg c93] at H
       have c93b0 : ((x191005_1.length : Int) == 24) = false := beq_eq_false_iff_ne.mpr c93
       have c93b1 : ((x191005_1.length : Int) != 24) = true := bne_iff_ne.mpr c93
       by_cases c103 : (wrap64 ((wrap64 ((wrap64 ((x191005_1.length : Int) + 1)) * (wrap64 (8 * (wrap64 (rd l0 4)))))) * (wrap64 (8 * (wrap64 (rd l0 5)))))) > 8192
       ·rw [if_pos c103] at H
        have c103b0 : decide (8192 < (wrap64 ((wrap64 ((wrap64 ((x191005_1.length : Int) + 1)) * (wrap64 (8 * (wrap64 (rd l0 4)))))) * (wrap64 (8 * (wrap64 (rd l0 5))))))) = true := decide_eq_true c103
        clear c103
        replace H := Option.bind_eq_some_iff.mp H
        obtain ⟨⟨t295, t296, t297, t298, t301, t304⟩, A1040, H⟩ := H
        replace H : (some (t295, t296, t297, t298, t301, t304)) = some (r1, r2, r3, r4, r5, r6) := H
        have A104 := Aside0.mk A1040
        clear A1040
        simp only [Option.some.injEq, Prod.mk.injEq] at H
        obtain ⟨rfl, rfl, rfl, rfl, rfl, rfl⟩ := H
        have hnb105 := NB190_149.out
        have hnc105 := NB149_190.out
        have hcz106_0 : wc.cell? ⟨gb190, 0, none⟩ = some (.int .i64 0) := (blk_cell BK190.out 0).trans rfl
        have hcz106_1 : wc.cell? ⟨gb190, 1, none⟩ = some (.int .i64 (wrap64 (8 * (wrap64 (rd l0 4))))) := (blk_cell BK190.out 1).trans rfl
        have hcz106_2 : wc.cell? ⟨gb190, 2, none⟩ = some (.int .i64 (wrap64 (8 * (wrap64 (rd l0 5))))) := (blk_cell BK190.out 2).trans rfl
        have hcz106_3 : wc.cell? ⟨gb190, 3, none⟩ = some (u191003) := (blk_cell BK190.out 3).trans rfl
        have hcz106_4 : wc.cell? ⟨gb190, 4, none⟩ = some (u191004) := (blk_cell BK190.out 4).trans rfl
        have hcz106_5 : wc.cell? ⟨gb190, 5, none⟩ = some (u191005) := (blk_cell BK190.out 5).trans rfl
        have hfz106_0 := blk_frozen BK190.out 0
        have hfz106_1 := blk_frozen BK190.out 1
        have hfz106_2 := blk_frozen BK190.out 2
        have hfz106_3 := blk_frozen BK190.out 3
        have hfz106_4 := blk_frozen BK190.out 4
        have hfz106_5 := blk_frozen BK190.out 5
        obtain ⟨Ao107, co107, eo107⟩ := Kd.S_slice HO_191005.out
        subst eo107
        go_wp2_with (first | ((with_reducible refine gate_dst (N := 128) rfl ?_); refine goesLC_ (some 128) rfl rfl Try.func144 (by kernel_rfl) rfl (#[.int .i64 7]) rfl rfl ?ha ?_; (case ha => (try simp only [List.map_toArray, List.map_cons, List.map_nil]); first | done | rfl | (simp only [List.length_drop, List.length_take]; rfl)); (with_reducible refine (impl_ReadParts_1.calls 7 t295 t296 t297 t298 t301 t304 _ A104.out).mono ?_); rintro e w108 ⟨v299, v302, v305, rfl, ho0, ho1, ho2, hb⟩; refine ⟨_, rfl, ?_⟩; have n0_ := Aside0.mk (Kd.V_mono (Kd.V_told (Kd.V_told (Kd.V_told (Kd.V_old (by (with_reducible repeat (first | apply Kd.V_alloc | apply Kd.V_drewN | apply Kd.V_drew)); exact HO_5.out) hb) (Kd.R_base ho0)) (Kd.R_base ho1)) (Kd.S_base ho2)) (fun _ h_ => h_.1)); have n1_ := Aside0.mk (Kd.R_elder' (by (with_reducible repeat (first | apply Kd.R_alloc | apply Kd.R_drewN | apply Kd.R_drew)); exact HO_191003.out) (Kd.R_base ho0) hb); have n2_ := Aside0.mk (Kd.R_elder' (by (with_reducible repeat (first | apply Kd.R_alloc | apply Kd.R_drewN | apply Kd.R_drew)); exact HO_191004.out) (Kd.R_base ho1) hb); have n3_ := Aside0.mk (Kd.S_elder' (by (with_reducible repeat (first | apply Kd.S_alloc | apply Kd.S_drewN | apply Kd.S_drew)); exact HO_191005.out) (Kd.S_base ho2) hb); have n4_ := Aside0.mk (Kd.R_lower (Kd.R_new' (Kd.R_newM (M := fun k_ => (w.heap.size ≤ k_)) ho0 (below_size (by repeat (first | (with_reducible first | exact HB.out | apply below_alloc | apply pw_below_drewN | apply below_drew1 | refine below_set ?_ GE149.out | refine below_set ?_ GE190.out) | exact HB.out))) (fun k_ h_ => h_)) (Kd.R_lt (by (with_reducible repeat (first | apply Kd.R_alloc | apply Kd.R_drewN | apply Kd.R_drew)); exact HO_191003.out))) (below_size (by repeat (first | (with_reducible first | exact HB.out | apply below_alloc | apply pw_below_drewN | apply below_drew1 | refine below_set ?_ GE149.out | refine below_set ?_ GE190.out) | exact HB.out)))); have n5_ := Aside0.mk (Kd.R_lower (Kd.R_new' (Kd.R_newM (M := fun k_ => (w.heap.size ≤ k_)) ho1 (below_size (by repeat (first | (with_reducible first | exact HB.out | apply below_alloc | apply pw_below_drewN | apply below_drew1 | refine below_set ?_ GE149.out | refine below_set ?_ GE190.out) | exact HB.out))) (fun k_ h_ => h_)) (Kd.R_lt (by (with_reducible repeat (first | apply Kd.R_alloc | apply Kd.R_drewN | apply Kd.R_drew)); exact HO_191004.out))) (below_size (by repeat (first | (with_reducible first | exact HB.out | apply below_alloc | apply pw_below_drewN | apply below_drew1 | refine below_set ?_ GE149.out | refine below_set ?_ GE190.out) | exact HB.out)))); have n6_ := Aside0.mk (Kd.S_lower (Kd.S_new' (Kd.S_newM (M := fun k_ => (w.heap.size ≤ k_)) ho2 (below_size (by repeat (first | (with_reducible first | exact HB.out | apply below_alloc | apply pw_below_drewN | apply below_drew1 | refine below_set ?_ GE149.out | refine below_set ?_ GE190.out) | exact HB.out))) (fun k_ h_ => h_)) (Kd.S_lt (by (with_reducible repeat (first | apply Kd.S_alloc | apply Kd.S_drewN | apply Kd.S_drew)); exact HO_191005.out))) (below_size (by repeat (first | (with_reducible first | exact HB.out | apply below_alloc | apply pw_below_drewN | apply below_drew1 | refine below_set ?_ GE149.out | refine below_set ?_ GE190.out) | exact HB.out)))); have n7_ := Aside0.mk (blk_below (g := gb149) (o := .cells #[.int .i64 x150000_1, .int .i64 x150001_1, .int .i64 x150002_1, .slice none 0 0, .slice none 0 0, .slice none 0 0] 94 (0, 0)) (by (with_reducible repeat (first | refine blk_drewN ?_ _ | refine blk_drew ?_ | refine blk_alloc ?_ _)); exact BK149.out) hb); have n8_ := Aside0.mk (blk_below (g := gb190) (o := .cells #[.int .i64 0, .int .i64 (wrap64 (8 * (wrap64 (rd l0 4)))), .int .i64 (wrap64 (8 * (wrap64 (rd l0 5)))), u191003, u191004, .slice Ao107 x191005_1.length co107] 94 (0, 0)) (by (with_reducible repeat (first | refine blk_drewN ?_ _ | refine blk_drew ?_ | refine blk_alloc ?_ _)); exact BK190.out) hb); have n9_ := Aside0.mk (below_step (by repeat (first | (with_reducible first | exact HB.out | apply below_alloc | apply pw_below_drewN | apply below_drew1 | refine below_set ?_ GE149.out | refine below_set ?_ GE190.out) | exact HB.out)) hb); clear HO_5 HO_191003 HO_191004 HO_191005 BK149 BK190 HB; have HO_5 := n0_; have HO_191003 := n1_; have HO_191004 := n2_; have HO_191005 := n3_; have HO300 := n4_; have HO303 := n5_; have HO306 := n6_; have BK149 := n7_; have BK190 := n8_; have HB := n9_; clear n0_ n1_ n2_ n3_ n4_ n5_ n6_ n7_ n8_ n9_; (try clear hb); (try clear hb2); (try clear hk); (try clear hi); (try clear ho0); (try clear ho1); (try clear ho2); have hcz109_0 : w108.cell? ⟨gb149, 0, none⟩ = some (.int .i64 x150000_1) := (blk_cell BK149.out 0).trans rfl; have hcz109_1 : w108.cell? ⟨gb149, 1, none⟩ = some (.int .i64 x150001_1) := (blk_cell BK149.out 1).trans rfl; have hcz109_2 : w108.cell? ⟨gb149, 2, none⟩ = some (.int .i64 x150002_1) := (blk_cell BK149.out 2).trans rfl; have hcz109_3 : w108.cell? ⟨gb149, 3, none⟩ = some (.slice none 0 0) := (blk_cell BK149.out 3).trans rfl; have hcz109_4 : w108.cell? ⟨gb149, 4, none⟩ = some (.slice none 0 0) := (blk_cell BK149.out 4).trans rfl; have hcz109_5 : w108.cell? ⟨gb149, 5, none⟩ = some (.slice none 0 0) := (blk_cell BK149.out 5).trans rfl; have hfz109_0 := blk_frozen BK149.out 0; have hfz109_1 := blk_frozen BK149.out 1; have hfz109_2 := blk_frozen BK149.out 2; have hfz109_3 := blk_frozen BK149.out 3; have hfz109_4 := blk_frozen BK149.out 4; have hfz109_5 := blk_frozen BK149.out 5; obtain ⟨Ao110, co110, eo110⟩ := Kd.R_slice HO300.out; subst eo110; obtain ⟨Ao111, co111, eo111⟩ := Kd.R_slice HO303.out; subst eo111; obtain ⟨Ao112, co112, eo112⟩ := Kd.S_slice HO306.out; subst eo112))
        refine bodyPost_ret (results_cell_row rfl _ _ gb149 94 #[.int .i64 t295, .int .i64 t296, .int .i64 t297, .slice Ao110 t298.length co110, .slice Ao111 t301.length co111, .slice Ao112 t304.length co112] (0, 0) _ rfl (set6_blk BK149.out) Try.underlying94 rfl (by kernel_rfl)) rfl ?_
        exact ⟨_, _, _, by first | rfl | (simp [*, errW_none, errW_some] <;> rfl), by (with_reducible repeat (first | apply Kd.R_alloc | apply Kd.R_drewN | apply Kd.R_drew)); exact Kd.R_mono (set6_R (Kd.R_types HO300.out BK149.out (by decide)) (fun _ hk => hk.2)) (fun _ hk => hk.1.1.1), by (with_reducible repeat (first | apply Kd.R_alloc | apply Kd.R_drewN | apply Kd.R_drew)); exact Kd.R_mono (set6_R (Kd.R_types HO303.out BK149.out (by decide)) (fun _ hk => hk.2)) (fun _ hk => hk.1.1.1), by (with_reducible repeat (first | apply Kd.S_alloc | apply Kd.S_drewN | apply Kd.S_drew)); exact Kd.S_mono (set6_S (Kd.S_types HO306.out BK149.out (by decide)) (fun _ hk => hk.2)) (fun _ hk => hk.1.1.1), by repeat (first | (with_reducible first | exact HB.out | apply below_alloc | apply pw_below_drewN | apply below_drew1 | refine below_set ?_ GE149.out | refine below_set ?_ GE190.out) | exact HB.out)⟩
       rw [if_neg c103] at H
       have c103b0 : decide (8192 < (wrap64 ((wrap64 ((wrap64 ((x191005_1.length : Int) + 1)) * (wrap64 (8 * (wrap64 (rd l0 4)))))) * (wrap64 (8 * (wrap64 (rd l0 5))))))) = false := decide_eq_false c103
       clear c103
       by_cases c113 : x191003_1.length < 140737488355328
       rotate_left
       ·rw [if_neg c113] at H
        exact absurd H (by simp)
       rw [if_pos c113] at H
       have LMc113 := Aside0.mk c113
       clear c113
       obtain ⟨y307, hy307⟩ : ∃ y_ : List Bool, y_ = (x191003_1 ++ [(decide ((rd x5_1 0) > 127))]) := ⟨_, rfl⟩
       replace H : (if x191004_1.length < 17592186044416 then ((some (([] : List Int) : List Int)).bind fun y313 => (if 5 ≤ ji65 then (if ji65 ≤ (x5_1.length : Int) then ((some ((x5_1.take (ji65 : Int).toNat).drop 5 : List Int)).bind fun y316 => (if y313.length + y316.length < 140737488355328 then (if x191005_1.length < 5864062014805 then (if 0 ≤ (wrap64 (ji65 + 4)) then (if (wrap64 (ji65 + 4)) ≤ (x5_1.length : Int) then (impl_ReadParts.l0 kj72 (x5_1.drop ((wrap64 (ji65 + 4)) : Int).toNat) 0 (wrap64 (8 * (wrap64 (rd l0 4)))) (wrap64 (8 * (wrap64 (rd l0 5)))) y307 (x191004_1 ++ [(wrap64 (Go.bits .and .u8 (rd x5_1 0) 127))]) (x191005_1 ++ [(y313 ++ y316)])) else (none)) else (none)) else (none)) else (none))) else (none)) else (none))) else (none)) = some (r1, r2, r3, r4, r5, r6) := by first | (rw [hy307]; with_reducible exact H) | (have H2_ := (Option.bind_some _ _).symm.trans H; rw [hy307]; with_reducible exact H2_) | (have H2_ := (Option.bind_some _ _).symm.trans H; with_reducible exact H2_) | with_reducible exact H | (rw [hy307]; exact H) | exact H
       have Ny307 := Aside0.mk hy307
       clear hy307
       by_cases c114 : x191004_1.length < 17592186044416
       rotate_left
       ·rw [if_neg c114] at H
        exact absurd H (by simp)
       rw [if_pos c114] at H
       have LMc114 := Aside0.mk c114
       clear c114
       obtain ⟨y310, hy310⟩ : ∃ y_ : List Int, y_ = (x191004_1 ++ [(wrap64 (Go.bits .and .u8 (rd x5_1 0) 127))]) := ⟨_, rfl⟩
       replace H : ((some (([] : List Int) : List Int)).bind fun y313 => (if 5 ≤ ji65 then (if ji65 ≤ (x5_1.length : Int) then ((some ((x5_1.take (ji65 : Int).toNat).drop 5 : List Int)).bind fun y316 => (if y313.length + y316.length < 140737488355328 then (if x191005_1.length < 5864062014805 then (if 0 ≤ (wrap64 (ji65 + 4)) then (if (wrap64 (ji65 + 4)) ≤ (x5_1.length : Int) then (impl_ReadParts.l0 kj72 (x5_1.drop ((wrap64 (ji65 + 4)) : Int).toNat) 0 (wrap64 (8 * (wrap64 (rd l0 4)))) (wrap64 (8 * (wrap64 (rd l0 5)))) y307 y310 (x191005_1 ++ [(y313 ++ y316)])) else (none)) else (none)) else (none)) else (none))) else (none)) else (none))) = some (r1, r2, r3, r4, r5, r6) := by first | (rw [hy310]; with_reducible exact H) | (have H2_ := (Option.bind_some _ _).symm.trans H; rw [hy310]; with_reducible exact H2_) | (have H2_ := (Option.bind_some _ _).symm.trans H; with_reducible exact H2_) | with_reducible exact H | (rw [hy310]; exact H) | exact H
       have Ny310 := Aside0.mk hy310
       clear hy310
       obtain ⟨y313, hy313⟩ : ∃ y_ : List Int, y_ = (([] : List Int)) := ⟨_, rfl⟩
       replace H : (if 5 ≤ ji65 then (if ji65 ≤ (x5_1.length : Int) then ((some ((x5_1.take (ji65 : Int).toNat).drop 5 : List Int)).bind fun y316 => (if y313.length + y316.length < 140737488355328 then (if x191005_1.length < 5864062014805 then (if 0 ≤ (wrap64 (ji65 + 4)) then (if (wrap64 (ji65 + 4)) ≤ (x5_1.length : Int) then (impl_ReadParts.l0 kj72 (x5_1.drop ((wrap64 (ji65 + 4)) : Int).toNat) 0 (wrap64 (8 * (wrap64 (rd l0 4)))) (wrap64 (8 * (wrap64 (rd l0 5)))) y307 y310 (x191005_1 ++ [(y313 ++ y316)])) else (none)) else (none)) else (none)) else (none))) else (none)) else (none)) = some (r1, r2, r3, r4, r5, r6) := by first | (rw [hy313]; with_reducible exact H) | (have H2_ := (Option.bind_some _ _).symm.trans H; rw [hy313]; with_reducible exact H2_) | (have H2_ := (Option.bind_some _ _).symm.trans H; with_reducible exact H2_) | with_reducible exact H | (rw [hy313]; exact H) | exact H
       have Ny313 := Aside0.mk hy313
       clear hy313
       by_cases c115 : 5 ≤ ji65
       rotate_left
       ·rw [if_neg c115] at H
        exact absurd H (by simp)
       rw [if_pos c115] at H
       have c115b0 := eq_true c115
       have c115b1 : decide (5 ≤ ji65) = true := decide_eq_true c115
       clear c115
       by_cases c116 : ji65 ≤ (x5_1.length : Int)
       rotate_left
       ·rw [if_neg c116] at H
        exact absurd H (by simp)
       rw [if_pos c116] at H
       have c116b0 := eq_true c116
       have c116b1 : decide (ji65 ≤ (x5_1.length : Int)) = true := decide_eq_true c116
       clear c116
       obtain ⟨y316, hy316⟩ : ∃ y_ : List Int, y_ = ((x5_1.take (ji65 : Int).toNat).drop 5) := ⟨_, rfl⟩
       replace H : (if y313.length + y316.length < 140737488355328 then (if x191005_1.length < 5864062014805 then (if 0 ≤ (wrap64 (ji65 + 4)) then (if (wrap64 (ji65 + 4)) ≤ (x5_1.length : Int) then (impl_ReadParts.l0 kj72 (x5_1.drop ((wrap64 (ji65 + 4)) : Int).toNat) 0 (wrap64 (8 * (wrap64 (rd l0 4)))) (wrap64 (8 * (wrap64 (rd l0 5)))) y307 y310 (x191005_1 ++ [(y313 ++ y316)])) else (none)) else (none)) else (none)) else (none)) = some (r1, r2, r3, r4, r5, r6) := by first | (rw [hy316]; with_reducible exact H) | (have H2_ := (Option.bind_some _ _).symm.trans H; rw [hy316]; with_reducible exact H2_) | (have H2_ := (Option.bind_some _ _).symm.trans H; with_reducible exact H2_) | with_reducible exact H | (rw [hy316]; exact H) | exact H
       have Ny316 := Aside0.mk hy316
       clear hy316
       by_cases c117 : y313.length + y316.length < 140737488355328
       rotate_left
       ·rw [if_neg c117] at H
        exact absurd H (by simp)
       rw [if_pos c117] at H
       have LMc117 := Aside0.mk c117
       clear c117
       obtain ⟨y321, hy321⟩ : ∃ y_ : List Int, y_ = (y313 ++ y316) := ⟨_, rfl⟩
       replace H : (if x191005_1.length < 5864062014805 then (if 0 ≤ (wrap64 (ji65 + 4)) then (if (wrap64 (ji65 + 4)) ≤ (x5_1.length : Int) then (impl_ReadParts.l0 kj72 (x5_1.drop ((wrap64 (ji65 + 4)) : Int).toNat) 0 (wrap64 (8 * (wrap64 (rd l0 4)))) (wrap64 (8 * (wrap64 (rd l0 5)))) y307 y310 (x191005_1 ++ [y321])) else (none)) else (none)) else (none)) = some (r1, r2, r3, r4, r5, r6) := by first | (rw [hy321]; with_reducible exact H) | (have H2_ := (Option.bind_some _ _).symm.trans H; rw [hy321]; with_reducible exact H2_) | (have H2_ := (Option.bind_some _ _).symm.trans H; with_reducible exact H2_) | with_reducible exact H | (rw [hy321]; exact H) | exact H
       have Ny321 := Aside0.mk hy321
       clear hy321
       by_cases c118 : x191005_1.length < 5864062014805
       rotate_left
       ·rw [if_neg c118] at H
        exact absurd H (by simp)
       rw [if_pos c118] at H
       have LMc118 := Aside0.mk c118
       clear c118
       obtain ⟨y324, hy324⟩ : ∃ y_ : List (List Int), y_ = (x191005_1 ++ [y321]) := ⟨_, rfl⟩
       replace H : (if 0 ≤ (wrap64 (ji65 + 4)) then (if (wrap64 (ji65 + 4)) ≤ (x5_1.length : Int) then (impl_ReadParts.l0 kj72 (x5_1.drop ((wrap64 (ji65 + 4)) : Int).toNat) 0 (wrap64 (8 * (wrap64 (rd l0 4)))) (wrap64 (8 * (wrap64 (rd l0 5)))) y307 y310 y324) else (none)) else (none)) = some (r1, r2, r3, r4, r5, r6) := by first | (rw [hy324]; with_reducible exact H) | (have H2_ := (Option.bind_some _ _).symm.trans H; rw [hy324]; with_reducible exact H2_) | (have H2_ := (Option.bind_some _ _).symm.trans H; with_reducible exact H2_) | with_reducible exact H | (rw [hy324]; exact H) | exact H
       have Ny324 := Aside0.mk hy324
       clear hy324
       obtain ⟨ji119, hji119⟩ : ∃ j_ : Int, (wrap64 (ji65 + 4)) = j_ := ⟨_, rfl⟩
       replace H : (if 0 ≤ (ji119) then (if (ji119) ≤ (x5_1.length : Int) then (impl_ReadParts.l0 kj72 (x5_1.drop ((ji119) : Int).toNat) 0 (wrap64 (8 * (wrap64 (rd l0 4)))) (wrap64 (8 * (wrap64 (rd l0 5)))) y307 y310 y324) else (none)) else (none)) = some (r1, r2, r3, r4, r5, r6) := by first | (rw [hji119] at H; exact H) | (simp only [hji119] at H ⊢; exact H)
       have hji119w : (IntKind.i64.wrap (ji65 + 4)) = ji119 := (i64_w _).trans hji119
       by_cases c120 : 0 ≤ (ji119)
       rotate_left
       ·rw [if_neg c120] at H
        exact absurd H (by simp)
       rw [if_pos c120] at H
       have c120b0 := eq_true c120
       have c120b1 : decide (0 ≤ (ji119)) = true := decide_eq_true c120
       clear c120
       by_cases c121 : (ji119) ≤ (x5_1.length : Int)
       rotate_left
       ·rw [if_neg c121] at H
        exact absurd H (by simp)
       rw [if_pos c121] at H
       have c121b0 := eq_true c121
       have c121b1 : decide ((ji119) ≤ (x5_1.length : Int)) = true := decide_eq_true c121
       clear c121
       obtain ⟨y327, hy327⟩ : ∃ y_ : List Int, y_ = (x5_1.drop ((ji119) : Int).toNat) := ⟨_, rfl⟩
       replace H : (impl_ReadParts.l0 kj72 y327 0 (wrap64 (8 * (wrap64 (rd l0 4)))) (wrap64 (8 * (wrap64 (rd l0 5)))) y307 y310 y324) = some (r1, r2, r3, r4, r5, r6) := by first | (rw [hy327]; with_reducible exact H) | (have H2_ := (Option.bind_some _ _).symm.trans H; rw [hy327]; with_reducible exact H2_) | (have H2_ := (Option.bind_some _ _).symm.trans H; with_reducible exact H2_) | with_reducible exact H | (rw [hy327]; exact H) | exact H
       have Ny327 := Aside0.mk hy327
       clear hy327
       have H' := Aside0.mk H
       clear H
       have hnb122 := NB190_149.out
       have hnc122 := NB149_190.out
       have hcz123_0 : wc.cell? ⟨gb190, 0, none⟩ = some (.int .i64 0) := (blk_cell BK190.out 0).trans rfl
       have hcz123_1 : wc.cell? ⟨gb190, 1, none⟩ = some (.int .i64 (wrap64 (8 * (wrap64 (rd l0 4))))) := (blk_cell BK190.out 1).trans rfl
       have hcz123_2 : wc.cell? ⟨gb190, 2, none⟩ = some (.int .i64 (wrap64 (8 * (wrap64 (rd l0 5))))) := (blk_cell BK190.out 2).trans rfl
       have hcz123_3 : wc.cell? ⟨gb190, 3, none⟩ = some (u191003) := (blk_cell BK190.out 3).trans rfl
       have hcz123_4 : wc.cell? ⟨gb190, 4, none⟩ = some (u191004) := (blk_cell BK190.out 4).trans rfl
       have hcz123_5 : wc.cell? ⟨gb190, 5, none⟩ = some (u191005) := (blk_cell BK190.out 5).trans rfl
       have hfz123_0 := blk_frozen BK190.out 0
       have hfz123_1 := blk_frozen BK190.out 1
       have hfz123_2 := blk_frozen BK190.out 2
       have hfz123_3 := blk_frozen BK190.out 3
       have hfz123_4 := blk_frozen BK190.out 4
       have hfz123_5 := blk_frozen BK190.out 5
       obtain ⟨Ao124, co124, eo124⟩ := Kd.S_slice HO_191005.out
       subst eo124
       try go_wp2_with (first | ((with_reducible refine gate_builtin (b := .append) (xs := #[.tmp 130, .tmp 132]) rfl ?_); (try (refine gate_guard (by rfl) ?_; dsimp only)); at_builtin; refine Kd.R_append Kd.bool (w0 := w) w.heap.size rfl (.tmp 130) (.tmp 132) 91 4 (.bool false) 1 rfl Try.underlying91 info4 rfl (by decide) (by omega) u191003 x191003_1 (decide ((rd x5_1 0) > 127)) [.bool (decide ((rd x5_1 0) > 127))] (fun k_ => (w.heap.size ≤ k_)) (fun _ => False) rfl rfl ?aP (fun _ hk => hk.elim) ?aF ?aO ?aB ?aS ?aL ?_; (case aP => exact rfl); (case aB => exact (by repeat (first | (with_reducible first | exact HB.out | apply below_alloc | apply pw_below_drewN | apply below_drew1 | refine below_set ?_ GE149.out | refine below_set ?_ GE190.out) | exact HB.out))); (case aF => exact (fun k_ hk => (Nat.le_trans (below_size (by repeat (first | (with_reducible first | exact HB.out | apply below_alloc | apply pw_below_drewN | apply below_drew1 | refine below_set ?_ GE149.out | refine below_set ?_ GE190.out) | exact HB.out))) hk))); (case aO => exact (by (with_reducible repeat (first | apply Kd.R_alloc | apply Kd.R_drewN | apply Kd.R_drew)); exact HO_191003.out)); (case aS => exact (below_size (by repeat (first | (with_reducible first | exact HB.out | apply below_alloc | apply pw_below_drewN | apply below_drew1 | refine below_set ?_ GE149.out | refine below_set ?_ GE190.out) | exact HB.out)))); (case aL => have := LMc113.out; omega); intro v308 w125 ho hb hg hat; rw [← Ny307.out] at ho; have n0_ := Aside0.mk (Kd.V_afterv (ok := (fun k_ => (P0_ k_ ∨ w.heap.size ≤ k_) ∧ some k_ ≠ (u191004 : Value).ownBlock ∧ some k_ ≠ (.slice Ao124 x191005_1.length co124 : Value).ownBlock ∧ k_ ≠ gb149 ∧ k_ ≠ gb190)) (by (with_reducible repeat (first | apply Kd.V_alloc | apply Kd.V_drewN | apply Kd.V_drew)); exact Kd.V_mono HO_5.out (fun _ hk => ⟨⟨hk.1, ⟨hk.2.2.1, ⟨hk.2.2.2.1, ⟨hk.2.2.2.2.1, hk.2.2.2.2.2⟩⟩⟩⟩, hk.2.1⟩)) hg hat); have n1_ := Aside0.mk (Kd.R_over' (by (with_reducible repeat (first | apply Kd.R_alloc | apply Kd.R_drewN | apply Kd.R_drew)); exact HO_191004.out) (Kd.R_typed (by (with_reducible repeat (first | apply Kd.R_alloc | apply Kd.R_drewN | apply Kd.R_drew)); exact HO_191003.out)) (by decide) hg); have n2_ := Aside0.mk (Kd.S_over' (by (with_reducible repeat (first | apply Kd.S_alloc | apply Kd.S_drewN | apply Kd.S_drew)); exact HO_191005.out) (Kd.R_typed (by (with_reducible repeat (first | apply Kd.R_alloc | apply Kd.R_drewN | apply Kd.R_drew)); exact HO_191003.out)) (by decide) hg); have n3_ := Aside0.mk (blk_grown (g := gb149) (o := .cells #[.int .i64 x150000_1, .int .i64 x150001_1, .int .i64 x150002_1, .slice none 0 0, .slice none 0 0, .slice none 0 0] 94 (0, 0)) (by (with_reducible repeat (first | refine blk_drewN ?_ _ | refine blk_drew ?_ | refine blk_alloc ?_ _)); exact BK149.out) hg (Kd.R_ne HO_191003.out BK149.out (by decide))); have n4_ := Aside0.mk (blk_grown (g := gb190) (o := .cells #[.int .i64 0, .int .i64 (wrap64 (8 * (wrap64 (rd l0 4)))), .int .i64 (wrap64 (8 * (wrap64 (rd l0 5)))), u191003, u191004, .slice Ao124 x191005_1.length co124] 94 (0, 0)) (by (with_reducible repeat (first | refine blk_drewN ?_ _ | refine blk_drew ?_ | refine blk_alloc ?_ _)); exact BK190.out) hg (Kd.R_ne HO_191003.out BK190.out (by decide))); have n5_ := Aside0.mk (hb); have n6_ := Aside0.mk (ho); clear HO_5 HO_191004 HO_191005 BK149 BK190 HB HO_191003; have HO_5 := n0_; have HO_191004 := n1_; have HO_191005 := n2_; have BK149 := n3_; have BK190 := n4_; have HB := n5_; have HO309 := n6_; clear n0_ n1_ n2_ n3_ n4_ n5_ n6_; clear ho hb hg hat; obtain ⟨Ao126, co126, eo126⟩ := Kd.R_slice HO309.out; subst eo126; have hcz127_0 : w125.cell? ⟨gb190, 0, none⟩ = some (.int .i64 0) := (blk_cell BK190.out 0).trans rfl; have hcz127_1 : w125.cell? ⟨gb190, 1, none⟩ = some (.int .i64 (wrap64 (8 * (wrap64 (rd l0 4))))) := (blk_cell BK190.out 1).trans rfl; have hcz127_2 : w125.cell? ⟨gb190, 2, none⟩ = some (.int .i64 (wrap64 (8 * (wrap64 (rd l0 5))))) := (blk_cell BK190.out 2).trans rfl; have hcz127_3 : w125.cell? ⟨gb190, 3, none⟩ = some (u191003) := (blk_cell BK190.out 3).trans rfl; have hcz127_4 : w125.cell? ⟨gb190, 4, none⟩ = some (u191004) := (blk_cell BK190.out 4).trans rfl; have hcz127_5 : w125.cell? ⟨gb190, 5, none⟩ = some (.slice Ao124 x191005_1.length co124) := (blk_cell BK190.out 5).trans rfl; have hfz127_0 := blk_frozen BK190.out 0; have hfz127_1 := blk_frozen BK190.out 1; have hfz127_2 := blk_frozen BK190.out 2; have hfz127_3 := blk_frozen BK190.out 3; have hfz127_4 := blk_frozen BK190.out 4; have hfz127_5 := blk_frozen BK190.out 5) | ((with_reducible refine gate_builtin (b := .append) (xs := #[.tmp 136, .tmp 138]) rfl ?_); (try (refine gate_guard (by rfl) ?_; dsimp only)); at_builtin; refine Kd.R_append (Kd.int .i64) (w0 := w) w.heap.size rfl (.tmp 136) (.tmp 138) 22 3 (.int .i64 0) 8 rfl Try.underlying22 info3 rfl (by decide) (by omega) u191004 x191004_1 (wrap64 (Go.bits .and .u8 (rd x5_1 0) 127)) [.int .i64 (wrap64 (Go.bits .and .u8 (rd x5_1 0) 127))] (fun k_ => (w.heap.size ≤ k_)) (fun _ => False) rfl (by first | (go_simp; done) | (go_simp; rfl)) ?aP (fun _ hk => hk.elim) ?aF ?aO ?aB ?aS ?aL ?_; (case aP => exact rfl); (case aB => exact (by repeat (first | (with_reducible first | exact HB.out | apply below_alloc | apply pw_below_drewN | apply below_drew1 | refine below_set ?_ GE149.out | refine below_set ?_ GE190.out) | exact HB.out))); (case aF => exact (fun k_ hk => (Nat.le_trans (below_size (by repeat (first | (with_reducible first | exact HB.out | apply below_alloc | apply pw_below_drewN | apply below_drew1 | refine below_set ?_ GE149.out | refine below_set ?_ GE190.out) | exact HB.out))) hk))); (case aO => exact (by (with_reducible repeat (first | apply Kd.R_alloc | apply Kd.R_drewN | apply Kd.R_drew)); exact Kd.R_mono (Kd.R_far (p := ⟨gb190, 3, none⟩) (Kd.R_types HO_191004.out BK190.out (by decide)) (fun _ hk => hk.2) (.slice Ao126 y307.length co126)) (fun _ hk => hk.1))); (case aS => exact (below_size (by repeat (first | (with_reducible first | exact HB.out | apply below_alloc | apply pw_below_drewN | apply below_drew1 | refine below_set ?_ GE149.out | refine below_set ?_ GE190.out) | exact HB.out)))); (case aL => have := LMc114.out; omega); intro v311 w128 ho hb hg hat; rw [← Ny310.out] at ho; have n0_ := Aside0.mk (Kd.V_afterv (ok := (fun k_ => (P0_ k_ ∨ w.heap.size ≤ k_) ∧ some k_ ≠ (.slice Ao124 x191005_1.length co124 : Value).ownBlock ∧ some k_ ≠ (.slice Ao126 y307.length co126 : Value).ownBlock ∧ k_ ≠ gb149 ∧ k_ ≠ gb190)) (by (with_reducible repeat (first | apply Kd.V_alloc | apply Kd.V_drewN | apply Kd.V_drew)); exact Kd.V_mono (Kd.V_far (p := ⟨gb190, 3, none⟩) (Kd.V_mono HO_5.out (fun k_ hk => (⟨hk, hk.1.2.2.2.2⟩ : _ ∧ k_ ≠ gb190))) (fun _ hk => hk.2) (.slice Ao126 y307.length co126)) (fun _ hk => ⟨⟨hk.1.1.1, ⟨hk.1.1.2.2.1, ⟨hk.1.2, ⟨hk.1.1.2.2.2.1, hk.1.1.2.2.2.2⟩⟩⟩⟩, hk.1.1.2.1⟩)) hg hat); have n1_ := Aside0.mk (Kd.S_over' (by (with_reducible repeat (first | apply Kd.S_alloc | apply Kd.S_drewN | apply Kd.S_drew)); exact (Kd.S_mono (Kd.S_far (p := ⟨gb190, 3, none⟩) (Kd.S_types HO_191005.out BK190.out (by decide)) (fun _ hk => hk.2) (.slice Ao126 y307.length co126)) (fun _ h_ => h_.1))) (Kd.R_typed (by (with_reducible repeat (first | apply Kd.R_alloc | apply Kd.R_drewN | apply Kd.R_drew)); exact (Kd.R_mono (Kd.R_far (p := ⟨gb190, 3, none⟩) (Kd.R_types HO_191004.out BK190.out (by decide)) (fun _ hk => hk.2) (.slice Ao126 y307.length co126)) (fun _ h_ => h_.1)))) (by decide) hg); have n2_ := Aside0.mk (blk_grown (g := gb149) (o := .cells #[.int .i64 x150000_1, .int .i64 x150001_1, .int .i64 x150002_1, .slice none 0 0, .slice none 0 0, .slice none 0 0] 94 (0, 0)) (by (with_reducible repeat (first | refine blk_drewN ?_ _ | refine blk_drew ?_ | refine blk_alloc ?_ _)); refine blk_far ?_ NB149_190.out _; (with_reducible repeat (first | refine blk_drewN ?_ _ | refine blk_drew ?_ | refine blk_alloc ?_ _)); exact BK149.out) hg (Kd.R_ne HO_191004.out BK149.out (by decide))); have n3_ := Aside0.mk (blk_grown (g := gb190) (o := .cells #[.int .i64 0, .int .i64 (wrap64 (8 * (wrap64 (rd l0 4)))), .int .i64 (wrap64 (8 * (wrap64 (rd l0 5)))), .slice Ao126 y307.length co126, u191004, .slice Ao124 x191005_1.length co124] 94 (0, 0)) (by (with_reducible repeat (first | refine blk_drewN ?_ _ | refine blk_drew ?_ | refine blk_alloc ?_ _)); refine blk_put (cs := #[.int .i64 0, .int .i64 (wrap64 (8 * (wrap64 (rd l0 4)))), .int .i64 (wrap64 (8 * (wrap64 (rd l0 5)))), u191003, u191004, .slice Ao124 x191005_1.length co124]) ?_ 3 _ rfl; (with_reducible repeat (first | refine blk_drewN ?_ _ | refine blk_drew ?_ | refine blk_alloc ?_ _)); exact BK190.out) hg (Kd.R_ne HO_191004.out BK190.out (by decide))); have n4_ := Aside0.mk (Kd.R_over' (by (with_reducible repeat (first | apply Kd.R_alloc | apply Kd.R_drewN | apply Kd.R_drew)); exact (Kd.R_mono (Kd.R_far (p := ⟨gb190, 3, none⟩) (Kd.R_types HO309.out BK190.out (by decide)) (fun _ hk => hk.2) (.slice Ao126 y307.length co126)) (fun _ h_ => h_.1))) (Kd.R_typed (by (with_reducible repeat (first | apply Kd.R_alloc | apply Kd.R_drewN | apply Kd.R_drew)); exact (Kd.R_mono (Kd.R_far (p := ⟨gb190, 3, none⟩) (Kd.R_types HO_191004.out BK190.out (by decide)) (fun _ hk => hk.2) (.slice Ao126 y307.length co126)) (fun _ h_ => h_.1)))) (by decide) hg); have n5_ := Aside0.mk (hb); have n6_ := Aside0.mk (ho); clear HO_5 HO_191005 BK149 BK190 HO309 HB HO_191004; have HO_5 := n0_; have HO_191005 := n1_; have BK149 := n2_; have BK190 := n3_; have HO309 := n4_; have HB := n5_; have HO312 := n6_; clear n0_ n1_ n2_ n3_ n4_ n5_ n6_; clear ho hb hg hat; obtain ⟨Ao129, co129, eo129⟩ := Kd.R_slice HO312.out; subst eo129; have hcz130_0 : w128.cell? ⟨gb190, 0, none⟩ = some (.int .i64 0) := (blk_cell BK190.out 0).trans rfl; have hcz130_1 : w128.cell? ⟨gb190, 1, none⟩ = some (.int .i64 (wrap64 (8 * (wrap64 (rd l0 4))))) := (blk_cell BK190.out 1).trans rfl; have hcz130_2 : w128.cell? ⟨gb190, 2, none⟩ = some (.int .i64 (wrap64 (8 * (wrap64 (rd l0 5))))) := (blk_cell BK190.out 2).trans rfl; have hcz130_3 : w128.cell? ⟨gb190, 3, none⟩ = some (.slice Ao126 y307.length co126) := (blk_cell BK190.out 3).trans rfl; have hcz130_4 : w128.cell? ⟨gb190, 4, none⟩ = some (u191004) := (blk_cell BK190.out 4).trans rfl; have hcz130_5 : w128.cell? ⟨gb190, 5, none⟩ = some (.slice Ao124 x191005_1.length co124) := (blk_cell BK190.out 5).trans rfl; have hfz130_0 := blk_frozen BK190.out 0; have hfz130_1 := blk_frozen BK190.out 1; have hfz130_2 := blk_frozen BK190.out 2; have hfz130_3 := blk_frozen BK190.out 3; have hfz130_4 := blk_frozen BK190.out 4; have hfz130_5 := blk_frozen BK190.out 5))
       have n0_ : Aside0 (Kd.V (Kd.int .u8) 5 (w128.setCell ⟨gb190, 4, none⟩ (.slice Ao129 y310.length co129)) w.heap.size (fun k_ => (P0_ k_ ∨ w.heap.size ≤ k_) ∧ some k_ ≠ (.slice Ao124 x191005_1.length co124 : Value).ownBlock ∧ some k_ ≠ (.slice Ao126 y307.length co126 : Value).ownBlock ∧ some k_ ≠ (.slice Ao129 y310.length co129 : Value).ownBlock ∧ k_ ≠ gb149 ∧ k_ ≠ gb190) (.slice (some ad245) x5_1.length co40) x5_1) := ⟨by (with_reducible repeat (first | apply Kd.V_alloc | apply Kd.V_drewN | apply Kd.V_drew)); exact Kd.V_mono (Kd.V_far (p := ⟨gb190, 4, none⟩) (Kd.V_mono HO_5.out (fun k_ hk => (⟨hk, hk.1.2.2.2.2⟩ : _ ∧ k_ ≠ gb190))) (fun _ hk => hk.2) (.slice Ao129 y310.length co129)) (fun _ hk => ⟨hk.1.1.1, ⟨hk.1.1.2.1, ⟨hk.1.1.2.2.1, ⟨hk.1.2, ⟨hk.1.1.2.2.2.1, hk.1.1.2.2.2.2⟩⟩⟩⟩⟩)⟩
       have n1_ : Aside0 (Kd.S (Kd.slice 5 (Kd.int .u8)) 51 (w128.setCell ⟨gb190, 4, none⟩ (.slice Ao129 y310.length co129)) w.heap.size (fun k_ => (w.heap.size ≤ k_)) (.slice Ao124 x191005_1.length co124) x191005_1) := ⟨by (with_reducible repeat (first | apply Kd.S_alloc | apply Kd.S_drewN | apply Kd.S_drew)); exact Kd.S_mono (Kd.S_far (p := ⟨gb190, 4, none⟩) (Kd.S_types HO_191005.out BK190.out (by decide)) (fun _ hk => hk.2) (.slice Ao129 y310.length co129)) (fun _ hk => hk.1)⟩
       have n2_ : Aside0 (Kd.R Kd.bool 4 (w128.setCell ⟨gb190, 4, none⟩ (.slice Ao129 y310.length co129)) w.heap.size (fun k_ => (w.heap.size ≤ k_)) (.slice Ao126 y307.length co126) y307) := ⟨by (with_reducible repeat (first | apply Kd.R_alloc | apply Kd.R_drewN | apply Kd.R_drew)); exact Kd.R_mono (Kd.R_far (p := ⟨gb190, 4, none⟩) (Kd.R_types HO309.out BK190.out (by decide)) (fun _ hk => hk.2) (.slice Ao129 y310.length co129)) (fun _ hk => hk.1)⟩
       have n3_ : Aside0 (Kd.R (Kd.int .i64) 3 (w128.setCell ⟨gb190, 4, none⟩ (.slice Ao129 y310.length co129)) w.heap.size (fun k_ => (w.heap.size ≤ k_)) (.slice Ao129 y310.length co129) y310) := ⟨by (with_reducible repeat (first | apply Kd.R_alloc | apply Kd.R_drewN | apply Kd.R_drew)); exact Kd.R_mono (Kd.R_far (p := ⟨gb190, 4, none⟩) (Kd.R_types HO312.out BK190.out (by decide)) (fun _ hk => hk.2) (.slice Ao129 y310.length co129)) (fun _ hk => hk.1)⟩
       have n4_ : Aside0 ((w128.setCell ⟨gb190, 4, none⟩ (.slice Ao129 y310.length co129)).heap[gb149]? = some (.cells #[.int .i64 x150000_1, .int .i64 x150001_1, .int .i64 x150002_1, .slice none 0 0, .slice none 0 0, .slice none 0 0] 94 (0, 0))) := ⟨by (with_reducible repeat (first | refine blk_drewN ?_ _ | refine blk_drew ?_ | refine blk_alloc ?_ _)); refine blk_far ?_ NB149_190.out _; (with_reducible repeat (first | refine blk_drewN ?_ _ | refine blk_drew ?_ | refine blk_alloc ?_ _)); exact BK149.out⟩
       have n5_ : Aside0 ((w128.setCell ⟨gb190, 4, none⟩ (.slice Ao129 y310.length co129)).heap[gb190]? = some (.cells #[.int .i64 0, .int .i64 (wrap64 (8 * (wrap64 (rd l0 4)))), .int .i64 (wrap64 (8 * (wrap64 (rd l0 5)))), .slice Ao126 y307.length co126, .slice Ao129 y310.length co129, .slice Ao124 x191005_1.length co124] 94 (0, 0))) := ⟨by (with_reducible repeat (first | refine blk_drewN ?_ _ | refine blk_drew ?_ | refine blk_alloc ?_ _)); refine blk_put (cs := #[.int .i64 0, .int .i64 (wrap64 (8 * (wrap64 (rd l0 4)))), .int .i64 (wrap64 (8 * (wrap64 (rd l0 5)))), .slice Ao126 y307.length co126, u191004, .slice Ao124 x191005_1.length co124]) ?_ 4 _ rfl; (with_reducible repeat (first | refine blk_drewN ?_ _ | refine blk_drew ?_ | refine blk_alloc ?_ _)); exact BK190.out⟩
       have n6_ : Aside0 (Below w.heap.size w (w128.setCell ⟨gb190, 4, none⟩ (.slice Ao129 y310.length co129))) := ⟨by repeat (first | (with_reducible first | exact HB.out | apply below_alloc | apply pw_below_drewN | apply below_drew1 | refine below_set ?_ GE149.out | refine below_set ?_ GE190.out) | exact HB.out)⟩
       (try clear HO_5)
       (try clear HO_191005)
       (try clear HO309)
       (try clear HO312)
       (try clear BK149)
       (try clear BK190)
       (try clear HB)
       generalize (w128.setCell ⟨gb190, 4, none⟩ (.slice Ao129 y310.length co129)) = w131 at n0_ n1_ n2_ n3_ n4_ n5_ n6_ ⊢
       have HO_5 := n0_
       have HO_191005 := n1_
       have HO309 := n2_
       have HO312 := n3_
       have BK149 := n4_
       have BK190 := n5_
       have HB := n6_
       clear n0_ n1_ n2_ n3_ n4_ n5_ n6_
       have n0_ := Aside0.mk (Kd.V_drew HO_5.out)
       have n1_ := Aside0.mk (Kd.S_drew HO_191005.out)
       have n2_ := Aside0.mk (Kd.R_drew HO309.out)
       have n3_ := Aside0.mk (Kd.R_drew HO312.out)
       have n4_ := Aside0.mk (blk_drew BK149.out)
       have n5_ := Aside0.mk (blk_drew BK190.out)
       have n6_ := Aside0.mk (below_drew1 HB.out)
       clear HO_5
       clear HO_191005
       clear HO309
       clear HO312
       clear BK149
       clear BK190
       clear HB
       have HO_5 := n0_
       have HO_191005 := n1_
       have HO309 := n2_
       have HO312 := n3_
       have BK149 := n4_
       have BK190 := n5_
       have HB := n6_
       clear n0_ n1_ n2_ n3_ n4_ n5_ n6_
       have q133 : (ji65 : Int) ≤ ((x5_1.length : Int) : Int) := of_decide_eq_true (by first | (with_reducible assumption) | assumption)
       obtain ⟨i0133, hi0133, _, hsz133, _⟩ := info_parts info5
       have hroom133 : x5_1.length ≤ co40 := (Kd.V_reads' HO_5.out).2.1
       have hC133 : Kd.F (Kd.int .u8) _ _ (some ad245) x5_1.length x5_1 := (Kd.V_at (base := w.heap.size) HO_5.out).2.2
       have ql133 : (5 : Int) ≤ (ji65 : Int) := of_decide_eq_true (by first | (with_reducible assumption) | assumption)
       have hcut133 := cut_mid (P := Try.prog) 51 5 .i64 .i64 Try.underlying51 hi0133 1 hsz133 (some ad245) x5_1.length co40 5 ji65 (by omega) ql133 q133 hroom133
       have hr133 := Kd.F_mid (lo := (5 : Int).toNat) (hi := (ji65 : Int).toNat) (c := co40) hC133 (by omega) (by omega) hroom133
       obtain ⟨A133, hA133⟩ : ∃ A1, A1 = (if co40 = (5 : Int).toNat then (some ad245) else ((some ad245) : Option Addr).map (·.add ((5 : Int).toNat * 1))) := ⟨_, rfl⟩
       obtain ⟨c133, hc133⟩ : ∃ c1, c1 = co40 - (5 : Int).toNat := ⟨_, rfl⟩
       have hy133 : y316.length = (ji65 : Int).toNat - (5 : Int).toNat := (by rw [Ny316.out, List.length_drop, List.length_take] <;> omega)
       rw [show ((x5_1).take (ji65 : Int).toNat).drop (5 : Int).toNat = y316 from Ny316.out.symm] at hr133
       replace hr133 : Kd.F (Kd.int .u8) _ _ A133 y316.length y316 := (by rw [hA133]; exact hr133)
       rw [← hy133, ← hA133, ← hc133] at hcut133
       have HO320 := Aside0.mk (show Kd.V (Kd.int .u8) 5 _ w.heap.size _ (.slice A133 y316.length c133) y316 from Kd.V_mk (by rw [hy133, hc133]; exact Nat.sub_le_sub_right (Nat.le_trans (by omega) hroom133) _) hr133)
       have HC320 := Aside0.mk (show y316.length ≤ c133 from by rw [hy133, hc133]; exact Nat.sub_le_sub_right (Nat.le_trans (by omega) hroom133) _)
       clear hr133 hC133 hroom133 hi0133 hsz133 hc133
       have KY133 := Aside0.mk hy133
       have KA133 := Aside0.mk hA133
       clear hy133 hA133
       replace q133 := eq_true q133
       refine start_ (n := 11) (S := fun w' => w'.cell? ⟨gb190, 0, none⟩ = some (.int .i64 0) ∧ w'.cell? ⟨gb190, 1, none⟩ = some (.int .i64 (wrap64 (8 * (wrap64 (rd l0 4))))) ∧ w'.cell? ⟨gb190, 2, none⟩ = some (.int .i64 (wrap64 (8 * (wrap64 (rd l0 5))))) ∧ w'.cell? ⟨gb190, 3, none⟩ = some (.slice Ao126 y307.length co126) ∧ w'.cell? ⟨gb190, 4, none⟩ = some (.slice Ao129 y310.length co129) ∧ w'.cell? ⟨gb190, 5, none⟩ = some (.slice Ao124 x191005_1.length co124)) (ds := [10]) #[false, false, false, false, false, false, false, false, false, false, false] (by kernel_rfl) rfl rfl ⟨(blk_cell BK190.out 0).trans rfl, (blk_cell BK190.out 1).trans rfl, (blk_cell BK190.out 2).trans rfl, (blk_cell BK190.out 3).trans rfl, (blk_cell BK190.out 4).trans rfl, (blk_cell BK190.out 5).trans rfl⟩ (fun hHeld => ?_); refine with_tabW impl_ReadParts.tab28 impl_ReadParts.bits28 (fun HT_ HW_ => ?_)
       generalize w131.drew = w132 at HO_5 HO_191005 HO309 HO312 BK149 BK190 HB HO320 hHeld ⊢
       refine pure_ (i := 0) (N := some 141) (v := ?_) (a' := ?_) #[true, false, false, false, false, false, false, false, false, false, false] rfl rfl (any_of HT_.out (by kernel_rfl)) (fun _ _ _ h => h) (Or.inl ⟨by rfl, ?_⟩) ?_ ?_
       rotate_left
       ·intro w'
        go_simp
        with_reducible rfl
       rotate_left
       ·simp only [Act.put, List.setIfInBounds_toArray, List.set_cons_zero, List.set_cons_succ, i64_w, i32_w]
        rfl
       refine pure_ (i := 3) (N := some 144) (v := ?_) (a' := ?_) #[true, false, false, true, false, false, false, false, false, false, false] rfl rfl (any_of HT_.out (by kernel_rfl)) (fun _ _ _ h => h) (Or.inl ⟨by rfl, ?_⟩) ?_ ?_
       rotate_left
       ·intro w'
        go_simp
        with_reducible rfl
       rotate_left
       ·simp only [Act.put, List.setIfInBounds_toArray, List.set_cons_zero, List.set_cons_succ, i64_w, i32_w]
        rfl
       refine pure_ (i := 4) (N := some 145) (v := ?_) (a' := ?_) #[true, false, false, true, true, false, false, false, false, false, false] rfl rfl (any_of HT_.out (by kernel_rfl)) (fun _ _ _ h => h) (Or.inl ⟨by rfl, ?_⟩) ?_ ?_
       rotate_left
       ·intro w'
        go_simp
        with_reducible rfl
       rotate_left
       ·simp only [Act.put, List.setIfInBounds_toArray, List.set_cons_zero, List.set_cons_succ, i64_w, i32_w]
        rfl
       refine pure_ (i := 5) (N := some 146) (v := ?_) (a' := ?_) #[true, false, false, true, true, true, false, false, false, false, false] rfl rfl (any_of HT_.out (by kernel_rfl)) (fun _ _ _ h => h) (Or.inl ⟨by rfl, ?_⟩) ?_ ?_
       rotate_left
       ·intro w'
        go_simp
        with_reducible rfl
       rotate_left
       ·simp only [Act.put, List.setIfInBounds_toArray, List.set_cons_zero, List.set_cons_succ, i64_w, i32_w]
        rfl
       refine take_ (i := 1) (N := some 142) (v := ?_) (a' := ?_) #[true, true, false, true, true, true, false, false, false, false, false] rfl rfl (take_ofW HT_.out HW_.out (by kernel_rfl)) (fun _ _ _ h => h) (Or.inl ⟨by rfl, ?_⟩) hHeld ?_ ?_
       rotate_left
       ·rintro w' ⟨s0, s1, s2, s3, s4, s5⟩
        go_simp
        with_reducible rfl
       rotate_left
       ·simp only [Act.put, List.setIfInBounds_toArray, List.set_cons_zero, List.set_cons_succ, i64_w, i32_w]
        rfl
       refine one_ (i := 2) (N := some 143) #[true, true, true, true, true, true, false, false, false, false, false] rfl rfl (one_of HT_.out (by kernel_rfl)) (by decide) (fun K hK => ?_)
       refine Kd.R_lit_step (Kd.int .u8) _ 5 ?hg (N := 143) ?hd (xs := ([] : List Int)) (inner := []) (ok := fun _ => True) (okp := fun _ => True) ?hr ?hp (fun _ hk => hk) trivial (Below.refl _ _) (Nat.le_refl _) (by simp) ?_; (case hd => rfl); (case hg => rfl); (case hr => first | (go_simp; done) | (go_simp; rfl)); (case hp => exact (Reps.none _ _))
       intro v314 w134 ho135 hb hg_ hnew_
       clear hg_ hnew_
       (first | rw [← Ny313.out] at ho135 | (simp only [Int.reduceToNat] at ho135; rw [← Ny313.out] at ho135))
       have n0_ := Aside0.mk (Kd.V_elder' (by (with_reducible repeat (first | apply Kd.V_alloc | apply Kd.V_drewN | apply Kd.V_drew)); exact HO_5.out) (Kd.R_base ho135) hb)
       have n1_ := Aside0.mk (Kd.S_elder' (by (with_reducible repeat (first | apply Kd.S_alloc | apply Kd.S_drewN | apply Kd.S_drew)); exact HO_191005.out) (Kd.R_base ho135) hb)
       have n2_ := Aside0.mk (Kd.R_below (by (with_reducible repeat (first | apply Kd.R_alloc | apply Kd.R_drewN | apply Kd.R_drew)); exact HO309.out) hb)
       have n3_ := Aside0.mk (Kd.R_below (by (with_reducible repeat (first | apply Kd.R_alloc | apply Kd.R_drewN | apply Kd.R_drew)); exact HO312.out) hb)
       have n4_ := Aside0.mk (Kd.V_elder' (by (with_reducible repeat (first | apply Kd.V_alloc | apply Kd.V_drewN | apply Kd.V_drew)); exact HO320.out) (Kd.R_base ho135) hb)
       have n5_ := Aside0.mk (Kd.R_lower (Kd.R_newM (M := fun k_ => (w.heap.size ≤ k_)) ho135 (below_size (by repeat (first | (with_reducible first | exact HB.out | apply below_alloc | apply pw_below_drewN | apply below_drew1 | refine below_set ?_ GE149.out | refine below_set ?_ GE190.out) | exact HB.out))) (fun k_ h_ => h_)) (below_size (by repeat (first | (with_reducible first | exact HB.out | apply below_alloc | apply pw_below_drewN | apply below_drew1 | refine below_set ?_ GE149.out | refine below_set ?_ GE190.out) | exact HB.out))))
       have n6_ := Aside0.mk (blk_below (g := gb149) (o := .cells #[.int .i64 x150000_1, .int .i64 x150001_1, .int .i64 x150002_1, .slice none 0 0, .slice none 0 0, .slice none 0 0] 94 (0, 0)) (by (with_reducible repeat (first | refine blk_drewN ?_ _ | refine blk_drew ?_ | refine blk_alloc ?_ _)); exact BK149.out) hb)
       have n7_ := Aside0.mk (blk_below (g := gb190) (o := .cells #[.int .i64 0, .int .i64 (wrap64 (8 * (wrap64 (rd l0 4)))), .int .i64 (wrap64 (8 * (wrap64 (rd l0 5)))), .slice Ao126 y307.length co126, .slice Ao129 y310.length co129, .slice Ao124 x191005_1.length co124] 94 (0, 0)) (by (with_reducible repeat (first | refine blk_drewN ?_ _ | refine blk_drew ?_ | refine blk_alloc ?_ _)); exact BK190.out) hb)
       have n8_ := Aside0.mk (below_step (by repeat (first | (with_reducible first | exact HB.out | apply below_alloc | apply pw_below_drewN | apply below_drew1 | refine below_set ?_ GE149.out | refine below_set ?_ GE190.out) | exact HB.out)) hb)
       clear HO_5
       clear HO_191005
       clear HO309
       clear HO312
       clear HO320
       clear BK149
       clear BK190
       clear HB
       have HO_5 := n0_
       have HO_191005 := n1_
       have HO309 := n2_
       have HO312 := n3_
       have HO320 := n4_
       have HO315 := n5_
       have BK149 := n6_
       have BK190 := n7_
       have HB := n8_
       clear n0_ n1_ n2_ n3_ n4_ n5_ n6_ n7_ n8_
       clear hb ho135
       refine hK.out _ _ ⟨(blk_cell BK190.out 0).trans rfl, (blk_cell BK190.out 1).trans rfl, (blk_cell BK190.out 2).trans rfl, (blk_cell BK190.out 3).trans rfl, (blk_cell BK190.out 4).trans rfl, (blk_cell BK190.out 5).trans rfl⟩ (fun hHeld => ?_)
       clear hK K
       refine norm_ (a' := ?_) ?_ ?_
       rotate_left
       ·show Act.put _ (some 143) _ = _
        simp only [Act.put, List.setIfInBounds_toArray, List.set_cons_zero, List.set_cons_succ, i64_w, i32_w]
        rfl
       refine one_ (i := 6) (N := some 147) #[true, true, true, true, true, true, true, false, false, false, false] rfl rfl (one_of HT_.out (by kernel_rfl)) (by decide) (fun K hK => ?_)
       refine Kd.R_append_rows_step (Kd.int .u8) (w0 := w) w.heap.size (by rfl) (.tmp 143) (.tmp 146) 51 5 (.int .u8 0) 1 rfl Try.underlying51 info5 rfl (by decide) (by omega) v314 y313 y316 _ _ _ (fun k_ => (w.heap.size ≤ k_)) (fun _ => False) rfl rfl ?aO ?aR (fun _ _ h => h) (fun _ h => h.elim) ?aF ?aB ?aS ?aL ?_
       (case aR => repeat (first | exact (Kd.V_reads' HO320.out).2.2 | (with_reducible refine Kd.C_alloc ?_ _) | (with_reducible refine Kd.C_drewN ?_ _) | (with_reducible refine Kd.C_drew ?_)))
       (case aB => exact (by repeat (first | (with_reducible first | exact HB.out | apply below_alloc | apply pw_below_drewN | apply below_drew1 | refine below_set ?_ GE149.out | refine below_set ?_ GE190.out) | exact HB.out)))
       (case aF => exact (fun k_ hk => (Nat.le_trans (below_size (by repeat (first | (with_reducible first | exact HB.out | apply below_alloc | apply pw_below_drewN | apply below_drew1 | refine below_set ?_ GE149.out | refine below_set ?_ GE190.out) | exact HB.out))) hk)))
       (case aO => exact (by (with_reducible repeat (first | apply Kd.R_alloc | apply Kd.R_drewN | apply Kd.R_drew)); exact Kd.R_mono HO315.out (fun _ hk => hk.1)))
       (case aS => exact (below_size (by repeat (first | (with_reducible first | exact HB.out | apply below_alloc | apply pw_below_drewN | apply below_drew1 | refine below_set ?_ GE149.out | refine below_set ?_ GE190.out) | exact HB.out))))
       (case aL => have := LMc117.out; omega)
       intro v322 w136 ho hb hg hat
       rw [← Ny321.out] at ho
       have n0_ := Aside0.mk (Kd.V_afterv (ok := (fun k_ => (P0_ k_ ∨ w.heap.size ≤ k_) ∧ some k_ ≠ (.slice Ao124 x191005_1.length co124 : Value).ownBlock ∧ some k_ ≠ (.slice Ao126 y307.length co126 : Value).ownBlock ∧ some k_ ≠ (.slice Ao129 y310.length co129 : Value).ownBlock ∧ k_ ≠ gb149 ∧ k_ ≠ gb190)) (by (with_reducible repeat (first | apply Kd.V_alloc | apply Kd.V_drewN | apply Kd.V_drew)); exact HO_5.out) hg hat)
       have n1_ := Aside0.mk (Kd.S_after (ok := (fun k_ => (w.heap.size ≤ k_))) (by (with_reducible repeat (first | apply Kd.S_alloc | apply Kd.S_drewN | apply Kd.S_drew)); exact HO_191005.out) hg hat)
       have n2_ := Aside0.mk (blk_grown (g := gb149) (o := .cells #[.int .i64 x150000_1, .int .i64 x150001_1, .int .i64 x150002_1, .slice none 0 0, .slice none 0 0, .slice none 0 0] 94 (0, 0)) (by (with_reducible repeat (first | refine blk_drewN ?_ _ | refine blk_drew ?_ | refine blk_alloc ?_ _)); exact BK149.out) hg (Kd.R_ne HO315.out BK149.out (by decide)))
       have n3_ := Aside0.mk (blk_grown (g := gb190) (o := .cells #[.int .i64 0, .int .i64 (wrap64 (8 * (wrap64 (rd l0 4)))), .int .i64 (wrap64 (8 * (wrap64 (rd l0 5)))), .slice Ao126 y307.length co126, .slice Ao129 y310.length co129, .slice Ao124 x191005_1.length co124] 94 (0, 0)) (by (with_reducible repeat (first | refine blk_drewN ?_ _ | refine blk_drew ?_ | refine blk_alloc ?_ _)); exact BK190.out) hg (Kd.R_ne HO315.out BK190.out (by decide)))
       have n4_ := Aside0.mk (Kd.R_over' (by (with_reducible repeat (first | apply Kd.R_alloc | apply Kd.R_drewN | apply Kd.R_drew)); exact HO309.out) (Kd.R_typed (by (with_reducible repeat (first | apply Kd.R_alloc | apply Kd.R_drewN | apply Kd.R_drew)); exact HO315.out)) (by decide) hg)
       have n5_ := Aside0.mk (Kd.R_over' (by (with_reducible repeat (first | apply Kd.R_alloc | apply Kd.R_drewN | apply Kd.R_drew)); exact HO312.out) (Kd.R_typed (by (with_reducible repeat (first | apply Kd.R_alloc | apply Kd.R_drewN | apply Kd.R_drew)); exact HO315.out)) (by decide) hg)
       have n6_ := Aside0.mk (Kd.V_afterv (ok := (fun k_ => (P0_ k_ ∨ w.heap.size ≤ k_) ∧ some k_ ≠ (.slice Ao124 x191005_1.length co124 : Value).ownBlock ∧ some k_ ≠ (.slice Ao126 y307.length co126 : Value).ownBlock ∧ some k_ ≠ (.slice Ao129 y310.length co129 : Value).ownBlock ∧ k_ ≠ gb149 ∧ k_ ≠ gb190)) (by (with_reducible repeat (first | apply Kd.V_alloc | apply Kd.V_drewN | apply Kd.V_drew)); exact HO320.out) hg hat)
       have n7_ := Aside0.mk (hb)
       have n8_ := Aside0.mk (ho)
       clear HO_5
       clear HO_191005
       clear BK149
       clear BK190
       clear HO309
       clear HO312
       clear HO320
       clear HB
       clear HO315
       have HO_5 := n0_
       have HO_191005 := n1_
       have BK149 := n2_
       have BK190 := n3_
       have HO309 := n4_
       have HO312 := n5_
       have HO320 := n6_
       have HB := n7_
       have HO323 := n8_
       clear n0_ n1_ n2_ n3_ n4_ n5_ n6_ n7_ n8_
       clear ho hb hg hat
       obtain ⟨Ao138, co138, eo138⟩ := Kd.R_slice HO323.out
       (first | subst eo138 | (injection eo138 with f1_ f2_ f3_; have f4_ := f1_.symm; have f5_ := f3_.symm; clear f1_ f2_ f3_; subst f4_; subst f5_))
       refine hK.out _ _ ⟨(blk_cell BK190.out 0).trans rfl, (blk_cell BK190.out 1).trans rfl, (blk_cell BK190.out 2).trans rfl, (blk_cell BK190.out 3).trans rfl, (blk_cell BK190.out 4).trans rfl, (blk_cell BK190.out 5).trans rfl⟩ (fun hHeld => ?_)
       clear hK K
       refine norm_ (a' := ?_) ?_ ?_
       rotate_left
       ·show Act.put _ (some 147) _ = _
        simp only [Act.put, List.setIfInBounds_toArray, List.set_cons_zero, List.set_cons_succ, i64_w, i32_w]
        rfl
       refine one_ (i := 7) (N := some 148) #[true, true, true, true, true, true, true, true, false, false, false] rfl rfl (one_of HT_.out (by kernel_rfl)) (by decide) (fun K hK => ?_)
       refine value_ (w1 := ?_) (v := ?_) (by rfl) rfl ?_ ?_
       rotate_left 2
       ·go_simp
        constructor
        ·rfl
        ·rfl
       refine hK.out _ _ ⟨(blk_cell (blk_alloc BK190.out _) 0).trans rfl, (blk_cell (blk_alloc BK190.out _) 1).trans rfl, (blk_cell (blk_alloc BK190.out _) 2).trans rfl, (blk_cell (blk_alloc BK190.out _) 3).trans rfl, (blk_cell (blk_alloc BK190.out _) 4).trans rfl, (blk_cell (blk_alloc BK190.out _) 5).trans rfl⟩ (fun hHeld => ?_)
       clear hK K
       refine norm_ (a' := ?_) ?_ ?_
       rotate_left
       ·show Act.put _ (some 148) _ = _
        simp only [Act.put, List.setIfInBounds_toArray, List.set_cons_zero, List.set_cons_succ, i64_w, i32_w]
        rfl
       refine one_ (i := 8) (N := some 149) #[true, true, true, true, true, true, true, true, true, false, false] rfl rfl (one_of HT_.out (by kernel_rfl)) (by decide) (fun K hK => ?_)
       refine Kd.S_append_step (Kd.slice 5 (Kd.int .u8)) (w0 := w) w.heap.size (by rfl) (.tmp 142) (.tmp 148) 92 51 (.slice none 0 0) 24 rfl Try.underlying92 info51 rfl (by decide) (by omega) (.slice Ao124 x191005_1.length co124) x191005_1 y321 [.slice Ao138 y321.length co138] (fun k_ => (w.heap.size ≤ k_)) (fun k_ => some k_ = (.slice Ao138 y321.length co138 : Value).ownBlock) rfl rfl ?aP (fun k_ hk_ => ((Kd.R_mono (ok' := fun k_ => ((fun k_ => (w.heap.size ≤ k_))) k_ ∧ some k_ ≠ (.slice Ao124 x191005_1.length co124 : Value).ownBlock) (Kd.R_apart' (HO323.out) (Kd.S_typed HO_191005.out) (by decide)) (fun k_ hk => ⟨hk.1, hk.2⟩))).1 k_ hk_.symm) ?aF ?aO ?aB ?aS ?aL ?_
       (case aP => exact Kd.M_row (Kd.R_mono (Kd.R_tight rfl (Kd.R_mono (ok' := fun k_ => ((fun k_ => (w.heap.size ≤ k_))) k_ ∧ some k_ ≠ (.slice Ao124 x191005_1.length co124 : Value).ownBlock) (Kd.R_apart' (HO323.out) (Kd.S_typed HO_191005.out) (by decide)) (fun k_ hk => ⟨hk.1, hk.2⟩))) (fun _ h_ => h_)))
       (case aB => exact (by repeat (first | (with_reducible first | exact HB.out | apply below_alloc | apply pw_below_drewN | apply below_drew1 | refine below_set ?_ GE149.out | refine below_set ?_ GE190.out) | exact HB.out)))
       (case aF => exact (fun k_ hk => (Nat.le_trans (below_size (by repeat (first | (with_reducible first | exact HB.out | apply below_alloc | apply pw_below_drewN | apply below_drew1 | refine below_set ?_ GE149.out | refine below_set ?_ GE190.out) | exact HB.out))) hk)))
       (case aO => exact (by (with_reducible repeat (first | apply Kd.S_alloc | apply Kd.S_drewN | apply Kd.S_drew)); exact Kd.S_mono HO_191005.out (fun k_ hk => ⟨hk.1, fun e_ => hk.2 e_⟩)))
       (case aS => exact (below_size (by repeat (first | (with_reducible first | exact HB.out | apply below_alloc | apply pw_below_drewN | apply below_drew1 | refine below_set ?_ GE149.out | refine below_set ?_ GE190.out) | exact HB.out))))
       (case aL => have := LMc118.out; omega)
       intro v325 w137 ho hb hg hat
       rw [← Ny324.out] at ho
       have n0_ := Aside0.mk (Kd.V_afterv (ok := (fun k_ => (P0_ k_ ∨ w.heap.size ≤ k_) ∧ some k_ ≠ (.slice Ao126 y307.length co126 : Value).ownBlock ∧ some k_ ≠ (.slice Ao129 y310.length co129 : Value).ownBlock ∧ some k_ ≠ (.slice Ao138 y321.length co138 : Value).ownBlock ∧ k_ ≠ gb149 ∧ k_ ≠ gb190)) (by (with_reducible repeat (first | apply Kd.V_alloc | apply Kd.V_drewN | apply Kd.V_drew)); exact Kd.V_mono HO_5.out (fun _ hk => ⟨⟨hk.1.1, ⟨hk.1.2.2.1, ⟨hk.1.2.2.2.1, ⟨hk.2, ⟨hk.1.2.2.2.2.1, hk.1.2.2.2.2.2⟩⟩⟩⟩⟩, hk.1.2.1⟩)) hg hat)
       have n1_ := Aside0.mk (blk_grown (g := gb149) (o := .cells #[.int .i64 x150000_1, .int .i64 x150001_1, .int .i64 x150002_1, .slice none 0 0, .slice none 0 0, .slice none 0 0] 94 (0, 0)) (by (with_reducible repeat (first | refine blk_drewN ?_ _ | refine blk_drew ?_ | refine blk_alloc ?_ _)); exact BK149.out) hg (Kd.S_ne HO_191005.out BK149.out (by decide)))
       have n2_ := Aside0.mk (blk_grown (g := gb190) (o := .cells #[.int .i64 0, .int .i64 (wrap64 (8 * (wrap64 (rd l0 4)))), .int .i64 (wrap64 (8 * (wrap64 (rd l0 5)))), .slice Ao126 y307.length co126, .slice Ao129 y310.length co129, .slice Ao124 x191005_1.length co124] 94 (0, 0)) (by (with_reducible repeat (first | refine blk_drewN ?_ _ | refine blk_drew ?_ | refine blk_alloc ?_ _)); exact BK190.out) hg (Kd.S_ne HO_191005.out BK190.out (by decide)))
       have n3_ := Aside0.mk (Kd.R_over' (by (with_reducible repeat (first | apply Kd.R_alloc | apply Kd.R_drewN | apply Kd.R_drew)); exact HO309.out) (Kd.S_typed (by (with_reducible repeat (first | apply Kd.S_alloc | apply Kd.S_drewN | apply Kd.S_drew)); exact HO_191005.out)) (by decide) hg)
       have n4_ := Aside0.mk (Kd.R_over' (by (with_reducible repeat (first | apply Kd.R_alloc | apply Kd.R_drewN | apply Kd.R_drew)); exact HO312.out) (Kd.S_typed (by (with_reducible repeat (first | apply Kd.S_alloc | apply Kd.S_drewN | apply Kd.S_drew)); exact HO_191005.out)) (by decide) hg)
       have n5_ := Aside0.mk (Kd.V_afterv (ok := (fun k_ => (P0_ k_ ∨ w.heap.size ≤ k_) ∧ some k_ ≠ (.slice Ao126 y307.length co126 : Value).ownBlock ∧ some k_ ≠ (.slice Ao129 y310.length co129 : Value).ownBlock ∧ some k_ ≠ (.slice Ao138 y321.length co138 : Value).ownBlock ∧ k_ ≠ gb149 ∧ k_ ≠ gb190)) (by (with_reducible repeat (first | apply Kd.V_alloc | apply Kd.V_drewN | apply Kd.V_drew)); exact Kd.V_mono HO320.out (fun _ hk => ⟨⟨hk.1.1, ⟨hk.1.2.2.1, ⟨hk.1.2.2.2.1, ⟨hk.2, ⟨hk.1.2.2.2.2.1, hk.1.2.2.2.2.2⟩⟩⟩⟩⟩, hk.1.2.1⟩)) hg hat)
       have n6_ := Aside0.mk (hb)
       have n7_ := Aside0.mk (ho)
       clear HO_5
       clear BK149
       clear BK190
       clear HO309
       clear HO312
       clear HO320
       clear HB
       clear HO_191005
       clear HO323
       have HO_5 := n0_
       have BK149 := n1_
       have BK190 := n2_
       have HO309 := n3_
       have HO312 := n4_
       have HO320 := n5_
       have HB := n6_
       have HO326 := n7_
       clear n0_ n1_ n2_ n3_ n4_ n5_ n6_ n7_
       clear ho hb hg hat
       obtain ⟨Ao139, co139, eo139⟩ := Kd.S_slice HO326.out
       (first | subst eo139 | (injection eo139 with f1_ f2_ f3_; have f4_ := f1_.symm; have f5_ := f3_.symm; clear f1_ f2_ f3_; subst f4_; subst f5_))
       refine hK.out _ _ ⟨(blk_cell BK190.out 0).trans rfl, (blk_cell BK190.out 1).trans rfl, (blk_cell BK190.out 2).trans rfl, (blk_cell BK190.out 3).trans rfl, (blk_cell BK190.out 4).trans rfl, (blk_cell BK190.out 5).trans rfl⟩ (fun hHeld => ?_)
       clear hK K
       refine norm_ (a' := ?_) ?_ ?_
       rotate_left
       ·show Act.put _ (some 149) _ = _
        simp only [Act.put, List.setIfInBounds_toArray, List.set_cons_zero, List.set_cons_succ, i64_w, i32_w]
        rfl
       refine pure_ (i := 9) (N := some 150) (v := ?_) (a' := ?_) #[true, true, true, true, true, true, true, true, true, true, false] rfl rfl (any_of HT_.out (by kernel_rfl)) (fun _ _ _ h => h) (Or.inl ⟨by rfl, ?_⟩) ?_ ?_
       rotate_left
       ·intro w'
        go_simp
        with_reducible rfl
       rotate_left
       ·simp only [Act.put, List.setIfInBounds_toArray, List.set_cons_zero, List.set_cons_succ, i64_w, i32_w]
        rfl
       refine last_ (i := 10) (N := none) #[true, true, true, true, true, true, true, true, true, true, true] rfl rfl (one_of HT_.out (by kernel_rfl)) (by decide) (fun K hK => ?_)
       have hs140 : w137.cell? ⟨gb190, 5, none⟩ = some (.slice Ao124 x191005_1.length co124) := (blk_cell BK190.out 5).trans rfl
       have hfs140 := blk_frozen BK190.out 5
       have hns140_0 := NB149_190.out
       have hms140_0 := NB190_149.out
       refine skip_ (w1 := ?_) (by rfl) rfl ?_ ?_
       rotate_left
       ·go_simp
        rfl
       refine hK.out _ _ ?_
       clear hK K
       refine done_ (done_of HT_.out (by kernel_rfl)) ?_
       have n0_ : Aside0 (Kd.V (Kd.int .u8) 5 (w137.setCell ⟨gb190, 5, none⟩ (.slice Ao139 y324.length co139)) w.heap.size (fun k_ => (P0_ k_ ∨ w.heap.size ≤ k_) ∧ some k_ ≠ (.slice Ao126 y307.length co126 : Value).ownBlock ∧ some k_ ≠ (.slice Ao129 y310.length co129 : Value).ownBlock ∧ some k_ ≠ (.slice Ao139 y324.length co139 : Value).ownBlock ∧ k_ ≠ gb149 ∧ k_ ≠ gb190) (.slice (some ad245) x5_1.length co40) x5_1) := ⟨by (with_reducible repeat (first | apply Kd.V_alloc | apply Kd.V_drewN | apply Kd.V_drew)); exact Kd.V_mono (Kd.V_far (p := ⟨gb190, 5, none⟩) (Kd.V_mono HO_5.out (fun k_ hk => (⟨hk, hk.1.2.2.2.2.2⟩ : _ ∧ k_ ≠ gb190))) (fun _ hk => hk.2) (.slice Ao139 y324.length co139)) (fun _ hk => ⟨hk.1.1.1, ⟨hk.1.1.2.1, ⟨hk.1.1.2.2.1, ⟨hk.1.2, ⟨hk.1.1.2.2.2.2.1, hk.1.1.2.2.2.2.2⟩⟩⟩⟩⟩)⟩
       have n1_ : Aside0 (Kd.R Kd.bool 4 (w137.setCell ⟨gb190, 5, none⟩ (.slice Ao139 y324.length co139)) w.heap.size (fun k_ => (w.heap.size ≤ k_)) (.slice Ao126 y307.length co126) y307) := ⟨by (with_reducible repeat (first | apply Kd.R_alloc | apply Kd.R_drewN | apply Kd.R_drew)); exact Kd.R_mono (Kd.R_far (p := ⟨gb190, 5, none⟩) (Kd.R_types HO309.out BK190.out (by decide)) (fun _ hk => hk.2) (.slice Ao139 y324.length co139)) (fun _ hk => hk.1)⟩
       have n2_ : Aside0 (Kd.R (Kd.int .i64) 3 (w137.setCell ⟨gb190, 5, none⟩ (.slice Ao139 y324.length co139)) w.heap.size (fun k_ => (w.heap.size ≤ k_)) (.slice Ao129 y310.length co129) y310) := ⟨by (with_reducible repeat (first | apply Kd.R_alloc | apply Kd.R_drewN | apply Kd.R_drew)); exact Kd.R_mono (Kd.R_far (p := ⟨gb190, 5, none⟩) (Kd.R_types HO312.out BK190.out (by decide)) (fun _ hk => hk.2) (.slice Ao139 y324.length co139)) (fun _ hk => hk.1)⟩
       have n3_ : Aside0 (Kd.V (Kd.int .u8) 5 (w137.setCell ⟨gb190, 5, none⟩ (.slice Ao139 y324.length co139)) w.heap.size (fun k_ => (P0_ k_ ∨ w.heap.size ≤ k_) ∧ some k_ ≠ (.slice Ao126 y307.length co126 : Value).ownBlock ∧ some k_ ≠ (.slice Ao129 y310.length co129 : Value).ownBlock ∧ some k_ ≠ (.slice Ao139 y324.length co139 : Value).ownBlock ∧ k_ ≠ gb149 ∧ k_ ≠ gb190) (.slice A133 y316.length c133) y316) := ⟨by (with_reducible repeat (first | apply Kd.V_alloc | apply Kd.V_drewN | apply Kd.V_drew)); exact Kd.V_mono (Kd.V_far (p := ⟨gb190, 5, none⟩) (Kd.V_mono HO320.out (fun k_ hk => (⟨hk, hk.1.2.2.2.2.2⟩ : _ ∧ k_ ≠ gb190))) (fun _ hk => hk.2) (.slice Ao139 y324.length co139)) (fun _ hk => ⟨hk.1.1.1, ⟨hk.1.1.2.1, ⟨hk.1.1.2.2.1, ⟨hk.1.2, ⟨hk.1.1.2.2.2.2.1, hk.1.1.2.2.2.2.2⟩⟩⟩⟩⟩)⟩
       have n4_ : Aside0 (Kd.S (Kd.slice 5 (Kd.int .u8)) 51 (w137.setCell ⟨gb190, 5, none⟩ (.slice Ao139 y324.length co139)) w.heap.size (fun k_ => (w.heap.size ≤ k_)) (.slice Ao139 y324.length co139) y324) := ⟨by (with_reducible repeat (first | apply Kd.S_alloc | apply Kd.S_drewN | apply Kd.S_drew)); exact Kd.S_mono (Kd.S_far (p := ⟨gb190, 5, none⟩) (Kd.S_types HO326.out BK190.out (by decide)) (fun _ hk => hk.2) (.slice Ao139 y324.length co139)) (fun _ hk => hk.1)⟩
       have n5_ : Aside0 ((w137.setCell ⟨gb190, 5, none⟩ (.slice Ao139 y324.length co139)).heap[gb149]? = some (.cells #[.int .i64 x150000_1, .int .i64 x150001_1, .int .i64 x150002_1, .slice none 0 0, .slice none 0 0, .slice none 0 0] 94 (0, 0))) := ⟨by (with_reducible repeat (first | refine blk_drewN ?_ _ | refine blk_drew ?_ | refine blk_alloc ?_ _)); refine blk_far ?_ NB149_190.out _; (with_reducible repeat (first | refine blk_drewN ?_ _ | refine blk_drew ?_ | refine blk_alloc ?_ _)); exact BK149.out⟩
       have n6_ : Aside0 ((w137.setCell ⟨gb190, 5, none⟩ (.slice Ao139 y324.length co139)).heap[gb190]? = some (.cells #[.int .i64 0, .int .i64 (wrap64 (8 * (wrap64 (rd l0 4)))), .int .i64 (wrap64 (8 * (wrap64 (rd l0 5)))), .slice Ao126 y307.length co126, .slice Ao129 y310.length co129, .slice Ao139 y324.length co139] 94 (0, 0))) := ⟨by (with_reducible repeat (first | refine blk_drewN ?_ _ | refine blk_drew ?_ | refine blk_alloc ?_ _)); refine blk_put (cs := #[.int .i64 0, .int .i64 (wrap64 (8 * (wrap64 (rd l0 4)))), .int .i64 (wrap64 (8 * (wrap64 (rd l0 5)))), .slice Ao126 y307.length co126, .slice Ao129 y310.length co129, .slice Ao124 x191005_1.length co124]) ?_ 5 _ rfl; (with_reducible repeat (first | refine blk_drewN ?_ _ | refine blk_drew ?_ | refine blk_alloc ?_ _)); exact BK190.out⟩
       have n7_ : Aside0 (Below w.heap.size w (w137.setCell ⟨gb190, 5, none⟩ (.slice Ao139 y324.length co139))) := ⟨by repeat (first | (with_reducible first | exact HB.out | apply below_alloc | apply pw_below_drewN | apply below_drew1 | refine below_set ?_ GE149.out | refine below_set ?_ GE190.out) | exact HB.out)⟩
       (try clear HO_5)
       (try clear HO309)
       (try clear HO312)
       (try clear HO320)
       (try clear HO326)
       (try clear BK149)
       (try clear BK190)
       (try clear HB)
       generalize (w137.setCell ⟨gb190, 5, none⟩ (.slice Ao139 y324.length co139)) = w141 at n0_ n1_ n2_ n3_ n4_ n5_ n6_ n7_ ⊢
       have HO_5 := n0_
       have HO309 := n1_
       have HO312 := n2_
       have HO320 := n3_
       have HO326 := n4_
       have BK149 := n5_
       have BK190 := n6_
       have HB := n7_
       clear n0_ n1_ n2_ n3_ n4_ n5_ n6_ n7_
       have q142 : ((ji119) : Int) ≤ ((x5_1.length : Int) : Int) := of_decide_eq_true (by first | (with_reducible assumption) | assumption)
       obtain ⟨i0142, hi0142, _, hsz142, _⟩ := info_parts info5
       have hroom142 : x5_1.length ≤ co40 := (Kd.V_reads' HO_5.out).2.1
       have hC142 : Kd.F (Kd.int .u8) _ _ (some ad245) x5_1.length x5_1 := (Kd.V_at (base := w.heap.size) HO_5.out).2.2
       have q0142 : (0 : Int) ≤ ((ji119) : Int) := of_decide_eq_true (by first | (with_reducible assumption) | assumption)
       have hcut142 := cut_from (P := Try.prog) 51 5 .i64 Try.underlying51 hi0142 1 hsz142 (some ad245) x5_1.length co40 (ji119) q0142 q142
       have hr142 := Kd.F_cut (m := ((ji119) : Int).toNat) (c := co40) hC142 (by omega) hroom142
       obtain ⟨A142, hA142⟩ : ∃ A1, A1 = (if co40 = ((ji119) : Int).toNat then (some ad245) else ((some ad245) : Option Addr).map (·.add (((ji119) : Int).toNat * 1))) := ⟨_, rfl⟩
       obtain ⟨c142, hc142⟩ : ∃ c1, c1 = co40 - ((ji119) : Int).toNat := ⟨_, rfl⟩
       have hy142 : y327.length = x5_1.length - ((ji119) : Int).toNat := (by rw [Ny327.out, List.length_drop] <;> omega)
       rw [show (x5_1).drop ((ji119) : Int).toNat = y327 from Ny327.out.symm] at hr142
       replace hr142 : Kd.F (Kd.int .u8) _ _ A142 y327.length y327 := (by rw [hA142]; exact hr142)
       rw [← hy142, ← hA142, ← hc142] at hcut142
       have HO331 := Aside0.mk (show Kd.V (Kd.int .u8) 5 _ w.heap.size _ (.slice A142 y327.length c142) y327 from Kd.V_mk (by rw [hy142, hc142]; exact Nat.sub_le_sub_right hroom142 _) hr142)
       have HC331 := Aside0.mk (show y327.length ≤ c142 from by rw [hy142, hc142]; exact Nat.sub_le_sub_right hroom142 _)
       clear hr142 hC142 hroom142 hi0142 hsz142 hc142
       have KY142 := Aside0.mk hy142
       have KA142 := Aside0.mk hA142
       clear hy142 hA142
       replace q142 := eq_true q142
       try go_wp2
       go_roundg kj72
       case measure => have := HK1.out; have := HJ38.out; have := HJ72.out; omega
       case rel => exact ⟨(y327), (x150000_1), (x150001_1), (x150002_1), (y307), (y310), (y324), (.slice Ao126 y307.length co126), (.slice Ao129 y310.length co129), (.slice Ao139 y324.length co139), H', ⟨by have := HK1.out; have := HJ38.out; have := HJ72.out; omega⟩, ⟨by (with_reducible repeat (first | apply Kd.V_alloc | apply Kd.V_drewN | apply Kd.V_drew)); exact HO331.out⟩, ⟨by (with_reducible repeat (first | apply Kd.R_alloc | apply Kd.R_drewN | apply Kd.R_drew)); exact HO309.out⟩, ⟨by (with_reducible repeat (first | apply Kd.R_alloc | apply Kd.R_drewN | apply Kd.R_drew)); exact HO312.out⟩, ⟨by (with_reducible repeat (first | apply Kd.S_alloc | apply Kd.S_drewN | apply Kd.S_drew)); exact HO326.out⟩, ⟨by (with_reducible repeat (first | refine blk_drewN ?_ _ | refine blk_drew ?_ | refine blk_alloc ?_ _)); exact BK149.out⟩, ⟨by (with_reducible repeat (first | refine blk_drewN ?_ _ | refine blk_drew ?_ | refine blk_alloc ?_ _)); exact BK190.out⟩, ⟨by repeat (first | (with_reducible first | exact HB.out | apply below_alloc | apply pw_below_drewN | apply below_drew1 | refine below_set ?_ GE149.out | refine below_set ?_ GE190.out) | exact HB.out)⟩⟩

end Go.Proofs.Ytidblealnaicpaa.PFnExactReadParts

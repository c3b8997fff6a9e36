-- written by myprint.py (a program of this session's over the kit's print)
import Derived.Test.YtglaedjadlappaaPFnExactBestMotionx0
import Derived.Test.YtglaedjadlappaaPFnExactBestMotionx6
import Derived.Test.YtglaedjadlappaaPFnExactBestMotionx7
namespace Go.Proofs.Ytglaedjadlappaa.PFnExactBestMotion
open Go.RowKit Go.Proofs.YtglaedjadlappaaW.PrintWords Go.Proofs.YtglaedjadlappaaW.PrintLast Go.Proofs.YtglaedjadlappaaW.PrintMore
attribute [local go_sem] max2_int min2_int max_two min_two max_three min_three max_four min_four   -- for this text's walks alone
set_option linter.unusedVariables false
set_option linter.unusedSimpArgs false

/-! ### impl_BestMotion: function 18 -/
mutual
def impl_BestMotion.j0 : Nat → Int → Int → Int → Int → Int → Bool → Int → Int → List Int → Int → Int → List Int → Option (Int × Int × Int)
  | 0, _, _, _, _, _, _, _, _, _, _, _, _ => none
  | k + 1, x2, x3, x4, x5, x6, x92, x221000, x221001, x221002, x222000, x222001, x222002 => if x92 = true then (some (0, 0, 0)) else ((impl_zsquare.f k x222000 x222001 x222002 x2 x3 x4).bind fun t225 => (impl_BestMotion.l0 k x2 x3 x4 x5 x6 t225 false (wrap64 ((-4) * x5)) x221000 x221001 x221002 0 0 0))
def impl_BestMotion.l0 : Nat → Int → Int → Int → Int → Int → List Int → Bool → Int → Int → Int → List Int → Int → Int → Int → Option (Int × Int × Int)
  | 0, _, _, _, _, _, _, _, _, _, _, _, _, _, _ => none
  | k + 1, x2, x3, x4, x5, x6, x15, x19, x20, x221000, x221001, x221002, x229000, x229001, x229002 => if x20 ≤ (wrap64 (4 * x5)) then (impl_BestMotion.l1 k x2 x3 x4 x5 x6 x15 x19 x20 (wrap64 ((-4) * x5)) x221000 x221001 x221002 x229000 x229001 x229002) else (some (x229000, x229001, x229002))
def impl_BestMotion.l1 : Nat → Int → Int → Int → Int → Int → List Int → Bool → Int → Int → Int → Int → List Int → Int → Int → Int → Option (Int × Int × Int)
  | 0, _, _, _, _, _, _, _, _, _, _, _, _, _, _, _ => none
  | k + 1, x2, x3, x4, x5, x6, x15, x19, x20, x21, x221000, x221001, x221002, x229000, x229001, x229002 => if x21 ≤ (wrap64 (4 * x5)) then ((impl_Moved.f k x221000 x221001 x221002 (wrap64 ((wrap64 (4 * x2)) + x21)) (wrap64 ((wrap64 (4 * x3)) + x20)) x4).bind fun t229 => ((impl_Apart.f k t229 x15).bind fun t232 => ((impl_BestMotion_1.f k x21).bind fun t233 => ((impl_BestMotion_1.f k x20).bind fun t234 => (if x19 = true then (if (wrap64 (t232 + (wrap64 (x6 * (wrap64 (t233 + t234)))))) < x229002 then (impl_BestMotion.l1 k x2 x3 x4 x5 x6 x15 true x20 (wrap64 (x21 + 1)) x221000 x221001 x221002 x21 x20 (wrap64 (t232 + (wrap64 (x6 * (wrap64 (t233 + t234))))))) else (if (wrap64 (t232 + (wrap64 (x6 * (wrap64 (t233 + t234)))))) = x229002 then ((impl_BestMotion_2.f x21).bind fun t236 => ((impl_BestMotion_2.f x20).bind fun t237 => ((impl_BestMotion_2.f x229000).bind fun t238 => ((impl_BestMotion_2.f x229001).bind fun t239 => (if (wrap64 (t236 + t237)) < (wrap64 (t238 + t239)) then (impl_BestMotion.l1 k x2 x3 x4 x5 x6 x15 true x20 (wrap64 (x21 + 1)) x221000 x221001 x221002 x21 x20 (wrap64 (t232 + (wrap64 (x6 * (wrap64 (t233 + t234))))))) else (impl_BestMotion.l1 k x2 x3 x4 x5 x6 x15 x19 x20 (wrap64 (x21 + 1)) x221000 x221001 x221002 x229000 x229001 x229002)))))) else (impl_BestMotion.l1 k x2 x3 x4 x5 x6 x15 x19 x20 (wrap64 (x21 + 1)) x221000 x221001 x221002 x229000 x229001 x229002))) else (impl_BestMotion.l1 k x2 x3 x4 x5 x6 x15 true x20 (wrap64 (x21 + 1)) x221000 x221001 x221002 x21 x20 (wrap64 (t232 + (wrap64 (x6 * (wrap64 (t233 + t234)))))))))))) else (impl_BestMotion.l0 k x2 x3 x4 x5 x6 x15 x19 (wrap64 (x20 + 1)) x221000 x221001 x221002 x229000 x229001 x229002)
end
def impl_BestMotion.f (k : Nat) (a0_0 : Int) (a0_1 : Int) (l0_2 : List Int) (a1_0 : Int) (a1_1 : Int) (l1_2 : List Int) (a2 : Int) (a3 : Int) (a4 : Int) (a5 : Int) (a6 : Int) : Option (Int × Int × Int) := (impl_GoodPlane.f k a0_0 a0_1 l0_2).bind fun t223 => (if t223 = true then ((impl_GoodPlane.f k a1_0 a1_1 l1_2).bind fun t224 => (if t224 = true then (if a0_0 = a1_0 then (if a0_1 = a1_1 then (if a4 = 4 then (if a5 < 0 then (impl_BestMotion.j0 k a2 a3 a4 a5 a6 true a0_0 a0_1 l0_2 a1_0 a1_1 l1_2) else (if a5 > 2 then (impl_BestMotion.j0 k a2 a3 a4 a5 a6 true a0_0 a0_1 l0_2 a1_0 a1_1 l1_2) else (if a6 < 0 then (impl_BestMotion.j0 k a2 a3 a4 a5 a6 true a0_0 a0_1 l0_2 a1_0 a1_1 l1_2) else (if a6 > 64 then (impl_BestMotion.j0 k a2 a3 a4 a5 a6 true a0_0 a0_1 l0_2 a1_0 a1_1 l1_2) else (if a2 < 0 then (impl_BestMotion.j0 k a2 a3 a4 a5 a6 true a0_0 a0_1 l0_2 a1_0 a1_1 l1_2) else (if a3 < 0 then (impl_BestMotion.j0 k a2 a3 a4 a5 a6 true a0_0 a0_1 l0_2 a1_0 a1_1 l1_2) else (if a2 > (wrap64 (a1_0 - a4)) then (impl_BestMotion.j0 k a2 a3 a4 a5 a6 true a0_0 a0_1 l0_2 a1_0 a1_1 l1_2) else (impl_BestMotion.j0 k a2 a3 a4 a5 a6 (decide (a3 > (wrap64 (a1_1 - a4)))) a0_0 a0_1 l0_2 a1_0 a1_1 l1_2)))))))) else (if a4 = 8 then (if a5 < 0 then (impl_BestMotion.j0 k a2 a3 a4 a5 a6 true a0_0 a0_1 l0_2 a1_0 a1_1 l1_2) else (if a5 > 2 then (impl_BestMotion.j0 k a2 a3 a4 a5 a6 true a0_0 a0_1 l0_2 a1_0 a1_1 l1_2) else (if a6 < 0 then (impl_BestMotion.j0 k a2 a3 a4 a5 a6 true a0_0 a0_1 l0_2 a1_0 a1_1 l1_2) else (if a6 > 64 then (impl_BestMotion.j0 k a2 a3 a4 a5 a6 true a0_0 a0_1 l0_2 a1_0 a1_1 l1_2) else (if a2 < 0 then (impl_BestMotion.j0 k a2 a3 a4 a5 a6 true a0_0 a0_1 l0_2 a1_0 a1_1 l1_2) else (if a3 < 0 then (impl_BestMotion.j0 k a2 a3 a4 a5 a6 true a0_0 a0_1 l0_2 a1_0 a1_1 l1_2) else (if a2 > (wrap64 (a1_0 - a4)) then (impl_BestMotion.j0 k a2 a3 a4 a5 a6 true a0_0 a0_1 l0_2 a1_0 a1_1 l1_2) else (impl_BestMotion.j0 k a2 a3 a4 a5 a6 (decide (a3 > (wrap64 (a1_1 - a4)))) a0_0 a0_1 l0_2 a1_0 a1_1 l1_2)))))))) else (impl_BestMotion.j0 k a2 a3 a4 a5 a6 true a0_0 a0_1 l0_2 a1_0 a1_1 l1_2))) else (impl_BestMotion.j0 k a2 a3 a4 a5 a6 true a0_0 a0_1 l0_2 a1_0 a1_1 l1_2)) else (impl_BestMotion.j0 k a2 a3 a4 a5 a6 true a0_0 a0_1 l0_2 a1_0 a1_1 l1_2)) else (impl_BestMotion.j0 k a2 a3 a4 a5 a6 true a0_0 a0_1 l0_2 a1_0 a1_1 l1_2))) else (impl_BestMotion.j0 k a2 a3 a4 a5 a6 true a0_0 a0_1 l0_2 a1_0 a1_1 l1_2))
theorem impl_BestMotion.mono_l : ∀ k, (∀ y0 y1 y2 y3 y4 y5 y6 y7 y8 y9 y10 y11, LeO (impl_BestMotion.j0 k y0 y1 y2 y3 y4 y5 y6 y7 y8 y9 y10 y11) (impl_BestMotion.j0 (k + 1) y0 y1 y2 y3 y4 y5 y6 y7 y8 y9 y10 y11)) ∧ (∀ y0 y1 y2 y3 y4 y5 y6 y7 y8 y9 y10 y11 y12 y13, LeO (impl_BestMotion.l0 k y0 y1 y2 y3 y4 y5 y6 y7 y8 y9 y10 y11 y12 y13) (impl_BestMotion.l0 (k + 1) y0 y1 y2 y3 y4 y5 y6 y7 y8 y9 y10 y11 y12 y13)) ∧ (∀ y0 y1 y2 y3 y4 y5 y6 y7 y8 y9 y10 y11 y12 y13 y14, LeO (impl_BestMotion.l1 k y0 y1 y2 y3 y4 y5 y6 y7 y8 y9 y10 y11 y12 y13 y14) (impl_BestMotion.l1 (k + 1) y0 y1 y2 y3 y4 y5 y6 y7 y8 y9 y10 y11 y12 y13 y14))
  | 0 => ⟨fun _ _ _ _ _ _ _ _ _ _ _ _ r h => by simp [impl_BestMotion.j0] at h, fun _ _ _ _ _ _ _ _ _ _ _ _ _ _ r h => by simp [impl_BestMotion.l0] at h, fun _ _ _ _ _ _ _ _ _ _ _ _ _ _ _ r h => by simp [impl_BestMotion.l1] at h⟩
  | k + 1 => by
    obtain ⟨ih0, ih1, ih2⟩ := impl_BestMotion.mono_l k
    refine ⟨?_, ?_, ?_⟩
    · intro y0 y1 y2 y3 y4 y5 y6 y7 y8 y9 y10 y11
      unfold impl_BestMotion.j0
      repeat' first
      | (with_reducible exact ih0 _ _ _ _ _ _ _ _ _ _ _ _)
      | (with_reducible exact ih1 _ _ _ _ _ _ _ _ _ _ _ _ _ _)
      | (with_reducible exact ih2 _ _ _ _ _ _ _ _ _ _ _ _ _ _ _)
      | (with_reducible exact impl_Apart.mono _ _ _)
      | (with_reducible exact impl_BestMotion_1.mono _ _)
      | (with_reducible exact impl_GoodPlane.mono _ _ _ _)
      | (with_reducible exact impl_Moved.mono _ _ _ _ _ _ _)
      | (with_reducible exact impl_zsquare.mono _ _ _ _ _ _ _)
      | (with_reducible exact LeO.refl _)
      | (with_reducible exact LeO.none _)
      | (with_reducible refine LeO.ite ?_ ?_)
      | (with_reducible refine LeO.bind ?_ (fun _ => ?_))
      | exact ih0 _ _ _ _ _ _ _ _ _ _ _ _
      | exact ih1 _ _ _ _ _ _ _ _ _ _ _ _ _ _
      | exact ih2 _ _ _ _ _ _ _ _ _ _ _ _ _ _ _
      | exact impl_Apart.mono _ _ _
      | exact impl_BestMotion_1.mono _ _
      | exact impl_GoodPlane.mono _ _ _ _
      | exact impl_Moved.mono _ _ _ _ _ _ _
      | exact impl_zsquare.mono _ _ _ _ _ _ _
      | exact LeO.none _
      | refine LeO.ite ?_ ?_
      | refine LeO.bind ?_ (fun _ => ?_)
    · intro y0 y1 y2 y3 y4 y5 y6 y7 y8 y9 y10 y11 y12 y13
      unfold impl_BestMotion.l0
      repeat' first
      | (with_reducible exact ih0 _ _ _ _ _ _ _ _ _ _ _ _)
      | (with_reducible exact ih1 _ _ _ _ _ _ _ _ _ _ _ _ _ _)
      | (with_reducible exact ih2 _ _ _ _ _ _ _ _ _ _ _ _ _ _ _)
      | (with_reducible exact impl_Apart.mono _ _ _)
      | (with_reducible exact impl_BestMotion_1.mono _ _)
      | (with_reducible exact impl_GoodPlane.mono _ _ _ _)
      | (with_reducible exact impl_Moved.mono _ _ _ _ _ _ _)
      | (with_reducible exact impl_zsquare.mono _ _ _ _ _ _ _)
      | (with_reducible exact LeO.refl _)
      | (with_reducible exact LeO.none _)
      | (with_reducible refine LeO.ite ?_ ?_)
      | (with_reducible refine LeO.bind ?_ (fun _ => ?_))
      | exact ih0 _ _ _ _ _ _ _ _ _ _ _ _
      | exact ih1 _ _ _ _ _ _ _ _ _ _ _ _ _ _
      | exact ih2 _ _ _ _ _ _ _ _ _ _ _ _ _ _ _
      | exact impl_Apart.mono _ _ _
      | exact impl_BestMotion_1.mono _ _
      | exact impl_GoodPlane.mono _ _ _ _
      | exact impl_Moved.mono _ _ _ _ _ _ _
      | exact impl_zsquare.mono _ _ _ _ _ _ _
      | exact LeO.none _
      | refine LeO.ite ?_ ?_
      | refine LeO.bind ?_ (fun _ => ?_)
    · intro y0 y1 y2 y3 y4 y5 y6 y7 y8 y9 y10 y11 y12 y13 y14
      unfold impl_BestMotion.l1
      repeat' first
      | (with_reducible exact ih0 _ _ _ _ _ _ _ _ _ _ _ _)
      | (with_reducible exact ih1 _ _ _ _ _ _ _ _ _ _ _ _ _ _)
      | (with_reducible exact ih2 _ _ _ _ _ _ _ _ _ _ _ _ _ _ _)
      | (with_reducible exact impl_Apart.mono _ _ _)
      | (with_reducible exact impl_BestMotion_1.mono _ _)
      | (with_reducible exact impl_GoodPlane.mono _ _ _ _)
      | (with_reducible exact impl_Moved.mono _ _ _ _ _ _ _)
      | (with_reducible exact impl_zsquare.mono _ _ _ _ _ _ _)
      | (with_reducible exact LeO.refl _)
      | (with_reducible exact LeO.none _)
      | (with_reducible refine LeO.ite ?_ ?_)
      | (with_reducible refine LeO.bind ?_ (fun _ => ?_))
      | exact ih0 _ _ _ _ _ _ _ _ _ _ _ _
      | exact ih1 _ _ _ _ _ _ _ _ _ _ _ _ _ _
      | exact ih2 _ _ _ _ _ _ _ _ _ _ _ _ _ _ _
      | exact impl_Apart.mono _ _ _
      | exact impl_BestMotion_1.mono _ _
      | exact impl_GoodPlane.mono _ _ _ _
      | exact impl_Moved.mono _ _ _ _ _ _ _
      | exact impl_zsquare.mono _ _ _ _ _ _ _
      | exact LeO.none _
      | refine LeO.ite ?_ ?_
      | refine LeO.bind ?_ (fun _ => ?_)
theorem impl_BestMotion.mono : ∀ a0 a1 a2 a3 a4 a5 a6 a7 a8 a9 a10 k, LeO (impl_BestMotion.f k a0 a1 a2 a3 a4 a5 a6 a7 a8 a9 a10) (impl_BestMotion.f (k + 1) a0 a1 a2 a3 a4 a5 a6 a7 a8 a9 a10) := by
  intro a0 a1 a2 a3 a4 a5 a6 a7 a8 a9 a10 k
  obtain ⟨ih0, ih1, ih2⟩ := impl_BestMotion.mono_l k
  unfold impl_BestMotion.f
  repeat' first
      | (with_reducible exact ih0 _ _ _ _ _ _ _ _ _ _ _ _)
      | (with_reducible exact ih1 _ _ _ _ _ _ _ _ _ _ _ _ _ _)
      | (with_reducible exact ih2 _ _ _ _ _ _ _ _ _ _ _ _ _ _ _)
      | (with_reducible exact impl_Apart.mono _ _ _)
      | (with_reducible exact impl_BestMotion_1.mono _ _)
      | (with_reducible exact impl_GoodPlane.mono _ _ _ _)
      | (with_reducible exact impl_Moved.mono _ _ _ _ _ _ _)
      | (with_reducible exact impl_zsquare.mono _ _ _ _ _ _ _)
      | (with_reducible exact LeO.refl _)
      | (with_reducible exact LeO.none _)
      | (with_reducible refine LeO.ite ?_ ?_)
      | (with_reducible refine LeO.bind ?_ (fun _ => ?_))
      | exact ih0 _ _ _ _ _ _ _ _ _ _ _ _
      | exact ih1 _ _ _ _ _ _ _ _ _ _ _ _ _ _
      | exact ih2 _ _ _ _ _ _ _ _ _ _ _ _ _ _ _
      | exact impl_Apart.mono _ _ _
      | exact impl_BestMotion_1.mono _ _
      | exact impl_GoodPlane.mono _ _ _ _
      | exact impl_Moved.mono _ _ _ _ _ _ _
      | exact impl_zsquare.mono _ _ _ _ _ _ _
      | exact LeO.none _
      | refine LeO.ite ?_ ?_
      | refine LeO.bind ?_ (fun _ => ?_)
set_option maxHeartbeats 8000000 in
set_option maxRecDepth 100000 in
theorem impl_BestMotion.calls (k : Nat) (a0_0 : Int) (a0_1 : Int) (A0_2 : Option Addr) (c0_2 : Nat) (l0_2 : List Int) (a1_0 : Int) (a1_1 : Int) (A1_2 : Option Addr) (c1_2 : Nat) (l1_2 : List Int) (a2 : Int) (a3 : Int) (a4 : Int) (a5 : Int) (a6 : Int) (r1 : Int) (r2 : Int) (r3 : Int) (w : World) (hr0_2 : Kd.C (Kd.int .i64) w A0_2 l0_2.length l0_2) (hc0_2 : l0_2.length ≤ c0_2) (hr1_2 : Kd.C (Kd.int .i64) w A1_2 l1_2.length l1_2) (hc1_2 : l1_2.length ≤ c1_2) (h : impl_BestMotion.f k a0_0 a0_1 l0_2 a1_0 a1_1 l1_2 a2 a3 a4 a5 a6 = some (r1, r2, r3)) :
    Calls Try.prog 18 #[.agg #[.int .i64 a0_0, .int .i64 a0_1, .slice A0_2 l0_2.length c0_2], .agg #[.int .i64 a1_0, .int .i64 a1_1, .slice A1_2 l1_2.length c1_2], .int .i64 a2, .int .i64 a3, .int .i64 a4, .int .i64 a5, .int .i64 a6] w fun e w' => e = .returned (.agg #[.int .i64 r1, .int .i64 r2, .int .i64 r3]) ∧ Below w.heap.size w w' := by
  have hu29 := Try.underlying29
  have hu27 := Try.underlying27
  have HR0_2 := Aside0.mk hr0_2
  have HC0_2 := Aside0.mk hc0_2
  clear hr0_2 hc0_2
  have HR1_2 := Aside0.mk hr1_2
  have HC1_2 := Aside0.mk hc1_2
  clear hr1_2 hc1_2
  have HB := Aside0.mk (Below.refl w.heap.size w)
  have H : ((impl_GoodPlane.f k a0_0 a0_1 l0_2).bind fun t223 => (if t223 = true then ((impl_GoodPlane.f k a1_0 a1_1 l1_2).bind fun t224 => (if t224 = true then (if a0_0 = a1_0 then (if a0_1 = a1_1 then (if a4 = 4 then (if a5 < 0 then (impl_BestMotion.j0 k a2 a3 a4 a5 a6 true a0_0 a0_1 l0_2 a1_0 a1_1 l1_2) else (if a5 > 2 then (impl_BestMotion.j0 k a2 a3 a4 a5 a6 true a0_0 a0_1 l0_2 a1_0 a1_1 l1_2) else (if a6 < 0 then (impl_BestMotion.j0 k a2 a3 a4 a5 a6 true a0_0 a0_1 l0_2 a1_0 a1_1 l1_2) else (if a6 > 64 then (impl_BestMotion.j0 k a2 a3 a4 a5 a6 true a0_0 a0_1 l0_2 a1_0 a1_1 l1_2) else (if a2 < 0 then (impl_BestMotion.j0 k a2 a3 a4 a5 a6 true a0_0 a0_1 l0_2 a1_0 a1_1 l1_2) else (if a3 < 0 then (impl_BestMotion.j0 k a2 a3 a4 a5 a6 true a0_0 a0_1 l0_2 a1_0 a1_1 l1_2) else (if a2 > (wrap64 (a1_0 - a4)) then (impl_BestMotion.j0 k a2 a3 a4 a5 a6 true a0_0 a0_1 l0_2 a1_0 a1_1 l1_2) else (impl_BestMotion.j0 k a2 a3 a4 a5 a6 (decide (a3 > (wrap64 (a1_1 - a4)))) a0_0 a0_1 l0_2 a1_0 a1_1 l1_2)))))))) else (if a4 = 8 then (if a5 < 0 then (impl_BestMotion.j0 k a2 a3 a4 a5 a6 true a0_0 a0_1 l0_2 a1_0 a1_1 l1_2) else (if a5 > 2 then (impl_BestMotion.j0 k a2 a3 a4 a5 a6 true a0_0 a0_1 l0_2 a1_0 a1_1 l1_2) else (if a6 < 0 then (impl_BestMotion.j0 k a2 a3 a4 a5 a6 true a0_0 a0_1 l0_2 a1_0 a1_1 l1_2) else (if a6 > 64 then (impl_BestMotion.j0 k a2 a3 a4 a5 a6 true a0_0 a0_1 l0_2 a1_0 a1_1 l1_2) else (if a2 < 0 then (impl_BestMotion.j0 k a2 a3 a4 a5 a6 true a0_0 a0_1 l0_2 a1_0 a1_1 l1_2) else (if a3 < 0 then (impl_BestMotion.j0 k a2 a3 a4 a5 a6 true a0_0 a0_1 l0_2 a1_0 a1_1 l1_2) else (if a2 > (wrap64 (a1_0 - a4)) then (impl_BestMotion.j0 k a2 a3 a4 a5 a6 true a0_0 a0_1 l0_2 a1_0 a1_1 l1_2) else (impl_BestMotion.j0 k a2 a3 a4 a5 a6 (decide (a3 > (wrap64 (a1_1 - a4)))) a0_0 a0_1 l0_2 a1_0 a1_1 l1_2)))))))) else (impl_BestMotion.j0 k a2 a3 a4 a5 a6 true a0_0 a0_1 l0_2 a1_0 a1_1 l1_2))) else (impl_BestMotion.j0 k a2 a3 a4 a5 a6 true a0_0 a0_1 l0_2 a1_0 a1_1 l1_2)) else (impl_BestMotion.j0 k a2 a3 a4 a5 a6 true a0_0 a0_1 l0_2 a1_0 a1_1 l1_2)) else (impl_BestMotion.j0 k a2 a3 a4 a5 a6 true a0_0 a0_1 l0_2 a1_0 a1_1 l1_2))) else (impl_BestMotion.j0 k a2 a3 a4 a5 a6 true a0_0 a0_1 l0_2 a1_0 a1_1 l1_2))) = some (r1, r2, r3) := h
  clear h
  have HC8 := Aside0.mk H
  clear H
  go_enter Try.func18, Try.ntmps18
  simp only [List.append_eq, List.cons_append, List.nil_append]
  go_upto_region 1 with (first | ((with_reducible refine gate_dst (N := 7) rfl ?_); refine box_event ?hg (N := 7) ?hd (cs := #[.int .i64 a0_0, .int .i64 a0_1, .slice A0_2 l0_2.length c0_2]) (t := 29) ?hr ?_; (case hd => rfl); (case hg => rfl); (case hr => first | (go_simp; done) | (go_simp; rfl)); intro gb220 hg w9 hbox hb; have n0_ := Aside0.mk (below_step (by repeat (first | (with_reducible first | exact HB.out | apply below_alloc | apply pw_below_drewN | apply below_drew1) | exact HB.out)) hb); have n1_ := Aside0.mk (hbox); have n2_ := Aside0.mk ((by rw [hg]; exact (below_size (by repeat (first | (with_reducible first | exact HB.out | apply below_alloc | apply pw_below_drewN | apply below_drew1) | exact HB.out))) : w.heap.size ≤ gb220)); have n3_ := n2_; clear HB; have HB := n0_; have BK220 := n1_; have GW220 := n2_; have GE220 := n3_; clear n0_ n1_ n2_ n3_; clear hb hbox hg) | ((with_reducible refine gate_dst (N := 8) rfl ?_); refine box_event ?hg (N := 8) ?hd (cs := #[.int .i64 a1_0, .int .i64 a1_1, .slice A1_2 l1_2.length c1_2]) (t := 29) ?hr ?_; (case hd => rfl); (case hg => rfl); (case hr => first | (go_simp; done) | (go_simp; rfl)); intro gb221 hg w10 hbox hb; have n0_ := Aside0.mk (blk_below (g := gb220) (o := .cells #[.int .i64 a0_0, .int .i64 a0_1, .slice A0_2 l0_2.length c0_2] 29 (0, 0)) (by (with_reducible repeat (first | refine blk_drewN ?_ _ | refine blk_drew ?_ | refine blk_alloc ?_ _)); exact BK220.out) hb); have n1_ := Aside0.mk (below_step (by repeat (first | (with_reducible first | exact HB.out | apply below_alloc | apply pw_below_drewN | apply below_drew1 | refine below_set ?_ GE220.out) | exact HB.out)) hb); have n2_ := Aside0.mk (hbox); have n3_ := Aside0.mk ((by rw [hg]; exact (below_size (by repeat (first | (with_reducible first | exact HB.out | apply below_alloc | apply pw_below_drewN | apply below_drew1 | refine below_set ?_ GE220.out) | exact HB.out))) : w.heap.size ≤ gb221)); have n4_ := n3_; have n5_ := Aside0.mk ((by rw [hg]; exact Nat.ne_of_lt (blk_lt (g := gb220) (o := .cells #[.int .i64 a0_0, .int .i64 a0_1, .slice A0_2 l0_2.length c0_2] 29 (0, 0)) (by (with_reducible repeat (first | refine blk_drewN ?_ _ | refine blk_drew ?_ | refine blk_alloc ?_ _)); exact BK220.out)) : gb220 ≠ gb221)); have n6_ := Aside0.mk ((by rw [hg]; exact Nat.ne_of_gt (blk_lt (g := gb220) (o := .cells #[.int .i64 a0_0, .int .i64 a0_1, .slice A0_2 l0_2.length c0_2] 29 (0, 0)) (by (with_reducible repeat (first | refine blk_drewN ?_ _ | refine blk_drew ?_ | refine blk_alloc ?_ _)); exact BK220.out)) : gb221 ≠ gb220)); clear BK220; clear HB; have BK220 := n0_; have HB := n1_; have BK221 := n2_; have GW221 := n3_; have GE221 := n4_; have NB220_221 := n5_; have NB221_220 := n6_; clear n0_ n1_ n2_ n3_ n4_ n5_ n6_; clear hb hbox hg) | ((with_reducible refine gate_dst (N := 14) rfl ?_); refine box_event ?hg (N := 14) ?hd (cs := #[.int .i64 0, .int .i64 0, .int .i64 0]) (t := 27) ?hr ?_; (case hd => rfl); (case hg => rfl); (case hr => first | (go_simp; done) | (go_simp; rfl)); intro gb222 hg w11 hbox hb; have n0_ := Aside0.mk (blk_below (g := gb220) (o := .cells #[.int .i64 a0_0, .int .i64 a0_1, .slice A0_2 l0_2.length c0_2] 29 (0, 0)) (by (with_reducible repeat (first | refine blk_drewN ?_ _ | refine blk_drew ?_ | refine blk_alloc ?_ _)); exact BK220.out) hb); have n1_ := Aside0.mk (blk_below (g := gb221) (o := .cells #[.int .i64 a1_0, .int .i64 a1_1, .slice A1_2 l1_2.length c1_2] 29 (0, 0)) (by (with_reducible repeat (first | refine blk_drewN ?_ _ | refine blk_drew ?_ | refine blk_alloc ?_ _)); exact BK221.out) hb); have n2_ := Aside0.mk (below_step (by repeat (first | (with_reducible first | exact HB.out | apply below_alloc | apply pw_below_drewN | apply below_drew1 | refine below_set ?_ GE220.out | refine below_set ?_ GE221.out) | exact HB.out)) hb); have n3_ := Aside0.mk (hbox); have n4_ := Aside0.mk ((by rw [hg]; exact (below_size (by repeat (first | (with_reducible first | exact HB.out | apply below_alloc | apply pw_below_drewN | apply below_drew1 | refine below_set ?_ GE220.out | refine below_set ?_ GE221.out) | exact HB.out))) : w.heap.size ≤ gb222)); have n5_ := n4_; have n6_ := Aside0.mk ((by rw [hg]; exact Nat.ne_of_lt (blk_lt (g := gb220) (o := .cells #[.int .i64 a0_0, .int .i64 a0_1, .slice A0_2 l0_2.length c0_2] 29 (0, 0)) (by (with_reducible repeat (first | refine blk_drewN ?_ _ | refine blk_drew ?_ | refine blk_alloc ?_ _)); exact BK220.out)) : gb220 ≠ gb222)); have n7_ := Aside0.mk ((by rw [hg]; exact Nat.ne_of_gt (blk_lt (g := gb220) (o := .cells #[.int .i64 a0_0, .int .i64 a0_1, .slice A0_2 l0_2.length c0_2] 29 (0, 0)) (by (with_reducible repeat (first | refine blk_drewN ?_ _ | refine blk_drew ?_ | refine blk_alloc ?_ _)); exact BK220.out)) : gb222 ≠ gb220)); have n8_ := Aside0.mk ((by rw [hg]; exact Nat.ne_of_lt (blk_lt (g := gb221) (o := .cells #[.int .i64 a1_0, .int .i64 a1_1, .slice A1_2 l1_2.length c1_2] 29 (0, 0)) (by (with_reducible repeat (first | refine blk_drewN ?_ _ | refine blk_drew ?_ | refine blk_alloc ?_ _)); exact BK221.out)) : gb221 ≠ gb222)); have n9_ := Aside0.mk ((by rw [hg]; exact Nat.ne_of_gt (blk_lt (g := gb221) (o := .cells #[.int .i64 a1_0, .int .i64 a1_1, .slice A1_2 l1_2.length c1_2] 29 (0, 0)) (by (with_reducible repeat (first | refine blk_drewN ?_ _ | refine blk_drew ?_ | refine blk_alloc ?_ _)); exact BK221.out)) : gb222 ≠ gb221)); clear BK220; clear BK221; clear HB; have BK220 := n0_; have BK221 := n1_; have HB := n2_; have BK222 := n3_; have GW222 := n4_; have GE222 := n5_; have NB220_222 := n6_; have NB222_220 := n7_; have NB221_222 := n8_; have NB222_221 := n9_; clear n0_ n1_ n2_ n3_ n4_ n5_ n6_ n7_ n8_ n9_; clear hb hbox hg))
  repeat (go_quiet (first | ((with_reducible refine gate_dst (N := 7) rfl ?_); refine box_event ?hg (N := 7) ?hd (cs := #[.int .i64 a0_0, .int .i64 a0_1, .slice A0_2 l0_2.length c0_2]) (t := 29) ?hr ?_; (case hd => rfl); (case hg => rfl); (case hr => first | (go_simp; done) | (go_simp; rfl)); intro gb220 hg w9 hbox hb; have n0_ := Aside0.mk (below_step (by repeat (first | (with_reducible first | exact HB.out | apply below_alloc | apply pw_below_drewN | apply below_drew1) | exact HB.out)) hb); have n1_ := Aside0.mk (hbox); have n2_ := Aside0.mk ((by rw [hg]; exact (below_size (by repeat (first | (with_reducible first | exact HB.out | apply below_alloc | apply pw_below_drewN | apply below_drew1) | exact HB.out))) : w.heap.size ≤ gb220)); have n3_ := n2_; clear HB; have HB := n0_; have BK220 := n1_; have GW220 := n2_; have GE220 := n3_; clear n0_ n1_ n2_ n3_; clear hb hbox hg) | ((with_reducible refine gate_dst (N := 8) rfl ?_); refine box_event ?hg (N := 8) ?hd (cs := #[.int .i64 a1_0, .int .i64 a1_1, .slice A1_2 l1_2.length c1_2]) (t := 29) ?hr ?_; (case hd => rfl); (case hg => rfl); (case hr => first | (go_simp; done) | (go_simp; rfl)); intro gb221 hg w10 hbox hb; have n0_ := Aside0.mk (blk_below (g := gb220) (o := .cells #[.int .i64 a0_0, .int .i64 a0_1, .slice A0_2 l0_2.length c0_2] 29 (0, 0)) (by (with_reducible repeat (first | refine blk_drewN ?_ _ | refine blk_drew ?_ | refine blk_alloc ?_ _)); exact BK220.out) hb); have n1_ := Aside0.mk (below_step (by repeat (first | (with_reducible first | exact HB.out | apply below_alloc | apply pw_below_drewN | apply below_drew1 | refine below_set ?_ GE220.out) | exact HB.out)) hb); have n2_ := Aside0.mk (hbox); have n3_ := Aside0.mk ((by rw [hg]; exact (below_size (by repeat (first | (with_reducible first | exact HB.out | apply below_alloc | apply pw_below_drewN | apply below_drew1 | refine below_set ?_ GE220.out) | exact HB.out))) : w.heap.size ≤ gb221)); have n4_ := n3_; have n5_ := Aside0.mk ((by rw [hg]; exact Nat.ne_of_lt (blk_lt (g := gb220) (o := .cells #[.int .i64 a0_0, .int .i64 a0_1, .slice A0_2 l0_2.length c0_2] 29 (0, 0)) (by (with_reducible repeat (first | refine blk_drewN ?_ _ | refine blk_drew ?_ | refine blk_alloc ?_ _)); exact BK220.out)) : gb220 ≠ gb221)); have n6_ := Aside0.mk ((by rw [hg]; exact Nat.ne_of_gt (blk_lt (g := gb220) (o := .cells #[.int .i64 a0_0, .int .i64 a0_1, .slice A0_2 l0_2.length c0_2] 29 (0, 0)) (by (with_reducible repeat (first | refine blk_drewN ?_ _ | refine blk_drew ?_ | refine blk_alloc ?_ _)); exact BK220.out)) : gb221 ≠ gb220)); clear BK220; clear HB; have BK220 := n0_; have HB := n1_; have BK221 := n2_; have GW221 := n3_; have GE221 := n4_; have NB220_221 := n5_; have NB221_220 := n6_; clear n0_ n1_ n2_ n3_ n4_ n5_ n6_; clear hb hbox hg) | ((with_reducible refine gate_dst (N := 14) rfl ?_); refine box_event ?hg (N := 14) ?hd (cs := #[.int .i64 0, .int .i64 0, .int .i64 0]) (t := 27) ?hr ?_; (case hd => rfl); (case hg => rfl); (case hr => first | (go_simp; done) | (go_simp; rfl)); intro gb222 hg w11 hbox hb; have n0_ := Aside0.mk (blk_below (g := gb220) (o := .cells #[.int .i64 a0_0, .int .i64 a0_1, .slice A0_2 l0_2.length c0_2] 29 (0, 0)) (by (with_reducible repeat (first | refine blk_drewN ?_ _ | refine blk_drew ?_ | refine blk_alloc ?_ _)); exact BK220.out) hb); have n1_ := Aside0.mk (blk_below (g := gb221) (o := .cells #[.int .i64 a1_0, .int .i64 a1_1, .slice A1_2 l1_2.length c1_2] 29 (0, 0)) (by (with_reducible repeat (first | refine blk_drewN ?_ _ | refine blk_drew ?_ | refine blk_alloc ?_ _)); exact BK221.out) hb); have n2_ := Aside0.mk (below_step (by repeat (first | (with_reducible first | exact HB.out | apply below_alloc | apply pw_below_drewN | apply below_drew1 | refine below_set ?_ GE220.out | refine below_set ?_ GE221.out) | exact HB.out)) hb); have n3_ := Aside0.mk (hbox); have n4_ := Aside0.mk ((by rw [hg]; exact (below_size (by repeat (first | (with_reducible first | exact HB.out | apply below_alloc | apply pw_below_drewN | apply below_drew1 | refine below_set ?_ GE220.out | refine below_set ?_ GE221.out) | exact HB.out))) : w.heap.size ≤ gb222)); have n5_ := n4_; have n6_ := Aside0.mk ((by rw [hg]; exact Nat.ne_of_lt (blk_lt (g := gb220) (o := .cells #[.int .i64 a0_0, .int .i64 a0_1, .slice A0_2 l0_2.length c0_2] 29 (0, 0)) (by (with_reducible repeat (first | refine blk_drewN ?_ _ | refine blk_drew ?_ | refine blk_alloc ?_ _)); exact BK220.out)) : gb220 ≠ gb222)); have n7_ := Aside0.mk ((by rw [hg]; exact Nat.ne_of_gt (blk_lt (g := gb220) (o := .cells #[.int .i64 a0_0, .int .i64 a0_1, .slice A0_2 l0_2.length c0_2] 29 (0, 0)) (by (with_reducible repeat (first | refine blk_drewN ?_ _ | refine blk_drew ?_ | refine blk_alloc ?_ _)); exact BK220.out)) : gb222 ≠ gb220)); have n8_ := Aside0.mk ((by rw [hg]; exact Nat.ne_of_lt (blk_lt (g := gb221) (o := .cells #[.int .i64 a1_0, .int .i64 a1_1, .slice A1_2 l1_2.length c1_2] 29 (0, 0)) (by (with_reducible repeat (first | refine blk_drewN ?_ _ | refine blk_drew ?_ | refine blk_alloc ?_ _)); exact BK221.out)) : gb221 ≠ gb222)); have n9_ := Aside0.mk ((by rw [hg]; exact Nat.ne_of_gt (blk_lt (g := gb221) (o := .cells #[.int .i64 a1_0, .int .i64 a1_1, .slice A1_2 l1_2.length c1_2] 29 (0, 0)) (by (with_reducible repeat (first | refine blk_drewN ?_ _ | refine blk_drew ?_ | refine blk_alloc ?_ _)); exact BK221.out)) : gb222 ≠ gb221)); clear BK220; clear BK221; clear HB; have BK220 := n0_; have BK221 := n1_; have HB := n2_; have BK222 := n3_; have GW222 := n4_; have GE222 := n5_; have NB220_222 := n6_; have NB222_220 := n7_; have NB221_222 := n8_; have NB222_221 := n9_; clear n0_ n1_ n2_ n3_ n4_ n5_ n6_ n7_ n8_ n9_; clear hb hbox hg)); go_upto_region 1 with (first | ((with_reducible refine gate_dst (N := 7) rfl ?_); refine box_event ?hg (N := 7) ?hd (cs := #[.int .i64 a0_0, .int .i64 a0_1, .slice A0_2 l0_2.length c0_2]) (t := 29) ?hr ?_; (case hd => rfl); (case hg => rfl); (case hr => first | (go_simp; done) | (go_simp; rfl)); intro gb220 hg w9 hbox hb; have n0_ := Aside0.mk (below_step (by repeat (first | (with_reducible first | exact HB.out | apply below_alloc | apply pw_below_drewN | apply below_drew1) | exact HB.out)) hb); have n1_ := Aside0.mk (hbox); have n2_ := Aside0.mk ((by rw [hg]; exact (below_size (by repeat (first | (with_reducible first | exact HB.out | apply below_alloc | apply pw_below_drewN | apply below_drew1) | exact HB.out))) : w.heap.size ≤ gb220)); have n3_ := n2_; clear HB; have HB := n0_; have BK220 := n1_; have GW220 := n2_; have GE220 := n3_; clear n0_ n1_ n2_ n3_; clear hb hbox hg) | ((with_reducible refine gate_dst (N := 8) rfl ?_); refine box_event ?hg (N := 8) ?hd (cs := #[.int .i64 a1_0, .int .i64 a1_1, .slice A1_2 l1_2.length c1_2]) (t := 29) ?hr ?_; (case hd => rfl); (case hg => rfl); (case hr => first | (go_simp; done) | (go_simp; rfl)); intro gb221 hg w10 hbox hb; have n0_ := Aside0.mk (blk_below (g := gb220) (o := .cells #[.int .i64 a0_0, .int .i64 a0_1, .slice A0_2 l0_2.length c0_2] 29 (0, 0)) (by (with_reducible repeat (first | refine blk_drewN ?_ _ | refine blk_drew ?_ | refine blk_alloc ?_ _)); exact BK220.out) hb); have n1_ := Aside0.mk (below_step (by repeat (first | (with_reducible first | exact HB.out | apply below_alloc | apply pw_below_drewN | apply below_drew1 | refine below_set ?_ GE220.out) | exact HB.out)) hb); have n2_ := Aside0.mk (hbox); have n3_ := Aside0.mk ((by rw [hg]; exact (below_size (by repeat (first | (with_reducible first | exact HB.out | apply below_alloc | apply pw_below_drewN | apply below_drew1 | refine below_set ?_ GE220.out) | exact HB.out))) : w.heap.size ≤ gb221)); have n4_ := n3_; have n5_ := Aside0.mk ((by rw [hg]; exact Nat.ne_of_lt (blk_lt (g := gb220) (o := .cells #[.int .i64 a0_0, .int .i64 a0_1, .slice A0_2 l0_2.length c0_2] 29 (0, 0)) (by (with_reducible repeat (first | refine blk_drewN ?_ _ | refine blk_drew ?_ | refine blk_alloc ?_ _)); exact BK220.out)) : gb220 ≠ gb221)); have n6_ := Aside0.mk ((by rw [hg]; exact Nat.ne_of_gt (blk_lt (g := gb220) (o := .cells #[.int .i64 a0_0, .int .i64 a0_1, .slice A0_2 l0_2.length c0_2] 29 (0, 0)) (by (with_reducible repeat (first | refine blk_drewN ?_ _ | refine blk_drew ?_ | refine blk_alloc ?_ _)); exact BK220.out)) : gb221 ≠ gb220)); clear BK220; clear HB; have BK220 := n0_; have HB := n1_; have BK221 := n2_; have GW221 := n3_; have GE221 := n4_; have NB220_221 := n5_; have NB221_220 := n6_; clear n0_ n1_ n2_ n3_ n4_ n5_ n6_; clear hb hbox hg) | ((with_reducible refine gate_dst (N := 14) rfl ?_); refine box_event ?hg (N := 14) ?hd (cs := #[.int .i64 0, .int .i64 0, .int .i64 0]) (t := 27) ?hr ?_; (case hd => rfl); (case hg => rfl); (case hr => first | (go_simp; done) | (go_simp; rfl)); intro gb222 hg w11 hbox hb; have n0_ := Aside0.mk (blk_below (g := gb220) (o := .cells #[.int .i64 a0_0, .int .i64 a0_1, .slice A0_2 l0_2.length c0_2] 29 (0, 0)) (by (with_reducible repeat (first | refine blk_drewN ?_ _ | refine blk_drew ?_ | refine blk_alloc ?_ _)); exact BK220.out) hb); have n1_ := Aside0.mk (blk_below (g := gb221) (o := .cells #[.int .i64 a1_0, .int .i64 a1_1, .slice A1_2 l1_2.length c1_2] 29 (0, 0)) (by (with_reducible repeat (first | refine blk_drewN ?_ _ | refine blk_drew ?_ | refine blk_alloc ?_ _)); exact BK221.out) hb); have n2_ := Aside0.mk (below_step (by repeat (first | (with_reducible first | exact HB.out | apply below_alloc | apply pw_below_drewN | apply below_drew1 | refine below_set ?_ GE220.out | refine below_set ?_ GE221.out) | exact HB.out)) hb); have n3_ := Aside0.mk (hbox); have n4_ := Aside0.mk ((by rw [hg]; exact (below_size (by repeat (first | (with_reducible first | exact HB.out | apply below_alloc | apply pw_below_drewN | apply below_drew1 | refine below_set ?_ GE220.out | refine below_set ?_ GE221.out) | exact HB.out))) : w.heap.size ≤ gb222)); have n5_ := n4_; have n6_ := Aside0.mk ((by rw [hg]; exact Nat.ne_of_lt (blk_lt (g := gb220) (o := .cells #[.int .i64 a0_0, .int .i64 a0_1, .slice A0_2 l0_2.length c0_2] 29 (0, 0)) (by (with_reducible repeat (first | refine blk_drewN ?_ _ | refine blk_drew ?_ | refine blk_alloc ?_ _)); exact BK220.out)) : gb220 ≠ gb222)); have n7_ := Aside0.mk ((by rw [hg]; exact Nat.ne_of_gt (blk_lt (g := gb220) (o := .cells #[.int .i64 a0_0, .int .i64 a0_1, .slice A0_2 l0_2.length c0_2] 29 (0, 0)) (by (with_reducible repeat (first | refine blk_drewN ?_ _ | refine blk_drew ?_ | refine blk_alloc ?_ _)); exact BK220.out)) : gb222 ≠ gb220)); have n8_ := Aside0.mk ((by rw [hg]; exact Nat.ne_of_lt (blk_lt (g := gb221) (o := .cells #[.int .i64 a1_0, .int .i64 a1_1, .slice A1_2 l1_2.length c1_2] 29 (0, 0)) (by (with_reducible repeat (first | refine blk_drewN ?_ _ | refine blk_drew ?_ | refine blk_alloc ?_ _)); exact BK221.out)) : gb221 ≠ gb222)); have n9_ := Aside0.mk ((by rw [hg]; exact Nat.ne_of_gt (blk_lt (g := gb221) (o := .cells #[.int .i64 a1_0, .int .i64 a1_1, .slice A1_2 l1_2.length c1_2] 29 (0, 0)) (by (with_reducible repeat (first | refine blk_drewN ?_ _ | refine blk_drew ?_ | refine blk_alloc ?_ _)); exact BK221.out)) : gb222 ≠ gb221)); clear BK220; clear BK221; clear HB; have BK220 := n0_; have BK221 := n1_; have HB := n2_; have BK222 := n3_; have GW222 := n4_; have GE222 := n5_; have NB220_222 := n6_; have NB222_220 := n7_; have NB221_222 := n8_; have NB222_221 := n9_; clear n0_ n1_ n2_ n3_ n4_ n5_ n6_ n7_ n8_ n9_; clear hb hbox hg)))
  (try simp only [Act.put, List.setIfInBounds_toArray, List.set_cons_zero, List.set_cons_succ])
  go_cut [92] (fun v92 wc => ∃ (kq : Nat) (x92_7 : Bool), v92 = .bool x92_7 ∧ Aside0 (impl_BestMotion.j0 kq a2 a3 a4 a5 a6 x92_7 a0_0 a0_1 l0_2 a1_0 a1_1 l1_2 = some (r1, r2, r3)) ∧ Aside0 (kq ≤ k) ∧ Aside0 (wc.heap[gb220]? = some (.cells #[.int .i64 a0_0, .int .i64 a0_1, (.slice A0_2 l0_2.length c0_2)] 29 (0, 0))) ∧ Aside0 (wc.heap[gb221]? = some (.cells #[.int .i64 a1_0, .int .i64 a1_1, (.slice A1_2 l1_2.length c1_2)] 29 (0, 0))) ∧ Aside0 (wc.heap[gb222]? = some (.cells #[.int .i64 0, .int .i64 0, .int .i64 0] 27 (0, 0))) ∧ Aside0 (Below w.heap.size w wc))
  case first =>
    have H := HC8.out
    clear HC8
    replace H := Option.bind_eq_some_iff.mp H
    obtain ⟨t223, A120, H⟩ := H
    replace H : (if t223 = true then ((impl_GoodPlane.f k a1_0 a1_1 l1_2).bind fun t224 => (if t224 = true then (if a0_0 = a1_0 then (if a0_1 = a1_1 then (if a4 = 4 then (if a5 < 0 then (impl_BestMotion.j0 k a2 a3 a4 a5 a6 true a0_0 a0_1 l0_2 a1_0 a1_1 l1_2) else (if a5 > 2 then (impl_BestMotion.j0 k a2 a3 a4 a5 a6 true a0_0 a0_1 l0_2 a1_0 a1_1 l1_2) else (if a6 < 0 then (impl_BestMotion.j0 k a2 a3 a4 a5 a6 true a0_0 a0_1 l0_2 a1_0 a1_1 l1_2) else (if a6 > 64 then (impl_BestMotion.j0 k a2 a3 a4 a5 a6 true a0_0 a0_1 l0_2 a1_0 a1_1 l1_2) else (if a2 < 0 then (impl_BestMotion.j0 k a2 a3 a4 a5 a6 true a0_0 a0_1 l0_2 a1_0 a1_1 l1_2) else (if a3 < 0 then (impl_BestMotion.j0 k a2 a3 a4 a5 a6 true a0_0 a0_1 l0_2 a1_0 a1_1 l1_2) else (if a2 > (wrap64 (a1_0 - a4)) then (impl_BestMotion.j0 k a2 a3 a4 a5 a6 true a0_0 a0_1 l0_2 a1_0 a1_1 l1_2) else (impl_BestMotion.j0 k a2 a3 a4 a5 a6 (decide (a3 > (wrap64 (a1_1 - a4)))) a0_0 a0_1 l0_2 a1_0 a1_1 l1_2)))))))) else (if a4 = 8 then (if a5 < 0 then (impl_BestMotion.j0 k a2 a3 a4 a5 a6 true a0_0 a0_1 l0_2 a1_0 a1_1 l1_2) else (if a5 > 2 then (impl_BestMotion.j0 k a2 a3 a4 a5 a6 true a0_0 a0_1 l0_2 a1_0 a1_1 l1_2) else (if a6 < 0 then (impl_BestMotion.j0 k a2 a3 a4 a5 a6 true a0_0 a0_1 l0_2 a1_0 a1_1 l1_2) else (if a6 > 64 then (impl_BestMotion.j0 k a2 a3 a4 a5 a6 true a0_0 a0_1 l0_2 a1_0 a1_1 l1_2) else (if a2 < 0 then (impl_BestMotion.j0 k a2 a3 a4 a5 a6 true a0_0 a0_1 l0_2 a1_0 a1_1 l1_2) else (if a3 < 0 then (impl_BestMotion.j0 k a2 a3 a4 a5 a6 true a0_0 a0_1 l0_2 a1_0 a1_1 l1_2) else (if a2 > (wrap64 (a1_0 - a4)) then (impl_BestMotion.j0 k a2 a3 a4 a5 a6 true a0_0 a0_1 l0_2 a1_0 a1_1 l1_2) else (impl_BestMotion.j0 k a2 a3 a4 a5 a6 (decide (a3 > (wrap64 (a1_1 - a4)))) a0_0 a0_1 l0_2 a1_0 a1_1 l1_2)))))))) else (impl_BestMotion.j0 k a2 a3 a4 a5 a6 true a0_0 a0_1 l0_2 a1_0 a1_1 l1_2))) else (impl_BestMotion.j0 k a2 a3 a4 a5 a6 true a0_0 a0_1 l0_2 a1_0 a1_1 l1_2)) else (impl_BestMotion.j0 k a2 a3 a4 a5 a6 true a0_0 a0_1 l0_2 a1_0 a1_1 l1_2)) else (impl_BestMotion.j0 k a2 a3 a4 a5 a6 true a0_0 a0_1 l0_2 a1_0 a1_1 l1_2))) else (impl_BestMotion.j0 k a2 a3 a4 a5 a6 true a0_0 a0_1 l0_2 a1_0 a1_1 l1_2)) = some (r1, r2, r3) := H
    have A12 := Aside0.mk A120
    clear A120
    by_cases c13 : t223 = true
    rotate_left
    · replace c13 := Bool.eq_false_iff.mpr c13
      subst c13
      have H1 : (impl_BestMotion.j0 k a2 a3 a4 a5 a6 true a0_0 a0_1 l0_2 a1_0 a1_1 l1_2) = some (r1, r2, r3) := by rw [if_neg (show ¬ (false = true) by decide)] at H; exact H
      clear H
      have H := H1
      clear H1
      have H' := Aside0.mk H
      clear H
      have hnb212 := NB220_221.out
      have hnc212 := NB221_220.out
      have hnb213 := NB220_222.out
      have hnc213 := NB222_220.out
      have hcz214_0 : w11.cell? ⟨gb220, 0, none⟩ = some (.int .i64 a0_0) := (blk_cell BK220.out 0).trans rfl
      have hcz214_1 : w11.cell? ⟨gb220, 1, none⟩ = some (.int .i64 a0_1) := (blk_cell BK220.out 1).trans rfl
      have hcz214_2 : w11.cell? ⟨gb220, 2, none⟩ = some (.slice A0_2 l0_2.length c0_2) := (blk_cell BK220.out 2).trans rfl
      have hfz214_0 := blk_frozen BK220.out 0
      have hfz214_1 := blk_frozen BK220.out 1
      have hfz214_2 := blk_frozen BK220.out 2
      iterate 3 (try go_wp2_with (first | (go_at_call 82; (with_reducible refine (impl_GoodPlane.calls k a0_0 a0_1 _ _ l0_2 false _ ?side1 ?side2 A12.out).mono ?_); (case side1 => repeat (first | exact (Kd.C_below HR0_2.out HB.out) | (with_reducible refine Kd.C_alloc ?_ _) | (with_reducible refine Kd.C_drewN ?_ _) | (with_reducible refine Kd.C_drew ?_))); (case side2 => exact HC0_2.out); rintro e w215 ⟨rfl, hb⟩; have n0_ := Aside0.mk (blk_below (g := gb220) (o := .cells #[.int .i64 a0_0, .int .i64 a0_1, .slice A0_2 l0_2.length c0_2] 29 (0, 0)) (by (with_reducible repeat (first | refine blk_drewN ?_ _ | refine blk_drew ?_ | refine blk_alloc ?_ _)); exact BK220.out) hb); have n1_ := Aside0.mk (blk_below (g := gb221) (o := .cells #[.int .i64 a1_0, .int .i64 a1_1, .slice A1_2 l1_2.length c1_2] 29 (0, 0)) (by (with_reducible repeat (first | refine blk_drewN ?_ _ | refine blk_drew ?_ | refine blk_alloc ?_ _)); exact BK221.out) hb); have n2_ := Aside0.mk (blk_below (g := gb222) (o := .cells #[.int .i64 0, .int .i64 0, .int .i64 0] 27 (0, 0)) (by (with_reducible repeat (first | refine blk_drewN ?_ _ | refine blk_drew ?_ | refine blk_alloc ?_ _)); exact BK222.out) hb); have n3_ := Aside0.mk (below_step (by repeat (first | (with_reducible first | exact HB.out | apply below_alloc | apply pw_below_drewN | apply below_drew1 | refine below_set ?_ GE220.out | refine below_set ?_ GE221.out | refine below_set ?_ GE222.out) | exact HB.out)) hb); clear BK220; clear BK221; clear BK222; clear HB; have BK220 := n0_; have BK221 := n1_; have BK222 := n2_; have HB := n3_; clear n0_ n1_ n2_ n3_; (try clear hb); (try clear hb2); (try clear hk); (try clear hi))); try go_quiet (first | (go_at_call 82; (with_reducible refine (impl_GoodPlane.calls k a0_0 a0_1 _ _ l0_2 false _ ?side1 ?side2 A12.out).mono ?_); (case side1 => repeat (first | exact (Kd.C_below HR0_2.out HB.out) | (with_reducible refine Kd.C_alloc ?_ _) | (with_reducible refine Kd.C_drewN ?_ _) | (with_reducible refine Kd.C_drew ?_))); (case side2 => exact HC0_2.out); rintro e w215 ⟨rfl, hb⟩; have n0_ := Aside0.mk (blk_below (g := gb220) (o := .cells #[.int .i64 a0_0, .int .i64 a0_1, .slice A0_2 l0_2.length c0_2] 29 (0, 0)) (by (with_reducible repeat (first | refine blk_drewN ?_ _ | refine blk_drew ?_ | refine blk_alloc ?_ _)); exact BK220.out) hb); have n1_ := Aside0.mk (blk_below (g := gb221) (o := .cells #[.int .i64 a1_0, .int .i64 a1_1, .slice A1_2 l1_2.length c1_2] 29 (0, 0)) (by (with_reducible repeat (first | refine blk_drewN ?_ _ | refine blk_drew ?_ | refine blk_alloc ?_ _)); exact BK221.out) hb); have n2_ := Aside0.mk (blk_below (g := gb222) (o := .cells #[.int .i64 0, .int .i64 0, .int .i64 0] 27 (0, 0)) (by (with_reducible repeat (first | refine blk_drewN ?_ _ | refine blk_drew ?_ | refine blk_alloc ?_ _)); exact BK222.out) hb); have n3_ := Aside0.mk (below_step (by repeat (first | (with_reducible first | exact HB.out | apply below_alloc | apply pw_below_drewN | apply below_drew1 | refine below_set ?_ GE220.out | refine below_set ?_ GE221.out | refine below_set ?_ GE222.out) | exact HB.out)) hb); clear BK220; clear BK221; clear BK222; clear HB; have BK220 := n0_; have BK221 := n1_; have BK222 := n2_; have HB := n3_; clear n0_ n1_ n2_ n3_; (try clear hb); (try clear hb2); (try clear hk); (try clear hi))))
      go_meet
      case rel => exact ⟨_, (true), (by first | rfl | (simp; done) | (simp [*]; done)), H', ⟨by first | omega | exact Nat.le_refl _⟩, ⟨by (with_reducible repeat (first | refine blk_drewN ?_ _ | refine blk_drew ?_ | refine blk_alloc ?_ _)); exact BK220.out⟩, ⟨by (with_reducible repeat (first | refine blk_drewN ?_ _ | refine blk_drew ?_ | refine blk_alloc ?_ _)); exact BK221.out⟩, ⟨by (with_reducible repeat (first | refine blk_drewN ?_ _ | refine blk_drew ?_ | refine blk_alloc ?_ _)); exact BK222.out⟩, ⟨by repeat (first | (with_reducible first | exact HB.out | apply below_alloc | apply pw_below_drewN | apply below_drew1 | refine below_set ?_ GE220.out | refine below_set ?_ GE221.out | refine below_set ?_ GE222.out) | exact HB.out)⟩⟩
    subst c13
    have H1 : ((impl_GoodPlane.f k a1_0 a1_1 l1_2).bind fun t224 => (if t224 = true then (if a0_0 = a1_0 then (if a0_1 = a1_1 then (if a4 = 4 then (if a5 < 0 then (impl_BestMotion.j0 k a2 a3 a4 a5 a6 true a0_0 a0_1 l0_2 a1_0 a1_1 l1_2) else (if a5 > 2 then (impl_BestMotion.j0 k a2 a3 a4 a5 a6 true a0_0 a0_1 l0_2 a1_0 a1_1 l1_2) else (if a6 < 0 then (impl_BestMotion.j0 k a2 a3 a4 a5 a6 true a0_0 a0_1 l0_2 a1_0 a1_1 l1_2) else (if a6 > 64 then (impl_BestMotion.j0 k a2 a3 a4 a5 a6 true a0_0 a0_1 l0_2 a1_0 a1_1 l1_2) else (if a2 < 0 then (impl_BestMotion.j0 k a2 a3 a4 a5 a6 true a0_0 a0_1 l0_2 a1_0 a1_1 l1_2) else (if a3 < 0 then (impl_BestMotion.j0 k a2 a3 a4 a5 a6 true a0_0 a0_1 l0_2 a1_0 a1_1 l1_2) else (if a2 > (wrap64 (a1_0 - a4)) then (impl_BestMotion.j0 k a2 a3 a4 a5 a6 true a0_0 a0_1 l0_2 a1_0 a1_1 l1_2) else (impl_BestMotion.j0 k a2 a3 a4 a5 a6 (decide (a3 > (wrap64 (a1_1 - a4)))) a0_0 a0_1 l0_2 a1_0 a1_1 l1_2)))))))) else (if a4 = 8 then (if a5 < 0 then (impl_BestMotion.j0 k a2 a3 a4 a5 a6 true a0_0 a0_1 l0_2 a1_0 a1_1 l1_2) else (if a5 > 2 then (impl_BestMotion.j0 k a2 a3 a4 a5 a6 true a0_0 a0_1 l0_2 a1_0 a1_1 l1_2) else (if a6 < 0 then (impl_BestMotion.j0 k a2 a3 a4 a5 a6 true a0_0 a0_1 l0_2 a1_0 a1_1 l1_2) else (if a6 > 64 then (impl_BestMotion.j0 k a2 a3 a4 a5 a6 true a0_0 a0_1 l0_2 a1_0 a1_1 l1_2) else (if a2 < 0 then (impl_BestMotion.j0 k a2 a3 a4 a5 a6 true a0_0 a0_1 l0_2 a1_0 a1_1 l1_2) else (if a3 < 0 then (impl_BestMotion.j0 k a2 a3 a4 a5 a6 true a0_0 a0_1 l0_2 a1_0 a1_1 l1_2) else (if a2 > (wrap64 (a1_0 - a4)) then (impl_BestMotion.j0 k a2 a3 a4 a5 a6 true a0_0 a0_1 l0_2 a1_0 a1_1 l1_2) else (impl_BestMotion.j0 k a2 a3 a4 a5 a6 (decide (a3 > (wrap64 (a1_1 - a4)))) a0_0 a0_1 l0_2 a1_0 a1_1 l1_2)))))))) else (impl_BestMotion.j0 k a2 a3 a4 a5 a6 true a0_0 a0_1 l0_2 a1_0 a1_1 l1_2))) else (impl_BestMotion.j0 k a2 a3 a4 a5 a6 true a0_0 a0_1 l0_2 a1_0 a1_1 l1_2)) else (impl_BestMotion.j0 k a2 a3 a4 a5 a6 true a0_0 a0_1 l0_2 a1_0 a1_1 l1_2)) else (impl_BestMotion.j0 k a2 a3 a4 a5 a6 true a0_0 a0_1 l0_2 a1_0 a1_1 l1_2))) = some (r1, r2, r3) := by rw [if_pos rfl] at H; exact H
    clear H
    have H := H1
    clear H1
    replace H := Option.bind_eq_some_iff.mp H
    obtain ⟨t224, A140, H⟩ := H
    replace H : (if t224 = true then (if a0_0 = a1_0 then (if a0_1 = a1_1 then (if a4 = 4 then (if a5 < 0 then (impl_BestMotion.j0 k a2 a3 a4 a5 a6 true a0_0 a0_1 l0_2 a1_0 a1_1 l1_2) else (if a5 > 2 then (impl_BestMotion.j0 k a2 a3 a4 a5 a6 true a0_0 a0_1 l0_2 a1_0 a1_1 l1_2) else (if a6 < 0 then (impl_BestMotion.j0 k a2 a3 a4 a5 a6 true a0_0 a0_1 l0_2 a1_0 a1_1 l1_2) else (if a6 > 64 then (impl_BestMotion.j0 k a2 a3 a4 a5 a6 true a0_0 a0_1 l0_2 a1_0 a1_1 l1_2) else (if a2 < 0 then (impl_BestMotion.j0 k a2 a3 a4 a5 a6 true a0_0 a0_1 l0_2 a1_0 a1_1 l1_2) else (if a3 < 0 then (impl_BestMotion.j0 k a2 a3 a4 a5 a6 true a0_0 a0_1 l0_2 a1_0 a1_1 l1_2) else (if a2 > (wrap64 (a1_0 - a4)) then (impl_BestMotion.j0 k a2 a3 a4 a5 a6 true a0_0 a0_1 l0_2 a1_0 a1_1 l1_2) else (impl_BestMotion.j0 k a2 a3 a4 a5 a6 (decide (a3 > (wrap64 (a1_1 - a4)))) a0_0 a0_1 l0_2 a1_0 a1_1 l1_2)))))))) else (if a4 = 8 then (if a5 < 0 then (impl_BestMotion.j0 k a2 a3 a4 a5 a6 true a0_0 a0_1 l0_2 a1_0 a1_1 l1_2) else (if a5 > 2 then (impl_BestMotion.j0 k a2 a3 a4 a5 a6 true a0_0 a0_1 l0_2 a1_0 a1_1 l1_2) else (if a6 < 0 then (impl_BestMotion.j0 k a2 a3 a4 a5 a6 true a0_0 a0_1 l0_2 a1_0 a1_1 l1_2) else (if a6 > 64 then (impl_BestMotion.j0 k a2 a3 a4 a5 a6 true a0_0 a0_1 l0_2 a1_0 a1_1 l1_2) else (if a2 < 0 then (impl_BestMotion.j0 k a2 a3 a4 a5 a6 true a0_0 a0_1 l0_2 a1_0 a1_1 l1_2) else (if a3 < 0 then (impl_BestMotion.j0 k a2 a3 a4 a5 a6 true a0_0 a0_1 l0_2 a1_0 a1_1 l1_2) else (if a2 > (wrap64 (a1_0 - a4)) then (impl_BestMotion.j0 k a2 a3 a4 a5 a6 true a0_0 a0_1 l0_2 a1_0 a1_1 l1_2) else (impl_BestMotion.j0 k a2 a3 a4 a5 a6 (decide (a3 > (wrap64 (a1_1 - a4)))) a0_0 a0_1 l0_2 a1_0 a1_1 l1_2)))))))) else (impl_BestMotion.j0 k a2 a3 a4 a5 a6 true a0_0 a0_1 l0_2 a1_0 a1_1 l1_2))) else (impl_BestMotion.j0 k a2 a3 a4 a5 a6 true a0_0 a0_1 l0_2 a1_0 a1_1 l1_2)) else (impl_BestMotion.j0 k a2 a3 a4 a5 a6 true a0_0 a0_1 l0_2 a1_0 a1_1 l1_2)) else (impl_BestMotion.j0 k a2 a3 a4 a5 a6 true a0_0 a0_1 l0_2 a1_0 a1_1 l1_2)) = some (r1, r2, r3) := H
    have A14 := Aside0.mk A140
    clear A140
    by_cases c15 : t224 = true
    rotate_left
    · replace c15 := Bool.eq_false_iff.mpr c15
      subst c15
      have H1 : (impl_BestMotion.j0 k a2 a3 a4 a5 a6 true a0_0 a0_1 l0_2 a1_0 a1_1 l1_2) = some (r1, r2, r3) := by rw [if_neg (show ¬ (false = true) by decide)] at H; exact H
      clear H
      have H := H1
      clear H1
      have H' := Aside0.mk H
      clear H
      have hnb205 := NB220_221.out
      have hnc205 := NB221_220.out
      have hnb206 := NB220_222.out
      have hnc206 := NB222_220.out
      have hcz207_0 : w11.cell? ⟨gb220, 0, none⟩ = some (.int .i64 a0_0) := (blk_cell BK220.out 0).trans rfl
      have hcz207_1 : w11.cell? ⟨gb220, 1, none⟩ = some (.int .i64 a0_1) := (blk_cell BK220.out 1).trans rfl
      have hcz207_2 : w11.cell? ⟨gb220, 2, none⟩ = some (.slice A0_2 l0_2.length c0_2) := (blk_cell BK220.out 2).trans rfl
      have hfz207_0 := blk_frozen BK220.out 0
      have hfz207_1 := blk_frozen BK220.out 1
      have hfz207_2 := blk_frozen BK220.out 2
      iterate 3 (try go_wp2_with (first | (go_at_call 82; (with_reducible refine (impl_GoodPlane.calls k a0_0 a0_1 _ _ l0_2 true _ ?side1 ?side2 A12.out).mono ?_); (case side1 => repeat (first | exact (Kd.C_below HR0_2.out HB.out) | (with_reducible refine Kd.C_alloc ?_ _) | (with_reducible refine Kd.C_drewN ?_ _) | (with_reducible refine Kd.C_drew ?_))); (case side2 => exact HC0_2.out); rintro e w208 ⟨rfl, hb⟩; have n0_ := Aside0.mk (blk_below (g := gb220) (o := .cells #[.int .i64 a0_0, .int .i64 a0_1, .slice A0_2 l0_2.length c0_2] 29 (0, 0)) (by (with_reducible repeat (first | refine blk_drewN ?_ _ | refine blk_drew ?_ | refine blk_alloc ?_ _)); exact BK220.out) hb); have n1_ := Aside0.mk (blk_below (g := gb221) (o := .cells #[.int .i64 a1_0, .int .i64 a1_1, .slice A1_2 l1_2.length c1_2] 29 (0, 0)) (by (with_reducible repeat (first | refine blk_drewN ?_ _ | refine blk_drew ?_ | refine blk_alloc ?_ _)); exact BK221.out) hb); have n2_ := Aside0.mk (blk_below (g := gb222) (o := .cells #[.int .i64 0, .int .i64 0, .int .i64 0] 27 (0, 0)) (by (with_reducible repeat (first | refine blk_drewN ?_ _ | refine blk_drew ?_ | refine blk_alloc ?_ _)); exact BK222.out) hb); have n3_ := Aside0.mk (below_step (by repeat (first | (with_reducible first | exact HB.out | apply below_alloc | apply pw_below_drewN | apply below_drew1 | refine below_set ?_ GE220.out | refine below_set ?_ GE221.out | refine below_set ?_ GE222.out) | exact HB.out)) hb); clear BK220; clear BK221; clear BK222; clear HB; have BK220 := n0_; have BK221 := n1_; have BK222 := n2_; have HB := n3_; clear n0_ n1_ n2_ n3_; (try clear hb); (try clear hb2); (try clear hk); (try clear hi); have hnb209 := NB221_222.out; have hnc209 := NB222_221.out; have hcz210_0 : w208.cell? ⟨gb221, 0, none⟩ = some (.int .i64 a1_0) := (blk_cell BK221.out 0).trans rfl; have hcz210_1 : w208.cell? ⟨gb221, 1, none⟩ = some (.int .i64 a1_1) := (blk_cell BK221.out 1).trans rfl; have hcz210_2 : w208.cell? ⟨gb221, 2, none⟩ = some (.slice A1_2 l1_2.length c1_2) := (blk_cell BK221.out 2).trans rfl; have hfz210_0 := blk_frozen BK221.out 0; have hfz210_1 := blk_frozen BK221.out 1; have hfz210_2 := blk_frozen BK221.out 2) | (go_at_call 82; (with_reducible refine (impl_GoodPlane.calls k a1_0 a1_1 _ _ l1_2 false _ ?side1 ?side2 A14.out).mono ?_); (case side1 => repeat (first | exact (Kd.C_below HR1_2.out HB.out) | (with_reducible refine Kd.C_alloc ?_ _) | (with_reducible refine Kd.C_drewN ?_ _) | (with_reducible refine Kd.C_drew ?_))); (case side2 => exact HC1_2.out); rintro e w211 ⟨rfl, hb⟩; have n0_ := Aside0.mk (blk_below (g := gb220) (o := .cells #[.int .i64 a0_0, .int .i64 a0_1, .slice A0_2 l0_2.length c0_2] 29 (0, 0)) (by (with_reducible repeat (first | refine blk_drewN ?_ _ | refine blk_drew ?_ | refine blk_alloc ?_ _)); exact BK220.out) hb); have n1_ := Aside0.mk (blk_below (g := gb221) (o := .cells #[.int .i64 a1_0, .int .i64 a1_1, .slice A1_2 l1_2.length c1_2] 29 (0, 0)) (by (with_reducible repeat (first | refine blk_drewN ?_ _ | refine blk_drew ?_ | refine blk_alloc ?_ _)); exact BK221.out) hb); have n2_ := Aside0.mk (blk_below (g := gb222) (o := .cells #[.int .i64 0, .int .i64 0, .int .i64 0] 27 (0, 0)) (by (with_reducible repeat (first | refine blk_drewN ?_ _ | refine blk_drew ?_ | refine blk_alloc ?_ _)); exact BK222.out) hb); have n3_ := Aside0.mk (below_step (by repeat (first | (with_reducible first | exact HB.out | apply below_alloc | apply pw_below_drewN | apply below_drew1 | refine below_set ?_ GE220.out | refine below_set ?_ GE221.out | refine below_set ?_ GE222.out) | exact HB.out)) hb); clear BK220; clear BK221; clear BK222; clear HB; have BK220 := n0_; have BK221 := n1_; have BK222 := n2_; have HB := n3_; clear n0_ n1_ n2_ n3_; (try clear hb); (try clear hb2); (try clear hk); (try clear hi))); try go_quiet (first | (go_at_call 82; (with_reducible refine (impl_GoodPlane.calls k a0_0 a0_1 _ _ l0_2 true _ ?side1 ?side2 A12.out).mono ?_); (case side1 => repeat (first | exact (Kd.C_below HR0_2.out HB.out) | (with_reducible refine Kd.C_alloc ?_ _) | (with_reducible refine Kd.C_drewN ?_ _) | (with_reducible refine Kd.C_drew ?_))); (case side2 => exact HC0_2.out); rintro e w208 ⟨rfl, hb⟩; have n0_ := Aside0.mk (blk_below (g := gb220) (o := .cells #[.int .i64 a0_0, .int .i64 a0_1, .slice A0_2 l0_2.length c0_2] 29 (0, 0)) (by (with_reducible repeat (first | refine blk_drewN ?_ _ | refine blk_drew ?_ | refine blk_alloc ?_ _)); exact BK220.out) hb); have n1_ := Aside0.mk (blk_below (g := gb221) (o := .cells #[.int .i64 a1_0, .int .i64 a1_1, .slice A1_2 l1_2.length c1_2] 29 (0, 0)) (by (with_reducible repeat (first | refine blk_drewN ?_ _ | refine blk_drew ?_ | refine blk_alloc ?_ _)); exact BK221.out) hb); have n2_ := Aside0.mk (blk_below (g := gb222) (o := .cells #[.int .i64 0, .int .i64 0, .int .i64 0] 27 (0, 0)) (by (with_reducible repeat (first | refine blk_drewN ?_ _ | refine blk_drew ?_ | refine blk_alloc ?_ _)); exact BK222.out) hb); have n3_ := Aside0.mk (below_step (by repeat (first | (with_reducible first | exact HB.out | apply below_alloc | apply pw_below_drewN | apply below_drew1 | refine below_set ?_ GE220.out | refine below_set ?_ GE221.out | refine below_set ?_ GE222.out) | exact HB.out)) hb); clear BK220; clear BK221; clear BK222; clear HB; have BK220 := n0_; have BK221 := n1_; have BK222 := n2_; have HB := n3_; clear n0_ n1_ n2_ n3_; (try clear hb); (try clear hb2); (try clear hk); (try clear hi); have hnb209 := NB221_222.out; have hnc209 := NB222_221.out; have hcz210_0 : w208.cell? ⟨gb221, 0, none⟩ = some (.int .i64 a1_0) := (blk_cell BK221.out 0).trans rfl; have hcz210_1 : w208.cell? ⟨gb221, 1, none⟩ = some (.int .i64 a1_1) := (blk_cell BK221.out 1).trans rfl; have hcz210_2 : w208.cell? ⟨gb221, 2, none⟩ = some (.slice A1_2 l1_2.length c1_2) := (blk_cell BK221.out 2).trans rfl; have hfz210_0 := blk_frozen BK221.out 0; have hfz210_1 := blk_frozen BK221.out 1; have hfz210_2 := blk_frozen BK221.out 2) | (go_at_call 82; (with_reducible refine (impl_GoodPlane.calls k a1_0 a1_1 _ _ l1_2 false _ ?side1 ?side2 A14.out).mono ?_); (case side1 => repeat (first | exact (Kd.C_below HR1_2.out HB.out) | (with_reducible refine Kd.C_alloc ?_ _) | (with_reducible refine Kd.C_drewN ?_ _) | (with_reducible refine Kd.C_drew ?_))); (case side2 => exact HC1_2.out); rintro e w211 ⟨rfl, hb⟩; have n0_ := Aside0.mk (blk_below (g := gb220) (o := .cells #[.int .i64 a0_0, .int .i64 a0_1, .slice A0_2 l0_2.length c0_2] 29 (0, 0)) (by (with_reducible repeat (first | refine blk_drewN ?_ _ | refine blk_drew ?_ | refine blk_alloc ?_ _)); exact BK220.out) hb); have n1_ := Aside0.mk (blk_below (g := gb221) (o := .cells #[.int .i64 a1_0, .int .i64 a1_1, .slice A1_2 l1_2.length c1_2] 29 (0, 0)) (by (with_reducible repeat (first | refine blk_drewN ?_ _ | refine blk_drew ?_ | refine blk_alloc ?_ _)); exact BK221.out) hb); have n2_ := Aside0.mk (blk_below (g := gb222) (o := .cells #[.int .i64 0, .int .i64 0, .int .i64 0] 27 (0, 0)) (by (with_reducible repeat (first | refine blk_drewN ?_ _ | refine blk_drew ?_ | refine blk_alloc ?_ _)); exact BK222.out) hb); have n3_ := Aside0.mk (below_step (by repeat (first | (with_reducible first | exact HB.out | apply below_alloc | apply pw_below_drewN | apply below_drew1 | refine below_set ?_ GE220.out | refine below_set ?_ GE221.out | refine below_set ?_ GE222.out) | exact HB.out)) hb); clear BK220; clear BK221; clear BK222; clear HB; have BK220 := n0_; have BK221 := n1_; have BK222 := n2_; have HB := n3_; clear n0_ n1_ n2_ n3_; (try clear hb); (try clear hb2); (try clear hk); (try clear hi))))
      go_meet
      case rel => exact ⟨_, (true), (by first | rfl | (simp; done) | (simp [*]; done)), H', ⟨by first | omega | exact Nat.le_refl _⟩, ⟨by (with_reducible repeat (first | refine blk_drewN ?_ _ | refine blk_drew ?_ | refine blk_alloc ?_ _)); exact BK220.out⟩, ⟨by (with_reducible repeat (first | refine blk_drewN ?_ _ | refine blk_drew ?_ | refine blk_alloc ?_ _)); exact BK221.out⟩, ⟨by (with_reducible repeat (first | refine blk_drewN ?_ _ | refine blk_drew ?_ | refine blk_alloc ?_ _)); exact BK222.out⟩, ⟨by repeat (first | (with_reducible first | exact HB.out | apply below_alloc | apply pw_below_drewN | apply below_drew1 | refine below_set ?_ GE220.out | refine below_set ?_ GE221.out | refine below_set ?_ GE222.out) | exact HB.out)⟩⟩
    subst c15
    have H1 : (if a0_0 = a1_0 then (if a0_1 = a1_1 then (if a4 = 4 then (if a5 < 0 then (impl_BestMotion.j0 k a2 a3 a4 a5 a6 true a0_0 a0_1 l0_2 a1_0 a1_1 l1_2) else (if a5 > 2 then (impl_BestMotion.j0 k a2 a3 a4 a5 a6 true a0_0 a0_1 l0_2 a1_0 a1_1 l1_2) else (if a6 < 0 then (impl_BestMotion.j0 k a2 a3 a4 a5 a6 true a0_0 a0_1 l0_2 a1_0 a1_1 l1_2) else (if a6 > 64 then (impl_BestMotion.j0 k a2 a3 a4 a5 a6 true a0_0 a0_1 l0_2 a1_0 a1_1 l1_2) else (if a2 < 0 then (impl_BestMotion.j0 k a2 a3 a4 a5 a6 true a0_0 a0_1 l0_2 a1_0 a1_1 l1_2) else (if a3 < 0 then (impl_BestMotion.j0 k a2 a3 a4 a5 a6 true a0_0 a0_1 l0_2 a1_0 a1_1 l1_2) else (if a2 > (wrap64 (a1_0 - a4)) then (impl_BestMotion.j0 k a2 a3 a4 a5 a6 true a0_0 a0_1 l0_2 a1_0 a1_1 l1_2) else (impl_BestMotion.j0 k a2 a3 a4 a5 a6 (decide (a3 > (wrap64 (a1_1 - a4)))) a0_0 a0_1 l0_2 a1_0 a1_1 l1_2)))))))) else (if a4 = 8 then (if a5 < 0 then (impl_BestMotion.j0 k a2 a3 a4 a5 a6 true a0_0 a0_1 l0_2 a1_0 a1_1 l1_2) else (if a5 > 2 then (impl_BestMotion.j0 k a2 a3 a4 a5 a6 true a0_0 a0_1 l0_2 a1_0 a1_1 l1_2) else (if a6 < 0 then (impl_BestMotion.j0 k a2 a3 a4 a5 a6 true a0_0 a0_1 l0_2 a1_0 a1_1 l1_2) else (if a6 > 64 then (impl_BestMotion.j0 k a2 a3 a4 a5 a6 true a0_0 a0_1 l0_2 a1_0 a1_1 l1_2) else (if a2 < 0 then (impl_BestMotion.j0 k a2 a3 a4 a5 a6 true a0_0 a0_1 l0_2 a1_0 a1_1 l1_2) else (if a3 < 0 then (impl_BestMotion.j0 k a2 a3 a4 a5 a6 true a0_0 a0_1 l0_2 a1_0 a1_1 l1_2) else (if a2 > (wrap64 (a1_0 - a4)) then (impl_BestMotion.j0 k a2 a3 a4 a5 a6 true a0_0 a0_1 l0_2 a1_0 a1_1 l1_2) else (impl_BestMotion.j0 k a2 a3 a4 a5 a6 (decide (a3 > (wrap64 (a1_1 - a4)))) a0_0 a0_1 l0_2 a1_0 a1_1 l1_2)))))))) else (impl_BestMotion.j0 k a2 a3 a4 a5 a6 true a0_0 a0_1 l0_2 a1_0 a1_1 l1_2))) else (impl_BestMotion.j0 k a2 a3 a4 a5 a6 true a0_0 a0_1 l0_2 a1_0 a1_1 l1_2)) else (impl_BestMotion.j0 k a2 a3 a4 a5 a6 true a0_0 a0_1 l0_2 a1_0 a1_1 l1_2)) = some (r1, r2, r3) := by rw [if_pos rfl] at H; exact H
    clear H
    have H := H1
    clear H1
    by_cases c16 : a0_0 = a1_0
    rw [if_pos c16] at H
    have c16b0 : (a0_0 == a1_0) = true := beq_iff_eq.mpr c16
    have c16b1 : (a0_0 != a1_0) = false := bne_eq_false_iff_eq.mpr c16
    clear c16
    (first | rw [c16b0] | (simp only [i64_w, i32_w]; rw [c16b0]) | skip)
    by_cases c17 : a0_1 = a1_1
    rw [if_pos c17] at H
    have c17b0 : (a0_1 == a1_1) = true := beq_iff_eq.mpr c17
    have c17b1 : (a0_1 != a1_1) = false := bne_eq_false_iff_eq.mpr c17
    clear c17
    by_cases c18 : a4 = 4
    rw [if_pos c18] at H
    have c18b0 : (a4 == 4) = true := beq_iff_eq.mpr c18
    have c18b1 : (a4 != 4) = false := bne_eq_false_iff_eq.mpr c18
    clear c18
    by_cases c19 : a5 < 0
    rw [if_pos c19] at H
    have c19b0 : decide (a5 < 0) = true := decide_eq_true c19
    clear c19
    have H' := Aside0.mk H
    clear H
    rotate_left
    rw [if_neg c19] at H
    have c19b0 : decide (a5 < 0) = false := decide_eq_false c19
    clear c19
    by_cases c29 : a5 > 2
    rw [if_pos c29] at H
    have c29b0 : decide (2 < a5) = true := decide_eq_true c29
    clear c29
    have H' := Aside0.mk H
    clear H
    rotate_left
    rw [if_neg c29] at H
    have c29b0 : decide (2 < a5) = false := decide_eq_false c29
    clear c29
    by_cases c39 : a6 < 0
    rw [if_pos c39] at H
    have c39b0 : decide (a6 < 0) = true := decide_eq_true c39
    clear c39
    have H' := Aside0.mk H
    clear H
    rotate_left
    rw [if_neg c39] at H
    have c39b0 : decide (a6 < 0) = false := decide_eq_false c39
    clear c39
    by_cases c49 : a6 > 64
    rw [if_pos c49] at H
    have c49b0 : decide (64 < a6) = true := decide_eq_true c49
    clear c49
    have H' := Aside0.mk H
    clear H
    rotate_left
    rw [if_neg c49] at H
    have c49b0 : decide (64 < a6) = false := decide_eq_false c49
    clear c49
    by_cases c59 : a2 < 0
    rw [if_pos c59] at H
    have c59b0 : decide (a2 < 0) = true := decide_eq_true c59
    clear c59
    have H' := Aside0.mk H
    clear H
    rotate_left
    rw [if_neg c59] at H
    have c59b0 : decide (a2 < 0) = false := decide_eq_false c59
    clear c59
    by_cases c69 : a3 < 0
    rw [if_pos c69] at H
    have c69b0 : decide (a3 < 0) = true := decide_eq_true c69
    clear c69
    have H' := Aside0.mk H
    clear H
    rotate_left
    rw [if_neg c69] at H
    have c69b0 : decide (a3 < 0) = false := decide_eq_false c69
    clear c69
    by_cases c79 : a2 > (wrap64 (a1_0 - a4))
    rw [if_pos c79] at H
    have c79b0 : decide ((wrap64 (a1_0 - a4)) < a2) = true := decide_eq_true c79
    clear c79
    have H' := Aside0.mk H
    clear H
    rotate_left
    · rw [if_neg c79] at H
      have c79b0 : decide ((wrap64 (a1_0 - a4)) < a2) = false := decide_eq_false c79
      clear c79
      have H' := Aside0.mk H
      clear H
      have hnb89 := NB220_221.out
      have hnc89 := NB221_220.out
      have hnb90 := NB220_222.out
      have hnc90 := NB222_220.out
      have hcz91_0 : w11.cell? ⟨gb220, 0, none⟩ = some (.int .i64 a0_0) := (blk_cell BK220.out 0).trans rfl
      have hcz91_1 : w11.cell? ⟨gb220, 1, none⟩ = some (.int .i64 a0_1) := (blk_cell BK220.out 1).trans rfl
      have hcz91_2 : w11.cell? ⟨gb220, 2, none⟩ = some (.slice A0_2 l0_2.length c0_2) := (blk_cell BK220.out 2).trans rfl
      have hfz91_0 := blk_frozen BK220.out 0
      have hfz91_1 := blk_frozen BK220.out 1
      have hfz91_2 := blk_frozen BK220.out 2
      iterate 3 (try go_wp2_with (first | (go_at_call 82; (with_reducible refine (impl_GoodPlane.calls k a0_0 a0_1 _ _ l0_2 true _ ?side1 ?side2 A12.out).mono ?_); (case side1 => repeat (first | exact (Kd.C_below HR0_2.out HB.out) | (with_reducible refine Kd.C_alloc ?_ _) | (with_reducible refine Kd.C_drewN ?_ _) | (with_reducible refine Kd.C_drew ?_))); (case side2 => exact HC0_2.out); rintro e w92 ⟨rfl, hb⟩; have n0_ := Aside0.mk (blk_below (g := gb220) (o := .cells #[.int .i64 a0_0, .int .i64 a0_1, .slice A0_2 l0_2.length c0_2] 29 (0, 0)) (by (with_reducible repeat (first | refine blk_drewN ?_ _ | refine blk_drew ?_ | refine blk_alloc ?_ _)); exact BK220.out) hb); have n1_ := Aside0.mk (blk_below (g := gb221) (o := .cells #[.int .i64 a1_0, .int .i64 a1_1, .slice A1_2 l1_2.length c1_2] 29 (0, 0)) (by (with_reducible repeat (first | refine blk_drewN ?_ _ | refine blk_drew ?_ | refine blk_alloc ?_ _)); exact BK221.out) hb); have n2_ := Aside0.mk (blk_below (g := gb222) (o := .cells #[.int .i64 0, .int .i64 0, .int .i64 0] 27 (0, 0)) (by (with_reducible repeat (first | refine blk_drewN ?_ _ | refine blk_drew ?_ | refine blk_alloc ?_ _)); exact BK222.out) hb); have n3_ := Aside0.mk (below_step (by repeat (first | (with_reducible first | exact HB.out | apply below_alloc | apply pw_below_drewN | apply below_drew1 | refine below_set ?_ GE220.out | refine below_set ?_ GE221.out | refine below_set ?_ GE222.out) | exact HB.out)) hb); clear BK220; clear BK221; clear BK222; clear HB; have BK220 := n0_; have BK221 := n1_; have BK222 := n2_; have HB := n3_; clear n0_ n1_ n2_ n3_; (try clear hb); (try clear hb2); (try clear hk); (try clear hi); have hnb93 := NB221_222.out; have hnc93 := NB222_221.out; have hcz94_0 : w92.cell? ⟨gb221, 0, none⟩ = some (.int .i64 a1_0) := (blk_cell BK221.out 0).trans rfl; have hcz94_1 : w92.cell? ⟨gb221, 1, none⟩ = some (.int .i64 a1_1) := (blk_cell BK221.out 1).trans rfl; have hcz94_2 : w92.cell? ⟨gb221, 2, none⟩ = some (.slice A1_2 l1_2.length c1_2) := (blk_cell BK221.out 2).trans rfl; have hfz94_0 := blk_frozen BK221.out 0; have hfz94_1 := blk_frozen BK221.out 1; have hfz94_2 := blk_frozen BK221.out 2) | (go_at_call 82; (with_reducible refine (impl_GoodPlane.calls k a1_0 a1_1 _ _ l1_2 true _ ?side1 ?side2 A14.out).mono ?_); (case side1 => repeat (first | exact (Kd.C_below HR1_2.out HB.out) | (with_reducible refine Kd.C_alloc ?_ _) | (with_reducible refine Kd.C_drewN ?_ _) | (with_reducible refine Kd.C_drew ?_))); (case side2 => exact HC1_2.out); rintro e w95 ⟨rfl, hb⟩; have n0_ := Aside0.mk (blk_below (g := gb220) (o := .cells #[.int .i64 a0_0, .int .i64 a0_1, .slice A0_2 l0_2.length c0_2] 29 (0, 0)) (by (with_reducible repeat (first | refine blk_drewN ?_ _ | refine blk_drew ?_ | refine blk_alloc ?_ _)); exact BK220.out) hb); have n1_ := Aside0.mk (blk_below (g := gb221) (o := .cells #[.int .i64 a1_0, .int .i64 a1_1, .slice A1_2 l1_2.length c1_2] 29 (0, 0)) (by (with_reducible repeat (first | refine blk_drewN ?_ _ | refine blk_drew ?_ | refine blk_alloc ?_ _)); exact BK221.out) hb); have n2_ := Aside0.mk (blk_below (g := gb222) (o := .cells #[.int .i64 0, .int .i64 0, .int .i64 0] 27 (0, 0)) (by (with_reducible repeat (first | refine blk_drewN ?_ _ | refine blk_drew ?_ | refine blk_alloc ?_ _)); exact BK222.out) hb); have n3_ := Aside0.mk (below_step (by repeat (first | (with_reducible first | exact HB.out | apply below_alloc | apply pw_below_drewN | apply below_drew1 | refine below_set ?_ GE220.out | refine below_set ?_ GE221.out | refine below_set ?_ GE222.out) | exact HB.out)) hb); clear BK220; clear BK221; clear BK222; clear HB; have BK220 := n0_; have BK221 := n1_; have BK222 := n2_; have HB := n3_; clear n0_ n1_ n2_ n3_; (try clear hb); (try clear hb2); (try clear hk); (try clear hi); have hcz96_0 : w95.cell? ⟨gb220, 0, none⟩ = some (.int .i64 a0_0) := (blk_cell BK220.out 0).trans rfl; have hcz96_1 : w95.cell? ⟨gb220, 1, none⟩ = some (.int .i64 a0_1) := (blk_cell BK220.out 1).trans rfl; have hcz96_2 : w95.cell? ⟨gb220, 2, none⟩ = some (.slice A0_2 l0_2.length c0_2) := (blk_cell BK220.out 2).trans rfl; have hfz96_0 := blk_frozen BK220.out 0; have hfz96_1 := blk_frozen BK220.out 1; have hfz96_2 := blk_frozen BK220.out 2; have hcz97_0 : w95.cell? ⟨gb221, 0, none⟩ = some (.int .i64 a1_0) := (blk_cell BK221.out 0).trans rfl; have hcz97_1 : w95.cell? ⟨gb221, 1, none⟩ = some (.int .i64 a1_1) := (blk_cell BK221.out 1).trans rfl; have hcz97_2 : w95.cell? ⟨gb221, 2, none⟩ = some (.slice A1_2 l1_2.length c1_2) := (blk_cell BK221.out 2).trans rfl; have hfz97_0 := blk_frozen BK221.out 0; have hfz97_1 := blk_frozen BK221.out 1; have hfz97_2 := blk_frozen BK221.out 2)); try go_quiet (first | (go_at_call 82; (with_reducible refine (impl_GoodPlane.calls k a0_0 a0_1 _ _ l0_2 true _ ?side1 ?side2 A12.out).mono ?_); (case side1 => repeat (first | exact (Kd.C_below HR0_2.out HB.out) | (with_reducible refine Kd.C_alloc ?_ _) | (with_reducible refine Kd.C_drewN ?_ _) | (with_reducible refine Kd.C_drew ?_))); (case side2 => exact HC0_2.out); rintro e w92 ⟨rfl, hb⟩; have n0_ := Aside0.mk (blk_below (g := gb220) (o := .cells #[.int .i64 a0_0, .int .i64 a0_1, .slice A0_2 l0_2.length c0_2] 29 (0, 0)) (by (with_reducible repeat (first | refine blk_drewN ?_ _ | refine blk_drew ?_ | refine blk_alloc ?_ _)); exact BK220.out) hb); have n1_ := Aside0.mk (blk_below (g := gb221) (o := .cells #[.int .i64 a1_0, .int .i64 a1_1, .slice A1_2 l1_2.length c1_2] 29 (0, 0)) (by (with_reducible repeat (first | refine blk_drewN ?_ _ | refine blk_drew ?_ | refine blk_alloc ?_ _)); exact BK221.out) hb); have n2_ := Aside0.mk (blk_below (g := gb222) (o := .cells #[.int .i64 0, .int .i64 0, .int .i64 0] 27 (0, 0)) (by (with_reducible repeat (first | refine blk_drewN ?_ _ | refine blk_drew ?_ | refine blk_alloc ?_ _)); exact BK222.out) hb); have n3_ := Aside0.mk (below_step (by repeat (first | (with_reducible first | exact HB.out | apply below_alloc | apply pw_below_drewN | apply below_drew1 | refine below_set ?_ GE220.out | refine below_set ?_ GE221.out | refine below_set ?_ GE222.out) | exact HB.out)) hb); clear BK220; clear BK221; clear BK222; clear HB; have BK220 := n0_; have BK221 := n1_; have BK222 := n2_; have HB := n3_; clear n0_ n1_ n2_ n3_; (try clear hb); (try clear hb2); (try clear hk); (try clear hi); have hnb93 := NB221_222.out; have hnc93 := NB222_221.out; have hcz94_0 : w92.cell? ⟨gb221, 0, none⟩ = some (.int .i64 a1_0) := (blk_cell BK221.out 0).trans rfl; have hcz94_1 : w92.cell? ⟨gb221, 1, none⟩ = some (.int .i64 a1_1) := (blk_cell BK221.out 1).trans rfl; have hcz94_2 : w92.cell? ⟨gb221, 2, none⟩ = some (.slice A1_2 l1_2.length c1_2) := (blk_cell BK221.out 2).trans rfl; have hfz94_0 := blk_frozen BK221.out 0; have hfz94_1 := blk_frozen BK221.out 1; have hfz94_2 := blk_frozen BK221.out 2) | (go_at_call 82; (with_reducible refine (impl_GoodPlane.calls k a1_0 a1_1 _ _ l1_2 true _ ?side1 ?side2 A14.out).mono ?_); (case side1 => repeat (first | exact (Kd.C_below HR1_2.out HB.out) | (with_reducible refine Kd.C_alloc ?_ _) | (with_reducible refine Kd.C_drewN ?_ _) | (with_reducible refine Kd.C_drew ?_))); (case side2 => exact HC1_2.out); rintro e w95 ⟨rfl, hb⟩; have n0_ := Aside0.mk (blk_below (g := gb220) (o := .cells #[.int .i64 a0_0, .int .i64 a0_1, .slice A0_2 l0_2.length c0_2] 29 (0, 0)) (by (with_reducible repeat (first | refine blk_drewN ?_ _ | refine blk_drew ?_ | refine blk_alloc ?_ _)); exact BK220.out) hb); have n1_ := Aside0.mk (blk_below (g := gb221) (o := .cells #[.int .i64 a1_0, .int .i64 a1_1, .slice A1_2 l1_2.length c1_2] 29 (0, 0)) (by (with_reducible repeat (first | refine blk_drewN ?_ _ | refine blk_drew ?_ | refine blk_alloc ?_ _)); exact BK221.out) hb); have n2_ := Aside0.mk (blk_below (g := gb222) (o := .cells #[.int .i64 0, .int .i64 0, .int .i64 0] 27 (0, 0)) (by (with_reducible repeat (first | refine blk_drewN ?_ _ | refine blk_drew ?_ | refine blk_alloc ?_ _)); exact BK222.out) hb); have n3_ := Aside0.mk (below_step (by repeat (first | (with_reducible first | exact HB.out | apply below_alloc | apply pw_below_drewN | apply below_drew1 | refine below_set ?_ GE220.out | refine below_set ?_ GE221.out | refine below_set ?_ GE222.out) | exact HB.out)) hb); clear BK220; clear BK221; clear BK222; clear HB; have BK220 := n0_; have BK221 := n1_; have BK222 := n2_; have HB := n3_; clear n0_ n1_ n2_ n3_; (try clear hb); (try clear hb2); (try clear hk); (try clear hi); have hcz96_0 : w95.cell? ⟨gb220, 0, none⟩ = some (.int .i64 a0_0) := (blk_cell BK220.out 0).trans rfl; have hcz96_1 : w95.cell? ⟨gb220, 1, none⟩ = some (.int .i64 a0_1) := (blk_cell BK220.out 1).trans rfl; have hcz96_2 : w95.cell? ⟨gb220, 2, none⟩ = some (.slice A0_2 l0_2.length c0_2) := (blk_cell BK220.out 2).trans rfl; have hfz96_0 := blk_frozen BK220.out 0; have hfz96_1 := blk_frozen BK220.out 1; have hfz96_2 := blk_frozen BK220.out 2; have hcz97_0 : w95.cell? ⟨gb221, 0, none⟩ = some (.int .i64 a1_0) := (blk_cell BK221.out 0).trans rfl; have hcz97_1 : w95.cell? ⟨gb221, 1, none⟩ = some (.int .i64 a1_1) := (blk_cell BK221.out 1).trans rfl; have hcz97_2 : w95.cell? ⟨gb221, 2, none⟩ = some (.slice A1_2 l1_2.length c1_2) := (blk_cell BK221.out 2).trans rfl; have hfz97_0 := blk_frozen BK221.out 0; have hfz97_1 := blk_frozen BK221.out 1; have hfz97_2 := blk_frozen BK221.out 2)))
      go_meet
      case rel => exact ⟨_, (decide (a3 > (wrap64 (a1_1 - a4)))), (by first | rfl | (simp; done) | (simp [*]; done)), H', ⟨by first | omega | exact Nat.le_refl _⟩, ⟨by (with_reducible repeat (first | refine blk_drewN ?_ _ | refine blk_drew ?_ | refine blk_alloc ?_ _)); exact BK220.out⟩, ⟨by (with_reducible repeat (first | refine blk_drewN ?_ _ | refine blk_drew ?_ | refine blk_alloc ?_ _)); exact BK221.out⟩, ⟨by (with_reducible repeat (first | refine blk_drewN ?_ _ | refine blk_drew ?_ | refine blk_alloc ?_ _)); exact BK222.out⟩, ⟨by repeat (first | (with_reducible first | exact HB.out | apply below_alloc | apply pw_below_drewN | apply below_drew1 | refine below_set ?_ GE220.out | refine below_set ?_ GE221.out | refine below_set ?_ GE222.out) | exact HB.out)⟩⟩
    rw [if_neg c18] at H
    have c18b0 : (a4 == 4) = false := beq_eq_false_iff_ne.mpr c18
    have c18b1 : (a4 != 4) = true := bne_iff_ne.mpr c18
    by_cases c98 : a4 = 8
    rw [if_pos c98] at H
    have c98b0 : (a4 == 8) = true := beq_iff_eq.mpr c98
    have c98b1 : (a4 != 8) = false := bne_eq_false_iff_eq.mpr c98
    clear c98
    by_cases c99 : a5 < 0
    rw [if_pos c99] at H
    have c99b0 : decide (a5 < 0) = true := decide_eq_true c99
    clear c99
    have H' := Aside0.mk H
    clear H
    rotate_left
    rw [if_neg c99] at H
    have c99b0 : decide (a5 < 0) = false := decide_eq_false c99
    clear c99
    by_cases c109 : a5 > 2
    rw [if_pos c109] at H
    have c109b0 : decide (2 < a5) = true := decide_eq_true c109
    clear c109
    have H' := Aside0.mk H
    clear H
    rotate_left
    rw [if_neg c109] at H
    have c109b0 : decide (2 < a5) = false := decide_eq_false c109
    clear c109
    by_cases c119 : a6 < 0
    rw [if_pos c119] at H
    have c119b0 : decide (a6 < 0) = true := decide_eq_true c119
    clear c119
    have H' := Aside0.mk H
    clear H
    rotate_left
    rw [if_neg c119] at H
    have c119b0 : decide (a6 < 0) = false := decide_eq_false c119
    clear c119
    by_cases c129 : a6 > 64
    rw [if_pos c129] at H
    have c129b0 : decide (64 < a6) = true := decide_eq_true c129
    clear c129
    have H' := Aside0.mk H
    clear H
    rotate_left
    rw [if_neg c129] at H
    have c129b0 : decide (64 < a6) = false := decide_eq_false c129
    clear c129
    by_cases c139 : a2 < 0
    rw [if_pos c139] at H
    have c139b0 : decide (a2 < 0) = true := decide_eq_true c139
    clear c139
    have H' := Aside0.mk H
    clear H
    rotate_left
    rw [if_neg c139] at H
    have c139b0 : decide (a2 < 0) = false := decide_eq_false c139
    clear c139
    by_cases c149 : a3 < 0
    rw [if_pos c149] at H
    have c149b0 : decide (a3 < 0) = true := decide_eq_true c149
    clear c149
    have H' := Aside0.mk H
    clear H
    rotate_left
    rw [if_neg c149] at H
    have c149b0 : decide (a3 < 0) = false := decide_eq_false c149
    clear c149
    by_cases c159 : a2 > (wrap64 (a1_0 - a4))
    rw [if_pos c159] at H
    have c159b0 : decide ((wrap64 (a1_0 - a4)) < a2) = true := decide_eq_true c159
    clear c159
    have H' := Aside0.mk H
    clear H
    rotate_left
    · rw [if_neg c159] at H
      have c159b0 : decide ((wrap64 (a1_0 - a4)) < a2) = false := decide_eq_false c159
      clear c159
      have H' := Aside0.mk H
      clear H
      have hnb169 := NB220_221.out
      have hnc169 := NB221_220.out
      have hnb170 := NB220_222.out
      have hnc170 := NB222_220.out
      have hcz171_0 : w11.cell? ⟨gb220, 0, none⟩ = some (.int .i64 a0_0) := (blk_cell BK220.out 0).trans rfl
      have hcz171_1 : w11.cell? ⟨gb220, 1, none⟩ = some (.int .i64 a0_1) := (blk_cell BK220.out 1).trans rfl
      have hcz171_2 : w11.cell? ⟨gb220, 2, none⟩ = some (.slice A0_2 l0_2.length c0_2) := (blk_cell BK220.out 2).trans rfl
      have hfz171_0 := blk_frozen BK220.out 0
      have hfz171_1 := blk_frozen BK220.out 1
      have hfz171_2 := blk_frozen BK220.out 2
      iterate 3 (try go_wp2_with (first | (go_at_call 82; (with_reducible refine (impl_GoodPlane.calls k a0_0 a0_1 _ _ l0_2 true _ ?side1 ?side2 A12.out).mono ?_); (case side1 => repeat (first | exact (Kd.C_below HR0_2.out HB.out) | (with_reducible refine Kd.C_alloc ?_ _) | (with_reducible refine Kd.C_drewN ?_ _) | (with_reducible refine Kd.C_drew ?_))); (case side2 => exact HC0_2.out); rintro e w172 ⟨rfl, hb⟩; have n0_ := Aside0.mk (blk_below (g := gb220) (o := .cells #[.int .i64 a0_0, .int .i64 a0_1, .slice A0_2 l0_2.length c0_2] 29 (0, 0)) (by (with_reducible repeat (first | refine blk_drewN ?_ _ | refine blk_drew ?_ | refine blk_alloc ?_ _)); exact BK220.out) hb); have n1_ := Aside0.mk (blk_below (g := gb221) (o := .cells #[.int .i64 a1_0, .int .i64 a1_1, .slice A1_2 l1_2.length c1_2] 29 (0, 0)) (by (with_reducible repeat (first | refine blk_drewN ?_ _ | refine blk_drew ?_ | refine blk_alloc ?_ _)); exact BK221.out) hb); have n2_ := Aside0.mk (blk_below (g := gb222) (o := .cells #[.int .i64 0, .int .i64 0, .int .i64 0] 27 (0, 0)) (by (with_reducible repeat (first | refine blk_drewN ?_ _ | refine blk_drew ?_ | refine blk_alloc ?_ _)); exact BK222.out) hb); have n3_ := Aside0.mk (below_step (by repeat (first | (with_reducible first | exact HB.out | apply below_alloc | apply pw_below_drewN | apply below_drew1 | refine below_set ?_ GE220.out | refine below_set ?_ GE221.out | refine below_set ?_ GE222.out) | exact HB.out)) hb); clear BK220; clear BK221; clear BK222; clear HB; have BK220 := n0_; have BK221 := n1_; have BK222 := n2_; have HB := n3_; clear n0_ n1_ n2_ n3_; (try clear hb); (try clear hb2); (try clear hk); (try clear hi); have hnb173 := NB221_222.out; have hnc173 := NB222_221.out; have hcz174_0 : w172.cell? ⟨gb221, 0, none⟩ = some (.int .i64 a1_0) := (blk_cell BK221.out 0).trans rfl; have hcz174_1 : w172.cell? ⟨gb221, 1, none⟩ = some (.int .i64 a1_1) := (blk_cell BK221.out 1).trans rfl; have hcz174_2 : w172.cell? ⟨gb221, 2, none⟩ = some (.slice A1_2 l1_2.length c1_2) := (blk_cell BK221.out 2).trans rfl; have hfz174_0 := blk_frozen BK221.out 0; have hfz174_1 := blk_frozen BK221.out 1; have hfz174_2 := blk_frozen BK221.out 2) | (go_at_call 82; (with_reducible refine (impl_GoodPlane.calls k a1_0 a1_1 _ _ l1_2 true _ ?side1 ?side2 A14.out).mono ?_); (case side1 => repeat (first | exact (Kd.C_below HR1_2.out HB.out) | (with_reducible refine Kd.C_alloc ?_ _) | (with_reducible refine Kd.C_drewN ?_ _) | (with_reducible refine Kd.C_drew ?_))); (case side2 => exact HC1_2.out); rintro e w175 ⟨rfl, hb⟩; have n0_ := Aside0.mk (blk_below (g := gb220) (o := .cells #[.int .i64 a0_0, .int .i64 a0_1, .slice A0_2 l0_2.length c0_2] 29 (0, 0)) (by (with_reducible repeat (first | refine blk_drewN ?_ _ | refine blk_drew ?_ | refine blk_alloc ?_ _)); exact BK220.out) hb); have n1_ := Aside0.mk (blk_below (g := gb221) (o := .cells #[.int .i64 a1_0, .int .i64 a1_1, .slice A1_2 l1_2.length c1_2] 29 (0, 0)) (by (with_reducible repeat (first | refine blk_drewN ?_ _ | refine blk_drew ?_ | refine blk_alloc ?_ _)); exact BK221.out) hb); have n2_ := Aside0.mk (blk_below (g := gb222) (o := .cells #[.int .i64 0, .int .i64 0, .int .i64 0] 27 (0, 0)) (by (with_reducible repeat (first | refine blk_drewN ?_ _ | refine blk_drew ?_ | refine blk_alloc ?_ _)); exact BK222.out) hb); have n3_ := Aside0.mk (below_step (by repeat (first | (with_reducible first | exact HB.out | apply below_alloc | apply pw_below_drewN | apply below_drew1 | refine below_set ?_ GE220.out | refine below_set ?_ GE221.out | refine below_set ?_ GE222.out) | exact HB.out)) hb); clear BK220; clear BK221; clear BK222; clear HB; have BK220 := n0_; have BK221 := n1_; have BK222 := n2_; have HB := n3_; clear n0_ n1_ n2_ n3_; (try clear hb); (try clear hb2); (try clear hk); (try clear hi); have hcz176_0 : w175.cell? ⟨gb220, 0, none⟩ = some (.int .i64 a0_0) := (blk_cell BK220.out 0).trans rfl; have hcz176_1 : w175.cell? ⟨gb220, 1, none⟩ = some (.int .i64 a0_1) := (blk_cell BK220.out 1).trans rfl; have hcz176_2 : w175.cell? ⟨gb220, 2, none⟩ = some (.slice A0_2 l0_2.length c0_2) := (blk_cell BK220.out 2).trans rfl; have hfz176_0 := blk_frozen BK220.out 0; have hfz176_1 := blk_frozen BK220.out 1; have hfz176_2 := blk_frozen BK220.out 2; have hcz177_0 : w175.cell? ⟨gb221, 0, none⟩ = some (.int .i64 a1_0) := (blk_cell BK221.out 0).trans rfl; have hcz177_1 : w175.cell? ⟨gb221, 1, none⟩ = some (.int .i64 a1_1) := (blk_cell BK221.out 1).trans rfl; have hcz177_2 : w175.cell? ⟨gb221, 2, none⟩ = some (.slice A1_2 l1_2.length c1_2) := (blk_cell BK221.out 2).trans rfl; have hfz177_0 := blk_frozen BK221.out 0; have hfz177_1 := blk_frozen BK221.out 1; have hfz177_2 := blk_frozen BK221.out 2)); try go_quiet (first | (go_at_call 82; (with_reducible refine (impl_GoodPlane.calls k a0_0 a0_1 _ _ l0_2 true _ ?side1 ?side2 A12.out).mono ?_); (case side1 => repeat (first | exact (Kd.C_below HR0_2.out HB.out) | (with_reducible refine Kd.C_alloc ?_ _) | (with_reducible refine Kd.C_drewN ?_ _) | (with_reducible refine Kd.C_drew ?_))); (case side2 => exact HC0_2.out); rintro e w172 ⟨rfl, hb⟩; have n0_ := Aside0.mk (blk_below (g := gb220) (o := .cells #[.int .i64 a0_0, .int .i64 a0_1, .slice A0_2 l0_2.length c0_2] 29 (0, 0)) (by (with_reducible repeat (first | refine blk_drewN ?_ _ | refine blk_drew ?_ | refine blk_alloc ?_ _)); exact BK220.out) hb); have n1_ := Aside0.mk (blk_below (g := gb221) (o := .cells #[.int .i64 a1_0, .int .i64 a1_1, .slice A1_2 l1_2.length c1_2] 29 (0, 0)) (by (with_reducible repeat (first | refine blk_drewN ?_ _ | refine blk_drew ?_ | refine blk_alloc ?_ _)); exact BK221.out) hb); have n2_ := Aside0.mk (blk_below (g := gb222) (o := .cells #[.int .i64 0, .int .i64 0, .int .i64 0] 27 (0, 0)) (by (with_reducible repeat (first | refine blk_drewN ?_ _ | refine blk_drew ?_ | refine blk_alloc ?_ _)); exact BK222.out) hb); have n3_ := Aside0.mk (below_step (by repeat (first | (with_reducible first | exact HB.out | apply below_alloc | apply pw_below_drewN | apply below_drew1 | refine below_set ?_ GE220.out | refine below_set ?_ GE221.out | refine below_set ?_ GE222.out) | exact HB.out)) hb); clear BK220; clear BK221; clear BK222; clear HB; have BK220 := n0_; have BK221 := n1_; have BK222 := n2_; have HB := n3_; clear n0_ n1_ n2_ n3_; (try clear hb); (try clear hb2); (try clear hk); (try clear hi); have hnb173 := NB221_222.out; have hnc173 := NB222_221.out; have hcz174_0 : w172.cell? ⟨gb221, 0, none⟩ = some (.int .i64 a1_0) := (blk_cell BK221.out 0).trans rfl; have hcz174_1 : w172.cell? ⟨gb221, 1, none⟩ = some (.int .i64 a1_1) := (blk_cell BK221.out 1).trans rfl; have hcz174_2 : w172.cell? ⟨gb221, 2, none⟩ = some (.slice A1_2 l1_2.length c1_2) := (blk_cell BK221.out 2).trans rfl; have hfz174_0 := blk_frozen BK221.out 0; have hfz174_1 := blk_frozen BK221.out 1; have hfz174_2 := blk_frozen BK221.out 2) | (go_at_call 82; (with_reducible refine (impl_GoodPlane.calls k a1_0 a1_1 _ _ l1_2 true _ ?side1 ?side2 A14.out).mono ?_); (case side1 => repeat (first | exact (Kd.C_below HR1_2.out HB.out) | (with_reducible refine Kd.C_alloc ?_ _) | (with_reducible refine Kd.C_drewN ?_ _) | (with_reducible refine Kd.C_drew ?_))); (case side2 => exact HC1_2.out); rintro e w175 ⟨rfl, hb⟩; have n0_ := Aside0.mk (blk_below (g := gb220) (o := .cells #[.int .i64 a0_0, .int .i64 a0_1, .slice A0_2 l0_2.length c0_2] 29 (0, 0)) (by (with_reducible repeat (first | refine blk_drewN ?_ _ | refine blk_drew ?_ | refine blk_alloc ?_ _)); exact BK220.out) hb); have n1_ := Aside0.mk (blk_below (g := gb221) (o := .cells #[.int .i64 a1_0, .int .i64 a1_1, .slice A1_2 l1_2.length c1_2] 29 (0, 0)) (by (with_reducible repeat (first | refine blk_drewN ?_ _ | refine blk_drew ?_ | refine blk_alloc ?_ _)); exact BK221.out) hb); have n2_ := Aside0.mk (blk_below (g := gb222) (o := .cells #[.int .i64 0, .int .i64 0, .int .i64 0] 27 (0, 0)) (by (with_reducible repeat (first | refine blk_drewN ?_ _ | refine blk_drew ?_ | refine blk_alloc ?_ _)); exact BK222.out) hb); have n3_ := Aside0.mk (below_step (by repeat (first | (with_reducible first | exact HB.out | apply below_alloc | apply pw_below_drewN | apply below_drew1 | refine below_set ?_ GE220.out | refine below_set ?_ GE221.out | refine below_set ?_ GE222.out) | exact HB.out)) hb); clear BK220; clear BK221; clear BK222; clear HB; have BK220 := n0_; have BK221 := n1_; have BK222 := n2_; have HB := n3_; clear n0_ n1_ n2_ n3_; (try clear hb); (try clear hb2); (try clear hk); (try clear hi); have hcz176_0 : w175.cell? ⟨gb220, 0, none⟩ = some (.int .i64 a0_0) := (blk_cell BK220.out 0).trans rfl; have hcz176_1 : w175.cell? ⟨gb220, 1, none⟩ = some (.int .i64 a0_1) := (blk_cell BK220.out 1).trans rfl; have hcz176_2 : w175.cell? ⟨gb220, 2, none⟩ = some (.slice A0_2 l0_2.length c0_2) := (blk_cell BK220.out 2).trans rfl; have hfz176_0 := blk_frozen BK220.out 0; have hfz176_1 := blk_frozen BK220.out 1; have hfz176_2 := blk_frozen BK220.out 2; have hcz177_0 : w175.cell? ⟨gb221, 0, none⟩ = some (.int .i64 a1_0) := (blk_cell BK221.out 0).trans rfl; have hcz177_1 : w175.cell? ⟨gb221, 1, none⟩ = some (.int .i64 a1_1) := (blk_cell BK221.out 1).trans rfl; have hcz177_2 : w175.cell? ⟨gb221, 2, none⟩ = some (.slice A1_2 l1_2.length c1_2) := (blk_cell BK221.out 2).trans rfl; have hfz177_0 := blk_frozen BK221.out 0; have hfz177_1 := blk_frozen BK221.out 1; have hfz177_2 := blk_frozen BK221.out 2)))
      go_meet
      case rel => exact ⟨_, (decide (a3 > (wrap64 (a1_1 - a4)))), (by first | rfl | (simp; done) | (simp [*]; done)), H', ⟨by first | omega | exact Nat.le_refl _⟩, ⟨by (with_reducible repeat (first | refine blk_drewN ?_ _ | refine blk_drew ?_ | refine blk_alloc ?_ _)); exact BK220.out⟩, ⟨by (with_reducible repeat (first | refine blk_drewN ?_ _ | refine blk_drew ?_ | refine blk_alloc ?_ _)); exact BK221.out⟩, ⟨by (with_reducible repeat (first | refine blk_drewN ?_ _ | refine blk_drew ?_ | refine blk_alloc ?_ _)); exact BK222.out⟩, ⟨by repeat (first | (with_reducible first | exact HB.out | apply below_alloc | apply pw_below_drewN | apply below_drew1 | refine below_set ?_ GE220.out | refine below_set ?_ GE221.out | refine below_set ?_ GE222.out) | exact HB.out)⟩⟩
    rw [if_neg c98] at H
    have c98b0 : (a4 == 8) = false := beq_eq_false_iff_ne.mpr c98
    have c98b1 : (a4 != 8) = true := bne_iff_ne.mpr c98
    have H' := Aside0.mk H
    clear H
    rotate_left
    rw [if_neg c17] at H
    have c17b0 : (a0_1 == a1_1) = false := beq_eq_false_iff_ne.mpr c17
    have c17b1 : (a0_1 != a1_1) = true := bne_iff_ne.mpr c17
    have H' := Aside0.mk H
    clear H
    rotate_left
    rw [if_neg c16] at H
    have c16b0 : (a0_0 == a1_0) = false := beq_eq_false_iff_ne.mpr c16
    have c16b1 : (a0_0 != a1_0) = true := bne_iff_ne.mpr c16
    (first | rw [c16b0] | (simp only [i64_w, i32_w]; rw [c16b0]) | skip)
    have H' := Aside0.mk H
    clear H
    all_goals
      have hnb20 := NB220_221.out
      have hnc20 := NB221_220.out
      have hnb21 := NB220_222.out
      have hnc21 := NB222_220.out
      have hcz22_0 : w11.cell? ⟨gb220, 0, none⟩ = some (.int .i64 a0_0) := (blk_cell BK220.out 0).trans rfl
      have hcz22_1 : w11.cell? ⟨gb220, 1, none⟩ = some (.int .i64 a0_1) := (blk_cell BK220.out 1).trans rfl
      have hcz22_2 : w11.cell? ⟨gb220, 2, none⟩ = some (.slice A0_2 l0_2.length c0_2) := (blk_cell BK220.out 2).trans rfl
      have hfz22_0 := blk_frozen BK220.out 0
      have hfz22_1 := blk_frozen BK220.out 1
      have hfz22_2 := blk_frozen BK220.out 2
      iterate 3 (try go_wp2_with (first | (go_at_call 82; (with_reducible refine (impl_GoodPlane.calls k a0_0 a0_1 _ _ l0_2 true _ ?side1 ?side2 A12.out).mono ?_); (case side1 => repeat (first | exact (Kd.C_below HR0_2.out HB.out) | (with_reducible refine Kd.C_alloc ?_ _) | (with_reducible refine Kd.C_drewN ?_ _) | (with_reducible refine Kd.C_drew ?_))); (case side2 => exact HC0_2.out); rintro e w23 ⟨rfl, hb⟩; have n0_ := Aside0.mk (blk_below (g := gb220) (o := .cells #[.int .i64 a0_0, .int .i64 a0_1, .slice A0_2 l0_2.length c0_2] 29 (0, 0)) (by (with_reducible repeat (first | refine blk_drewN ?_ _ | refine blk_drew ?_ | refine blk_alloc ?_ _)); exact BK220.out) hb); have n1_ := Aside0.mk (blk_below (g := gb221) (o := .cells #[.int .i64 a1_0, .int .i64 a1_1, .slice A1_2 l1_2.length c1_2] 29 (0, 0)) (by (with_reducible repeat (first | refine blk_drewN ?_ _ | refine blk_drew ?_ | refine blk_alloc ?_ _)); exact BK221.out) hb); have n2_ := Aside0.mk (blk_below (g := gb222) (o := .cells #[.int .i64 0, .int .i64 0, .int .i64 0] 27 (0, 0)) (by (with_reducible repeat (first | refine blk_drewN ?_ _ | refine blk_drew ?_ | refine blk_alloc ?_ _)); exact BK222.out) hb); have n3_ := Aside0.mk (below_step (by repeat (first | (with_reducible first | exact HB.out | apply below_alloc | apply pw_below_drewN | apply below_drew1 | refine below_set ?_ GE220.out | refine below_set ?_ GE221.out | refine below_set ?_ GE222.out) | exact HB.out)) hb); clear BK220; clear BK221; clear BK222; clear HB; have BK220 := n0_; have BK221 := n1_; have BK222 := n2_; have HB := n3_; clear n0_ n1_ n2_ n3_; (try clear hb); (try clear hb2); (try clear hk); (try clear hi); have hnb24 := NB221_222.out; have hnc24 := NB222_221.out; have hcz25_0 : w23.cell? ⟨gb221, 0, none⟩ = some (.int .i64 a1_0) := (blk_cell BK221.out 0).trans rfl; have hcz25_1 : w23.cell? ⟨gb221, 1, none⟩ = some (.int .i64 a1_1) := (blk_cell BK221.out 1).trans rfl; have hcz25_2 : w23.cell? ⟨gb221, 2, none⟩ = some (.slice A1_2 l1_2.length c1_2) := (blk_cell BK221.out 2).trans rfl; have hfz25_0 := blk_frozen BK221.out 0; have hfz25_1 := blk_frozen BK221.out 1; have hfz25_2 := blk_frozen BK221.out 2) | (go_at_call 82; (with_reducible refine (impl_GoodPlane.calls k a1_0 a1_1 _ _ l1_2 true _ ?side1 ?side2 A14.out).mono ?_); (case side1 => repeat (first | exact (Kd.C_below HR1_2.out HB.out) | (with_reducible refine Kd.C_alloc ?_ _) | (with_reducible refine Kd.C_drewN ?_ _) | (with_reducible refine Kd.C_drew ?_))); (case side2 => exact HC1_2.out); rintro e w26 ⟨rfl, hb⟩; have n0_ := Aside0.mk (blk_below (g := gb220) (o := .cells #[.int .i64 a0_0, .int .i64 a0_1, .slice A0_2 l0_2.length c0_2] 29 (0, 0)) (by (with_reducible repeat (first | refine blk_drewN ?_ _ | refine blk_drew ?_ | refine blk_alloc ?_ _)); exact BK220.out) hb); have n1_ := Aside0.mk (blk_below (g := gb221) (o := .cells #[.int .i64 a1_0, .int .i64 a1_1, .slice A1_2 l1_2.length c1_2] 29 (0, 0)) (by (with_reducible repeat (first | refine blk_drewN ?_ _ | refine blk_drew ?_ | refine blk_alloc ?_ _)); exact BK221.out) hb); have n2_ := Aside0.mk (blk_below (g := gb222) (o := .cells #[.int .i64 0, .int .i64 0, .int .i64 0] 27 (0, 0)) (by (with_reducible repeat (first | refine blk_drewN ?_ _ | refine blk_drew ?_ | refine blk_alloc ?_ _)); exact BK222.out) hb); have n3_ := Aside0.mk (below_step (by repeat (first | (with_reducible first | exact HB.out | apply below_alloc | apply pw_below_drewN | apply below_drew1 | refine below_set ?_ GE220.out | refine below_set ?_ GE221.out | refine below_set ?_ GE222.out) | exact HB.out)) hb); clear BK220; clear BK221; clear BK222; clear HB; have BK220 := n0_; have BK221 := n1_; have BK222 := n2_; have HB := n3_; clear n0_ n1_ n2_ n3_; (try clear hb); (try clear hb2); (try clear hk); (try clear hi); have hcz27_0 : w26.cell? ⟨gb220, 0, none⟩ = some (.int .i64 a0_0) := (blk_cell BK220.out 0).trans rfl; have hcz27_1 : w26.cell? ⟨gb220, 1, none⟩ = some (.int .i64 a0_1) := (blk_cell BK220.out 1).trans rfl; have hcz27_2 : w26.cell? ⟨gb220, 2, none⟩ = some (.slice A0_2 l0_2.length c0_2) := (blk_cell BK220.out 2).trans rfl; have hfz27_0 := blk_frozen BK220.out 0; have hfz27_1 := blk_frozen BK220.out 1; have hfz27_2 := blk_frozen BK220.out 2; have hcz28_0 : w26.cell? ⟨gb221, 0, none⟩ = some (.int .i64 a1_0) := (blk_cell BK221.out 0).trans rfl; have hcz28_1 : w26.cell? ⟨gb221, 1, none⟩ = some (.int .i64 a1_1) := (blk_cell BK221.out 1).trans rfl; have hcz28_2 : w26.cell? ⟨gb221, 2, none⟩ = some (.slice A1_2 l1_2.length c1_2) := (blk_cell BK221.out 2).trans rfl; have hfz28_0 := blk_frozen BK221.out 0; have hfz28_1 := blk_frozen BK221.out 1; have hfz28_2 := blk_frozen BK221.out 2)); try go_quiet (first | (go_at_call 82; (with_reducible refine (impl_GoodPlane.calls k a0_0 a0_1 _ _ l0_2 true _ ?side1 ?side2 A12.out).mono ?_); (case side1 => repeat (first | exact (Kd.C_below HR0_2.out HB.out) | (with_reducible refine Kd.C_alloc ?_ _) | (with_reducible refine Kd.C_drewN ?_ _) | (with_reducible refine Kd.C_drew ?_))); (case side2 => exact HC0_2.out); rintro e w23 ⟨rfl, hb⟩; have n0_ := Aside0.mk (blk_below (g := gb220) (o := .cells #[.int .i64 a0_0, .int .i64 a0_1, .slice A0_2 l0_2.length c0_2] 29 (0, 0)) (by (with_reducible repeat (first | refine blk_drewN ?_ _ | refine blk_drew ?_ | refine blk_alloc ?_ _)); exact BK220.out) hb); have n1_ := Aside0.mk (blk_below (g := gb221) (o := .cells #[.int .i64 a1_0, .int .i64 a1_1, .slice A1_2 l1_2.length c1_2] 29 (0, 0)) (by (with_reducible repeat (first | refine blk_drewN ?_ _ | refine blk_drew ?_ | refine blk_alloc ?_ _)); exact BK221.out) hb); have n2_ := Aside0.mk (blk_below (g := gb222) (o := .cells #[.int .i64 0, .int .i64 0, .int .i64 0] 27 (0, 0)) (by (with_reducible repeat (first | refine blk_drewN ?_ _ | refine blk_drew ?_ | refine blk_alloc ?_ _)); exact BK222.out) hb); have n3_ := Aside0.mk (below_step (by repeat (first | (with_reducible first | exact HB.out | apply below_alloc | apply pw_below_drewN | apply below_drew1 | refine below_set ?_ GE220.out | refine below_set ?_ GE221.out | refine below_set ?_ GE222.out) | exact HB.out)) hb); clear BK220; clear BK221; clear BK222; clear HB; have BK220 := n0_; have BK221 := n1_; have BK222 := n2_; have HB := n3_; clear n0_ n1_ n2_ n3_; (try clear hb); (try clear hb2); (try clear hk); (try clear hi); have hnb24 := NB221_222.out; have hnc24 := NB222_221.out; have hcz25_0 : w23.cell? ⟨gb221, 0, none⟩ = some (.int .i64 a1_0) := (blk_cell BK221.out 0).trans rfl; have hcz25_1 : w23.cell? ⟨gb221, 1, none⟩ = some (.int .i64 a1_1) := (blk_cell BK221.out 1).trans rfl; have hcz25_2 : w23.cell? ⟨gb221, 2, none⟩ = some (.slice A1_2 l1_2.length c1_2) := (blk_cell BK221.out 2).trans rfl; have hfz25_0 := blk_frozen BK221.out 0; have hfz25_1 := blk_frozen BK221.out 1; have hfz25_2 := blk_frozen BK221.out 2) | (go_at_call 82; (with_reducible refine (impl_GoodPlane.calls k a1_0 a1_1 _ _ l1_2 true _ ?side1 ?side2 A14.out).mono ?_); (case side1 => repeat (first | exact (Kd.C_below HR1_2.out HB.out) | (with_reducible refine Kd.C_alloc ?_ _) | (with_reducible refine Kd.C_drewN ?_ _) | (with_reducible refine Kd.C_drew ?_))); (case side2 => exact HC1_2.out); rintro e w26 ⟨rfl, hb⟩; have n0_ := Aside0.mk (blk_below (g := gb220) (o := .cells #[.int .i64 a0_0, .int .i64 a0_1, .slice A0_2 l0_2.length c0_2] 29 (0, 0)) (by (with_reducible repeat (first | refine blk_drewN ?_ _ | refine blk_drew ?_ | refine blk_alloc ?_ _)); exact BK220.out) hb); have n1_ := Aside0.mk (blk_below (g := gb221) (o := .cells #[.int .i64 a1_0, .int .i64 a1_1, .slice A1_2 l1_2.length c1_2] 29 (0, 0)) (by (with_reducible repeat (first | refine blk_drewN ?_ _ | refine blk_drew ?_ | refine blk_alloc ?_ _)); exact BK221.out) hb); have n2_ := Aside0.mk (blk_below (g := gb222) (o := .cells #[.int .i64 0, .int .i64 0, .int .i64 0] 27 (0, 0)) (by (with_reducible repeat (first | refine blk_drewN ?_ _ | refine blk_drew ?_ | refine blk_alloc ?_ _)); exact BK222.out) hb); have n3_ := Aside0.mk (below_step (by repeat (first | (with_reducible first | exact HB.out | apply below_alloc | apply pw_below_drewN | apply below_drew1 | refine below_set ?_ GE220.out | refine below_set ?_ GE221.out | refine below_set ?_ GE222.out) | exact HB.out)) hb); clear BK220; clear BK221; clear BK222; clear HB; have BK220 := n0_; have BK221 := n1_; have BK222 := n2_; have HB := n3_; clear n0_ n1_ n2_ n3_; (try clear hb); (try clear hb2); (try clear hk); (try clear hi); have hcz27_0 : w26.cell? ⟨gb220, 0, none⟩ = some (.int .i64 a0_0) := (blk_cell BK220.out 0).trans rfl; have hcz27_1 : w26.cell? ⟨gb220, 1, none⟩ = some (.int .i64 a0_1) := (blk_cell BK220.out 1).trans rfl; have hcz27_2 : w26.cell? ⟨gb220, 2, none⟩ = some (.slice A0_2 l0_2.length c0_2) := (blk_cell BK220.out 2).trans rfl; have hfz27_0 := blk_frozen BK220.out 0; have hfz27_1 := blk_frozen BK220.out 1; have hfz27_2 := blk_frozen BK220.out 2; have hcz28_0 : w26.cell? ⟨gb221, 0, none⟩ = some (.int .i64 a1_0) := (blk_cell BK221.out 0).trans rfl; have hcz28_1 : w26.cell? ⟨gb221, 1, none⟩ = some (.int .i64 a1_1) := (blk_cell BK221.out 1).trans rfl; have hcz28_2 : w26.cell? ⟨gb221, 2, none⟩ = some (.slice A1_2 l1_2.length c1_2) := (blk_cell BK221.out 2).trans rfl; have hfz28_0 := blk_frozen BK221.out 0; have hfz28_1 := blk_frozen BK221.out 1; have hfz28_2 := blk_frozen BK221.out 2)))
      go_meet
      case rel => exact ⟨_, (true), (by first | rfl | (simp; done) | (simp [*]; done)), H', ⟨by first | omega | exact Nat.le_refl _⟩, ⟨by (with_reducible repeat (first | refine blk_drewN ?_ _ | refine blk_drew ?_ | refine blk_alloc ?_ _)); exact BK220.out⟩, ⟨by (with_reducible repeat (first | refine blk_drewN ?_ _ | refine blk_drew ?_ | refine blk_alloc ?_ _)); exact BK221.out⟩, ⟨by (with_reducible repeat (first | refine blk_drewN ?_ _ | refine blk_drew ?_ | refine blk_alloc ?_ _)); exact BK222.out⟩, ⟨by repeat (first | (with_reducible first | exact HB.out | apply below_alloc | apply pw_below_drewN | apply below_drew1 | refine below_set ?_ GE220.out | refine below_set ?_ GE221.out | refine below_set ?_ GE222.out) | exact HB.out)⟩⟩
  case rest =>
    clear HC8
    try clear c1
    try clear c2
    try clear p2
    try clear c3
    try clear c4
    try clear c5
    try clear c6
    try clear p6
    try clear c7
    try clear c8
    try clear c9
    try clear c10
    try clear c11
    try clear c12
    try clear c13
    try clear c14
    try clear c15
    try clear c16
    try clear c16b0
    try clear c16b1
    try clear c17
    try clear c17b0
    try clear c17b1
    try clear c18
    try clear c18b0
    try clear c18b1
    try clear c19
    try clear c19b0
    try clear c20
    try clear c21
    try clear c24
    try clear c29
    try clear c29b0
    try clear c30
    try clear c31
    try clear c34
    try clear c39
    try clear c39b0
    try clear c40
    try clear c41
    try clear c44
    try clear c49
    try clear c49b0
    try clear c50
    try clear c51
    try clear c54
    try clear c59
    try clear c59b0
    try clear c60
    try clear c61
    try clear c64
    try clear p64
    try clear c69
    try clear c69b0
    try clear c70
    try clear c71
    try clear c74
    try clear c79
    try clear c79b0
    try clear c80
    try clear c81
    try clear c84
    try clear c89
    try clear c90
    try clear c93
    try clear c98
    try clear c98b0
    try clear c98b1
    try clear c99
    try clear c99b0
    try clear c100
    try clear c101
    try clear c104
    try clear c109
    try clear c109b0
    try clear c110
    try clear c111
    try clear c114
    try clear c119
    try clear c119b0
    try clear c120
    try clear c121
    try clear c124
    try clear c129
    try clear c129b0
    try clear c130
    try clear c131
    try clear c134
    try clear c139
    try clear c139b0
    try clear c140
    try clear c141
    try clear c144
    try clear c149
    try clear c149b0
    try clear c150
    try clear c151
    try clear c154
    try clear c159
    try clear c159b0
    try clear c160
    try clear c161
    try clear c164
    try clear c169
    try clear c170
    try clear c173
    try clear c178
    try clear c179
    try clear c182
    try clear c187
    try clear c188
    try clear c191
    try clear c196
    try clear c197
    try clear c200
    try clear c205
    try clear c206
    try clear c209
    try clear c212
    try clear c213
    try clear hcz102_0
    try clear hcz102_1
    try clear hcz102_2
    try clear hcz105_0
    try clear hcz105_1
    try clear hcz105_2
    try clear hcz107_0
    try clear hcz107_1
    try clear hcz107_2
    try clear hcz108_0
    try clear hcz108_1
    try clear hcz108_2
    try clear hcz112_0
    try clear hcz112_1
    try clear hcz112_2
    try clear hcz115_0
    try clear hcz115_1
    try clear hcz115_2
    try clear hcz117_0
    try clear hcz117_1
    try clear hcz117_2
    try clear hcz118_0
    try clear hcz118_1
    try clear hcz118_2
    try clear hcz122_0
    try clear hcz122_1
    try clear hcz122_2
    try clear hcz125_0
    try clear hcz125_1
    try clear hcz125_2
    try clear hcz127_0
    try clear hcz127_1
    try clear hcz127_2
    try clear hcz128_0
    try clear hcz128_1
    try clear hcz128_2
    try clear hcz132_0
    try clear hcz132_1
    try clear hcz132_2
    try clear hcz135_0
    try clear hcz135_1
    try clear hcz135_2
    try clear hcz137_0
    try clear hcz137_1
    try clear hcz137_2
    try clear hcz138_0
    try clear hcz138_1
    try clear hcz138_2
    try clear hcz142_0
    try clear hcz142_1
    try clear hcz142_2
    try clear hcz145_0
    try clear hcz145_1
    try clear hcz145_2
    try clear hcz147_0
    try clear hcz147_1
    try clear hcz147_2
    try clear hcz148_0
    try clear hcz148_1
    try clear hcz148_2
    try clear hcz152_0
    try clear hcz152_1
    try clear hcz152_2
    try clear hcz155_0
    try clear hcz155_1
    try clear hcz155_2
    try clear hcz157_0
    try clear hcz157_1
    try clear hcz157_2
    try clear hcz158_0
    try clear hcz158_1
    try clear hcz158_2
    try clear hcz162_0
    try clear hcz162_1
    try clear hcz162_2
    try clear hcz165_0
    try clear hcz165_1
    try clear hcz165_2
    try clear hcz167_0
    try clear hcz167_1
    try clear hcz167_2
    try clear hcz168_0
    try clear hcz168_1
    try clear hcz168_2
    try clear hcz171_0
    try clear hcz171_1
    try clear hcz171_2
    try clear hcz174_0
    try clear hcz174_1
    try clear hcz174_2
    try clear hcz176_0
    try clear hcz176_1
    try clear hcz176_2
    try clear hcz177_0
    try clear hcz177_1
    try clear hcz177_2
    try clear hcz180_0
    try clear hcz180_1
    try clear hcz180_2
    try clear hcz183_0
    try clear hcz183_1
    try clear hcz183_2
    try clear hcz185_0
    try clear hcz185_1
    try clear hcz185_2
    try clear hcz186_0
    try clear hcz186_1
    try clear hcz186_2
    try clear hcz189_0
    try clear hcz189_1
    try clear hcz189_2
    try clear hcz192_0
    try clear hcz192_1
    try clear hcz192_2
    try clear hcz194_0
    try clear hcz194_1
    try clear hcz194_2
    try clear hcz195_0
    try clear hcz195_1
    try clear hcz195_2
    try clear hcz198_0
    try clear hcz198_1
    try clear hcz198_2
    try clear hcz201_0
    try clear hcz201_1
    try clear hcz201_2
    try clear hcz203_0
    try clear hcz203_1
    try clear hcz203_2
    try clear hcz204_0
    try clear hcz204_1
    try clear hcz204_2
    try clear hcz207_0
    try clear hcz207_1
    try clear hcz207_2
    try clear hcz210_0
    try clear hcz210_1
    try clear hcz210_2
    try clear hcz214_0
    try clear hcz214_1
    try clear hcz214_2
    try clear hcz22_0
    try clear hcz22_1
    try clear hcz22_2
    try clear hcz25_0
    try clear hcz25_1
    try clear hcz25_2
    try clear hcz27_0
    try clear hcz27_1
    try clear hcz27_2
    try clear hcz28_0
    try clear hcz28_1
    try clear hcz28_2
    try clear hcz32_0
    try clear hcz32_1
    try clear hcz32_2
    try clear hcz35_0
    try clear hcz35_1
    try clear hcz35_2
    try clear hcz37_0
    try clear hcz37_1
    try clear hcz37_2
    try clear hcz38_0
    try clear hcz38_1
    try clear hcz38_2
    try clear hcz42_0
    try clear hcz42_1
    try clear hcz42_2
    try clear hcz45_0
    try clear hcz45_1
    try clear hcz45_2
    try clear hcz47_0
    try clear hcz47_1
    try clear hcz47_2
    try clear hcz48_0
    try clear hcz48_1
    try clear hcz48_2
    try clear hcz52_0
    try clear hcz52_1
    try clear hcz52_2
    try clear hcz55_0
    try clear hcz55_1
    try clear hcz55_2
    try clear hcz57_0
    try clear hcz57_1
    try clear hcz57_2
    try clear hcz58_0
    try clear hcz58_1
    try clear hcz58_2
    try clear hcz62_0
    try clear hcz62_1
    try clear hcz62_2
    try clear hcz65_0
    try clear hcz65_1
    try clear hcz65_2
    try clear hcz67_0
    try clear hcz67_1
    try clear hcz67_2
    try clear hcz68_0
    try clear hcz68_1
    try clear hcz68_2
    try clear hcz72_0
    try clear hcz72_1
    try clear hcz72_2
    try clear hcz75_0
    try clear hcz75_1
    try clear hcz75_2
    try clear hcz77_0
    try clear hcz77_1
    try clear hcz77_2
    try clear hcz78_0
    try clear hcz78_1
    try clear hcz78_2
    try clear hcz82_0
    try clear hcz82_1
    try clear hcz82_2
    try clear hcz85_0
    try clear hcz85_1
    try clear hcz85_2
    try clear hcz87_0
    try clear hcz87_1
    try clear hcz87_2
    try clear hcz88_0
    try clear hcz88_1
    try clear hcz88_2
    try clear hcz91_0
    try clear hcz91_1
    try clear hcz91_2
    try clear hcz94_0
    try clear hcz94_1
    try clear hcz94_2
    try clear hcz96_0
    try clear hcz96_1
    try clear hcz96_2
    try clear hcz97_0
    try clear hcz97_1
    try clear hcz97_2
    try clear hfz102_0
    try clear hfz102_1
    try clear hfz102_2
    try clear hfz105_0
    try clear hfz105_1
    try clear hfz105_2
    try clear hfz107_0
    try clear hfz107_1
    try clear hfz107_2
    try clear hfz108_0
    try clear hfz108_1
    try clear hfz108_2
    try clear hfz112_0
    try clear hfz112_1
    try clear hfz112_2
    try clear hfz115_0
    try clear hfz115_1
    try clear hfz115_2
    try clear hfz117_0
    try clear hfz117_1
    try clear hfz117_2
    try clear hfz118_0
    try clear hfz118_1
    try clear hfz118_2
    try clear hfz122_0
    try clear hfz122_1
    try clear hfz122_2
    try clear hfz125_0
    try clear hfz125_1
    try clear hfz125_2
    try clear hfz127_0
    try clear hfz127_1
    try clear hfz127_2
    try clear hfz128_0
    try clear hfz128_1
    try clear hfz128_2
    try clear hfz132_0
    try clear hfz132_1
    try clear hfz132_2
    try clear hfz135_0
    try clear hfz135_1
    try clear hfz135_2
    try clear hfz137_0
    try clear hfz137_1
    try clear hfz137_2
    try clear hfz138_0
    try clear hfz138_1
    try clear hfz138_2
    try clear hfz142_0
    try clear hfz142_1
    try clear hfz142_2
    try clear hfz145_0
    try clear hfz145_1
    try clear hfz145_2
    try clear hfz147_0
    try clear hfz147_1
    try clear hfz147_2
    try clear hfz148_0
    try clear hfz148_1
    try clear hfz148_2
    try clear hfz152_0
    try clear hfz152_1
    try clear hfz152_2
    try clear hfz155_0
    try clear hfz155_1
    try clear hfz155_2
    try clear hfz157_0
    try clear hfz157_1
    try clear hfz157_2
    try clear hfz158_0
    try clear hfz158_1
    try clear hfz158_2
    try clear hfz162_0
    try clear hfz162_1
    try clear hfz162_2
    try clear hfz165_0
    try clear hfz165_1
    try clear hfz165_2
    try clear hfz167_0
    try clear hfz167_1
    try clear hfz167_2
    try clear hfz168_0
    try clear hfz168_1
    try clear hfz168_2
    try clear hfz171_0
    try clear hfz171_1
    try clear hfz171_2
    try clear hfz174_0
    try clear hfz174_1
    try clear hfz174_2
    try clear hfz176_0
    try clear hfz176_1
    try clear hfz176_2
    try clear hfz177_0
    try clear hfz177_1
    try clear hfz177_2
    try clear hfz180_0
    try clear hfz180_1
    try clear hfz180_2
    try clear hfz183_0
    try clear hfz183_1
    try clear hfz183_2
    try clear hfz185_0
    try clear hfz185_1
    try clear hfz185_2
    try clear hfz186_0
    try clear hfz186_1
    try clear hfz186_2
    try clear hfz189_0
    try clear hfz189_1
    try clear hfz189_2
    try clear hfz192_0
    try clear hfz192_1
    try clear hfz192_2
    try clear hfz194_0
    try clear hfz194_1
    try clear hfz194_2
    try clear hfz195_0
    try clear hfz195_1
    try clear hfz195_2
    try clear hfz198_0
    try clear hfz198_1
    try clear hfz198_2
    try clear hfz201_0
    try clear hfz201_1
    try clear hfz201_2
    try clear hfz203_0
    try clear hfz203_1
    try clear hfz203_2
    try clear hfz204_0
    try clear hfz204_1
    try clear hfz204_2
    try clear hfz207_0
    try clear hfz207_1
    try clear hfz207_2
    try clear hfz210_0
    try clear hfz210_1
    try clear hfz210_2
    try clear hfz214_0
    try clear hfz214_1
    try clear hfz214_2
    try clear hfz22_0
    try clear hfz22_1
    try clear hfz22_2
    try clear hfz25_0
    try clear hfz25_1
    try clear hfz25_2
    try clear hfz27_0
    try clear hfz27_1
    try clear hfz27_2
    try clear hfz28_0
    try clear hfz28_1
    try clear hfz28_2
    try clear hfz32_0
    try clear hfz32_1
    try clear hfz32_2
    try clear hfz35_0
    try clear hfz35_1
    try clear hfz35_2
    try clear hfz37_0
    try clear hfz37_1
    try clear hfz37_2
    try clear hfz38_0
    try clear hfz38_1
    try clear hfz38_2
    try clear hfz42_0
    try clear hfz42_1
    try clear hfz42_2
    try clear hfz45_0
    try clear hfz45_1
    try clear hfz45_2
    try clear hfz47_0
    try clear hfz47_1
    try clear hfz47_2
    try clear hfz48_0
    try clear hfz48_1
    try clear hfz48_2
    try clear hfz52_0
    try clear hfz52_1
    try clear hfz52_2
    try clear hfz55_0
    try clear hfz55_1
    try clear hfz55_2
    try clear hfz57_0
    try clear hfz57_1
    try clear hfz57_2
    try clear hfz58_0
    try clear hfz58_1
    try clear hfz58_2
    try clear hfz62_0
    try clear hfz62_1
    try clear hfz62_2
    try clear hfz65_0
    try clear hfz65_1
    try clear hfz65_2
    try clear hfz67_0
    try clear hfz67_1
    try clear hfz67_2
    try clear hfz68_0
    try clear hfz68_1
    try clear hfz68_2
    try clear hfz72_0
    try clear hfz72_1
    try clear hfz72_2
    try clear hfz75_0
    try clear hfz75_1
    try clear hfz75_2
    try clear hfz77_0
    try clear hfz77_1
    try clear hfz77_2
    try clear hfz78_0
    try clear hfz78_1
    try clear hfz78_2
    try clear hfz82_0
    try clear hfz82_1
    try clear hfz82_2
    try clear hfz85_0
    try clear hfz85_1
    try clear hfz85_2
    try clear hfz87_0
    try clear hfz87_1
    try clear hfz87_2
    try clear hfz88_0
    try clear hfz88_1
    try clear hfz88_2
    try clear hfz91_0
    try clear hfz91_1
    try clear hfz91_2
    try clear hfz94_0
    try clear hfz94_1
    try clear hfz94_2
    try clear hfz96_0
    try clear hfz96_1
    try clear hfz96_2
    try clear hfz97_0
    try clear hfz97_1
    try clear hfz97_2
    obtain ⟨kq, x92_7, rfl, HA, HJ7, BK220, BK221, BK222, HB⟩ := hcut
    cases kq with
    | zero => exact absurd HA.out (by simp [impl_BestMotion.j0])
    | succ kj7 =>
      have H := HA.out
      clear HA
      simp only [impl_BestMotion.j0] at H
      by_cases c216 : x92_7 = true
      · subst c216
        have H1 : (some (0, 0, 0)) = some (r1, r2, r3) := by rw [if_pos rfl] at H; exact H
        clear H
        have H := H1
        clear H1
        simp only [Option.some.injEq, Prod.mk.injEq] at H
        obtain ⟨rfl, rfl, rfl⟩ := H
        have hnb217 := NB222_220.out
        have hnc217 := NB220_222.out
        have hnb218 := NB222_221.out
        have hnc218 := NB221_222.out
        have hcz219_0 : wc.cell? ⟨gb222, 0, none⟩ = some (.int .i64 0) := (blk_cell BK222.out 0).trans rfl
        have hcz219_1 : wc.cell? ⟨gb222, 1, none⟩ = some (.int .i64 0) := (blk_cell BK222.out 1).trans rfl
        have hcz219_2 : wc.cell? ⟨gb222, 2, none⟩ = some (.int .i64 0) := (blk_cell BK222.out 2).trans rfl
        have hfz219_0 := blk_frozen BK222.out 0
        have hfz219_1 := blk_frozen BK222.out 1
        have hfz219_2 := blk_frozen BK222.out 2
        go_wp2
        repeat (go_quiet (fail); try go_wp2)
        refine bodyPost_ret (results_cell_row rfl _ _ gb222 27 #[.int .i64 0, .int .i64 0, .int .i64 0] (0, 0) _ rfl (by (with_reducible repeat (first | refine blk_drewN ?_ _ | refine blk_drew ?_ | refine blk_alloc ?_ _)); refine blk_put (cs := #[.int .i64 0, .int .i64 0, .int .i64 0]) ?_ 2 _ rfl; (with_reducible repeat (first | refine blk_drewN ?_ _ | refine blk_drew ?_ | refine blk_alloc ?_ _)); refine blk_put (cs := #[.int .i64 0, .int .i64 0, .int .i64 0]) ?_ 1 _ rfl; (with_reducible repeat (first | refine blk_drewN ?_ _ | refine blk_drew ?_ | refine blk_alloc ?_ _)); refine blk_put (cs := #[.int .i64 0, .int .i64 0, .int .i64 0]) ?_ 0 _ rfl; (with_reducible repeat (first | refine blk_drewN ?_ _ | refine blk_drew ?_ | refine blk_alloc ?_ _)); exact BK222.out) Try.underlying27 rfl (by kernel_rfl)) rfl ?_
        exact ⟨by first | rfl | (simp [errW_none, errW_some] <;> rfl) | (simp [*, errW_none, errW_some] <;> rfl), by repeat (first | (with_reducible first | exact HB.out | apply below_alloc | apply pw_below_drewN | apply below_drew1 | refine below_set ?_ GE220.out | refine below_set ?_ GE221.out | refine below_set ?_ GE222.out) | exact HB.out)⟩
      replace c216 := Bool.eq_false_iff.mpr c216
      subst c216
      have H1 : ((impl_zsquare.f kj7 a1_0 a1_1 l1_2 a2 a3 a4).bind fun t225 => (impl_BestMotion.l0 kj7 a2 a3 a4 a5 a6 t225 false (wrap64 ((-4) * a5)) a0_0 a0_1 l0_2 0 0 0)) = some (r1, r2, r3) := by rw [if_neg (show ¬ (false = true) by decide)] at H; exact H
      clear H
      have H := H1
      clear H1
      replace H := Option.bind_eq_some_iff.mp H
      obtain ⟨t225, A2200, H⟩ := H
      replace H : (impl_BestMotion.l0 kj7 a2 a3 a4 a5 a6 t225 false (wrap64 ((-4) * a5)) a0_0 a0_1 l0_2 0 0 0) = some (r1, r2, r3) := H
      have A220 := Aside0.mk A2200
      clear A2200
      have H' := Aside0.mk H
      clear H
      have hnb221 := NB221_220.out
      have hnc221 := NB220_221.out
      have hnb222 := NB221_222.out
      have hnc222 := NB222_221.out
      have hcz223_0 : wc.cell? ⟨gb221, 0, none⟩ = some (.int .i64 a1_0) := (blk_cell BK221.out 0).trans rfl
      have hcz223_1 : wc.cell? ⟨gb221, 1, none⟩ = some (.int .i64 a1_1) := (blk_cell BK221.out 1).trans rfl
      have hcz223_2 : wc.cell? ⟨gb221, 2, none⟩ = some (.slice A1_2 l1_2.length c1_2) := (blk_cell BK221.out 2).trans rfl
      have hfz223_0 := blk_frozen BK221.out 0
      have hfz223_1 := blk_frozen BK221.out 1
      have hfz223_2 := blk_frozen BK221.out 2
      iterate 3 (try go_wp2_with (first | (go_at_call 83; (with_reducible refine (impl_zsquare.calls kj7 a1_0 a1_1 _ _ l1_2 a2 a3 a4 t225 _ ?side1 ?side2 A220.out).mono ?_); (case side1 => repeat (first | exact (Kd.C_below HR1_2.out HB.out) | (with_reducible refine Kd.C_alloc ?_ _) | (with_reducible refine Kd.C_drewN ?_ _) | (with_reducible refine Kd.C_drew ?_))); (case side2 => exact HC1_2.out); rintro e w224 ⟨v226, rfl, ho0, hb⟩; have n0_ := Aside0.mk (Kd.R_lower ho0 (below_size (by repeat (first | (with_reducible first | exact HB.out | apply below_alloc | apply pw_below_drewN | apply below_drew1 | refine below_set ?_ GE220.out | refine below_set ?_ GE221.out | refine below_set ?_ GE222.out) | exact HB.out)))); have n1_ := Aside0.mk (blk_below (g := gb220) (o := .cells #[.int .i64 a0_0, .int .i64 a0_1, .slice A0_2 l0_2.length c0_2] 29 (0, 0)) (by (with_reducible repeat (first | refine blk_drewN ?_ _ | refine blk_drew ?_ | refine blk_alloc ?_ _)); exact BK220.out) hb); have n2_ := Aside0.mk (blk_below (g := gb221) (o := .cells #[.int .i64 a1_0, .int .i64 a1_1, .slice A1_2 l1_2.length c1_2] 29 (0, 0)) (by (with_reducible repeat (first | refine blk_drewN ?_ _ | refine blk_drew ?_ | refine blk_alloc ?_ _)); exact BK221.out) hb); have n3_ := Aside0.mk (blk_below (g := gb222) (o := .cells #[.int .i64 0, .int .i64 0, .int .i64 0] 27 (0, 0)) (by (with_reducible repeat (first | refine blk_drewN ?_ _ | refine blk_drew ?_ | refine blk_alloc ?_ _)); exact BK222.out) hb); have n4_ := Aside0.mk (below_step (by repeat (first | (with_reducible first | exact HB.out | apply below_alloc | apply pw_below_drewN | apply below_drew1 | refine below_set ?_ GE220.out | refine below_set ?_ GE221.out | refine below_set ?_ GE222.out) | exact HB.out)) hb); clear BK220; clear BK221; clear BK222; clear HB; have HO227 := n0_; have BK220 := n1_; have BK221 := n2_; have BK222 := n3_; have HB := n4_; clear n0_ n1_ n2_ n3_ n4_; (try clear hb); (try clear hb2); (try clear hk); (try clear hi); (try clear ho0)) | ((with_reducible refine gate_dst (N := 18) rfl ?_); refine box_event ?hg (N := 18) ?hd (cs := #[.int .i64 0, .int .i64 0, .int .i64 0]) (t := 27) ?hr ?_; (case hd => rfl); (case hg => rfl); (case hr => first | (go_simp; done) | (go_simp; rfl)); intro gb228 hg w225 hbox hb; have n0_ := Aside0.mk (Kd.R_below (by (with_reducible repeat (first | apply Kd.R_alloc | apply Kd.R_drewN | apply Kd.R_drew)); exact HO227.out) hb); have n1_ := Aside0.mk (blk_below (g := gb220) (o := .cells #[.int .i64 a0_0, .int .i64 a0_1, .slice A0_2 l0_2.length c0_2] 29 (0, 0)) (by (with_reducible repeat (first | refine blk_drewN ?_ _ | refine blk_drew ?_ | refine blk_alloc ?_ _)); exact BK220.out) hb); have n2_ := Aside0.mk (blk_below (g := gb221) (o := .cells #[.int .i64 a1_0, .int .i64 a1_1, .slice A1_2 l1_2.length c1_2] 29 (0, 0)) (by (with_reducible repeat (first | refine blk_drewN ?_ _ | refine blk_drew ?_ | refine blk_alloc ?_ _)); exact BK221.out) hb); have n3_ := Aside0.mk (blk_below (g := gb222) (o := .cells #[.int .i64 0, .int .i64 0, .int .i64 0] 27 (0, 0)) (by (with_reducible repeat (first | refine blk_drewN ?_ _ | refine blk_drew ?_ | refine blk_alloc ?_ _)); exact BK222.out) hb); have n4_ := Aside0.mk (below_step (by repeat (first | (with_reducible first | exact HB.out | apply below_alloc | apply pw_below_drewN | apply below_drew1 | refine below_set ?_ GE220.out | refine below_set ?_ GE221.out | refine below_set ?_ GE222.out) | exact HB.out)) hb); have n5_ := Aside0.mk (hbox); have n6_ := Aside0.mk ((by rw [hg]; exact (below_size (by repeat (first | (with_reducible first | exact HB.out | apply below_alloc | apply pw_below_drewN | apply below_drew1 | refine below_set ?_ GE220.out | refine below_set ?_ GE221.out | refine below_set ?_ GE222.out) | exact HB.out))) : w.heap.size ≤ gb228)); have n7_ := n6_; have n8_ := Aside0.mk ((by rw [hg]; exact Nat.ne_of_lt (blk_lt (g := gb220) (o := .cells #[.int .i64 a0_0, .int .i64 a0_1, .slice A0_2 l0_2.length c0_2] 29 (0, 0)) (by (with_reducible repeat (first | refine blk_drewN ?_ _ | refine blk_drew ?_ | refine blk_alloc ?_ _)); exact BK220.out)) : gb220 ≠ gb228)); have n9_ := Aside0.mk ((by rw [hg]; exact Nat.ne_of_gt (blk_lt (g := gb220) (o := .cells #[.int .i64 a0_0, .int .i64 a0_1, .slice A0_2 l0_2.length c0_2] 29 (0, 0)) (by (with_reducible repeat (first | refine blk_drewN ?_ _ | refine blk_drew ?_ | refine blk_alloc ?_ _)); exact BK220.out)) : gb228 ≠ gb220)); have n10_ := Aside0.mk ((by rw [hg]; exact Nat.ne_of_lt (blk_lt (g := gb221) (o := .cells #[.int .i64 a1_0, .int .i64 a1_1, .slice A1_2 l1_2.length c1_2] 29 (0, 0)) (by (with_reducible repeat (first | refine blk_drewN ?_ _ | refine blk_drew ?_ | refine blk_alloc ?_ _)); exact BK221.out)) : gb221 ≠ gb228)); have n11_ := Aside0.mk ((by rw [hg]; exact Nat.ne_of_gt (blk_lt (g := gb221) (o := .cells #[.int .i64 a1_0, .int .i64 a1_1, .slice A1_2 l1_2.length c1_2] 29 (0, 0)) (by (with_reducible repeat (first | refine blk_drewN ?_ _ | refine blk_drew ?_ | refine blk_alloc ?_ _)); exact BK221.out)) : gb228 ≠ gb221)); have n12_ := Aside0.mk ((by rw [hg]; exact Nat.ne_of_lt (blk_lt (g := gb222) (o := .cells #[.int .i64 0, .int .i64 0, .int .i64 0] 27 (0, 0)) (by (with_reducible repeat (first | refine blk_drewN ?_ _ | refine blk_drew ?_ | refine blk_alloc ?_ _)); exact BK222.out)) : gb222 ≠ gb228)); have n13_ := Aside0.mk ((by rw [hg]; exact Nat.ne_of_gt (blk_lt (g := gb222) (o := .cells #[.int .i64 0, .int .i64 0, .int .i64 0] 27 (0, 0)) (by (with_reducible repeat (first | refine blk_drewN ?_ _ | refine blk_drew ?_ | refine blk_alloc ?_ _)); exact BK222.out)) : gb228 ≠ gb222)); clear HO227; clear BK220; clear BK221; clear BK222; clear HB; have HO227 := n0_; have BK220 := n1_; have BK221 := n2_; have BK222 := n3_; have HB := n4_; have BK228 := n5_; have GW228 := n6_; have GE228 := n7_; have NB220_228 := n8_; have NB228_220 := n9_; have NB221_228 := n10_; have NB228_221 := n11_; have NB222_228 := n12_; have NB228_222 := n13_; clear n0_ n1_ n2_ n3_ n4_ n5_ n6_ n7_ n8_ n9_ n10_ n11_ n12_ n13_; clear hb hbox hg)); try go_quiet (first | (go_at_call 83; (with_reducible refine (impl_zsquare.calls kj7 a1_0 a1_1 _ _ l1_2 a2 a3 a4 t225 _ ?side1 ?side2 A220.out).mono ?_); (case side1 => repeat (first | exact (Kd.C_below HR1_2.out HB.out) | (with_reducible refine Kd.C_alloc ?_ _) | (with_reducible refine Kd.C_drewN ?_ _) | (with_reducible refine Kd.C_drew ?_))); (case side2 => exact HC1_2.out); rintro e w224 ⟨v226, rfl, ho0, hb⟩; have n0_ := Aside0.mk (Kd.R_lower ho0 (below_size (by repeat (first | (with_reducible first | exact HB.out | apply below_alloc | apply pw_below_drewN | apply below_drew1 | refine below_set ?_ GE220.out | refine below_set ?_ GE221.out | refine below_set ?_ GE222.out) | exact HB.out)))); have n1_ := Aside0.mk (blk_below (g := gb220) (o := .cells #[.int .i64 a0_0, .int .i64 a0_1, .slice A0_2 l0_2.length c0_2] 29 (0, 0)) (by (with_reducible repeat (first | refine blk_drewN ?_ _ | refine blk_drew ?_ | refine blk_alloc ?_ _)); exact BK220.out) hb); have n2_ := Aside0.mk (blk_below (g := gb221) (o := .cells #[.int .i64 a1_0, .int .i64 a1_1, .slice A1_2 l1_2.length c1_2] 29 (0, 0)) (by (with_reducible repeat (first | refine blk_drewN ?_ _ | refine blk_drew ?_ | refine blk_alloc ?_ _)); exact BK221.out) hb); have n3_ := Aside0.mk (blk_below (g := gb222) (o := .cells #[.int .i64 0, .int .i64 0, .int .i64 0] 27 (0, 0)) (by (with_reducible repeat (first | refine blk_drewN ?_ _ | refine blk_drew ?_ | refine blk_alloc ?_ _)); exact BK222.out) hb); have n4_ := Aside0.mk (below_step (by repeat (first | (with_reducible first | exact HB.out | apply below_alloc | apply pw_below_drewN | apply below_drew1 | refine below_set ?_ GE220.out | refine below_set ?_ GE221.out | refine below_set ?_ GE222.out) | exact HB.out)) hb); clear BK220; clear BK221; clear BK222; clear HB; have HO227 := n0_; have BK220 := n1_; have BK221 := n2_; have BK222 := n3_; have HB := n4_; clear n0_ n1_ n2_ n3_ n4_; (try clear hb); (try clear hb2); (try clear hk); (try clear hi); (try clear ho0))))
      go_loopg [19, 20] kj7 (fun kq v19 v20 w' => ∃ (x19_2 : Bool) (x20_2 : Int) (x229000_2 : Int) (x229001_2 : Int) (x229002_2 : Int), v19 = .bool x19_2 ∧ v20 = .int .i64 x20_2 ∧ Aside0 (impl_BestMotion.l0 kq a2 a3 a4 a5 a6 t225 x19_2 x20_2 a0_0 a0_1 l0_2 x229000_2 x229001_2 x229002_2 = some (r1, r2, r3)) ∧ Aside0 (kq ≤ kj7) ∧ Aside0 (Kd.R (Kd.int .i64) 3 w' w.heap.size (fun _ => True) v226 t225) ∧ Aside0 (w'.heap[gb220]? = some (.cells #[.int .i64 a0_0, .int .i64 a0_1, (.slice A0_2 l0_2.length c0_2)] 29 (0, 0))) ∧ Aside0 (w'.heap[gb221]? = some (.cells #[.int .i64 a1_0, .int .i64 a1_1, (.slice A1_2 l1_2.length c1_2)] 29 (0, 0))) ∧ Aside0 (w'.heap[gb222]? = some (.cells #[.int .i64 0, .int .i64 0, .int .i64 0] 27 (0, 0))) ∧ Aside0 (w'.heap[gb228]? = some (.cells #[.int .i64 x229000_2, .int .i64 x229001_2, .int .i64 x229002_2] 27 (0, 0))) ∧ Aside0 (Below w.heap.size w w'))
      case atStart => exact ⟨(false), (wrap64 ((-4) * a5)), (0), (0), (0), (by first | rfl | (simp; done) | (simp [*]; done)), (by first | rfl | (simp; done) | (simp [*]; done)), H', ⟨Nat.le_refl _⟩, ⟨by (with_reducible repeat (first | apply Kd.R_alloc | apply Kd.R_drewN | apply Kd.R_drew)); exact HO227.out⟩, ⟨by (with_reducible repeat (first | refine blk_drewN ?_ _ | refine blk_drew ?_ | refine blk_alloc ?_ _)); exact BK220.out⟩, ⟨by (with_reducible repeat (first | refine blk_drewN ?_ _ | refine blk_drew ?_ | refine blk_alloc ?_ _)); exact BK221.out⟩, ⟨by (with_reducible repeat (first | refine blk_drewN ?_ _ | refine blk_drew ?_ | refine blk_alloc ?_ _)); exact BK222.out⟩, ⟨by (with_reducible repeat (first | refine blk_drewN ?_ _ | refine blk_drew ?_ | refine blk_alloc ?_ _)); exact BK228.out⟩, ⟨by repeat (first | (with_reducible first | exact HB.out | apply below_alloc | apply pw_below_drewN | apply below_drew1 | refine below_set ?_ GE220.out | refine below_set ?_ GE221.out | refine below_set ?_ GE222.out | refine below_set ?_ GE228.out) | exact HB.out)⟩⟩
      case round =>
        clear H'
        try clear c1
        try clear c2
        try clear p2
        try clear c6
        try clear p6
        try clear c7
        try clear c8
        try clear c9
        try clear c10
        try clear c11
        try clear c12
        try clear c13
        try clear c14
        try clear c15
        try clear c16
        try clear c17
        try clear c18
        try clear c19
        try clear c20
        try clear c21
        try clear c22
        try clear p64
        try clear c69
        try clear c69b0
        try clear c70
        try clear c71
        try clear c74
        try clear c79
        try clear c79b0
        try clear c80
        try clear c81
        try clear c84
        try clear c89
        try clear c90
        try clear c93
        try clear c98
        try clear c98b0
        try clear c98b1
        try clear c99
        try clear c99b0
        try clear c100
        try clear c101
        try clear c104
        try clear c109
        try clear c109b0
        try clear c110
        try clear c111
        try clear c114
        try clear c119
        try clear c119b0
        try clear c120
        try clear c121
        try clear c124
        try clear c129
        try clear c129b0
        try clear c130
        try clear c131
        try clear c134
        try clear c139
        try clear c139b0
        try clear c140
        try clear c141
        try clear c144
        try clear c149
        try clear c149b0
        try clear c150
        try clear c151
        try clear c154
        try clear c159
        try clear c159b0
        try clear c160
        try clear c161
        try clear c164
        try clear c169
        try clear c170
        try clear c173
        try clear c178
        try clear c179
        try clear c182
        try clear c187
        try clear c188
        try clear c191
        try clear c196
        try clear c197
        try clear c200
        try clear c205
        try clear c206
        try clear c209
        try clear c212
        try clear c213
        try clear c216
        try clear c217
        try clear c218
        try clear c221
        try clear c222
        try clear hcz102_0
        try clear hcz102_1
        try clear hcz102_2
        try clear hcz105_0
        try clear hcz105_1
        try clear hcz105_2
        try clear hcz107_0
        try clear hcz107_1
        try clear hcz107_2
        try clear hcz108_0
        try clear hcz108_1
        try clear hcz108_2
        try clear hcz112_0
        try clear hcz112_1
        try clear hcz112_2
        try clear hcz115_0
        try clear hcz115_1
        try clear hcz115_2
        try clear hcz117_0
        try clear hcz117_1
        try clear hcz117_2
        try clear hcz118_0
        try clear hcz118_1
        try clear hcz118_2
        try clear hcz122_0
        try clear hcz122_1
        try clear hcz122_2
        try clear hcz125_0
        try clear hcz125_1
        try clear hcz125_2
        try clear hcz127_0
        try clear hcz127_1
        try clear hcz127_2
        try clear hcz128_0
        try clear hcz128_1
        try clear hcz128_2
        try clear hcz132_0
        try clear hcz132_1
        try clear hcz132_2
        try clear hcz135_0
        try clear hcz135_1
        try clear hcz135_2
        try clear hcz137_0
        try clear hcz137_1
        try clear hcz137_2
        try clear hcz138_0
        try clear hcz138_1
        try clear hcz138_2
        try clear hcz142_0
        try clear hcz142_1
        try clear hcz142_2
        try clear hcz145_0
        try clear hcz145_1
        try clear hcz145_2
        try clear hcz147_0
        try clear hcz147_1
        try clear hcz147_2
        try clear hcz148_0
        try clear hcz148_1
        try clear hcz148_2
        try clear hcz152_0
        try clear hcz152_1
        try clear hcz152_2
        try clear hcz155_0
        try clear hcz155_1
        try clear hcz155_2
        try clear hcz157_0
        try clear hcz157_1
        try clear hcz157_2
        try clear hcz158_0
        try clear hcz158_1
        try clear hcz158_2
        try clear hcz162_0
        try clear hcz162_1
        try clear hcz162_2
        try clear hcz165_0
        try clear hcz165_1
        try clear hcz165_2
        try clear hcz167_0
        try clear hcz167_1
        try clear hcz167_2
        try clear hcz168_0
        try clear hcz168_1
        try clear hcz168_2
        try clear hcz171_0
        try clear hcz171_1
        try clear hcz171_2
        try clear hcz174_0
        try clear hcz174_1
        try clear hcz174_2
        try clear hcz176_0
        try clear hcz176_1
        try clear hcz176_2
        try clear hcz177_0
        try clear hcz177_1
        try clear hcz177_2
        try clear hcz180_0
        try clear hcz180_1
        try clear hcz180_2
        try clear hcz183_0
        try clear hcz183_1
        try clear hcz183_2
        try clear hcz185_0
        try clear hcz185_1
        try clear hcz185_2
        try clear hcz186_0
        try clear hcz186_1
        try clear hcz186_2
        try clear hcz189_0
        try clear hcz189_1
        try clear hcz189_2
        try clear hcz192_0
        try clear hcz192_1
        try clear hcz192_2
        try clear hcz194_0
        try clear hcz194_1
        try clear hcz194_2
        try clear hcz195_0
        try clear hcz195_1
        try clear hcz195_2
        try clear hcz198_0
        try clear hcz198_1
        try clear hcz198_2
        try clear hcz201_0
        try clear hcz201_1
        try clear hcz201_2
        try clear hcz203_0
        try clear hcz203_1
        try clear hcz203_2
        try clear hcz204_0
        try clear hcz204_1
        try clear hcz204_2
        try clear hcz207_0
        try clear hcz207_1
        try clear hcz207_2
        try clear hcz210_0
        try clear hcz210_1
        try clear hcz210_2
        try clear hcz214_0
        try clear hcz214_1
        try clear hcz214_2
        try clear hcz219_0
        try clear hcz219_1
        try clear hcz219_2
        try clear hcz223_0
        try clear hcz223_1
        try clear hcz223_2
        try clear hcz22_0
        try clear hcz22_1
        try clear hcz22_2
        try clear hcz25_0
        try clear hcz25_1
        try clear hcz25_2
        try clear hcz27_0
        try clear hcz27_1
        try clear hcz27_2
        try clear hcz28_0
        try clear hcz28_1
        try clear hcz28_2
        try clear hcz32_0
        try clear hcz32_1
        try clear hcz32_2
        try clear hcz35_0
        try clear hcz35_1
        try clear hcz35_2
        try clear hcz37_0
        try clear hcz37_1
        try clear hcz37_2
        try clear hcz38_0
        try clear hcz38_1
        try clear hcz38_2
        try clear hcz42_0
        try clear hcz42_1
        try clear hcz42_2
        try clear hcz45_0
        try clear hcz45_1
        try clear hcz45_2
        try clear hcz47_0
        try clear hcz47_1
        try clear hcz47_2
        try clear hcz48_0
        try clear hcz48_1
        try clear hcz48_2
        try clear hcz52_0
        try clear hcz52_1
        try clear hcz52_2
        try clear hcz55_0
        try clear hcz55_1
        try clear hcz55_2
        try clear hcz57_0
        try clear hcz57_1
        try clear hcz57_2
        try clear hcz58_0
        try clear hcz58_1
        try clear hcz58_2
        try clear hcz62_0
        try clear hcz62_1
        try clear hcz62_2
        try clear hcz65_0
        try clear hcz65_1
        try clear hcz65_2
        try clear hcz67_0
        try clear hcz67_1
        try clear hcz67_2
        try clear hcz68_0
        try clear hcz68_1
        try clear hcz68_2
        try clear hcz72_0
        try clear hcz72_1
        try clear hcz72_2
        try clear hcz75_0
        try clear hcz75_1
        try clear hcz75_2
        try clear hcz77_0
        try clear hcz77_1
        try clear hcz77_2
        try clear hcz78_0
        try clear hcz78_1
        try clear hcz78_2
        try clear hcz82_0
        try clear hcz82_1
        try clear hcz82_2
        try clear hcz85_0
        try clear hcz85_1
        try clear hcz85_2
        try clear hcz87_0
        try clear hcz87_1
        try clear hcz87_2
        try clear hcz88_0
        try clear hcz88_1
        try clear hcz88_2
        try clear hcz91_0
        try clear hcz91_1
        try clear hcz91_2
        try clear hcz94_0
        try clear hcz94_1
        try clear hcz94_2
        try clear hcz96_0
        try clear hcz96_1
        try clear hcz96_2
        try clear hcz97_0
        try clear hcz97_1
        try clear hcz97_2
        try clear hfz102_0
        try clear hfz102_1
        try clear hfz102_2
        try clear hfz105_0
        try clear hfz105_1
        try clear hfz105_2
        try clear hfz107_0
        try clear hfz107_1
        try clear hfz107_2
        try clear hfz108_0
        try clear hfz108_1
        try clear hfz108_2
        try clear hfz112_0
        try clear hfz112_1
        try clear hfz112_2
        try clear hfz115_0
        try clear hfz115_1
        try clear hfz115_2
        try clear hfz117_0
        try clear hfz117_1
        try clear hfz117_2
        try clear hfz118_0
        try clear hfz118_1
        try clear hfz118_2
        try clear hfz122_0
        try clear hfz122_1
        try clear hfz122_2
        try clear hfz125_0
        try clear hfz125_1
        try clear hfz125_2
        try clear hfz127_0
        try clear hfz127_1
        try clear hfz127_2
        try clear hfz128_0
        try clear hfz128_1
        try clear hfz128_2
        try clear hfz132_0
        try clear hfz132_1
        try clear hfz132_2
        try clear hfz135_0
        try clear hfz135_1
        try clear hfz135_2
        try clear hfz137_0
        try clear hfz137_1
        try clear hfz137_2
        try clear hfz138_0
        try clear hfz138_1
        try clear hfz138_2
        try clear hfz142_0
        try clear hfz142_1
        try clear hfz142_2
        try clear hfz145_0
        try clear hfz145_1
        try clear hfz145_2
        try clear hfz147_0
        try clear hfz147_1
        try clear hfz147_2
        try clear hfz148_0
        try clear hfz148_1
        try clear hfz148_2
        try clear hfz152_0
        try clear hfz152_1
        try clear hfz152_2
        try clear hfz155_0
        try clear hfz155_1
        try clear hfz155_2
        try clear hfz157_0
        try clear hfz157_1
        try clear hfz157_2
        try clear hfz158_0
        try clear hfz158_1
        try clear hfz158_2
        try clear hfz162_0
        try clear hfz162_1
        try clear hfz162_2
        try clear hfz165_0
        try clear hfz165_1
        try clear hfz165_2
        try clear hfz167_0
        try clear hfz167_1
        try clear hfz167_2
        try clear hfz168_0
        try clear hfz168_1
        try clear hfz168_2
        try clear hfz171_0
        try clear hfz171_1
        try clear hfz171_2
        try clear hfz174_0
        try clear hfz174_1
        try clear hfz174_2
        try clear hfz176_0
        try clear hfz176_1
        try clear hfz176_2
        try clear hfz177_0
        try clear hfz177_1
        try clear hfz177_2
        try clear hfz180_0
        try clear hfz180_1
        try clear hfz180_2
        try clear hfz183_0
        try clear hfz183_1
        try clear hfz183_2
        try clear hfz185_0
        try clear hfz185_1
        try clear hfz185_2
        try clear hfz186_0
        try clear hfz186_1
        try clear hfz186_2
        try clear hfz189_0
        try clear hfz189_1
        try clear hfz189_2
        try clear hfz192_0
        try clear hfz192_1
        try clear hfz192_2
        try clear hfz194_0
        try clear hfz194_1
        try clear hfz194_2
        try clear hfz195_0
        try clear hfz195_1
        try clear hfz195_2
        try clear hfz198_0
        try clear hfz198_1
        try clear hfz198_2
        try clear hfz201_0
        try clear hfz201_1
        try clear hfz201_2
        try clear hfz203_0
        try clear hfz203_1
        try clear hfz203_2
        try clear hfz204_0
        try clear hfz204_1
        try clear hfz204_2
        try clear hfz207_0
        try clear hfz207_1
        try clear hfz207_2
        try clear hfz210_0
        try clear hfz210_1
        try clear hfz210_2
        try clear hfz214_0
        try clear hfz214_1
        try clear hfz214_2
        try clear hfz219_0
        try clear hfz219_1
        try clear hfz219_2
        try clear hfz223_0
        try clear hfz223_1
        try clear hfz223_2
        try clear hfz22_0
        try clear hfz22_1
        try clear hfz22_2
        try clear hfz25_0
        try clear hfz25_1
        try clear hfz25_2
        try clear hfz27_0
        try clear hfz27_1
        try clear hfz27_2
        try clear hfz28_0
        try clear hfz28_1
        try clear hfz28_2
        try clear hfz32_0
        try clear hfz32_1
        try clear hfz32_2
        try clear hfz35_0
        try clear hfz35_1
        try clear hfz35_2
        try clear hfz37_0
        try clear hfz37_1
        try clear hfz37_2
        try clear hfz38_0
        try clear hfz38_1
        try clear hfz38_2
        try clear hfz42_0
        try clear hfz42_1
        try clear hfz42_2
        try clear hfz45_0
        try clear hfz45_1
        try clear hfz45_2
        try clear hfz47_0
        try clear hfz47_1
        try clear hfz47_2
        try clear hfz48_0
        try clear hfz48_1
        try clear hfz48_2
        try clear hfz52_0
        try clear hfz52_1
        try clear hfz52_2
        try clear hfz55_0
        try clear hfz55_1
        try clear hfz55_2
        try clear hfz57_0
        try clear hfz57_1
        try clear hfz57_2
        try clear hfz58_0
        try clear hfz58_1
        try clear hfz58_2
        try clear hfz62_0
        try clear hfz62_1
        try clear hfz62_2
        try clear hfz65_0
        try clear hfz65_1
        try clear hfz65_2
        try clear hfz67_0
        try clear hfz67_1
        try clear hfz67_2
        try clear hfz68_0
        try clear hfz68_1
        try clear hfz68_2
        try clear hfz72_0
        try clear hfz72_1
        try clear hfz72_2
        try clear hfz75_0
        try clear hfz75_1
        try clear hfz75_2
        try clear hfz77_0
        try clear hfz77_1
        try clear hfz77_2
        try clear hfz78_0
        try clear hfz78_1
        try clear hfz78_2
        try clear hfz82_0
        try clear hfz82_1
        try clear hfz82_2
        try clear hfz85_0
        try clear hfz85_1
        try clear hfz85_2
        try clear hfz87_0
        try clear hfz87_1
        try clear hfz87_2
        try clear hfz88_0
        try clear hfz88_1
        try clear hfz88_2
        try clear hfz91_0
        try clear hfz91_1
        try clear hfz91_2
        try clear hfz94_0
        try clear hfz94_1
        try clear hfz94_2
        try clear hfz96_0
        try clear hfz96_1
        try clear hfz96_2
        try clear hfz97_0
        try clear hfz97_1
        try clear hfz97_2
        try clear p64
        obtain ⟨x19_2, x20_2, x229000_2, x229001_2, x229002_2, rfl, rfl, HA, HK2, HO_15, BK220, BK221, BK222, BK228, HB⟩ := hrel
        cases gk with
        | zero => exact absurd HA.out (by simp [impl_BestMotion.l0])
        | succ k2 =>
          have H := HA.out
          clear HA
          simp only [impl_BestMotion.l0] at H
          by_cases c226 : x20_2 ≤ (wrap64 (4 * a5))
          rotate_left
          · rw [if_neg c226] at H
            have c226b0 : decide (x20_2 ≤ (wrap64 (4 * a5))) = false := decide_eq_false c226
            clear c226
            simp only [Option.some.injEq, Prod.mk.injEq] at H
            obtain ⟨rfl, rfl, rfl⟩ := H
            have hnb325 := NB228_220.out
            have hnc325 := NB220_228.out
            have hnb326 := NB228_221.out
            have hnc326 := NB221_228.out
            have hnb327 := NB228_222.out
            have hnc327 := NB222_228.out
            have hcz328_0 : wr.cell? ⟨gb228, 0, none⟩ = some (.int .i64 x229000_2) := (blk_cell BK228.out 0).trans rfl
            have hcz328_1 : wr.cell? ⟨gb228, 1, none⟩ = some (.int .i64 x229001_2) := (blk_cell BK228.out 1).trans rfl
            have hcz328_2 : wr.cell? ⟨gb228, 2, none⟩ = some (.int .i64 x229002_2) := (blk_cell BK228.out 2).trans rfl
            have hfz328_0 := blk_frozen BK228.out 0
            have hfz328_1 := blk_frozen BK228.out 1
            have hfz328_2 := blk_frozen BK228.out 2
            have hnb329 := NB222_220.out
            have hnc329 := NB220_222.out
            have hnb330 := NB222_221.out
            have hnc330 := NB221_222.out
            have hcz331_0 : wr.cell? ⟨gb222, 0, none⟩ = some (.int .i64 0) := (blk_cell BK222.out 0).trans rfl
            have hcz331_1 : wr.cell? ⟨gb222, 1, none⟩ = some (.int .i64 0) := (blk_cell BK222.out 1).trans rfl
            have hcz331_2 : wr.cell? ⟨gb222, 2, none⟩ = some (.int .i64 0) := (blk_cell BK222.out 2).trans rfl
            have hfz331_0 := blk_frozen BK222.out 0
            have hfz331_1 := blk_frozen BK222.out 1
            have hfz331_2 := blk_frozen BK222.out 2
            go_wp2
            repeat (go_quiet (fail); try go_wp2)
            refine bodyPost_ret (results_cell_row rfl _ _ gb222 27 #[.int .i64 x229000_2, .int .i64 x229001_2, .int .i64 x229002_2] (0, 0) _ rfl (by (with_reducible repeat (first | refine blk_drewN ?_ _ | refine blk_drew ?_ | refine blk_alloc ?_ _)); refine blk_put (cs := #[.int .i64 x229000_2, .int .i64 x229001_2, .int .i64 0]) ?_ 2 _ rfl; (with_reducible repeat (first | refine blk_drewN ?_ _ | refine blk_drew ?_ | refine blk_alloc ?_ _)); refine blk_put (cs := #[.int .i64 x229000_2, .int .i64 0, .int .i64 0]) ?_ 1 _ rfl; (with_reducible repeat (first | refine blk_drewN ?_ _ | refine blk_drew ?_ | refine blk_alloc ?_ _)); refine blk_put (cs := #[.int .i64 0, .int .i64 0, .int .i64 0]) ?_ 0 _ rfl; (with_reducible repeat (first | refine blk_drewN ?_ _ | refine blk_drew ?_ | refine blk_alloc ?_ _)); exact BK222.out) Try.underlying27 rfl (by kernel_rfl)) rfl ?_
            exact ⟨by first | rfl | (simp [errW_none, errW_some] <;> rfl) | (simp [*, errW_none, errW_some] <;> rfl), by repeat (first | (with_reducible first | exact HB.out | apply below_alloc | apply pw_below_drewN | apply below_drew1 | refine below_set ?_ GE220.out | refine below_set ?_ GE221.out | refine below_set ?_ GE222.out | refine below_set ?_ GE228.out) | exact HB.out)⟩
          rw [if_pos c226] at H
          have c226b0 : decide (x20_2 ≤ (wrap64 (4 * a5))) = true := decide_eq_true c226
          clear c226
          have H' := Aside0.mk H
          clear H
          go_wp2
          repeat (go_quiet (fail); try go_wp2)
          go_loopg [19, 21] k2 (fun kq v19 v21 w' => ∃ (x19_3 : Bool) (x21_3 : Int) (x229000_3 : Int) (x229001_3 : Int) (x229002_3 : Int), v19 = .bool x19_3 ∧ v21 = .int .i64 x21_3 ∧ Aside0 (impl_BestMotion.l1 kq a2 a3 a4 a5 a6 t225 x19_3 x20_2 x21_3 a0_0 a0_1 l0_2 x229000_3 x229001_3 x229002_3 = some (r1, r2, r3)) ∧ Aside0 (kq ≤ k2) ∧ Aside0 (Kd.R (Kd.int .i64) 3 w' w.heap.size (fun _ => True) v226 t225) ∧ Aside0 (w'.heap[gb220]? = some (.cells #[.int .i64 a0_0, .int .i64 a0_1, (.slice A0_2 l0_2.length c0_2)] 29 (0, 0))) ∧ Aside0 (w'.heap[gb221]? = some (.cells #[.int .i64 a1_0, .int .i64 a1_1, (.slice A1_2 l1_2.length c1_2)] 29 (0, 0))) ∧ Aside0 (w'.heap[gb222]? = some (.cells #[.int .i64 0, .int .i64 0, .int .i64 0] 27 (0, 0))) ∧ Aside0 (w'.heap[gb228]? = some (.cells #[.int .i64 x229000_3, .int .i64 x229001_3, .int .i64 x229002_3] 27 (0, 0))) ∧ Aside0 (Below w.heap.size w w'))
          case atStart => exact ⟨(x19_2), (wrap64 ((-4) * a5)), (x229000_2), (x229001_2), (x229002_2), (by first | rfl | (simp; done) | (simp [*]; done)), (by first | rfl | (simp; done) | (simp [*]; done)), H', ⟨Nat.le_refl _⟩, ⟨by (with_reducible repeat (first | apply Kd.R_alloc | apply Kd.R_drewN | apply Kd.R_drew)); exact HO_15.out⟩, ⟨by (with_reducible repeat (first | refine blk_drewN ?_ _ | refine blk_drew ?_ | refine blk_alloc ?_ _)); exact BK220.out⟩, ⟨by (with_reducible repeat (first | refine blk_drewN ?_ _ | refine blk_drew ?_ | refine blk_alloc ?_ _)); exact BK221.out⟩, ⟨by (with_reducible repeat (first | refine blk_drewN ?_ _ | refine blk_drew ?_ | refine blk_alloc ?_ _)); exact BK222.out⟩, ⟨by (with_reducible repeat (first | refine blk_drewN ?_ _ | refine blk_drew ?_ | refine blk_alloc ?_ _)); exact BK228.out⟩, ⟨by repeat (first | (with_reducible first | exact HB.out | apply below_alloc | apply pw_below_drewN | apply below_drew1 | refine below_set ?_ GE220.out | refine below_set ?_ GE221.out | refine below_set ?_ GE222.out | refine below_set ?_ GE228.out) | exact HB.out)⟩⟩
          case round =>
            clear H'
            try clear c1
            try clear c2
            try clear p2
            try clear c6
            try clear p6
            try clear c7
            try clear c8
            try clear c9
            try clear c10
            try clear c11
            try clear c12
            try clear c13
            try clear c14
            try clear c15
            try clear c16
            try clear c17
            try clear c18
            try clear c19
            try clear c20
            try clear c21
            try clear c22
            try clear p64
            try clear c69
            try clear c69b0
            try clear c70
            try clear c71
            try clear c74
            try clear c79
            try clear c79b0
            try clear c80
            try clear c81
            try clear c84
            try clear c89
            try clear c90
            try clear c93
            try clear c98
            try clear c98b0
            try clear c98b1
            try clear c99
            try clear c99b0
            try clear c100
            try clear c101
            try clear c104
            try clear c109
            try clear c109b0
            try clear c110
            try clear c111
            try clear c114
            try clear c119
            try clear c119b0
            try clear c120
            try clear c121
            try clear c124
            try clear c129
            try clear c129b0
            try clear c130
            try clear c131
            try clear c134
            try clear c139
            try clear c139b0
            try clear c140
            try clear c141
            try clear c144
            try clear c149
            try clear c149b0
            try clear c150
            try clear c151
            try clear c154
            try clear c159
            try clear c159b0
            try clear c160
            try clear c161
            try clear c164
            try clear c169
            try clear c170
            try clear c173
            try clear c178
            try clear c179
            try clear c182
            try clear c187
            try clear c188
            try clear c191
            try clear c196
            try clear c197
            try clear c200
            try clear c205
            try clear c206
            try clear c209
            try clear c212
            try clear c213
            try clear c216
            try clear c217
            try clear c218
            try clear c221
            try clear c222
            try clear c226
            try clear c226b0
            try clear hcz102_0
            try clear hcz102_1
            try clear hcz102_2
            try clear hcz105_0
            try clear hcz105_1
            try clear hcz105_2
            try clear hcz107_0
            try clear hcz107_1
            try clear hcz107_2
            try clear hcz108_0
            try clear hcz108_1
            try clear hcz108_2
            try clear hcz112_0
            try clear hcz112_1
            try clear hcz112_2
            try clear hcz115_0
            try clear hcz115_1
            try clear hcz115_2
            try clear hcz117_0
            try clear hcz117_1
            try clear hcz117_2
            try clear hcz118_0
            try clear hcz118_1
            try clear hcz118_2
            try clear hcz122_0
            try clear hcz122_1
            try clear hcz122_2
            try clear hcz125_0
            try clear hcz125_1
            try clear hcz125_2
            try clear hcz127_0
            try clear hcz127_1
            try clear hcz127_2
            try clear hcz128_0
            try clear hcz128_1
            try clear hcz128_2
            try clear hcz132_0
            try clear hcz132_1
            try clear hcz132_2
            try clear hcz135_0
            try clear hcz135_1
            try clear hcz135_2
            try clear hcz137_0
            try clear hcz137_1
            try clear hcz137_2
            try clear hcz138_0
            try clear hcz138_1
            try clear hcz138_2
            try clear hcz142_0
            try clear hcz142_1
            try clear hcz142_2
            try clear hcz145_0
            try clear hcz145_1
            try clear hcz145_2
            try clear hcz147_0
            try clear hcz147_1
            try clear hcz147_2
            try clear hcz148_0
            try clear hcz148_1
            try clear hcz148_2
            try clear hcz152_0
            try clear hcz152_1
            try clear hcz152_2
            try clear hcz155_0
            try clear hcz155_1
            try clear hcz155_2
            try clear hcz157_0
            try clear hcz157_1
            try clear hcz157_2
            try clear hcz158_0
            try clear hcz158_1
            try clear hcz158_2
            try clear hcz162_0
            try clear hcz162_1
            try clear hcz162_2
            try clear hcz165_0
            try clear hcz165_1
            try clear hcz165_2
            try clear hcz167_0
            try clear hcz167_1
            try clear hcz167_2
            try clear hcz168_0
            try clear hcz168_1
            try clear hcz168_2
            try clear hcz171_0
            try clear hcz171_1
            try clear hcz171_2
            try clear hcz174_0
            try clear hcz174_1
            try clear hcz174_2
            try clear hcz176_0
            try clear hcz176_1
            try clear hcz176_2
            try clear hcz177_0
            try clear hcz177_1
            try clear hcz177_2
            try clear hcz180_0
            try clear hcz180_1
            try clear hcz180_2
            try clear hcz183_0
            try clear hcz183_1
            try clear hcz183_2
            try clear hcz185_0
            try clear hcz185_1
            try clear hcz185_2
            try clear hcz186_0
            try clear hcz186_1
            try clear hcz186_2
            try clear hcz189_0
            try clear hcz189_1
            try clear hcz189_2
            try clear hcz192_0
            try clear hcz192_1
            try clear hcz192_2
            try clear hcz194_0
            try clear hcz194_1
            try clear hcz194_2
            try clear hcz195_0
            try clear hcz195_1
            try clear hcz195_2
            try clear hcz198_0
            try clear hcz198_1
            try clear hcz198_2
            try clear hcz201_0
            try clear hcz201_1
            try clear hcz201_2
            try clear hcz203_0
            try clear hcz203_1
            try clear hcz203_2
            try clear hcz204_0
            try clear hcz204_1
            try clear hcz204_2
            try clear hcz207_0
            try clear hcz207_1
            try clear hcz207_2
            try clear hcz210_0
            try clear hcz210_1
            try clear hcz210_2
            try clear hcz214_0
            try clear hcz214_1
            try clear hcz214_2
            try clear hcz219_0
            try clear hcz219_1
            try clear hcz219_2
            try clear hcz223_0
            try clear hcz223_1
            try clear hcz223_2
            try clear hcz22_0
            try clear hcz22_1
            try clear hcz22_2
            try clear hcz25_0
            try clear hcz25_1
            try clear hcz25_2
            try clear hcz27_0
            try clear hcz27_1
            try clear hcz27_2
            try clear hcz28_0
            try clear hcz28_1
            try clear hcz28_2
            try clear hcz32_0
            try clear hcz32_1
            try clear hcz32_2
            try clear hcz35_0
            try clear hcz35_1
            try clear hcz35_2
            try clear hcz37_0
            try clear hcz37_1
            try clear hcz37_2
            try clear hcz38_0
            try clear hcz38_1
            try clear hcz38_2
            try clear hcz42_0
            try clear hcz42_1
            try clear hcz42_2
            try clear hcz45_0
            try clear hcz45_1
            try clear hcz45_2
            try clear hcz47_0
            try clear hcz47_1
            try clear hcz47_2
            try clear hcz48_0
            try clear hcz48_1
            try clear hcz48_2
            try clear hcz52_0
            try clear hcz52_1
            try clear hcz52_2
            try clear hcz55_0
            try clear hcz55_1
            try clear hcz55_2
            try clear hcz57_0
            try clear hcz57_1
            try clear hcz57_2
            try clear hcz58_0
            try clear hcz58_1
            try clear hcz58_2
            try clear hcz62_0
            try clear hcz62_1
            try clear hcz62_2
            try clear hcz65_0
            try clear hcz65_1
            try clear hcz65_2
            try clear hcz67_0
            try clear hcz67_1
            try clear hcz67_2
            try clear hcz68_0
            try clear hcz68_1
            try clear hcz68_2
            try clear hcz72_0
            try clear hcz72_1
            try clear hcz72_2
            try clear hcz75_0
            try clear hcz75_1
            try clear hcz75_2
            try clear hcz77_0
            try clear hcz77_1
            try clear hcz77_2
            try clear hcz78_0
            try clear hcz78_1
            try clear hcz78_2
            try clear hcz82_0
            try clear hcz82_1
            try clear hcz82_2
            try clear hcz85_0
            try clear hcz85_1
            try clear hcz85_2
            try clear hcz87_0
            try clear hcz87_1
            try clear hcz87_2
            try clear hcz88_0
            try clear hcz88_1
            try clear hcz88_2
            try clear hcz91_0
            try clear hcz91_1
            try clear hcz91_2
            try clear hcz94_0
            try clear hcz94_1
            try clear hcz94_2
            try clear hcz96_0
            try clear hcz96_1
            try clear hcz96_2
            try clear hcz97_0
            try clear hcz97_1
            try clear hcz97_2
            try clear hfz102_0
            try clear hfz102_1
            try clear hfz102_2
            try clear hfz105_0
            try clear hfz105_1
            try clear hfz105_2
            try clear hfz107_0
            try clear hfz107_1
            try clear hfz107_2
            try clear hfz108_0
            try clear hfz108_1
            try clear hfz108_2
            try clear hfz112_0
            try clear hfz112_1
            try clear hfz112_2
            try clear hfz115_0
            try clear hfz115_1
            try clear hfz115_2
            try clear hfz117_0
            try clear hfz117_1
            try clear hfz117_2
            try clear hfz118_0
            try clear hfz118_1
            try clear hfz118_2
            try clear hfz122_0
            try clear hfz122_1
            try clear hfz122_2
            try clear hfz125_0
            try clear hfz125_1
            try clear hfz125_2
            try clear hfz127_0
            try clear hfz127_1
            try clear hfz127_2
            try clear hfz128_0
            try clear hfz128_1
            try clear hfz128_2
            try clear hfz132_0
            try clear hfz132_1
            try clear hfz132_2
            try clear hfz135_0
            try clear hfz135_1
            try clear hfz135_2
            try clear hfz137_0
            try clear hfz137_1
            try clear hfz137_2
            try clear hfz138_0
            try clear hfz138_1
            try clear hfz138_2
            try clear hfz142_0
            try clear hfz142_1
            try clear hfz142_2
            try clear hfz145_0
            try clear hfz145_1
            try clear hfz145_2
            try clear hfz147_0
            try clear hfz147_1
            try clear hfz147_2
            try clear hfz148_0
            try clear hfz148_1
            try clear hfz148_2
            try clear hfz152_0
            try clear hfz152_1
            try clear hfz152_2
            try clear hfz155_0
            try clear hfz155_1
            try clear hfz155_2
            try clear hfz157_0
            try clear hfz157_1
            try clear hfz157_2
            try clear hfz158_0
            try clear hfz158_1
            try clear hfz158_2
            try clear hfz162_0
            try clear hfz162_1
            try clear hfz162_2
            try clear hfz165_0
            try clear hfz165_1
            try clear hfz165_2
            try clear hfz167_0
            try clear hfz167_1
            try clear hfz167_2
            try clear hfz168_0
            try clear hfz168_1
            try clear hfz168_2
            try clear hfz171_0
            try clear hfz171_1
            try clear hfz171_2
            try clear hfz174_0
            try clear hfz174_1
            try clear hfz174_2
            try clear hfz176_0
            try clear hfz176_1
            try clear hfz176_2
            try clear hfz177_0
            try clear hfz177_1
            try clear hfz177_2
            try clear hfz180_0
            try clear hfz180_1
            try clear hfz180_2
            try clear hfz183_0
            try clear hfz183_1
            try clear hfz183_2
            try clear hfz185_0
            try clear hfz185_1
            try clear hfz185_2
            try clear hfz186_0
            try clear hfz186_1
            try clear hfz186_2
            try clear hfz189_0
            try clear hfz189_1
            try clear hfz189_2
            try clear hfz192_0
            try clear hfz192_1
            try clear hfz192_2
            try clear hfz194_0
            try clear hfz194_1
            try clear hfz194_2
            try clear hfz195_0
            try clear hfz195_1
            try clear hfz195_2
            try clear hfz198_0
            try clear hfz198_1
            try clear hfz198_2
            try clear hfz201_0
            try clear hfz201_1
            try clear hfz201_2
            try clear hfz203_0
            try clear hfz203_1
            try clear hfz203_2
            try clear hfz204_0
            try clear hfz204_1
            try clear hfz204_2
            try clear hfz207_0
            try clear hfz207_1
            try clear hfz207_2
            try clear hfz210_0
            try clear hfz210_1
            try clear hfz210_2
            try clear hfz214_0
            try clear hfz214_1
            try clear hfz214_2
            try clear hfz219_0
            try clear hfz219_1
            try clear hfz219_2
            try clear hfz223_0
            try clear hfz223_1
            try clear hfz223_2
            try clear hfz22_0
            try clear hfz22_1
            try clear hfz22_2
            try clear hfz25_0
            try clear hfz25_1
            try clear hfz25_2
            try clear hfz27_0
            try clear hfz27_1
            try clear hfz27_2
            try clear hfz28_0
            try clear hfz28_1
            try clear hfz28_2
            try clear hfz32_0
            try clear hfz32_1
            try clear hfz32_2
            try clear hfz35_0
            try clear hfz35_1
            try clear hfz35_2
            try clear hfz37_0
            try clear hfz37_1
            try clear hfz37_2
            try clear hfz38_0
            try clear hfz38_1
            try clear hfz38_2
            try clear hfz42_0
            try clear hfz42_1
            try clear hfz42_2
            try clear hfz45_0
            try clear hfz45_1
            try clear hfz45_2
            try clear hfz47_0
            try clear hfz47_1
            try clear hfz47_2
            try clear hfz48_0
            try clear hfz48_1
            try clear hfz48_2
            try clear hfz52_0
            try clear hfz52_1
            try clear hfz52_2
            try clear hfz55_0
            try clear hfz55_1
            try clear hfz55_2
            try clear hfz57_0
            try clear hfz57_1
            try clear hfz57_2
            try clear hfz58_0
            try clear hfz58_1
            try clear hfz58_2
            try clear hfz62_0
            try clear hfz62_1
            try clear hfz62_2
            try clear hfz65_0
            try clear hfz65_1
            try clear hfz65_2
            try clear hfz67_0
            try clear hfz67_1
            try clear hfz67_2
            try clear hfz68_0
            try clear hfz68_1
            try clear hfz68_2
            try clear hfz72_0
            try clear hfz72_1
            try clear hfz72_2
            try clear hfz75_0
            try clear hfz75_1
            try clear hfz75_2
            try clear hfz77_0
            try clear hfz77_1
            try clear hfz77_2
            try clear hfz78_0
            try clear hfz78_1
            try clear hfz78_2
            try clear hfz82_0
            try clear hfz82_1
            try clear hfz82_2
            try clear hfz85_0
            try clear hfz85_1
            try clear hfz85_2
            try clear hfz87_0
            try clear hfz87_1
            try clear hfz87_2
            try clear hfz88_0
            try clear hfz88_1
            try clear hfz88_2
            try clear hfz91_0
            try clear hfz91_1
            try clear hfz91_2
            try clear hfz94_0
            try clear hfz94_1
            try clear hfz94_2
            try clear hfz96_0
            try clear hfz96_1
            try clear hfz96_2
            try clear hfz97_0
            try clear hfz97_1
            try clear hfz97_2
            try clear p2
            try clear p6
            try clear p64
            obtain ⟨x19_3, x21_3, x229000_3, x229001_3, x229002_3, rfl, rfl, HA, HK3, HO_15, BK220, BK221, BK222, BK228, HB⟩ := hrel
            cases gk with
            | zero => exact absurd HA.out (by simp [impl_BestMotion.l1])
            | succ k3 =>
              have H := HA.out
              clear HA
              simp only [impl_BestMotion.l1] at H
              by_cases c227 : x21_3 ≤ (wrap64 (4 * a5))
              rotate_left
              · rw [if_neg c227] at H
                have c227b0 : decide (x21_3 ≤ (wrap64 (4 * a5))) = false := decide_eq_false c227
                clear c227
                have H' := Aside0.mk H
                clear H
                go_wp2
                repeat (go_quiet (fail); try go_wp2)
                go_roundg k3
                case measure => have := HJ7.out; have := HK2.out; have := HK3.out; omega
                case rel => exact ⟨(x19_3), (wrap64 (x20_2 + 1)), (x229000_3), (x229001_3), (x229002_3), (by first | rfl | (simp; done) | (simp [*]; done)), (by first | rfl | (simp; done) | (simp [*]; done)), H', ⟨by have := HJ7.out; have := HK2.out; have := HK3.out; omega⟩, ⟨by (with_reducible repeat (first | apply Kd.R_alloc | apply Kd.R_drewN | apply Kd.R_drew)); exact HO_15.out⟩, ⟨by (with_reducible repeat (first | refine blk_drewN ?_ _ | refine blk_drew ?_ | refine blk_alloc ?_ _)); exact BK220.out⟩, ⟨by (with_reducible repeat (first | refine blk_drewN ?_ _ | refine blk_drew ?_ | refine blk_alloc ?_ _)); exact BK221.out⟩, ⟨by (with_reducible repeat (first | refine blk_drewN ?_ _ | refine blk_drew ?_ | refine blk_alloc ?_ _)); exact BK222.out⟩, ⟨by (with_reducible repeat (first | refine blk_drewN ?_ _ | refine blk_drew ?_ | refine blk_alloc ?_ _)); exact BK228.out⟩, ⟨by repeat (first | (with_reducible first | exact HB.out | apply below_alloc | apply pw_below_drewN | apply below_drew1 | refine below_set ?_ GE220.out | refine below_set ?_ GE221.out | refine below_set ?_ GE222.out | refine below_set ?_ GE228.out) | exact HB.out)⟩⟩
              rw [if_pos c227] at H
              have c227b0 : decide (x21_3 ≤ (wrap64 (4 * a5))) = true := decide_eq_true c227
              clear c227
              replace H := Option.bind_eq_some_iff.mp H
              obtain ⟨t229, A2280, H⟩ := H
              replace H : ((impl_Apart.f k3 t229 t225).bind fun t232 => ((impl_BestMotion_1.f k3 x21_3).bind fun t233 => ((impl_BestMotion_1.f k3 x20_2).bind fun t234 => (if x19_3 = true then (if (wrap64 (t232 + (wrap64 (a6 * (wrap64 (t233 + t234)))))) < x229002_3 then (impl_BestMotion.l1 k3 a2 a3 a4 a5 a6 t225 true x20_2 (wrap64 (x21_3 + 1)) a0_0 a0_1 l0_2 x21_3 x20_2 (wrap64 (t232 + (wrap64 (a6 * (wrap64 (t233 + t234))))))) else (if (wrap64 (t232 + (wrap64 (a6 * (wrap64 (t233 + t234)))))) = x229002_3 then ((impl_BestMotion_2.f x21_3).bind fun t236 => ((impl_BestMotion_2.f x20_2).bind fun t237 => ((impl_BestMotion_2.f x229000_3).bind fun t238 => ((impl_BestMotion_2.f x229001_3).bind fun t239 => (if (wrap64 (t236 + t237)) < (wrap64 (t238 + t239)) then (impl_BestMotion.l1 k3 a2 a3 a4 a5 a6 t225 true x20_2 (wrap64 (x21_3 + 1)) a0_0 a0_1 l0_2 x21_3 x20_2 (wrap64 (t232 + (wrap64 (a6 * (wrap64 (t233 + t234))))))) else (impl_BestMotion.l1 k3 a2 a3 a4 a5 a6 t225 x19_3 x20_2 (wrap64 (x21_3 + 1)) a0_0 a0_1 l0_2 x229000_3 x229001_3 x229002_3)))))) else (impl_BestMotion.l1 k3 a2 a3 a4 a5 a6 t225 x19_3 x20_2 (wrap64 (x21_3 + 1)) a0_0 a0_1 l0_2 x229000_3 x229001_3 x229002_3))) else (impl_BestMotion.l1 k3 a2 a3 a4 a5 a6 t225 true x20_2 (wrap64 (x21_3 + 1)) a0_0 a0_1 l0_2 x21_3 x20_2 (wrap64 (t232 + (wrap64 (a6 * (wrap64 (t233 + t234))))))))))) = some (r1, r2, r3) := H
              have A228 := Aside0.mk A2280
              clear A2280
              replace H := Option.bind_eq_some_iff.mp H
              obtain ⟨t232, A2290, H⟩ := H
              replace H : ((impl_BestMotion_1.f k3 x21_3).bind fun t233 => ((impl_BestMotion_1.f k3 x20_2).bind fun t234 => (if x19_3 = true then (if (wrap64 (t232 + (wrap64 (a6 * (wrap64 (t233 + t234)))))) < x229002_3 then (impl_BestMotion.l1 k3 a2 a3 a4 a5 a6 t225 true x20_2 (wrap64 (x21_3 + 1)) a0_0 a0_1 l0_2 x21_3 x20_2 (wrap64 (t232 + (wrap64 (a6 * (wrap64 (t233 + t234))))))) else (if (wrap64 (t232 + (wrap64 (a6 * (wrap64 (t233 + t234)))))) = x229002_3 then ((impl_BestMotion_2.f x21_3).bind fun t236 => ((impl_BestMotion_2.f x20_2).bind fun t237 => ((impl_BestMotion_2.f x229000_3).bind fun t238 => ((impl_BestMotion_2.f x229001_3).bind fun t239 => (if (wrap64 (t236 + t237)) < (wrap64 (t238 + t239)) then (impl_BestMotion.l1 k3 a2 a3 a4 a5 a6 t225 true x20_2 (wrap64 (x21_3 + 1)) a0_0 a0_1 l0_2 x21_3 x20_2 (wrap64 (t232 + (wrap64 (a6 * (wrap64 (t233 + t234))))))) else (impl_BestMotion.l1 k3 a2 a3 a4 a5 a6 t225 x19_3 x20_2 (wrap64 (x21_3 + 1)) a0_0 a0_1 l0_2 x229000_3 x229001_3 x229002_3)))))) else (impl_BestMotion.l1 k3 a2 a3 a4 a5 a6 t225 x19_3 x20_2 (wrap64 (x21_3 + 1)) a0_0 a0_1 l0_2 x229000_3 x229001_3 x229002_3))) else (impl_BestMotion.l1 k3 a2 a3 a4 a5 a6 t225 true x20_2 (wrap64 (x21_3 + 1)) a0_0 a0_1 l0_2 x21_3 x20_2 (wrap64 (t232 + (wrap64 (a6 * (wrap64 (t233 + t234)))))))))) = some (r1, r2, r3) := H
              have A229 := Aside0.mk A2290
              clear A2290
              replace H := Option.bind_eq_some_iff.mp H
              obtain ⟨t233, A2300, H⟩ := H
              replace H : ((impl_BestMotion_1.f k3 x20_2).bind fun t234 => (if x19_3 = true then (if (wrap64 (t232 + (wrap64 (a6 * (wrap64 (t233 + t234)))))) < x229002_3 then (impl_BestMotion.l1 k3 a2 a3 a4 a5 a6 t225 true x20_2 (wrap64 (x21_3 + 1)) a0_0 a0_1 l0_2 x21_3 x20_2 (wrap64 (t232 + (wrap64 (a6 * (wrap64 (t233 + t234))))))) else (if (wrap64 (t232 + (wrap64 (a6 * (wrap64 (t233 + t234)))))) = x229002_3 then ((impl_BestMotion_2.f x21_3).bind fun t236 => ((impl_BestMotion_2.f x20_2).bind fun t237 => ((impl_BestMotion_2.f x229000_3).bind fun t238 => ((impl_BestMotion_2.f x229001_3).bind fun t239 => (if (wrap64 (t236 + t237)) < (wrap64 (t238 + t239)) then (impl_BestMotion.l1 k3 a2 a3 a4 a5 a6 t225 true x20_2 (wrap64 (x21_3 + 1)) a0_0 a0_1 l0_2 x21_3 x20_2 (wrap64 (t232 + (wrap64 (a6 * (wrap64 (t233 + t234))))))) else (impl_BestMotion.l1 k3 a2 a3 a4 a5 a6 t225 x19_3 x20_2 (wrap64 (x21_3 + 1)) a0_0 a0_1 l0_2 x229000_3 x229001_3 x229002_3)))))) else (impl_BestMotion.l1 k3 a2 a3 a4 a5 a6 t225 x19_3 x20_2 (wrap64 (x21_3 + 1)) a0_0 a0_1 l0_2 x229000_3 x229001_3 x229002_3))) else (impl_BestMotion.l1 k3 a2 a3 a4 a5 a6 t225 true x20_2 (wrap64 (x21_3 + 1)) a0_0 a0_1 l0_2 x21_3 x20_2 (wrap64 (t232 + (wrap64 (a6 * (wrap64 (t233 + t234))))))))) = some (r1, r2, r3) := H
              have A230 := Aside0.mk A2300
              clear A2300
              replace H := Option.bind_eq_some_iff.mp H
              obtain ⟨t234, A2310, H⟩ := H
              replace H : (if x19_3 = true then (if (wrap64 (t232 + (wrap64 (a6 * (wrap64 (t233 + t234)))))) < x229002_3 then (impl_BestMotion.l1 k3 a2 a3 a4 a5 a6 t225 true x20_2 (wrap64 (x21_3 + 1)) a0_0 a0_1 l0_2 x21_3 x20_2 (wrap64 (t232 + (wrap64 (a6 * (wrap64 (t233 + t234))))))) else (if (wrap64 (t232 + (wrap64 (a6 * (wrap64 (t233 + t234)))))) = x229002_3 then ((impl_BestMotion_2.f x21_3).bind fun t236 => ((impl_BestMotion_2.f x20_2).bind fun t237 => ((impl_BestMotion_2.f x229000_3).bind fun t238 => ((impl_BestMotion_2.f x229001_3).bind fun t239 => (if (wrap64 (t236 + t237)) < (wrap64 (t238 + t239)) then (impl_BestMotion.l1 k3 a2 a3 a4 a5 a6 t225 true x20_2 (wrap64 (x21_3 + 1)) a0_0 a0_1 l0_2 x21_3 x20_2 (wrap64 (t232 + (wrap64 (a6 * (wrap64 (t233 + t234))))))) else (impl_BestMotion.l1 k3 a2 a3 a4 a5 a6 t225 x19_3 x20_2 (wrap64 (x21_3 + 1)) a0_0 a0_1 l0_2 x229000_3 x229001_3 x229002_3)))))) else (impl_BestMotion.l1 k3 a2 a3 a4 a5 a6 t225 x19_3 x20_2 (wrap64 (x21_3 + 1)) a0_0 a0_1 l0_2 x229000_3 x229001_3 x229002_3))) else (impl_BestMotion.l1 k3 a2 a3 a4 a5 a6 t225 true x20_2 (wrap64 (x21_3 + 1)) a0_0 a0_1 l0_2 x21_3 x20_2 (wrap64 (t232 + (wrap64 (a6 * (wrap64 (t233 + t234)))))))) = some (r1, r2, r3) := H
              have A231 := Aside0.mk A2310
              clear A2310
              by_cases c232 : x19_3 = true
              subst c232
              have H1 : (if (wrap64 (t232 + (wrap64 (a6 * (wrap64 (t233 + t234)))))) < x229002_3 then (impl_BestMotion.l1 k3 a2 a3 a4 a5 a6 t225 true x20_2 (wrap64 (x21_3 + 1)) a0_0 a0_1 l0_2 x21_3 x20_2 (wrap64 (t232 + (wrap64 (a6 * (wrap64 (t233 + t234))))))) else (if (wrap64 (t232 + (wrap64 (a6 * (wrap64 (t233 + t234)))))) = x229002_3 then ((impl_BestMotion_2.f x21_3).bind fun t236 => ((impl_BestMotion_2.f x20_2).bind fun t237 => ((impl_BestMotion_2.f x229000_3).bind fun t238 => ((impl_BestMotion_2.f x229001_3).bind fun t239 => (if (wrap64 (t236 + t237)) < (wrap64 (t238 + t239)) then (impl_BestMotion.l1 k3 a2 a3 a4 a5 a6 t225 true x20_2 (wrap64 (x21_3 + 1)) a0_0 a0_1 l0_2 x21_3 x20_2 (wrap64 (t232 + (wrap64 (a6 * (wrap64 (t233 + t234))))))) else (impl_BestMotion.l1 k3 a2 a3 a4 a5 a6 t225 true x20_2 (wrap64 (x21_3 + 1)) a0_0 a0_1 l0_2 x229000_3 x229001_3 x229002_3)))))) else (impl_BestMotion.l1 k3 a2 a3 a4 a5 a6 t225 true x20_2 (wrap64 (x21_3 + 1)) a0_0 a0_1 l0_2 x229000_3 x229001_3 x229002_3))) = some (r1, r2, r3) := by rw [if_pos rfl] at H; exact H
              clear H
              have H := H1
              clear H1
              by_cases c233 : (wrap64 (t232 + (wrap64 (a6 * (wrap64 (t233 + t234)))))) < x229002_3
              rw [if_pos c233] at H
              have c233b0 : decide ((wrap64 (t232 + (wrap64 (a6 * (wrap64 (t233 + t234)))))) < x229002_3) = true := decide_eq_true c233
              clear c233
              have H' := Aside0.mk H
              clear H
              rotate_left
              · rw [if_neg c233] at H
                have c233b0 : decide ((wrap64 (t232 + (wrap64 (a6 * (wrap64 (t233 + t234)))))) < x229002_3) = false := decide_eq_false c233
                clear c233
                by_cases c251 : (wrap64 (t232 + (wrap64 (a6 * (wrap64 (t233 + t234)))))) = x229002_3
                rotate_left
                · rw [if_neg c251] at H
                  have c251b0 : ((wrap64 (t232 + (wrap64 (a6 * (wrap64 (t233 + t234)))))) == x229002_3) = false := beq_eq_false_iff_ne.mpr c251
                  have c251b1 : ((wrap64 (t232 + (wrap64 (a6 * (wrap64 (t233 + t234)))))) != x229002_3) = true := bne_iff_ne.mpr c251
                  have H' := Aside0.mk H
                  clear H
                  have hnb291 := NB220_221.out
                  have hnc291 := NB221_220.out
                  have hnb292 := NB220_222.out
                  have hnc292 := NB222_220.out
                  have hnb293 := NB220_228.out
                  have hnc293 := NB228_220.out
                  have hcz294_0 : wr.cell? ⟨gb220, 0, none⟩ = some (.int .i64 a0_0) := (blk_cell BK220.out 0).trans rfl
                  have hcz294_1 : wr.cell? ⟨gb220, 1, none⟩ = some (.int .i64 a0_1) := (blk_cell BK220.out 1).trans rfl
                  have hcz294_2 : wr.cell? ⟨gb220, 2, none⟩ = some (.slice A0_2 l0_2.length c0_2) := (blk_cell BK220.out 2).trans rfl
                  have hfz294_0 := blk_frozen BK220.out 0
                  have hfz294_1 := blk_frozen BK220.out 1
                  have hfz294_2 := blk_frozen BK220.out 2
                  iterate 3 (try go_wp2_with (first | (go_at_call 77; (with_reducible refine (impl_Moved.calls k3 a0_0 a0_1 _ _ l0_2 (wrap64 ((wrap64 (4 * a2)) + x21_3)) (wrap64 ((wrap64 (4 * a3)) + x20_2)) a4 t229 _ ?side1 ?side2 A228.out).mono ?_); (case side1 => repeat (first | exact (Kd.C_below HR0_2.out HB.out) | (with_reducible refine Kd.C_alloc ?_ _) | (with_reducible refine Kd.C_drewN ?_ _) | (with_reducible refine Kd.C_drew ?_))); (case side2 => exact HC0_2.out); rintro e w295 ⟨v230, rfl, ho0, hb⟩; have n0_ := Aside0.mk (Kd.R_elder' (by (with_reducible repeat (first | apply Kd.R_alloc | apply Kd.R_drewN | apply Kd.R_drew)); exact HO_15.out) (Kd.R_base ho0) hb); have n1_ := Aside0.mk (Kd.R_lower (Kd.R_new' ho0 (Kd.R_lt (by (with_reducible repeat (first | apply Kd.R_alloc | apply Kd.R_drewN | apply Kd.R_drew)); exact HO_15.out))) (below_size (by repeat (first | (with_reducible first | exact HB.out | apply below_alloc | apply pw_below_drewN | apply below_drew1 | refine below_set ?_ GE220.out | refine below_set ?_ GE221.out | refine below_set ?_ GE222.out | refine below_set ?_ GE228.out) | exact HB.out)))); have n2_ := Aside0.mk (blk_below (g := gb220) (o := .cells #[.int .i64 a0_0, .int .i64 a0_1, .slice A0_2 l0_2.length c0_2] 29 (0, 0)) (by (with_reducible repeat (first | refine blk_drewN ?_ _ | refine blk_drew ?_ | refine blk_alloc ?_ _)); exact BK220.out) hb); have n3_ := Aside0.mk (blk_below (g := gb221) (o := .cells #[.int .i64 a1_0, .int .i64 a1_1, .slice A1_2 l1_2.length c1_2] 29 (0, 0)) (by (with_reducible repeat (first | refine blk_drewN ?_ _ | refine blk_drew ?_ | refine blk_alloc ?_ _)); exact BK221.out) hb); have n4_ := Aside0.mk (blk_below (g := gb222) (o := .cells #[.int .i64 0, .int .i64 0, .int .i64 0] 27 (0, 0)) (by (with_reducible repeat (first | refine blk_drewN ?_ _ | refine blk_drew ?_ | refine blk_alloc ?_ _)); exact BK222.out) hb); have n5_ := Aside0.mk (blk_below (g := gb228) (o := .cells #[.int .i64 x229000_3, .int .i64 x229001_3, .int .i64 x229002_3] 27 (0, 0)) (by (with_reducible repeat (first | refine blk_drewN ?_ _ | refine blk_drew ?_ | refine blk_alloc ?_ _)); exact BK228.out) hb); have n6_ := Aside0.mk (below_step (by repeat (first | (with_reducible first | exact HB.out | apply below_alloc | apply pw_below_drewN | apply below_drew1 | refine below_set ?_ GE220.out | refine below_set ?_ GE221.out | refine below_set ?_ GE222.out | refine below_set ?_ GE228.out) | exact HB.out)) hb); clear HO_15; clear BK220; clear BK221; clear BK222; clear BK228; clear HB; have HO_15 := n0_; have HO231 := n1_; have BK220 := n2_; have BK221 := n3_; have BK222 := n4_; have BK228 := n5_; have HB := n6_; clear n0_ n1_ n2_ n3_ n4_ n5_ n6_; (try clear hb); (try clear hb2); (try clear hk); (try clear hi); (try clear ho0); obtain ⟨Ao296, co296, eo296⟩ := Kd.R_slice HO231.out; subst eo296; obtain ⟨Ao297, co297, eo297⟩ := Kd.R_slice HO_15.out; subst eo297) | (go_at_call 88; (with_reducible refine (impl_Apart.calls k3 _ _ t229 _ _ t225 t232 _ ?side1 ?side2 ?side3 ?side4 A229.out).mono ?_); (case side1 => repeat (first | exact (Kd.R_reads' HO231.out).2.2 | (with_reducible refine Kd.C_alloc ?_ _) | (with_reducible refine Kd.C_drewN ?_ _) | (with_reducible refine Kd.C_drew ?_))); (case side2 => exact (Kd.R_reads' HO231.out).2.1); (case side3 => repeat (first | exact (Kd.R_reads' HO_15.out).2.2 | (with_reducible refine Kd.C_alloc ?_ _) | (with_reducible refine Kd.C_drewN ?_ _) | (with_reducible refine Kd.C_drew ?_))); (case side4 => exact (Kd.R_reads' HO_15.out).2.1); rintro e w298 ⟨rfl, hb⟩; have n0_ := Aside0.mk (Kd.R_below (by (with_reducible repeat (first | apply Kd.R_alloc | apply Kd.R_drewN | apply Kd.R_drew)); exact HO_15.out) hb); have n1_ := Aside0.mk (Kd.R_below (by (with_reducible repeat (first | apply Kd.R_alloc | apply Kd.R_drewN | apply Kd.R_drew)); exact HO231.out) hb); have n2_ := Aside0.mk (blk_below (g := gb220) (o := .cells #[.int .i64 a0_0, .int .i64 a0_1, .slice A0_2 l0_2.length c0_2] 29 (0, 0)) (by (with_reducible repeat (first | refine blk_drewN ?_ _ | refine blk_drew ?_ | refine blk_alloc ?_ _)); exact BK220.out) hb); have n3_ := Aside0.mk (blk_below (g := gb221) (o := .cells #[.int .i64 a1_0, .int .i64 a1_1, .slice A1_2 l1_2.length c1_2] 29 (0, 0)) (by (with_reducible repeat (first | refine blk_drewN ?_ _ | refine blk_drew ?_ | refine blk_alloc ?_ _)); exact BK221.out) hb); have n4_ := Aside0.mk (blk_below (g := gb222) (o := .cells #[.int .i64 0, .int .i64 0, .int .i64 0] 27 (0, 0)) (by (with_reducible repeat (first | refine blk_drewN ?_ _ | refine blk_drew ?_ | refine blk_alloc ?_ _)); exact BK222.out) hb); have n5_ := Aside0.mk (blk_below (g := gb228) (o := .cells #[.int .i64 x229000_3, .int .i64 x229001_3, .int .i64 x229002_3] 27 (0, 0)) (by (with_reducible repeat (first | refine blk_drewN ?_ _ | refine blk_drew ?_ | refine blk_alloc ?_ _)); exact BK228.out) hb); have n6_ := Aside0.mk (below_step (by repeat (first | (with_reducible first | exact HB.out | apply below_alloc | apply pw_below_drewN | apply below_drew1 | refine below_set ?_ GE220.out | refine below_set ?_ GE221.out | refine below_set ?_ GE222.out | refine below_set ?_ GE228.out) | exact HB.out)) hb); clear HO_15; clear HO231; clear BK220; clear BK221; clear BK222; clear BK228; clear HB; have HO_15 := n0_; have HO231 := n1_; have BK220 := n2_; have BK221 := n3_; have BK222 := n4_; have BK228 := n5_; have HB := n6_; clear n0_ n1_ n2_ n3_ n4_ n5_ n6_; (try clear hb); (try clear hb2); (try clear hk); (try clear hi)) | (go_at_call 84; (with_reducible refine (impl_BestMotion_1.calls k3 x21_3 t233 _ A230.out).mono ?_); rintro e w' ⟨rfl, ⟨nd, rfl⟩⟩; (try first | exact ⟨rfl, _, World.drewN_drewN _ _ _⟩ | exact ⟨rfl, _, Eq.trans (World.drewN_drewN _ _ _) (congrArg (World.drewN _) (Nat.add_assoc _ _ _))⟩)) | (go_at_call 84; (with_reducible refine (impl_BestMotion_1.calls k3 x20_2 t234 _ A231.out).mono ?_); rintro e w' ⟨rfl, ⟨nd, rfl⟩⟩; (try first | exact ⟨rfl, _, World.drewN_drewN _ _ _⟩ | exact ⟨rfl, _, Eq.trans (World.drewN_drewN _ _ _) (congrArg (World.drewN _) (Nat.add_assoc _ _ _))⟩)) | ((with_reducible refine gate_dst (N := 22) rfl ?_); refine box_event ?hg (N := 22) ?hd (cs := #[.int .i64 0, .int .i64 0, .int .i64 0]) (t := 27) ?hr ?_; (case hd => rfl); (case hg => rfl); (case hr => first | (go_simp; done) | (go_simp; rfl)); intro gb235 hg w299 hbox hb; have n0_ := Aside0.mk (Kd.R_below (by (with_reducible repeat (first | apply Kd.R_alloc | apply Kd.R_drewN | apply Kd.R_drew)); exact HO_15.out) hb); have n1_ := Aside0.mk (Kd.R_below (by (with_reducible repeat (first | apply Kd.R_alloc | apply Kd.R_drewN | apply Kd.R_drew)); exact HO231.out) hb); have n2_ := Aside0.mk (blk_below (g := gb220) (o := .cells #[.int .i64 a0_0, .int .i64 a0_1, .slice A0_2 l0_2.length c0_2] 29 (0, 0)) (by (with_reducible repeat (first | refine blk_drewN ?_ _ | refine blk_drew ?_ | refine blk_alloc ?_ _)); exact BK220.out) hb); have n3_ := Aside0.mk (blk_below (g := gb221) (o := .cells #[.int .i64 a1_0, .int .i64 a1_1, .slice A1_2 l1_2.length c1_2] 29 (0, 0)) (by (with_reducible repeat (first | refine blk_drewN ?_ _ | refine blk_drew ?_ | refine blk_alloc ?_ _)); exact BK221.out) hb); have n4_ := Aside0.mk (blk_below (g := gb222) (o := .cells #[.int .i64 0, .int .i64 0, .int .i64 0] 27 (0, 0)) (by (with_reducible repeat (first | refine blk_drewN ?_ _ | refine blk_drew ?_ | refine blk_alloc ?_ _)); exact BK222.out) hb); have n5_ := Aside0.mk (blk_below (g := gb228) (o := .cells #[.int .i64 x229000_3, .int .i64 x229001_3, .int .i64 x229002_3] 27 (0, 0)) (by (with_reducible repeat (first | refine blk_drewN ?_ _ | refine blk_drew ?_ | refine blk_alloc ?_ _)); exact BK228.out) hb); have n6_ := Aside0.mk (below_step (by repeat (first | (with_reducible first | exact HB.out | apply below_alloc | apply pw_below_drewN | apply below_drew1 | refine below_set ?_ GE220.out | refine below_set ?_ GE221.out | refine below_set ?_ GE222.out | refine below_set ?_ GE228.out) | exact HB.out)) hb); have n7_ := Aside0.mk (hbox); have n8_ := Aside0.mk ((by rw [hg]; exact (below_size (by repeat (first | (with_reducible first | exact HB.out | apply below_alloc | apply pw_below_drewN | apply below_drew1 | refine below_set ?_ GE220.out | refine below_set ?_ GE221.out | refine below_set ?_ GE222.out | refine below_set ?_ GE228.out) | exact HB.out))) : w.heap.size ≤ gb235)); have n9_ := n8_; have n10_ := Aside0.mk ((by rw [hg]; exact Nat.ne_of_lt (blk_lt (g := gb220) (o := .cells #[.int .i64 a0_0, .int .i64 a0_1, .slice A0_2 l0_2.length c0_2] 29 (0, 0)) (by (with_reducible repeat (first | refine blk_drewN ?_ _ | refine blk_drew ?_ | refine blk_alloc ?_ _)); exact BK220.out)) : gb220 ≠ gb235)); have n11_ := Aside0.mk ((by rw [hg]; exact Nat.ne_of_gt (blk_lt (g := gb220) (o := .cells #[.int .i64 a0_0, .int .i64 a0_1, .slice A0_2 l0_2.length c0_2] 29 (0, 0)) (by (with_reducible repeat (first | refine blk_drewN ?_ _ | refine blk_drew ?_ | refine blk_alloc ?_ _)); exact BK220.out)) : gb235 ≠ gb220)); have n12_ := Aside0.mk ((by rw [hg]; exact Nat.ne_of_lt (blk_lt (g := gb221) (o := .cells #[.int .i64 a1_0, .int .i64 a1_1, .slice A1_2 l1_2.length c1_2] 29 (0, 0)) (by (with_reducible repeat (first | refine blk_drewN ?_ _ | refine blk_drew ?_ | refine blk_alloc ?_ _)); exact BK221.out)) : gb221 ≠ gb235)); have n13_ := Aside0.mk ((by rw [hg]; exact Nat.ne_of_gt (blk_lt (g := gb221) (o := .cells #[.int .i64 a1_0, .int .i64 a1_1, .slice A1_2 l1_2.length c1_2] 29 (0, 0)) (by (with_reducible repeat (first | refine blk_drewN ?_ _ | refine blk_drew ?_ | refine blk_alloc ?_ _)); exact BK221.out)) : gb235 ≠ gb221)); have n14_ := Aside0.mk ((by rw [hg]; exact Nat.ne_of_lt (blk_lt (g := gb222) (o := .cells #[.int .i64 0, .int .i64 0, .int .i64 0] 27 (0, 0)) (by (with_reducible repeat (first | refine blk_drewN ?_ _ | refine blk_drew ?_ | refine blk_alloc ?_ _)); exact BK222.out)) : gb222 ≠ gb235)); have n15_ := Aside0.mk ((by rw [hg]; exact Nat.ne_of_gt (blk_lt (g := gb222) (o := .cells #[.int .i64 0, .int .i64 0, .int .i64 0] 27 (0, 0)) (by (with_reducible repeat (first | refine blk_drewN ?_ _ | refine blk_drew ?_ | refine blk_alloc ?_ _)); exact BK222.out)) : gb235 ≠ gb222)); have n16_ := Aside0.mk ((by rw [hg]; exact Nat.ne_of_lt (blk_lt (g := gb228) (o := .cells #[.int .i64 x229000_3, .int .i64 x229001_3, .int .i64 x229002_3] 27 (0, 0)) (by (with_reducible repeat (first | refine blk_drewN ?_ _ | refine blk_drew ?_ | refine blk_alloc ?_ _)); exact BK228.out)) : gb228 ≠ gb235)); have n17_ := Aside0.mk ((by rw [hg]; exact Nat.ne_of_gt (blk_lt (g := gb228) (o := .cells #[.int .i64 x229000_3, .int .i64 x229001_3, .int .i64 x229002_3] 27 (0, 0)) (by (with_reducible repeat (first | refine blk_drewN ?_ _ | refine blk_drew ?_ | refine blk_alloc ?_ _)); exact BK228.out)) : gb235 ≠ gb228)); clear HO_15; clear HO231; clear BK220; clear BK221; clear BK222; clear BK228; clear HB; have HO_15 := n0_; have HO231 := n1_; have BK220 := n2_; have BK221 := n3_; have BK222 := n4_; have BK228 := n5_; have HB := n6_; have BK235 := n7_; have GW235 := n8_; have GE235 := n9_; have NB220_235 := n10_; have NB235_220 := n11_; have NB221_235 := n12_; have NB235_221 := n13_; have NB222_235 := n14_; have NB235_222 := n15_; have NB228_235 := n16_; have NB235_228 := n17_; clear n0_ n1_ n2_ n3_ n4_ n5_ n6_ n7_ n8_ n9_ n10_ n11_ n12_ n13_ n14_ n15_ n16_ n17_; clear hb hbox hg; have hnb300 := NB235_220.out; have hnc300 := NB220_235.out; have hnb301 := NB235_221.out; have hnc301 := NB221_235.out; have hnb302 := NB235_222.out; have hnc302 := NB222_235.out; have hnb303 := NB235_228.out; have hnc303 := NB228_235.out; have hcz304_0 : w299.cell? ⟨gb235, 0, none⟩ = some (.int .i64 0) := (blk_cell BK235.out 0).trans rfl; have hcz304_1 : w299.cell? ⟨gb235, 1, none⟩ = some (.int .i64 0) := (blk_cell BK235.out 1).trans rfl; have hcz304_2 : w299.cell? ⟨gb235, 2, none⟩ = some (.int .i64 0) := (blk_cell BK235.out 2).trans rfl; have hfz304_0 := blk_frozen BK235.out 0; have hfz304_1 := blk_frozen BK235.out 1; have hfz304_2 := blk_frozen BK235.out 2; have hnb305 := NB228_221.out; have hnc305 := NB221_228.out; have hnb306 := NB228_222.out; have hnc306 := NB222_228.out; have hcz307_0 : w299.cell? ⟨gb228, 0, none⟩ = some (.int .i64 x229000_3) := (blk_cell BK228.out 0).trans rfl; have hcz307_1 : w299.cell? ⟨gb228, 1, none⟩ = some (.int .i64 x229001_3) := (blk_cell BK228.out 1).trans rfl; have hcz307_2 : w299.cell? ⟨gb228, 2, none⟩ = some (.int .i64 x229002_3) := (blk_cell BK228.out 2).trans rfl; have hfz307_0 := blk_frozen BK228.out 0; have hfz307_1 := blk_frozen BK228.out 1; have hfz307_2 := blk_frozen BK228.out 2)); try go_quiet (first | (go_at_call 77; (with_reducible refine (impl_Moved.calls k3 a0_0 a0_1 _ _ l0_2 (wrap64 ((wrap64 (4 * a2)) + x21_3)) (wrap64 ((wrap64 (4 * a3)) + x20_2)) a4 t229 _ ?side1 ?side2 A228.out).mono ?_); (case side1 => repeat (first | exact (Kd.C_below HR0_2.out HB.out) | (with_reducible refine Kd.C_alloc ?_ _) | (with_reducible refine Kd.C_drewN ?_ _) | (with_reducible refine Kd.C_drew ?_))); (case side2 => exact HC0_2.out); rintro e w295 ⟨v230, rfl, ho0, hb⟩; have n0_ := Aside0.mk (Kd.R_elder' (by (with_reducible repeat (first | apply Kd.R_alloc | apply Kd.R_drewN | apply Kd.R_drew)); exact HO_15.out) (Kd.R_base ho0) hb); have n1_ := Aside0.mk (Kd.R_lower (Kd.R_new' ho0 (Kd.R_lt (by (with_reducible repeat (first | apply Kd.R_alloc | apply Kd.R_drewN | apply Kd.R_drew)); exact HO_15.out))) (below_size (by repeat (first | (with_reducible first | exact HB.out | apply below_alloc | apply pw_below_drewN | apply below_drew1 | refine below_set ?_ GE220.out | refine below_set ?_ GE221.out | refine below_set ?_ GE222.out | refine below_set ?_ GE228.out) | exact HB.out)))); have n2_ := Aside0.mk (blk_below (g := gb220) (o := .cells #[.int .i64 a0_0, .int .i64 a0_1, .slice A0_2 l0_2.length c0_2] 29 (0, 0)) (by (with_reducible repeat (first | refine blk_drewN ?_ _ | refine blk_drew ?_ | refine blk_alloc ?_ _)); exact BK220.out) hb); have n3_ := Aside0.mk (blk_below (g := gb221) (o := .cells #[.int .i64 a1_0, .int .i64 a1_1, .slice A1_2 l1_2.length c1_2] 29 (0, 0)) (by (with_reducible repeat (first | refine blk_drewN ?_ _ | refine blk_drew ?_ | refine blk_alloc ?_ _)); exact BK221.out) hb); have n4_ := Aside0.mk (blk_below (g := gb222) (o := .cells #[.int .i64 0, .int .i64 0, .int .i64 0] 27 (0, 0)) (by (with_reducible repeat (first | refine blk_drewN ?_ _ | refine blk_drew ?_ | refine blk_alloc ?_ _)); exact BK222.out) hb); have n5_ := Aside0.mk (blk_below (g := gb228) (o := .cells #[.int .i64 x229000_3, .int .i64 x229001_3, .int .i64 x229002_3] 27 (0, 0)) (by (with_reducible repeat (first | refine blk_drewN ?_ _ | refine blk_drew ?_ | refine blk_alloc ?_ _)); exact BK228.out) hb); have n6_ := Aside0.mk (below_step (by repeat (first | (with_reducible first | exact HB.out | apply below_alloc | apply pw_below_drewN | apply below_drew1 | refine below_set ?_ GE220.out | refine below_set ?_ GE221.out | refine below_set ?_ GE222.out | refine below_set ?_ GE228.out) | exact HB.out)) hb); clear HO_15; clear BK220; clear BK221; clear BK222; clear BK228; clear HB; have HO_15 := n0_; have HO231 := n1_; have BK220 := n2_; have BK221 := n3_; have BK222 := n4_; have BK228 := n5_; have HB := n6_; clear n0_ n1_ n2_ n3_ n4_ n5_ n6_; (try clear hb); (try clear hb2); (try clear hk); (try clear hi); (try clear ho0); obtain ⟨Ao296, co296, eo296⟩ := Kd.R_slice HO231.out; subst eo296; obtain ⟨Ao297, co297, eo297⟩ := Kd.R_slice HO_15.out; subst eo297) | (go_at_call 88; (with_reducible refine (impl_Apart.calls k3 _ _ t229 _ _ t225 t232 _ ?side1 ?side2 ?side3 ?side4 A229.out).mono ?_); (case side1 => repeat (first | exact (Kd.R_reads' HO231.out).2.2 | (with_reducible refine Kd.C_alloc ?_ _) | (with_reducible refine Kd.C_drewN ?_ _) | (with_reducible refine Kd.C_drew ?_))); (case side2 => exact (Kd.R_reads' HO231.out).2.1); (case side3 => repeat (first | exact (Kd.R_reads' HO_15.out).2.2 | (with_reducible refine Kd.C_alloc ?_ _) | (with_reducible refine Kd.C_drewN ?_ _) | (with_reducible refine Kd.C_drew ?_))); (case side4 => exact (Kd.R_reads' HO_15.out).2.1); rintro e w298 ⟨rfl, hb⟩; have n0_ := Aside0.mk (Kd.R_below (by (with_reducible repeat (first | apply Kd.R_alloc | apply Kd.R_drewN | apply Kd.R_drew)); exact HO_15.out) hb); have n1_ := Aside0.mk (Kd.R_below (by (with_reducible repeat (first | apply Kd.R_alloc | apply Kd.R_drewN | apply Kd.R_drew)); exact HO231.out) hb); have n2_ := Aside0.mk (blk_below (g := gb220) (o := .cells #[.int .i64 a0_0, .int .i64 a0_1, .slice A0_2 l0_2.length c0_2] 29 (0, 0)) (by (with_reducible repeat (first | refine blk_drewN ?_ _ | refine blk_drew ?_ | refine blk_alloc ?_ _)); exact BK220.out) hb); have n3_ := Aside0.mk (blk_below (g := gb221) (o := .cells #[.int .i64 a1_0, .int .i64 a1_1, .slice A1_2 l1_2.length c1_2] 29 (0, 0)) (by (with_reducible repeat (first | refine blk_drewN ?_ _ | refine blk_drew ?_ | refine blk_alloc ?_ _)); exact BK221.out) hb); have n4_ := Aside0.mk (blk_below (g := gb222) (o := .cells #[.int .i64 0, .int .i64 0, .int .i64 0] 27 (0, 0)) (by (with_reducible repeat (first | refine blk_drewN ?_ _ | refine blk_drew ?_ | refine blk_alloc ?_ _)); exact BK222.out) hb); have n5_ := Aside0.mk (blk_below (g := gb228) (o := .cells #[.int .i64 x229000_3, .int .i64 x229001_3, .int .i64 x229002_3] 27 (0, 0)) (by (with_reducible repeat (first | refine blk_drewN ?_ _ | refine blk_drew ?_ | refine blk_alloc ?_ _)); exact BK228.out) hb); have n6_ := Aside0.mk (below_step (by repeat (first | (with_reducible first | exact HB.out | apply below_alloc | apply pw_below_drewN | apply below_drew1 | refine below_set ?_ GE220.out | refine below_set ?_ GE221.out | refine below_set ?_ GE222.out | refine below_set ?_ GE228.out) | exact HB.out)) hb); clear HO_15; clear HO231; clear BK220; clear BK221; clear BK222; clear BK228; clear HB; have HO_15 := n0_; have HO231 := n1_; have BK220 := n2_; have BK221 := n3_; have BK222 := n4_; have BK228 := n5_; have HB := n6_; clear n0_ n1_ n2_ n3_ n4_ n5_ n6_; (try clear hb); (try clear hb2); (try clear hk); (try clear hi)) | (go_at_call 84; (with_reducible refine (impl_BestMotion_1.calls k3 x21_3 t233 _ A230.out).mono ?_); rintro e w' ⟨rfl, ⟨nd, rfl⟩⟩; (try first | exact ⟨rfl, _, World.drewN_drewN _ _ _⟩ | exact ⟨rfl, _, Eq.trans (World.drewN_drewN _ _ _) (congrArg (World.drewN _) (Nat.add_assoc _ _ _))⟩)) | (go_at_call 84; (with_reducible refine (impl_BestMotion_1.calls k3 x20_2 t234 _ A231.out).mono ?_); rintro e w' ⟨rfl, ⟨nd, rfl⟩⟩; (try first | exact ⟨rfl, _, World.drewN_drewN _ _ _⟩ | exact ⟨rfl, _, Eq.trans (World.drewN_drewN _ _ _) (congrArg (World.drewN _) (Nat.add_assoc _ _ _))⟩))))
                  go_roundg k3
                  case measure => have := HJ7.out; have := HK2.out; have := HK3.out; omega
                  case rel => exact ⟨(true), (wrap64 (x21_3 + 1)), (x229000_3), (x229001_3), (x229002_3), (by first | rfl | (simp; done) | (simp [*]; done)), (by first | rfl | (simp; done) | (simp [*]; done)), H', ⟨by have := HJ7.out; have := HK2.out; have := HK3.out; omega⟩, ⟨by (with_reducible repeat (first | apply Kd.R_alloc | apply Kd.R_drewN | apply Kd.R_drew)); exact Kd.R_mono (Kd.R_far (p := ⟨gb235, 2, none⟩) (Kd.R_far (p := ⟨gb235, 1, none⟩) (Kd.R_far (p := ⟨gb235, 0, none⟩) (Kd.R_types HO_15.out BK235.out (by decide)) (fun _ hk => hk.2) (.int .i64 x21_3)) (fun _ hk => hk.2) (.int .i64 x20_2)) (fun _ hk => hk.2) (.int .i64 (wrap64 (t232 + (wrap64 (a6 * (wrap64 (t233 + t234)))))))) (fun _ hk => trivial)⟩, ⟨by (with_reducible repeat (first | refine blk_drewN ?_ _ | refine blk_drew ?_ | refine blk_alloc ?_ _)); refine blk_far ?_ NB220_235.out _; (with_reducible repeat (first | refine blk_drewN ?_ _ | refine blk_drew ?_ | refine blk_alloc ?_ _)); refine blk_far ?_ NB220_235.out _; (with_reducible repeat (first | refine blk_drewN ?_ _ | refine blk_drew ?_ | refine blk_alloc ?_ _)); refine blk_far ?_ NB220_235.out _; (with_reducible repeat (first | refine blk_drewN ?_ _ | refine blk_drew ?_ | refine blk_alloc ?_ _)); exact BK220.out⟩, ⟨by (with_reducible repeat (first | refine blk_drewN ?_ _ | refine blk_drew ?_ | refine blk_alloc ?_ _)); refine blk_far ?_ NB221_235.out _; (with_reducible repeat (first | refine blk_drewN ?_ _ | refine blk_drew ?_ | refine blk_alloc ?_ _)); refine blk_far ?_ NB221_235.out _; (with_reducible repeat (first | refine blk_drewN ?_ _ | refine blk_drew ?_ | refine blk_alloc ?_ _)); refine blk_far ?_ NB221_235.out _; (with_reducible repeat (first | refine blk_drewN ?_ _ | refine blk_drew ?_ | refine blk_alloc ?_ _)); exact BK221.out⟩, ⟨by (with_reducible repeat (first | refine blk_drewN ?_ _ | refine blk_drew ?_ | refine blk_alloc ?_ _)); refine blk_far ?_ NB222_235.out _; (with_reducible repeat (first | refine blk_drewN ?_ _ | refine blk_drew ?_ | refine blk_alloc ?_ _)); refine blk_far ?_ NB222_235.out _; (with_reducible repeat (first | refine blk_drewN ?_ _ | refine blk_drew ?_ | refine blk_alloc ?_ _)); refine blk_far ?_ NB222_235.out _; (with_reducible repeat (first | refine blk_drewN ?_ _ | refine blk_drew ?_ | refine blk_alloc ?_ _)); exact BK222.out⟩, ⟨by (with_reducible repeat (first | refine blk_drewN ?_ _ | refine blk_drew ?_ | refine blk_alloc ?_ _)); refine blk_far ?_ NB228_235.out _; (with_reducible repeat (first | refine blk_drewN ?_ _ | refine blk_drew ?_ | refine blk_alloc ?_ _)); refine blk_far ?_ NB228_235.out _; (with_reducible repeat (first | refine blk_drewN ?_ _ | refine blk_drew ?_ | refine blk_alloc ?_ _)); refine blk_far ?_ NB228_235.out _; (with_reducible repeat (first | refine blk_drewN ?_ _ | refine blk_drew ?_ | refine blk_alloc ?_ _)); exact BK228.out⟩, ⟨by repeat (first | (with_reducible first | exact HB.out | apply below_alloc | apply pw_below_drewN | apply below_drew1 | refine below_set ?_ GE220.out | refine below_set ?_ GE221.out | refine below_set ?_ GE222.out | refine below_set ?_ GE228.out | refine below_set ?_ GE235.out) | exact HB.out)⟩⟩
                rw [if_pos c251] at H
                have c251b0 : ((wrap64 (t232 + (wrap64 (a6 * (wrap64 (t233 + t234)))))) == x229002_3) = true := beq_iff_eq.mpr c251
                have c251b1 : ((wrap64 (t232 + (wrap64 (a6 * (wrap64 (t233 + t234)))))) != x229002_3) = false := bne_eq_false_iff_eq.mpr c251
                clear c251
                replace H := Option.bind_eq_some_iff.mp H
                obtain ⟨t236, A2520, H⟩ := H
                replace H : ((impl_BestMotion_2.f x20_2).bind fun t237 => ((impl_BestMotion_2.f x229000_3).bind fun t238 => ((impl_BestMotion_2.f x229001_3).bind fun t239 => (if (wrap64 (t236 + t237)) < (wrap64 (t238 + t239)) then (impl_BestMotion.l1 k3 a2 a3 a4 a5 a6 t225 true x20_2 (wrap64 (x21_3 + 1)) a0_0 a0_1 l0_2 x21_3 x20_2 (wrap64 (t232 + (wrap64 (a6 * (wrap64 (t233 + t234))))))) else (impl_BestMotion.l1 k3 a2 a3 a4 a5 a6 t225 true x20_2 (wrap64 (x21_3 + 1)) a0_0 a0_1 l0_2 x229000_3 x229001_3 x229002_3))))) = some (r1, r2, r3) := H
                have A252 := Aside0.mk A2520
                clear A2520
                replace H := Option.bind_eq_some_iff.mp H
                obtain ⟨t237, A2530, H⟩ := H
                replace H : ((impl_BestMotion_2.f x229000_3).bind fun t238 => ((impl_BestMotion_2.f x229001_3).bind fun t239 => (if (wrap64 (t236 + t237)) < (wrap64 (t238 + t239)) then (impl_BestMotion.l1 k3 a2 a3 a4 a5 a6 t225 true x20_2 (wrap64 (x21_3 + 1)) a0_0 a0_1 l0_2 x21_3 x20_2 (wrap64 (t232 + (wrap64 (a6 * (wrap64 (t233 + t234))))))) else (impl_BestMotion.l1 k3 a2 a3 a4 a5 a6 t225 true x20_2 (wrap64 (x21_3 + 1)) a0_0 a0_1 l0_2 x229000_3 x229001_3 x229002_3)))) = some (r1, r2, r3) := H
                have A253 := Aside0.mk A2530
                clear A2530
                replace H := Option.bind_eq_some_iff.mp H
                obtain ⟨t238, A2540, H⟩ := H
                replace H : ((impl_BestMotion_2.f x229001_3).bind fun t239 => (if (wrap64 (t236 + t237)) < (wrap64 (t238 + t239)) then (impl_BestMotion.l1 k3 a2 a3 a4 a5 a6 t225 true x20_2 (wrap64 (x21_3 + 1)) a0_0 a0_1 l0_2 x21_3 x20_2 (wrap64 (t232 + (wrap64 (a6 * (wrap64 (t233 + t234))))))) else (impl_BestMotion.l1 k3 a2 a3 a4 a5 a6 t225 true x20_2 (wrap64 (x21_3 + 1)) a0_0 a0_1 l0_2 x229000_3 x229001_3 x229002_3))) = some (r1, r2, r3) := H
                have A254 := Aside0.mk A2540
                clear A2540
                replace H := Option.bind_eq_some_iff.mp H
                obtain ⟨t239, A2550, H⟩ := H
                replace H : (if (wrap64 (t236 + t237)) < (wrap64 (t238 + t239)) then (impl_BestMotion.l1 k3 a2 a3 a4 a5 a6 t225 true x20_2 (wrap64 (x21_3 + 1)) a0_0 a0_1 l0_2 x21_3 x20_2 (wrap64 (t232 + (wrap64 (a6 * (wrap64 (t233 + t234))))))) else (impl_BestMotion.l1 k3 a2 a3 a4 a5 a6 t225 true x20_2 (wrap64 (x21_3 + 1)) a0_0 a0_1 l0_2 x229000_3 x229001_3 x229002_3)) = some (r1, r2, r3) := H
                have A255 := Aside0.mk A2550
                clear A2550
                by_cases c256 : (wrap64 (t236 + t237)) < (wrap64 (t238 + t239))
                rotate_left
                · rw [if_neg c256] at H
                  have c256b0 : decide ((wrap64 (t236 + t237)) < (wrap64 (t238 + t239))) = false := decide_eq_false c256
                  clear c256
                  have H' := Aside0.mk H
                  clear H
                  have hnb274 := NB220_221.out
                  have hnc274 := NB221_220.out
                  have hnb275 := NB220_222.out
                  have hnc275 := NB222_220.out
                  have hnb276 := NB220_228.out
                  have hnc276 := NB228_220.out
                  have hcz277_0 : wr.cell? ⟨gb220, 0, none⟩ = some (.int .i64 a0_0) := (blk_cell BK220.out 0).trans rfl
                  have hcz277_1 : wr.cell? ⟨gb220, 1, none⟩ = some (.int .i64 a0_1) := (blk_cell BK220.out 1).trans rfl
                  have hcz277_2 : wr.cell? ⟨gb220, 2, none⟩ = some (.slice A0_2 l0_2.length c0_2) := (blk_cell BK220.out 2).trans rfl
                  have hfz277_0 := blk_frozen BK220.out 0
                  have hfz277_1 := blk_frozen BK220.out 1
                  have hfz277_2 := blk_frozen BK220.out 2
                  iterate 3 (try go_wp2_with (first | (go_at_call 77; (with_reducible refine (impl_Moved.calls k3 a0_0 a0_1 _ _ l0_2 (wrap64 ((wrap64 (4 * a2)) + x21_3)) (wrap64 ((wrap64 (4 * a3)) + x20_2)) a4 t229 _ ?side1 ?side2 A228.out).mono ?_); (case side1 => repeat (first | exact (Kd.C_below HR0_2.out HB.out) | (with_reducible refine Kd.C_alloc ?_ _) | (with_reducible refine Kd.C_drewN ?_ _) | (with_reducible refine Kd.C_drew ?_))); (case side2 => exact HC0_2.out); rintro e w278 ⟨v230, rfl, ho0, hb⟩; have n0_ := Aside0.mk (Kd.R_elder' (by (with_reducible repeat (first | apply Kd.R_alloc | apply Kd.R_drewN | apply Kd.R_drew)); exact HO_15.out) (Kd.R_base ho0) hb); have n1_ := Aside0.mk (Kd.R_lower (Kd.R_new' ho0 (Kd.R_lt (by (with_reducible repeat (first | apply Kd.R_alloc | apply Kd.R_drewN | apply Kd.R_drew)); exact HO_15.out))) (below_size (by repeat (first | (with_reducible first | exact HB.out | apply below_alloc | apply pw_below_drewN | apply below_drew1 | refine below_set ?_ GE220.out | refine below_set ?_ GE221.out | refine below_set ?_ GE222.out | refine below_set ?_ GE228.out) | exact HB.out)))); have n2_ := Aside0.mk (blk_below (g := gb220) (o := .cells #[.int .i64 a0_0, .int .i64 a0_1, .slice A0_2 l0_2.length c0_2] 29 (0, 0)) (by (with_reducible repeat (first | refine blk_drewN ?_ _ | refine blk_drew ?_ | refine blk_alloc ?_ _)); exact BK220.out) hb); have n3_ := Aside0.mk (blk_below (g := gb221) (o := .cells #[.int .i64 a1_0, .int .i64 a1_1, .slice A1_2 l1_2.length c1_2] 29 (0, 0)) (by (with_reducible repeat (first | refine blk_drewN ?_ _ | refine blk_drew ?_ | refine blk_alloc ?_ _)); exact BK221.out) hb); have n4_ := Aside0.mk (blk_below (g := gb222) (o := .cells #[.int .i64 0, .int .i64 0, .int .i64 0] 27 (0, 0)) (by (with_reducible repeat (first | refine blk_drewN ?_ _ | refine blk_drew ?_ | refine blk_alloc ?_ _)); exact BK222.out) hb); have n5_ := Aside0.mk (blk_below (g := gb228) (o := .cells #[.int .i64 x229000_3, .int .i64 x229001_3, .int .i64 x229002_3] 27 (0, 0)) (by (with_reducible repeat (first | refine blk_drewN ?_ _ | refine blk_drew ?_ | refine blk_alloc ?_ _)); exact BK228.out) hb); have n6_ := Aside0.mk (below_step (by repeat (first | (with_reducible first | exact HB.out | apply below_alloc | apply pw_below_drewN | apply below_drew1 | refine below_set ?_ GE220.out | refine below_set ?_ GE221.out | refine below_set ?_ GE222.out | refine below_set ?_ GE228.out) | exact HB.out)) hb); clear HO_15; clear BK220; clear BK221; clear BK222; clear BK228; clear HB; have HO_15 := n0_; have HO231 := n1_; have BK220 := n2_; have BK221 := n3_; have BK222 := n4_; have BK228 := n5_; have HB := n6_; clear n0_ n1_ n2_ n3_ n4_ n5_ n6_; (try clear hb); (try clear hb2); (try clear hk); (try clear hi); (try clear ho0); obtain ⟨Ao279, co279, eo279⟩ := Kd.R_slice HO231.out; subst eo279; obtain ⟨Ao280, co280, eo280⟩ := Kd.R_slice HO_15.out; subst eo280) | (go_at_call 88; (with_reducible refine (impl_Apart.calls k3 _ _ t229 _ _ t225 t232 _ ?side1 ?side2 ?side3 ?side4 A229.out).mono ?_); (case side1 => repeat (first | exact (Kd.R_reads' HO231.out).2.2 | (with_reducible refine Kd.C_alloc ?_ _) | (with_reducible refine Kd.C_drewN ?_ _) | (with_reducible refine Kd.C_drew ?_))); (case side2 => exact (Kd.R_reads' HO231.out).2.1); (case side3 => repeat (first | exact (Kd.R_reads' HO_15.out).2.2 | (with_reducible refine Kd.C_alloc ?_ _) | (with_reducible refine Kd.C_drewN ?_ _) | (with_reducible refine Kd.C_drew ?_))); (case side4 => exact (Kd.R_reads' HO_15.out).2.1); rintro e w281 ⟨rfl, hb⟩; have n0_ := Aside0.mk (Kd.R_below (by (with_reducible repeat (first | apply Kd.R_alloc | apply Kd.R_drewN | apply Kd.R_drew)); exact HO_15.out) hb); have n1_ := Aside0.mk (Kd.R_below (by (with_reducible repeat (first | apply Kd.R_alloc | apply Kd.R_drewN | apply Kd.R_drew)); exact HO231.out) hb); have n2_ := Aside0.mk (blk_below (g := gb220) (o := .cells #[.int .i64 a0_0, .int .i64 a0_1, .slice A0_2 l0_2.length c0_2] 29 (0, 0)) (by (with_reducible repeat (first | refine blk_drewN ?_ _ | refine blk_drew ?_ | refine blk_alloc ?_ _)); exact BK220.out) hb); have n3_ := Aside0.mk (blk_below (g := gb221) (o := .cells #[.int .i64 a1_0, .int .i64 a1_1, .slice A1_2 l1_2.length c1_2] 29 (0, 0)) (by (with_reducible repeat (first | refine blk_drewN ?_ _ | refine blk_drew ?_ | refine blk_alloc ?_ _)); exact BK221.out) hb); have n4_ := Aside0.mk (blk_below (g := gb222) (o := .cells #[.int .i64 0, .int .i64 0, .int .i64 0] 27 (0, 0)) (by (with_reducible repeat (first | refine blk_drewN ?_ _ | refine blk_drew ?_ | refine blk_alloc ?_ _)); exact BK222.out) hb); have n5_ := Aside0.mk (blk_below (g := gb228) (o := .cells #[.int .i64 x229000_3, .int .i64 x229001_3, .int .i64 x229002_3] 27 (0, 0)) (by (with_reducible repeat (first | refine blk_drewN ?_ _ | refine blk_drew ?_ | refine blk_alloc ?_ _)); exact BK228.out) hb); have n6_ := Aside0.mk (below_step (by repeat (first | (with_reducible first | exact HB.out | apply below_alloc | apply pw_below_drewN | apply below_drew1 | refine below_set ?_ GE220.out | refine below_set ?_ GE221.out | refine below_set ?_ GE222.out | refine below_set ?_ GE228.out) | exact HB.out)) hb); clear HO_15; clear HO231; clear BK220; clear BK221; clear BK222; clear BK228; clear HB; have HO_15 := n0_; have HO231 := n1_; have BK220 := n2_; have BK221 := n3_; have BK222 := n4_; have BK228 := n5_; have HB := n6_; clear n0_ n1_ n2_ n3_ n4_ n5_ n6_; (try clear hb); (try clear hb2); (try clear hk); (try clear hi)) | (go_at_call 84; (with_reducible refine (impl_BestMotion_1.calls k3 x21_3 t233 _ A230.out).mono ?_); rintro e w' ⟨rfl, ⟨nd, rfl⟩⟩; (try first | exact ⟨rfl, _, World.drewN_drewN _ _ _⟩ | exact ⟨rfl, _, Eq.trans (World.drewN_drewN _ _ _) (congrArg (World.drewN _) (Nat.add_assoc _ _ _))⟩)) | (go_at_call 84; (with_reducible refine (impl_BestMotion_1.calls k3 x20_2 t234 _ A231.out).mono ?_); rintro e w' ⟨rfl, ⟨nd, rfl⟩⟩; (try first | exact ⟨rfl, _, World.drewN_drewN _ _ _⟩ | exact ⟨rfl, _, Eq.trans (World.drewN_drewN _ _ _) (congrArg (World.drewN _) (Nat.add_assoc _ _ _))⟩)) | ((with_reducible refine gate_dst (N := 22) rfl ?_); refine box_event ?hg (N := 22) ?hd (cs := #[.int .i64 0, .int .i64 0, .int .i64 0]) (t := 27) ?hr ?_; (case hd => rfl); (case hg => rfl); (case hr => first | (go_simp; done) | (go_simp; rfl)); intro gb235 hg w282 hbox hb; have n0_ := Aside0.mk (Kd.R_below (by (with_reducible repeat (first | apply Kd.R_alloc | apply Kd.R_drewN | apply Kd.R_drew)); exact HO_15.out) hb); have n1_ := Aside0.mk (Kd.R_below (by (with_reducible repeat (first | apply Kd.R_alloc | apply Kd.R_drewN | apply Kd.R_drew)); exact HO231.out) hb); have n2_ := Aside0.mk (blk_below (g := gb220) (o := .cells #[.int .i64 a0_0, .int .i64 a0_1, .slice A0_2 l0_2.length c0_2] 29 (0, 0)) (by (with_reducible repeat (first | refine blk_drewN ?_ _ | refine blk_drew ?_ | refine blk_alloc ?_ _)); exact BK220.out) hb); have n3_ := Aside0.mk (blk_below (g := gb221) (o := .cells #[.int .i64 a1_0, .int .i64 a1_1, .slice A1_2 l1_2.length c1_2] 29 (0, 0)) (by (with_reducible repeat (first | refine blk_drewN ?_ _ | refine blk_drew ?_ | refine blk_alloc ?_ _)); exact BK221.out) hb); have n4_ := Aside0.mk (blk_below (g := gb222) (o := .cells #[.int .i64 0, .int .i64 0, .int .i64 0] 27 (0, 0)) (by (with_reducible repeat (first | refine blk_drewN ?_ _ | refine blk_drew ?_ | refine blk_alloc ?_ _)); exact BK222.out) hb); have n5_ := Aside0.mk (blk_below (g := gb228) (o := .cells #[.int .i64 x229000_3, .int .i64 x229001_3, .int .i64 x229002_3] 27 (0, 0)) (by (with_reducible repeat (first | refine blk_drewN ?_ _ | refine blk_drew ?_ | refine blk_alloc ?_ _)); exact BK228.out) hb); have n6_ := Aside0.mk (below_step (by repeat (first | (with_reducible first | exact HB.out | apply below_alloc | apply pw_below_drewN | apply below_drew1 | refine below_set ?_ GE220.out | refine below_set ?_ GE221.out | refine below_set ?_ GE222.out | refine below_set ?_ GE228.out) | exact HB.out)) hb); have n7_ := Aside0.mk (hbox); have n8_ := Aside0.mk ((by rw [hg]; exact (below_size (by repeat (first | (with_reducible first | exact HB.out | apply below_alloc | apply pw_below_drewN | apply below_drew1 | refine below_set ?_ GE220.out | refine below_set ?_ GE221.out | refine below_set ?_ GE222.out | refine below_set ?_ GE228.out) | exact HB.out))) : w.heap.size ≤ gb235)); have n9_ := n8_; have n10_ := Aside0.mk ((by rw [hg]; exact Nat.ne_of_lt (blk_lt (g := gb220) (o := .cells #[.int .i64 a0_0, .int .i64 a0_1, .slice A0_2 l0_2.length c0_2] 29 (0, 0)) (by (with_reducible repeat (first | refine blk_drewN ?_ _ | refine blk_drew ?_ | refine blk_alloc ?_ _)); exact BK220.out)) : gb220 ≠ gb235)); have n11_ := Aside0.mk ((by rw [hg]; exact Nat.ne_of_gt (blk_lt (g := gb220) (o := .cells #[.int .i64 a0_0, .int .i64 a0_1, .slice A0_2 l0_2.length c0_2] 29 (0, 0)) (by (with_reducible repeat (first | refine blk_drewN ?_ _ | refine blk_drew ?_ | refine blk_alloc ?_ _)); exact BK220.out)) : gb235 ≠ gb220)); have n12_ := Aside0.mk ((by rw [hg]; exact Nat.ne_of_lt (blk_lt (g := gb221) (o := .cells #[.int .i64 a1_0, .int .i64 a1_1, .slice A1_2 l1_2.length c1_2] 29 (0, 0)) (by (with_reducible repeat (first | refine blk_drewN ?_ _ | refine blk_drew ?_ | refine blk_alloc ?_ _)); exact BK221.out)) : gb221 ≠ gb235)); have n13_ := Aside0.mk ((by rw [hg]; exact Nat.ne_of_gt (blk_lt (g := gb221) (o := .cells #[.int .i64 a1_0, .int .i64 a1_1, .slice A1_2 l1_2.length c1_2] 29 (0, 0)) (by (with_reducible repeat (first | refine blk_drewN ?_ _ | refine blk_drew ?_ | refine blk_alloc ?_ _)); exact BK221.out)) : gb235 ≠ gb221)); have n14_ := Aside0.mk ((by rw [hg]; exact Nat.ne_of_lt (blk_lt (g := gb222) (o := .cells #[.int .i64 0, .int .i64 0, .int .i64 0] 27 (0, 0)) (by (with_reducible repeat (first | refine blk_drewN ?_ _ | refine blk_drew ?_ | refine blk_alloc ?_ _)); exact BK222.out)) : gb222 ≠ gb235)); have n15_ := Aside0.mk ((by rw [hg]; exact Nat.ne_of_gt (blk_lt (g := gb222) (o := .cells #[.int .i64 0, .int .i64 0, .int .i64 0] 27 (0, 0)) (by (with_reducible repeat (first | refine blk_drewN ?_ _ | refine blk_drew ?_ | refine blk_alloc ?_ _)); exact BK222.out)) : gb235 ≠ gb222)); have n16_ := Aside0.mk ((by rw [hg]; exact Nat.ne_of_lt (blk_lt (g := gb228) (o := .cells #[.int .i64 x229000_3, .int .i64 x229001_3, .int .i64 x229002_3] 27 (0, 0)) (by (with_reducible repeat (first | refine blk_drewN ?_ _ | refine blk_drew ?_ | refine blk_alloc ?_ _)); exact BK228.out)) : gb228 ≠ gb235)); have n17_ := Aside0.mk ((by rw [hg]; exact Nat.ne_of_gt (blk_lt (g := gb228) (o := .cells #[.int .i64 x229000_3, .int .i64 x229001_3, .int .i64 x229002_3] 27 (0, 0)) (by (with_reducible repeat (first | refine blk_drewN ?_ _ | refine blk_drew ?_ | refine blk_alloc ?_ _)); exact BK228.out)) : gb235 ≠ gb228)); clear HO_15; clear HO231; clear BK220; clear BK221; clear BK222; clear BK228; clear HB; have HO_15 := n0_; have HO231 := n1_; have BK220 := n2_; have BK221 := n3_; have BK222 := n4_; have BK228 := n5_; have HB := n6_; have BK235 := n7_; have GW235 := n8_; have GE235 := n9_; have NB220_235 := n10_; have NB235_220 := n11_; have NB221_235 := n12_; have NB235_221 := n13_; have NB222_235 := n14_; have NB235_222 := n15_; have NB228_235 := n16_; have NB235_228 := n17_; clear n0_ n1_ n2_ n3_ n4_ n5_ n6_ n7_ n8_ n9_ n10_ n11_ n12_ n13_ n14_ n15_ n16_ n17_; clear hb hbox hg; have hnb283 := NB235_220.out; have hnc283 := NB220_235.out; have hnb284 := NB235_221.out; have hnc284 := NB221_235.out; have hnb285 := NB235_222.out; have hnc285 := NB222_235.out; have hnb286 := NB235_228.out; have hnc286 := NB228_235.out; have hcz287_0 : w282.cell? ⟨gb235, 0, none⟩ = some (.int .i64 0) := (blk_cell BK235.out 0).trans rfl; have hcz287_1 : w282.cell? ⟨gb235, 1, none⟩ = some (.int .i64 0) := (blk_cell BK235.out 1).trans rfl; have hcz287_2 : w282.cell? ⟨gb235, 2, none⟩ = some (.int .i64 0) := (blk_cell BK235.out 2).trans rfl; have hfz287_0 := blk_frozen BK235.out 0; have hfz287_1 := blk_frozen BK235.out 1; have hfz287_2 := blk_frozen BK235.out 2; have hnb288 := NB228_221.out; have hnc288 := NB221_228.out; have hnb289 := NB228_222.out; have hnc289 := NB222_228.out; have hcz290_0 : w282.cell? ⟨gb228, 0, none⟩ = some (.int .i64 x229000_3) := (blk_cell BK228.out 0).trans rfl; have hcz290_1 : w282.cell? ⟨gb228, 1, none⟩ = some (.int .i64 x229001_3) := (blk_cell BK228.out 1).trans rfl; have hcz290_2 : w282.cell? ⟨gb228, 2, none⟩ = some (.int .i64 x229002_3) := (blk_cell BK228.out 2).trans rfl; have hfz290_0 := blk_frozen BK228.out 0; have hfz290_1 := blk_frozen BK228.out 1; have hfz290_2 := blk_frozen BK228.out 2) | (go_at_call 87; (with_reducible refine (impl_BestMotion_2.calls x21_3 t236 _ A252.out).mono ?_); rintro e w' ⟨rfl, ⟨nd, rfl⟩⟩; (try first | exact ⟨rfl, _, World.drewN_drewN _ _ _⟩ | exact ⟨rfl, _, Eq.trans (World.drewN_drewN _ _ _) (congrArg (World.drewN _) (Nat.add_assoc _ _ _))⟩)) | (go_at_call 87; (with_reducible refine (impl_BestMotion_2.calls x20_2 t237 _ A253.out).mono ?_); rintro e w' ⟨rfl, ⟨nd, rfl⟩⟩; (try first | exact ⟨rfl, _, World.drewN_drewN _ _ _⟩ | exact ⟨rfl, _, Eq.trans (World.drewN_drewN _ _ _) (congrArg (World.drewN _) (Nat.add_assoc _ _ _))⟩)) | (go_at_call 87; (with_reducible refine (impl_BestMotion_2.calls x229000_3 t238 _ A254.out).mono ?_); rintro e w' ⟨rfl, ⟨nd, rfl⟩⟩; (try first | exact ⟨rfl, _, World.drewN_drewN _ _ _⟩ | exact ⟨rfl, _, Eq.trans (World.drewN_drewN _ _ _) (congrArg (World.drewN _) (Nat.add_assoc _ _ _))⟩)) | (go_at_call 87; (with_reducible refine (impl_BestMotion_2.calls x229001_3 t239 _ A255.out).mono ?_); rintro e w' ⟨rfl, ⟨nd, rfl⟩⟩; (try first | exact ⟨rfl, _, World.drewN_drewN _ _ _⟩ | exact ⟨rfl, _, Eq.trans (World.drewN_drewN _ _ _) (congrArg (World.drewN _) (Nat.add_assoc _ _ _))⟩))); try go_quiet (first | (go_at_call 77; (with_reducible refine (impl_Moved.calls k3 a0_0 a0_1 _ _ l0_2 (wrap64 ((wrap64 (4 * a2)) + x21_3)) (wrap64 ((wrap64 (4 * a3)) + x20_2)) a4 t229 _ ?side1 ?side2 A228.out).mono ?_); (case side1 => repeat (first | exact (Kd.C_below HR0_2.out HB.out) | (with_reducible refine Kd.C_alloc ?_ _) | (with_reducible refine Kd.C_drewN ?_ _) | (with_reducible refine Kd.C_drew ?_))); (case side2 => exact HC0_2.out); rintro e w278 ⟨v230, rfl, ho0, hb⟩; have n0_ := Aside0.mk (Kd.R_elder' (by (with_reducible repeat (first | apply Kd.R_alloc | apply Kd.R_drewN | apply Kd.R_drew)); exact HO_15.out) (Kd.R_base ho0) hb); have n1_ := Aside0.mk (Kd.R_lower (Kd.R_new' ho0 (Kd.R_lt (by (with_reducible repeat (first | apply Kd.R_alloc | apply Kd.R_drewN | apply Kd.R_drew)); exact HO_15.out))) (below_size (by repeat (first | (with_reducible first | exact HB.out | apply below_alloc | apply pw_below_drewN | apply below_drew1 | refine below_set ?_ GE220.out | refine below_set ?_ GE221.out | refine below_set ?_ GE222.out | refine below_set ?_ GE228.out) | exact HB.out)))); have n2_ := Aside0.mk (blk_below (g := gb220) (o := .cells #[.int .i64 a0_0, .int .i64 a0_1, .slice A0_2 l0_2.length c0_2] 29 (0, 0)) (by (with_reducible repeat (first | refine blk_drewN ?_ _ | refine blk_drew ?_ | refine blk_alloc ?_ _)); exact BK220.out) hb); have n3_ := Aside0.mk (blk_below (g := gb221) (o := .cells #[.int .i64 a1_0, .int .i64 a1_1, .slice A1_2 l1_2.length c1_2] 29 (0, 0)) (by (with_reducible repeat (first | refine blk_drewN ?_ _ | refine blk_drew ?_ | refine blk_alloc ?_ _)); exact BK221.out) hb); have n4_ := Aside0.mk (blk_below (g := gb222) (o := .cells #[.int .i64 0, .int .i64 0, .int .i64 0] 27 (0, 0)) (by (with_reducible repeat (first | refine blk_drewN ?_ _ | refine blk_drew ?_ | refine blk_alloc ?_ _)); exact BK222.out) hb); have n5_ := Aside0.mk (blk_below (g := gb228) (o := .cells #[.int .i64 x229000_3, .int .i64 x229001_3, .int .i64 x229002_3] 27 (0, 0)) (by (with_reducible repeat (first | refine blk_drewN ?_ _ | refine blk_drew ?_ | refine blk_alloc ?_ _)); exact BK228.out) hb); have n6_ := Aside0.mk (below_step (by repeat (first | (with_reducible first | exact HB.out | apply below_alloc | apply pw_below_drewN | apply below_drew1 | refine below_set ?_ GE220.out | refine below_set ?_ GE221.out | refine below_set ?_ GE222.out | refine below_set ?_ GE228.out) | exact HB.out)) hb); clear HO_15; clear BK220; clear BK221; clear BK222; clear BK228; clear HB; have HO_15 := n0_; have HO231 := n1_; have BK220 := n2_; have BK221 := n3_; have BK222 := n4_; have BK228 := n5_; have HB := n6_; clear n0_ n1_ n2_ n3_ n4_ n5_ n6_; (try clear hb); (try clear hb2); (try clear hk); (try clear hi); (try clear ho0); obtain ⟨Ao279, co279, eo279⟩ := Kd.R_slice HO231.out; subst eo279; obtain ⟨Ao280, co280, eo280⟩ := Kd.R_slice HO_15.out; subst eo280) | (go_at_call 88; (with_reducible refine (impl_Apart.calls k3 _ _ t229 _ _ t225 t232 _ ?side1 ?side2 ?side3 ?side4 A229.out).mono ?_); (case side1 => repeat (first | exact (Kd.R_reads' HO231.out).2.2 | (with_reducible refine Kd.C_alloc ?_ _) | (with_reducible refine Kd.C_drewN ?_ _) | (with_reducible refine Kd.C_drew ?_))); (case side2 => exact (Kd.R_reads' HO231.out).2.1); (case side3 => repeat (first | exact (Kd.R_reads' HO_15.out).2.2 | (with_reducible refine Kd.C_alloc ?_ _) | (with_reducible refine Kd.C_drewN ?_ _) | (with_reducible refine Kd.C_drew ?_))); (case side4 => exact (Kd.R_reads' HO_15.out).2.1); rintro e w281 ⟨rfl, hb⟩; have n0_ := Aside0.mk (Kd.R_below (by (with_reducible repeat (first | apply Kd.R_alloc | apply Kd.R_drewN | apply Kd.R_drew)); exact HO_15.out) hb); have n1_ := Aside0.mk (Kd.R_below (by (with_reducible repeat (first | apply Kd.R_alloc | apply Kd.R_drewN | apply Kd.R_drew)); exact HO231.out) hb); have n2_ := Aside0.mk (blk_below (g := gb220) (o := .cells #[.int .i64 a0_0, .int .i64 a0_1, .slice A0_2 l0_2.length c0_2] 29 (0, 0)) (by (with_reducible repeat (first | refine blk_drewN ?_ _ | refine blk_drew ?_ | refine blk_alloc ?_ _)); exact BK220.out) hb); have n3_ := Aside0.mk (blk_below (g := gb221) (o := .cells #[.int .i64 a1_0, .int .i64 a1_1, .slice A1_2 l1_2.length c1_2] 29 (0, 0)) (by (with_reducible repeat (first | refine blk_drewN ?_ _ | refine blk_drew ?_ | refine blk_alloc ?_ _)); exact BK221.out) hb); have n4_ := Aside0.mk (blk_below (g := gb222) (o := .cells #[.int .i64 0, .int .i64 0, .int .i64 0] 27 (0, 0)) (by (with_reducible repeat (first | refine blk_drewN ?_ _ | refine blk_drew ?_ | refine blk_alloc ?_ _)); exact BK222.out) hb); have n5_ := Aside0.mk (blk_below (g := gb228) (o := .cells #[.int .i64 x229000_3, .int .i64 x229001_3, .int .i64 x229002_3] 27 (0, 0)) (by (with_reducible repeat (first | refine blk_drewN ?_ _ | refine blk_drew ?_ | refine blk_alloc ?_ _)); exact BK228.out) hb); have n6_ := Aside0.mk (below_step (by repeat (first | (with_reducible first | exact HB.out | apply below_alloc | apply pw_below_drewN | apply below_drew1 | refine below_set ?_ GE220.out | refine below_set ?_ GE221.out | refine below_set ?_ GE222.out | refine below_set ?_ GE228.out) | exact HB.out)) hb); clear HO_15; clear HO231; clear BK220; clear BK221; clear BK222; clear BK228; clear HB; have HO_15 := n0_; have HO231 := n1_; have BK220 := n2_; have BK221 := n3_; have BK222 := n4_; have BK228 := n5_; have HB := n6_; clear n0_ n1_ n2_ n3_ n4_ n5_ n6_; (try clear hb); (try clear hb2); (try clear hk); (try clear hi)) | (go_at_call 84; (with_reducible refine (impl_BestMotion_1.calls k3 x21_3 t233 _ A230.out).mono ?_); rintro e w' ⟨rfl, ⟨nd, rfl⟩⟩; (try first | exact ⟨rfl, _, World.drewN_drewN _ _ _⟩ | exact ⟨rfl, _, Eq.trans (World.drewN_drewN _ _ _) (congrArg (World.drewN _) (Nat.add_assoc _ _ _))⟩)) | (go_at_call 84; (with_reducible refine (impl_BestMotion_1.calls k3 x20_2 t234 _ A231.out).mono ?_); rintro e w' ⟨rfl, ⟨nd, rfl⟩⟩; (try first | exact ⟨rfl, _, World.drewN_drewN _ _ _⟩ | exact ⟨rfl, _, Eq.trans (World.drewN_drewN _ _ _) (congrArg (World.drewN _) (Nat.add_assoc _ _ _))⟩)) | (go_at_call 87; (with_reducible refine (impl_BestMotion_2.calls x21_3 t236 _ A252.out).mono ?_); rintro e w' ⟨rfl, ⟨nd, rfl⟩⟩; (try first | exact ⟨rfl, _, World.drewN_drewN _ _ _⟩ | exact ⟨rfl, _, Eq.trans (World.drewN_drewN _ _ _) (congrArg (World.drewN _) (Nat.add_assoc _ _ _))⟩)) | (go_at_call 87; (with_reducible refine (impl_BestMotion_2.calls x20_2 t237 _ A253.out).mono ?_); rintro e w' ⟨rfl, ⟨nd, rfl⟩⟩; (try first | exact ⟨rfl, _, World.drewN_drewN _ _ _⟩ | exact ⟨rfl, _, Eq.trans (World.drewN_drewN _ _ _) (congrArg (World.drewN _) (Nat.add_assoc _ _ _))⟩)) | (go_at_call 87; (with_reducible refine (impl_BestMotion_2.calls x229000_3 t238 _ A254.out).mono ?_); rintro e w' ⟨rfl, ⟨nd, rfl⟩⟩; (try first | exact ⟨rfl, _, World.drewN_drewN _ _ _⟩ | exact ⟨rfl, _, Eq.trans (World.drewN_drewN _ _ _) (congrArg (World.drewN _) (Nat.add_assoc _ _ _))⟩)) | (go_at_call 87; (with_reducible refine (impl_BestMotion_2.calls x229001_3 t239 _ A255.out).mono ?_); rintro e w' ⟨rfl, ⟨nd, rfl⟩⟩; (try first | exact ⟨rfl, _, World.drewN_drewN _ _ _⟩ | exact ⟨rfl, _, Eq.trans (World.drewN_drewN _ _ _) (congrArg (World.drewN _) (Nat.add_assoc _ _ _))⟩))))
                  go_roundg k3
                  case measure => have := HJ7.out; have := HK2.out; have := HK3.out; omega
                  case rel => exact ⟨(true), (wrap64 (x21_3 + 1)), (x229000_3), (x229001_3), (x229002_3), (by first | rfl | (simp; done) | (simp [*]; done)), (by first | rfl | (simp; done) | (simp [*]; done)), H', ⟨by have := HJ7.out; have := HK2.out; have := HK3.out; omega⟩, ⟨by (with_reducible repeat (first | apply Kd.R_alloc | apply Kd.R_drewN | apply Kd.R_drew)); exact Kd.R_mono (Kd.R_far (p := ⟨gb235, 2, none⟩) (Kd.R_far (p := ⟨gb235, 1, none⟩) (Kd.R_far (p := ⟨gb235, 0, none⟩) (Kd.R_types HO_15.out BK235.out (by decide)) (fun _ hk => hk.2) (.int .i64 x21_3)) (fun _ hk => hk.2) (.int .i64 x20_2)) (fun _ hk => hk.2) (.int .i64 (wrap64 (t232 + (wrap64 (a6 * (wrap64 (t233 + t234)))))))) (fun _ hk => trivial)⟩, ⟨by (with_reducible repeat (first | refine blk_drewN ?_ _ | refine blk_drew ?_ | refine blk_alloc ?_ _)); refine blk_far ?_ NB220_235.out _; (with_reducible repeat (first | refine blk_drewN ?_ _ | refine blk_drew ?_ | refine blk_alloc ?_ _)); refine blk_far ?_ NB220_235.out _; (with_reducible repeat (first | refine blk_drewN ?_ _ | refine blk_drew ?_ | refine blk_alloc ?_ _)); refine blk_far ?_ NB220_235.out _; (with_reducible repeat (first | refine blk_drewN ?_ _ | refine blk_drew ?_ | refine blk_alloc ?_ _)); exact BK220.out⟩, ⟨by (with_reducible repeat (first | refine blk_drewN ?_ _ | refine blk_drew ?_ | refine blk_alloc ?_ _)); refine blk_far ?_ NB221_235.out _; (with_reducible repeat (first | refine blk_drewN ?_ _ | refine blk_drew ?_ | refine blk_alloc ?_ _)); refine blk_far ?_ NB221_235.out _; (with_reducible repeat (first | refine blk_drewN ?_ _ | refine blk_drew ?_ | refine blk_alloc ?_ _)); refine blk_far ?_ NB221_235.out _; (with_reducible repeat (first | refine blk_drewN ?_ _ | refine blk_drew ?_ | refine blk_alloc ?_ _)); exact BK221.out⟩, ⟨by (with_reducible repeat (first | refine blk_drewN ?_ _ | refine blk_drew ?_ | refine blk_alloc ?_ _)); refine blk_far ?_ NB222_235.out _; (with_reducible repeat (first | refine blk_drewN ?_ _ | refine blk_drew ?_ | refine blk_alloc ?_ _)); refine blk_far ?_ NB222_235.out _; (with_reducible repeat (first | refine blk_drewN ?_ _ | refine blk_drew ?_ | refine blk_alloc ?_ _)); refine blk_far ?_ NB222_235.out _; (with_reducible repeat (first | refine blk_drewN ?_ _ | refine blk_drew ?_ | refine blk_alloc ?_ _)); exact BK222.out⟩, ⟨by (with_reducible repeat (first | refine blk_drewN ?_ _ | refine blk_drew ?_ | refine blk_alloc ?_ _)); refine blk_far ?_ NB228_235.out _; (with_reducible repeat (first | refine blk_drewN ?_ _ | refine blk_drew ?_ | refine blk_alloc ?_ _)); refine blk_far ?_ NB228_235.out _; (with_reducible repeat (first | refine blk_drewN ?_ _ | refine blk_drew ?_ | refine blk_alloc ?_ _)); refine blk_far ?_ NB228_235.out _; (with_reducible repeat (first | refine blk_drewN ?_ _ | refine blk_drew ?_ | refine blk_alloc ?_ _)); exact BK228.out⟩, ⟨by repeat (first | (with_reducible first | exact HB.out | apply below_alloc | apply pw_below_drewN | apply below_drew1 | refine below_set ?_ GE220.out | refine below_set ?_ GE221.out | refine below_set ?_ GE222.out | refine below_set ?_ GE228.out | refine below_set ?_ GE235.out) | exact HB.out)⟩⟩
                rw [if_pos c256] at H
                have c256b0 : decide ((wrap64 (t236 + t237)) < (wrap64 (t238 + t239))) = true := decide_eq_true c256
                clear c256
                have H' := Aside0.mk H
                clear H
                have hnb257 := NB220_221.out
                have hnc257 := NB221_220.out
                have hnb258 := NB220_222.out
                have hnc258 := NB222_220.out
                have hnb259 := NB220_228.out
                have hnc259 := NB228_220.out
                have hcz260_0 : wr.cell? ⟨gb220, 0, none⟩ = some (.int .i64 a0_0) := (blk_cell BK220.out 0).trans rfl
                have hcz260_1 : wr.cell? ⟨gb220, 1, none⟩ = some (.int .i64 a0_1) := (blk_cell BK220.out 1).trans rfl
                have hcz260_2 : wr.cell? ⟨gb220, 2, none⟩ = some (.slice A0_2 l0_2.length c0_2) := (blk_cell BK220.out 2).trans rfl
                have hfz260_0 := blk_frozen BK220.out 0
                have hfz260_1 := blk_frozen BK220.out 1
                have hfz260_2 := blk_frozen BK220.out 2
                iterate 3 (try go_wp2_with (first | (go_at_call 77; (with_reducible refine (impl_Moved.calls k3 a0_0 a0_1 _ _ l0_2 (wrap64 ((wrap64 (4 * a2)) + x21_3)) (wrap64 ((wrap64 (4 * a3)) + x20_2)) a4 t229 _ ?side1 ?side2 A228.out).mono ?_); (case side1 => repeat (first | exact (Kd.C_below HR0_2.out HB.out) | (with_reducible refine Kd.C_alloc ?_ _) | (with_reducible refine Kd.C_drewN ?_ _) | (with_reducible refine Kd.C_drew ?_))); (case side2 => exact HC0_2.out); rintro e w261 ⟨v230, rfl, ho0, hb⟩; have n0_ := Aside0.mk (Kd.R_elder' (by (with_reducible repeat (first | apply Kd.R_alloc | apply Kd.R_drewN | apply Kd.R_drew)); exact HO_15.out) (Kd.R_base ho0) hb); have n1_ := Aside0.mk (Kd.R_lower (Kd.R_new' ho0 (Kd.R_lt (by (with_reducible repeat (first | apply Kd.R_alloc | apply Kd.R_drewN | apply Kd.R_drew)); exact HO_15.out))) (below_size (by repeat (first | (with_reducible first | exact HB.out | apply below_alloc | apply pw_below_drewN | apply below_drew1 | refine below_set ?_ GE220.out | refine below_set ?_ GE221.out | refine below_set ?_ GE222.out | refine below_set ?_ GE228.out) | exact HB.out)))); have n2_ := Aside0.mk (blk_below (g := gb220) (o := .cells #[.int .i64 a0_0, .int .i64 a0_1, .slice A0_2 l0_2.length c0_2] 29 (0, 0)) (by (with_reducible repeat (first | refine blk_drewN ?_ _ | refine blk_drew ?_ | refine blk_alloc ?_ _)); exact BK220.out) hb); have n3_ := Aside0.mk (blk_below (g := gb221) (o := .cells #[.int .i64 a1_0, .int .i64 a1_1, .slice A1_2 l1_2.length c1_2] 29 (0, 0)) (by (with_reducible repeat (first | refine blk_drewN ?_ _ | refine blk_drew ?_ | refine blk_alloc ?_ _)); exact BK221.out) hb); have n4_ := Aside0.mk (blk_below (g := gb222) (o := .cells #[.int .i64 0, .int .i64 0, .int .i64 0] 27 (0, 0)) (by (with_reducible repeat (first | refine blk_drewN ?_ _ | refine blk_drew ?_ | refine blk_alloc ?_ _)); exact BK222.out) hb); have n5_ := Aside0.mk (blk_below (g := gb228) (o := .cells #[.int .i64 x229000_3, .int .i64 x229001_3, .int .i64 x229002_3] 27 (0, 0)) (by (with_reducible repeat (first | refine blk_drewN ?_ _ | refine blk_drew ?_ | refine blk_alloc ?_ _)); exact BK228.out) hb); have n6_ := Aside0.mk (below_step (by repeat (first | (with_reducible first | exact HB.out | apply below_alloc | apply pw_below_drewN | apply below_drew1 | refine below_set ?_ GE220.out | refine below_set ?_ GE221.out | refine below_set ?_ GE222.out | refine below_set ?_ GE228.out) | exact HB.out)) hb); clear HO_15; clear BK220; clear BK221; clear BK222; clear BK228; clear HB; have HO_15 := n0_; have HO231 := n1_; have BK220 := n2_; have BK221 := n3_; have BK222 := n4_; have BK228 := n5_; have HB := n6_; clear n0_ n1_ n2_ n3_ n4_ n5_ n6_; (try clear hb); (try clear hb2); (try clear hk); (try clear hi); (try clear ho0); obtain ⟨Ao262, co262, eo262⟩ := Kd.R_slice HO231.out; subst eo262; obtain ⟨Ao263, co263, eo263⟩ := Kd.R_slice HO_15.out; subst eo263) | (go_at_call 88; (with_reducible refine (impl_Apart.calls k3 _ _ t229 _ _ t225 t232 _ ?side1 ?side2 ?side3 ?side4 A229.out).mono ?_); (case side1 => repeat (first | exact (Kd.R_reads' HO231.out).2.2 | (with_reducible refine Kd.C_alloc ?_ _) | (with_reducible refine Kd.C_drewN ?_ _) | (with_reducible refine Kd.C_drew ?_))); (case side2 => exact (Kd.R_reads' HO231.out).2.1); (case side3 => repeat (first | exact (Kd.R_reads' HO_15.out).2.2 | (with_reducible refine Kd.C_alloc ?_ _) | (with_reducible refine Kd.C_drewN ?_ _) | (with_reducible refine Kd.C_drew ?_))); (case side4 => exact (Kd.R_reads' HO_15.out).2.1); rintro e w264 ⟨rfl, hb⟩; have n0_ := Aside0.mk (Kd.R_below (by (with_reducible repeat (first | apply Kd.R_alloc | apply Kd.R_drewN | apply Kd.R_drew)); exact HO_15.out) hb); have n1_ := Aside0.mk (Kd.R_below (by (with_reducible repeat (first | apply Kd.R_alloc | apply Kd.R_drewN | apply Kd.R_drew)); exact HO231.out) hb); have n2_ := Aside0.mk (blk_below (g := gb220) (o := .cells #[.int .i64 a0_0, .int .i64 a0_1, .slice A0_2 l0_2.length c0_2] 29 (0, 0)) (by (with_reducible repeat (first | refine blk_drewN ?_ _ | refine blk_drew ?_ | refine blk_alloc ?_ _)); exact BK220.out) hb); have n3_ := Aside0.mk (blk_below (g := gb221) (o := .cells #[.int .i64 a1_0, .int .i64 a1_1, .slice A1_2 l1_2.length c1_2] 29 (0, 0)) (by (with_reducible repeat (first | refine blk_drewN ?_ _ | refine blk_drew ?_ | refine blk_alloc ?_ _)); exact BK221.out) hb); have n4_ := Aside0.mk (blk_below (g := gb222) (o := .cells #[.int .i64 0, .int .i64 0, .int .i64 0] 27 (0, 0)) (by (with_reducible repeat (first | refine blk_drewN ?_ _ | refine blk_drew ?_ | refine blk_alloc ?_ _)); exact BK222.out) hb); have n5_ := Aside0.mk (blk_below (g := gb228) (o := .cells #[.int .i64 x229000_3, .int .i64 x229001_3, .int .i64 x229002_3] 27 (0, 0)) (by (with_reducible repeat (first | refine blk_drewN ?_ _ | refine blk_drew ?_ | refine blk_alloc ?_ _)); exact BK228.out) hb); have n6_ := Aside0.mk (below_step (by repeat (first | (with_reducible first | exact HB.out | apply below_alloc | apply pw_below_drewN | apply below_drew1 | refine below_set ?_ GE220.out | refine below_set ?_ GE221.out | refine below_set ?_ GE222.out | refine below_set ?_ GE228.out) | exact HB.out)) hb); clear HO_15; clear HO231; clear BK220; clear BK221; clear BK222; clear BK228; clear HB; have HO_15 := n0_; have HO231 := n1_; have BK220 := n2_; have BK221 := n3_; have BK222 := n4_; have BK228 := n5_; have HB := n6_; clear n0_ n1_ n2_ n3_ n4_ n5_ n6_; (try clear hb); (try clear hb2); (try clear hk); (try clear hi)) | (go_at_call 84; (with_reducible refine (impl_BestMotion_1.calls k3 x21_3 t233 _ A230.out).mono ?_); rintro e w' ⟨rfl, ⟨nd, rfl⟩⟩; (try first | exact ⟨rfl, _, World.drewN_drewN _ _ _⟩ | exact ⟨rfl, _, Eq.trans (World.drewN_drewN _ _ _) (congrArg (World.drewN _) (Nat.add_assoc _ _ _))⟩)) | (go_at_call 84; (with_reducible refine (impl_BestMotion_1.calls k3 x20_2 t234 _ A231.out).mono ?_); rintro e w' ⟨rfl, ⟨nd, rfl⟩⟩; (try first | exact ⟨rfl, _, World.drewN_drewN _ _ _⟩ | exact ⟨rfl, _, Eq.trans (World.drewN_drewN _ _ _) (congrArg (World.drewN _) (Nat.add_assoc _ _ _))⟩)) | ((with_reducible refine gate_dst (N := 22) rfl ?_); refine box_event ?hg (N := 22) ?hd (cs := #[.int .i64 0, .int .i64 0, .int .i64 0]) (t := 27) ?hr ?_; (case hd => rfl); (case hg => rfl); (case hr => first | (go_simp; done) | (go_simp; rfl)); intro gb235 hg w265 hbox hb; have n0_ := Aside0.mk (Kd.R_below (by (with_reducible repeat (first | apply Kd.R_alloc | apply Kd.R_drewN | apply Kd.R_drew)); exact HO_15.out) hb); have n1_ := Aside0.mk (Kd.R_below (by (with_reducible repeat (first | apply Kd.R_alloc | apply Kd.R_drewN | apply Kd.R_drew)); exact HO231.out) hb); have n2_ := Aside0.mk (blk_below (g := gb220) (o := .cells #[.int .i64 a0_0, .int .i64 a0_1, .slice A0_2 l0_2.length c0_2] 29 (0, 0)) (by (with_reducible repeat (first | refine blk_drewN ?_ _ | refine blk_drew ?_ | refine blk_alloc ?_ _)); exact BK220.out) hb); have n3_ := Aside0.mk (blk_below (g := gb221) (o := .cells #[.int .i64 a1_0, .int .i64 a1_1, .slice A1_2 l1_2.length c1_2] 29 (0, 0)) (by (with_reducible repeat (first | refine blk_drewN ?_ _ | refine blk_drew ?_ | refine blk_alloc ?_ _)); exact BK221.out) hb); have n4_ := Aside0.mk (blk_below (g := gb222) (o := .cells #[.int .i64 0, .int .i64 0, .int .i64 0] 27 (0, 0)) (by (with_reducible repeat (first | refine blk_drewN ?_ _ | refine blk_drew ?_ | refine blk_alloc ?_ _)); exact BK222.out) hb); have n5_ := Aside0.mk (blk_below (g := gb228) (o := .cells #[.int .i64 x229000_3, .int .i64 x229001_3, .int .i64 x229002_3] 27 (0, 0)) (by (with_reducible repeat (first | refine blk_drewN ?_ _ | refine blk_drew ?_ | refine blk_alloc ?_ _)); exact BK228.out) hb); have n6_ := Aside0.mk (below_step (by repeat (first | (with_reducible first | exact HB.out | apply below_alloc | apply pw_below_drewN | apply below_drew1 | refine below_set ?_ GE220.out | refine below_set ?_ GE221.out | refine below_set ?_ GE222.out | refine below_set ?_ GE228.out) | exact HB.out)) hb); have n7_ := Aside0.mk (hbox); have n8_ := Aside0.mk ((by rw [hg]; exact (below_size (by repeat (first | (with_reducible first | exact HB.out | apply below_alloc | apply pw_below_drewN | apply below_drew1 | refine below_set ?_ GE220.out | refine below_set ?_ GE221.out | refine below_set ?_ GE222.out | refine below_set ?_ GE228.out) | exact HB.out))) : w.heap.size ≤ gb235)); have n9_ := n8_; have n10_ := Aside0.mk ((by rw [hg]; exact Nat.ne_of_lt (blk_lt (g := gb220) (o := .cells #[.int .i64 a0_0, .int .i64 a0_1, .slice A0_2 l0_2.length c0_2] 29 (0, 0)) (by (with_reducible repeat (first | refine blk_drewN ?_ _ | refine blk_drew ?_ | refine blk_alloc ?_ _)); exact BK220.out)) : gb220 ≠ gb235)); have n11_ := Aside0.mk ((by rw [hg]; exact Nat.ne_of_gt (blk_lt (g := gb220) (o := .cells #[.int .i64 a0_0, .int .i64 a0_1, .slice A0_2 l0_2.length c0_2] 29 (0, 0)) (by (with_reducible repeat (first | refine blk_drewN ?_ _ | refine blk_drew ?_ | refine blk_alloc ?_ _)); exact BK220.out)) : gb235 ≠ gb220)); have n12_ := Aside0.mk ((by rw [hg]; exact Nat.ne_of_lt (blk_lt (g := gb221) (o := .cells #[.int .i64 a1_0, .int .i64 a1_1, .slice A1_2 l1_2.length c1_2] 29 (0, 0)) (by (with_reducible repeat (first | refine blk_drewN ?_ _ | refine blk_drew ?_ | refine blk_alloc ?_ _)); exact BK221.out)) : gb221 ≠ gb235)); have n13_ := Aside0.mk ((by rw [hg]; exact Nat.ne_of_gt (blk_lt (g := gb221) (o := .cells #[.int .i64 a1_0, .int .i64 a1_1, .slice A1_2 l1_2.length c1_2] 29 (0, 0)) (by (with_reducible repeat (first | refine blk_drewN ?_ _ | refine blk_drew ?_ | refine blk_alloc ?_ _)); exact BK221.out)) : gb235 ≠ gb221)); have n14_ := Aside0.mk ((by rw [hg]; exact Nat.ne_of_lt (blk_lt (g := gb222) (o := .cells #[.int .i64 0, .int .i64 0, .int .i64 0] 27 (0, 0)) (by (with_reducible repeat (first | refine blk_drewN ?_ _ | refine blk_drew ?_ | refine blk_alloc ?_ _)); exact BK222.out)) : gb222 ≠ gb235)); have n15_ := Aside0.mk ((by rw [hg]; exact Nat.ne_of_gt (blk_lt (g := gb222) (o := .cells #[.int .i64 0, .int .i64 0, .int .i64 0] 27 (0, 0)) (by (with_reducible repeat (first | refine blk_drewN ?_ _ | refine blk_drew ?_ | refine blk_alloc ?_ _)); exact BK222.out)) : gb235 ≠ gb222)); have n16_ := Aside0.mk ((by rw [hg]; exact Nat.ne_of_lt (blk_lt (g := gb228) (o := .cells #[.int .i64 x229000_3, .int .i64 x229001_3, .int .i64 x229002_3] 27 (0, 0)) (by (with_reducible repeat (first | refine blk_drewN ?_ _ | refine blk_drew ?_ | refine blk_alloc ?_ _)); exact BK228.out)) : gb228 ≠ gb235)); have n17_ := Aside0.mk ((by rw [hg]; exact Nat.ne_of_gt (blk_lt (g := gb228) (o := .cells #[.int .i64 x229000_3, .int .i64 x229001_3, .int .i64 x229002_3] 27 (0, 0)) (by (with_reducible repeat (first | refine blk_drewN ?_ _ | refine blk_drew ?_ | refine blk_alloc ?_ _)); exact BK228.out)) : gb235 ≠ gb228)); clear HO_15; clear HO231; clear BK220; clear BK221; clear BK222; clear BK228; clear HB; have HO_15 := n0_; have HO231 := n1_; have BK220 := n2_; have BK221 := n3_; have BK222 := n4_; have BK228 := n5_; have HB := n6_; have BK235 := n7_; have GW235 := n8_; have GE235 := n9_; have NB220_235 := n10_; have NB235_220 := n11_; have NB221_235 := n12_; have NB235_221 := n13_; have NB222_235 := n14_; have NB235_222 := n15_; have NB228_235 := n16_; have NB235_228 := n17_; clear n0_ n1_ n2_ n3_ n4_ n5_ n6_ n7_ n8_ n9_ n10_ n11_ n12_ n13_ n14_ n15_ n16_ n17_; clear hb hbox hg; have hnb266 := NB235_220.out; have hnc266 := NB220_235.out; have hnb267 := NB235_221.out; have hnc267 := NB221_235.out; have hnb268 := NB235_222.out; have hnc268 := NB222_235.out; have hnb269 := NB235_228.out; have hnc269 := NB228_235.out; have hcz270_0 : w265.cell? ⟨gb235, 0, none⟩ = some (.int .i64 0) := (blk_cell BK235.out 0).trans rfl; have hcz270_1 : w265.cell? ⟨gb235, 1, none⟩ = some (.int .i64 0) := (blk_cell BK235.out 1).trans rfl; have hcz270_2 : w265.cell? ⟨gb235, 2, none⟩ = some (.int .i64 0) := (blk_cell BK235.out 2).trans rfl; have hfz270_0 := blk_frozen BK235.out 0; have hfz270_1 := blk_frozen BK235.out 1; have hfz270_2 := blk_frozen BK235.out 2; have hnb271 := NB228_221.out; have hnc271 := NB221_228.out; have hnb272 := NB228_222.out; have hnc272 := NB222_228.out; have hcz273_0 : w265.cell? ⟨gb228, 0, none⟩ = some (.int .i64 x229000_3) := (blk_cell BK228.out 0).trans rfl; have hcz273_1 : w265.cell? ⟨gb228, 1, none⟩ = some (.int .i64 x229001_3) := (blk_cell BK228.out 1).trans rfl; have hcz273_2 : w265.cell? ⟨gb228, 2, none⟩ = some (.int .i64 x229002_3) := (blk_cell BK228.out 2).trans rfl; have hfz273_0 := blk_frozen BK228.out 0; have hfz273_1 := blk_frozen BK228.out 1; have hfz273_2 := blk_frozen BK228.out 2) | (go_at_call 87; (with_reducible refine (impl_BestMotion_2.calls x21_3 t236 _ A252.out).mono ?_); rintro e w' ⟨rfl, ⟨nd, rfl⟩⟩; (try first | exact ⟨rfl, _, World.drewN_drewN _ _ _⟩ | exact ⟨rfl, _, Eq.trans (World.drewN_drewN _ _ _) (congrArg (World.drewN _) (Nat.add_assoc _ _ _))⟩)) | (go_at_call 87; (with_reducible refine (impl_BestMotion_2.calls x20_2 t237 _ A253.out).mono ?_); rintro e w' ⟨rfl, ⟨nd, rfl⟩⟩; (try first | exact ⟨rfl, _, World.drewN_drewN _ _ _⟩ | exact ⟨rfl, _, Eq.trans (World.drewN_drewN _ _ _) (congrArg (World.drewN _) (Nat.add_assoc _ _ _))⟩)) | (go_at_call 87; (with_reducible refine (impl_BestMotion_2.calls x229000_3 t238 _ A254.out).mono ?_); rintro e w' ⟨rfl, ⟨nd, rfl⟩⟩; (try first | exact ⟨rfl, _, World.drewN_drewN _ _ _⟩ | exact ⟨rfl, _, Eq.trans (World.drewN_drewN _ _ _) (congrArg (World.drewN _) (Nat.add_assoc _ _ _))⟩)) | (go_at_call 87; (with_reducible refine (impl_BestMotion_2.calls x229001_3 t239 _ A255.out).mono ?_); rintro e w' ⟨rfl, ⟨nd, rfl⟩⟩; (try first | exact ⟨rfl, _, World.drewN_drewN _ _ _⟩ | exact ⟨rfl, _, Eq.trans (World.drewN_drewN _ _ _) (congrArg (World.drewN _) (Nat.add_assoc _ _ _))⟩))); try go_quiet (first | (go_at_call 77; (with_reducible refine (impl_Moved.calls k3 a0_0 a0_1 _ _ l0_2 (wrap64 ((wrap64 (4 * a2)) + x21_3)) (wrap64 ((wrap64 (4 * a3)) + x20_2)) a4 t229 _ ?side1 ?side2 A228.out).mono ?_); (case side1 => repeat (first | exact (Kd.C_below HR0_2.out HB.out) | (with_reducible refine Kd.C_alloc ?_ _) | (with_reducible refine Kd.C_drewN ?_ _) | (with_reducible refine Kd.C_drew ?_))); (case side2 => exact HC0_2.out); rintro e w261 ⟨v230, rfl, ho0, hb⟩; have n0_ := Aside0.mk (Kd.R_elder' (by (with_reducible repeat (first | apply Kd.R_alloc | apply Kd.R_drewN | apply Kd.R_drew)); exact HO_15.out) (Kd.R_base ho0) hb); have n1_ := Aside0.mk (Kd.R_lower (Kd.R_new' ho0 (Kd.R_lt (by (with_reducible repeat (first | apply Kd.R_alloc | apply Kd.R_drewN | apply Kd.R_drew)); exact HO_15.out))) (below_size (by repeat (first | (with_reducible first | exact HB.out | apply below_alloc | apply pw_below_drewN | apply below_drew1 | refine below_set ?_ GE220.out | refine below_set ?_ GE221.out | refine below_set ?_ GE222.out | refine below_set ?_ GE228.out) | exact HB.out)))); have n2_ := Aside0.mk (blk_below (g := gb220) (o := .cells #[.int .i64 a0_0, .int .i64 a0_1, .slice A0_2 l0_2.length c0_2] 29 (0, 0)) (by (with_reducible repeat (first | refine blk_drewN ?_ _ | refine blk_drew ?_ | refine blk_alloc ?_ _)); exact BK220.out) hb); have n3_ := Aside0.mk (blk_below (g := gb221) (o := .cells #[.int .i64 a1_0, .int .i64 a1_1, .slice A1_2 l1_2.length c1_2] 29 (0, 0)) (by (with_reducible repeat (first | refine blk_drewN ?_ _ | refine blk_drew ?_ | refine blk_alloc ?_ _)); exact BK221.out) hb); have n4_ := Aside0.mk (blk_below (g := gb222) (o := .cells #[.int .i64 0, .int .i64 0, .int .i64 0] 27 (0, 0)) (by (with_reducible repeat (first | refine blk_drewN ?_ _ | refine blk_drew ?_ | refine blk_alloc ?_ _)); exact BK222.out) hb); have n5_ := Aside0.mk (blk_below (g := gb228) (o := .cells #[.int .i64 x229000_3, .int .i64 x229001_3, .int .i64 x229002_3] 27 (0, 0)) (by (with_reducible repeat (first | refine blk_drewN ?_ _ | refine blk_drew ?_ | refine blk_alloc ?_ _)); exact BK228.out) hb); have n6_ := Aside0.mk (below_step (by repeat (first | (with_reducible first | exact HB.out | apply below_alloc | apply pw_below_drewN | apply below_drew1 | refine below_set ?_ GE220.out | refine below_set ?_ GE221.out | refine below_set ?_ GE222.out | refine below_set ?_ GE228.out) | exact HB.out)) hb); clear HO_15; clear BK220; clear BK221; clear BK222; clear BK228; clear HB; have HO_15 := n0_; have HO231 := n1_; have BK220 := n2_; have BK221 := n3_; have BK222 := n4_; have BK228 := n5_; have HB := n6_; clear n0_ n1_ n2_ n3_ n4_ n5_ n6_; (try clear hb); (try clear hb2); (try clear hk); (try clear hi); (try clear ho0); obtain ⟨Ao262, co262, eo262⟩ := Kd.R_slice HO231.out; subst eo262; obtain ⟨Ao263, co263, eo263⟩ := Kd.R_slice HO_15.out; subst eo263) | (go_at_call 88; (with_reducible refine (impl_Apart.calls k3 _ _ t229 _ _ t225 t232 _ ?side1 ?side2 ?side3 ?side4 A229.out).mono ?_); (case side1 => repeat (first | exact (Kd.R_reads' HO231.out).2.2 | (with_reducible refine Kd.C_alloc ?_ _) | (with_reducible refine Kd.C_drewN ?_ _) | (with_reducible refine Kd.C_drew ?_))); (case side2 => exact (Kd.R_reads' HO231.out).2.1); (case side3 => repeat (first | exact (Kd.R_reads' HO_15.out).2.2 | (with_reducible refine Kd.C_alloc ?_ _) | (with_reducible refine Kd.C_drewN ?_ _) | (with_reducible refine Kd.C_drew ?_))); (case side4 => exact (Kd.R_reads' HO_15.out).2.1); rintro e w264 ⟨rfl, hb⟩; have n0_ := Aside0.mk (Kd.R_below (by (with_reducible repeat (first | apply Kd.R_alloc | apply Kd.R_drewN | apply Kd.R_drew)); exact HO_15.out) hb); have n1_ := Aside0.mk (Kd.R_below (by (with_reducible repeat (first | apply Kd.R_alloc | apply Kd.R_drewN | apply Kd.R_drew)); exact HO231.out) hb); have n2_ := Aside0.mk (blk_below (g := gb220) (o := .cells #[.int .i64 a0_0, .int .i64 a0_1, .slice A0_2 l0_2.length c0_2] 29 (0, 0)) (by (with_reducible repeat (first | refine blk_drewN ?_ _ | refine blk_drew ?_ | refine blk_alloc ?_ _)); exact BK220.out) hb); have n3_ := Aside0.mk (blk_below (g := gb221) (o := .cells #[.int .i64 a1_0, .int .i64 a1_1, .slice A1_2 l1_2.length c1_2] 29 (0, 0)) (by (with_reducible repeat (first | refine blk_drewN ?_ _ | refine blk_drew ?_ | refine blk_alloc ?_ _)); exact BK221.out) hb); have n4_ := Aside0.mk (blk_below (g := gb222) (o := .cells #[.int .i64 0, .int .i64 0, .int .i64 0] 27 (0, 0)) (by (with_reducible repeat (first | refine blk_drewN ?_ _ | refine blk_drew ?_ | refine blk_alloc ?_ _)); exact BK222.out) hb); have n5_ := Aside0.mk (blk_below (g := gb228) (o := .cells #[.int .i64 x229000_3, .int .i64 x229001_3, .int .i64 x229002_3] 27 (0, 0)) (by (with_reducible repeat (first | refine blk_drewN ?_ _ | refine blk_drew ?_ | refine blk_alloc ?_ _)); exact BK228.out) hb); have n6_ := Aside0.mk (below_step (by repeat (first | (with_reducible first | exact HB.out | apply below_alloc | apply pw_below_drewN | apply below_drew1 | refine below_set ?_ GE220.out | refine below_set ?_ GE221.out | refine below_set ?_ GE222.out | refine below_set ?_ GE228.out) | exact HB.out)) hb); clear HO_15; clear HO231; clear BK220; clear BK221; clear BK222; clear BK228; clear HB; have HO_15 := n0_; have HO231 := n1_; have BK220 := n2_; have BK221 := n3_; have BK222 := n4_; have BK228 := n5_; have HB := n6_; clear n0_ n1_ n2_ n3_ n4_ n5_ n6_; (try clear hb); (try clear hb2); (try clear hk); (try clear hi)) | (go_at_call 84; (with_reducible refine (impl_BestMotion_1.calls k3 x21_3 t233 _ A230.out).mono ?_); rintro e w' ⟨rfl, ⟨nd, rfl⟩⟩; (try first | exact ⟨rfl, _, World.drewN_drewN _ _ _⟩ | exact ⟨rfl, _, Eq.trans (World.drewN_drewN _ _ _) (congrArg (World.drewN _) (Nat.add_assoc _ _ _))⟩)) | (go_at_call 84; (with_reducible refine (impl_BestMotion_1.calls k3 x20_2 t234 _ A231.out).mono ?_); rintro e w' ⟨rfl, ⟨nd, rfl⟩⟩; (try first | exact ⟨rfl, _, World.drewN_drewN _ _ _⟩ | exact ⟨rfl, _, Eq.trans (World.drewN_drewN _ _ _) (congrArg (World.drewN _) (Nat.add_assoc _ _ _))⟩)) | (go_at_call 87; (with_reducible refine (impl_BestMotion_2.calls x21_3 t236 _ A252.out).mono ?_); rintro e w' ⟨rfl, ⟨nd, rfl⟩⟩; (try first | exact ⟨rfl, _, World.drewN_drewN _ _ _⟩ | exact ⟨rfl, _, Eq.trans (World.drewN_drewN _ _ _) (congrArg (World.drewN _) (Nat.add_assoc _ _ _))⟩)) | (go_at_call 87; (with_reducible refine (impl_BestMotion_2.calls x20_2 t237 _ A253.out).mono ?_); rintro e w' ⟨rfl, ⟨nd, rfl⟩⟩; (try first | exact ⟨rfl, _, World.drewN_drewN _ _ _⟩ | exact ⟨rfl, _, Eq.trans (World.drewN_drewN _ _ _) (congrArg (World.drewN _) (Nat.add_assoc _ _ _))⟩)) | (go_at_call 87; (with_reducible refine (impl_BestMotion_2.calls x229000_3 t238 _ A254.out).mono ?_); rintro e w' ⟨rfl, ⟨nd, rfl⟩⟩; (try first | exact ⟨rfl, _, World.drewN_drewN _ _ _⟩ | exact ⟨rfl, _, Eq.trans (World.drewN_drewN _ _ _) (congrArg (World.drewN _) (Nat.add_assoc _ _ _))⟩)) | (go_at_call 87; (with_reducible refine (impl_BestMotion_2.calls x229001_3 t239 _ A255.out).mono ?_); rintro e w' ⟨rfl, ⟨nd, rfl⟩⟩; (try first | exact ⟨rfl, _, World.drewN_drewN _ _ _⟩ | exact ⟨rfl, _, Eq.trans (World.drewN_drewN _ _ _) (congrArg (World.drewN _) (Nat.add_assoc _ _ _))⟩))))
                go_roundg k3
                case measure => have := HJ7.out; have := HK2.out; have := HK3.out; omega
                case rel => exact ⟨(true), (wrap64 (x21_3 + 1)), (x21_3), (x20_2), (wrap64 (t232 + (wrap64 (a6 * (wrap64 (t233 + t234)))))), (by first | rfl | (simp; done) | (simp [*]; done)), (by first | rfl | (simp; done) | (simp [*]; done)), H', ⟨by have := HJ7.out; have := HK2.out; have := HK3.out; omega⟩, ⟨by (with_reducible repeat (first | apply Kd.R_alloc | apply Kd.R_drewN | apply Kd.R_drew)); exact Kd.R_mono (Kd.R_far (p := ⟨gb228, 2, none⟩) (Kd.R_far (p := ⟨gb228, 1, none⟩) (Kd.R_far (p := ⟨gb228, 0, none⟩) (Kd.R_far (p := ⟨gb235, 2, none⟩) (Kd.R_far (p := ⟨gb235, 1, none⟩) (Kd.R_far (p := ⟨gb235, 0, none⟩) (Kd.R_types (Kd.R_types HO_15.out BK235.out (by decide)) BK228.out (by decide)) (fun _ hk => hk.1.2) (.int .i64 x21_3)) (fun _ hk => hk.1.2) (.int .i64 x20_2)) (fun _ hk => hk.1.2) (.int .i64 (wrap64 (t232 + (wrap64 (a6 * (wrap64 (t233 + t234)))))))) (fun _ hk => hk.2) (.int .i64 x21_3)) (fun _ hk => hk.2) (.int .i64 x20_2)) (fun _ hk => hk.2) (.int .i64 (wrap64 (t232 + (wrap64 (a6 * (wrap64 (t233 + t234)))))))) (fun _ hk => trivial)⟩, ⟨by (with_reducible repeat (first | refine blk_drewN ?_ _ | refine blk_drew ?_ | refine blk_alloc ?_ _)); refine blk_far ?_ NB220_228.out _; (with_reducible repeat (first | refine blk_drewN ?_ _ | refine blk_drew ?_ | refine blk_alloc ?_ _)); refine blk_far ?_ NB220_228.out _; (with_reducible repeat (first | refine blk_drewN ?_ _ | refine blk_drew ?_ | refine blk_alloc ?_ _)); refine blk_far ?_ NB220_228.out _; (with_reducible repeat (first | refine blk_drewN ?_ _ | refine blk_drew ?_ | refine blk_alloc ?_ _)); refine blk_far ?_ NB220_235.out _; (with_reducible repeat (first | refine blk_drewN ?_ _ | refine blk_drew ?_ | refine blk_alloc ?_ _)); refine blk_far ?_ NB220_235.out _; (with_reducible repeat (first | refine blk_drewN ?_ _ | refine blk_drew ?_ | refine blk_alloc ?_ _)); refine blk_far ?_ NB220_235.out _; (with_reducible repeat (first | refine blk_drewN ?_ _ | refine blk_drew ?_ | refine blk_alloc ?_ _)); exact BK220.out⟩, ⟨by (with_reducible repeat (first | refine blk_drewN ?_ _ | refine blk_drew ?_ | refine blk_alloc ?_ _)); refine blk_far ?_ NB221_228.out _; (with_reducible repeat (first | refine blk_drewN ?_ _ | refine blk_drew ?_ | refine blk_alloc ?_ _)); refine blk_far ?_ NB221_228.out _; (with_reducible repeat (first | refine blk_drewN ?_ _ | refine blk_drew ?_ | refine blk_alloc ?_ _)); refine blk_far ?_ NB221_228.out _; (with_reducible repeat (first | refine blk_drewN ?_ _ | refine blk_drew ?_ | refine blk_alloc ?_ _)); refine blk_far ?_ NB221_235.out _; (with_reducible repeat (first | refine blk_drewN ?_ _ | refine blk_drew ?_ | refine blk_alloc ?_ _)); refine blk_far ?_ NB221_235.out _; (with_reducible repeat (first | refine blk_drewN ?_ _ | refine blk_drew ?_ | refine blk_alloc ?_ _)); refine blk_far ?_ NB221_235.out _; (with_reducible repeat (first | refine blk_drewN ?_ _ | refine blk_drew ?_ | refine blk_alloc ?_ _)); exact BK221.out⟩, ⟨by (with_reducible repeat (first | refine blk_drewN ?_ _ | refine blk_drew ?_ | refine blk_alloc ?_ _)); refine blk_far ?_ NB222_228.out _; (with_reducible repeat (first | refine blk_drewN ?_ _ | refine blk_drew ?_ | refine blk_alloc ?_ _)); refine blk_far ?_ NB222_228.out _; (with_reducible repeat (first | refine blk_drewN ?_ _ | refine blk_drew ?_ | refine blk_alloc ?_ _)); refine blk_far ?_ NB222_228.out _; (with_reducible repeat (first | refine blk_drewN ?_ _ | refine blk_drew ?_ | refine blk_alloc ?_ _)); refine blk_far ?_ NB222_235.out _; (with_reducible repeat (first | refine blk_drewN ?_ _ | refine blk_drew ?_ | refine blk_alloc ?_ _)); refine blk_far ?_ NB222_235.out _; (with_reducible repeat (first | refine blk_drewN ?_ _ | refine blk_drew ?_ | refine blk_alloc ?_ _)); refine blk_far ?_ NB222_235.out _; (with_reducible repeat (first | refine blk_drewN ?_ _ | refine blk_drew ?_ | refine blk_alloc ?_ _)); exact BK222.out⟩, ⟨by (with_reducible repeat (first | refine blk_drewN ?_ _ | refine blk_drew ?_ | refine blk_alloc ?_ _)); refine blk_put (cs := #[.int .i64 x21_3, .int .i64 x20_2, .int .i64 x229002_3]) ?_ 2 _ rfl; (with_reducible repeat (first | refine blk_drewN ?_ _ | refine blk_drew ?_ | refine blk_alloc ?_ _)); refine blk_put (cs := #[.int .i64 x21_3, .int .i64 x229001_3, .int .i64 x229002_3]) ?_ 1 _ rfl; (with_reducible repeat (first | refine blk_drewN ?_ _ | refine blk_drew ?_ | refine blk_alloc ?_ _)); refine blk_put (cs := #[.int .i64 x229000_3, .int .i64 x229001_3, .int .i64 x229002_3]) ?_ 0 _ rfl; (with_reducible repeat (first | refine blk_drewN ?_ _ | refine blk_drew ?_ | refine blk_alloc ?_ _)); refine blk_far ?_ NB228_235.out _; (with_reducible repeat (first | refine blk_drewN ?_ _ | refine blk_drew ?_ | refine blk_alloc ?_ _)); refine blk_far ?_ NB228_235.out _; (with_reducible repeat (first | refine blk_drewN ?_ _ | refine blk_drew ?_ | refine blk_alloc ?_ _)); refine blk_far ?_ NB228_235.out _; (with_reducible repeat (first | refine blk_drewN ?_ _ | refine blk_drew ?_ | refine blk_alloc ?_ _)); exact BK228.out⟩, ⟨by repeat (first | (with_reducible first | exact HB.out | apply below_alloc | apply pw_below_drewN | apply below_drew1 | refine below_set ?_ GE220.out | refine below_set ?_ GE221.out | refine below_set ?_ GE222.out | refine below_set ?_ GE228.out | refine below_set ?_ GE235.out) | exact HB.out)⟩⟩
              replace c232 := Bool.eq_false_iff.mpr c232
              subst c232
              have H1 : (impl_BestMotion.l1 k3 a2 a3 a4 a5 a6 t225 true x20_2 (wrap64 (x21_3 + 1)) a0_0 a0_1 l0_2 x21_3 x20_2 (wrap64 (t232 + (wrap64 (a6 * (wrap64 (t233 + t234))))))) = some (r1, r2, r3) := by rw [if_neg (show ¬ (false = true) by decide)] at H; exact H
              clear H
              have H := H1
              clear H1
              have H' := Aside0.mk H
              clear H
              all_goals
                have hnb234 := NB220_221.out
                have hnc234 := NB221_220.out
                have hnb235 := NB220_222.out
                have hnc235 := NB222_220.out
                have hnb236 := NB220_228.out
                have hnc236 := NB228_220.out
                have hcz237_0 : wr.cell? ⟨gb220, 0, none⟩ = some (.int .i64 a0_0) := (blk_cell BK220.out 0).trans rfl
                have hcz237_1 : wr.cell? ⟨gb220, 1, none⟩ = some (.int .i64 a0_1) := (blk_cell BK220.out 1).trans rfl
                have hcz237_2 : wr.cell? ⟨gb220, 2, none⟩ = some (.slice A0_2 l0_2.length c0_2) := (blk_cell BK220.out 2).trans rfl
                have hfz237_0 := blk_frozen BK220.out 0
                have hfz237_1 := blk_frozen BK220.out 1
                have hfz237_2 := blk_frozen BK220.out 2
                iterate 3 (try go_wp2_with (first | (go_at_call 77; (with_reducible refine (impl_Moved.calls k3 a0_0 a0_1 _ _ l0_2 (wrap64 ((wrap64 (4 * a2)) + x21_3)) (wrap64 ((wrap64 (4 * a3)) + x20_2)) a4 t229 _ ?side1 ?side2 A228.out).mono ?_); (case side1 => repeat (first | exact (Kd.C_below HR0_2.out HB.out) | (with_reducible refine Kd.C_alloc ?_ _) | (with_reducible refine Kd.C_drewN ?_ _) | (with_reducible refine Kd.C_drew ?_))); (case side2 => exact HC0_2.out); rintro e w238 ⟨v230, rfl, ho0, hb⟩; have n0_ := Aside0.mk (Kd.R_elder' (by (with_reducible repeat (first | apply Kd.R_alloc | apply Kd.R_drewN | apply Kd.R_drew)); exact HO_15.out) (Kd.R_base ho0) hb); have n1_ := Aside0.mk (Kd.R_lower (Kd.R_new' ho0 (Kd.R_lt (by (with_reducible repeat (first | apply Kd.R_alloc | apply Kd.R_drewN | apply Kd.R_drew)); exact HO_15.out))) (below_size (by repeat (first | (with_reducible first | exact HB.out | apply below_alloc | apply pw_below_drewN | apply below_drew1 | refine below_set ?_ GE220.out | refine below_set ?_ GE221.out | refine below_set ?_ GE222.out | refine below_set ?_ GE228.out) | exact HB.out)))); have n2_ := Aside0.mk (blk_below (g := gb220) (o := .cells #[.int .i64 a0_0, .int .i64 a0_1, .slice A0_2 l0_2.length c0_2] 29 (0, 0)) (by (with_reducible repeat (first | refine blk_drewN ?_ _ | refine blk_drew ?_ | refine blk_alloc ?_ _)); exact BK220.out) hb); have n3_ := Aside0.mk (blk_below (g := gb221) (o := .cells #[.int .i64 a1_0, .int .i64 a1_1, .slice A1_2 l1_2.length c1_2] 29 (0, 0)) (by (with_reducible repeat (first | refine blk_drewN ?_ _ | refine blk_drew ?_ | refine blk_alloc ?_ _)); exact BK221.out) hb); have n4_ := Aside0.mk (blk_below (g := gb222) (o := .cells #[.int .i64 0, .int .i64 0, .int .i64 0] 27 (0, 0)) (by (with_reducible repeat (first | refine blk_drewN ?_ _ | refine blk_drew ?_ | refine blk_alloc ?_ _)); exact BK222.out) hb); have n5_ := Aside0.mk (blk_below (g := gb228) (o := .cells #[.int .i64 x229000_3, .int .i64 x229001_3, .int .i64 x229002_3] 27 (0, 0)) (by (with_reducible repeat (first | refine blk_drewN ?_ _ | refine blk_drew ?_ | refine blk_alloc ?_ _)); exact BK228.out) hb); have n6_ := Aside0.mk (below_step (by repeat (first | (with_reducible first | exact HB.out | apply below_alloc | apply pw_below_drewN | apply below_drew1 | refine below_set ?_ GE220.out | refine below_set ?_ GE221.out | refine below_set ?_ GE222.out | refine below_set ?_ GE228.out) | exact HB.out)) hb); clear HO_15; clear BK220; clear BK221; clear BK222; clear BK228; clear HB; have HO_15 := n0_; have HO231 := n1_; have BK220 := n2_; have BK221 := n3_; have BK222 := n4_; have BK228 := n5_; have HB := n6_; clear n0_ n1_ n2_ n3_ n4_ n5_ n6_; (try clear hb); (try clear hb2); (try clear hk); (try clear hi); (try clear ho0); obtain ⟨Ao239, co239, eo239⟩ := Kd.R_slice HO231.out; subst eo239; obtain ⟨Ao240, co240, eo240⟩ := Kd.R_slice HO_15.out; subst eo240) | (go_at_call 88; (with_reducible refine (impl_Apart.calls k3 _ _ t229 _ _ t225 t232 _ ?side1 ?side2 ?side3 ?side4 A229.out).mono ?_); (case side1 => repeat (first | exact (Kd.R_reads' HO231.out).2.2 | (with_reducible refine Kd.C_alloc ?_ _) | (with_reducible refine Kd.C_drewN ?_ _) | (with_reducible refine Kd.C_drew ?_))); (case side2 => exact (Kd.R_reads' HO231.out).2.1); (case side3 => repeat (first | exact (Kd.R_reads' HO_15.out).2.2 | (with_reducible refine Kd.C_alloc ?_ _) | (with_reducible refine Kd.C_drewN ?_ _) | (with_reducible refine Kd.C_drew ?_))); (case side4 => exact (Kd.R_reads' HO_15.out).2.1); rintro e w241 ⟨rfl, hb⟩; have n0_ := Aside0.mk (Kd.R_below (by (with_reducible repeat (first | apply Kd.R_alloc | apply Kd.R_drewN | apply Kd.R_drew)); exact HO_15.out) hb); have n1_ := Aside0.mk (Kd.R_below (by (with_reducible repeat (first | apply Kd.R_alloc | apply Kd.R_drewN | apply Kd.R_drew)); exact HO231.out) hb); have n2_ := Aside0.mk (blk_below (g := gb220) (o := .cells #[.int .i64 a0_0, .int .i64 a0_1, .slice A0_2 l0_2.length c0_2] 29 (0, 0)) (by (with_reducible repeat (first | refine blk_drewN ?_ _ | refine blk_drew ?_ | refine blk_alloc ?_ _)); exact BK220.out) hb); have n3_ := Aside0.mk (blk_below (g := gb221) (o := .cells #[.int .i64 a1_0, .int .i64 a1_1, .slice A1_2 l1_2.length c1_2] 29 (0, 0)) (by (with_reducible repeat (first | refine blk_drewN ?_ _ | refine blk_drew ?_ | refine blk_alloc ?_ _)); exact BK221.out) hb); have n4_ := Aside0.mk (blk_below (g := gb222) (o := .cells #[.int .i64 0, .int .i64 0, .int .i64 0] 27 (0, 0)) (by (with_reducible repeat (first | refine blk_drewN ?_ _ | refine blk_drew ?_ | refine blk_alloc ?_ _)); exact BK222.out) hb); have n5_ := Aside0.mk (blk_below (g := gb228) (o := .cells #[.int .i64 x229000_3, .int .i64 x229001_3, .int .i64 x229002_3] 27 (0, 0)) (by (with_reducible repeat (first | refine blk_drewN ?_ _ | refine blk_drew ?_ | refine blk_alloc ?_ _)); exact BK228.out) hb); have n6_ := Aside0.mk (below_step (by repeat (first | (with_reducible first | exact HB.out | apply below_alloc | apply pw_below_drewN | apply below_drew1 | refine below_set ?_ GE220.out | refine below_set ?_ GE221.out | refine below_set ?_ GE222.out | refine below_set ?_ GE228.out) | exact HB.out)) hb); clear HO_15; clear HO231; clear BK220; clear BK221; clear BK222; clear BK228; clear HB; have HO_15 := n0_; have HO231 := n1_; have BK220 := n2_; have BK221 := n3_; have BK222 := n4_; have BK228 := n5_; have HB := n6_; clear n0_ n1_ n2_ n3_ n4_ n5_ n6_; (try clear hb); (try clear hb2); (try clear hk); (try clear hi)) | (go_at_call 84; (with_reducible refine (impl_BestMotion_1.calls k3 x21_3 t233 _ A230.out).mono ?_); rintro e w' ⟨rfl, ⟨nd, rfl⟩⟩; (try first | exact ⟨rfl, _, World.drewN_drewN _ _ _⟩ | exact ⟨rfl, _, Eq.trans (World.drewN_drewN _ _ _) (congrArg (World.drewN _) (Nat.add_assoc _ _ _))⟩)) | (go_at_call 84; (with_reducible refine (impl_BestMotion_1.calls k3 x20_2 t234 _ A231.out).mono ?_); rintro e w' ⟨rfl, ⟨nd, rfl⟩⟩; (try first | exact ⟨rfl, _, World.drewN_drewN _ _ _⟩ | exact ⟨rfl, _, Eq.trans (World.drewN_drewN _ _ _) (congrArg (World.drewN _) (Nat.add_assoc _ _ _))⟩)) | ((with_reducible refine gate_dst (N := 22) rfl ?_); refine box_event ?hg (N := 22) ?hd (cs := #[.int .i64 0, .int .i64 0, .int .i64 0]) (t := 27) ?hr ?_; (case hd => rfl); (case hg => rfl); (case hr => first | (go_simp; done) | (go_simp; rfl)); intro gb235 hg w242 hbox hb; have n0_ := Aside0.mk (Kd.R_below (by (with_reducible repeat (first | apply Kd.R_alloc | apply Kd.R_drewN | apply Kd.R_drew)); exact HO_15.out) hb); have n1_ := Aside0.mk (Kd.R_below (by (with_reducible repeat (first | apply Kd.R_alloc | apply Kd.R_drewN | apply Kd.R_drew)); exact HO231.out) hb); have n2_ := Aside0.mk (blk_below (g := gb220) (o := .cells #[.int .i64 a0_0, .int .i64 a0_1, .slice A0_2 l0_2.length c0_2] 29 (0, 0)) (by (with_reducible repeat (first | refine blk_drewN ?_ _ | refine blk_drew ?_ | refine blk_alloc ?_ _)); exact BK220.out) hb); have n3_ := Aside0.mk (blk_below (g := gb221) (o := .cells #[.int .i64 a1_0, .int .i64 a1_1, .slice A1_2 l1_2.length c1_2] 29 (0, 0)) (by (with_reducible repeat (first | refine blk_drewN ?_ _ | refine blk_drew ?_ | refine blk_alloc ?_ _)); exact BK221.out) hb); have n4_ := Aside0.mk (blk_below (g := gb222) (o := .cells #[.int .i64 0, .int .i64 0, .int .i64 0] 27 (0, 0)) (by (with_reducible repeat (first | refine blk_drewN ?_ _ | refine blk_drew ?_ | refine blk_alloc ?_ _)); exact BK222.out) hb); have n5_ := Aside0.mk (blk_below (g := gb228) (o := .cells #[.int .i64 x229000_3, .int .i64 x229001_3, .int .i64 x229002_3] 27 (0, 0)) (by (with_reducible repeat (first | refine blk_drewN ?_ _ | refine blk_drew ?_ | refine blk_alloc ?_ _)); exact BK228.out) hb); have n6_ := Aside0.mk (below_step (by repeat (first | (with_reducible first | exact HB.out | apply below_alloc | apply pw_below_drewN | apply below_drew1 | refine below_set ?_ GE220.out | refine below_set ?_ GE221.out | refine below_set ?_ GE222.out | refine below_set ?_ GE228.out) | exact HB.out)) hb); have n7_ := Aside0.mk (hbox); have n8_ := Aside0.mk ((by rw [hg]; exact (below_size (by repeat (first | (with_reducible first | exact HB.out | apply below_alloc | apply pw_below_drewN | apply below_drew1 | refine below_set ?_ GE220.out | refine below_set ?_ GE221.out | refine below_set ?_ GE222.out | refine below_set ?_ GE228.out) | exact HB.out))) : w.heap.size ≤ gb235)); have n9_ := n8_; have n10_ := Aside0.mk ((by rw [hg]; exact Nat.ne_of_lt (blk_lt (g := gb220) (o := .cells #[.int .i64 a0_0, .int .i64 a0_1, .slice A0_2 l0_2.length c0_2] 29 (0, 0)) (by (with_reducible repeat (first | refine blk_drewN ?_ _ | refine blk_drew ?_ | refine blk_alloc ?_ _)); exact BK220.out)) : gb220 ≠ gb235)); have n11_ := Aside0.mk ((by rw [hg]; exact Nat.ne_of_gt (blk_lt (g := gb220) (o := .cells #[.int .i64 a0_0, .int .i64 a0_1, .slice A0_2 l0_2.length c0_2] 29 (0, 0)) (by (with_reducible repeat (first | refine blk_drewN ?_ _ | refine blk_drew ?_ | refine blk_alloc ?_ _)); exact BK220.out)) : gb235 ≠ gb220)); have n12_ := Aside0.mk ((by rw [hg]; exact Nat.ne_of_lt (blk_lt (g := gb221) (o := .cells #[.int .i64 a1_0, .int .i64 a1_1, .slice A1_2 l1_2.length c1_2] 29 (0, 0)) (by (with_reducible repeat (first | refine blk_drewN ?_ _ | refine blk_drew ?_ | refine blk_alloc ?_ _)); exact BK221.out)) : gb221 ≠ gb235)); have n13_ := Aside0.mk ((by rw [hg]; exact Nat.ne_of_gt (blk_lt (g := gb221) (o := .cells #[.int .i64 a1_0, .int .i64 a1_1, .slice A1_2 l1_2.length c1_2] 29 (0, 0)) (by (with_reducible repeat (first | refine blk_drewN ?_ _ | refine blk_drew ?_ | refine blk_alloc ?_ _)); exact BK221.out)) : gb235 ≠ gb221)); have n14_ := Aside0.mk ((by rw [hg]; exact Nat.ne_of_lt (blk_lt (g := gb222) (o := .cells #[.int .i64 0, .int .i64 0, .int .i64 0] 27 (0, 0)) (by (with_reducible repeat (first | refine blk_drewN ?_ _ | refine blk_drew ?_ | refine blk_alloc ?_ _)); exact BK222.out)) : gb222 ≠ gb235)); have n15_ := Aside0.mk ((by rw [hg]; exact Nat.ne_of_gt (blk_lt (g := gb222) (o := .cells #[.int .i64 0, .int .i64 0, .int .i64 0] 27 (0, 0)) (by (with_reducible repeat (first | refine blk_drewN ?_ _ | refine blk_drew ?_ | refine blk_alloc ?_ _)); exact BK222.out)) : gb235 ≠ gb222)); have n16_ := Aside0.mk ((by rw [hg]; exact Nat.ne_of_lt (blk_lt (g := gb228) (o := .cells #[.int .i64 x229000_3, .int .i64 x229001_3, .int .i64 x229002_3] 27 (0, 0)) (by (with_reducible repeat (first | refine blk_drewN ?_ _ | refine blk_drew ?_ | refine blk_alloc ?_ _)); exact BK228.out)) : gb228 ≠ gb235)); have n17_ := Aside0.mk ((by rw [hg]; exact Nat.ne_of_gt (blk_lt (g := gb228) (o := .cells #[.int .i64 x229000_3, .int .i64 x229001_3, .int .i64 x229002_3] 27 (0, 0)) (by (with_reducible repeat (first | refine blk_drewN ?_ _ | refine blk_drew ?_ | refine blk_alloc ?_ _)); exact BK228.out)) : gb235 ≠ gb228)); clear HO_15; clear HO231; clear BK220; clear BK221; clear BK222; clear BK228; clear HB; have HO_15 := n0_; have HO231 := n1_; have BK220 := n2_; have BK221 := n3_; have BK222 := n4_; have BK228 := n5_; have HB := n6_; have BK235 := n7_; have GW235 := n8_; have GE235 := n9_; have NB220_235 := n10_; have NB235_220 := n11_; have NB221_235 := n12_; have NB235_221 := n13_; have NB222_235 := n14_; have NB235_222 := n15_; have NB228_235 := n16_; have NB235_228 := n17_; clear n0_ n1_ n2_ n3_ n4_ n5_ n6_ n7_ n8_ n9_ n10_ n11_ n12_ n13_ n14_ n15_ n16_ n17_; clear hb hbox hg; have hnb243 := NB235_220.out; have hnc243 := NB220_235.out; have hnb244 := NB235_221.out; have hnc244 := NB221_235.out; have hnb245 := NB235_222.out; have hnc245 := NB222_235.out; have hnb246 := NB235_228.out; have hnc246 := NB228_235.out; have hcz247_0 : w242.cell? ⟨gb235, 0, none⟩ = some (.int .i64 0) := (blk_cell BK235.out 0).trans rfl; have hcz247_1 : w242.cell? ⟨gb235, 1, none⟩ = some (.int .i64 0) := (blk_cell BK235.out 1).trans rfl; have hcz247_2 : w242.cell? ⟨gb235, 2, none⟩ = some (.int .i64 0) := (blk_cell BK235.out 2).trans rfl; have hfz247_0 := blk_frozen BK235.out 0; have hfz247_1 := blk_frozen BK235.out 1; have hfz247_2 := blk_frozen BK235.out 2; have hnb248 := NB228_221.out; have hnc248 := NB221_228.out; have hnb249 := NB228_222.out; have hnc249 := NB222_228.out; have hcz250_0 : w242.cell? ⟨gb228, 0, none⟩ = some (.int .i64 x229000_3) := (blk_cell BK228.out 0).trans rfl; have hcz250_1 : w242.cell? ⟨gb228, 1, none⟩ = some (.int .i64 x229001_3) := (blk_cell BK228.out 1).trans rfl; have hcz250_2 : w242.cell? ⟨gb228, 2, none⟩ = some (.int .i64 x229002_3) := (blk_cell BK228.out 2).trans rfl; have hfz250_0 := blk_frozen BK228.out 0; have hfz250_1 := blk_frozen BK228.out 1; have hfz250_2 := blk_frozen BK228.out 2)); try go_quiet (first | (go_at_call 77; (with_reducible refine (impl_Moved.calls k3 a0_0 a0_1 _ _ l0_2 (wrap64 ((wrap64 (4 * a2)) + x21_3)) (wrap64 ((wrap64 (4 * a3)) + x20_2)) a4 t229 _ ?side1 ?side2 A228.out).mono ?_); (case side1 => repeat (first | exact (Kd.C_below HR0_2.out HB.out) | (with_reducible refine Kd.C_alloc ?_ _) | (with_reducible refine Kd.C_drewN ?_ _) | (with_reducible refine Kd.C_drew ?_))); (case side2 => exact HC0_2.out); rintro e w238 ⟨v230, rfl, ho0, hb⟩; have n0_ := Aside0.mk (Kd.R_elder' (by (with_reducible repeat (first | apply Kd.R_alloc | apply Kd.R_drewN | apply Kd.R_drew)); exact HO_15.out) (Kd.R_base ho0) hb); have n1_ := Aside0.mk (Kd.R_lower (Kd.R_new' ho0 (Kd.R_lt (by (with_reducible repeat (first | apply Kd.R_alloc | apply Kd.R_drewN | apply Kd.R_drew)); exact HO_15.out))) (below_size (by repeat (first | (with_reducible first | exact HB.out | apply below_alloc | apply pw_below_drewN | apply below_drew1 | refine below_set ?_ GE220.out | refine below_set ?_ GE221.out | refine below_set ?_ GE222.out | refine below_set ?_ GE228.out) | exact HB.out)))); have n2_ := Aside0.mk (blk_below (g := gb220) (o := .cells #[.int .i64 a0_0, .int .i64 a0_1, .slice A0_2 l0_2.length c0_2] 29 (0, 0)) (by (with_reducible repeat (first | refine blk_drewN ?_ _ | refine blk_drew ?_ | refine blk_alloc ?_ _)); exact BK220.out) hb); have n3_ := Aside0.mk (blk_below (g := gb221) (o := .cells #[.int .i64 a1_0, .int .i64 a1_1, .slice A1_2 l1_2.length c1_2] 29 (0, 0)) (by (with_reducible repeat (first | refine blk_drewN ?_ _ | refine blk_drew ?_ | refine blk_alloc ?_ _)); exact BK221.out) hb); have n4_ := Aside0.mk (blk_below (g := gb222) (o := .cells #[.int .i64 0, .int .i64 0, .int .i64 0] 27 (0, 0)) (by (with_reducible repeat (first | refine blk_drewN ?_ _ | refine blk_drew ?_ | refine blk_alloc ?_ _)); exact BK222.out) hb); have n5_ := Aside0.mk (blk_below (g := gb228) (o := .cells #[.int .i64 x229000_3, .int .i64 x229001_3, .int .i64 x229002_3] 27 (0, 0)) (by (with_reducible repeat (first | refine blk_drewN ?_ _ | refine blk_drew ?_ | refine blk_alloc ?_ _)); exact BK228.out) hb); have n6_ := Aside0.mk (below_step (by repeat (first | (with_reducible first | exact HB.out | apply below_alloc | apply pw_below_drewN | apply below_drew1 | refine below_set ?_ GE220.out | refine below_set ?_ GE221.out | refine below_set ?_ GE222.out | refine below_set ?_ GE228.out) | exact HB.out)) hb); clear HO_15; clear BK220; clear BK221; clear BK222; clear BK228; clear HB; have HO_15 := n0_; have HO231 := n1_; have BK220 := n2_; have BK221 := n3_; have BK222 := n4_; have BK228 := n5_; have HB := n6_; clear n0_ n1_ n2_ n3_ n4_ n5_ n6_; (try clear hb); (try clear hb2); (try clear hk); (try clear hi); (try clear ho0); obtain ⟨Ao239, co239, eo239⟩ := Kd.R_slice HO231.out; subst eo239; obtain ⟨Ao240, co240, eo240⟩ := Kd.R_slice HO_15.out; subst eo240) | (go_at_call 88; (with_reducible refine (impl_Apart.calls k3 _ _ t229 _ _ t225 t232 _ ?side1 ?side2 ?side3 ?side4 A229.out).mono ?_); (case side1 => repeat (first | exact (Kd.R_reads' HO231.out).2.2 | (with_reducible refine Kd.C_alloc ?_ _) | (with_reducible refine Kd.C_drewN ?_ _) | (with_reducible refine Kd.C_drew ?_))); (case side2 => exact (Kd.R_reads' HO231.out).2.1); (case side3 => repeat (first | exact (Kd.R_reads' HO_15.out).2.2 | (with_reducible refine Kd.C_alloc ?_ _) | (with_reducible refine Kd.C_drewN ?_ _) | (with_reducible refine Kd.C_drew ?_))); (case side4 => exact (Kd.R_reads' HO_15.out).2.1); rintro e w241 ⟨rfl, hb⟩; have n0_ := Aside0.mk (Kd.R_below (by (with_reducible repeat (first | apply Kd.R_alloc | apply Kd.R_drewN | apply Kd.R_drew)); exact HO_15.out) hb); have n1_ := Aside0.mk (Kd.R_below (by (with_reducible repeat (first | apply Kd.R_alloc | apply Kd.R_drewN | apply Kd.R_drew)); exact HO231.out) hb); have n2_ := Aside0.mk (blk_below (g := gb220) (o := .cells #[.int .i64 a0_0, .int .i64 a0_1, .slice A0_2 l0_2.length c0_2] 29 (0, 0)) (by (with_reducible repeat (first | refine blk_drewN ?_ _ | refine blk_drew ?_ | refine blk_alloc ?_ _)); exact BK220.out) hb); have n3_ := Aside0.mk (blk_below (g := gb221) (o := .cells #[.int .i64 a1_0, .int .i64 a1_1, .slice A1_2 l1_2.length c1_2] 29 (0, 0)) (by (with_reducible repeat (first | refine blk_drewN ?_ _ | refine blk_drew ?_ | refine blk_alloc ?_ _)); exact BK221.out) hb); have n4_ := Aside0.mk (blk_below (g := gb222) (o := .cells #[.int .i64 0, .int .i64 0, .int .i64 0] 27 (0, 0)) (by (with_reducible repeat (first | refine blk_drewN ?_ _ | refine blk_drew ?_ | refine blk_alloc ?_ _)); exact BK222.out) hb); have n5_ := Aside0.mk (blk_below (g := gb228) (o := .cells #[.int .i64 x229000_3, .int .i64 x229001_3, .int .i64 x229002_3] 27 (0, 0)) (by (with_reducible repeat (first | refine blk_drewN ?_ _ | refine blk_drew ?_ | refine blk_alloc ?_ _)); exact BK228.out) hb); have n6_ := Aside0.mk (below_step (by repeat (first | (with_reducible first | exact HB.out | apply below_alloc | apply pw_below_drewN | apply below_drew1 | refine below_set ?_ GE220.out | refine below_set ?_ GE221.out | refine below_set ?_ GE222.out | refine below_set ?_ GE228.out) | exact HB.out)) hb); clear HO_15; clear HO231; clear BK220; clear BK221; clear BK222; clear BK228; clear HB; have HO_15 := n0_; have HO231 := n1_; have BK220 := n2_; have BK221 := n3_; have BK222 := n4_; have BK228 := n5_; have HB := n6_; clear n0_ n1_ n2_ n3_ n4_ n5_ n6_; (try clear hb); (try clear hb2); (try clear hk); (try clear hi)) | (go_at_call 84; (with_reducible refine (impl_BestMotion_1.calls k3 x21_3 t233 _ A230.out).mono ?_); rintro e w' ⟨rfl, ⟨nd, rfl⟩⟩; (try first | exact ⟨rfl, _, World.drewN_drewN _ _ _⟩ | exact ⟨rfl, _, Eq.trans (World.drewN_drewN _ _ _) (congrArg (World.drewN _) (Nat.add_assoc _ _ _))⟩)) | (go_at_call 84; (with_reducible refine (impl_BestMotion_1.calls k3 x20_2 t234 _ A231.out).mono ?_); rintro e w' ⟨rfl, ⟨nd, rfl⟩⟩; (try first | exact ⟨rfl, _, World.drewN_drewN _ _ _⟩ | exact ⟨rfl, _, Eq.trans (World.drewN_drewN _ _ _) (congrArg (World.drewN _) (Nat.add_assoc _ _ _))⟩))))
                go_roundg k3
                case measure => have := HJ7.out; have := HK2.out; have := HK3.out; omega
                case rel => exact ⟨(true), (wrap64 (x21_3 + 1)), (x21_3), (x20_2), (wrap64 (t232 + (wrap64 (a6 * (wrap64 (t233 + t234)))))), (by first | rfl | (simp; done) | (simp [*]; done)), (by first | rfl | (simp; done) | (simp [*]; done)), H', ⟨by have := HJ7.out; have := HK2.out; have := HK3.out; omega⟩, ⟨by (with_reducible repeat (first | apply Kd.R_alloc | apply Kd.R_drewN | apply Kd.R_drew)); exact Kd.R_mono (Kd.R_far (p := ⟨gb228, 2, none⟩) (Kd.R_far (p := ⟨gb228, 1, none⟩) (Kd.R_far (p := ⟨gb228, 0, none⟩) (Kd.R_far (p := ⟨gb235, 2, none⟩) (Kd.R_far (p := ⟨gb235, 1, none⟩) (Kd.R_far (p := ⟨gb235, 0, none⟩) (Kd.R_types (Kd.R_types HO_15.out BK235.out (by decide)) BK228.out (by decide)) (fun _ hk => hk.1.2) (.int .i64 x21_3)) (fun _ hk => hk.1.2) (.int .i64 x20_2)) (fun _ hk => hk.1.2) (.int .i64 (wrap64 (t232 + (wrap64 (a6 * (wrap64 (t233 + t234)))))))) (fun _ hk => hk.2) (.int .i64 x21_3)) (fun _ hk => hk.2) (.int .i64 x20_2)) (fun _ hk => hk.2) (.int .i64 (wrap64 (t232 + (wrap64 (a6 * (wrap64 (t233 + t234)))))))) (fun _ hk => trivial)⟩, ⟨by (with_reducible repeat (first | refine blk_drewN ?_ _ | refine blk_drew ?_ | refine blk_alloc ?_ _)); refine blk_far ?_ NB220_228.out _; (with_reducible repeat (first | refine blk_drewN ?_ _ | refine blk_drew ?_ | refine blk_alloc ?_ _)); refine blk_far ?_ NB220_228.out _; (with_reducible repeat (first | refine blk_drewN ?_ _ | refine blk_drew ?_ | refine blk_alloc ?_ _)); refine blk_far ?_ NB220_228.out _; (with_reducible repeat (first | refine blk_drewN ?_ _ | refine blk_drew ?_ | refine blk_alloc ?_ _)); refine blk_far ?_ NB220_235.out _; (with_reducible repeat (first | refine blk_drewN ?_ _ | refine blk_drew ?_ | refine blk_alloc ?_ _)); refine blk_far ?_ NB220_235.out _; (with_reducible repeat (first | refine blk_drewN ?_ _ | refine blk_drew ?_ | refine blk_alloc ?_ _)); refine blk_far ?_ NB220_235.out _; (with_reducible repeat (first | refine blk_drewN ?_ _ | refine blk_drew ?_ | refine blk_alloc ?_ _)); exact BK220.out⟩, ⟨by (with_reducible repeat (first | refine blk_drewN ?_ _ | refine blk_drew ?_ | refine blk_alloc ?_ _)); refine blk_far ?_ NB221_228.out _; (with_reducible repeat (first | refine blk_drewN ?_ _ | refine blk_drew ?_ | refine blk_alloc ?_ _)); refine blk_far ?_ NB221_228.out _; (with_reducible repeat (first | refine blk_drewN ?_ _ | refine blk_drew ?_ | refine blk_alloc ?_ _)); refine blk_far ?_ NB221_228.out _; (with_reducible repeat (first | refine blk_drewN ?_ _ | refine blk_drew ?_ | refine blk_alloc ?_ _)); refine blk_far ?_ NB221_235.out _; (with_reducible repeat (first | refine blk_drewN ?_ _ | refine blk_drew ?_ | refine blk_alloc ?_ _)); refine blk_far ?_ NB221_235.out _; (with_reducible repeat (first | refine blk_drewN ?_ _ | refine blk_drew ?_ | refine blk_alloc ?_ _)); refine blk_far ?_ NB221_235.out _; (with_reducible repeat (first | refine blk_drewN ?_ _ | refine blk_drew ?_ | refine blk_alloc ?_ _)); exact BK221.out⟩, ⟨by (with_reducible repeat (first | refine blk_drewN ?_ _ | refine blk_drew ?_ | refine blk_alloc ?_ _)); refine blk_far ?_ NB222_228.out _; (with_reducible repeat (first | refine blk_drewN ?_ _ | refine blk_drew ?_ | refine blk_alloc ?_ _)); refine blk_far ?_ NB222_228.out _; (with_reducible repeat (first | refine blk_drewN ?_ _ | refine blk_drew ?_ | refine blk_alloc ?_ _)); refine blk_far ?_ NB222_228.out _; (with_reducible repeat (first | refine blk_drewN ?_ _ | refine blk_drew ?_ | refine blk_alloc ?_ _)); refine blk_far ?_ NB222_235.out _; (with_reducible repeat (first | refine blk_drewN ?_ _ | refine blk_drew ?_ | refine blk_alloc ?_ _)); refine blk_far ?_ NB222_235.out _; (with_reducible repeat (first | refine blk_drewN ?_ _ | refine blk_drew ?_ | refine blk_alloc ?_ _)); refine blk_far ?_ NB222_235.out _; (with_reducible repeat (first | refine blk_drewN ?_ _ | refine blk_drew ?_ | refine blk_alloc ?_ _)); exact BK222.out⟩, ⟨by (with_reducible repeat (first | refine blk_drewN ?_ _ | refine blk_drew ?_ | refine blk_alloc ?_ _)); refine blk_put (cs := #[.int .i64 x21_3, .int .i64 x20_2, .int .i64 x229002_3]) ?_ 2 _ rfl; (with_reducible repeat (first | refine blk_drewN ?_ _ | refine blk_drew ?_ | refine blk_alloc ?_ _)); refine blk_put (cs := #[.int .i64 x21_3, .int .i64 x229001_3, .int .i64 x229002_3]) ?_ 1 _ rfl; (with_reducible repeat (first | refine blk_drewN ?_ _ | refine blk_drew ?_ | refine blk_alloc ?_ _)); refine blk_put (cs := #[.int .i64 x229000_3, .int .i64 x229001_3, .int .i64 x229002_3]) ?_ 0 _ rfl; (with_reducible repeat (first | refine blk_drewN ?_ _ | refine blk_drew ?_ | refine blk_alloc ?_ _)); refine blk_far ?_ NB228_235.out _; (with_reducible repeat (first | refine blk_drewN ?_ _ | refine blk_drew ?_ | refine blk_alloc ?_ _)); refine blk_far ?_ NB228_235.out _; (with_reducible repeat (first | refine blk_drewN ?_ _ | refine blk_drew ?_ | refine blk_alloc ?_ _)); refine blk_far ?_ NB228_235.out _; (with_reducible repeat (first | refine blk_drewN ?_ _ | refine blk_drew ?_ | refine blk_alloc ?_ _)); exact BK228.out⟩, ⟨by repeat (first | (with_reducible first | exact HB.out | apply below_alloc | apply pw_below_drewN | apply below_drew1 | refine below_set ?_ GE220.out | refine below_set ?_ GE221.out | refine below_set ?_ GE222.out | refine below_set ?_ GE228.out | refine below_set ?_ GE235.out) | exact HB.out)⟩⟩

end Go.Proofs.Ytglaedjadlappaa.PFnExactBestMotion

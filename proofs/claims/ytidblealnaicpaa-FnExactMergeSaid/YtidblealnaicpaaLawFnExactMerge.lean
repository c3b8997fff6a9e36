-- written by myprint.py (a program of this session's over the kit's print)
import Derived.Test.YtidblealnaicpaaRows
import Derived.Test.YtidblealnaicpaaPFnExactMergex9
import Derived.Test.YtidblealnaicpaaPureFnExactMerge
import Derived.Test.YtidblealnaicpaaTFEMQ
import Derived.WalkKit
import Derived.ProofKit
import Derived.OpenShut
import Derived.ShutString
import Derived.ChangeOld
import Derived.Below
import Derived.SizedLaws
namespace Go.Proofs.Ytidblealnaicpaa.fnExactMerge
open Go.ChangeShapes Go.WideShapes Go.ChangeAt Go.RowKit Go.Proofs.Ytidblealnaicpaa.PFnExactMerge Go.Proofs.YtidblealnaicpaaW.PrintWords Go.Proofs.YtidblealnaicpaaW.PrintMore Go.Proofs.Ytidblealnaicpaa
open Go.ChangeMaps (open_string shut_string)
set_option linter.unusedVariables false
theorem own : ownKnob Try.prog.godebug = none := by kernel_rfl
theorem laidOut : laidOutB Try.prog = true := by kernel_rfl
theorem opens2 : Q.OpenK Try.prog 32 (Kd.slice 108 k108) (fun x => (x.length ≤ maxLen ∧ ∀ y0 ∈ x, ((Lit.int .i64 y0.f0).wf = true ∧ (Lit.int .i64 y0.f1).wf = true ∧ (Lit.int .i64 y0.f2).wf = true ∧ (Lit.int .i64 y0.f3).wf = true ∧ (y0.f4.length ≤ maxLen ∧ ∀ y1 ∈ y0.f4, (Lit.int .i64 y1).wf = true)))) := Q.openK_mono (Q.openK_slice Try.underlying32 (by kernel_rfl) (Q.openK_struct (fun x : S108 => (x.f0, x.f1, x.f2, x.f3, x.f4)) (fun p => ⟨p.1, p.2.1, p.2.2.1, p.2.2.2.1, p.2.2.2.2⟩) (fun _ => rfl) Try.underlying108 (by kernel_rfl) (Q.openFs_cons rfl (by kernel_rfl) (Q.openK_int Try.underlying3) (Q.openFs_cons rfl (by kernel_rfl) (Q.openK_int Try.underlying3) (Q.openFs_cons rfl (by kernel_rfl) (Q.openK_int Try.underlying3) (Q.openFs_cons rfl (by kernel_rfl) (Q.openK_int Try.underlying3) (Q.openFs_last rfl (by kernel_rfl) (Q.openK_slice Try.underlying22 (by kernel_rfl) (Q.openK_int Try.underlying3))))))))) (fun _ h => h)
set_option maxRecDepth 100000 in
theorem lifted (os : Os) (started : os.Started) (H : Type) (enc : TypeId × Value → H) :
    ReturnsInHanded {} Try.checked os 4 .any (Rows.fnExactMergeSpec.pre6 enc Try.prog Try.f4 Rows.fnExactMergeRow.domain false) (Rows.fnExactMergeSpec.post enc Try.prog Try.f4 false true false false) := by
  refine returnsInHanded_of_change_sized (C := Try.checked) own started (by kernel_rfl) Try.func4
    (ChangeSpec.witness6 (enc := enc) (C := Try.checked) false ⟨#[], #[.int .i64 0, .int .i64 0, .slice none 0 0], []⟩ 8 (by kernel_rfl) (by kernel_rfl) (by kernel_rfl) (by kernel_rfl)) ?_
  intro W base args ds gs before hval0 hW hcnd hsz0 _
  have hval : ∀ (j : Nat) t v, Try.f4.params[j]? = some t → args[j]? = some v → Value.okWide Try.prog W .any base t v := hval0
  have hW' := hW
  obtain ⟨p, q, hA0, hV, rfl, hfz, hnd⟩ := hW
  have hA : DataW.TrodAll enc Try.prog W 0 (fun _ => true) true Try.f4.params.toList args.toList ds p := hA0
  rw [Try.params4] at hA hval
  obtain ⟨v0, vs0, d0, ds0, p0, q0, hargs, rfl, rfl, h0, r0⟩ := trodAll_cons hA
  obtain ⟨v1, vs1, d1, ds1, p1, q1, rfl, rfl, rfl, h1, r1⟩ := trodAll_cons r0
  obtain ⟨v2, vs2, d2, ds2, p2, q2, rfl, rfl, rfl, h2, r2⟩ := trodAll_cons r1
  obtain ⟨rfl, rfl, rfl⟩ := trodAll_nil r2
  obtain rfl : args = #[v0, v1, v2] := by cases args; simp_all
  obtain ⟨rfl, rfl⟩ := trodVars_none hV
  obtain ⟨a0, rfl, rfl, rfl, w0⟩ := open_int Try.underlying3 (hval 0 3 v0 rfl rfl) h0
  obtain ⟨a1, rfl, rfl, rfl, w1⟩ := open_int Try.underlying3 (hval 1 3 v1 rfl rfl) h1
  have k2 := h2
  have lt2 : ∀ x ∈ p2, x.block < W.heap.size := by obtain ⟨m, hm⟩ := k2; exact DataW.trod_lt m _ _ _ hm
  obtain ⟨A2, len2, cap2, rfl⟩ := okWide_slice Try.underlying32 (hval 2 32 v2 rfl rfl)
  obtain ⟨l2, rfl, hc2, hr2, w2⟩ := Q.open_slice_arg opens2 h2
  clear hA0 hval0 hsz0
  refine (PFnExactMerge.laws_FnExactMerge.walk Pure.FnExactMerge a0 a1 A2 cap2 l2 W hr2 hc2 w0 w1 w2).mono fun e W' ⟨he, bel⟩ => ?_
  subst he
  exact ⟨_, rfl, _, _, _, [], _, [], hW', trodAll_mk1 (shut_bool Try.underlying4 _), (trodAll_cons_mk (shut_int Try.underlying3 w0) (trodAll_cons_mk (shut_int Try.underlying3 w1) (trodAll_cons_mk (Below.trod laidOut (by kernel_rfl) (of_decide_eq_true (by kernel_rfl)) k2 bel lt2) trodAll_mk0))), rfl, bel.frame _, fun h => by cases h⟩
theorem over : Rows.fnExactMergeRow.holds Try.pinned (OpenSpec.ofChange Rows.fnExactMergeSpec) :=
  OpenClaim.holds_of_wide 4 Try.f4 rfl rfl rfl rfl rfl rfl rfl ⟨rfl, rfl, rfl, rfl, rfl⟩ rfl rfl rfl rfl rfl (by kernel_rfl) Try.func4 (by kernel_rfl)
    (of_decide_eq_true (by kernel_rfl)) (by unfold Func.isWrapper; first | (rw [if_pos (by decide +kernel)]; kernel_rfl) | (rw [if_neg (by decide +kernel)]; exact ⟨rfl, rfl⟩))
    (fun os started H enc _ => lifted os started H enc)
theorem proved : Rows.FnExactMergeSaid := over
#print axioms proved
end Go.Proofs.Ytidblealnaicpaa.fnExactMerge
namespace Go.Proofs.Ytidblealnaicpaa
/-- The row, under a short name, for the claim. -/
theorem fnExactMerge_holds : Rows.FnExactMergeSaid := fnExactMerge.proved
end Go.Proofs.Ytidblealnaicpaa

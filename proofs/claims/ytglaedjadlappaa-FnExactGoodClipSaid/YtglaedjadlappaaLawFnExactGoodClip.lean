-- written by myprint.py (a program of this session's over the kit's print)
import Derived.Test.YtglaedjadlappaaRows
import Derived.Test.YtglaedjadlappaaPFnExactGoodClipx5
import Derived.Test.YtglaedjadlappaaPureFnExactGoodClip
import Derived.Test.YtglaedjadlappaaQ
import Derived.WalkKit
import Derived.ProofKit
import Derived.OpenShut
import Derived.ShutString
import Derived.ChangeOld
import Derived.Below
import Derived.SizedLaws
namespace Go.Proofs.Ytglaedjadlappaa.fnExactGoodClip
open Go.ChangeShapes Go.WideShapes Go.ChangeAt Go.RowKit Go.Proofs.Ytglaedjadlappaa.PFnExactGoodClip Go.Proofs.YtglaedjadlappaaW.PrintWords Go.Proofs.YtglaedjadlappaaW.PrintMore Go.Proofs.Ytglaedjadlappaa
open Go.ChangeMaps (open_string shut_string)
set_option linter.unusedVariables false
theorem own : ownKnob Try.prog.godebug = none := by kernel_rfl
theorem laidOut : laidOutB Try.prog = true := by kernel_rfl
theorem opens0 : Q.OpenK Try.prog 100 k100 (fun x => ((Lit.int .i64 x.f0).wf = true ∧ (Lit.int .i64 x.f1).wf = true ∧ (x.f2.length ≤ maxLen ∧ ∀ y0 ∈ x.f2, (y0.f0.length ≤ maxLen ∧ ∀ y1 ∈ y0.f0, (y1.length ≤ maxLen ∧ ∀ y2 ∈ y1, (Lit.int .i64 y2).wf = true))))) := Q.openK_mono (Q.openK_struct (fun x : S100 => (x.f0, x.f1, x.f2)) (fun p => ⟨p.1, p.2.1, p.2.2⟩) (fun _ => rfl) Try.underlying100 (by kernel_rfl) (Q.openFs_cons rfl (by kernel_rfl) (Q.openK_int Try.underlying3) (Q.openFs_cons rfl (by kernel_rfl) (Q.openK_int Try.underlying3) (Q.openFs_last rfl (by kernel_rfl) (Q.openK_slice Try.underlying98 (by kernel_rfl) (Q.openK_struct (fun x : S201 => x.f0) (fun p => ⟨p⟩) (fun _ => rfl) Try.underlying201 (by kernel_rfl) (Q.openFs_last rfl (by kernel_rfl) (Q.openK_slice Try.underlying109 (by kernel_rfl) (Q.openK_slice Try.underlying22 (by kernel_rfl) (Q.openK_int Try.underlying3)))))))))) (fun _ h => h)
set_option maxRecDepth 100000 in
theorem lifted (os : Os) (started : os.Started) (H : Type) (enc : TypeId × Value → H) :
    ReturnsInHanded {} Try.checked os 12 .any (Rows.fnExactGoodClipSpec.pre6 enc Try.prog Try.f12 Rows.fnExactGoodClipRow.domain false) (Rows.fnExactGoodClipSpec.post enc Try.prog Try.f12 false true false false) := by
  refine returnsInHanded_of_change_sized (C := Try.checked) own started (by kernel_rfl) Try.func12
    (ChangeSpec.witness6 (enc := enc) (C := Try.checked) false ⟨#[], #[(.agg #[(.int .i64 0), (.int .i64 0), (.slice none 0 0)])], []⟩ 8 (by kernel_rfl) (by kernel_rfl) (by kernel_rfl) (by kernel_rfl)) ?_
  intro W base args ds gs before hval0 hW hcnd hsz0 _
  have hval : ∀ (j : Nat) t v, Try.f12.params[j]? = some t → args[j]? = some v → Value.okWide Try.prog W .any base t v := hval0
  have hW' := hW
  obtain ⟨p, q, hA0, hV, rfl, hfz, hnd⟩ := hW
  have hA : DataW.TrodAll enc Try.prog W 0 (fun _ => true) true Try.f12.params.toList args.toList ds p := hA0
  rw [Try.params12] at hA hval
  obtain ⟨v0, vs0, d0, ds0, p0, q0, hargs, rfl, rfl, h0, r0⟩ := trodAll_cons hA
  obtain ⟨rfl, rfl, rfl⟩ := trodAll_nil r0
  obtain rfl : args = #[v0] := by cases args; simp_all
  obtain ⟨rfl, rfl⟩ := trodVars_none hV
  have k0 := h0
  have lt0 : ∀ x ∈ p0, x.block < W.heap.size := by obtain ⟨m, hm⟩ := k0; exact DataW.trod_lt m _ _ _ hm
  obtain ⟨cs0, rfl, hcs0⟩ := okWide_struct Try.underlying100 (hval 0 100 v0 rfl rfl)
  obtain ⟨x0, hK0, w0⟩ := Q.open_struct_arg opens0 h0
  obtain ⟨A0_2, c0_2, he0, hc0_2, hr0_2⟩ := k100_open hK0
  obtain rfl : cs0 = #[.int .i64 x0.f0, .int .i64 x0.f1, .slice A0_2 x0.f2.length c0_2] := Array.toList_inj.1 he0
  clear hA0 hval0 hsz0
  refine (PFnExactGoodClip.laws_FnExactGoodClip.walk Pure.FnExactGoodClip x0.f0 x0.f1 A0_2 c0_2 x0.f2 W hr0_2 hc0_2 w0).mono fun e W' ⟨he, bel⟩ => ?_
  subst he
  exact ⟨_, rfl, _, _, _, [], _, [], hW', trodAll_mk1 (shut_bool Try.underlying4 _), (trodAll_cons_mk (Below.trod laidOut (by kernel_rfl) (of_decide_eq_true (by kernel_rfl)) k0 bel lt0) trodAll_mk0), rfl, bel.frame _, fun h => by cases h⟩
theorem over : Rows.fnExactGoodClipRow.holds Try.pinned (OpenSpec.ofChange Rows.fnExactGoodClipSpec) :=
  OpenClaim.holds_of_wide 12 Try.f12 rfl rfl rfl rfl rfl rfl rfl ⟨rfl, rfl, rfl, rfl, rfl⟩ rfl rfl rfl rfl rfl (by kernel_rfl) Try.func12 (by kernel_rfl)
    (of_decide_eq_true (by kernel_rfl)) (by unfold Func.isWrapper; first | (rw [if_pos (by decide +kernel)]; kernel_rfl) | (rw [if_neg (by decide +kernel)]; exact ⟨rfl, rfl⟩))
    (fun os started H enc _ => lifted os started H enc)
theorem proved : Rows.FnExactGoodClipSaid := over
#print axioms proved
end Go.Proofs.Ytglaedjadlappaa.fnExactGoodClip
namespace Go.Proofs.Ytglaedjadlappaa
/-- The row, under a short name, for the claim. -/
theorem fnExactGoodClip_holds : Rows.FnExactGoodClipSaid := fnExactGoodClip.proved
end Go.Proofs.Ytglaedjadlappaa

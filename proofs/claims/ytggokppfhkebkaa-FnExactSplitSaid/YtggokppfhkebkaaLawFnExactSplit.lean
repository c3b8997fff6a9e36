-- written by myprint.py (a program of this session's over the kit's print)
import Derived.Test.YtggokppfhkebkaaRows
import Derived.Test.YtggokppfhkebkaaPFnExactSplitx8
import Derived.Test.YtggokppfhkebkaaPureFnExactSplit
import Derived.Test.YtggokppfhkebkaaQ
import Derived.WalkKit
import Derived.ProofKit
import Derived.OpenShut
import Derived.ShutString
import Derived.ChangeOld
import Derived.Below
import Derived.SizedLaws
namespace Go.Proofs.Ytggokppfhkebkaa.fnExactSplit
open Go.ChangeShapes Go.WideShapes Go.ChangeAt Go.RowKit Go.Proofs.Ytggokppfhkebkaa.PFnExactSplit Go.Proofs.YtggokppfhkebkaaW.PrintWords Go.Proofs.YtggokppfhkebkaaW.PrintMore Go.Proofs.Ytggokppfhkebkaa
open Go.ChangeMaps (open_string shut_string)
set_option linter.unusedVariables false
theorem own : ownKnob Try.prog.godebug = none := by kernel_rfl
theorem laidOut : laidOutB Try.prog = true := by kernel_rfl
theorem opens0 : Q.OpenK Try.prog 76 k76 (fun x => ((Lit.int .i64 x.f0).wf = true ∧ (Lit.int .i64 x.f1).wf = true ∧ (Lit.int .i64 x.f2).wf = true ∧ (Lit.int .i64 x.f3).wf = true ∧ (x.f4.length ≤ maxLen ∧ ∀ y0 ∈ x.f4, (Lit.int .i64 y0).wf = true))) := Q.openK_mono (Q.openK_struct (fun x : S76 => (x.f0, x.f1, x.f2, x.f3, x.f4)) (fun p => ⟨p.1, p.2.1, p.2.2.1, p.2.2.2.1, p.2.2.2.2⟩) (fun _ => rfl) Try.underlying76 (by kernel_rfl) (Q.openFs_cons rfl (by kernel_rfl) (Q.openK_int Try.underlying3) (Q.openFs_cons rfl (by kernel_rfl) (Q.openK_int Try.underlying3) (Q.openFs_cons rfl (by kernel_rfl) (Q.openK_int Try.underlying3) (Q.openFs_cons rfl (by kernel_rfl) (Q.openK_int Try.underlying3) (Q.openFs_last rfl (by kernel_rfl) (Q.openK_slice Try.underlying22 (by kernel_rfl) (Q.openK_int Try.underlying3)))))))) (fun _ h => h)
set_option maxRecDepth 100000 in
theorem lifted (os : Os) (started : os.Started) (H : Type) (enc : TypeId × Value → H) :
    ReturnsInHanded {} Try.checked os 10 .any (Rows.fnExactSplitSpec.pre6 enc Try.prog Try.f10 Rows.fnExactSplitRow.domain false) (Rows.fnExactSplitSpec.post enc Try.prog Try.f10 false true false false) := by
  refine returnsInHanded_of_change_sized (C := Try.checked) own started (by kernel_rfl) Try.func10
    (ChangeSpec.witness6 (enc := enc) (C := Try.checked) false ⟨#[], #[(.agg #[(.int .i64 0), (.int .i64 0), (.int .i64 0), (.int .i64 0), (.slice none 0 0)])], []⟩ 8 (by kernel_rfl) (by kernel_rfl) (by kernel_rfl) (by kernel_rfl)) ?_
  intro W base args ds gs before hval0 hW hcnd hsz0 _
  have hval : ∀ (j : Nat) t v, Try.f10.params[j]? = some t → args[j]? = some v → Value.okWide Try.prog W .any base t v := hval0
  have hW' := hW
  obtain ⟨p, q, hA0, hV, rfl, hfz, hnd⟩ := hW
  have hA : DataW.TrodAll enc Try.prog W 0 (fun _ => true) true Try.f10.params.toList args.toList ds p := hA0
  rw [Try.params10] at hA hval
  obtain ⟨v0, vs0, d0, ds0, p0, q0, hargs, rfl, rfl, h0, r0⟩ := trodAll_cons hA
  obtain ⟨rfl, rfl, rfl⟩ := trodAll_nil r0
  obtain rfl : args = #[v0] := by cases args; simp_all
  obtain ⟨rfl, rfl⟩ := trodVars_none hV
  have k0 := h0
  have lt0 : ∀ x ∈ p0, x.block < W.heap.size := by obtain ⟨m, hm⟩ := k0; exact DataW.trod_lt m _ _ _ hm
  obtain ⟨cs0, rfl, hcs0⟩ := okWide_struct Try.underlying76 (hval 0 76 v0 rfl rfl)
  obtain ⟨x0, hK0, w0⟩ := Q.open_struct_arg opens0 h0
  obtain ⟨A0_4, c0_4, he0, hc0_4, hr0_4⟩ := k76_open hK0
  obtain rfl : cs0 = #[.int .i64 x0.f0, .int .i64 x0.f1, .int .i64 x0.f2, .int .i64 x0.f3, .slice A0_4 x0.f4.length c0_4] := Array.toList_inj.1 he0
  clear hA0 hval0 hsz0
  refine (PFnExactSplit.laws_FnExactSplit.walk Pure.FnExactSplit x0.f0 x0.f1 x0.f2 x0.f3 A0_4 c0_4 x0.f4 W hr0_4 hc0_4 w0).mono fun e W' ⟨he, bel⟩ => ?_
  subst he
  exact ⟨_, rfl, _, _, _, [], _, [], hW', trodAll_mk1 (shut_bool Try.underlying4 _), (trodAll_cons_mk (Below.trod laidOut (by kernel_rfl) (of_decide_eq_true (by kernel_rfl)) k0 bel lt0) trodAll_mk0), rfl, bel.frame _, fun h => by cases h⟩
theorem over : Rows.fnExactSplitRow.holds Try.pinned (OpenSpec.ofChange Rows.fnExactSplitSpec) :=
  OpenClaim.holds_of_wide 10 Try.f10 rfl rfl rfl rfl rfl rfl rfl ⟨rfl, rfl, rfl, rfl, rfl⟩ rfl rfl rfl rfl rfl (by kernel_rfl) Try.func10 (by kernel_rfl)
    (of_decide_eq_true (by kernel_rfl)) (by unfold Func.isWrapper; first | (rw [if_pos (by decide +kernel)]; kernel_rfl) | (rw [if_neg (by decide +kernel)]; exact ⟨rfl, rfl⟩))
    (fun os started H enc _ => lifted os started H enc)
theorem proved : Rows.FnExactSplitSaid := over
#print axioms proved
end Go.Proofs.Ytggokppfhkebkaa.fnExactSplit
namespace Go.Proofs.Ytggokppfhkebkaa
/-- The row, under a short name, for the claim. -/
theorem fnExactSplit_holds : Rows.FnExactSplitSaid := fnExactSplit.proved
end Go.Proofs.Ytggokppfhkebkaa

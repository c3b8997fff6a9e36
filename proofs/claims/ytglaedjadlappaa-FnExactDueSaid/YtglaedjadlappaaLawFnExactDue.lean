-- written by myprint.py (a program of this session's over the kit's print)
import Derived.Test.YtglaedjadlappaaRows
import Derived.Test.YtglaedjadlappaaPFnExactDuex9
import Derived.Test.YtglaedjadlappaaPureFnExactDue
import Derived.Test.YtglaedjadlappaaQ
import Derived.WalkKit
import Derived.ProofKit
import Derived.OpenShut
import Derived.ShutString
import Derived.ChangeOld
import Derived.Below
import Derived.SizedLaws
namespace Go.Proofs.Ytglaedjadlappaa.fnExactDue
open Go.ChangeShapes Go.WideShapes Go.ChangeAt Go.RowKit Go.Proofs.Ytglaedjadlappaa.PFnExactDue Go.Proofs.YtglaedjadlappaaW.PrintWords Go.Proofs.Ytglaedjadlappaa
open Go.ChangeMaps (open_string shut_string)
set_option linter.unusedVariables false
theorem own : ownKnob Try.prog.godebug = none := by kernel_rfl
theorem laidOut : laidOutB Try.prog = true := by kernel_rfl
theorem opens0 : Q.OpenK Try.prog 70 k70 (fun x => ((x.f0.length ≤ maxLen ∧ ∀ y0 ∈ x.f0, ((Lit.int .i64 y0.f0).wf = true ∧ (Lit.int .i64 y0.f1).wf = true ∧ y0.f2.size ≤ maxLen)) ∧ (x.f1.length ≤ maxLen ∧ ∀ y0 ∈ x.f1, ((Lit.int .i64 y0.f0).wf = true ∧ (Lit.int .i64 y0.f1).wf = true ∧ (Lit.int .i64 y0.f2).wf = true ∧ True ∧ (y0.f4.length ≤ maxLen ∧ ∀ y1 ∈ y0.f4, (Lit.int .u8 y1).wf = true))))) := Q.openK_mono (Q.openK_struct (fun x : S70 => (x.f0, x.f1)) (fun p => ⟨p.1, p.2⟩) (fun _ => rfl) Try.underlying70 (by kernel_rfl) (Q.openFs_cons rfl (by kernel_rfl) (Q.openK_slice Try.underlying67 (by kernel_rfl) (Q.openK_struct (fun x : S180 => (x.f0, x.f1, x.f2)) (fun p => ⟨p.1, p.2.1, p.2.2⟩) (fun _ => rfl) Try.underlying180 (by kernel_rfl) (Q.openFs_cons rfl (by kernel_rfl) (Q.openK_int Try.underlying3) (Q.openFs_cons rfl (by kernel_rfl) (Q.openK_int Try.underlying3) (Q.openFs_last rfl (by kernel_rfl) (Q.openK_string Try.underlying9)))))) (Q.openFs_last rfl (by kernel_rfl) (Q.openK_slice Try.underlying68 (by kernel_rfl) (Q.openK_struct (fun x : S183 => (x.f0, x.f1, x.f2, x.f3, x.f4)) (fun p => ⟨p.1, p.2.1, p.2.2.1, p.2.2.2.1, p.2.2.2.2⟩) (fun _ => rfl) Try.underlying183 (by kernel_rfl) (Q.openFs_cons rfl (by kernel_rfl) (Q.openK_int Try.underlying3) (Q.openFs_cons rfl (by kernel_rfl) (Q.openK_int Try.underlying3) (Q.openFs_cons rfl (by kernel_rfl) (Q.openK_int Try.underlying3) (Q.openFs_cons rfl (by kernel_rfl) (Q.openK_bool Try.underlying4) (Q.openFs_last rfl (by kernel_rfl) (Q.openK_slice Try.underlying36 (by kernel_rfl) (Q.openK_int Try.underlying5)))))))))))) (fun _ h => h)
set_option maxRecDepth 100000 in
theorem lifted (os : Os) (started : os.Started) (H : Type) (enc : TypeId × Value → H) :
    ReturnsInHanded {} Try.checked os 8 .any (Rows.fnExactDueSpec.pre6 enc Try.prog Try.f8 Rows.fnExactDueRow.domain false) (Rows.fnExactDueSpec.post enc Try.prog Try.f8 false true false false) := by
  refine returnsInHanded_of_change_sized (C := Try.checked) own started (by kernel_rfl) Try.func8
    (ChangeSpec.witness6 (enc := enc) (C := Try.checked) false ⟨#[], #[(.agg #[(.slice none 0 0), (.slice none 0 0)]), .int .i64 0], []⟩ 8 (by kernel_rfl) (by kernel_rfl) (by kernel_rfl) (by kernel_rfl)) ?_
  intro W base args ds gs before hval0 hW hcnd hsz0 _
  have hval : ∀ (j : Nat) t v, Try.f8.params[j]? = some t → args[j]? = some v → Value.okWide Try.prog W .any base t v := hval0
  have hW' := hW
  obtain ⟨p, q, hA0, hV, rfl, hfz, hnd⟩ := hW
  have hA : DataW.TrodAll enc Try.prog W 0 (fun _ => true) true Try.f8.params.toList args.toList ds p := hA0
  rw [Try.params8] at hA hval
  obtain ⟨v0, vs0, d0, ds0, p0, q0, hargs, rfl, rfl, h0, r0⟩ := trodAll_cons hA
  obtain ⟨v1, vs1, d1, ds1, p1, q1, rfl, rfl, rfl, h1, r1⟩ := trodAll_cons r0
  obtain ⟨rfl, rfl, rfl⟩ := trodAll_nil r1
  obtain rfl : args = #[v0, v1] := by cases args; simp_all
  obtain ⟨rfl, rfl⟩ := trodVars_none hV
  have k0 := h0
  have lt0 : ∀ x ∈ p0, x.block < W.heap.size := by obtain ⟨m, hm⟩ := k0; exact DataW.trod_lt m _ _ _ hm
  obtain ⟨cs0, rfl, hcs0⟩ := okWide_struct Try.underlying70 (hval 0 70 v0 rfl rfl)
  obtain ⟨x0, hK0, w0⟩ := Q.open_struct_arg opens0 h0
  obtain ⟨A0_0, c0_0, A0_1, c0_1, he0, hc0_0, hr0_0, hc0_1, hr0_1⟩ := k70_open hK0
  obtain rfl : cs0 = #[.slice A0_0 x0.f0.length c0_0, .slice A0_1 x0.f1.length c0_1] := Array.toList_inj.1 he0
  obtain ⟨a1, rfl, rfl, rfl, w1⟩ := open_int Try.underlying3 (hval 1 3 v1 rfl rfl) h1
  clear hA0 hval0 hsz0
  refine (PFnExactDue.laws_FnExactDue.walk Pure.FnExactDue A0_0 c0_0 x0.f0 A0_1 c0_1 x0.f1 a1 W hr0_0 hc0_0 hr0_1 hc0_1 w0 w1).mono fun e W' ⟨he, bel⟩ => ?_
  subst he
  exact ⟨_, rfl, _, _, _, [], _, [], hW', trodAll_mk1 (shut_bool Try.underlying4 _), (trodAll_cons_mk (Below.trod laidOut (by kernel_rfl) (of_decide_eq_true (by kernel_rfl)) k0 bel lt0) (trodAll_cons_mk (shut_int Try.underlying3 w1) trodAll_mk0)), rfl, bel.frame _, fun h => by cases h⟩
theorem over : Rows.fnExactDueRow.holds Try.pinned (OpenSpec.ofChange Rows.fnExactDueSpec) :=
  OpenClaim.holds_of_wide 8 Try.f8 rfl rfl rfl rfl rfl rfl rfl ⟨rfl, rfl, rfl, rfl, rfl⟩ rfl rfl rfl rfl rfl (by kernel_rfl) Try.func8 (by kernel_rfl)
    (of_decide_eq_true (by kernel_rfl)) (by unfold Func.isWrapper; first | (rw [if_pos (by decide +kernel)]; kernel_rfl) | (rw [if_neg (by decide +kernel)]; exact ⟨rfl, rfl⟩))
    (fun os started H enc _ => lifted os started H enc)
theorem proved : Rows.FnExactDueSaid := over
#print axioms proved
end Go.Proofs.Ytglaedjadlappaa.fnExactDue
namespace Go.Proofs.Ytglaedjadlappaa
/-- The row, under a short name, for the claim. -/
theorem fnExactDue_holds : Rows.FnExactDueSaid := fnExactDue.proved
end Go.Proofs.Ytglaedjadlappaa

-- written by myprint.py (a program of this session's over the kit's print)
import Derived.Test.YtglaedjadlappaaRows
import Derived.Test.YtglaedjadlappaaPFnExactGoodPhotox8
import Derived.Test.YtglaedjadlappaaPureFnExactGoodPhoto
import Derived.Test.YtglaedjadlappaaQ
import Derived.WalkKit
import Derived.ProofKit
import Derived.OpenShut
import Derived.ShutString
import Derived.ChangeOld
import Derived.Below
import Derived.SizedLaws
namespace Go.Proofs.Ytglaedjadlappaa.fnExactGoodPhoto
open Go.ChangeShapes Go.WideShapes Go.ChangeAt Go.RowKit Go.Proofs.Ytglaedjadlappaa.PFnExactGoodPhoto Go.Proofs.YtglaedjadlappaaW.PrintWords Go.Proofs.YtglaedjadlappaaW.PrintMore Go.Proofs.Ytglaedjadlappaa
open Go.ChangeMaps (open_string shut_string)
set_option linter.unusedVariables false
theorem own : ownKnob Try.prog.godebug = none := by kernel_rfl
theorem laidOut : laidOutB Try.prog = true := by kernel_rfl
theorem opens0 : Q.OpenK Try.prog 111 k111 (fun x => ((Lit.int .i64 x.f0).wf = true ∧ (Lit.int .i64 x.f1).wf = true ∧ (Lit.int .i64 x.f2).wf = true ∧ True ∧ True ∧ (Lit.int .i64 x.f5).wf = true ∧ (x.f6.length ≤ maxLen ∧ ∀ y0 ∈ x.f6, (y0.length ≤ maxLen ∧ ∀ y1 ∈ y0, (Lit.int .i64 y1).wf = true)))) := Q.openK_mono (Q.openK_struct (fun x : S111 => (x.f0, x.f1, x.f2, x.f3, x.f4, x.f5, x.f6)) (fun p => ⟨p.1, p.2.1, p.2.2.1, p.2.2.2.1, p.2.2.2.2.1, p.2.2.2.2.2.1, p.2.2.2.2.2.2⟩) (fun _ => rfl) Try.underlying111 (by kernel_rfl) (Q.openFs_cons rfl (by kernel_rfl) (Q.openK_int Try.underlying3) (Q.openFs_cons rfl (by kernel_rfl) (Q.openK_int Try.underlying3) (Q.openFs_cons rfl (by kernel_rfl) (Q.openK_int Try.underlying3) (Q.openFs_cons rfl (by kernel_rfl) (Q.openK_bool Try.underlying4) (Q.openFs_cons rfl (by kernel_rfl) (Q.openK_bool Try.underlying4) (Q.openFs_cons rfl (by kernel_rfl) (Q.openK_int Try.underlying3) (Q.openFs_last rfl (by kernel_rfl) (Q.openK_slice Try.underlying109 (by kernel_rfl) (Q.openK_slice Try.underlying22 (by kernel_rfl) (Q.openK_int Try.underlying3))))))))))) (fun _ h => h)
set_option maxRecDepth 100000 in
theorem lifted (os : Os) (started : os.Started) (H : Type) (enc : TypeId × Value → H) :
    ReturnsInHanded {} Try.checked os 13 .any (Rows.fnExactGoodPhotoSpec.pre6 enc Try.prog Try.f13 Rows.fnExactGoodPhotoRow.domain false) (Rows.fnExactGoodPhotoSpec.post enc Try.prog Try.f13 false true false false) := by
  refine returnsInHanded_of_change_sized (C := Try.checked) own started (by kernel_rfl) Try.func13
    (ChangeSpec.witness6 (enc := enc) (C := Try.checked) false ⟨#[], #[(.agg #[(.int .i64 0), (.int .i64 0), (.int .i64 0), (.bool false), (.bool false), (.int .i64 0), (.slice none 0 0)])], []⟩ 8 (by kernel_rfl) (by kernel_rfl) (by kernel_rfl) (by kernel_rfl)) ?_
  intro W base args ds gs before hval0 hW hcnd hsz0 _
  have hval : ∀ (j : Nat) t v, Try.f13.params[j]? = some t → args[j]? = some v → Value.okWide Try.prog W .any base t v := hval0
  have hW' := hW
  obtain ⟨p, q, hA0, hV, rfl, hfz, hnd⟩ := hW
  have hA : DataW.TrodAll enc Try.prog W 0 (fun _ => true) true Try.f13.params.toList args.toList ds p := hA0
  rw [Try.params13] at hA hval
  obtain ⟨v0, vs0, d0, ds0, p0, q0, hargs, rfl, rfl, h0, r0⟩ := trodAll_cons hA
  obtain ⟨rfl, rfl, rfl⟩ := trodAll_nil r0
  obtain rfl : args = #[v0] := by cases args; simp_all
  obtain ⟨rfl, rfl⟩ := trodVars_none hV
  have k0 := h0
  have lt0 : ∀ x ∈ p0, x.block < W.heap.size := by obtain ⟨m, hm⟩ := k0; exact DataW.trod_lt m _ _ _ hm
  obtain ⟨cs0, rfl, hcs0⟩ := okWide_struct Try.underlying111 (hval 0 111 v0 rfl rfl)
  obtain ⟨x0, hK0, w0⟩ := Q.open_struct_arg opens0 h0
  obtain ⟨A0_6, c0_6, he0, hc0_6, hr0_6⟩ := k111_open hK0
  obtain rfl : cs0 = #[.int .i64 x0.f0, .int .i64 x0.f1, .int .i64 x0.f2, .bool x0.f3, .bool x0.f4, .int .i64 x0.f5, .slice A0_6 x0.f6.length c0_6] := Array.toList_inj.1 he0
  clear hA0 hval0 hsz0
  refine (PFnExactGoodPhoto.laws_FnExactGoodPhoto.walk Pure.FnExactGoodPhoto x0.f0 x0.f1 x0.f2 x0.f3 x0.f4 x0.f5 A0_6 c0_6 x0.f6 W hr0_6 hc0_6 w0).mono fun e W' ⟨he, bel⟩ => ?_
  subst he
  exact ⟨_, rfl, _, _, _, [], _, [], hW', trodAll_mk1 (shut_bool Try.underlying4 _), (trodAll_cons_mk (Below.trod laidOut (by kernel_rfl) (of_decide_eq_true (by kernel_rfl)) k0 bel lt0) trodAll_mk0), rfl, bel.frame _, fun h => by cases h⟩
theorem over : Rows.fnExactGoodPhotoRow.holds Try.pinned (OpenSpec.ofChange Rows.fnExactGoodPhotoSpec) :=
  OpenClaim.holds_of_wide 13 Try.f13 rfl rfl rfl rfl rfl rfl rfl ⟨rfl, rfl, rfl, rfl, rfl⟩ rfl rfl rfl rfl rfl (by kernel_rfl) Try.func13 (by kernel_rfl)
    (of_decide_eq_true (by kernel_rfl)) (by unfold Func.isWrapper; first | (rw [if_pos (by decide +kernel)]; kernel_rfl) | (rw [if_neg (by decide +kernel)]; exact ⟨rfl, rfl⟩))
    (fun os started H enc _ => lifted os started H enc)
theorem proved : Rows.FnExactGoodPhotoSaid := over
#print axioms proved
end Go.Proofs.Ytglaedjadlappaa.fnExactGoodPhoto
namespace Go.Proofs.Ytglaedjadlappaa
/-- The row, under a short name, for the claim. -/
theorem fnExactGoodPhoto_holds : Rows.FnExactGoodPhotoSaid := fnExactGoodPhoto.proved
end Go.Proofs.Ytglaedjadlappaa

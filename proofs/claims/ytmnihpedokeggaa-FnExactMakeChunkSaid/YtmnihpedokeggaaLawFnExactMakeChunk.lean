-- written by myprint.py (a program of this session's over the kit's print)
import Derived.Test.YtmnihpedokeggaaRows
import Derived.Test.YtmnihpedokeggaaPFnExactMakeChunkx3
import Derived.Test.YtmnihpedokeggaaPureFnExactMakeChunk
import Derived.Test.YtmnihpedokeggaaQ
import Derived.WalkKit
import Derived.ProofKit
import Derived.OpenShut
import Derived.ShutString
import Derived.ChangeOld
import Derived.Below
import Derived.SizedLaws
namespace Go.Proofs.Ytmnihpedokeggaa.fnExactMakeChunk
open Go.ChangeShapes Go.WideShapes Go.ChangeAt Go.RowKit Go.Proofs.Ytmnihpedokeggaa.PFnExactMakeChunk Go.Proofs.YtmnihpedokeggaaW.PrintWords Go.Proofs.YtmnihpedokeggaaW.PrintMore Go.Proofs.Ytmnihpedokeggaa
open Go.ChangeMaps (open_string shut_string)
set_option linter.unusedVariables false
theorem own : ownKnob Try.prog.godebug = none := by kernel_rfl
theorem laidOut : laidOutB Try.prog = true := by kernel_rfl
theorem opens0 : Q.OpenK Try.prog 31 k31 (fun x => (x.f0.size ≤ maxLen ∧ (x.f1.length ≤ maxLen ∧ ∀ y0 ∈ x.f1, (Lit.int .u8 y0).wf = true))) := Q.openK_mono (Q.openK_struct (fun x : S31 => (x.f0, x.f1)) (fun p => ⟨p.1, p.2⟩) (fun _ => rfl) Try.underlying31 (by kernel_rfl) (Q.openFs_cons rfl (by kernel_rfl) (Q.openK_string Try.underlying9) (Q.openFs_last rfl (by kernel_rfl) (Q.openK_slice Try.underlying29 (by kernel_rfl) (Q.openK_int Try.underlying5))))) (fun _ h => h)
set_option maxRecDepth 100000 in
theorem lifted (os : Os) (started : os.Started) (H : Type) (enc : TypeId × Value → H) :
    ReturnsInHanded {} Try.checked os 4 .any (Rows.fnExactMakeChunkSpec.pre6 enc Try.prog Try.f4 Rows.fnExactMakeChunkRow.domain false) (Rows.fnExactMakeChunkSpec.post enc Try.prog Try.f4 false true false false) := by
  refine returnsInHanded_of_change_sized (C := Try.checked) own started (by kernel_rfl) Try.func4
    (ChangeSpec.witness6 (enc := enc) (C := Try.checked) false ⟨#[], #[(.agg #[(.string ⟨#[]⟩), (.slice none 0 0)])], []⟩ 8 (by kernel_rfl) (by kernel_rfl) (by kernel_rfl) (by kernel_rfl)) ?_
  intro W base args ds gs before hval0 hW hcnd hsz0 _
  have hval : ∀ (j : Nat) t v, Try.f4.params[j]? = some t → args[j]? = some v → Value.okWide Try.prog W .any base t v := hval0
  have hW' := hW
  obtain ⟨p, q, hA0, hV, rfl, hfz, hnd⟩ := hW
  have hA : DataW.TrodAll enc Try.prog W 0 (fun _ => true) true Try.f4.params.toList args.toList ds p := hA0
  rw [Try.params4] at hA hval
  obtain ⟨v0, vs0, d0, ds0, p0, q0, hargs, rfl, rfl, h0, r0⟩ := trodAll_cons hA
  obtain ⟨rfl, rfl, rfl⟩ := trodAll_nil r0
  obtain rfl : args = #[v0] := by cases args; simp_all
  obtain ⟨rfl, rfl⟩ := trodVars_none hV
  have k0 := h0
  have lt0 : ∀ x ∈ p0, x.block < W.heap.size := by obtain ⟨m, hm⟩ := k0; exact DataW.trod_lt m _ _ _ hm
  obtain ⟨cs0, rfl, hcs0⟩ := okWide_struct Try.underlying31 (hval 0 31 v0 rfl rfl)
  obtain ⟨x0, hK0, w0⟩ := Q.open_struct_arg opens0 h0
  obtain ⟨A0_1, c0_1, he0, hc0_1, hr0_1⟩ := k31_open hK0
  obtain rfl : cs0 = #[.string x0.f0, .slice A0_1 x0.f1.length c0_1] := Array.toList_inj.1 he0
  clear hA0 hval0 hsz0
  refine (PFnExactMakeChunk.laws_FnExactMakeChunk.walk Pure.FnExactMakeChunk x0.f0 A0_1 c0_1 x0.f1 W hr0_1 hc0_1 w0).mono fun e W' ⟨he, bel⟩ => ?_
  subst he
  exact ⟨_, rfl, _, _, _, [], _, [], hW', trodAll_mk1 (shut_bool Try.underlying4 _), (trodAll_cons_mk (Below.trod laidOut (by kernel_rfl) (of_decide_eq_true (by kernel_rfl)) k0 bel lt0) trodAll_mk0), rfl, bel.frame _, fun h => by cases h⟩
theorem over : Rows.fnExactMakeChunkRow.holds Try.pinned (OpenSpec.ofChange Rows.fnExactMakeChunkSpec) :=
  OpenClaim.holds_of_wide 4 Try.f4 rfl rfl rfl rfl rfl rfl rfl ⟨rfl, rfl, rfl, rfl, rfl⟩ rfl rfl rfl rfl rfl (by kernel_rfl) Try.func4 (by kernel_rfl)
    (of_decide_eq_true (by kernel_rfl)) (by unfold Func.isWrapper; first | (rw [if_pos (by decide +kernel)]; kernel_rfl) | (rw [if_neg (by decide +kernel)]; exact ⟨rfl, rfl⟩))
    (fun os started H enc _ => lifted os started H enc)
theorem proved : Rows.FnExactMakeChunkSaid := over
#print axioms proved
end Go.Proofs.Ytmnihpedokeggaa.fnExactMakeChunk
namespace Go.Proofs.Ytmnihpedokeggaa
/-- The row, under a short name, for the claim. -/
theorem fnExactMakeChunk_holds : Rows.FnExactMakeChunkSaid := fnExactMakeChunk.proved
end Go.Proofs.Ytmnihpedokeggaa

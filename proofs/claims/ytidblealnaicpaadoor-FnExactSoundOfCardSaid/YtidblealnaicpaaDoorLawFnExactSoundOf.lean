-- written by myprint.py (a program of this session's over the kit's print)
import Derived.Test.YtidblealnaicpaaDoorRows
import Derived.Test.YtidblealnaicpaaDoorPFnExactSoundOfx9
import Derived.Test.YtidblealnaicpaaDoorPureFnExactSoundOf
import Derived.Test.YtidblealnaicpaaDoorQ
import Derived.WalkKit
import Derived.ProofKit
import Derived.OpenShut
import Derived.ShutString
import Derived.ChangeOld
import Derived.Below
import Derived.SizedLaws
import Derived.LaidMore
import Derived.LaidHandle
import Derived.MakeChecks
import Derived.Stop.Joined
import Derived.SevenTiedAt
import Derived.Test.YtidblealnaicpaaDoorCards
import Derived.Test.YtidblealnaicpaaDoorTie
import Derived.Test.YtidblealnaicpaaDoorM
import Derived.HandedShaped
namespace Go.Proofs.YtidblealnaicpaaDoor.fnExactSoundOf
open Go.ChangeShapes Go.WideShapes Go.ChangeAt Go.RowKit Go.Proofs.YtidblealnaicpaaDoor.PFnExactSoundOf Go.Proofs.YtidblealnaicpaaDoorW.PrintWords Go.Proofs.YtidblealnaicpaaDoorW.PrintMore Go.Proofs.YtidblealnaicpaaDoor Go.Proofs.YtidblealnaicpaaDoorW.PrintWords
open Go.ChangeMaps (open_string shut_string)
set_option linter.unusedVariables false
theorem own : ownKnob Tryd.prog.godebug = none := by kernel_rfl
theorem laidOut : laidOutB Tryd.prog = true := by kernel_rfl
theorem opens0 : Q.OpenK Tryd.prog 33 k33 (fun x => ((Lit.int .i64 x.f0).wf = true ∧ (Lit.int .i64 x.f1).wf = true ∧ (Lit.int .i64 x.f2).wf = true ∧ (x.f3.length ≤ maxLen ∧ ∀ y0 ∈ x.f3, (y0.length ≤ maxLen ∧ ∀ y1 ∈ y0, (Lit.int .i64 y1).wf = true)) ∧ (x.f4.length ≤ maxLen ∧ ∀ y0 ∈ x.f4, (y0.length ≤ maxLen ∧ ∀ y1 ∈ y0, (Lit.int .i64 y1).wf = true)))) := Q.openK_mono (Q.openK_struct (fun x : S33 => (x.f0, x.f1, x.f2, x.f3, x.f4)) (fun p => ⟨p.1, p.2.1, p.2.2.1, p.2.2.2.1, p.2.2.2.2⟩) (fun _ => rfl) Tryd.underlying33 (by kernel_rfl) (Q.openFs_cons rfl (by kernel_rfl) (Q.openK_int Tryd.underlying3) (Q.openFs_cons rfl (by kernel_rfl) (Q.openK_int Tryd.underlying3) (Q.openFs_cons rfl (by kernel_rfl) (Q.openK_int Tryd.underlying3) (Q.openFs_cons rfl (by kernel_rfl) (Q.openK_slice Tryd.underlying31 (by kernel_rfl) (Q.openK_slice Tryd.underlying22 (by kernel_rfl) (Q.openK_int Tryd.underlying3))) (Q.openFs_last rfl (by kernel_rfl) (Q.openK_slice Tryd.underlying31 (by kernel_rfl) (Q.openK_slice Tryd.underlying22 (by kernel_rfl) (Q.openK_int Tryd.underlying3))))))))) (fun _ h => h)
def laid1 : List (String × DataW Unit) := [("loop.example/g00016/impl.zk", Rows.laid_loop_example_g00016_impl_zk)]
theorem gZk : Tryd.prog.globalNamed "loop.example/g00016/impl.zk" = some 1 := by kernel_rfl
theorem tZk : (Tryd.prog.globals[1]?).map (·.type) = some 59 := by kernel_rfl
theorem datum : (Rows.laid_loop_example_g00016_impl_zk : DataW Unit) = .agg (zkL.map fun n => .lit (.int .i64 n)) := rfl
/-- The door's own heap meets the condition. -/
theorem door_met (os : Os) (args : Array Value) : laidMetH Tryd.prog laid1 ((World.doorLaid Tryd.prog 600 os).forCall (fun _ _ => 0) ⟨#[], args, []⟩).memory :=
  laidMetH_of_parts3 (fuel := 8) (laidMet_of_run' 8 (by kernel_rfl) (by kernel_rfl)) (by kernel_rfl) (by kernel_rfl)
theorem one_of {l : List Value} {i : Nat} {v : Value} (h : (l.drop i).take 1 = [v]) : l[i]? = some v := by
  have e : ((l.drop i).take 1)[0]? = some v := by rw [h]; rfl
  rw [List.getElem?_take_of_lt (by omega), List.getElem?_drop] at e
  exact e
/-- What the condition gives the walk: the table's cells. -/
theorem of_laid {W : World} (h : laidMetH Tryd.prog laid1 W) : MX W := by
  rw [MakeChecks.laidMetH_plain _ _ _ (by kernel_rfl)] at h
  obtain ⟨ps, ⟨g0, t0, cs0, f0, p0, q0, hg0, ht0, hv0, hd0, _, _⟩, _⟩ := h
  obtain rfl := Option.some.inj (gZk.symm.trans hg0)
  obtain rfl := Option.some.inj (tZk.symm.trans ht0)
  obtain ⟨xs, m1, rfl, hx1, hlen, hn, hel⟩ := DataW.trod_array Tryd.underlying59 hd0
  have c3 : Tryd.prog.cellsOf 3 = 1 := by kernel_rfl
  intro i hi
  have hxi : i < xs.length := by rw [hn]; exact hi
  have hi' := hel i hi
  rw [c3, Nat.mul_one, List.getElem?_eq_getElem hxi] at hi'
  obtain ⟨k, e1, e2, _⟩ := DataW.trod_int Tryd.underlying3 hi'
  have hx2 := congrArg Prod.fst hx1
  rw [datum] at hx2
  have hx3 : (zkL.map fun n => (DataW.lit (.int .i64 n) : DataW Unit)) = xs.map (·.1) := DataW.agg.inj hx2
  have hz : i < zkL.length := hi
  have hx4 := congrArg (fun l => l[i]?) hx3
  simp only [List.getElem?_map, List.getElem?_eq_getElem hz, List.getElem?_eq_getElem hxi, Option.map_some, Option.some.injEq, e2] at hx4
  have hk : zkL[i] = k := by
    injection hx4 with h1
    injection h1
  rw [World.var?_cell gZk hv0 i, (show zkL.getD i 0 = zkL[i] by simp [List.getD_eq_getElem?_getD, hz]), hk]
  have := one_of e1
  simpa using this
/-- The variable reads behind the call as it did before. -/
theorem vars_stay {H : Type} {enc : TypeId × Value → H} {W W' : World} {gs : List (DataW H)} {q : List MemPlace} (hM : MX W) (hb : Below W.heap.size W W') (hV : DataW.TrodVars enc Tryd.prog W (fun _ => true) ["loop.example/g00016/impl.zk"] gs q) :
    DataW.TrodVars enc Tryd.prog W' (fun b => decide (b < W.heap.size)) ["loop.example/g00016/impl.zk"] gs q := by
  obtain ⟨g, t, cs, fuel, d, p, rfl, hg, ht, hvar, hd, rfl⟩ := trodVars_one hV
  obtain rfl := Option.some.inj (gZk.symm.trans hg)
  obtain rfl := Option.some.inj (tZk.symm.trans ht)
  have h0 : (1 : Nat) < W.heap.size := World.block_lt_of_cell? W _ (hM 0 (by decide))
  have hvar' : W'.var? Tryd.prog "loop.example/g00016/impl.zk" = some cs := by
    unfold World.var? at hvar ⊢
    simp only [gZk, Option.bind_some] at hvar ⊢
    rw [hb.block 1 h0]
    exact hvar
  have hT : DataW.Trod enc Tryd.prog W 0 (fun _ => true) true 59 (.agg cs) d p := ⟨fuel, hd⟩
  obtain ⟨m, hm⟩ := Below.trod laidOut (by kernel_rfl) (of_decide_eq_true (by kernel_rfl)) hT hb (DataW.trod_lt fuel _ _ _ hd)
  exact trodVars_mk1 gZk tZk hvar' hm
set_option maxRecDepth 100000 in
theorem lifted (os : Os) (started : os.Started) (H : Type) (enc : TypeId × Value → H) :
    ReturnsInHanded {} Tryd.checked os 4 .any (fun w args => (Rows.fnExactSoundOfSpec.pre enc Tryd.prog Tryd.f4 [] false w args ∧ laidMetH Tryd.prog laid1 w) ∧ sizedMet enc Tryd.prog Tryd.f4 (OpenSpec.ofChange Rows.fnExactSoundOfSpec) false w args) (Rows.fnExactSoundOfSpec.post enc Tryd.prog Tryd.f4 false true false false) := by
  refine returnsInHanded_of_change_and (C := Tryd.checked) (X := fun w _ => laidMetH Tryd.prog laid1 w) (fun _ _ _ hh h => h.of_heap hh) own started (by kernel_rfl) Tryd.func4
    (ChangeSpec.witness_shaped (enc := enc) (C := Tryd.checked) (os := os) (X := fun w _ => laidMetH Tryd.prog laid1 w) false (World.doorLaid Tryd.prog 600 os) #[(.agg #[(.int .i64 0), (.int .i64 0), (.int .i64 0), (.slice none 0 0), (.slice none 0 0)])] 8 rfl (World.shaped_of_RefB (by kernel_rfl) (by kernel_rfl)) (by kernel_rfl) (by kernel_rfl) (by kernel_rfl) (door_met os _)) ?_
  intro W base args ds gs before hval0 hW hcnd hsz0 hL _
  have hval : ∀ (j : Nat) t v, Tryd.f4.params[j]? = some t → args[j]? = some v → Value.okWide Tryd.prog W .any base t v := hval0
  have hW' := hW
  obtain ⟨p, q, hA0, hV, rfl, hfz, hnd⟩ := hW
  have hA : DataW.TrodAll enc Tryd.prog W 0 (fun _ => true) true Tryd.f4.params.toList args.toList ds p := hA0
  rw [Tryd.params4] at hA hval
  obtain ⟨v0, vs0, d0, ds0, p0, q0, hargs, rfl, rfl, h0, r0⟩ := trodAll_cons hA
  obtain ⟨rfl, rfl, rfl⟩ := trodAll_nil r0
  obtain rfl : args = #[v0] := by cases args; simp_all
  have hV' := hV
  obtain ⟨g, t, cs, fuel, d, p', rfl, hg, ht, hvar, hd, hq⟩ := trodVars_one hV
  have hM : MX W := of_laid hL
  have k0 := h0
  have lt0 : ∀ x ∈ p0, x.block < W.heap.size := by obtain ⟨m, hm⟩ := k0; exact DataW.trod_lt m _ _ _ hm
  obtain ⟨cs0, rfl, hcs0⟩ := okWide_struct Tryd.underlying33 (hval 0 33 v0 rfl rfl)
  obtain ⟨x0, hK0, w0⟩ := Q.open_struct_arg opens0 h0
  obtain ⟨A0_3, c0_3, A0_4, c0_4, he0, hc0_3, hr0_3, hc0_4, hr0_4⟩ := k33_open hK0
  obtain rfl : cs0 = #[.int .i64 x0.f0, .int .i64 x0.f1, .int .i64 x0.f2, .slice A0_3 x0.f3.length c0_3, .slice A0_4 x0.f4.length c0_4] := Array.toList_inj.1 he0
  clear hA0 hval0 hsz0
  refine (PFnExactSoundOf.laws_FnExactSoundOf.walk Pure.FnExactSoundOf x0.f0 x0.f1 x0.f2 A0_3 c0_3 x0.f3 A0_4 c0_4 x0.f4 W hr0_3 hc0_3 hr0_4 hc0_4 w0 hM).mono fun e W' ⟨he, bel⟩ => ?_
  subst he
  exact ⟨_, rfl, _, _, _, [], _, _, hW', trodAll_mk1 (shut_bool Tryd.underlying4 _), (trodAll_cons_mk (Below.trod laidOut (by kernel_rfl) (of_decide_eq_true (by kernel_rfl)) k0 bel lt0) trodAll_mk0), vars_stay hM bel hV', bel.frame _, fun h => by cases h⟩
theorem over : Rows.fnExactSoundOfRow.holds Tryd.pinned (OpenSpec.ofChange Rows.fnExactSoundOfSpec) :=
  OpenClaim.holds_of_wide 4 Tryd.f4 rfl rfl rfl rfl rfl rfl rfl ⟨rfl, rfl, rfl, rfl, rfl⟩ rfl rfl rfl rfl rfl (by kernel_rfl) Tryd.func4 (by kernel_rfl)
    (of_decide_eq_true (by kernel_rfl)) (by unfold Func.isWrapper; first | (rw [if_pos (by decide +kernel)]; kernel_rfl) | (rw [if_neg (by decide +kernel)]; exact ⟨rfl, rfl⟩))
    (fun os started H enc _ => lifted os started H enc)
theorem proved : Rows.FnExactSoundOfSaid := over
/-- The tied card. -/
theorem card_holds : Rows.FnExactSoundOfCardSaid :=
  Claim7.holds_tied_plain_at .later [] [.data] true (true, "c4258b37fcc01bf2507f003df6bb931a242739a87ea1159c6794f589a7eebf2e") false
    proved (fun _ h => by cases h) (by kernel_rfl) (fun _ h => by cases h) fnExactSoundOf_row_tie rfl ⟨rfl, rfl⟩ (by kernel_rfl) rfl
    (fun f fn hf hfn => by
      obtain rfl : f = 4 := Option.some.inj ((show Tryd.prog.funcNamed "loop.example/g00016/laws.FnExactSoundOf" = some 4 by kernel_rfl).symm.trans hf) |>.symm
      obtain rfl : fn = Tryd.f4 := (Option.some.inj (Tryd.func4.symm.trans hfn)).symm
      exact ⟨by kernel_rfl, fun j t ht => by
        rw [Tryd.params4] at ht
        have hm : t ∈ ([33] : List Nat) := by simpa using Array.mem_of_getElem? ht
        have hall : (([33] : List Nat).all fun u => !Tryd.prog.wantsStandIn u) = true := by kernel_rfl
        exact (show Tryd.prog.wantsStandIn t = false by simpa using List.all_eq_true.1 hall t hm)⟩)
    (by kernel_rfl)
#print axioms proved
end Go.Proofs.YtidblealnaicpaaDoor.fnExactSoundOf
namespace Go.Proofs.YtidblealnaicpaaDoor
/-- The row, under a short name, for the claim. -/
theorem fnExactSoundOf_holds : Rows.FnExactSoundOfCardSaid := fnExactSoundOf.card_holds
end Go.Proofs.YtidblealnaicpaaDoor

-- written by myprint.py (a program of this session's over the kit's print)
import Derived.Test.YtofkbjmbohgikaaDoorRows
import Derived.Test.YtofkbjmbohgikaaDoorPFnExactReadChunksx6
import Derived.Test.YtofkbjmbohgikaaDoorPureFnExactReadChunks
import Derived.WalkKit
import Derived.ProofKit
import Derived.OpenShut
import Derived.ShutString
import Derived.ChangeOld
import Derived.Below
import Derived.SizedLaws
import Derived.LaidMore
import Derived.LaidHandle
import Derived.MakeChecks
import Derived.Stop.Joined
import Derived.SevenTiedAt
import Derived.Test.YtofkbjmbohgikaaDoorCards
import Derived.Test.YtofkbjmbohgikaaDoorTie
import Derived.Test.YtofkbjmbohgikaaDoorTFERCM
import Derived.Test.YtofkbjmbohgikaaDoorTFERCWSized
namespace Go.Proofs.YtofkbjmbohgikaaDoor.fnExactReadChunks
open Go.ChangeShapes Go.WideShapes Go.ChangeAt Go.RowKit Go.Proofs.YtofkbjmbohgikaaDoorW.PrintWords
open Go.ChangeMaps (open_string shut_string)
set_option linter.unusedVariables false
theorem own : ownKnob Tryd.prog.godebug = none := by kernel_rfl
theorem laidOut : laidOutB Tryd.prog = true := by kernel_rfl
def IsRow (k : IntKind) (w : World) (a : Option Addr) (len cap : Nat) (zs : List Int) : Prop :=
  (a = none ∧ len = 0 ∧ cap = 0 ∧ zs = []) ∨
  ∃ x, a = some x ∧ len ≤ cap ∧ cap ≤ maxLen ∧ zs.length = cap ∧ (∀ i, i < zs.length → w.cell? (x.add i) = some (.int k (zs.getD i 0))) ∧ ∀ n ∈ zs, (Lit.int k n).wf = true
def laid1 : List (String × DataW Unit) := [("loop.example/g00016/impl.stillHead", Rows.laid_loop_example_g00016_impl_stillHead)]
theorem gZk : Tryd.prog.globalNamed "loop.example/g00016/impl.stillHead" = some 0 := by kernel_rfl
theorem tZk : (Tryd.prog.globals[0]?).map (·.type) = some 22 := by kernel_rfl
theorem datum : (Rows.laid_loop_example_g00016_impl_stillHead : DataW Unit) = .slice (shL.map fun n => .lit (.int .u8 n)) [] := rfl
def fl : DataW Unit → Int
  | .lit (.int _ n) => n
  | _ => 0
/-- The door's own heap meets the condition. -/
theorem door_met (os : Os) (args : Array Value) : laidMetH Tryd.prog laid1 ((World.doorLaid Tryd.prog 600 os).forCall (fun _ _ => 0) ⟨#[], args, []⟩).memory :=
  laidMetH_of_parts3 (fuel := 8) (laidMet_of_run' 8 (by kernel_rfl) (by kernel_rfl)) (by kernel_rfl) (by kernel_rfl)
/-- What the condition gives the walk: the variable holds its bytes. -/
theorem of_laid {W : World} (h : laidMetH Tryd.prog laid1 W) : MX W := by
  rw [MakeChecks.laidMetH_plain _ _ _ (by kernel_rfl)] at h
  obtain ⟨ps, ⟨g0, t0, cs0, f0, p0, q0, hg0, ht0, hv0, hd0, _, _⟩, _⟩ := h
  obtain rfl := Option.some.inj (gZk.symm.trans hg0)
  obtain rfl := Option.some.inj (tZk.symm.trans ht0)
  rcases open_ints Tryd.underlying22 Tryd.underlying5 (by kernel_rfl) hd0 with ⟨_, hx⟩ | ⟨a, len, cap, zs, hcs, _, hl, hm, hz, hx, hcell, _⟩
  · have hx2 := congrArg Prod.fst hx
    rw [datum] at hx2
    cases hx2
  · have hx2 := congrArg Prod.fst hx
    rw [datum] at hx2
    injection hx2 with e1 e2
    have e3 := congrArg (List.map fl) e1
    simp only [lits, List.map_map] at e3
    rw [show (fl ∘ fun n => (DataW.lit (.int .u8 n) : DataW Unit)) = id from rfl, List.map_id, List.map_id] at e3
    have e4 : zs.drop len = [] := by
      have e5 := congrArg List.length e2
      simp only [lits, List.length_map, List.length_nil] at e5
      exact List.eq_nil_of_length_eq_zero e5.symm
    have e6 : zs = shL := by rw [← List.take_append_drop len zs, e4, List.append_nil, ← e3]
    have e7 := congrArg List.length e4
    rw [List.length_drop, List.length_nil] at e7
    have e8 : zs.length = 8 := by rw [e6]; rfl
    have hlen : len = shL.length := by
      show len = 8
      split at hz <;> omega
    subst hlen
    refine ⟨some a, cap, ?_, hl, Kd.C_of_reads (d := (0 : Int)) (h1 := fun _ => rfl) ⟨rfl, by decide, fun _ => ⟨a, rfl, fun j hj => ?_⟩⟩⟩
    · rw [World.var?_cell gZk hv0 0, ← Array.getElem?_toList, hcs]; rfl
    · have := hcell j (by rw [e6]; exact hj)
      rw [e6] at this
      exact this
/-- The variable reads behind the call as it did before. -/
theorem vars_stay {H : Type} {enc : TypeId × Value → H} {W W' : World} {gs : List (DataW H)} {q : List MemPlace} (hM : MX W) (hb : Below W.heap.size W W') (hV : DataW.TrodVars enc Tryd.prog W (fun _ => true) ["loop.example/g00016/impl.stillHead"] gs q) :
    DataW.TrodVars enc Tryd.prog W' (fun b => decide (b < W.heap.size)) ["loop.example/g00016/impl.stillHead"] gs q := by
  obtain ⟨g, t, cs, fuel, d, p, rfl, hg, ht, hvar, hd, rfl⟩ := trodVars_one hV
  obtain rfl := Option.some.inj (gZk.symm.trans hg)
  obtain rfl := Option.some.inj (tZk.symm.trans ht)
  obtain ⟨A_, c_, hc_, _, _⟩ := hM
  have h0 : (0 : Nat) < W.heap.size := World.block_lt_of_cell? W _ hc_
  have hvar' : W'.var? Tryd.prog "loop.example/g00016/impl.stillHead" = some cs := by
    unfold World.var? at hvar ⊢
    simp only [gZk, Option.bind_some] at hvar ⊢
    rw [hb.block 0 h0]
    exact hvar
  have hT : DataW.Trod enc Tryd.prog W 0 (fun _ => true) true 22 (.agg cs) d p := ⟨fuel, hd⟩
  obtain ⟨m, hm⟩ := Below.trod laidOut (by kernel_rfl) (of_decide_eq_true (by kernel_rfl)) hT hb (DataW.trod_lt fuel _ _ _ hd)
  exact trodVars_mk1 gZk tZk hvar' hm
set_option maxRecDepth 100000 in
theorem lifted (os : Os) (started : os.Started) (H : Type) (enc : TypeId × Value → H) :
    ReturnsInHanded {} Tryd.checked os 3 .any (fun w args => (Rows.fnExactReadChunksSpec.pre enc Tryd.prog Tryd.f3 [] false w args ∧ laidMetH Tryd.prog laid1 w) ∧ sizedMet enc Tryd.prog Tryd.f3 (OpenSpec.ofChange Rows.fnExactReadChunksSpec) false w args) (Rows.fnExactReadChunksSpec.post enc Tryd.prog Tryd.f3 false true false false) := by
  refine returnsInHanded_of_change_and (C := Tryd.checked) (X := fun w _ => laidMetH Tryd.prog laid1 w) (fun _ _ _ hh h => h.of_heap hh) own started (by kernel_rfl) Tryd.func3
    (ChangeSpec.witness_shaped (enc := enc) (C := Tryd.checked) (os := os) (X := fun w _ => laidMetH Tryd.prog laid1 w) false (World.doorLaid Tryd.prog 600 os) #[.slice none 0 0] 8 rfl (World.shaped_of_RefB (by kernel_rfl) (by kernel_rfl)) (by kernel_rfl) (by kernel_rfl) (by kernel_rfl) (door_met os _)) ?_
  intro W base args ds gs before hval0 hW hcnd hsz0 hL _
  have hsz : (DataW.weightsEach Tryd.prog (Tryd.f3.params.toList ++ Rows.fnExactReadChunksSpec.plain.varTypes Tryd.prog) (ds ++ gs)).all (· ≤ reachBytes) = true := hsz0
  have hval : ∀ (j : Nat) t v, Tryd.f3.params[j]? = some t → args[j]? = some v → Value.okWide Tryd.prog W .any base t v := hval0
  have hW' := hW
  obtain ⟨p, q, hA0, hV, rfl, hfz, hnd⟩ := hW
  have hA : DataW.TrodAll enc Tryd.prog W 0 (fun _ => true) true Tryd.f3.params.toList args.toList ds p := hA0
  rw [Tryd.params3] at hA hval hsz
  obtain ⟨v0, vs0, d0, ds0, p0, q0, hargs, rfl, rfl, h0, r0⟩ := trodAll_cons hA
  obtain ⟨rfl, rfl, rfl⟩ := trodAll_nil r0
  obtain rfl : args = #[v0] := by cases args; simp_all
  have hV' := hV
  obtain ⟨g, t, cs, fuel, d, p', rfl, hg, ht, hvar, hd, hq⟩ := trodVars_one hV
  have hM : MX W := of_laid hL
  obtain ⟨a0, len0, cap0, rfl⟩ := okWide_slice Tryd.underlying22 (hval 0 22 v0 rfl rfl)
  have k0 := h0
  have lt0 : ∀ x ∈ p0, x.block < W.heap.size := by obtain ⟨m, hm⟩ := k0; exact DataW.trod_lt m _ _ _ hm
  obtain ⟨z0, w0⟩ : ∃ zs, IsRow .u8 W a0 len0 cap0 zs := by
    obtain ⟨fuel, hf⟩ := h0
    rcases open_ints Tryd.underlying22 Tryd.underlying5 (by kernel_rfl) hf with ⟨hcs, _⟩ | ⟨x, l, c, zs, hcs, _, hl, hm, hz, _, hcell, hwz⟩
    · simp [Value.cells] at hcs
      obtain ⟨rfl, rfl, rfl⟩ := hcs
      exact ⟨[], .inl ⟨rfl, rfl, rfl, rfl⟩⟩
    · simp [Value.cells] at hcs
      obtain ⟨rfl, rfl, rfl⟩ := hcs
      exact ⟨zs, .inr ⟨_, rfl, hl, hm, by simpa using hz, hcell, hwz⟩⟩
  have y0 : len0 * 1 ≤ 140737488351232 := Go.Proofs.YtofkbjmbohgikaaDoorW.PrintWords.sized_ints hsz (j := 0) (t := 22) rfl rfl Tryd.underlying22 Tryd.underlying5 (by kernel_rfl) (by kernel_rfl) h0
  clear hA0 hval0 hsz0 hsz
  refine (PFnExactReadChunks.laws_FnExactReadChunks.walk Pure.FnExactReadChunks a0 len0 cap0 z0 W w0 y0 hM).mono fun e W' ⟨he, bel⟩ => ?_
  subst he
  exact ⟨_, rfl, _, _, _, [], _, _, hW', trodAll_mk1 (shut_bool Tryd.underlying4 _), (trodAll_cons_mk (Below.trod laidOut (by kernel_rfl) (of_decide_eq_true (by kernel_rfl)) k0 bel lt0) trodAll_mk0), vars_stay hM bel hV', bel.frame _, fun h => by cases h⟩
theorem over : Rows.fnExactReadChunksRow.holds Tryd.pinned (OpenSpec.ofChange Rows.fnExactReadChunksSpec) :=
  OpenClaim.holds_of_wide 3 Tryd.f3 rfl rfl rfl rfl rfl rfl rfl ⟨rfl, rfl, rfl, rfl, rfl⟩ rfl rfl rfl rfl rfl (by kernel_rfl) Tryd.func3 (by kernel_rfl)
    (of_decide_eq_true (by kernel_rfl)) (by unfold Func.isWrapper; first | (rw [if_pos (by decide +kernel)]; kernel_rfl) | (rw [if_neg (by decide +kernel)]; exact ⟨rfl, rfl⟩))
    (fun os started H enc _ => lifted os started H enc)
theorem proved : Rows.FnExactReadChunksSaid := over
/-- The tied card. -/
theorem card_holds : Rows.FnExactReadChunksCardSaid :=
  Claim7.holds_tied_plain_at .later [] [.widerDeep] true (true, "8b08e0e0ee00b488a2e842b5eeffc409f8bd2421081abade1e048dd5fba0aca4") false
    proved (fun _ h => by cases h) (by kernel_rfl) (fun _ h => by cases h) fnExactReadChunks_row_tie rfl ⟨rfl, rfl⟩ (by kernel_rfl) rfl
    (fun f fn hf hfn => by
      obtain rfl : f = 3 := Option.some.inj ((show Tryd.prog.funcNamed "loop.example/g00016/laws.FnExactReadChunks" = some 3 by kernel_rfl).symm.trans hf) |>.symm
      obtain rfl : fn = Tryd.f3 := (Option.some.inj (Tryd.func3.symm.trans hfn)).symm
      exact ⟨by kernel_rfl, fun j t ht => by
        rw [Tryd.params3] at ht
        have hm : t ∈ ([22] : List Nat) := by simpa using Array.mem_of_getElem? ht
        have hall : (([22] : List Nat).all fun u => !Tryd.prog.wantsStandIn u) = true := by kernel_rfl
        exact (show Tryd.prog.wantsStandIn t = false by simpa using List.all_eq_true.1 hall t hm)⟩)
    (by kernel_rfl)
#print axioms proved
end Go.Proofs.YtofkbjmbohgikaaDoor.fnExactReadChunks
namespace Go.Proofs.YtofkbjmbohgikaaDoor
/-- The row, under a short name, for the claim. -/
theorem fnExactReadChunks_holds : Rows.FnExactReadChunksCardSaid := fnExactReadChunks.card_holds
end Go.Proofs.YtofkbjmbohgikaaDoor

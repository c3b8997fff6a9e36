-- written by myprint.py (a program of this session's over the kit's print)
import Derived.Test.YtmnihpedokeggaaDoorRows
import Derived.Test.YtmnihpedokeggaaDoorPFnLapsx4
import Derived.Test.YtmnihpedokeggaaDoorPureFnLaps
import Derived.WalkKit
import Derived.ProofKit
import Derived.OpenShut
import Derived.ShutString
import Derived.ChangeOld
import Derived.Below
import Derived.SizedLaws
import Derived.LaidMore
import Derived.LaidHandle
import Derived.MakeChecks
import Derived.Stop.Joined
import Derived.SevenTiedAt
import Derived.Test.YtmnihpedokeggaaDoorCards
import Derived.Test.YtmnihpedokeggaaDoorTie
import Derived.Test.YtmnihpedokeggaaDoorM
import Derived.HandedShaped
import Derived.Test.YtmnihpedokeggaaDoorWSized
namespace Go.Proofs.YtmnihpedokeggaaDoor.fnLaps
open Go.ChangeShapes Go.WideShapes Go.ChangeAt Go.RowKit Go.Proofs.YtmnihpedokeggaaDoorW.PrintWords
open Go.ChangeMaps (open_string shut_string)
set_option linter.unusedVariables false
theorem own : ownKnob Tryd.prog.godebug = none := by kernel_rfl
theorem laidOut : laidOutB Tryd.prog = true := by kernel_rfl
def IsRow (k : IntKind) (w : World) (a : Option Addr) (len cap : Nat) (zs : List Int) : Prop :=
  (a = none ∧ len = 0 ∧ cap = 0 ∧ zs = []) ∨
  ∃ x, a = some x ∧ len ≤ cap ∧ cap ≤ maxLen ∧ zs.length = cap ∧ (∀ i, i < zs.length → w.cell? (x.add i) = some (.int k (zs.getD i 0))) ∧ ∀ n ∈ zs, (Lit.int k n).wf = true
def laid1 : List (String × DataW Unit) := [("loop.example/g00016/impl.zk", Rows.laid_loop_example_g00016_impl_zk)]
theorem gZk : Tryd.prog.globalNamed "loop.example/g00016/impl.zk" = some 0 := by kernel_rfl
theorem tZk : (Tryd.prog.globals[0]?).map (·.type) = some 41 := by kernel_rfl
theorem datum : (Rows.laid_loop_example_g00016_impl_zk : DataW Unit) = .agg (zkL.map fun n => .lit (.int .i64 n)) := rfl
/-- The door's own heap meets the condition. -/
theorem door_met (os : Os) (args : Array Value) : laidMetH Tryd.prog laid1 ((World.doorLaid Tryd.prog 600 os).forCall (fun _ _ => 0) ⟨#[], args, []⟩).memory :=
  laidMetH_of_parts3 (fuel := 8) (laidMet_of_run' 8 (by kernel_rfl) (by kernel_rfl)) (by kernel_rfl) (by kernel_rfl)
theorem one_of {l : List Value} {i : Nat} {v : Value} (h : (l.drop i).take 1 = [v]) : l[i]? = some v := by
  have e : ((l.drop i).take 1)[0]? = some v := by rw [h]; rfl
  rw [List.getElem?_take_of_lt (by omega), List.getElem?_drop] at e
  exact e
/-- What the condition gives the walk: the table's cells. -/
theorem of_laid {W : World} (h : laidMetH Tryd.prog laid1 W) : MX W := by
  rw [MakeChecks.laidMetH_plain _ _ _ (by kernel_rfl)] at h
  obtain ⟨ps, ⟨g0, t0, cs0, f0, p0, q0, hg0, ht0, hv0, hd0, _, _⟩, _⟩ := h
  obtain rfl := Option.some.inj (gZk.symm.trans hg0)
  obtain rfl := Option.some.inj (tZk.symm.trans ht0)
  obtain ⟨xs, m1, rfl, hx1, hlen, hn, hel⟩ := DataW.trod_array Tryd.underlying41 hd0
  have c3 : Tryd.prog.cellsOf 3 = 1 := by kernel_rfl
  intro i hi
  have hxi : i < xs.length := by rw [hn]; exact hi
  have hi' := hel i hi
  rw [c3, Nat.mul_one, List.getElem?_eq_getElem hxi] at hi'
  obtain ⟨k, e1, e2, _⟩ := DataW.trod_int Tryd.underlying3 hi'
  have hx2 := congrArg Prod.fst hx1
  rw [datum] at hx2
  have hx3 : (zkL.map fun n => (DataW.lit (.int .i64 n) : DataW Unit)) = xs.map (·.1) := DataW.agg.inj hx2
  have hz : i < zkL.length := hi
  have hx4 := congrArg (fun l => l[i]?) hx3
  simp only [List.getElem?_map, List.getElem?_eq_getElem hz, List.getElem?_eq_getElem hxi, Option.map_some, Option.some.injEq, e2] at hx4
  have hk : zkL[i] = k := by
    injection hx4 with h1
    injection h1
  rw [World.var?_cell gZk hv0 i, (show zkL.getD i 0 = zkL[i] by simp [List.getD_eq_getElem?_getD, hz]), hk]
  have := one_of e1
  simpa using this
/-- The variable reads behind the call as it did before. -/
theorem vars_stay {H : Type} {enc : TypeId × Value → H} {W W' : World} {gs : List (DataW H)} {q : List MemPlace} (hM : MX W) (hb : Below W.heap.size W W') (hV : DataW.TrodVars enc Tryd.prog W (fun _ => true) ["loop.example/g00016/impl.zk"] gs q) :
    DataW.TrodVars enc Tryd.prog W' (fun b => decide (b < W.heap.size)) ["loop.example/g00016/impl.zk"] gs q := by
  obtain ⟨g, t, cs, fuel, d, p, rfl, hg, ht, hvar, hd, rfl⟩ := trodVars_one hV
  obtain rfl := Option.some.inj (gZk.symm.trans hg)
  obtain rfl := Option.some.inj (tZk.symm.trans ht)
  have h0 : (0 : Nat) < W.heap.size := World.block_lt_of_cell? W _ (hM 0 (by decide))
  have hvar' : W'.var? Tryd.prog "loop.example/g00016/impl.zk" = some cs := by
    unfold World.var? at hvar ⊢
    simp only [gZk, Option.bind_some] at hvar ⊢
    rw [hb.block 0 h0]
    exact hvar
  have hT : DataW.Trod enc Tryd.prog W 0 (fun _ => true) true 41 (.agg cs) d p := ⟨fuel, hd⟩
  obtain ⟨m, hm⟩ := Below.trod laidOut (by kernel_rfl) (of_decide_eq_true (by kernel_rfl)) hT hb (DataW.trod_lt fuel _ _ _ hd)
  exact trodVars_mk1 gZk tZk hvar' hm
set_option maxRecDepth 100000 in
theorem lifted (os : Os) (started : os.Started) (H : Type) (enc : TypeId × Value → H) :
    ReturnsInHanded {} Tryd.checked os 4 .any (fun w args => (Rows.fnLapsSpec.pre enc Tryd.prog Tryd.f4 [] false w args ∧ laidMetH Tryd.prog laid1 w) ∧ sizedMet enc Tryd.prog Tryd.f4 (OpenSpec.ofChange Rows.fnLapsSpec) false w args) (Rows.fnLapsSpec.post enc Tryd.prog Tryd.f4 false true false false) := by
  refine returnsInHanded_of_change_and (C := Tryd.checked) (X := fun w _ => laidMetH Tryd.prog laid1 w) (fun _ _ _ hh h => h.of_heap hh) own started (by kernel_rfl) Tryd.func4
    (ChangeSpec.witness_shaped (enc := enc) (C := Tryd.checked) (os := os) (X := fun w _ => laidMetH Tryd.prog laid1 w) false (World.doorLaid Tryd.prog 600 os) #[.slice none 0 0, .slice none 0 0] 8 rfl (World.shaped_of_RefB (by kernel_rfl) (by kernel_rfl)) (by kernel_rfl) (by kernel_rfl) (by kernel_rfl) (door_met os _)) ?_
  intro W base args ds gs before hval0 hW hcnd hsz0 hL _
  have hsz : (DataW.weightsEach Tryd.prog (Tryd.f4.params.toList ++ Rows.fnLapsSpec.plain.varTypes Tryd.prog) (ds ++ gs)).all (· ≤ reachBytes) = true := hsz0
  have hval : ∀ (j : Nat) t v, Tryd.f4.params[j]? = some t → args[j]? = some v → Value.okWide Tryd.prog W .any base t v := hval0
  have hW' := hW
  obtain ⟨p, q, hA0, hV, rfl, hfz, hnd⟩ := hW
  have hA : DataW.TrodAll enc Tryd.prog W 0 (fun _ => true) true Tryd.f4.params.toList args.toList ds p := hA0
  rw [Tryd.params4] at hA hval hsz
  obtain ⟨v0, vs0, d0, ds0, p0, q0, hargs, rfl, rfl, h0, r0⟩ := trodAll_cons hA
  obtain ⟨v1, vs1, d1, ds1, p1, q1, rfl, rfl, rfl, h1, r1⟩ := trodAll_cons r0
  obtain ⟨rfl, rfl, rfl⟩ := trodAll_nil r1
  obtain rfl : args = #[v0, v1] := by cases args; simp_all
  have hV' := hV
  obtain ⟨g, t, cs, fuel, d, p', rfl, hg, ht, hvar, hd, hq⟩ := trodVars_one hV
  have hM : MX W := of_laid hL
  obtain ⟨a0, len0, cap0, rfl⟩ := okWide_slice Tryd.underlying27 (hval 0 27 v0 rfl rfl)
  have k0 := h0
  have lt0 : ∀ x ∈ p0, x.block < W.heap.size := by obtain ⟨m, hm⟩ := k0; exact DataW.trod_lt m _ _ _ hm
  obtain ⟨z0, w0⟩ : ∃ zs, IsRow .u8 W a0 len0 cap0 zs := by
    obtain ⟨fuel, hf⟩ := h0
    rcases open_ints Tryd.underlying27 Tryd.underlying5 (by kernel_rfl) hf with ⟨hcs, _⟩ | ⟨x, l, c, zs, hcs, _, hl, hm, hz, _, hcell, hwz⟩
    · simp [Value.cells] at hcs
      obtain ⟨rfl, rfl, rfl⟩ := hcs
      exact ⟨[], .inl ⟨rfl, rfl, rfl, rfl⟩⟩
    · simp [Value.cells] at hcs
      obtain ⟨rfl, rfl, rfl⟩ := hcs
      exact ⟨zs, .inr ⟨_, rfl, hl, hm, by simpa using hz, hcell, hwz⟩⟩
  have y0 : len0 * 1 ≤ 140737488351232 := Go.Proofs.YtmnihpedokeggaaDoorW.PrintWords.sized_ints hsz (j := 0) (t := 27) rfl rfl Tryd.underlying27 Tryd.underlying5 (by kernel_rfl) (by kernel_rfl) h0
  obtain ⟨a1, len1, cap1, rfl⟩ := okWide_slice Tryd.underlying27 (hval 1 27 v1 rfl rfl)
  have k1 := h1
  have lt1 : ∀ x ∈ p1, x.block < W.heap.size := by obtain ⟨m, hm⟩ := k1; exact DataW.trod_lt m _ _ _ hm
  obtain ⟨z1, w1⟩ : ∃ zs, IsRow .u8 W a1 len1 cap1 zs := by
    obtain ⟨fuel, hf⟩ := h1
    rcases open_ints Tryd.underlying27 Tryd.underlying5 (by kernel_rfl) hf with ⟨hcs, _⟩ | ⟨x, l, c, zs, hcs, _, hl, hm, hz, _, hcell, hwz⟩
    · simp [Value.cells] at hcs
      obtain ⟨rfl, rfl, rfl⟩ := hcs
      exact ⟨[], .inl ⟨rfl, rfl, rfl, rfl⟩⟩
    · simp [Value.cells] at hcs
      obtain ⟨rfl, rfl, rfl⟩ := hcs
      exact ⟨zs, .inr ⟨_, rfl, hl, hm, by simpa using hz, hcell, hwz⟩⟩
  have y1 : len1 * 1 ≤ 140737488351232 := Go.Proofs.YtmnihpedokeggaaDoorW.PrintWords.sized_ints hsz (j := 1) (t := 27) rfl rfl Tryd.underlying27 Tryd.underlying5 (by kernel_rfl) (by kernel_rfl) h1
  clear hA0 hval0 hsz0 hsz
  refine (PFnLaps.laws_FnLaps.walk Pure.FnLaps a0 len0 cap0 z0 a1 len1 cap1 z1 W w0 y0 w1 y1 hM).mono fun e W' ⟨he, bel⟩ => ?_
  subst he
  exact ⟨_, rfl, _, _, _, [], _, _, hW', trodAll_mk1 (shut_bool Tryd.underlying4 _), (trodAll_cons_mk (Below.trod laidOut (by kernel_rfl) (of_decide_eq_true (by kernel_rfl)) k0 bel lt0) (trodAll_cons_mk (Below.trod laidOut (by kernel_rfl) (of_decide_eq_true (by kernel_rfl)) k1 bel lt1) trodAll_mk0)), vars_stay hM bel hV', bel.frame _, fun h => by cases h⟩
theorem over : Rows.fnLapsRow.holds Tryd.pinned (OpenSpec.ofChange Rows.fnLapsSpec) :=
  OpenClaim.holds_of_wide 4 Tryd.f4 rfl rfl rfl rfl rfl rfl rfl ⟨rfl, rfl, rfl, rfl, rfl⟩ rfl rfl rfl rfl rfl (by kernel_rfl) Tryd.func4 (by kernel_rfl)
    (of_decide_eq_true (by kernel_rfl)) (by unfold Func.isWrapper; first | (rw [if_pos (by decide +kernel)]; kernel_rfl) | (rw [if_neg (by decide +kernel)]; exact ⟨rfl, rfl⟩))
    (fun os started H enc _ => lifted os started H enc)
theorem proved : Rows.FnLapsSaid := over
/-- The tied card. -/
theorem card_holds : Rows.FnLapsCardSaid :=
  Claim7.holds_tied_plain_at .later [] [.data] true (true, "5a02999d5d5b033e016ef58bb0e54de536608d598c5163513e2480b6412826c1") false
    proved (fun _ h => by cases h) (by kernel_rfl) (fun _ h => by cases h) fnLaps_row_tie rfl ⟨rfl, rfl⟩ (by kernel_rfl) rfl
    (fun f fn hf hfn => by
      obtain rfl : f = 4 := Option.some.inj ((show Tryd.prog.funcNamed "loop.example/g00016/laws.FnLaps" = some 4 by kernel_rfl).symm.trans hf) |>.symm
      obtain rfl : fn = Tryd.f4 := (Option.some.inj (Tryd.func4.symm.trans hfn)).symm
      exact ⟨by kernel_rfl, fun j t ht => by
        rw [Tryd.params4] at ht
        have hm : t ∈ ([27] : List Nat) := by simpa using Array.mem_of_getElem? ht
        have hall : (([27] : List Nat).all fun u => !Tryd.prog.wantsStandIn u) = true := by kernel_rfl
        exact (show Tryd.prog.wantsStandIn t = false by simpa using List.all_eq_true.1 hall t hm)⟩)
    (by kernel_rfl)
#print axioms proved
end Go.Proofs.YtmnihpedokeggaaDoor.fnLaps
namespace Go.Proofs.YtmnihpedokeggaaDoor
/-- The row, under a short name, for the claim. -/
theorem fnLaps_holds : Rows.FnLapsCardSaid := fnLaps.card_holds
end Go.Proofs.YtmnihpedokeggaaDoor

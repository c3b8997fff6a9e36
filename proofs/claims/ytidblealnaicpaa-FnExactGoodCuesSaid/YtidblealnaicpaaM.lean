/-
What is proved: strings.Contains, as the shelf has it, in the print's own words; what it asks of the world (a variable of the library's holds some number) goes along with every world that is only made larger.
Conditions: none beyond each lemma's own.
-/
import Derived.Test.YtidblealnaicpaaS
import Derived.Test.YtidblealnaicpaaWWords
namespace Go.Proofs.YtidblealnaicpaaW.PrintWords
open Go.RowKit
def MX (w : World) : Prop := ∃ m, w.cell? ⟨0, 0, none⟩ = some (.int .i64 m)
theorem MX.below {w W : World} (h : MX w) (hb : Below w.heap.size w W) : MX W := by
  obtain ⟨m, hm⟩ := h
  exact ⟨m, (hb.cell (World.block_lt_of_cell? w _ hm)).trans hm⟩
theorem MX.drewN {w : World} (h : MX w) (n : Nat) : MX (w.drewN n) := h
theorem MX.drew {w : World} (h : MX w) : MX w.drew := h
theorem MX.of_shape {w : World} (h : w.ShapedOpen Try.prog) : MX w := Try.laysM144.s1_3 w h
def strings_Contains.f (s sub : ByteArray) : Option Bool := if s.size < 4294967281 then some (Lib.contains s.data.toList sub.data.toList) else none
theorem strings_Contains.calls (s sub : ByteArray) (r : Bool) (w : World) (hM : MX w) (h : strings_Contains.f s sub = some r) : Calls Try.prog 207 #[.string s, .string sub] w fun e w' => e = .returned (.bool r) ∧ Drawn0 w w' := by
  unfold strings_Contains.f at h
  by_cases c : s.size < 4294967281
  · rw [if_pos c] at h
    obtain rfl := Option.some.inj h
    obtain ⟨m, hm⟩ := hM
    refine (Try.strings_Contains s sub m w c hm).mono ?_
    rintro e w' ⟨rfl, rfl⟩
    exact ⟨rfl, Drawn0.refl _⟩
  · rw [if_neg c] at h
    exact absurd h (by simp)
end Go.Proofs.YtidblealnaicpaaW.PrintWords

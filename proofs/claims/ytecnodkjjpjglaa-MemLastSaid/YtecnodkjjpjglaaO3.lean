/-
  The arguments of the statements, opened: an act.
-/
import Derived.Test.YtecnodkjjpjglaaO2
set_option linter.unusedVariables false
set_option maxRecDepth 100000
namespace Go.Proofs.Ytecnodkjjpjglaa
open Go.ChangeShapes Go.WideShapes Go.ChangeAt Go.RowKit Go.Joins
section
variable {H : Type} {enc : TypeId × Value → H} {W : World} {base : Nat} {spare : Nat → Bool} {held : Bool}
theorem open_act {v : Value} {d : DataW H} {p : List MemPlace} {r : Reach} {b0 : Nat} (hv : Value.okWide Try.prog W r b0 39 v) (h : DataW.Trod enc Try.prog W base spare held 39 v d p) :
    ∃ (u : List Value) (a : ActI), v = .agg u.toArray ∧ InAct (fps []) W u a := by
  obtain ⟨cs, rfl, hsz⟩ := okWide_struct Try.underlying39 hv
  obtain ⟨fuel, hf⟩ := h
  have hc : (Try.prog).cellsOf 39 = 7 := by kernel_rfl
  obtain ⟨a, ha⟩ := act_of_trod (cs := cs.toList) (by rw [Array.length_toList, hsz, hc]) (by simpa [Value.cells] using hf)
  exact ⟨cs.toList, a, by simp, ha⟩
end
end Go.Proofs.Ytecnodkjjpjglaa

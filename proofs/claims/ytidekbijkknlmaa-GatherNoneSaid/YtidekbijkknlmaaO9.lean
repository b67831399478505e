/-
  The arguments of the statements, opened: rows of answers.
-/
import Derived.Test.YtidekbijkknlmaaO4
import Derived.Test.YtidekbijkknlmaaY7
set_option linter.unusedVariables false
set_option maxRecDepth 100000
namespace Go.Proofs.Ytidekbijkknlmaa
open Go.ChangeShapes Go.WideShapes Go.ChangeAt Go.RowKit Go.Joins
section
variable {H : Type} {enc : TypeId × Value → H} {W : World} {base : Nat} {spare : Nat → Bool} {held : Bool}
theorem open_reps {v : Value} {d : DataW H} {p : List MemPlace} {r : Reach} {b0 : Nat} (hv : Value.okWide Try.prog W r b0 23 v) (h : DataW.Trod enc Try.prog W base spare held 23 v d p) :
    ∃ A n c xs, v = .slice A n c ∧ InS (fps []) W 3 (InRepI (fps []) W) A n xs ∧ n ≤ c ∧ c ≤ maxLen := by
  obtain ⟨a, len, cap, rfl⟩ := okWide_slice Try.underlying23 hv
  obtain ⟨fuel, hf⟩ := h
  exact ins_of_trod (v := .slice a len cap) Try.underlying23 (by kernel_rfl) (by omega) (fun _ _ _ hl h => by
    obtain ⟨k, c, A, n, m, l, e, b2, b3, b4, b5, b6⟩ := rep_of_trod hl h
    exact ⟨⟨k, c, A, n, m, l⟩, e, b2, b3, Ro.empty b4, b5, b6⟩) (by simpa [Value.cells] using hf)
end
end Go.Proofs.Ytidekbijkknlmaa

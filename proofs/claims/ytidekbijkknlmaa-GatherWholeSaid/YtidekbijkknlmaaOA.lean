/-
  The arguments of the statements, opened: rows of slices of bytes, of bools.
-/
import Derived.Test.YtidekbijkknlmaaO4
import Derived.Test.YtidekbijkknlmaaY9
set_option linter.unusedVariables false
set_option maxRecDepth 100000
namespace Go.Proofs.Ytidekbijkknlmaa
open Go.ChangeShapes Go.WideShapes Go.ChangeAt Go.RowKit Go.Joins
section
variable {H : Type} {enc : TypeId × Value → H} {W : World} {base : Nat} {spare : Nat → Bool} {held : Bool}
theorem bb1_of_trod {fuel : Nat} {cs : List Value} {y : DataW H × List MemPlace} (hl : cs.length = 1) (h : DataW.trod enc Try.prog W base spare held fuel 30 cs = some y) : ∃ l, InB1 (fps []) W cs l := by
  match cs, hl with
  | [u], _ =>
    obtain ⟨A, n, m, l, rfl, h1, h2, h3⟩ := ro_of_trod h
    have hn := roB_len h1
    subst hn
    exact ⟨l, A, m, rfl, Ro.empty h1, h2, h3⟩
theorem bools_of_trod {fuel : Nat} {cs : List Value} {y : DataW H × List MemPlace} (hl : cs.length = 1) (h : DataW.trod enc Try.prog W base spare held fuel 4 cs = some y) : ∃ l, InB cs l := by
  match cs, hl with
  | [u], _ =>
    obtain ⟨x, rfl⟩ := bool_of_trod h
    exact ⟨x, rfl⟩
theorem open_bb1 {v : Value} {d : DataW H} {p : List MemPlace} {r : Reach} {b0 : Nat} (hv : Value.okWide Try.prog W r b0 33 v) (h : DataW.Trod enc Try.prog W base spare held 33 v d p) :
    ∃ A n c xs, v = .slice A n c ∧ InS (fps []) W 1 (InB1 (fps []) W) A n xs ∧ n ≤ c ∧ c ≤ maxLen := by
  obtain ⟨a, len, cap, rfl⟩ := okWide_slice Try.underlying33 hv
  obtain ⟨fuel, hf⟩ := h
  exact ins_of_trod (v := .slice a len cap) Try.underlying33 (by kernel_rfl) (by omega) (fun _ _ _ hl h => bb1_of_trod hl h) (by simpa [Value.cells] using hf)
theorem open_bools {v : Value} {d : DataW H} {p : List MemPlace} {r : Reach} {b0 : Nat} (hv : Value.okWide Try.prog W r b0 41 v) (h : DataW.Trod enc Try.prog W base spare held 41 v d p) :
    ∃ A n c xs, v = .slice A n c ∧ InS (fps []) W 1 InB A n xs ∧ n ≤ c ∧ c ≤ maxLen := by
  obtain ⟨a, len, cap, rfl⟩ := okWide_slice Try.underlying41 hv
  obtain ⟨fuel, hf⟩ := h
  exact ins_of_trod (v := .slice a len cap) Try.underlying41 (by kernel_rfl) (by omega) (fun _ _ _ hl h => bools_of_trod hl h) (by simpa [Value.cells] using hf)
end
end Go.Proofs.Ytidekbijkknlmaa

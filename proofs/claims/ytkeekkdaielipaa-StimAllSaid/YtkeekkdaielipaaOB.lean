/-
  The arguments of StimAll, opened: rows of slices of bytes, and of tables.
-/
import Derived.Test.YtkeekkdaielipaaO4
import Derived.Test.YtkeekkdaielipaaA2
set_option linter.unusedVariables false
set_option maxRecDepth 100000
namespace Go.Proofs.Ytkeekkdaielipaa
open Go.ChangeShapes Go.WideShapes Go.ChangeAt Go.RowKit Go.Joins
section
variable {H : Type} {enc : TypeId × Value → H} {W : World} {base : Nat} {spare : Nat → Bool} {held : Bool}
theorem bys_of_trod {fuel : Nat} {cs : List Value} {y : DataW H × List MemPlace} (hl : cs.length = 1) (h : DataW.trod enc Try.prog W base spare held fuel 23 cs = some y) : ∃ l, InByS (fps []) W cs l := by
  match cs, hl with
  | [u], _ =>
    obtain ⟨A, n, m, l, rfl, h1, h2, h3⟩ := ro_of_trod h
    have hn := roB_len h1
    subst hn
    exact ⟨l, A, m, rfl, Ro.empty h1, h2, h3⟩
theorem open_bys {v : Value} {d : DataW H} {p : List MemPlace} {r : Reach} {b0 : Nat} (hv : Value.okWide Try.prog W r b0 30 v) (h : DataW.Trod enc Try.prog W base spare held 30 v d p) :
    ∃ A n c xs, v = .slice A n c ∧ InS (fps []) W 1 (InByS (fps []) W) A n xs ∧ n ≤ c ∧ c ≤ maxLen := by
  obtain ⟨a, len, cap, rfl⟩ := okWide_slice Try.underlying30 hv
  obtain ⟨fuel, hf⟩ := h
  exact ins_of_trod (v := .slice a len cap) Try.underlying30 (by kernel_rfl) (by omega) (fun _ _ _ hl h => bys_of_trod hl h) (by simpa [Value.cells] using hf)
theorem open_tabs {v : Value} {d : DataW H} {p : List MemPlace} {r : Reach} {b0 : Nat} (hv : Value.okWide Try.prog W r b0 40 v) (h : DataW.Trod enc Try.prog W base spare held 40 v d p) :
    ∃ A n c xs, v = .slice A n c ∧ InS (fps []) W 1 (InTab (fps []) W) A n xs ∧ n ≤ c ∧ c ≤ maxLen := by
  obtain ⟨a, len, cap, rfl⟩ := okWide_slice Try.underlying40 hv
  obtain ⟨fuel, hf⟩ := h
  exact tabs_of_trod (v := .slice a len cap) (by simpa [Value.cells] using hf)
end
end Go.Proofs.Ytkeekkdaielipaa

/-
  The arguments of the statements, opened: an array of slices of bytes.
-/
import Derived.Test.YtkeekkdaielipaaO5
set_option linter.unusedVariables false
set_option maxRecDepth 100000
namespace Go.Proofs.Ytkeekkdaielipaa
open Go.ChangeShapes Go.WideShapes Go.ChangeAt Go.RowKit Go.Joins
section
variable {H : Type} {enc : TypeId × Value → H} {W : World} {base : Nat} {spare : Nat → Bool} {held : Bool}
/-- [2][]uint8 -/
theorem open_byx2 {t : TypeId} (ht : (Try.prog).underlying t = some (.array 2 23)) (hc : (Try.prog).cellsOf t = 2) {v : Value} {d : DataW H} {p : List MemPlace} {r : Reach} {b0 : Nat} (hv : Value.okWide Try.prog W r b0 t v) (h : DataW.Trod enc Try.prog W base spare held t v d p) :
    ∃ A n c l A' n' c' l', v = .agg #[.slice A n c, .slice A' n' c'] ∧ (roB A n l).C W ∧ (roB A' n' l').C W ∧ n ≤ c ∧ n' ≤ c' ∧ c ≤ maxLen ∧ c' ≤ maxLen := by
  obtain ⟨cs, rfl, hl, hx⟩ := open_arr ht (by kernel_rfl) hc hv h
  match cs, hl with
  | [u0, u1], _ =>
    obtain ⟨_, _, g0⟩ := hx 0 u0 rfl
    obtain ⟨_, _, g1⟩ := hx 1 u1 rfl
    obtain ⟨A, n, c, l, rfl, h1, h2, h3⟩ := ro_of_trod g0
    obtain ⟨A', n', c', l', rfl, h1', h2', h3'⟩ := ro_of_trod g1
    exact ⟨A, n, c, l, A', n', c', l', rfl, h1, h1', h2, h2', h3, h3'⟩
/-- A list. -/
theorem open_list {v : Value} {d : DataW H} {p : List MemPlace} {r : Reach} {b0 : Nat} (hv : Value.okWide Try.prog W r b0 42 v) (h : DataW.Trod enc Try.prog W base spare held 42 v d p) :
    ∃ (cs : List Value) (l : ListI), v = .agg cs.toArray ∧ InList (fps []) W cs l := by
  obtain ⟨cs, rfl, hsz⟩ := okWide_struct Try.underlying42 hv
  obtain ⟨fuel, hf⟩ := h
  have hc : (Try.prog).cellsOf 42 = 8 := by kernel_rfl
  obtain ⟨l, hl⟩ := list_of_trod (cs := cs.toList) (by rw [Array.length_toList, hsz, hc]) (by simpa [Value.cells] using hf)
  exact ⟨cs.toList, l, by simp, hl⟩
end
end Go.Proofs.Ytkeekkdaielipaa

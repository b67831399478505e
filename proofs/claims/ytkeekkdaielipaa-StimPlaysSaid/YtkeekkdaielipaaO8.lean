/-
  The arguments of the statements, opened: acts of law 14.
-/
import Derived.Test.YtkeekkdaielipaaO4
import Derived.Test.YtkeekkdaielipaaT9
set_option linter.unusedVariables false
set_option maxRecDepth 100000
namespace Go.Proofs.Ytkeekkdaielipaa
open Go.ChangeShapes Go.WideShapes Go.ChangeAt Go.RowKit Go.Joins
section
variable {H : Type} {enc : TypeId × Value → H} {W : World} {base : Nat} {spare : Nat → Bool} {held : Bool}
theorem a14_of_trod {fuel : Nat} {cs : List Value} {y : DataW H × List MemPlace} (hl : cs.length = 5) (h : DataW.trod enc Try.prog W base spare held fuel 78 cs = some y) : ∃ a, InA14 (fps []) W cs a := by
  obtain ⟨xs, q, _, _, _, hlen, hfld⟩ := DataW.trod_struct Try.underlying78 h
  match cs, hl, xs, hlen with
  | [u0, u1, u2, u3, u4], _, [y0, y1, y2], _ =>
    have k1 : (Try.prog).cellsOf 5 = 1 := by kernel_rfl
    have k2 : (Try.prog).cellsOf 3 = 1 := by kernel_rfl
    have k3 : (Try.prog).cellsOf 46 = 3 := by kernel_rfl
    have g0 := hfld 0 _ rfl
    have g1 := hfld 1 _ rfl
    have g2 := hfld 2 _ rfl
    simp [k1, k2, k3] at g0 g1 g2
    obtain ⟨x0, rfl, b0⟩ := u8_of_trod g0
    obtain ⟨x1, rfl, b1⟩ := int_of_trod g1
    obtain ⟨k, c, A, n, m, l, e, b2, b3, b4, b5, b6⟩ := rep_of_trod rfl g2
    simp only [List.cons.injEq, and_true] at e
    obtain ⟨rfl, rfl, rfl⟩ := e
    exact ⟨⟨x0, x1, k, c, A, n, m, l⟩, rfl, b0, b1, b2, b3, Ro.empty b4, b5, b6⟩
theorem open_acts14 {v : Value} {d : DataW H} {p : List MemPlace} {r : Reach} {b0 : Nat} (hv : Value.okWide Try.prog W r b0 68 v) (h : DataW.Trod enc Try.prog W base spare held 68 v d p) :
    ∃ A n c xs, v = .slice A n c ∧ InS (fps []) W 5 (InA14 (fps []) W) A n xs ∧ n ≤ c ∧ c ≤ maxLen := by
  obtain ⟨a, len, cap, rfl⟩ := okWide_slice Try.underlying68 hv
  obtain ⟨fuel, hf⟩ := h
  exact ins_of_trod (v := .slice a len cap) Try.underlying68 (by kernel_rfl) (by omega) (fun _ _ _ hl h => a14_of_trod hl h) (by simpa [Value.cells] using hf)
end
end Go.Proofs.Ytkeekkdaielipaa

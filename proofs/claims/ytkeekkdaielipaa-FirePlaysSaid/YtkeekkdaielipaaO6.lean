/-
  The arguments of the statements, opened: acts of law 12.
-/
import Derived.Test.YtkeekkdaielipaaO5
import Derived.Test.YtkeekkdaielipaaV7
set_option linter.unusedVariables false
set_option maxRecDepth 100000
namespace Go.Proofs.Ytkeekkdaielipaa
open Go.ChangeShapes Go.WideShapes Go.ChangeAt Go.RowKit Go.Joins
section
variable {H : Type} {enc : TypeId × Value → H} {W : World} {base : Nat} {spare : Nat → Bool} {held : Bool}
theorem fact_of_trod {fuel : Nat} {cs : List Value} {y : DataW H × List MemPlace} (hl : cs.length = 4) (h : DataW.trod enc Try.prog W base spare held fuel 88 cs = some y) : ∃ a, InFAct cs a := by
  obtain ⟨xs, q, _, _, _, hlen, hfld⟩ := DataW.trod_struct Try.underlying88 h
  match cs, hl, xs, hlen with
  | [u0, u1, u2, u3], _, [y0, y1, y2, y3], _ =>
    have k1 : (Try.prog).cellsOf 5 = 1 := by kernel_rfl
    have k2 : (Try.prog).cellsOf 4 = 1 := by kernel_rfl
    have g0 := hfld 0 _ rfl
    have g1 := hfld 1 _ rfl
    have g2 := hfld 2 _ rfl
    have g3 := hfld 3 _ rfl
    simp [k1, k2] at g0 g1 g2 g3
    obtain ⟨x0, rfl, b0⟩ := u8_of_trod g0
    obtain ⟨x1, rfl, b1⟩ := u8_of_trod g1
    obtain ⟨x2, rfl⟩ := bool_of_trod g2
    obtain ⟨x3, rfl⟩ := bool_of_trod g3
    exact ⟨⟨x0, x1, x2, x3⟩, rfl, b0, b1⟩
theorem open_facts {v : Value} {d : DataW H} {p : List MemPlace} {r : Reach} {b0 : Nat} (hv : Value.okWide Try.prog W r b0 82 v) (h : DataW.Trod enc Try.prog W base spare held 82 v d p) :
    ∃ A n c xs, v = .slice A n c ∧ InS (fps []) W 4 InFAct A n xs ∧ n ≤ c ∧ c ≤ maxLen := by
  obtain ⟨a, len, cap, rfl⟩ := okWide_slice Try.underlying82 hv
  obtain ⟨fuel, hf⟩ := h
  exact ins_of_trod (v := .slice a len cap) Try.underlying82 (by kernel_rfl) (by omega) (fun _ _ _ hl h => fact_of_trod hl h) (by simpa [Value.cells] using hf)
end
end Go.Proofs.Ytkeekkdaielipaa

/-
  The arguments of the statements, opened: arrays.
-/
import Derived.Test.YtidekbijkknlmaaO4
set_option linter.unusedVariables false
set_option maxRecDepth 100000
namespace Go.Proofs.Ytidekbijkknlmaa
open Go.ChangeShapes Go.WideShapes Go.ChangeAt Go.RowKit Go.Joins
theorem okWide_arr' {P : Program} {w : World} {r : Reach} {base : Nat} {t e : TypeId} {n : Nat} {v : Value} (ht : P.underlying t = some (.array n e)) (h : Value.okWide P w r base t v) : ∃ cs, v = .agg cs := by
  simp only [Value.okWide, ht] at h
  obtain ⟨cs, h1, _⟩ := h
  exact ⟨cs, h1⟩
section
variable {H : Type} {enc : TypeId × Value → H} {W : World} {base : Nat} {spare : Nat → Bool} {held : Bool}
/-- An array of n things of a cell each. -/
theorem arr_of_trod {P : Program} {t e : TypeId} {n : Nat} (ht : P.underlying t = some (.array n e)) (he : P.cellsOf e = 1) (hc : P.cellsOf t = n) {fuel : Nat} {cs : List Value} {y : DataW H × List MemPlace} (h : DataW.trod enc P W base spare held fuel t cs = some y) :
    cs.length = n ∧ ∀ (i : Nat) v, cs[i]? = some v → ∃ fuel' y', DataW.trod enc P W base spare held fuel' e [v] = some y' := by
  obtain ⟨xs, m, _, _, hl, hxl, hx⟩ := DataW.trod_array ht h
  rw [hc] at hl
  refine ⟨hl, fun i v hv => ?_⟩
  have hi := (List.getElem?_eq_some_iff.1 hv).1
  have h1 := hx i (by omega)
  rw [he, Nat.mul_one, List.drop_eq_getElem_cons hi] at h1
  have hv' : cs[i] = v := by rw [List.getElem?_eq_getElem hi] at hv; injection hv
  rw [hv'] at h1
  simp only [List.take_succ_cons, List.take_zero] at h1
  rw [List.getElem?_eq_getElem (by omega)] at h1
  exact ⟨m, _, h1⟩
theorem open_arr {P : Program} {t e : TypeId} {n : Nat} (ht : P.underlying t = some (.array n e)) (he : P.cellsOf e = 1) (hc : P.cellsOf t = n) {v : Value} {d : DataW H} {p : List MemPlace} {r : Reach} {b0 : Nat} (hv : Value.okWide P W r b0 t v) (h : DataW.Trod enc P W base spare held t v d p) :
    ∃ cs : List Value, v = .agg cs.toArray ∧ cs.length = n ∧ ∀ (i : Nat) v, cs[i]? = some v → ∃ fuel' y', DataW.trod enc P W base spare held fuel' e [v] = some y' := by
  obtain ⟨cs, rfl⟩ := okWide_arr' ht hv
  obtain ⟨fuel, hf⟩ := h
  obtain ⟨h1, h2⟩ := arr_of_trod (cs := cs.toList) ht he hc (by simpa [Value.cells] using hf)
  exact ⟨cs.toList, by simp, h1, h2⟩
/-- [4]uint8 -/
theorem open_u8x4 {t : TypeId} (ht : (Try.prog).underlying t = some (.array 4 5)) (hc : (Try.prog).cellsOf t = 4) {v : Value} {d : DataW H} {p : List MemPlace} {r : Reach} {b0 : Nat} (hv : Value.okWide Try.prog W r b0 t v) (h : DataW.Trod enc Try.prog W base spare held t v d p) :
    ∃ x0 x1 x2 x3 : Nat, v = .agg #[.int .u8 x0, .int .u8 x1, .int .u8 x2, .int .u8 x3] ∧ x0 ≤ 255 ∧ x1 ≤ 255 ∧ x2 ≤ 255 ∧ x3 ≤ 255 := by
  obtain ⟨cs, rfl, hl, hx⟩ := open_arr ht (by kernel_rfl) hc hv h
  match cs, hl with
  | [u0, u1, u2, u3], _ =>
    obtain ⟨_, _, g0⟩ := hx 0 u0 rfl
    obtain ⟨_, _, g1⟩ := hx 1 u1 rfl
    obtain ⟨_, _, g2⟩ := hx 2 u2 rfl
    obtain ⟨_, _, g3⟩ := hx 3 u3 rfl
    obtain ⟨x0, rfl, b0⟩ := u8_of_trod g0
    obtain ⟨x1, rfl, b1⟩ := u8_of_trod g1
    obtain ⟨x2, rfl, b2⟩ := u8_of_trod g2
    obtain ⟨x3, rfl, b3⟩ := u8_of_trod g3
    exact ⟨x0, x1, x2, x3, rfl, b0, b1, b2, b3⟩
/-- [2]uint8 -/
theorem open_u8x2 {t : TypeId} (ht : (Try.prog).underlying t = some (.array 2 5)) (hc : (Try.prog).cellsOf t = 2) {v : Value} {d : DataW H} {p : List MemPlace} {r : Reach} {b0 : Nat} (hv : Value.okWide Try.prog W r b0 t v) (h : DataW.Trod enc Try.prog W base spare held t v d p) :
    ∃ x0 x1 : Nat, v = .agg #[.int .u8 x0, .int .u8 x1] ∧ x0 ≤ 255 ∧ x1 ≤ 255 := by
  obtain ⟨cs, rfl, hl, hx⟩ := open_arr ht (by kernel_rfl) hc hv h
  match cs, hl with
  | [u0, u1], _ =>
    obtain ⟨_, _, g0⟩ := hx 0 u0 rfl
    obtain ⟨_, _, g1⟩ := hx 1 u1 rfl
    obtain ⟨x0, rfl, b0⟩ := u8_of_trod g0
    obtain ⟨x1, rfl, b1⟩ := u8_of_trod g1
    exact ⟨x0, x1, rfl, b0, b1⟩
/-- [4]bool -/
theorem open_boolx4 {t : TypeId} (ht : (Try.prog).underlying t = some (.array 4 4)) (hc : (Try.prog).cellsOf t = 4) {v : Value} {d : DataW H} {p : List MemPlace} {r : Reach} {b0 : Nat} (hv : Value.okWide Try.prog W r b0 t v) (h : DataW.Trod enc Try.prog W base spare held t v d p) :
    ∃ x0 x1 x2 x3 : Bool, v = .agg #[.bool x0, .bool x1, .bool x2, .bool x3] := by
  obtain ⟨cs, rfl, hl, hx⟩ := open_arr ht (by kernel_rfl) hc hv h
  match cs, hl with
  | [u0, u1, u2, u3], _ =>
    obtain ⟨_, _, g0⟩ := hx 0 u0 rfl
    obtain ⟨_, _, g1⟩ := hx 1 u1 rfl
    obtain ⟨_, _, g2⟩ := hx 2 u2 rfl
    obtain ⟨_, _, g3⟩ := hx 3 u3 rfl
    obtain ⟨x0, rfl⟩ := bool_of_trod g0
    obtain ⟨x1, rfl⟩ := bool_of_trod g1
    obtain ⟨x2, rfl⟩ := bool_of_trod g2
    obtain ⟨x3, rfl⟩ := bool_of_trod g3
    exact ⟨x0, x1, x2, x3, rfl⟩
end
end Go.Proofs.Ytidekbijkknlmaa

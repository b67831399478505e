/-
  The arguments of TopWire, opened: a command.
-/
import Derived.Test.YtidekbijkknlmaaO5
set_option linter.unusedVariables false
set_option maxRecDepth 100000
namespace Go.Proofs.Ytidekbijkknlmaa
open Go.ChangeShapes Go.WideShapes Go.ChangeAt Go.RowKit Go.Joins
section
variable {H : Type} {enc : TypeId × Value → H} {W : World} {base : Nat} {spare : Nat → Bool} {held : Bool}
theorem cmd_of_trod {fuel : Nat} {cs : List Value} {y : DataW H × List MemPlace} (hl : cs.length = 8) (h : DataW.trod enc Try.prog W base spare held fuel 63 cs = some y) : ∃ (c a0 a1 a2 a3 a4 w : Nat) (A : Option Addr) (n m : Nat) (l : List Int), cs = [.int .u8 c, .int .u8 a0, .int .u8 a1, .int .u8 a2, .int .u8 a3, .int .u8 a4, .int .u32 w, .slice A n m] ∧ c ≤ 255 ∧ (a0 ≤ 255 ∧ a1 ≤ 255 ∧ a2 ≤ 255 ∧ a3 ≤ 255 ∧ a4 ≤ 255) ∧ w ≤ 4294967295 ∧ (roB A n l).C W ∧ n ≤ m ∧ m ≤ maxLen := by
  obtain ⟨xs, q, _, _, _, hlen, hfld⟩ := DataW.trod_struct Try.underlying63 h
  match cs, hl, xs, hlen with
  | [u0, u1, u2, u3, u4, u5, u6, u7], _, [y0, y1, y2, y3], _ =>
    have k1 : (Try.prog).cellsOf 5 = 1 := by kernel_rfl
    have k2 : (Try.prog).cellsOf 30 = 1 := by kernel_rfl
    have k3 : (Try.prog).cellsOf 61 = 1 := by kernel_rfl
    have k5 : (Try.prog).cellsOf 60 = 5 := by kernel_rfl
    have g0 := hfld 0 _ rfl
    have g1 := hfld 1 _ rfl
    have g2 := hfld 2 _ rfl
    have g3 := hfld 3 _ rfl
    simp [k1, k2, k3, k5] at g0 g1 g2 g3
    obtain ⟨x0, rfl, b0⟩ := u8_of_trod g0
    obtain ⟨_, hx⟩ := arr_of_trod Try.underlying60 k1 k5 g1
    obtain ⟨_, _, e0⟩ := hx 0 u1 rfl
    obtain ⟨_, _, e1⟩ := hx 1 u2 rfl
    obtain ⟨_, _, e2⟩ := hx 2 u3 rfl
    obtain ⟨_, _, e3⟩ := hx 3 u4 rfl
    obtain ⟨_, _, e4⟩ := hx 4 u5 rfl
    obtain ⟨a0, rfl, c0⟩ := u8_of_trod e0
    obtain ⟨a1, rfl, c1⟩ := u8_of_trod e1
    obtain ⟨a2, rfl, c2⟩ := u8_of_trod e2
    obtain ⟨a3, rfl, c3⟩ := u8_of_trod e3
    obtain ⟨a4, rfl, c4⟩ := u8_of_trod e4
    obtain ⟨w, rfl, bw⟩ := u32_of_trod g2
    obtain ⟨A, n, m, l, rfl, b2, b3, b4⟩ := ro_of_trod g3
    exact ⟨x0, a0, a1, a2, a3, a4, w, A, n, m, l, rfl, b0, ⟨c0, c1, c2, c3, c4⟩, bw, b2, b3, b4⟩
/-- api.Cmd -/
theorem open_cmd {v : Value} {d : DataW H} {p : List MemPlace} {r : Reach} {b0 : Nat} (hv : Value.okWide Try.prog W r b0 63 v) (h : DataW.Trod enc Try.prog W base spare held 63 v d p) :
    ∃ (c a0 a1 a2 a3 a4 w : Nat) (A : Option Addr) (n m : Nat) (l : List Int), v = .agg #[.int .u8 c, .int .u8 a0, .int .u8 a1, .int .u8 a2, .int .u8 a3, .int .u8 a4, .int .u32 w, .slice A n m] ∧ c ≤ 255 ∧ (a0 ≤ 255 ∧ a1 ≤ 255 ∧ a2 ≤ 255 ∧ a3 ≤ 255 ∧ a4 ≤ 255) ∧ w ≤ 4294967295 ∧ (roB A n l).C W ∧ n ≤ m ∧ m ≤ maxLen := by
  obtain ⟨cs, rfl, hsz⟩ := okWide_struct Try.underlying63 hv
  obtain ⟨fuel, hf⟩ := h
  have hc : (Try.prog).cellsOf 63 = 8 := by kernel_rfl
  obtain ⟨c, a0, a1, a2, a3, a4, w, A, n, m, l, h1, h2⟩ := cmd_of_trod (cs := cs.toList) (by rw [Array.length_toList, hsz, hc]) (by simpa [Value.cells] using hf)
  exact ⟨c, a0, a1, a2, a3, a4, w, A, n, m, l, by rw [← h1], h2⟩
end
end Go.Proofs.Ytidekbijkknlmaa

/-
  The arguments of the statements, opened: what a reading of an argument says of memory.
-/
import Derived.Test.YteioamllbaihdaaBase
import Derived.ProofKit
import Derived.OpenShut
import Derived.ShutString
import Derived.ChangeOld
import Derived.Below
import Derived.Lib.SmallJoins
set_option linter.unusedVariables false
set_option maxRecDepth 100000
namespace Go.Proofs.Yteioamllbaihdaa
open Go.ChangeShapes Go.WideShapes Go.ChangeAt Go.RowKit Go.Joins

theorem own : ownKnob Try.prog.godebug = none := by kernel_rfl
theorem laidOut : laidOutB Try.prog = true := by kernel_rfl

section
variable {H : Type} {enc : TypeId × Value → H} {W : World} {base : Nat} {spare : Nat → Bool} {held : Bool}

theorem rd_of_trod {fuel : Nat} {v : Value} {y : DataW H × List MemPlace} (h : DataW.trod enc Try.prog W base spare held fuel 22 [v] = some y) :
    ∃ A n c l, v = .slice A n c ∧ Rd W.heap.size W A n l ∧ n ≤ c ∧ c ≤ maxLen := by
  rcases open_ints Try.underlying22 Try.underlying5 (by kernel_rfl) h with ⟨hcs, _⟩ | ⟨x, len, cap, zs, hcs, _, hl, hm, hz, _, hcell, hwz⟩
  · simp at hcs
    subst hcs
    exact ⟨none, 0, 0, [], rfl, Rd.nil _ _ _, Nat.le_refl _, Nat.zero_le _⟩
  · simp at hcs
    subst hcs
    have hlen : len ≤ zs.length := by rw [hz]; split <;> omega
    refine ⟨_, len, cap, zs.take len, rfl, ⟨by simp; omega, fun n hn => bounds_u8 (hwz n (List.mem_of_mem_take hn)), fun h0 => ?_⟩, hl, hm⟩
    have h1 := hcell 0 (by omega)
    obtain ⟨b, off, spot⟩ := x
    have hspot : spot = none := by simpa [Addr.add] using World.cell?_spot h1
    subst hspot
    refine ⟨b, off, rfl, by have := World.block_lt_of_cell? W _ h1; simpa [Addr.add] using this, fun i hi => ?_⟩
    have h2 := hcell i (by omega)
    rw [Addr.add_lit] at h2
    rw [h2]
    simp [List.getD_eq_getElem?_getD, hi]
theorem u8_of_trod {fuel : Nat} {v : Value} {y : DataW H × List MemPlace} (h : DataW.trod enc Try.prog W base spare held fuel 5 [v] = some y) : ∃ x, v = .int .u8 x ∧ 0 ≤ x ∧ x ≤ 255 := by
  obtain ⟨x, e, _, hw⟩ := DataW.trod_int Try.underlying5 h
  simp at e
  exact ⟨x, e, (bounds_u8 hw).1, (bounds_u8 hw).2⟩
/-- []byte -/
theorem open_bytes {v : Value} {d : DataW H} {p : List MemPlace} {r : Reach} {b0 : Nat} (hv : Value.okWide Try.prog W r b0 22 v) (h : DataW.Trod enc Try.prog W base spare held 22 v d p) :
    ∃ A n c l, v = .slice A n c ∧ Rd W.heap.size W A n l ∧ n ≤ c ∧ c ≤ maxLen := by
  obtain ⟨a, len, cap, rfl⟩ := okWide_slice Try.underlying22 hv
  obtain ⟨fuel, hf⟩ := h
  exact rd_of_trod (v := .slice a len cap) (by simpa [Value.cells] using hf)
/-- api.Rep -/
theorem open_rep {v : Value} {d : DataW H} {p : List MemPlace} {r : Reach} {b0 : Nat} (hv : Value.okWide Try.prog W r b0 24 v) (h : DataW.Trod enc Try.prog W base spare held 24 v d p) :
    ∃ k c A n m l, v = .agg #[.int .u8 k, .int .u8 c, .slice A n m] ∧ (0 ≤ k ∧ k ≤ 255) ∧ (0 ≤ c ∧ c ≤ 255) ∧ Rd W.heap.size W A n l ∧ n ≤ m ∧ m ≤ maxLen := by
  obtain ⟨v0, v1, v2, y0, y1, y2, n, rfl, _, _, h0, h1, h2⟩ := open_agg3 Try.underlying24 (by kernel_rfl) (by kernel_rfl) hv h
  obtain ⟨k, rfl, hk⟩ := u8_of_trod h0
  obtain ⟨c, rfl, hc⟩ := u8_of_trod h1
  obtain ⟨A, n, m, l, rfl, hr⟩ := rd_of_trod h2
  exact ⟨k, c, A, n, m, l, rfl, hk, hc, hr⟩
end
theorem bounds_i64 {n : Int} (h : (Lit.int .i64 n).wf = true) : -9223372036854775808 ≤ n ∧ n ≤ 9223372036854775807 := by
  simp [Lit.wf, IntKind.min, IntKind.max, IntKind.signed, IntKind.bits] at h
  omega
end Go.Proofs.Yteioamllbaihdaa

/-
  Layer 8: of, and what it calls.
-/
import Derived.Test.YtidekbijkknlmaaM4
set_option linter.unusedVariables false
set_option maxRecDepth 100000
namespace Go.Proofs.Ytidekbijkknlmaa
open Go.RowKit
attribute [local irreducible] TL TC TQ TK TO Qt TA
/-- Values of a cell each that a slice (or nil) reads. -/
def roV (A : Option Addr) (n : Nat) (vs : List Value) : Asn where
  S := fun x => 0 < n ∧ ∃ o, A = some ⟨x, o, none⟩
  C := fun w => vs.length = n ∧ (0 < n → ∃ b o, A = some ⟨b, o, none⟩ ∧ b < w.heap.size ∧ CellsAt w b o vs)
  lt := fun h b ⟨hn, o, hA⟩ => by
    obtain ⟨b', o', h1, h2, _⟩ := h.2 hn
    rw [hA] at h1
    injection h1 with h1
    injection h1 with h1
    omega
  loc := fun {w w'} hk h => ⟨h.1, fun hn => by
    obtain ⟨b, o, h1, h2, h3⟩ := h.2 hn
    have hb := hk b ⟨hn, o, h1⟩
    refine ⟨b, o, h1, ?_, fun j u hu => ?_⟩
    · have : w.heap[b]? = some (w.heap[b]'h2) := Array.getElem?_eq_getElem h2
      rw [this] at hb
      exact (Array.getElem?_eq_some_iff.1 hb).1
    · rw [World.cell?_of_block (w := w) (a := ⟨b, o + j, none⟩) hb]
      exact h3 j u hu⟩
theorem roV_blk {b : Nat} {l : List Value} {t : TypeId} {n : Nat} {w : World} (h : (blk b l t).C w) (hl : l.length = n) : (roV (some ⟨b, 0, none⟩) n l).C w :=
  ⟨hl, fun hn => ⟨b, 0, rfl, (blk b l t).lt h b rfl, fun j u hu => by rw [Nat.zero_add]; exact blk_cell h hu⟩⟩
theorem roV_nil (w : World) : (roV none 0 []).C w := ⟨rfl, fun h => by omega⟩
theorem roV_cell {A : Option Addr} {n : Nat} {vs : List Value} {w : World} (h : (roV A n vs).C w) (hn : 0 < n) : ∃ b o, A = some ⟨b, o, none⟩ ∧ CellsAt w b o vs := by
  obtain ⟨b, o, h1, _, h2⟩ := h.2 hn
  exact ⟨b, o, h1, h2⟩

section
variable {s : SegV} {w : World}
/-- Is there such a page? -/
def okPage (s : SegV) (p : Int) : Bool := decide (0 ≤ p ∧ p ≤ (s.pgs.length : Int) - 1)

end

/-- What of tells. -/
def ofV (m : MemV) (seg : Int) (ps : List Int) : Value :=
  if 0 ≤ seg then match m.segs[seg.toNat]? with
    | some s => if ps.all (okPage s) then .pointer (some ⟨s.b, 0, none⟩) else .pointer none
    | none => .pointer none
  else .pointer none
section
variable {p : Nat} {m : MemV} {w : World}
end
end Go.Proofs.Ytidekbijkknlmaa

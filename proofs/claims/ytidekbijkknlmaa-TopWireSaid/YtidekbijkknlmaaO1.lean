/-
  The arguments of the statements, opened: what a reading of an argument says of memory.
-/
import Derived.Test.YtidekbijkknlmaaG1
import Derived.ProofKit
import Derived.OpenShut
import Derived.ShutString
import Derived.ChangeOld
import Derived.Below
import Derived.Lib.SmallJoins
import Derived.Deep.Strs
set_option linter.unusedVariables false
set_option maxRecDepth 100000
namespace Go.Proofs.Ytidekbijkknlmaa
open Go.ChangeShapes Go.WideShapes Go.ChangeAt Go.RowKit Go.Joins

theorem own : ownKnob Try.prog.godebug = none := by kernel_rfl
theorem laidOut : laidOutB Try.prog = true := by kernel_rfl
theorem bounds_i64 {n : Int} (h : (Lit.int .i64 n).wf = true) : -9223372036854775808 ≤ n ∧ n ≤ 9223372036854775807 := by
  simp [Lit.wf, IntKind.min, IntKind.max, IntKind.signed, IntKind.bits] at h
  omega
theorem bounds_u32 {n : Int} (h : (Lit.int .u32 n).wf = true) : 0 ≤ n ∧ n ≤ 4294967295 := by
  simp [Lit.wf, IntKind.min, IntKind.max, IntKind.signed, IntKind.bits] at h
  omega
theorem list_of {α : Type} {n : Nat} {P : Nat → α → Prop} (h : ∀ i, i < n → ∃ x, P i x) : ∃ xs : List α, xs.length = n ∧ ∀ i x, xs[i]? = some x → P i x := by
  induction n with
  | zero => exact ⟨[], rfl, fun i x hx => by simp at hx⟩
  | succ n ih =>
    obtain ⟨xs, hl, hx⟩ := ih fun i hi => h i (by omega)
    obtain ⟨y, hy⟩ := h n (by omega)
    refine ⟨xs ++ [y], by simp [hl], fun i x hi => ?_⟩
    by_cases hin : i < n
    · rw [List.getElem?_append_left (by omega)] at hi
      exact hx i x hi
    · rw [List.getElem?_append_right (by omega)] at hi
      have : i = n := by
        have := (List.getElem?_eq_some_iff.1 hi).1
        simp at this
        omega
      subst this
      simp [hl] at hi
      subst hi
      exact hy

section
variable {H : Type} {enc : TypeId × Value → H} {W : World} {base : Nat} {spare : Nat → Bool} {held : Bool}

theorem row_of_trod {P : Program} {t e : TypeId} {sz : Nat} (ht : P.underlying t = some (.slice e)) (hc : P.cellsOf e = sz) (hp : 0 < sz) {fuel : Nat} {v : Value} {y : DataW H × List MemPlace} (h : DataW.trod enc P W base spare held fuel t [v] = some y) :
    ∃ A n c, v = .slice A n c ∧ n ≤ c ∧ c ≤ maxLen ∧ (0 < n → ∃ b off, A = some ⟨b, off, none⟩ ∧ b < W.heap.size ∧ ∀ i, i < n → ∃ fuel' cs y', cs.length = sz ∧ (∀ j, j < sz → W.cell? ⟨b, off + i * sz + j, none⟩ = cs[j]?) ∧ DataW.trod enc P W base spare held fuel' e cs = some y') := by
  rcases DataW.trod_slice ht h with ⟨hcs, _⟩ | ⟨a, len, cap, elems, rest, n, _, hcs, _, hb, hl, hm, hlen, hel, _, _⟩
  · simp at hcs
    subst hcs
    exact ⟨none, 0, 0, rfl, Nat.le_refl _, Nat.zero_le _, fun h => by omega⟩
  · simp at hcs
    subst hcs
    refine ⟨some a, len, cap, rfl, hl, hm, fun h0 => ?_⟩
    have each : ∀ i, i < len → ∃ cs y', cs.length = sz ∧ (∀ j, j < sz → W.cell? ((a.add (i * sz)).add j) = cs[j]?) ∧ DataW.trod enc P W base spare held n e cs = some y' := fun i hi => by
      have h1 := hel i hi
      rw [List.getElem?_eq_getElem (by omega), Option.bind_eq_some_iff, hc] at h1
      obtain ⟨cs, h2, h3⟩ := h1
      obtain ⟨_, h4, h5⟩ := World.cells?_some h2
      exact ⟨cs, _, h4, h5, h3⟩
    obtain ⟨cs0, y0, l0, c0, _⟩ := each 0 h0
    have h1 := c0 0 hp
    rw [List.getElem?_eq_getElem (by omega)] at h1
    obtain ⟨b, off, spot⟩ := a
    have hspot : spot = none := by simpa [Addr.add] using World.cell?_spot h1
    subst hspot
    refine ⟨b, off, rfl, by have := World.block_lt_of_cell? W _ h1; simpa [Addr.add] using this, fun i hi => ?_⟩
    obtain ⟨cs, y', h2, h3, h4⟩ := each i hi
    refine ⟨n, cs, y', h2, fun j hj => ?_, h4⟩
    have := h3 j hj
    rw [Addr.add_lit, Addr.add_lit] at this
    exact this
end


section
variable {H : Type} {enc : TypeId × Value → H} {W : World} {base : Nat} {spare : Nat → Bool} {held : Bool}
theorem u8_of_trod {fuel : Nat} {v : Value} {y : DataW H × List MemPlace} (h : DataW.trod enc Try.prog W base spare held fuel 5 [v] = some y) : ∃ x : Nat, v = .int .u8 x ∧ x ≤ 255 := by
  obtain ⟨x, e, _, hw⟩ := DataW.trod_int Try.underlying5 h
  simp at e
  have := bounds_u8 hw
  exact ⟨x.toNat, by rw [e, Int.toNat_of_nonneg this.1], by omega⟩
theorem u32_of_trod {fuel : Nat} {v : Value} {y : DataW H × List MemPlace} (h : DataW.trod enc Try.prog W base spare held fuel 61 [v] = some y) : ∃ x : Nat, v = .int .u32 x ∧ x ≤ 4294967295 := by
  obtain ⟨x, e, _, hw⟩ := DataW.trod_int Try.underlying61 h
  simp at e
  have := bounds_u32 hw
  exact ⟨x.toNat, by rw [e, Int.toNat_of_nonneg this.1], by omega⟩
theorem int_of_trod {fuel : Nat} {v : Value} {y : DataW H × List MemPlace} (h : DataW.trod enc Try.prog W base spare held fuel 3 [v] = some y) : ∃ x : Int, v = .int .i64 x ∧ -9223372036854775808 ≤ x ∧ x ≤ 9223372036854775807 := by
  obtain ⟨x, e, _, hw⟩ := DataW.trod_int Try.underlying3 h
  simp at e
  exact ⟨x, e, (bounds_i64 hw).1, (bounds_i64 hw).2⟩
theorem ro_of_trod {fuel : Nat} {v : Value} {y : DataW H × List MemPlace} (h : DataW.trod enc Try.prog W base spare held fuel 30 [v] = some y) :
    ∃ A n c l, v = .slice A n c ∧ (roB A n l).C W ∧ n ≤ c ∧ c ≤ maxLen := by
  obtain ⟨A, n, c, rfl, h1, h2, h3⟩ := row_of_trod (sz := 1) Try.underlying30 (by kernel_rfl) (by omega) h
  by_cases h0 : 0 < n
  · obtain ⟨b, off, rfl, hb, hi⟩ := h3 h0
    obtain ⟨l, hl, hx⟩ := list_of (n := n) (P := fun j (x : Int) => W.cell? ⟨b, off + j, none⟩ = some (.int .u8 x) ∧ 0 ≤ x ∧ x ≤ 255) fun i hin => by
      obtain ⟨fuel', cs, y', hcs, hcell, ht⟩ := hi i hin
      match cs, hcs with
      | [u], _ =>
        obtain ⟨x, rfl, hx⟩ := u8_of_trod ht
        exact ⟨x, by simpa using hcell 0 (by omega), by omega, by omega⟩
    refine ⟨_, n, c, l, rfl, ⟨hl, fun x hx' => ?_, fun _ => ⟨b, off, rfl, hb, fun j u hu => ?_⟩⟩, h1, h2⟩
    · obtain ⟨i, hi⟩ := List.getElem?_of_mem hx'
      exact (hx i x hi).2
    · simp only [bv, List.getElem?_map, Option.map_eq_some_iff] at hu
      obtain ⟨x, hx1, rfl⟩ := hu
      exact (hx j x hx1).1
  · have : n = 0 := by omega
    subst this
    exact ⟨A, 0, c, [], rfl, ⟨rfl, Oct.nil, fun h => by omega⟩, h1, h2⟩
theorem bb_of_trod {fuel : Nat} {v : Value} {y : DataW H × List MemPlace} (h : DataW.trod enc Try.prog W base spare held fuel 33 [v] = some y) :
    ∃ A n c fl, v = .slice A n c ∧ InBB (fps []) W A n fl ∧ n ≤ c ∧ c ≤ maxLen := by
  obtain ⟨A, n, c, rfl, h1, h2, h3⟩ := row_of_trod (sz := 1) Try.underlying33 (by kernel_rfl) (by omega) h
  by_cases h0 : 0 < n
  · obtain ⟨b, off, rfl, hb, hi⟩ := h3 h0
    obtain ⟨ll, hl, hx⟩ := list_of (n := n) (P := fun j (x : Value × List Int) => W.cell? ⟨b, off + j, none⟩ = some x.1 ∧ ∃ B k cc, x.1 = .slice B k cc ∧ k ≤ cc ∧ cc ≤ maxLen ∧ (roB B k x.2).C W) fun i hin => by
      obtain ⟨fuel', cs, y', hcs, hcell, ht⟩ := hi i hin
      match cs, hcs with
      | [u], _ =>
        obtain ⟨B, k, cc, l, rfl, hr, hn, hm⟩ := ro_of_trod ht
        exact ⟨(_, l), by simpa using hcell 0 (by omega), B, k, cc, rfl, hn, hm, hr⟩
    refine ⟨_, n, c, ll.map (·.2), rfl, ⟨by simpa using hl, ll.map (·.1), Ro.empty ⟨by simpa using hl, fun _ => ⟨b, off, rfl, hb, fun j u hu => ?_⟩⟩, fun i l hil => ?_⟩, h1, h2⟩
    · simp only [List.getElem?_map, Option.map_eq_some_iff] at hu
      obtain ⟨x, hx1, rfl⟩ := hu
      exact (hx j x hx1).1
    · simp only [List.getElem?_map, Option.map_eq_some_iff] at hil
      obtain ⟨x, hx1, rfl⟩ := hil
      obtain ⟨_, B, k, cc, e1, e2, e3, e4⟩ := hx i x hx1
      exact ⟨B, k, cc, by simp [hx1, e1], e2, e3, Ro.empty e4⟩
  · have : n = 0 := by omega
    subst this
    exact ⟨A, 0, c, [], rfl, ⟨rfl, [], Ro.empty ⟨rfl, fun h => by omega⟩, fun i l h => by simp at h⟩, h1, h2⟩
/-- api.Map -/
theorem open_map {v : Value} {d : DataW H} {p : List MemPlace} {r : Reach} {b0 : Nat} (hv : Value.okWide Try.prog W r b0 82 v) (h : DataW.Trod enc Try.prog W base spare held 82 v d p) : ∃ x, InMap (fps []) W v x := by
  obtain ⟨v0, v1, v2, y0, y1, y2, n, rfl, _, _, h0, h1, h2⟩ := open_agg3 Try.underlying82 (by kernel_rfl) (by kernel_rfl) hv h
  obtain ⟨ram, rfl, _⟩ := int_of_trod h0
  obtain ⟨A', n', c', fl, rfl, hfl, hn', hc'⟩ := bb_of_trod h2
  obtain ⟨A, n, c, rfl, hn, hc, h3⟩ := row_of_trod (sz := 2) Try.underlying80 (by kernel_rfl) (by omega) h1
  by_cases h0 : 0 < n
  · obtain ⟨b, off, rfl, hb, hi⟩ := h3 h0
    obtain ⟨ll, hl, hx⟩ := list_of (n := n) (P := fun j (x : Int × Int) => W.cell? ⟨b, off + j * 2, none⟩ = some (.int .i64 x.1) ∧ W.cell? ⟨b, off + (j * 2 + 1), none⟩ = some (.int .i64 x.2)) fun i hin => by
      obtain ⟨fuel', cs, y', hcs, hcell, ht⟩ := hi i hin
      match cs, hcs with
      | [u0, u1], _ =>
        obtain ⟨xs, q, _, _, _, hlen, hfld⟩ := DataW.trod_struct Try.underlying151 ht
        match xs, hlen with
        | [y0, y1], _ =>
          have k3 : (Try.prog).cellsOf 3 = 1 := by kernel_rfl
          have g0 := hfld 0 _ rfl
          have g1 := hfld 1 _ rfl
          simp [k3] at g0 g1
          obtain ⟨x0, rfl, _⟩ := int_of_trod g0
          obtain ⟨x1, rfl, _⟩ := int_of_trod g1
          exact ⟨(x0, x1), by simpa using hcell 0 (by omega), by simpa [Nat.add_assoc] using hcell 1 (by omega)⟩
    subst hl
    refine ⟨⟨ram, ll, fl⟩, ⟨_, c, A', n', c', rfl, hn, hc, Ro.empty ⟨length_segCells ll, fun _ => ⟨b, off, rfl, hb, fun j u hu => ?_⟩⟩, hfl, hn', hc'⟩⟩
    have hj : j < ll.length * 2 := by have := (List.getElem?_eq_some_iff.1 hu).1; rwa [length_segCells] at this
    obtain ⟨s, hs⟩ : ∃ s, ll[j / 2]? = some s := ⟨_, List.getElem?_eq_getElem (by omega)⟩
    obtain ⟨g1, g2⟩ := segCells_get ll (j / 2) s hs
    obtain ⟨q1, q2⟩ := hx (j / 2) s hs
    rcases (by omega : j = j / 2 * 2 ∨ j = j / 2 * 2 + 1) with e | e
    · rw [← e] at g1 q1
      rw [g1] at hu
      injection hu with hu
      rw [← hu]
      exact q1
    · rw [← e] at g2 q2
      rw [g2] at hu
      injection hu with hu
      rw [← hu]
      exact q2
  · have : n = 0 := by omega
    subst this
    exact ⟨⟨ram, [], fl⟩, ⟨A, c, A', n', c', rfl, hn, hc, Ro.empty ⟨rfl, fun h => by simp at h⟩, hfl, hn', hc'⟩⟩
/-- []byte -/
theorem open_bytes {v : Value} {d : DataW H} {p : List MemPlace} {r : Reach} {b0 : Nat} (hv : Value.okWide Try.prog W r b0 30 v) (h : DataW.Trod enc Try.prog W base spare held 30 v d p) :
    ∃ A n c l, v = .slice A n c ∧ (roB A n l).C W ∧ n ≤ c ∧ c ≤ maxLen := by
  obtain ⟨a, len, cap, rfl⟩ := okWide_slice Try.underlying30 hv
  obtain ⟨fuel, hf⟩ := h
  exact ro_of_trod (v := .slice a len cap) (by simpa [Value.cells] using hf)
/-- uint8 -/
theorem open_u8 {v : Value} {d : DataW H} {p : List MemPlace} {r : Reach} {b0 : Nat} (hv : Value.okWide Try.prog W r b0 5 v) (h : DataW.Trod enc Try.prog W base spare held 5 v d p) : ∃ x : Nat, v = .int .u8 x ∧ x ≤ 255 := by
  obtain ⟨x, rfl, _, _, hw⟩ := open_int Try.underlying5 hv h
  have := bounds_u8 hw
  exact ⟨x.toNat, by rw [Int.toNat_of_nonneg this.1], by omega⟩
end
end Go.Proofs.Ytidekbijkknlmaa

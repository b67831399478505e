/-
  Part 25 of the proof of QJ: the texts O1 O4 OD QJ.
-/
import Derived.Test.YtboccjdncdaakaaK07
import Derived.ProofKit
import Derived.OpenShut
import Derived.ShutString
import Derived.ChangeOld
import Derived.Below
import Derived.Lib.SmallJoins
import Derived.Deep.Strs
import Derived.Test.YtboccjdncdaakaaK11
import Derived.Test.YtboccjdncdaakaaK22
import Derived.Test.YtboccjdncdaakaaK24

/-
  The arguments of the statements, opened: what a reading of an argument says of memory.
-/

set_option linter.unusedVariables false
set_option maxRecDepth 100000
namespace Go.Proofs.Ytboccjdncdaakaa
open Go.ChangeShapes Go.WideShapes Go.ChangeAt Go.RowKit Go.Joins

theorem own : ownKnob Try.prog.godebug = none := by kernel_rfl
theorem laidOut : laidOutB Try.prog = true := by kernel_rfl
theorem bounds_i64 {n : Int} (h : (Lit.int .i64 n).wf = true) : -9223372036854775808 ≤ n ∧ n ≤ 9223372036854775807 := by
  simp [Lit.wf, IntKind.min, IntKind.max, IntKind.signed, IntKind.bits] at h
  omega
theorem bounds_u32 {n : Int} (h : (Lit.int .u32 n).wf = true) : 0 ≤ n ∧ n ≤ 4294967295 := by
  simp [Lit.wf, IntKind.min, IntKind.max, IntKind.signed, IntKind.bits] at h
  omega
theorem list_of {α : Type} {n : Nat} {P : Nat → α → Prop} (h : ∀ i, i < n → ∃ x, P i x) : ∃ xs : List α, xs.length = n ∧ ∀ i x, xs[i]? = some x → P i x := by
  induction n with
  | zero => exact ⟨[], rfl, fun i x hx => by simp at hx⟩
  | succ n ih =>
    obtain ⟨xs, hl, hx⟩ := ih fun i hi => h i (by omega)
    obtain ⟨y, hy⟩ := h n (by omega)
    refine ⟨xs ++ [y], by simp [hl], fun i x hi => ?_⟩
    by_cases hin : i < n
    · rw [List.getElem?_append_left (by omega)] at hi
      exact hx i x hi
    · rw [List.getElem?_append_right (by omega)] at hi
      have : i = n := by
        have := (List.getElem?_eq_some_iff.1 hi).1
        simp at this
        omega
      subst this
      simp [hl] at hi
      subst hi
      exact hy

section
variable {H : Type} {enc : TypeId × Value → H} {W : World} {base : Nat} {spare : Nat → Bool} {held : Bool}

theorem row_of_trod {P : Program} {t e : TypeId} {sz : Nat} (ht : P.underlying t = some (.slice e)) (hc : P.cellsOf e = sz) (hp : 0 < sz) {fuel : Nat} {v : Value} {y : DataW H × List MemPlace} (h : DataW.trod enc P W base spare held fuel t [v] = some y) :
    ∃ A n c, v = .slice A n c ∧ n ≤ c ∧ c ≤ maxLen ∧ (0 < n → ∃ b off, A = some ⟨b, off, none⟩ ∧ b < W.heap.size ∧ ∀ i, i < n → ∃ fuel' cs y', cs.length = sz ∧ (∀ j, j < sz → W.cell? ⟨b, off + i * sz + j, none⟩ = cs[j]?) ∧ DataW.trod enc P W base spare held fuel' e cs = some y') := by
  rcases DataW.trod_slice ht h with ⟨hcs, _⟩ | ⟨a, len, cap, elems, rest, n, _, hcs, _, hb, hl, hm, hlen, hel, _, _⟩
  · simp at hcs
    subst hcs
    exact ⟨none, 0, 0, rfl, Nat.le_refl _, Nat.zero_le _, fun h => by omega⟩
  · simp at hcs
    subst hcs
    refine ⟨some a, len, cap, rfl, hl, hm, fun h0 => ?_⟩
    have each : ∀ i, i < len → ∃ cs y', cs.length = sz ∧ (∀ j, j < sz → W.cell? ((a.add (i * sz)).add j) = cs[j]?) ∧ DataW.trod enc P W base spare held n e cs = some y' := fun i hi => by
      have h1 := hel i hi
      rw [List.getElem?_eq_getElem (by omega), Option.bind_eq_some_iff, hc] at h1
      obtain ⟨cs, h2, h3⟩ := h1
      obtain ⟨_, h4, h5⟩ := World.cells?_some h2
      exact ⟨cs, _, h4, h5, h3⟩
    obtain ⟨cs0, y0, l0, c0, _⟩ := each 0 h0
    have h1 := c0 0 hp
    rw [List.getElem?_eq_getElem (by omega)] at h1
    obtain ⟨b, off, spot⟩ := a
    have hspot : spot = none := by simpa [Addr.add] using World.cell?_spot h1
    subst hspot
    refine ⟨b, off, rfl, by have := World.block_lt_of_cell? W _ h1; simpa [Addr.add] using this, fun i hi => ?_⟩
    obtain ⟨cs, y', h2, h3, h4⟩ := each i hi
    refine ⟨n, cs, y', h2, fun j hj => ?_, h4⟩
    have := h3 j hj
    rw [Addr.add_lit, Addr.add_lit] at this
    exact this
end

section
variable {H : Type} {enc : TypeId × Value → H} {W : World} {base : Nat} {spare : Nat → Bool} {held : Bool}
theorem u8_of_trod {fuel : Nat} {v : Value} {y : DataW H × List MemPlace} (h : DataW.trod enc Try.prog W base spare held fuel 5 [v] = some y) : ∃ x : Nat, v = .int .u8 x ∧ x ≤ 255 := by
  obtain ⟨x, e, _, hw⟩ := DataW.trod_int Try.underlying5 h
  simp at e
  have := bounds_u8 hw
  exact ⟨x.toNat, by rw [e, Int.toNat_of_nonneg this.1], by omega⟩
theorem u32_of_trod {fuel : Nat} {v : Value} {y : DataW H × List MemPlace} (h : DataW.trod enc Try.prog W base spare held fuel 42 [v] = some y) : ∃ x : Nat, v = .int .u32 x ∧ x ≤ 4294967295 := by
  obtain ⟨x, e, _, hw⟩ := DataW.trod_int Try.underlying42 h
  simp at e
  have := bounds_u32 hw
  exact ⟨x.toNat, by rw [e, Int.toNat_of_nonneg this.1], by omega⟩
theorem int_of_trod {fuel : Nat} {v : Value} {y : DataW H × List MemPlace} (h : DataW.trod enc Try.prog W base spare held fuel 3 [v] = some y) : ∃ x : Int, v = .int .i64 x ∧ -9223372036854775808 ≤ x ∧ x ≤ 9223372036854775807 := by
  obtain ⟨x, e, _, hw⟩ := DataW.trod_int Try.underlying3 h
  simp at e
  exact ⟨x, e, (bounds_i64 hw).1, (bounds_i64 hw).2⟩
theorem ro_of_trod {fuel : Nat} {v : Value} {y : DataW H × List MemPlace} (h : DataW.trod enc Try.prog W base spare held fuel 38 [v] = some y) :
    ∃ A n c l, v = .slice A n c ∧ (roB A n l).C W ∧ n ≤ c ∧ c ≤ maxLen := by
  obtain ⟨A, n, c, rfl, h1, h2, h3⟩ := row_of_trod (sz := 1) Try.underlying38 (by kernel_rfl) (by omega) h
  by_cases h0 : 0 < n
  · obtain ⟨b, off, rfl, hb, hi⟩ := h3 h0
    obtain ⟨l, hl, hx⟩ := list_of (n := n) (P := fun j (x : Int) => W.cell? ⟨b, off + j, none⟩ = some (.int .u8 x) ∧ 0 ≤ x ∧ x ≤ 255) fun i hin => by
      obtain ⟨fuel', cs, y', hcs, hcell, ht⟩ := hi i hin
      match cs, hcs with
      | [u], _ =>
        obtain ⟨x, rfl, hx⟩ := u8_of_trod ht
        exact ⟨x, by simpa using hcell 0 (by omega), by omega, by omega⟩
    refine ⟨_, n, c, l, rfl, ⟨hl, fun x hx' => ?_, fun _ => ⟨b, off, rfl, hb, fun j u hu => ?_⟩⟩, h1, h2⟩
    · obtain ⟨i, hi⟩ := List.getElem?_of_mem hx'
      exact (hx i x hi).2
    · simp only [bv, List.getElem?_map, Option.map_eq_some_iff] at hu
      obtain ⟨x, hx1, rfl⟩ := hu
      exact (hx j x hx1).1
  · have : n = 0 := by omega
    subst this
    exact ⟨A, 0, c, [], rfl, ⟨rfl, Oct.nil, fun h => by omega⟩, h1, h2⟩
theorem bb_of_trod {fuel : Nat} {v : Value} {y : DataW H × List MemPlace} (h : DataW.trod enc Try.prog W base spare held fuel 23 [v] = some y) :
    ∃ A n c fl, v = .slice A n c ∧ InBB (fps []) W A n fl ∧ n ≤ c ∧ c ≤ maxLen := by
  obtain ⟨A, n, c, rfl, h1, h2, h3⟩ := row_of_trod (sz := 1) Try.underlying23 (by kernel_rfl) (by omega) h
  by_cases h0 : 0 < n
  · obtain ⟨b, off, rfl, hb, hi⟩ := h3 h0
    obtain ⟨ll, hl, hx⟩ := list_of (n := n) (P := fun j (x : Value × List Int) => W.cell? ⟨b, off + j, none⟩ = some x.1 ∧ ∃ B k cc, x.1 = .slice B k cc ∧ k ≤ cc ∧ cc ≤ maxLen ∧ (roB B k x.2).C W) fun i hin => by
      obtain ⟨fuel', cs, y', hcs, hcell, ht⟩ := hi i hin
      match cs, hcs with
      | [u], _ =>
        obtain ⟨B, k, cc, l, rfl, hr, hn, hm⟩ := ro_of_trod ht
        exact ⟨(_, l), by simpa using hcell 0 (by omega), B, k, cc, rfl, hn, hm, hr⟩
    refine ⟨_, n, c, ll.map (·.2), rfl, ⟨by simpa using hl, ll.map (·.1), Ro.empty ⟨by simpa using hl, fun _ => ⟨b, off, rfl, hb, fun j u hu => ?_⟩⟩, fun i l hil => ?_⟩, h1, h2⟩
    · simp only [List.getElem?_map, Option.map_eq_some_iff] at hu
      obtain ⟨x, hx1, rfl⟩ := hu
      exact (hx j x hx1).1
    · simp only [List.getElem?_map, Option.map_eq_some_iff] at hil
      obtain ⟨x, hx1, rfl⟩ := hil
      obtain ⟨_, B, k, cc, e1, e2, e3, e4⟩ := hx i x hx1
      exact ⟨B, k, cc, by simp [hx1, e1], e2, e3, Ro.empty e4⟩
  · have : n = 0 := by omega
    subst this
    exact ⟨A, 0, c, [], rfl, ⟨rfl, [], Ro.empty ⟨rfl, fun h => by omega⟩, fun i l h => by simp at h⟩, h1, h2⟩
/-- api.Map -/
theorem open_map {v : Value} {d : DataW H} {p : List MemPlace} {r : Reach} {b0 : Nat} (hv : Value.okWide Try.prog W r b0 34 v) (h : DataW.Trod enc Try.prog W base spare held 34 v d p) : ∃ x, InMap (fps []) W v x := by
  obtain ⟨v0, v1, v2, y0, y1, y2, n, rfl, _, _, h0, h1, h2⟩ := open_agg3 Try.underlying34 (by kernel_rfl) (by kernel_rfl) hv h
  obtain ⟨ram, rfl, _⟩ := int_of_trod h0
  obtain ⟨A', n', c', fl, rfl, hfl, hn', hc'⟩ := bb_of_trod h2
  obtain ⟨A, n, c, rfl, hn, hc, h3⟩ := row_of_trod (sz := 2) Try.underlying32 (by kernel_rfl) (by omega) h1
  by_cases h0 : 0 < n
  · obtain ⟨b, off, rfl, hb, hi⟩ := h3 h0
    obtain ⟨ll, hl, hx⟩ := list_of (n := n) (P := fun j (x : Int × Int) => W.cell? ⟨b, off + j * 2, none⟩ = some (.int .i64 x.1) ∧ W.cell? ⟨b, off + (j * 2 + 1), none⟩ = some (.int .i64 x.2)) fun i hin => by
      obtain ⟨fuel', cs, y', hcs, hcell, ht⟩ := hi i hin
      match cs, hcs with
      | [u0, u1], _ =>
        obtain ⟨xs, q, _, _, _, hlen, hfld⟩ := DataW.trod_struct Try.underlying67 ht
        match xs, hlen with
        | [y0, y1], _ =>
          have k3 : (Try.prog).cellsOf 3 = 1 := by kernel_rfl
          have g0 := hfld 0 _ rfl
          have g1 := hfld 1 _ rfl
          simp [k3] at g0 g1
          obtain ⟨x0, rfl, _⟩ := int_of_trod g0
          obtain ⟨x1, rfl, _⟩ := int_of_trod g1
          exact ⟨(x0, x1), by simpa using hcell 0 (by omega), by simpa [Nat.add_assoc] using hcell 1 (by omega)⟩
    subst hl
    refine ⟨⟨ram, ll, fl⟩, ⟨_, c, A', n', c', rfl, hn, hc, Ro.empty ⟨length_segCells ll, fun _ => ⟨b, off, rfl, hb, fun j u hu => ?_⟩⟩, hfl, hn', hc'⟩⟩
    have hj : j < ll.length * 2 := by have := (List.getElem?_eq_some_iff.1 hu).1; rwa [length_segCells] at this
    obtain ⟨s, hs⟩ : ∃ s, ll[j / 2]? = some s := ⟨_, List.getElem?_eq_getElem (by omega)⟩
    obtain ⟨g1, g2⟩ := segCells_get ll (j / 2) s hs
    obtain ⟨q1, q2⟩ := hx (j / 2) s hs
    rcases (by omega : j = j / 2 * 2 ∨ j = j / 2 * 2 + 1) with e | e
    · rw [← e] at g1 q1
      rw [g1] at hu
      injection hu with hu
      rw [← hu]
      exact q1
    · rw [← e] at g2 q2
      rw [g2] at hu
      injection hu with hu
      rw [← hu]
      exact q2
  · have : n = 0 := by omega
    subst this
    exact ⟨⟨ram, [], fl⟩, ⟨A, c, A', n', c', rfl, hn, hc, Ro.empty ⟨rfl, fun h => by simp at h⟩, hfl, hn', hc'⟩⟩
/-- []byte -/
theorem open_bytes {v : Value} {d : DataW H} {p : List MemPlace} {r : Reach} {b0 : Nat} (hv : Value.okWide Try.prog W r b0 38 v) (h : DataW.Trod enc Try.prog W base spare held 38 v d p) :
    ∃ A n c l, v = .slice A n c ∧ (roB A n l).C W ∧ n ≤ c ∧ c ≤ maxLen := by
  obtain ⟨a, len, cap, rfl⟩ := okWide_slice Try.underlying38 hv
  obtain ⟨fuel, hf⟩ := h
  exact ro_of_trod (v := .slice a len cap) (by simpa [Value.cells] using hf)
/-- uint8 -/
theorem open_u8 {v : Value} {d : DataW H} {p : List MemPlace} {r : Reach} {b0 : Nat} (hv : Value.okWide Try.prog W r b0 5 v) (h : DataW.Trod enc Try.prog W base spare held 5 v d p) : ∃ x : Nat, v = .int .u8 x ∧ x ≤ 255 := by
  obtain ⟨x, rfl, _, _, hw⟩ := open_int Try.underlying5 hv h
  have := bounds_u8 hw
  exact ⟨x.toNat, by rw [Int.toNat_of_nonneg this.1], by omega⟩
end
end Go.Proofs.Ytboccjdncdaakaa

/-
  The arguments of the statements, opened: rows of lists, answers.
-/

set_option linter.unusedVariables false
set_option maxRecDepth 100000
namespace Go.Proofs.Ytboccjdncdaakaa
open Go.ChangeShapes Go.WideShapes Go.ChangeAt Go.RowKit Go.Joins
theorem law_of {f : FuncId} {args : Array Value} {W : World} {P : Program} (h : Calls P f args W (Ret W [] fun v _ => v = .bool true)) : Calls P f args W fun e w' => e = .returned (.bool true) ∧ Below W.heap.size W w' :=
  h.mono fun e w' ⟨v, B, he, hv, hs⟩ => ⟨by rw [he, hv], hs.kept.below (fun x ⟨_, hX, _⟩ => by cases hX)⟩
section
variable {H : Type} {enc : TypeId × Value → H} {W : World} {base : Nat} {spare : Nat → Bool} {held : Bool}
theorem ins_of_trod {P : Program} {t e : TypeId} {sz : Nat} (ht : P.underlying t = some (.slice e)) (hc : P.cellsOf e = sz) (h0 : 0 < sz) {α : Type} {p : List Value → α → Prop}
    (he : ∀ fuel cs y, cs.length = sz → DataW.trod enc P W base spare held fuel e cs = some y → ∃ x, p cs x) {fuel : Nat} {v : Value} {y : DataW H × List MemPlace} (h : DataW.trod enc P W base spare held fuel t [v] = some y) :
    ∃ A n c xs, v = .slice A n c ∧ InS (fps []) W sz p A n xs ∧ n ≤ c ∧ c ≤ maxLen := by
  obtain ⟨A, n, c, rfl, h1, h2, h3⟩ := row_of_trod ht hc h0 h
  by_cases hn : 0 < n
  · obtain ⟨b, off, rfl, hb, hi⟩ := h3 hn
    obtain ⟨ll, hl, hx⟩ := list_of (n := n) (P := fun j (x : List Value × α) => x.1.length = sz ∧ (∀ k, k < sz → W.cell? ⟨b, off + j * sz + k, none⟩ = x.1[k]?) ∧ p x.1 x.2) fun i hin => by
      obtain ⟨fuel', cs, y', hcs, hcell, ht⟩ := hi i hin
      obtain ⟨x, hx⟩ := he fuel' cs y' hcs ht
      exact ⟨(cs, x), hcs, hcell, hx⟩
    have hsz : ∀ r ∈ ll.map (·.1), r.length = sz := fun r hr => by
      obtain ⟨x, hx1, rfl⟩ := List.mem_map.1 hr
      obtain ⟨i, hi⟩ := List.getElem?_of_mem hx1
      exact (hx i x hi).1
    refine ⟨_, n, c, ll.map (·.2), rfl, ⟨by simpa using hl, ll.map (·.1), by simpa using hl, hsz, Ro.empty ⟨by rw [length_flatten' hsz]; simp [hl], fun _ => ⟨b, off, rfl, hb, fun j u hu => ?_⟩⟩, fun i r x hr hxx => ?_⟩, h1, h2⟩
    · have hj : j < n * sz := by have := (List.getElem?_eq_some_iff.1 hu).1; rw [length_flatten' hsz, List.length_map, hl] at this; exact this
      have hjn : j / sz < n := (Nat.div_lt_iff_lt_mul h0).2 hj
      have hjm : j % sz < sz := Nat.mod_lt _ h0
      obtain ⟨s, hs⟩ : ∃ s, ll[j / sz]? = some s := ⟨_, List.getElem?_eq_getElem (by omega)⟩
      obtain ⟨q1, q2, _⟩ := hx (j / sz) s hs
      obtain ⟨u', hu'⟩ : ∃ u', s.1[j % sz]? = some u' := ⟨_, List.getElem?_eq_getElem (by omega)⟩
      have e1 := flatten_get hsz (i := j / sz) (r := s.1) (by simp [hs]) hu'
      rw [Nat.div_add_mod'] at e1
      rw [e1] at hu
      injection hu with hu
      subst hu
      have := q2 (j % sz) hjm
      rw [hu', Nat.add_assoc, Nat.div_add_mod'] at this
      exact this
    · simp only [List.getElem?_map, Option.map_eq_some_iff] at hr hxx
      obtain ⟨s, hs, rfl⟩ := hr
      obtain ⟨s', hs', rfl⟩ := hxx
      rw [hs] at hs'
      injection hs' with hs'
      subst hs'
      exact (hx i s hs).2.2
  · have : n = 0 := by omega
    subst this
    exact ⟨A, 0, c, [], rfl, InS.nil A, h1, h2⟩
theorem bool_of_trod {fuel : Nat} {v : Value} {y : DataW H × List MemPlace} (h : DataW.trod enc Try.prog W base spare held fuel 4 [v] = some y) : ∃ b, v = .bool b := by
  obtain ⟨b, e, _⟩ := DataW.trod_bool Try.underlying4 h
  simp at e
  exact ⟨b, e⟩
theorem entry_of_trod {fuel : Nat} {cs : List Value} {y : DataW H × List MemPlace} (hl : cs.length = 3) (h : DataW.trod enc Try.prog W base spare held fuel 44 cs = some y) : ∃ e, InEntry cs e := by
  obtain ⟨xs, q, _, _, _, hlen, hfld⟩ := DataW.trod_struct Try.underlying44 h
  match cs, hl, xs, hlen with
  | [u0, u1, u2], _, [y0, y1, y2], _ =>
    have k1 : (Try.prog).cellsOf 5 = 1 := by kernel_rfl
    have k2 : (Try.prog).cellsOf 42 = 1 := by kernel_rfl
    have g0 := hfld 0 _ rfl
    have g1 := hfld 1 _ rfl
    have g2 := hfld 2 _ rfl
    simp [k1, k2] at g0 g1 g2
    obtain ⟨x0, rfl, b0⟩ := u8_of_trod g0
    obtain ⟨x1, rfl, b1⟩ := u8_of_trod g1
    obtain ⟨x2, rfl, b2⟩ := u32_of_trod g2
    exact ⟨⟨x0, x1, x2⟩, rfl, b0, b1, b2⟩
theorem tab_of_trod {fuel : Nat} {cs : List Value} {y : DataW H × List MemPlace} (hl : cs.length = 1) (h : DataW.trod enc Try.prog W base spare held fuel 37 cs = some y) : ∃ t, InTab (fps []) W cs t := by
  match cs, hl with
  | [u], _ =>
    obtain ⟨A, n, c, xs, rfl, h1, h2, h3⟩ := ins_of_trod Try.underlying37 (by kernel_rfl) (by omega) (fun _ _ _ hl h => entry_of_trod hl h) h
    exact ⟨xs, A, n, c, rfl, h1, h2, h3⟩
theorem tabs_of_trod {fuel : Nat} {v : Value} {y : DataW H × List MemPlace} (h : DataW.trod enc Try.prog W base spare held fuel 25 [v] = some y) : ∃ A n c ts, v = .slice A n c ∧ InS (fps []) W 1 (InTab (fps []) W) A n ts ∧ n ≤ c ∧ c ≤ maxLen :=
  ins_of_trod Try.underlying25 (by kernel_rfl) (by omega) (fun _ _ _ hl h => tab_of_trod hl h) h
theorem list_of_trod {fuel : Nat} {cs : List Value} {y : DataW H × List MemPlace} (hl : cs.length = 8) (h : DataW.trod enc Try.prog W base spare held fuel 27 cs = some y) : ∃ l, InList (fps []) W cs l := by
  obtain ⟨xs, q, _, _, _, hlen, hfld⟩ := DataW.trod_struct Try.underlying27 h
  match cs, hl, xs, hlen with
  | [u0, u1, u2, u3, u4, u5, u6, u7], _, [y0, y1, y2, y3, y4, y5, y6, y7], _ =>
    have k1 : (Try.prog).cellsOf 5 = 1 := by kernel_rfl
    have k2 : (Try.prog).cellsOf 4 = 1 := by kernel_rfl
    have k3 : (Try.prog).cellsOf 3 = 1 := by kernel_rfl
    have k4 : (Try.prog).cellsOf 25 = 1 := by kernel_rfl
    have g0 := hfld 0 _ rfl
    have g1 := hfld 1 _ rfl
    have g2 := hfld 2 _ rfl
    have g3 := hfld 3 _ rfl
    have g4 := hfld 4 _ rfl
    have g5 := hfld 5 _ rfl
    have g6 := hfld 6 _ rfl
    have g7 := hfld 7 _ rfl
    simp [k1, k2, k3, k4] at g0 g1 g2 g3 g4 g5 g6 g7
    obtain ⟨x0, rfl, b0⟩ := int_of_trod g0
    obtain ⟨A, n, c, ts, rfl, h1, h2, h3⟩ := tabs_of_trod g1
    obtain ⟨x2, rfl⟩ := bool_of_trod g2
    obtain ⟨x3, rfl, b3⟩ := u8_of_trod g3
    obtain ⟨x4, rfl, b4⟩ := u8_of_trod g4
    obtain ⟨x5, rfl, b5⟩ := u8_of_trod g5
    obtain ⟨x6, rfl⟩ := bool_of_trod g6
    obtain ⟨x7, rfl⟩ := bool_of_trod g7
    exact ⟨⟨x0, ts, x2, x3, x4, x5, x6, x7⟩, ⟨A, n, c, rfl, h1, h2, h3⟩, b0, b3, b4, b5⟩
/-- []api.List -/
theorem open_lists {v : Value} {d : DataW H} {p : List MemPlace} {r : Reach} {b0 : Nat} (hv : Value.okWide Try.prog W r b0 22 v) (h : DataW.Trod enc Try.prog W base spare held 22 v d p) :
    ∃ A n c xs, v = .slice A n c ∧ InS (fps []) W 8 (InList (fps []) W) A n xs ∧ n ≤ c ∧ c ≤ maxLen := by
  obtain ⟨a, len, cap, rfl⟩ := okWide_slice Try.underlying22 hv
  obtain ⟨fuel, hf⟩ := h
  exact ins_of_trod (v := .slice a len cap) Try.underlying22 (by kernel_rfl) (by omega) (fun _ _ _ hl h => list_of_trod hl h) (by simpa [Value.cells] using hf)
/-- An answer's cells. -/
theorem rep_of_trod {fuel : Nat} {cs : List Value} {y : DataW H × List MemPlace} (hl : cs.length = 3) (h : DataW.trod enc Try.prog W base spare held fuel 41 cs = some y) : ∃ (k c : Nat) (A : Option Addr) (n m : Nat) (l : List Int), cs = [.int .u8 k, .int .u8 c, .slice A n m] ∧ k ≤ 255 ∧ c ≤ 255 ∧ (roB A n l).C W ∧ n ≤ m ∧ m ≤ maxLen := by
  obtain ⟨xs, q, _, _, _, hlen, hfld⟩ := DataW.trod_struct Try.underlying41 h
  match cs, hl, xs, hlen with
  | [u0, u1, u2], _, [y0, y1, y2], _ =>
    have k1 : (Try.prog).cellsOf 5 = 1 := by kernel_rfl
    have k2 : (Try.prog).cellsOf 38 = 1 := by kernel_rfl
    have g0 := hfld 0 _ rfl
    have g1 := hfld 1 _ rfl
    have g2 := hfld 2 _ rfl
    simp [k1, k2] at g0 g1 g2
    obtain ⟨x0, rfl, b0⟩ := u8_of_trod g0
    obtain ⟨x1, rfl, b1⟩ := u8_of_trod g1
    obtain ⟨A, n, m, l, rfl, b2, b3, b4⟩ := ro_of_trod g2
    exact ⟨x0, x1, A, n, m, l, rfl, b0, b1, b2, b3, b4⟩
/-- api.Rep -/
theorem open_rep {v : Value} {d : DataW H} {p : List MemPlace} {r : Reach} {b0 : Nat} (hv : Value.okWide Try.prog W r b0 41 v) (h : DataW.Trod enc Try.prog W base spare held 41 v d p) :
    ∃ (k c : Nat) (A : Option Addr) (n m : Nat) (l : List Int), v = .agg #[.int .u8 k, .int .u8 c, .slice A n m] ∧ k ≤ 255 ∧ c ≤ 255 ∧ (roB A n l).C W ∧ n ≤ m ∧ m ≤ maxLen := by
  obtain ⟨cs, rfl, hsz⟩ := okWide_struct Try.underlying41 hv
  obtain ⟨fuel, hf⟩ := h
  have hc : (Try.prog).cellsOf 41 = 3 := by kernel_rfl
  obtain ⟨k, c, A, n, m, l, h1, h2⟩ := rep_of_trod (cs := cs.toList) (by rw [Array.length_toList, hsz, hc]) (by simpa [Value.cells] using hf)
  exact ⟨k, c, A, n, m, l, by rw [← h1], h2⟩
end
end Go.Proofs.Ytboccjdncdaakaa

/-
  The arguments of TopStims, opened: rows of slices of bytes.
-/

set_option linter.unusedVariables false
set_option maxRecDepth 100000
namespace Go.Proofs.Ytboccjdncdaakaa
open Go.ChangeShapes Go.WideShapes Go.ChangeAt Go.RowKit Go.Joins
section
variable {H : Type} {enc : TypeId × Value → H} {W : World} {base : Nat} {spare : Nat → Bool} {held : Bool}
theorem byt_of_trod {fuel : Nat} {cs : List Value} {y : DataW H × List MemPlace} (hl : cs.length = 1) (h : DataW.trod enc Try.prog W base spare held fuel 38 cs = some y) : ∃ l, InByT (fps []) W cs l := by
  match cs, hl with
  | [u], _ =>
    obtain ⟨A, n, m, l, rfl, h1, h2, h3⟩ := ro_of_trod h
    have hn := roB_len h1
    subst hn
    exact ⟨l, A, m, rfl, Ro.empty h1, h2, h3⟩
theorem open_byt {v : Value} {d : DataW H} {p : List MemPlace} {r : Reach} {b0 : Nat} (hv : Value.okWide Try.prog W r b0 23 v) (h : DataW.Trod enc Try.prog W base spare held 23 v d p) :
    ∃ A n c xs, v = .slice A n c ∧ InS (fps []) W 1 (InByT (fps []) W) A n xs ∧ n ≤ c ∧ c ≤ maxLen := by
  obtain ⟨a, len, cap, rfl⟩ := okWide_slice Try.underlying23 hv
  obtain ⟨fuel, hf⟩ := h
  exact ins_of_trod (v := .slice a len cap) Try.underlying23 (by kernel_rfl) (by omega) (fun _ _ _ hl h => byt_of_trod hl h) (by simpa [Value.cells] using hf)
end
end Go.Proofs.Ytboccjdncdaakaa

/-
  TopStims: for every lists, bytes and bool, it returns true and leaves what it was handed as it was; without any condition.
-/

set_option linter.unusedVariables false
namespace Go.Proofs.Ytboccjdncdaakaa
open Go.ChangeShapes Go.WideShapes Go.ChangeAt Go.RowKit

namespace topStims
set_option maxRecDepth 100000 in
theorem lifted (os : Os) (started : os.Started) (H : Type) (enc : TypeId × Value → H) :
    ReturnsInHanded {} Try.checked os 3 .any (Rows.topStimsSpec.pre6 enc Try.prog Try.f3 Rows.topStimsRow.domain false) (Rows.topStimsSpec.post enc Try.prog Try.f3 false true false false) := by
  refine returnsInHanded_of_change (C := Try.checked) own started (by kernel_rfl) Try.func3
    (ChangeSpec.witness6 (enc := enc) (C := Try.checked) false ⟨#[], #[.slice none 0 0, .slice none 0 0, .bool false], []⟩ 8 (by kernel_rfl) (by kernel_rfl) (by kernel_rfl) (by kernel_rfl)) ?_
  intro W base args ds gs before hval0 hW hcnd _
  have hval : ∀ (j : Nat) t v, Try.f3.params[j]? = some t → args[j]? = some v → Value.okWide Try.prog W .any base t v := hval0
  have hW' := hW
  obtain ⟨p, q, hA0, hV, rfl, hfz, hnd⟩ := hW
  have hA : DataW.TrodAll enc Try.prog W 0 (fun _ => true) true Try.f3.params.toList args.toList ds p := hA0
  rw [Try.params3] at hA hval
  obtain ⟨v0, vs0, d0, ds0, p0, q0, hargs, rfl, rfl, h0, r0⟩ := trodAll_cons hA
  obtain ⟨v1, vs1, d1, ds1, p1, q1, rfl, rfl, rfl, h1, r1⟩ := trodAll_cons r0
  obtain ⟨v2, vs2, d2, ds2, p2, q2, rfl, rfl, rfl, h2, r2⟩ := trodAll_cons r1
  obtain ⟨rfl, rfl, rfl⟩ := trodAll_nil r2
  obtain rfl : args = #[v0, v1, v2] := by cases args; simp_all
  obtain ⟨rfl, rfl⟩ := trodVars_none hV
  have k0 := h0
  have lt0 : ∀ x ∈ p0, x.block < W.heap.size := by obtain ⟨m, hm⟩ := k0; exact DataW.trod_lt m _ _ _ hm
  obtain ⟨a0, n0, c0, l0, rfl, hr0, hn0, hm0⟩ := open_lists (hval 0 22 v0 rfl rfl) h0
  have k1 := h1
  have lt1 : ∀ x ∈ p1, x.block < W.heap.size := by obtain ⟨m, hm⟩ := k1; exact DataW.trod_lt m _ _ _ hm
  obtain ⟨a1, n1, c1, l1, rfl, hr1, hn1, hm1⟩ := open_byt (hval 1 23 v1 rfl rfl) h1
  have k2 := h2
  have lt2 : ∀ x ∈ p2, x.block < W.heap.size := by obtain ⟨m, hm⟩ := k2; exact DataW.trod_lt m _ _ _ hm
  obtain ⟨x2, rfl, _⟩ := open_bool Try.underlying4 (hval 2 4 v2 rfl rfl) h2
  clear hA0 hval0
  refine (law_of (topStims_walk W a0 n0 c0 l0 hr0 hn0 hm0 a1 n1 c1 l1 hr1 hn1 hm1 x2)).mono fun e W' ⟨he, bel⟩ => ?_
  subst he
  exact ⟨_, rfl, _, _, _, [], _, [], hW', trodAll_mk1 (shut_bool Try.underlying4 _), (trodAll_cons_mk (Below.trod laidOut (by kernel_rfl) (of_decide_eq_true (by kernel_rfl)) k0 bel lt0) (trodAll_cons_mk (Below.trod laidOut (by kernel_rfl) (of_decide_eq_true (by kernel_rfl)) k1 bel lt1) (trodAll_cons_mk (Below.trod laidOut (by kernel_rfl) (of_decide_eq_true (by kernel_rfl)) k2 bel lt2) trodAll_mk0))), rfl, bel.frame _, fun h => by cases h⟩

theorem over : Rows.topStimsRow.holds Try.pinned (OpenSpec.ofChange Rows.topStimsSpec) :=
  OpenClaim.holds_of_wide 3 Try.f3 rfl rfl rfl rfl rfl rfl rfl ⟨rfl, rfl, rfl, rfl, rfl⟩ rfl rfl rfl rfl rfl (by kernel_rfl) Try.func3 (by kernel_rfl)
    (of_decide_eq_true (by kernel_rfl)) (by unfold Func.isWrapper; first | (rw [if_pos (by decide +kernel)]; kernel_rfl) | (rw [if_neg (by decide +kernel)]; exact ⟨rfl, rfl⟩))
    (fun os started H enc _ => lifted os started H enc)

/-- The statement. -/
theorem proved : Rows.TopStimsSaid := over
#print axioms proved
end topStims
end Go.Proofs.Ytboccjdncdaakaa

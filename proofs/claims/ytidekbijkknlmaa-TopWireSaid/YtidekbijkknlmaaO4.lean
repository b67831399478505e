/-
  The arguments of the statements, opened: rows of lists, answers.
-/
import Derived.Test.YtidekbijkknlmaaO1
import Derived.Test.YtidekbijkknlmaaS7
set_option linter.unusedVariables false
set_option maxRecDepth 100000
namespace Go.Proofs.Ytidekbijkknlmaa
open Go.ChangeShapes Go.WideShapes Go.ChangeAt Go.RowKit Go.Joins
theorem law_of {f : FuncId} {args : Array Value} {W : World} {P : Program} (h : Calls P f args W (Ret W [] fun v _ => v = .bool true)) : Calls P f args W fun e w' => e = .returned (.bool true) ∧ Below W.heap.size W w' :=
  h.mono fun e w' ⟨v, B, he, hv, hs⟩ => ⟨by rw [he, hv], hs.kept.below (fun x ⟨_, hX, _⟩ => by cases hX)⟩
section
variable {H : Type} {enc : TypeId × Value → H} {W : World} {base : Nat} {spare : Nat → Bool} {held : Bool}
theorem ins_of_trod {P : Program} {t e : TypeId} {sz : Nat} (ht : P.underlying t = some (.slice e)) (hc : P.cellsOf e = sz) (h0 : 0 < sz) {α : Type} {p : List Value → α → Prop}
    (he : ∀ fuel cs y, cs.length = sz → DataW.trod enc P W base spare held fuel e cs = some y → ∃ x, p cs x) {fuel : Nat} {v : Value} {y : DataW H × List MemPlace} (h : DataW.trod enc P W base spare held fuel t [v] = some y) :
    ∃ A n c xs, v = .slice A n c ∧ InS (fps []) W sz p A n xs ∧ n ≤ c ∧ c ≤ maxLen := by
  obtain ⟨A, n, c, rfl, h1, h2, h3⟩ := row_of_trod ht hc h0 h
  by_cases hn : 0 < n
  · obtain ⟨b, off, rfl, hb, hi⟩ := h3 hn
    obtain ⟨ll, hl, hx⟩ := list_of (n := n) (P := fun j (x : List Value × α) => x.1.length = sz ∧ (∀ k, k < sz → W.cell? ⟨b, off + j * sz + k, none⟩ = x.1[k]?) ∧ p x.1 x.2) fun i hin => by
      obtain ⟨fuel', cs, y', hcs, hcell, ht⟩ := hi i hin
      obtain ⟨x, hx⟩ := he fuel' cs y' hcs ht
      exact ⟨(cs, x), hcs, hcell, hx⟩
    have hsz : ∀ r ∈ ll.map (·.1), r.length = sz := fun r hr => by
      obtain ⟨x, hx1, rfl⟩ := List.mem_map.1 hr
      obtain ⟨i, hi⟩ := List.getElem?_of_mem hx1
      exact (hx i x hi).1
    refine ⟨_, n, c, ll.map (·.2), rfl, ⟨by simpa using hl, ll.map (·.1), by simpa using hl, hsz, Ro.empty ⟨by rw [length_flatten' hsz]; simp [hl], fun _ => ⟨b, off, rfl, hb, fun j u hu => ?_⟩⟩, fun i r x hr hxx => ?_⟩, h1, h2⟩
    · have hj : j < n * sz := by have := (List.getElem?_eq_some_iff.1 hu).1; rw [length_flatten' hsz, List.length_map, hl] at this; exact this
      have hjn : j / sz < n := (Nat.div_lt_iff_lt_mul h0).2 hj
      have hjm : j % sz < sz := Nat.mod_lt _ h0
      obtain ⟨s, hs⟩ : ∃ s, ll[j / sz]? = some s := ⟨_, List.getElem?_eq_getElem (by omega)⟩
      obtain ⟨q1, q2, _⟩ := hx (j / sz) s hs
      obtain ⟨u', hu'⟩ : ∃ u', s.1[j % sz]? = some u' := ⟨_, List.getElem?_eq_getElem (by omega)⟩
      have e1 := flatten_get hsz (i := j / sz) (r := s.1) (by simp [hs]) hu'
      rw [Nat.div_add_mod'] at e1
      rw [e1] at hu
      injection hu with hu
      subst hu
      have := q2 (j % sz) hjm
      rw [hu', Nat.add_assoc, Nat.div_add_mod'] at this
      exact this
    · simp only [List.getElem?_map, Option.map_eq_some_iff] at hr hxx
      obtain ⟨s, hs, rfl⟩ := hr
      obtain ⟨s', hs', rfl⟩ := hxx
      rw [hs] at hs'
      injection hs' with hs'
      subst hs'
      exact (hx i s hs).2.2
  · have : n = 0 := by omega
    subst this
    exact ⟨A, 0, c, [], rfl, InS.nil A, h1, h2⟩
theorem bool_of_trod {fuel : Nat} {v : Value} {y : DataW H × List MemPlace} (h : DataW.trod enc Try.prog W base spare held fuel 4 [v] = some y) : ∃ b, v = .bool b := by
  obtain ⟨b, e, _⟩ := DataW.trod_bool Try.underlying4 h
  simp at e
  exact ⟨b, e⟩
theorem entry_of_trod {fuel : Nat} {cs : List Value} {y : DataW H × List MemPlace} (hl : cs.length = 3) (h : DataW.trod enc Try.prog W base spare held fuel 87 cs = some y) : ∃ e, InEntry cs e := by
  obtain ⟨xs, q, _, _, _, hlen, hfld⟩ := DataW.trod_struct Try.underlying87 h
  match cs, hl, xs, hlen with
  | [u0, u1, u2], _, [y0, y1, y2], _ =>
    have k1 : (Try.prog).cellsOf 5 = 1 := by kernel_rfl
    have k2 : (Try.prog).cellsOf 61 = 1 := by kernel_rfl
    have g0 := hfld 0 _ rfl
    have g1 := hfld 1 _ rfl
    have g2 := hfld 2 _ rfl
    simp [k1, k2] at g0 g1 g2
    obtain ⟨x0, rfl, b0⟩ := u8_of_trod g0
    obtain ⟨x1, rfl, b1⟩ := u8_of_trod g1
    obtain ⟨x2, rfl, b2⟩ := u32_of_trod g2
    exact ⟨⟨x0, x1, x2⟩, rfl, b0, b1, b2⟩
theorem tab_of_trod {fuel : Nat} {cs : List Value} {y : DataW H × List MemPlace} (hl : cs.length = 1) (h : DataW.trod enc Try.prog W base spare held fuel 85 cs = some y) : ∃ t, InTab (fps []) W cs t := by
  match cs, hl with
  | [u], _ =>
    obtain ⟨A, n, c, xs, rfl, h1, h2, h3⟩ := ins_of_trod Try.underlying85 (by kernel_rfl) (by omega) (fun _ _ _ hl h => entry_of_trod hl h) h
    exact ⟨xs, A, n, c, rfl, h1, h2, h3⟩
theorem tabs_of_trod {fuel : Nat} {v : Value} {y : DataW H × List MemPlace} (h : DataW.trod enc Try.prog W base spare held fuel 43 [v] = some y) : ∃ A n c ts, v = .slice A n c ∧ InS (fps []) W 1 (InTab (fps []) W) A n ts ∧ n ≤ c ∧ c ≤ maxLen :=
  ins_of_trod Try.underlying43 (by kernel_rfl) (by omega) (fun _ _ _ hl h => tab_of_trod hl h) h
theorem list_of_trod {fuel : Nat} {cs : List Value} {y : DataW H × List MemPlace} (hl : cs.length = 8) (h : DataW.trod enc Try.prog W base spare held fuel 45 cs = some y) : ∃ l, InList (fps []) W cs l := by
  obtain ⟨xs, q, _, _, _, hlen, hfld⟩ := DataW.trod_struct Try.underlying45 h
  match cs, hl, xs, hlen with
  | [u0, u1, u2, u3, u4, u5, u6, u7], _, [y0, y1, y2, y3, y4, y5, y6, y7], _ =>
    have k1 : (Try.prog).cellsOf 5 = 1 := by kernel_rfl
    have k2 : (Try.prog).cellsOf 4 = 1 := by kernel_rfl
    have k3 : (Try.prog).cellsOf 3 = 1 := by kernel_rfl
    have k4 : (Try.prog).cellsOf 43 = 1 := by kernel_rfl
    have g0 := hfld 0 _ rfl
    have g1 := hfld 1 _ rfl
    have g2 := hfld 2 _ rfl
    have g3 := hfld 3 _ rfl
    have g4 := hfld 4 _ rfl
    have g5 := hfld 5 _ rfl
    have g6 := hfld 6 _ rfl
    have g7 := hfld 7 _ rfl
    simp [k1, k2, k3, k4] at g0 g1 g2 g3 g4 g5 g6 g7
    obtain ⟨x0, rfl, b0⟩ := int_of_trod g0
    obtain ⟨A, n, c, ts, rfl, h1, h2, h3⟩ := tabs_of_trod g1
    obtain ⟨x2, rfl⟩ := bool_of_trod g2
    obtain ⟨x3, rfl, b3⟩ := u8_of_trod g3
    obtain ⟨x4, rfl, b4⟩ := u8_of_trod g4
    obtain ⟨x5, rfl, b5⟩ := u8_of_trod g5
    obtain ⟨x6, rfl⟩ := bool_of_trod g6
    obtain ⟨x7, rfl⟩ := bool_of_trod g7
    exact ⟨⟨x0, ts, x2, x3, x4, x5, x6, x7⟩, ⟨A, n, c, rfl, h1, h2, h3⟩, b0, b3, b4, b5⟩
/-- []api.List -/
theorem open_lists {v : Value} {d : DataW H} {p : List MemPlace} {r : Reach} {b0 : Nat} (hv : Value.okWide Try.prog W r b0 22 v) (h : DataW.Trod enc Try.prog W base spare held 22 v d p) :
    ∃ A n c xs, v = .slice A n c ∧ InS (fps []) W 8 (InList (fps []) W) A n xs ∧ n ≤ c ∧ c ≤ maxLen := by
  obtain ⟨a, len, cap, rfl⟩ := okWide_slice Try.underlying22 hv
  obtain ⟨fuel, hf⟩ := h
  exact ins_of_trod (v := .slice a len cap) Try.underlying22 (by kernel_rfl) (by omega) (fun _ _ _ hl h => list_of_trod hl h) (by simpa [Value.cells] using hf)
/-- An answer's cells. -/
theorem rep_of_trod {fuel : Nat} {cs : List Value} {y : DataW H × List MemPlace} (hl : cs.length = 3) (h : DataW.trod enc Try.prog W base spare held fuel 32 cs = some y) : ∃ (k c : Nat) (A : Option Addr) (n m : Nat) (l : List Int), cs = [.int .u8 k, .int .u8 c, .slice A n m] ∧ k ≤ 255 ∧ c ≤ 255 ∧ (roB A n l).C W ∧ n ≤ m ∧ m ≤ maxLen := by
  obtain ⟨xs, q, _, _, _, hlen, hfld⟩ := DataW.trod_struct Try.underlying32 h
  match cs, hl, xs, hlen with
  | [u0, u1, u2], _, [y0, y1, y2], _ =>
    have k1 : (Try.prog).cellsOf 5 = 1 := by kernel_rfl
    have k2 : (Try.prog).cellsOf 30 = 1 := by kernel_rfl
    have g0 := hfld 0 _ rfl
    have g1 := hfld 1 _ rfl
    have g2 := hfld 2 _ rfl
    simp [k1, k2] at g0 g1 g2
    obtain ⟨x0, rfl, b0⟩ := u8_of_trod g0
    obtain ⟨x1, rfl, b1⟩ := u8_of_trod g1
    obtain ⟨A, n, m, l, rfl, b2, b3, b4⟩ := ro_of_trod g2
    exact ⟨x0, x1, A, n, m, l, rfl, b0, b1, b2, b3, b4⟩
/-- api.Rep -/
theorem open_rep {v : Value} {d : DataW H} {p : List MemPlace} {r : Reach} {b0 : Nat} (hv : Value.okWide Try.prog W r b0 32 v) (h : DataW.Trod enc Try.prog W base spare held 32 v d p) :
    ∃ (k c : Nat) (A : Option Addr) (n m : Nat) (l : List Int), v = .agg #[.int .u8 k, .int .u8 c, .slice A n m] ∧ k ≤ 255 ∧ c ≤ 255 ∧ (roB A n l).C W ∧ n ≤ m ∧ m ≤ maxLen := by
  obtain ⟨cs, rfl, hsz⟩ := okWide_struct Try.underlying32 hv
  obtain ⟨fuel, hf⟩ := h
  have hc : (Try.prog).cellsOf 32 = 3 := by kernel_rfl
  obtain ⟨k, c, A, n, m, l, h1, h2⟩ := rep_of_trod (cs := cs.toList) (by rw [Array.length_toList, hsz, hc]) (by simpa [Value.cells] using hf)
  exact ⟨k, c, A, n, m, l, by rw [← h1], h2⟩
end
end Go.Proofs.Ytidekbijkknlmaa

/-
  Rows of things that come in: what their cells are, read one by one.
-/
import Derived.Test.YtidekbijkknlmaaSLf
set_option linter.unusedVariables false
set_option maxRecDepth 100000
namespace Go.Proofs.Ytidekbijkknlmaa
open Go.RowKit
/-- n things of sz cells each, that stay. -/
structure InS {α : Type} (S : Nat → Prop) (w0 : World) (sz : Nat) (p : List Value → α → Prop) (A : Option Addr) (n : Nat) (xs : List α) : Prop where
  len : xs.length = n
  ex : ∃ rows : List (List Value), rows.length = n ∧ (∀ r ∈ rows, r.length = sz) ∧ Ro S w0 (roV A (n * sz) rows.flatten) ∧ ∀ (i : Nat) r x, rows[i]? = some r → xs[i]? = some x → p r x
theorem flatten_get {s : Nat} : ∀ {l : List (List Value)}, (∀ r ∈ l, r.length = s) → ∀ {i : Nat} {r : List Value}, l[i]? = some r → ∀ {k : Nat} {v : Value}, r[k]? = some v → l.flatten[i * s + k]? = some v
  | [], _, i, r, h, k, v, hv => by simp at h
  | y :: l, hl, 0, r, h, k, v, hv => by
    simp at h
    subst h
    have hk := (List.getElem?_eq_some_iff.1 hv).1
    rw [Nat.zero_mul, Nat.zero_add, List.flatten_cons, List.getElem?_append_left hk]
    exact hv
  | y :: l, hl, i + 1, r, h, k, v, hv => by
    have hy := hl y (by simp)
    have := flatten_get (l := l) (fun r hr => hl r (by simp [hr])) (i := i) (r := r) (by simpa using h) hv
    rw [List.flatten_cons, List.getElem?_append_right (by rw [hy, Nat.add_mul]; omega), hy, show (i + 1) * s + k - s = i * s + k by rw [Nat.add_mul]; omega]
    exact this
theorem length_flatten' {s : Nat} : ∀ {l : List (List Value)}, (∀ r ∈ l, r.length = s) → l.flatten.length = l.length * s
  | [], _ => by simp
  | y :: l, hl => by
    rw [List.flatten_cons, List.length_append, length_flatten' (l := l) (fun r hr => hl r (by simp [hr])), hl y (by simp), List.length_cons, Nat.add_mul]; omega
section
variable {α : Type} {S : Nat → Prop} {w0 : World} {sz n : Nat} {p : List Value → α → Prop} {A : Option Addr} {xs : List α}
theorem InS.nil (A : Option Addr) : InS S w0 sz p A 0 [] := ⟨rfl, [], rfl, by simp, ⟨⟨by simp, fun h => by simp at h⟩, fun b h => by have := h.1; simp at this⟩, fun i r x h => by simp at h⟩
/-- One of them: its place, and its cells. -/
theorem InS.get (h : InS S w0 sz p A n xs) (h0 : 0 < sz) {i : Nat} {x : α} (hi : xs[i]? = some x) : ∃ b o r, A = some ⟨b, o, none⟩ ∧ r.length = sz ∧ p r x ∧ ∀ hp w, St S w0 hp w → CellsAt w b (o + i * sz) r := by
  obtain ⟨rows, h1, h2, h3, h4⟩ := h.ex
  have hin : i < n := by rw [← h.len]; exact (List.getElem?_eq_some_iff.1 hi).1
  obtain ⟨r, hr⟩ : ∃ r, rows[i]? = some r := ⟨_, List.getElem?_eq_getElem (by omega)⟩
  obtain ⟨b, o, hA, _⟩ := roV_cell h3.is (Nat.mul_pos (by omega) h0)
  refine ⟨b, o, r, hA, h2 r (List.mem_of_getElem? hr), h4 i r x hr hi, fun hp w hS j u hu => ?_⟩
  obtain ⟨b', o', e1, e2⟩ := roV_cell (hS.ro h3) (Nat.mul_pos (by omega) h0)
  rw [hA] at e1
  injection e1 with e1
  injection e1 with e1 e3
  subst e1 e3
  rw [Nat.add_assoc]
  exact e2 _ _ (flatten_get h2 hr hu)
theorem InS.addr (h : InS S w0 sz p A n xs) (h0 : 0 < n * sz) : ∃ b o, A = some ⟨b, o, none⟩ := by
  obtain ⟨rows, h1, h2, h3, h4⟩ := h.ex
  obtain ⟨b, o, hA, _⟩ := roV_cell h3.is h0
  exact ⟨b, o, hA⟩
theorem InS.mono {q : List Value → α → Prop} (h : InS S w0 sz p A n xs) (hq : ∀ r x, r.length = sz → p r x → q r x) : InS S w0 sz q A n xs := by
  obtain ⟨rows, h1, h2, h3, h4⟩ := h.ex
  exact ⟨h.len, rows, h1, h2, h3, fun i r x hr hx => hq r x (h2 r (List.mem_of_getElem? hr)) (h4 i r x hr hx)⟩
/-- For a callee. -/
theorem InS.to {S' : Nat → Prop} {w1 : World} {q : List Value → α → Prop} (h : InS S w0 sz p A n xs) (hr : ∀ r, Ro S w0 r → Ro S' w1 r) (hq : ∀ r x, p r x → q r x) : InS S' w1 sz q A n xs := by
  obtain ⟨rows, h1, h2, h3, h4⟩ := h.ex
  exact ⟨h.len, rows, h1, h2, hr _ h3, fun i r x hr hx => hq r x (h4 i r x hr hx)⟩
theorem InS.take (h : InS S w0 sz p A n xs) (h0 : 0 < sz) {k : Nat} (hk : k ≤ n) : InS S w0 sz p A k (xs.take k) := by
  obtain ⟨rows, h1, h2, h3, h4⟩ := h.ex
  have h2' : ∀ r ∈ rows.take k, r.length = sz := fun r hr => h2 r (List.mem_of_mem_take hr)
  refine ⟨by rw [List.length_take, h.len]; omega, rows.take k, by simp [h1]; omega, h2', ?_, fun i r x hr hx => ?_⟩
  · refine h3.sub (fun hc => ⟨?_, fun hn => ?_⟩) (fun b ⟨hb, hA⟩ => ⟨Nat.lt_of_lt_of_le hb (Nat.mul_le_mul_right _ hk), hA⟩)
    · rw [length_flatten' h2', List.length_take, h1, Nat.min_eq_left hk]
    · obtain ⟨b, o, e1, e2, e3⟩ := hc.2 (Nat.lt_of_lt_of_le hn (Nat.mul_le_mul_right _ hk))
      refine ⟨b, o, e1, e2, fun j u hu => e3 j u ?_⟩
      have : rows.flatten = (rows.take k).flatten ++ (rows.drop k).flatten := by rw [← List.flatten_append, List.take_append_drop]
      rw [this, List.getElem?_append_left (List.getElem?_eq_some_iff.1 hu).1]
      exact hu
  · have hik : i < k := by
      have := (List.getElem?_eq_some_iff.1 hr).1
      rw [List.length_take] at this
      omega
    rw [List.getElem?_take_of_lt hik] at hr hx
    exact h4 i r x hr hx
end
theorem st_starS {S : Nat → Prop} {w0 w : World} {v : Value} {l : List Int} {vals : List Value} {fl : List (List Int)} {F : List Asn} (hl : vals.length = fl.length) (h : St S w0 (bytesA v l :: starL (List.zipWith bytesA vals fl) :: F) w) : St S w0 (starL (List.zipWith bytesA (vals ++ [v]) (fl ++ [l])) :: F) w := by
  rw [List.zipWith_append hl]
  exact st_snoc h
theorem roB_nil (w : World) : Ro (fps []) w (roB none 0 []) := Ro.empty ⟨rfl, Oct.nil, fun h => by omega⟩
/-- What is known of what stands, laid down. -/
theorem c_src {P : Program} {n : Nat} {S : Nat → Prop} {w0 : World} {Q : Exit → Act → World → Prop} {env : Env} {hp : List Asn} {c : Code} {r : World → Prop} (h1 : ∀ w, St S w0 hp w → r w) (h : (∀ w, St S w0 hp w → r w) → TC P n S w0 Q c env hp) : TC P n S w0 Q c env hp := h h1
theorem l_src {P : Program} {n : Nat} {S : Nat → Prop} {w0 : World} {Q : Exit → Act → World → Prop} {env : Env} {hp : List Asn} {ops : Array Oper} {l : List Oper} {r : World → Prop} (h1 : ∀ w, St S w0 hp w → r w) (h : (∀ w, St S w0 hp w → r w) → TL P n S w0 Q ops l env hp) : TL P n S w0 Q ops l env hp := h h1
/-- The cells of one thing that is read whole. -/
theorem CellsAt.of {w : World} {b o o' : Nat} {vs : List Value} (h : CellsAt w b o vs) (e : o = o') : CellsAt w b o' vs := e ▸ h
end Go.Proofs.Ytidekbijkknlmaa

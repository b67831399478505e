/-
  Layer 14: lists of one's own.
-/
import Derived.Test.YtidekbijkknlmaaS2
import Derived.Test.YtidekbijkknlmaaS3
set_option linter.unusedVariables false
set_option maxRecDepth 100000
namespace Go.Proofs.Ytidekbijkknlmaa
open Go.RowKit
attribute [local irreducible] TL TC TQ TK TO Qt TA
/-! ### Lists of one's own -/
structure LstV where
  l : ListI
  tv : Value
  tvs : List Value
def lstCells (x : LstV) : List Value := [.int .i64 x.l.first, x.tv, .bool x.l.stim, .int .u8 x.l.ev, .int .u8 x.l.pre, .int .u8 x.l.pri, .bool x.l.on, .bool x.l.ch]
def tabsA (x : LstV) : Asn := row 85 1 x.tv x.tvs.length x.tvs
structure LstOk (S : Nat → Prop) (w0 : World) (x : LstV) : Prop where
  len : x.tvs.length = x.l.tabs.length
  tab : ∀ (k : Nat) v t, x.tvs[k]? = some v → x.l.tabs[k]? = some t → InTab S w0 [v] t
  first : -9223372036854775808 ≤ x.l.first ∧ x.l.first ≤ 9223372036854775807
  ev : x.l.ev ≤ 255
  pre : x.l.pre ≤ 255
  pri : x.l.pri ≤ 255
theorem rowEE : RowT tab 43 85 1 24 (.slice none 0 0) := ⟨rfl, rfl, rfl, by decide⟩
theorem rowLL : RowT tab 22 45 8 40 (.agg #[.int .i64 0, .slice none 0 0, .bool false, .int .u8 0, .int .u8 0, .int .u8 0, .bool false, .bool false]) := ⟨rfl, rfl, rfl, by decide⟩
theorem InS.rows {α : Type} {S : Nat → Prop} {w0 : World} {sz n : Nat} {p : List Value → α → Prop} {A : Option Addr} {xs : List α} (rows : List (List Value)) (hx : xs.length = n) (hl : rows.length = n) (hs : ∀ r ∈ rows, r.length = sz) (h : Ro S w0 (roV A (n * sz) rows.flatten)) (hp : ∀ (i : Nat) r x, rows[i]? = some r → xs[i]? = some x → p r x) : InS S w0 sz p A n xs := ⟨hx, rows, hl, hs, h, hp⟩
theorem flatten_singles : ∀ (l : List Value), (l.map fun v => [v]).flatten = l
  | [] => rfl
  | v :: l => by simp [flatten_singles l]
theorem lists_in {S S' : Nat → Prop} {w0 w1 : World} {A : Option Addr} {n c : Nat} {xs : List LstV} (hn : xs.length = n) (h1 : Ro S' w1 (row 45 8 (.slice A n c) n (xs.flatMap lstCells))) (h2 : Ro S' w1 (starL (xs.map tabsA))) (hok : ∀ x ∈ xs, LstOk S w0 x) (hto : ∀ r, Ro S w0 r → Ro S' w1 r) : InS S' w1 8 (InList S' w1) A n (xs.map (·.l)) := by
  refine InS.rows (xs.map lstCells) (by simpa using hn) (by simpa using hn) (fun r hr => ?_) (by rw [← List.flatMap_def]; exact h1.rowV) (fun i r x hr hx => ?_)
  · obtain ⟨x, _, rfl⟩ := List.mem_map.1 hr
    rfl
  · simp only [List.getElem?_map, Option.map_eq_some_iff] at hr hx
    obtain ⟨y, hy, rfl⟩ := hr
    obtain ⟨y', hy', rfl⟩ := hx
    rw [hy] at hy'
    injection hy' with hy'
    subst hy'
    obtain ⟨k1, k2, k3, k4, k5, k6⟩ := hok y (List.mem_of_getElem? hy)
    have hrow : Ro S' w1 (tabsA y) := Ro.star h2 (i := i) (by simp [hy])
    obtain ⟨At, ct, e1, e2, e3, -⟩ := row_slice hrow.is
    have hrow' : Ro S' w1 (row 85 1 (.slice At y.tvs.length ct) y.tvs.length y.tvs) := by rw [← e1]; exact hrow
    refine ⟨⟨At, y.tvs.length, ct, by rw [lstCells, e1], ?_, e2, e3⟩, k3, k4, k5, k6⟩
    refine InS.rows (y.tvs.map fun v => [v]) k1.symm (by simp) (fun r hr => ?_) (by rw [flatten_singles]; exact hrow'.rowV) (fun j r x hr hx => ?_)
    · obtain ⟨v, _, rfl⟩ := List.mem_map.1 hr
      rfl
    · simp only [List.getElem?_map, Option.map_eq_some_iff] at hr
      obtain ⟨v, hv, rfl⟩ := hr
      exact (k2 j v x hv hx).to hto
/-- A row laid open, to be changed, and shut. -/
theorem row_open {S : Nat → Prop} {w0 w : World} {e : TypeId} {size n c : Nat} {A : Option Addr} {xs : List Value} {F : List Asn} (hn : 0 < n) (h : St S w0 (row e size (.slice A n c) n xs :: F) w) : ∃ y : Nat × List Value, (A = some ⟨y.1, 0, none⟩ ∧ n ≤ c ∧ c ≤ maxLen ∧ (xs ++ y.2).length = c * size) ∧ St S w0 (Proofs.Ytidekbijkknlmaa.blk y.1 (xs ++ y.2) e :: F) w := by
  obtain ⟨g, cap, junk, e1, e2, e3, e4, e5⟩ := row_blk (h.get (i := 0) rfl) hn
  injection e1 with e1 e6 e7
  subst e1 e7
  exact ⟨(g, junk), ⟨rfl, e2, e3, e4⟩, h.see (i := 0) rfl (fun _ => e5) (fun b hb => by rw [S_blk hb]; rfl)⟩
theorem row_shut {S : Nat → Prop} {w0 w : World} {e : TypeId} {size n c g : Nat} {xs junk : List Value} {F : List Asn} (hn : n ≤ c) (hc : c ≤ maxLen) (hx : xs.length = n * size) (hl : (xs ++ junk).length = c * size) (h : St S w0 (Proofs.Ytidekbijkknlmaa.blk g (xs ++ junk) e :: F) w) : St S w0 (row e size (.slice (some ⟨g, 0, none⟩) n c) n xs :: F) w :=
  h.see (i := 0) rfl (fun h => row_of_blk h size n c hn hc hl xs (by rw [← hx]; exact List.take_left)) (fun b hb => by injection hb with hb; exact blk_S hb.symm)
/-- One of the things, of memory that stays from W on, read at w. -/
theorem InS.get2 {α : Type} {S S' : Nat → Prop} {W w : World} {sz n : Nat} {p : List Value → α → Prop} {A : Option Addr} {xs : List α} (h : InS S W sz p A n xs) (hto : ∀ r, Ro S W r → Ro S' w r) (h0 : 0 < sz) {i : Nat} {x : α} (hi : xs[i]? = some x) : ∃ b o r, A = some ⟨b, o, none⟩ ∧ r.length = sz ∧ p r x ∧ ∀ hp w', St S' w hp w' → CellsAt w' b (o + i * sz) r := by
  obtain ⟨rows, h1, h2, h3, h4⟩ := h.ex
  have hin : i < n := by rw [← h.len]; exact (List.getElem?_eq_some_iff.1 hi).1
  obtain ⟨r, hr⟩ : ∃ r, rows[i]? = some r := ⟨_, List.getElem?_eq_getElem (by omega)⟩
  obtain ⟨b, o, hA, _⟩ := roV_cell h3.is (Nat.mul_pos (by omega) h0)
  refine ⟨b, o, r, hA, h2 r (List.mem_of_getElem? hr), h4 i r x hr hi, fun hp w' hS j u hu => ?_⟩
  obtain ⟨b', o', e1, e2⟩ := roV_cell (hS.ro (hto _ h3)) (Nat.mul_pos (by omega) h0)
  rw [hA] at e1
  injection e1 with e1
  injection e1 with e1 e3
  subst e1 e3
  rw [Nat.add_assoc]
  exact e2 _ _ (flatten_get h2 hr hu)
/-- A block as a row of things. -/
theorem InS.blk {α : Type} {S : Nat → Prop} {w0 : World} {sz b : Nat} {t : TypeId} {p : List Value → α → Prop} {xs : List α} (rows : List (List Value)) (h : Ro S w0 (Proofs.Ytidekbijkknlmaa.blk b rows.flatten t)) (hl : rows.length = xs.length) (hs : ∀ r ∈ rows, r.length = sz) (hp : ∀ (i : Nat) r x, rows[i]? = some r → xs[i]? = some x → p r x) : InS S w0 sz p (some ⟨b, 0, none⟩) xs.length xs := by
  refine InS.rows rows rfl hl hs (h.sub (fun h => roV_blk h (by rw [length_flatten' hs, hl])) (fun x ⟨_, o, hx⟩ => ?_)) hp
  injection hx with hx
  injection hx with hx
  exact hx.symm
theorem flat_set {α : Type} {f : α → List Value} {s : Nat} (hf : ∀ x, (f x).length = s) : ∀ {l : List α} {i : Nat} {x y : α}, l[i]? = some x → ∀ {k : Nat} {v : Value}, k < s → (f x).set k v = f y → (l.flatMap f).set (i * s + k) v = (l.set i y).flatMap f
  | [], i, x, y, h, k, v, _, _ => by simp at h
  | z :: l, 0, x, y, h, k, v, hk, hv => by
    simp at h
    subst h
    rw [Nat.zero_mul, Nat.zero_add, List.flatMap_cons, List.set_append_left _ _ (by rw [hf]; exact hk), hv]
    rfl
  | z :: l, i + 1, x, y, h, k, v, hk, hv => by
    have := flat_set hf (l := l) (i := i) (x := x) (y := y) (by simpa using h) hk hv
    rw [List.flatMap_cons, List.set_append_right _ _ (by rw [hf, Nat.add_mul]; omega), hf, show (i + 1) * s + k - s = i * s + k by rw [Nat.add_mul]; omega, this]
    rfl
theorem len_lst (x : LstV) : (lstCells x).length = 8 := rfl
def cutL (k : Nat) (l : ListI) : ListI := ⟨l.first, (l.tabs.take 4).map (·.take k), l.stim, l.ev, l.pre, l.pri, l.on, l.ch⟩
def fewL (n k : Nat) (ls : List ListI) : List ListI := (ls.take n).map (cutL k)
theorem small_few {n k : Nat} {ls : List ListI} (hk : k ≤ 1000) : ∀ l ∈ fewL n k ls, SmallL l := fun l hl => by
  obtain ⟨l0, _, rfl⟩ := List.mem_map.1 hl
  refine ⟨by simp [cutL]; omega, fun t ht => ?_⟩
  obtain ⟨t0, _, rfl⟩ := List.mem_map.1 ht
  simp
  omega
def FewOut (S : Nat → Prop) (w0 : World) (ls : List ListI) (v : Value) (B : List Asn) : Prop := ∃ (A : Option Addr) (c : Nat) (xs : List LstV), v = .slice A xs.length c ∧ xs.length ≤ c ∧ c ≤ maxLen ∧ B = [row 45 8 (.slice A xs.length c) xs.length (xs.flatMap lstCells), starL (xs.map tabsA)] ∧ xs.map (·.l) = ls ∧ ∀ x ∈ xs, LstOk S w0 x
end Go.Proofs.Ytidekbijkknlmaa

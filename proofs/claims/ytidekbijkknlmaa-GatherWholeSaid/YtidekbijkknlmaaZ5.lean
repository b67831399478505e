/-
  Layer 19: GatherWhole's plain law: what is put, whole, is what will be told.
-/
import Derived.Test.YtidekbijkknlmaaZ4
set_option linter.unusedVariables false
set_option maxRecDepth 100000
namespace Go.Proofs.Ytidekbijkknlmaa
open Go.RowKit
attribute [local irreducible] TL TC TQ TK TO Qt TA
def zc : Nat → List (List Int) → List QB3
  | _, [] => []
  | c, b :: l => (4, c, b) :: zc (c + 1) l
def zf (lo : Bool) (c : Nat) : List (List Int) → List QB3
  | [] => []
  | b :: l => (4, if lo = true then c + 64 else c, b) :: zc (c + 1) l
theorem zc_map {f : RepI → QB3} : ∀ (rs : List RepI) (c : Nat), (∀ j r, rs[j]? = some r → f r = (4, c + j, r.b)) → rs.map f = zc c (rs.map (·.b))
  | [], c, h => rfl
  | r :: rs, c, h => by
    rw [List.map_cons, List.map_cons, zc, zc_map rs (c + 1) (fun j x hx => by rw [h (j + 1) x (by simpa using hx)]; congr 2; omega), h 0 r rfl]
    rfl
theorem putL_zf {lo : Bool} {rs : List RepI} {c : Nat} (h : ∀ j r, rs[j]? = some r → r.k = 4 ∧ r.c = c + j) : putL lo rs = zf lo c (rs.map (·.b)) := by
  cases rs with
  | nil => rfl
  | cons r rs =>
    obtain ⟨e1, e2⟩ := h 0 r rfl
    rw [putL, List.map_cons, zf, zc_map rs (c + 1) (fun j x hx => by
      obtain ⟨q1, q2⟩ := h (j + 1) x (by simpa using hx)
      rw [q1, q2]; congr 2; omega), e1, e2]
    rfl
theorem run_rest {P : List (Option (Nat × Nat))} {k m c0 : Nat} {lo : Bool} (hm : c0 + m ≤ 64) (hP : ∀ t, t < m → P[c0 + t]? = some (some (k, t))) : ∀ (l : List (List Int)) (S : List GL) (got : List (List Int)), l ≠ [] → 0 < got.length → got.length + l.length = m → S[k]? = some ⟨m, got, lo⟩ → runG P S (zc (c0 + got.length) l) = (S.set k ⟨m, [], lo⟩, [(k, lo, got ++ l)])
  | [], _, _, h, _, _, _ => absurd rfl h
  | b :: l, S, got, _, h0, hl, hs => by
    rw [List.length_cons] at hl
    have hk := (List.getElem?_eq_some_iff.1 hs).1
    rw [zc, runG]
    dsimp only
    rw [take_later (j := got.length) (by omega) (hP _ (by omega)) (by omega) hs rfl]
    unfold addG
    dsimp only
    cases l with
    | nil =>
      rw [List.length_nil] at hl
      rw [if_neg (by omega)]
      rfl
    | cons b' l =>
      rw [List.length_cons] at hl
      rw [if_pos (by omega)]
      dsimp only
      have ih := run_rest hm hP (b' :: l) (S.set k ⟨m, got ++ [b], lo⟩) (got ++ [b]) (by simp) (by simp) (by simp; omega) (List.getElem?_set_self hk)
      rw [List.length_append, List.length_singleton, ← Nat.add_assoc] at ih
      rw [ih]
      simp
theorem run_first {P : List (Option (Nat × Nat))} {k m c0 : Nat} {lo l1 : Bool} (hm : c0 + m ≤ 64) (h1 : 1 ≤ m) (hP : ∀ t, t < m → P[c0 + t]? = some (some (k, t))) {l : List (List Int)} {S : List GL} (hl : l.length = m) (hs : S[k]? = some ⟨m, [], l1⟩) : runG P S (zf lo c0 l) = (S.set k ⟨m, [], lo⟩, [(k, lo, l)]) := by
  have hk := (List.getElem?_eq_some_iff.1 hs).1
  cases l with
  | nil => rw [List.length_nil] at hl; omega
  | cons b l =>
    rw [List.length_cons] at hl
    rw [zf, runG]
    dsimp only
    rw [take_first (c := c0) (k := k) (by omega) (by have := hP 0 (by omega); rwa [Nat.add_zero] at this) hs]
    unfold addG
    dsimp only
    cases l with
    | nil =>
      rw [List.length_nil] at hl
      rw [List.length_nil, if_neg (by omega)]
      rfl
    | cons b' l =>
      rw [List.length_cons] at hl
      rw [List.length_nil, if_pos (by omega)]
      dsimp only
      have ih := run_rest (lo := lo) hm hP (b' :: l) (S.set k ⟨m, [] ++ [b], lo⟩) ([] ++ [b]) (by simp) (by simp) (by simp; omega) (List.getElem?_set_self hk)
      rw [List.nil_append, List.length_singleton] at ih
      rw [List.nil_append, ih]
      simp
theorem QInv.put0 {P : List (Option (Nat × Nat))} {S : List GL} {es : List QB3} {m0 m1 : Nat} {ws0 ws1 : List WS} {n0 n1 : Nat} (h : QInv P S es m0 m1 ws0 ws1 n0 n1) (hm : m0 ≤ 4) (h1 : 1 ≤ m0) (hP : ∀ t, t < m0 → P[0 + t]? = some (some (0, t))) {lo : Bool} {y : WS} (hy : y.lost = lo) (hl : y.p.bs.length = m0) : QInv P S (es ++ zf lo 0 y.p.bs) m0 m1 (ws0 ++ [y]) ws1 n0 n1 := by
  obtain ⟨⟨l0, l1, q1⟩, q2, q3, q4, q5, q6⟩ := h
  subst hy
  have e := runG_append P es S (zf y.lost 0 y.p.bs)
  rw [q1, run_first (by omega) h1 hP hl rfl] at e
  refine ⟨⟨y.lost, l1, by rw [e]; rfl⟩, fun x hx => ?_, ?_, ?_, ?_, q6⟩
  · rw [e, List.mem_append] at hx
    rcases hx with hx | hx
    · exact q2 x hx
    · rw [List.mem_singleton] at hx; subst hx; exact .inl rfl
  · rw [e, List.filter_append, q3, List.drop_append_of_le_length q5]
    simp
  · rw [e, List.filter_append, q4]
    simp
  · rw [List.length_append]; omega
theorem QInv.put1 {P : List (Option (Nat × Nat))} {S : List GL} {es : List QB3} {m0 m1 : Nat} {ws0 ws1 : List WS} {n0 n1 : Nat} (h : QInv P S es m0 m1 ws0 ws1 n0 n1) (hm : m0 ≤ 4 ∧ m1 ≤ 4) (h1 : 1 ≤ m1) (hP : ∀ t, t < m1 → P[m0 + t]? = some (some (1, t))) {lo : Bool} {y : WS} (hy : y.lost = lo) (hl : y.p.bs.length = m1) : QInv P S (es ++ zf lo m0 y.p.bs) m0 m1 ws0 (ws1 ++ [y]) n0 n1 := by
  obtain ⟨⟨l0, l1, q1⟩, q2, q3, q4, q5, q6⟩ := h
  subst hy
  have e := runG_append P es S (zf y.lost m0 y.p.bs)
  rw [q1, run_first (by omega) h1 hP hl rfl] at e
  refine ⟨⟨l0, y.lost, by rw [e]; rfl⟩, fun x hx => ?_, ?_, ?_, q5, ?_⟩
  · rw [e, List.mem_append] at hx
    rcases hx with hx | hx
    · exact q2 x hx
    · rw [List.mem_singleton] at hx; subst hx; exact .inr rfl
  · rw [e, List.filter_append, q3]
    simp
  · rw [e, List.filter_append, q4, List.drop_append_of_le_length q6]
    simp
  · rw [List.length_append]; omega
theorem QInv.init (P : List (Option (Nat × Nat))) (m0 m1 : Nat) : QInv P [⟨m0, [], false⟩, ⟨m1, [], false⟩] [] m0 m1 [] [] 0 0 :=
  ⟨⟨false, false, rfl⟩, fun x hx => (by cases hx), rfl, rfl, Nat.zero_le _, Nat.zero_le _⟩
def two19 (g1 n0 g2 n1 : Nat) : List LC := [⟨0, some ⟨g1, 0, none⟩, n0, n0, false, 0, 0, 0, false, false⟩, ⟨0, some ⟨g2, 0, none⟩, n1, n1, false, 0, 0, 0, false, false⟩]
theorem two19_p0 {g1 n0 g2 n1 : Nat} : ∀ t, t < n0 → (plL 0 (two19 g1 n0 g2 n1))[0 + t]? = some (some (0, t)) := fun t ht => by
  rw [Nat.zero_add, two19, plL, List.getElem?_append_left (by simpa using ht)]
  simp [ht]
theorem two19_p1 {g1 n0 g2 n1 : Nat} : ∀ t, t < n1 → (plL 0 (two19 g1 n0 g2 n1))[n0 + t]? = some (some (1, t)) := fun t ht => by
  rw [two19, plL, List.getElem?_append_right (by simp), plL, List.getElem?_append_left (by simpa using ht)]
  simp [ht]
end Go.Proofs.Ytidekbijkknlmaa

/-
  Layer 19: GatherWhole's plain law: what a queue holds, taken packet by packet.
-/
import Derived.Test.YtidekbijkknlmaaZ3
set_option linter.unusedVariables false
set_option maxRecDepth 100000
namespace Go.Proofs.Ytidekbijkknlmaa
open Go.RowKit
attribute [local irreducible] TL TC TQ TK TO Qt TA
abbrev Out := Nat × Bool × List (List Int)
def runG (P : List (Option (Nat × Nat))) : List GL → List QB3 → List GL × List Out
  | S, [] => (S, [])
  | S, e :: es => ((runG P (takeG P S e.1 e.2.1 e.2.2).1 es).1, (takeG P S e.1 e.2.1 e.2.2).2.toList ++ (runG P (takeG P S e.1 e.2.1 e.2.2).1 es).2)
theorem runG_append (P : List (Option (Nat × Nat))) : ∀ (a : List QB3) (S : List GL) (b : List QB3), runG P S (a ++ b) = ((runG P (runG P S a).1 b).1, (runG P S a).2 ++ (runG P (runG P S a).1 b).2)
  | [], S, b => rfl
  | e :: a, S, b => by
    rw [List.cons_append, runG, runG_append P a, runG]
    simp
/-- Everything that waits, taken, is what is wanted; then nothing is begun. -/
structure QInv (P : List (Option (Nat × Nat))) (S : List GL) (es : List QB3) (m0 m1 : Nat) (ws0 ws1 : List WS) (n0 n1 : Nat) : Prop where
  rest : ∃ l0 l1, (runG P S es).1 = [⟨m0, [], l0⟩, ⟨m1, [], l1⟩]
  two : ∀ x ∈ (runG P S es).2, x.1 = 0 ∨ x.1 = 1
  out0 : (runG P S es).2.filter (fun x => x.1 == 0) = (ws0.drop n0).map fun y => (0, y.lost, y.p.bs)
  out1 : (runG P S es).2.filter (fun x => x.1 == 1) = (ws1.drop n1).map fun y => (1, y.lost, y.p.bs)
  le0 : n0 ≤ ws0.length
  le1 : n1 ≤ ws1.length
theorem drop_cons {ws : List WS} {n : Nat} {k : Nat} {x : Out} {r : List Out} (h : x :: r = (ws.drop n).map fun y => (k, y.lost, y.p.bs)) : n < ws.length ∧ (∃ y, ws[n]? = some y ∧ y.lost = x.2.1 ∧ y.p.bs = x.2.2) ∧ r = (ws.drop (n + 1)).map fun y => (k, y.lost, y.p.bs) := by
  have hn : n < ws.length := by
    rcases Nat.lt_or_ge n ws.length with h1 | h1
    · exact h1
    · rw [List.drop_eq_nil_of_le h1] at h; cases h
  rw [List.drop_eq_getElem_cons hn, List.map_cons] at h
  injection h with h1 h2
  exact ⟨hn, ⟨ws[n], List.getElem?_eq_getElem hn, by rw [h1], by rw [h1]⟩, h2⟩
theorem QInv.next {P : List (Option (Nat × Nat))} {S : List GL} {e : QB3} {es : List QB3} {m0 m1 : Nat} {ws0 ws1 : List WS} {n0 n1 : Nat} (h : QInv P S (e :: es) m0 m1 ws0 ws1 n0 n1) :
    Wants (takeG P S e.1 e.2.1 e.2.2).2 ws0 ws1 n0 n1 ∧ QInv P (takeG P S e.1 e.2.1 e.2.2).1 es m0 m1 ws0 ws1 (bump (takeG P S e.1 e.2.1 e.2.2).2 n0 n1).1 (bump (takeG P S e.1 e.2.1 e.2.2).2 n0 n1).2 := by
  obtain ⟨h1, h2, h3, h4, h5, h6⟩ := h
  rw [runG] at h1 h2 h3 h4
  generalize takeG P S e.1 e.2.1 e.2.2 = R at *
  obtain ⟨S', o⟩ := R
  dsimp only at *
  cases o with
  | none =>
    refine ⟨fun i lo bs h => (by cases h), ⟨h1, fun x hx => h2 x (by simpa using hx), ?_, ?_, h5, h6⟩⟩
    · simpa [bump] using h3
    · simpa [bump] using h4
  | some y =>
    obtain ⟨i, lo, bs⟩ := y
    rw [Option.toList_some] at h2 h3 h4
    rcases h2 (i, lo, bs) (by simp) with hi | hi
    · dsimp only at hi
      subst hi
      have e1 : ([((0 : Nat), lo, bs)] ++ (runG P S' es).2).filter (fun x => x.1 == 0) = (0, lo, bs) :: (runG P S' es).2.filter (fun x => x.1 == 0) := by simp
      have e2 : ([((0 : Nat), lo, bs)] ++ (runG P S' es).2).filter (fun x => x.1 == 1) = (runG P S' es).2.filter (fun x => x.1 == 1) := by simp
      rw [e1] at h3
      rw [e2] at h4
      obtain ⟨g1, g2, g3⟩ := drop_cons h3
      refine ⟨fun i' lo' bs' h => ?_, ⟨h1, fun x hx => h2 x (by simp [hx]), ?_, ?_, ?_, ?_⟩⟩
      · injection h with h
        injection h with h7 h8
        injection h8 with h8 h9
        subst h7 h8 h9
        exact .inl ⟨rfl, g1, g2⟩
      · exact g3
      · exact h4
      · exact g1
      · exact h6
    · dsimp only at hi
      subst hi
      have e1 : ([((1 : Nat), lo, bs)] ++ (runG P S' es).2).filter (fun x => x.1 == 1) = (1, lo, bs) :: (runG P S' es).2.filter (fun x => x.1 == 1) := by simp
      have e2 : ([((1 : Nat), lo, bs)] ++ (runG P S' es).2).filter (fun x => x.1 == 0) = (runG P S' es).2.filter (fun x => x.1 == 0) := by simp
      rw [e1] at h4
      rw [e2] at h3
      obtain ⟨g1, g2, g3⟩ := drop_cons h4
      refine ⟨fun i' lo' bs' h => ?_, ⟨h1, fun x hx => h2 x (by simp [hx]), ?_, ?_, ?_, ?_⟩⟩
      · injection h with h
        injection h with h7 h8
        injection h8 with h8 h9
        subst h7 h8 h9
        exact .inr ⟨rfl, g1, g2⟩
      · exact h3
      · exact g3
      · exact h5
      · exact g1
theorem QInv.done {P : List (Option (Nat × Nat))} {S : List GL} {m0 m1 : Nat} {ws0 ws1 : List WS} {n0 n1 : Nat} (h : QInv P S [] m0 m1 ws0 ws1 n0 n1) : n0 = ws0.length ∧ n1 = ws1.length := by
  obtain ⟨-, -, h3, h4, h5, h6⟩ := h
  have e3 := congrArg List.length h3
  have e4 := congrArg List.length h4
  simp [runG] at e3 e4
  omega
/-- A packet of a list's first place, and of another one. -/
theorem take_first {P : List (Option (Nat × Nat))} {S : List GL} {c k : Nat} {lo : Bool} {b : List Int} {s : GL} (hc : c < 64) (hP : P[c]? = some (some (k, 0))) (hs : S[k]? = some s) : takeG P S 4 (if lo = true then c + 64 else c) b = addG S k ⟨s.many, [], lo⟩ b := by
  have e1 : (if 64 ≤ (if lo = true then c + 64 else c) then (if lo = true then c + 64 else c) - 64 else (if lo = true then c + 64 else c)) = c := by
    cases lo
    · simp; omega
    · simp
  have e2 : decide (64 ≤ (if lo = true then c + 64 else c)) = lo := by
    cases lo
    · simp; omega
    · simp
  rw [takeG, if_pos rfl, e1, e2, hP]
  simp only [Option.join_some, hs, putG, if_true]
theorem take_later {P : List (Option (Nat × Nat))} {S : List GL} {c k j : Nat} {b : List Int} {s : GL} (hc : c < 64) (hP : P[c]? = some (some (k, j))) (hj : j ≠ 0) (hs : S[k]? = some s) (hl : s.got.length = j) : takeG P S 4 c b = addG S k s b := by
  have e1 : (if 64 ≤ c then c - 64 else c) = c := if_neg (by omega)
  have e2 : decide (64 ≤ c) = false := decide_eq_false (by omega)
  rw [takeG, if_pos rfl, e1, e2, hP]
  simp only [Option.join_some, hs, putG]
  rw [if_neg hj, if_neg (by simp [hl])]
end Go.Proofs.Ytidekbijkknlmaa

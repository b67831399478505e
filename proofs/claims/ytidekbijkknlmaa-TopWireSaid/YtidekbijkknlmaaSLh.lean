/-
  More of regions that draw their order: three at once; what follows said once, under a condition.
-/
import Derived.Test.YtidekbijkknlmaaSLg
set_option linter.unusedVariables false
set_option maxRecDepth 100000
namespace Go.Proofs.Ytidekbijkknlmaa
open Go.RowKit
section
variable {P : Program} {n : Nat} {S : Nat → Prop} {w0 w : World} {Q : Exit → Act → World → Prop} {ops : Array Oper} {env : Env} {hp : List Asn}
variable {N e fuel : Nat} {hb hz : List Asn} {dn : List Nat}
theorem a_e3 (i j k : Nat) {o o' o'' : Oper} (hi : ops[i]? = some o) (hj : ops[j]? = some o') (hk : ops[k]? = some o'') (hr : ((Region.ready .any ops (lst N dn)) == [i, j, k]) = true) (hg : o.guard = none) (hg' : o'.guard = none) (hg'' : o''.guard = none)
    (h : ∀ K : Act → World → Prop, (∀ env hp', (∀ w, St S w0 hp' w → St S w0 (bif (i :: dn).any (Nat.beq e) then hz else hb) w) → TA P n S w0 Q ops N e hb hz fuel (i :: dn) env hp' → TK n S w0 K env hp') → TO P n S w0 (Qn Q) o K env hp)
    (h' : ∀ K : Act → World → Prop, (∀ env hp', (∀ w, St S w0 hp' w → St S w0 (bif (j :: dn).any (Nat.beq e) then hz else hb) w) → TA P n S w0 Q ops N e hb hz fuel (j :: dn) env hp' → TK n S w0 K env hp') → TO P n S w0 (Qn Q) o' K env hp)
    (h'' : ∀ K : Act → World → Prop, (∀ env hp', (∀ w, St S w0 hp' w → St S w0 (bif (k :: dn).any (Nat.beq e) then hz else hb) w) → TA P n S w0 Q ops N e hb hz fuel (k :: dn) env hp' → TK n S w0 K env hp') → TO P n S w0 (Qn Q) o'' K env hp) : TA P n S w0 Q ops N e hb hz (fuel + 1) dn env hp := fun hbz hH a w hE hS => by
  have hr' : Region.ready .any ops (lst N dn) = [i, j, k] := by simpa using hr
  refine ⟨fun h0 => (by rw [hr'] at h0; cases h0), fun m hm => ?_⟩
  rw [hr'] at hm
  simp only [List.mem_cons, List.not_mem_nil, or_false] at hm
  rcases hm with rfl | rfl | rfl
  · exact wpOp_of hi hg (h _ (fun env' hp' hz' ht a' w' hE' hS' => ⟨hz' w' hS', ht hbz hz' a' w' hE' hS'⟩) a w hE hS)
  · exact wpOp_of hj hg' (h' _ (fun env' hp' hz' ht a' w' hE' hS' => ⟨hz' w' hS', ht hbz hz' a' w' hE' hS'⟩) a w hE hS)
  · exact wpOp_of hk hg'' (h'' _ (fun env' hp' hz' ht a' w' hE' hS' => ⟨hz' w' hS', ht hbz hz' a' w' hE' hS'⟩) a w hE hS)
theorem a_joinP {α : Type} (p : α → Prop) (E : α → Env) (ks : List Nat) {pe : Env} (hk : Pick env ks pe) (H : α → List Asn) (h : ∀ x, p x → TQ n S w0 Q .normal (E x ++ pe) (H x)) (k : (∀ x, p x → ∀ env hp, Sub (E x ++ pe) env → (∀ w, St S w0 hp w → St S w0 (H x) w) → TQ n S w0 Q .normal env hp) → TA P n S w0 Q ops N e hb hz fuel dn env hp) : TA P n S w0 Q ops N e hb hz fuel dn env hp :=
  k fun x hx _ _ hE hH => fun a w hA hS => h x hx a w (hA.sub hE) (hH w hS)
/-- What follows a piece of code, said once. -/
theorem d_join {α : Type} {c rest : Code} (p : α → Prop) (E : α → Env) (ks : List Nat) {pe : Env} (hk : Pick env ks pe) (H : α → List Asn) (h : ∀ a, p a → TC P n S w0 Q rest (E a ++ pe) (H a))
    (k : ∀ Q' : Exit → Act → World → Prop, (∀ a, p a → ∀ env hp, Sub (E a ++ pe) env → (∀ w, St S w0 hp w → St S w0 (H a) w) → TQ n S w0 Q' .normal env hp) → (∀ env hp, TQ n S w0 Q .ret env hp → TQ n S w0 Q' .ret env hp) → (∀ i env hp, TQ n S w0 Q (.exit i) env hp → TQ n S w0 Q' (.exit i) env hp) → TC P n S w0 Q' c env hp) : TC P n S w0 (ThenC P rest Q) c env hp :=
  k _ (fun a ha _ _ hE hH => d_then (c_sub hE hH (h a ha))) (fun _ _ h => d_then_ret h) (fun _ _ _ h => d_then_exit h)
theorem d_seq_join {α : Type} {c rest : Code} (p : α → Prop) (E : α → Env) (ks : List Nat) {pe : Env} (hk : Pick env ks pe) (H : α → List Asn) (h : ∀ a, p a → TC P n S w0 Q rest (E a ++ pe) (H a))
    (k : ∀ Q' : Exit → Act → World → Prop, (∀ a, p a → ∀ env hp, Sub (E a ++ pe) env → (∀ w, St S w0 hp w → St S w0 (H a) w) → TQ n S w0 Q' .normal env hp) → (∀ env hp, TQ n S w0 Q .ret env hp → TQ n S w0 Q' .ret env hp) → (∀ i env hp, TQ n S w0 Q (.exit i) env hp → TQ n S w0 Q' (.exit i) env hp) → TC P n S w0 Q' c env hp) : TC P n S w0 Q (.seq c rest) env hp :=
  d_seq (d_join p E ks hk H h k)
/-- The same, at the head of a block (a loop's, say). -/
theorem d_block_join {α : Type} {id : Nat} {c rest : Code} (p : α → Prop) (E : α → Env) (ks : List Nat) {pe : Env} (hk : Pick env ks pe) (H : α → List Asn) (h : ∀ a, p a → TC P n S w0 Q rest (E a ++ pe) (H a))
    (k : ∀ Q' : Exit → Act → World → Prop, (∀ a, p a → ∀ env hp, Sub (E a ++ pe) env → (∀ w, St S w0 hp w → St S w0 (H a) w) → TQ n S w0 Q' .normal env hp) → (∀ env hp, TQ n S w0 Q .ret env hp → TQ n S w0 Q' .ret env hp) → TC P n S w0 (Exit.inBlock id Q') c env hp) : TC P n S w0 (Exit.inBlock id (ThenC P rest Q)) c env hp :=
  k _ (fun a ha _ _ hE hH => d_then (c_sub hE hH (h a ha))) (fun _ _ h => d_then_ret h)
end
end Go.Proofs.Ytidekbijkknlmaa

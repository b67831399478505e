/-
  More rules: arrays that lie in a row.
-/
import Derived.Test.YtkeekkdaielipaaI1
set_option linter.unusedVariables false
set_option maxRecDepth 100000
namespace Go.Proofs.Ytkeekkdaielipaa
open Go.RowKit
section
variable {P : Program} {n : Nat} {S : Nat → Prop} {w0 : World} {Q : Exit → Act → World → Prop} {ops : Array Oper} {env : Env} {hp hp' : List Asn}
variable {d : Option Nat} {ty : TypeId} {pos : String} {af : Array Edge} {g : Option (Nat × Bool)} {rest : List Oper}
theorem q_ixAS1 (T : Tab P) {t e : TypeId} {x ix : Operand} {A : Option Addr} {len j jj : Nat} {k : IntKind} {i : Int} {z : Value} {y q : Nat} {vs : List Value} (hx : ev env x = some (.pointer (adr A j))) (hi : ev env ix = some (.int k i)) (ht : T.u t = some (.array len e)) (hz : T.i e = some (z, 1, y)) (hs : Src S w0 hp A q vs) (hj : i.toNat = jj) (h : 0 ≤ i ∧ i < len) (hq : 0 < q) :
    Qt P S w0 ⟨d, .indexAddr t x ix, ty, pos, af, g⟩ env hp (.pointer (adr A (j + jj))) := fun n a w hE hS => by
  subst hj
  obtain ⟨b, o, rfl, _⟩ := (hs w hS).2 hq
  rw [adr_some] at hx ⊢
  rw [← Nat.add_assoc]
  exact q_indexAddrA1 T hx hi ht hz h n a w hE hS
end
theorem st_back {S : Nat → Prop} {w0 w : World} {Y X : Asn} {l F : List Asn} {i : Nat} (hi : l[i]? = some X) (h : St S w0 (Y :: starL (l.set i emp) :: F) w) : St S w0 (starL (l.set i Y) :: F) w := by
  have := st_put (j := 0) (i := i) h rfl (List.getElem?_set_self (List.getElem?_eq_some_iff.1 hi).1)
  rw [List.set_set] at this
  exact this
theorem t_fact {n : Nat} {S : Nat → Prop} {w0 : World} {Q : Exit → Act → World → Prop} {env : Env} {hp : List Asn} {e : Exit} {p : Prop} (hp_ : ∀ w, St S w0 hp w → p) (h : p → TQ n S w0 Q e env hp) : TQ n S w0 Q e env hp := fun a w hE hS => h (hp_ w hS) a w hE hS
theorem t_ex {n : Nat} {S : Nat → Prop} {w0 : World} {Q : Exit → Act → World → Prop} {env : Env} {hp : List Asn} {e : Exit} {α : Type} {p : α → Prop} {hp' : α → List Asn} (hx : ∀ w, St S w0 hp w → ∃ x, p x ∧ St S w0 (hp' x) w) (h : ∀ x, p x → TQ n S w0 Q e env (hp' x)) : TQ n S w0 Q e env hp := fun a w hE hS => by
  obtain ⟨x, h1, h2⟩ := hx w hS
  exact h x h1 a w hE h2
end Go.Proofs.Ytkeekkdaielipaa

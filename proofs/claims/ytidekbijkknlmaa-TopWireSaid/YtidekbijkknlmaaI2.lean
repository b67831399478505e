/-
  More rules: arrays that lie in a row.
-/
import Derived.Test.YtidekbijkknlmaaI1
set_option linter.unusedVariables false
set_option maxRecDepth 100000
namespace Go.Proofs.Ytidekbijkknlmaa
open Go.RowKit
section
variable {P : Program} {n : Nat} {S : Nat → Prop} {w0 : World} {Q : Exit → Act → World → Prop} {ops : Array Oper} {env : Env} {hp hp' : List Asn}
variable {d : Option Nat} {ty : TypeId} {pos : String} {af : Array Edge} {g : Option (Nat × Bool)} {rest : List Oper}
theorem q_ixAS1 (T : Tab P) {t e : TypeId} {x ix : Operand} {A : Option Addr} {len j jj : Nat} {k : IntKind} {i : Int} {z : Value} {y q : Nat} {vs : List Value} (hx : ev env x = some (.pointer (adr A j))) (hi : ev env ix = some (.int k i)) (ht : T.u t = some (.array len e)) (hz : T.i e = some (z, 1, y)) (hs : Src S w0 hp A q vs) (hj : i.toNat = jj) (h : 0 ≤ i ∧ i < len) (hq : 0 < q) :
    Qt P S w0 ⟨d, .indexAddr t x ix, ty, pos, af, g⟩ env hp (.pointer (adr A (j + jj))) := fun n a w hE hS => by
  subst hj
  obtain ⟨b, o, rfl, _⟩ := (hs w hS).2 hq
  rw [adr_some] at hx ⊢
  rw [← Nat.add_assoc]
  exact q_indexAddrA1 T hx hi ht hz h n a w hE hS
end
theorem st_back {S : Nat → Prop} {w0 w : World} {Y X : Asn} {l F : List Asn} {i : Nat} (hi : l[i]? = some X) (h : St S w0 (Y :: starL (l.set i emp) :: F) w) : St S w0 (starL (l.set i Y) :: F) w := by
  have := st_put (j := 0) (i := i) h rfl (List.getElem?_set_self (List.getElem?_eq_some_iff.1 hi).1)
  rw [List.set_set] at this
  exact this
theorem q_slArr {P : Program} {S : Nat → Prop} {w0 : World} {env : Env} {hp : List Asn} {d : Option Nat} {ty : TypeId} {pos : String} {af : Array Edge} {g : Option (Nat × Bool)} (T : Tab P) {t e : TypeId} {x lo hi : Operand} {b o n i j : Nat} {k k' : IntKind} {l h : Int} {z : Value} {sz y : Nat} (hx : ev env x = some (.pointer (some ⟨b, o, none⟩))) (hl : ev env lo = some (.int k l)) (hh : ev env hi = some (.int k' h)) (ht : T.u t = some (.array n e)) (hz : T.i e = some (z, sz, y)) (hi_ : l.toNat = i) (hj : h.toNat = j) (hb : 0 ≤ l ∧ l ≤ h ∧ h ≤ n) :
    Qt P S w0 ⟨d, .slice t x (some lo) (some hi) none, ty, pos, af, g⟩ env hp (.slice (some (if n = i then ⟨b, o, none⟩ else ⟨b, o + i * sz, none⟩)) (j - i) (n - i)) := fun m a w hE hS => by
  subst hi_ hj
  have h0 : 0 ≤ h := by omega
  have h1 : l ≤ (h.toNat : Int) := by omega
  have h2 : (h.toNat : Int) = h := by omega
  simp [execOp, hE.ev hx, hE.ev hl, hE.ev hh, Instr.sliceAt, Instr.slice, run_underlying (T.U ht), Instr.sliceBounds, run_sliceBound, hb.1, hb.2.1, hb.2.2, h0, h2, T.size hz, Instr.sureAddr, Addr.add_lit]
theorem st_unstar {S : Nat → Prop} {w0 w : World} {l F : List Asn} (h : St S w0 (starL l :: F) w) : St S w0 (l ++ F) w := by
  have hl : Hold l w := h.all (starL l) (List.Mem.head _)
  refine ⟨h.kept, fun A hA b hb => ?_, .of_pair (List.pairwise_append.2 ⟨hl.ap.pair, h.ap.2.pair, fun X hX Y hY b hb hb' => h.ap.1 Y hY b ⟨X, hX, hb⟩ hb'⟩), fun A hA => ?_⟩
  · rcases List.mem_append.1 hA with hA | hA
    · exact h.own (starL l) (List.Mem.head _) b ⟨A, hA, hb⟩
    · exact h.own A (by simp [hA]) b hb
  · rcases List.mem_append.1 hA with hA | hA
    · exact hl.all A hA
    · exact h.all A (by simp [hA])
/-- Objects picked out, in whatever order. -/
inductive PSub : List Asn → List Asn → Prop
  | nil {r : List Asn} : PSub [] r
  | cons {X : Asn} {a r r' : List Asn} : Ext X r r' → PSub a r' → PSub (X :: a) r
theorem PSub.spec {a r : List Asn} (h : PSub a r) : ∃ q, r.Perm (a ++ q) := by
  induction h with
  | @nil r => exact ⟨r, .refl _⟩
  | cons h1 _ ih =>
    obtain ⟨q, h2⟩ := ih
    exact ⟨q, h1.perm.trans (h2.cons _)⟩
theorem St.psub {S : Nat → Prop} {w0 w : World} {hp hp' : List Asn} (h : St S w0 hp w) (hs : PSub hp' hp) : St S w0 hp' w := by
  obtain ⟨q, h1⟩ := hs.spec
  have h2 := h.perm h1
  exact ⟨h2.kept, fun A hA => h2.own A (by simp [hA]), h2.ap.append.1, fun A hA => h2.all A (by simp [hA])⟩
/-- What follows a region, said once for all orders. -/
theorem a_join {P : Program} {n : Nat} {S : Nat → Prop} {w0 : World} {Q : Exit → Act → World → Prop} {ops : Array Oper} {N e fuel : Nat} {hb hz : List Asn} {dn : List Nat} {env : Env} {hp : List Asn} {α : Type} (E : α → Env) (H : α → List Asn) (h : ∀ x, TQ n S w0 Q .normal (E x) (H x)) (k : (∀ x, TQ n S w0 Q .normal (E x) (H x)) → TA P n S w0 Q ops N e hb hz fuel dn env hp) : TA P n S w0 Q ops N e hb hz fuel dn env hp := k h
theorem t_sub {n : Nat} {S : Nat → Prop} {w0 : World} {Q : Exit → Act → World → Prop} {e : Exit} {env env' : Env} {hp hp' : List Asn} (hE : Sub env' env) (hH : ∀ w, St S w0 hp w → St S w0 hp' w) (h : TQ n S w0 Q e env' hp') : TQ n S w0 Q e env hp := fun a w hA hS => h a w (hA.sub hE) (hH w hS)
/-- An empty row, and one of bytes. -/
theorem row0_of {S : Nat → Prop} {w0 w : World} {g : Nat} {F : List Asn} (h : St S w0 (blk g [] 5 :: F) w) : St S w0 (row 5 1 (.slice (some ⟨g, 0, none⟩) 0 0) 0 [] :: F) w :=
  h.see (i := 0) rfl (fun h => row_of_blk h 1 0 0 (Nat.le_refl _) (Nat.zero_le _) rfl [] rfl) (fun b hb => by injection hb with hb; exact hb.symm)
theorem bytesA_of {v : Value} {n : Nat} {l : List Int} {w : World} (hl : l.length = n) (ho : Oct l) (h : (row 5 1 v n (bv l)).C w) : (bytesA v l).C w := by
  subst hl
  exact ⟨ho, h⟩
theorem bytesA_rowS {v : Value} {n : Nat} {l : List Int} (b : Nat) (h : (bytesA v l).S b) : (row 5 1 v n (bv l)).S b := h
theorem t_fact {n : Nat} {S : Nat → Prop} {w0 : World} {Q : Exit → Act → World → Prop} {env : Env} {hp : List Asn} {e : Exit} {p : Prop} (hp_ : ∀ w, St S w0 hp w → p) (h : p → TQ n S w0 Q e env hp) : TQ n S w0 Q e env hp := fun a w hE hS => h (hp_ w hS) a w hE hS
theorem t_ex {n : Nat} {S : Nat → Prop} {w0 : World} {Q : Exit → Act → World → Prop} {env : Env} {hp : List Asn} {e : Exit} {α : Type} {p : α → Prop} {hp' : α → List Asn} (hx : ∀ w, St S w0 hp w → ∃ x, p x ∧ St S w0 (hp' x) w) (h : ∀ x, p x → TQ n S w0 Q e env (hp' x)) : TQ n S w0 Q e env hp := fun a w hE hS => by
  obtain ⟨x, h1, h2⟩ := hx w hS
  exact h x h1 a w hE h2
end Go.Proofs.Ytidekbijkknlmaa

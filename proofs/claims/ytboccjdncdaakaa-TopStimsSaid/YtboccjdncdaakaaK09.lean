/-
  Part 9 of the proof of QJ: the texts SLg SLh SLi SLj F1.
-/
import Derived.Test.YtboccjdncdaakaaK07
import Derived.MapKept
import Derived.Lib.AppendZeros
import Derived.Laws.StructEq
import Derived.Laws.Tables
import Derived.Laws.Cover2
import Derived.Test.YtboccjdncdaakaaK08

/-
  Maps: what is known of one, and the operations make, lookup and update.
-/

set_option linter.unusedVariables false
set_option maxRecDepth 100000
namespace Go.Proofs.Ytboccjdncdaakaa
open Go.RowKit Go.MapKept
open Classical in
/-- What stands under a key. -/
noncomputable def mg : List MapEntry → Value → Option Value
  | [], _ => none
  | e :: es, k => if e.key = k then some e.val else mg es k
theorem find_mg {d : TypeDesc} {k : Value} (hk : IsKey d k) : ∀ (l : List MapEntry) (i : Nat), (∀ x ∈ l, IsKey d x.key) →
    (Instr.findNow d k l i = some none ∧ mg l k = none) ∨ ∃ m e, Instr.findNow d k l i = some (some (i + m, e.val)) ∧ l[m]? = some e ∧ e.key = k ∧ mg l k = some e.val ∧ ∀ (val k' : Value), (k' = k → mg (l.modify m fun e => { e with key := k, val := val }) k' = some val) ∧ (k' ≠ k → mg (l.modify m fun e => { e with key := k, val := val }) k' = mg l k')
  | [], _, _ => .inl ⟨rfl, rfl⟩
  | e :: es, i, h => by
    obtain ⟨r, hr, hiff⟩ := sameNow_of_keys hk (h e (.head _))
    cases r with
    | true =>
      have he : e.key = k := (hiff.1 rfl).symm
      refine .inr ⟨0, e, by simp [Instr.findNow, hr], rfl, he, by simp [mg, he], fun val k' => ⟨fun hkk => ?_, fun hkk => ?_⟩⟩
      · subst hkk; simp [mg]
      · have h1 : ¬ k = k' := fun q => hkk q.symm
        have h2 : ¬ e.key = k' := fun q => hkk (by rw [← q, he])
        simp [mg, h1, h2]
    | false =>
      have hne : ¬ e.key = k := fun q => by have := hiff.2 q.symm; cases this
      rcases find_mg hk es (i + 1) (fun x hx => h x (.tail _ hx)) with ⟨h1, h2⟩ | ⟨m, e', h1, h2, h3, h4, h5⟩
      · exact .inl ⟨by simp [Instr.findNow, hr, h1], by simp [mg, hne, h2]⟩
      · refine .inr ⟨m + 1, e', by simp [Instr.findNow, hr, h1]; omega, by simpa using h2, h3, by simp [mg, hne, h4], fun val k' => ⟨fun hkk => ?_, fun hkk => ?_⟩⟩
        · subst hkk
          simp [mg, hne, (h5 val _).1 rfl]
        · simp [mg, (h5 val k').2 hkk]
theorem mg_snoc : ∀ (l : List MapEntry) (e : MapEntry) (k : Value), mg l e.key = none → (k = e.key → mg (l ++ [e]) k = some e.val) ∧ (k ≠ e.key → mg (l ++ [e]) k = mg l k)
  | [], e, k, _ => ⟨fun h => by subst h; simp [mg], fun h => by have : ¬ e.key = k := fun q => h q.symm; simp [mg, this]⟩
  | x :: l, e, k, h => by
    have hx : ¬ x.key = e.key := fun q => by simp [mg, q] at h
    have hl : mg l e.key = none := by simpa [mg, hx] using h
    obtain ⟨h1, h2⟩ := mg_snoc l e k hl
    refine ⟨fun hk => ?_, fun hk => ?_⟩
    · subst hk
      simp [mg, hx, h1 rfl]
    · simp [mg, h2 hk]
/-- A map. -/
def mapA (d : TypeDesc) (b : Nat) (f : Value → Option Value) : Asn where
  S := fun x => x = b
  C := fun w => ∃ arr clk, w.heap[b]? = some (.map arr clk) ∧ (∀ e ∈ arr.toList, IsKey d e.key) ∧ ∀ k, IsKey d k → mg arr.toList k = f k
  lt := fun h x hx => by obtain ⟨_, _, h, _⟩ := h; subst hx; exact (Array.getElem?_eq_some_iff.1 h).1
  loc := fun hk h => by obtain ⟨arr, clk, h1, h2⟩ := h; exact ⟨arr, clk, (hk b rfl).trans h1, h2⟩
section
variable {P : Program} {n : Nat} {S : Nat → Prop} {w0 : World} {Q : Exit → Act → World → Prop} {ops : Array Oper} {env : Env} {hp hp' : List Asn}
variable {d : Nat} {ty : TypeId} {pos : String} {af : Array Edge} {g : Option (Nat × Bool)} {K : Act → World → Prop} {rest : List Oper}
theorem e_mkmap (kd : TypeDesc) {t : TypeId} (hd : Nat.blt d n = true) (h : ∀ b, TK n S w0 K ((d, .map (some b)) :: env) (mapA kd b (fun _ => none) :: hp)) : TO P n S w0 Q ⟨some d, .makeMap t none, ty, pos, af, g⟩ K env hp := fun a w hE hS => by
  have hst : St S w0 (mapA kd w.heap.size (fun _ => none) :: hp) (w.alloc (.map #[] 0)) := by
    refine hS.new ⟨rfl, rfl, rfl, by simp, fun k hk _ => Below.heap_alloc _ _ _ hk⟩ ⟨#[], 0, ?_, by simp, fun k hk => rfl⟩ (fun b hb => by have : b = w.heap.size := hb; omega)
    show (w.heap.push _)[w.heap.size]? = _
    simp
  have := h w.heap.size _ _ (hE.put hd _) hst
  have hrun : (execOp a.eval ⟨some d, .makeMap t none, ty, pos, af, g⟩).run P w = .ok (.value (.map (some w.heap.size))) (w.alloc (.map #[] 0)) := by
    simp only [execOp, Option.map_none, Instr.makeMap]
    rfl
  unfold Oper.wp
  rw [hrun]
  exact this
theorem run_lookupA {kd : TypeDesc} {T kt e : TypeId} (hT : P.underlying T = some (.map kt e)) (hK : P.underlying kt = some kd) {w : World} {b : Nat} {f : Value → Option Value} (h : (mapA kd b f).C w) {k z : Value} (hk : IsKey kd k) (hz : (zeroValue e).run P w = .ok z w) (c : Bool) :
    (Instr.lookup T (.map (some b)) k c).run P w = .ok (if c then .tuple #[(f k).getD z, .bool (f k).isSome] else (f k).getD z) w := by
  obtain ⟨arr, clk, h1, h2, h3⟩ := h
  rcases find_mg hk arr.toList 0 h2 with ⟨h4, h5⟩ | ⟨m, e', h4, _, _, h5, _⟩
  · rw [h3 k hk] at h5
    simp [Instr.lookup, run_underlying hT, MapKept.run_getObj_map h1, MapKept.run_checkKey hK hk, MapKept.run_findKey hK h4, hz, h5]
  · rw [h3 k hk] at h5
    simp [Instr.lookup, run_underlying hT, MapKept.run_getObj_map h1, MapKept.run_checkKey hK hk, MapKept.run_findKey hK h4, h5]
theorem q_lookup (T : Tab P) {d : Option Nat} {kd : TypeDesc} {t kt e : TypeId} {x y : Operand} {b : Nat} {f : Value → Option Value} {k z : Value} {s by_ : Nat} {r : Option Value} (hx : ev env x = some (.map (some b))) (hy : ev env y = some k) (ht : T.u t = some (.map kt e)) (hk : T.u kt = some kd) (hz : T.i e = some (z, s, by_)) (hik : IsKey kd k) (hm : mapA kd b f ∈ hp) (hr : f k = r) :
    Qt P S w0 ⟨d, .lookup t x y true, ty, pos, af, g⟩ env hp (.tuple #[r.getD z, .bool r.isSome]) := fun n a w hE hS => by
  subst hr
  simp [execOp, hE.ev hx, hE.ev hy, run_lookupA (T.U ht) (T.U hk) (hS.mem hm) hik (T.zero hz w) true]
theorem q_lookup1 (T : Tab P) {d : Option Nat} {kd : TypeDesc} {t kt e : TypeId} {x y : Operand} {b : Nat} {f : Value → Option Value} {k z : Value} {s by_ : Nat} {r : Option Value} (hx : ev env x = some (.map (some b))) (hy : ev env y = some k) (ht : T.u t = some (.map kt e)) (hk : T.u kt = some kd) (hz : T.i e = some (z, s, by_)) (hik : IsKey kd k) (hm : mapA kd b f ∈ hp) (hr : f k = r) :
    Qt P S w0 ⟨d, .lookup t x y false, ty, pos, af, g⟩ env hp (r.getD z) := fun n a w hE hS => by
  subst hr
  simp [execOp, hE.ev hx, hE.ev hy, run_lookupA (T.U ht) (T.U hk) (hS.mem hm) hik (T.zero hz w) false]
theorem run_updateA {kd : TypeDesc} {T kt e : TypeId} (hT : P.underlying T = some (.map kt e)) (hK : P.underlying kt = some kd) {w : World} {b : Nat} {f f' : Value → Option Value} (h : (mapA kd b f).C w) {k v : Value} (hk : IsKey kd k) (hf : ∀ k', IsKey kd k' → (k' = k → f' k' = some v) ∧ (k' ≠ k → f' k' = f k')) :
    ∃ w', (Instr.mapUpdate T (.map (some b)) k v).run P w = .ok () w' ∧ (mapA kd b f').C w' ∧ Kept (fun x => x = b) w w' := by
  obtain ⟨arr, clk, h1, h2, h3⟩ := h
  have hlt := (Array.getElem?_eq_some_iff.1 h1).1
  have hkept : ∀ o : Obj, Kept (fun x => x = b) w { w with heap := w.heap.setIfInBounds b o } := fun o => ⟨rfl, rfl, rfl, by simp, fun k hk hne => by
    have : b ≠ k := fun e => hne e.symm
    simp only [Array.getElem?_setIfInBounds, this, if_false]⟩
  rcases find_mg hk arr.toList 0 h2 with ⟨h4, h5⟩ | ⟨m, e', h4, h5, h6, h7, h8⟩
  · refine ⟨{ w with heap := w.heap.setIfInBounds b (.map (arr.push { key := k, val := v, born := clk }) (clk + 1)) }, ?_, ⟨_, _, (heap_set h1).1, ?_, fun k' hk' => ?_⟩, hkept _⟩
    · simp [Instr.mapUpdate, run_underlying hT, MapKept.run_getObj_map h1, MapKept.run_checkKey hK hk, MapKept.run_findKey hK h4, MapKept.run_setObj_map _ h1]
    · intro x hx
      simp only [Array.toList_push, List.mem_append, List.mem_singleton] at hx
      rcases hx with hx | rfl
      · exact h2 x hx
      · exact hk
    · simp only [Array.toList_push]
      obtain ⟨q1, q2⟩ := mg_snoc arr.toList { key := k, val := v, born := clk } k' h5
      by_cases e : k' = k
      · rw [q1 e, (hf k' hk').1 e]
      · rw [q2 e, (hf k' hk').2 e, h3 k' hk']
  · have hj : arr[m]? = some e' := by simpa using h5
    refine ⟨{ w with heap := w.heap.setIfInBounds b (.map (arr.modify m fun e => { e with key := k, val := v }) clk) }, ?_, ⟨_, _, (heap_set h1).1, ?_, fun k' hk' => ?_⟩, hkept _⟩
    · simp [Instr.mapUpdate, run_underlying hT, MapKept.run_getObj_map h1, MapKept.run_checkKey hK hk, MapKept.run_findKey hK h4, hj, h6, run_keyThatStays hk, MapKept.run_setObj_map _ h1]
    · exact isKey_modify h2 _ _ (fun e'' he'' => by rw [hj] at he''; cases he''; exact h6.symm)
    · rw [Array.toList_modify]
      obtain ⟨q1, q2⟩ := h8 v k'
      by_cases e : k' = k
      · rw [q1 e, (hf k' hk').1 e]
      · rw [q2 e, (hf k' hk').2 e, h3 k' hk']
theorem e_mapset (T : Tab P) {kd : TypeDesc} {t kt e : TypeId} {x y z : Operand} {b : Nat} {f f' : Value → Option Value} {k v : Value} (hx : ev env x = some (.map (some b))) (hy : ev env y = some k) (hz : ev env z = some v) (ht : T.u t = some (.map kt e)) (hk : T.u kt = some kd) (hik : IsKey kd k) (hu : Upd (mapA kd b f) (mapA kd b f') hp hp') (hf : ∀ k', IsKey kd k' → (k' = k → f' k' = some v) ∧ (k' ≠ k → f' k' = f k'))
    (h : TK n S w0 K env hp') : TO P n S w0 Q ⟨none, .mapUpdate t x y z, ty, pos, af, g⟩ K env hp := fun a w hE hS => by
  obtain ⟨i, h1, rfl⟩ := hu.ix
  obtain ⟨w', h2, h3, h4⟩ := run_updateA (P := P) (T.U ht) (T.U hk) (hS.get h1) hik hf
  have := h a w' hE (hS.repl h1 h4 h3 (fun _ h => .inl h))
  unfold Oper.wp
  simp [execOp, hE.ev hx, hE.ev hy, hE.ev hz, h2]
  exact this
theorem e_mapins (T : Tab P) {kd : TypeDesc} {t kt e : TypeId} {x y z : Operand} {b : Nat} {f f' : Value → Option Value} {k v : Value} (hx : ev env x = some (.map (some b))) (hy : ev env y = some k) (hz : ev env z = some v) (ht : T.u t = some (.map kt e)) (hk : T.u kt = some kd) (hik : IsKey kd k) (hu : Upd (mapA kd b f) (mapA kd b f') hp hp') (hf : ∀ k', IsKey kd k' → (k' = k → f' k' = some v) ∧ (k' ≠ k → f' k' = f k'))
    (h : TK n S w0 K env hp') : TO P n S w0 Q ⟨none, .insert t x y z, ty, pos, af, g⟩ K env hp := fun a w hE hS => by
  obtain ⟨i, h1, rfl⟩ := hu.ix
  obtain ⟨w', h2, h3, h4⟩ := run_updateA (P := P) (T.U ht) (T.U hk) (hS.get h1) hik hf
  have := h a w' hE (hS.repl h1 h4 h3 (fun _ h => .inl h))
  unfold Oper.wp
  simp [execOp, hE.ev hx, hE.ev hy, hE.ev hz, h2]
  exact this
end
end Go.Proofs.Ytboccjdncdaakaa

/-
  More of regions that draw their order: three at once; what follows said once, under a condition.
-/

set_option linter.unusedVariables false
set_option maxRecDepth 100000
namespace Go.Proofs.Ytboccjdncdaakaa
open Go.RowKit
section
variable {P : Program} {n : Nat} {S : Nat → Prop} {w0 w : World} {Q : Exit → Act → World → Prop} {ops : Array Oper} {env : Env} {hp : List Asn}
variable {N e fuel : Nat} {hb hz : List Asn} {dn : List Nat}
theorem a_e3 (i j k : Nat) {o o' o'' : Oper} (hi : ops[i]? = some o) (hj : ops[j]? = some o') (hk : ops[k]? = some o'') (hr : ((Region.ready .any ops (lst N dn)) == [i, j, k]) = true) (hg : o.guard = none) (hg' : o'.guard = none) (hg'' : o''.guard = none)
    (h : ∀ K : Act → World → Prop, (∀ env hp', (∀ w, St S w0 hp' w → St S w0 (bif (i :: dn).any (Nat.beq e) then hz else hb) w) → TA P n S w0 Q ops N e hb hz fuel (i :: dn) env hp' → TK n S w0 K env hp') → TO P n S w0 (Qn Q) o K env hp)
    (h' : ∀ K : Act → World → Prop, (∀ env hp', (∀ w, St S w0 hp' w → St S w0 (bif (j :: dn).any (Nat.beq e) then hz else hb) w) → TA P n S w0 Q ops N e hb hz fuel (j :: dn) env hp' → TK n S w0 K env hp') → TO P n S w0 (Qn Q) o' K env hp)
    (h'' : ∀ K : Act → World → Prop, (∀ env hp', (∀ w, St S w0 hp' w → St S w0 (bif (k :: dn).any (Nat.beq e) then hz else hb) w) → TA P n S w0 Q ops N e hb hz fuel (k :: dn) env hp' → TK n S w0 K env hp') → TO P n S w0 (Qn Q) o'' K env hp) : TA P n S w0 Q ops N e hb hz (fuel + 1) dn env hp := fun hbz hH a w hE hS => by
  have hr' : Region.ready .any ops (lst N dn) = [i, j, k] := by simpa using hr
  refine ⟨fun h0 => (by rw [hr'] at h0; cases h0), fun m hm => ?_⟩
  rw [hr'] at hm
  simp only [List.mem_cons, List.not_mem_nil, or_false] at hm
  rcases hm with rfl | rfl | rfl
  · exact wpOp_of hi hg (h _ (fun env' hp' hz' ht a' w' hE' hS' => ⟨hz' w' hS', ht hbz hz' a' w' hE' hS'⟩) a w hE hS)
  · exact wpOp_of hj hg' (h' _ (fun env' hp' hz' ht a' w' hE' hS' => ⟨hz' w' hS', ht hbz hz' a' w' hE' hS'⟩) a w hE hS)
  · exact wpOp_of hk hg'' (h'' _ (fun env' hp' hz' ht a' w' hE' hS' => ⟨hz' w' hS', ht hbz hz' a' w' hE' hS'⟩) a w hE hS)
theorem a_joinP {α : Type} (p : α → Prop) (E : α → Env) (ks : List Nat) {pe : Env} (hk : Pick env ks pe) (H : α → List Asn) (h : ∀ x, p x → TQ n S w0 Q .normal (E x ++ pe) (H x)) (k : (∀ x, p x → ∀ env hp, Sub (E x ++ pe) env → (∀ w, St S w0 hp w → St S w0 (H x) w) → TQ n S w0 Q .normal env hp) → TA P n S w0 Q ops N e hb hz fuel dn env hp) : TA P n S w0 Q ops N e hb hz fuel dn env hp :=
  k fun x hx _ _ hE hH => fun a w hA hS => h x hx a w (hA.sub hE) (hH w hS)
/-- What follows a piece of code, said once. -/
theorem d_join {α : Type} {c rest : Code} (p : α → Prop) (E : α → Env) (ks : List Nat) {pe : Env} (hk : Pick env ks pe) (H : α → List Asn) (h : ∀ a, p a → TC P n S w0 Q rest (E a ++ pe) (H a))
    (k : ∀ Q' : Exit → Act → World → Prop, (∀ a, p a → ∀ env hp, Sub (E a ++ pe) env → (∀ w, St S w0 hp w → St S w0 (H a) w) → TQ n S w0 Q' .normal env hp) → (∀ env hp, TQ n S w0 Q .ret env hp → TQ n S w0 Q' .ret env hp) → (∀ i env hp, TQ n S w0 Q (.exit i) env hp → TQ n S w0 Q' (.exit i) env hp) → TC P n S w0 Q' c env hp) : TC P n S w0 (ThenC P rest Q) c env hp :=
  k _ (fun a ha _ _ hE hH => d_then (c_sub hE hH (h a ha))) (fun _ _ h => d_then_ret h) (fun _ _ _ h => d_then_exit h)
theorem d_seq_join {α : Type} {c rest : Code} (p : α → Prop) (E : α → Env) (ks : List Nat) {pe : Env} (hk : Pick env ks pe) (H : α → List Asn) (h : ∀ a, p a → TC P n S w0 Q rest (E a ++ pe) (H a))
    (k : ∀ Q' : Exit → Act → World → Prop, (∀ a, p a → ∀ env hp, Sub (E a ++ pe) env → (∀ w, St S w0 hp w → St S w0 (H a) w) → TQ n S w0 Q' .normal env hp) → (∀ env hp, TQ n S w0 Q .ret env hp → TQ n S w0 Q' .ret env hp) → (∀ i env hp, TQ n S w0 Q (.exit i) env hp → TQ n S w0 Q' (.exit i) env hp) → TC P n S w0 Q' c env hp) : TC P n S w0 Q (.seq c rest) env hp :=
  d_seq (d_join p E ks hk H h k)
/-- The same, at the head of a block (a loop's, say). -/
theorem d_block_join {α : Type} {id : Nat} {c rest : Code} (p : α → Prop) (E : α → Env) (ks : List Nat) {pe : Env} (hk : Pick env ks pe) (H : α → List Asn) (h : ∀ a, p a → TC P n S w0 Q rest (E a ++ pe) (H a))
    (k : ∀ Q' : Exit → Act → World → Prop, (∀ a, p a → ∀ env hp, Sub (E a ++ pe) env → (∀ w, St S w0 hp w → St S w0 (H a) w) → TQ n S w0 Q' .normal env hp) → (∀ env hp, TQ n S w0 Q .ret env hp → TQ n S w0 Q' .ret env hp) → TC P n S w0 (Exit.inBlock id Q') c env hp) : TC P n S w0 (Exit.inBlock id (ThenC P rest Q)) c env hp :=
  k _ (fun a ha _ _ hE hH => d_then (c_sub hE hH (h a ha))) (fun _ _ h => d_then_ret h)
end
end Go.Proofs.Ytboccjdncdaakaa

/-
  Shifts; cap; append of zeros to nil.
-/

set_option linter.unusedVariables false
set_option maxRecDepth 100000
namespace Go.Proofs.Ytboccjdncdaakaa
open Go.RowKit
section
variable {P : Program} {n : Nat} {S : Nat → Prop} {w0 w : World} {Q : Exit → Act → World → Prop} {ops : Array Oper} {env : Env} {hp : List Asn}
variable {d : Nat} {ty : TypeId} {pos : String} {af : Array Edge} {g : Option (Nat × Bool)} {K : Act → World → Prop}
theorem q_shr {d : Option Nat} {t yt : TypeId} {x y : Operand} {k k' : IntKind} {m r : Int} {s : Nat} (hx : ev env x = some (.int k m)) (hy : ev env y = some (.int k' (s : Int))) (hr : m.fdiv (2 ^ (min s k.bits)) = r) : Qt P S w0 ⟨d, .binOp .shr t x y yt, ty, pos, af, g⟩ env hp (.int k r) := fun n a w hE hS => by
  have h0 : ¬ ((s : Int) < 0) := by omega
  simp [execOp, hE.ev hx, hE.ev hy, eqGuard, binOp, Op.shift, h0, hr]
theorem q_shl {d : Option Nat} {t yt : TypeId} {x y : Operand} {k k' : IntKind} {m r : Int} {s : Nat} (hx : ev env x = some (.int k m)) (hy : ev env y = some (.int k' (s : Int))) (hr : k.wrap (m * 2 ^ (min s k.bits)) = r) : Qt P S w0 ⟨d, .binOp .shl t x y yt, ty, pos, af, g⟩ env hp (.int k r) := fun n a w hE hS => by
  have h0 : ¬ ((s : Int) < 0) := by omega
  simp [execOp, hE.ev hx, hE.ev hy, eqGuard, binOp, Op.shift, h0, hr]
theorem q_cap (T : Tab P) {t e : TypeId} {d : Option Nat} {x : Operand} {A : Option Addr} {l c : Nat} (hx : ev env x = some (.slice A l c)) (ht : T.u t = some (.slice e)) : Qt P S w0 ⟨d, .call { callee := .builtin .cap, args := #[x], argTypes := #[t] }, ty, pos, af, g⟩ env hp (.int .i64 c) := fun n a w hE hS => by
  simp [execOp, resolve, invoke, builtin, hE.ev hx, Builtin.cap_, run_underlying (T.U ht), goInt]
theorem e_appZ (T : Tab P) {t tn e : TypeId} {x y : Operand} {bytes m : Nat} {z : Value} {kn : IntKind} {k : IntKind} (hd : Nat.blt d n = true) (hx : ev env x = some (.slice none 0 0)) (hy : ev env y = some (.int k m)) (hT : RowT T t e 1 bytes z) (htn : T.u tn = some (.int kn)) (h1 : z.oneCell' = true) (h0 : 0 < m) (h63 : m ≤ maxLen) (hb : m * bytes ≤ 140737488355328)
    (h : ∀ b c, m ≤ c → c ≤ maxLen → TK n S w0 K ((d, .slice (some ⟨b, 0, none⟩) m c) :: env) (row e 1 (.slice (some ⟨b, 0, none⟩) m c) m (List.replicate m z) :: hp)) : TO P n S w0 Q ⟨some d, .call { callee := .builtin .append, args := #[x, y], argTypes := #[t, tn] }, ty, pos, af, g⟩ K env hp := fun a w hE hS => by
  obtain ⟨ht0, hi0, hzs, hsz⟩ := hT
  obtain ⟨i, hi, hz, hsize, hby⟩ := T.I hi0
  have hmx : maxLen = 2 ^ 63 - 1 := rfl
  have hrun := Go.Lib.run_append_nil_zeros (P := P) w t tn ty e i z k kn (T.U ht0) (T.U htn) hi hz m h0 (by omega) (by omega) (by rw [hby]; omega)
  have hge := grownCap_ge w m 0 e
  have hle := grownCap_le_maxLen w m 0 e h63
  have hzc : z.cells = #[z] := by cases z <;> simp [Value.oneCell'] at h1 <;> rfl
  generalize grownCap w m 0 e = c at hrun hge hle
  have hcell : (Builtin.zeroCells z.cells m ++ Builtin.zeroCells z.cells (c - m)) = (List.replicate c z).toArray := by
    have hz1 : ∀ m : Nat, Builtin.zeroCells #[z] m = (List.replicate m z).toArray := fun m => by
      apply Array.toList_inj.1
      simp only [Builtin.zeroCells, Array.toList_map, Array.toList_range]
      have e1 : (#[z] : Array Value).size = 1 := rfl
      simp only [e1, Nat.mod_one, Nat.mul_one]
      rw [List.map_const']
      simp
    rw [hzc, hz1, hz1]
    apply Array.toList_inj.1
    simp only [Array.toList_append]
    rw [List.replicate_append_replicate]
    congr 1
    omega
  have hw : (w.drew.alloc (.cells (Builtin.zeroCells z.cells m ++ Builtin.zeroCells z.cells (c - m)) e)) = (w.drew.alloc (.cells (List.replicate c z).toArray e)) := by rw [hcell]
  have hnew : St S w0 (blk w.heap.size (List.replicate c z) e :: hp) (w.drew.alloc (.cells (List.replicate c z).toArray e)) := st_alloc hS.drew (List.replicate c z) e
  have hrow := hnew.see (i := 0) (Y := row e 1 (.slice (some ⟨w.heap.size, 0, none⟩) m c) m (List.replicate m z)) rfl (fun h => row_of_blk h 1 m c hge hle (by simp) (List.replicate m z) (by simp; omega)) (fun b hb => by injection hb with hb; exact hb.symm)
  have := h w.heap.size c hge hle _ _ (hE.put hd _) hrow
  unfold Oper.wp execOp
  simp only [resolve, invoke, builtin, Sem.run_bind, Sem.run_pure, Result.andThen_ok, List.map_toArray, List.map_cons, List.map_nil, hE.ev hx, hE.ev hy, hrun, hw]
  exact this
end
end Go.Proofs.Ytboccjdncdaakaa

/-
  Arrays of 8 and of 5 bytes, compared.
-/

set_option linter.unusedVariables false
set_option maxRecDepth 100000
namespace Go.Proofs.Ytboccjdncdaakaa
open Go.RowKit
section
variable {P : Program} {n : Nat} {S : Nat → Prop} {w0 w : World} {Q : Exit → Act → World → Prop} {ops : Array Oper} {env : Env} {hp hb hz : List Asn} {fuel N e : Nat} {dn : List Nat}
theorem ready_dep {j i : Nat} (hj : j ∈ Region.ready .any ops (lst N dn)) (hd : direct ops j i = true) (h0 : i < N) : dn.any (Nat.beq i) = true := by
  obtain ⟨_, oe, hoe, hall⟩ := mem_ready.1 hj
  unfold direct at hd
  rw [hoe] at hd
  simp only at hd
  obtain ⟨x, hx, hx2⟩ := Array.any_eq_true'.1 hd
  simp only [Bool.and_eq_true, Nat.beq_eq] at hx2
  have := hall x hx hx2.1
  rw [hx2.2] at this
  simp [lst, h0] at this
  exact List.any_eq_true.2 ⟨i, this, Nat.beq_refl i⟩
/-- It comes before operation e, by way of operation k. -/
theorem a_y2 (i k : Nat) {o : Oper} {d : Nat} {v : Value} (hi : ops[i]? = some o) (hni : dn.any (Nat.beq i) = false) (hg : o.guard = none) (hd : o.dst = some d) (hdn : Nat.blt d n = true) (hc : (chk ops N e dn i && direct ops e k && direct ops k i && Nat.blt k N && !(dn.any (Nat.beq e)) && !(dn.any (Nat.beq k))) = true) (hq : Qt P S w0 o env hb v) (h : TA P n S w0 Q ops N e hb hz fuel (i :: dn) ((d, v) :: env) hp) : TA P n S w0 Q ops N e hb hz (fuel + 1) dn env hp := fun hbz hH a w hE hS => by
  simp only [Bool.and_eq_true, Bool.not_eq_true', Nat.blt_eq] at hc
  obtain ⟨⟨⟨⟨⟨c1, c2⟩, c3⟩, c4⟩, c5⟩, c6⟩ := hc
  obtain ⟨h0, hie, h1, h2, h3⟩ := chk_spec c1
  refine wpX_take (v := v) hi h0 hie h1 qn_panic (fun dn' => dn'.any (Nat.beq e) = false ∧ dn'.any (Nat.beq k) = false) (fun dn' j hd' hni' hj hji => ⟨?_, ?_⟩) fuel dn a w h2 h3 hni ⟨c5, c6⟩ (.inl ⟨by simp [Region.wanted, hg], fun w' ⟨dn', _, he, hw'⟩ => hq n a w' hE (by unfold Sx at hw'; rw [he.1] at hw'; exact hw')⟩) (hH w hS) ?_
  · rw [List.any_cons, hd'.1, Bool.or_false]
    by_cases hej : e = j
    · exfalso
      subst hej
      have := ready_dep hj c2 c4
      rw [hd'.2] at this
      cases this
    · exact beq_ne hej
  · rw [List.any_cons, hd'.2, Bool.or_false]
    by_cases hej : k = j
    · exfalso
      subst hej
      have := ready_dep hj c3 h0
      rw [hni'] at this
      cases this
    · exact beq_ne hej
  · rw [hd]
    exact h hbz (sx_cons hie hH) _ w (hE.put hdn v) hS
/-- Its guard itself was not carried out. -/
theorem a_gu (i : Nat) {o : Oper} {d j t : Nat} {want : Bool} (hi : ops[i]? = some o) (hni : dn.any (Nat.beq i) = false) (hg : o.guard = some (j, want)) (hj : (ops[j]?).bind (·.dst) = some t) (hb_ : look env t = some undef) (hd : o.dst = some d) (hdn : Nat.blt d n = true) (hc : chk ops N e dn i = true) (h : TA P n S w0 Q ops N e hb hz fuel (i :: dn) ((d, undef) :: env) hp) : TA P n S w0 Q ops N e hb hz (fuel + 1) dn env hp := fun hbz hH a w hE hS => by
  obtain ⟨h0, hie, h1, h2, h3⟩ := chk_spec hc
  have hy : yielded ops a.tmps j = none := by
    have := hE.at_ t _ hb_
    simp [yielded, hj, this, undef]
  refine wpX_take (v := undef) hi h0 hie h1 qn_panic (fun _ => True) (fun _ _ _ _ _ _ => trivial) fuel dn a w h2 h3 hni trivial (.inr ⟨by simp [Region.wanted, hg, hy], rfl⟩) (hH w hS) ?_
  rw [hd]
  exact h hbz (sx_cons hie hH) _ w (hE.put hdn undef) hS
end
section
variable {P : Program} {S : Nat → Prop} {w0 : World} {env : Env} {hp : List Asn} {d : Option Nat} {ty : TypeId} {pos : String} {af : Array Edge} {g : Option (Nat × Bool)}
/-- A slice of an array, from its head. -/
theorem q_arHi (T : Tab P) {t e : TypeId} {x hi : Operand} {b o n : Nat} {k' : IntKind} {h : Nat} {z : Value} {sz y : Nat} (hx : ev env x = some (.pointer (some ⟨b, o, none⟩))) (hh : ev env hi = some (.int k' (h : Int))) (ht : T.u t = some (.array n e)) (hz : T.i e = some (z, sz, y)) (hb : h ≤ n) (hn : 0 < n) :
    Qt P S w0 ⟨d, .slice t x none (some hi) none, ty, pos, af, g⟩ env hp (.slice (some ⟨b, o, none⟩) h n) := fun m a w hE hS => by
  have h2 : (h : Int) ≤ (n : Int) := by omega
  have h3 : ¬ n = 0 := by omega
  simp [execOp, hE.ev hx, hE.ev hh, Instr.sliceAt, Instr.slice, run_underlying (T.U ht), Instr.sliceBounds, run_sliceBound, h2, h3, T.size hz, Instr.sureAddr, Addr.add_lit]
theorem q_arAll (T : Tab P) {t e : TypeId} {x : Operand} {b o n : Nat} {z : Value} {sz y : Nat} (hx : ev env x = some (.pointer (some ⟨b, o, none⟩))) (ht : T.u t = some (.array n e)) (hz : T.i e = some (z, sz, y)) (hn : 0 < n) :
    Qt P S w0 ⟨d, .slice t x none none none, ty, pos, af, g⟩ env hp (.slice (some ⟨b, o, none⟩) n n) := fun m a w hE hS => by
  have h3 : ¬ n = 0 := by omega
  simp [execOp, hE.ev hx, Instr.sliceAt, Instr.slice, run_underlying (T.U ht), Instr.sliceBounds, run_sliceBound, h3, T.size hz, Instr.sureAddr, Addr.add_lit]
end
theorem t_ret3h {P : Program} {n : Nat} {env : Env} {hp hp' : List Asn} {fn : Func} {w : World} {A : List Asn} {R : Value → List Asn → Prop} {r : ResultVar} {t t' : Nat} {v v' u : Value} (hr : fn.results = #[.tmp t, r, .tmp t']) (hu : look env t = some u) (hv : resOf P env hp (fps A) w r v) (hv' : look env t' = some v') (hH : ∀ w', St (fps A) w hp w' → St (fps A) w hp' w') (h : R (.tuple #[u, v, v']) hp') : TQ n (fps A) w (bodyPost P fn (Ret w A R)) .ret env hp := fun a w' hE hS => by
  refine ⟨hE.defers, _, ?_, _, _, rfl, h, hH w' hS⟩
  have h2 := hE.at_ t' v' hv'
  have h3 := hE.at_ t u hu
  cases r with
  | tmp t => have h1 := hE.at_ t v hv; simp [results, hr, h1, h2, h3]
  | cell q t =>
    obtain ⟨ad, h1, h1'⟩ := hv
    have h1 := hE.at_ q _ h1
    simp [results, hr, h1, asAddr, h1' w' hS, h2, h3]
theorem eqA8 (a b c d e f g h : Int) (w : World) : (Op.equalIn 10000 85 (.agg #[.int .u8 a, .int .u8 b, .int .u8 c, .int .u8 d, .int .u8 e, .int .u8 f, .int .u8 g, .int .u8 h]) (.agg #[.int .u8 a, .int .u8 b, .int .u8 c, .int .u8 d, .int .u8 e, .int .u8 f, .int .u8 g, .int .u8 h])).run Try.prog w = .ok true w := by
  have u3 := Try.underlying5
  have a3 := Try.isAgg5
  have z3 := Try.sizeOf5
  rw [show (10000 : Nat) = 9999 + 1 from rfl, Op.equalIn]
  simp only [Sem.run_bind, run_underlying Try.underlying85, Result.andThen_ok]
  simp only [Std.Legacy.Range.forIn_eq_forIn_range', Std.Legacy.Range.size, Nat.sub_zero, Nat.add_sub_cancel, Nat.div_one, List.range'_succ, List.range'_zero, List.forIn_cons, List.forIn_nil]
  go_simp
theorem eqA5 (a b c d e a' b' c' d' e' : Int) (w : World) : (Op.equalIn 10000 57 (.agg #[.int .u8 a, .int .u8 b, .int .u8 c, .int .u8 d, .int .u8 e]) (.agg #[.int .u8 a', .int .u8 b', .int .u8 c', .int .u8 d', .int .u8 e'])).run Try.prog w = .ok (a == a' && (b == b' && (c == c' && (d == d' && e == e')))) w := by
  have u3 := Try.underlying5
  have a3 := Try.isAgg5
  have z3 := Try.sizeOf5
  rw [show (10000 : Nat) = 9999 + 1 from rfl, Op.equalIn]
  simp only [Sem.run_bind, run_underlying Try.underlying57, Result.andThen_ok]
  simp only [Std.Legacy.Range.forIn_eq_forIn_range', Std.Legacy.Range.size, Nat.sub_zero, Nat.add_sub_cancel, Nat.div_one, List.range'_succ, List.range'_zero, List.forIn_cons, List.forIn_nil]
  go_simp
  by_cases h1 : a = a' <;> by_cases h2 : b = b' <;> by_cases h3 : c = c' <;> by_cases h4 : d = d' <;> by_cases h5 : e = e' <;> simp [h1, h2, h3, h4, h5]
section
variable {n : Nat} {S : Nat → Prop} {w0 w : World} {Q : Exit → Act → World → Prop} {ops : Array Oper} {env : Env} {hp : List Asn}
variable {ty : TypeId} {pos : String} {af : Array Edge} {g : Option (Nat × Bool)}
theorem q_eqA8 {d : Option Nat} {yt : TypeId} {x y : Operand} {b0 b1 b2 b3 b4 b5 b6 b7 : Int} (hx : ev env x = some (.agg #[.int .u8 b0, .int .u8 b1, .int .u8 b2, .int .u8 b3, .int .u8 b4, .int .u8 b5, .int .u8 b6, .int .u8 b7])) (hy : ev env y = some (.agg #[.int .u8 b0, .int .u8 b1, .int .u8 b2, .int .u8 b3, .int .u8 b4, .int .u8 b5, .int .u8 b6, .int .u8 b7])) : Qt Try.prog S w0 ⟨d, .binOp .eql 85 x y yt, ty, pos, af, g⟩ env hp (.bool true) := fun n a1 w hE hS => by
  have h1 := eqA8 b0 b1 b2 b3 b4 b5 b6 b7 w
  have h2 : (eqGuard .eql 85 x y (.agg #[.int .u8 b0, .int .u8 b1, .int .u8 b2, .int .u8 b3, .int .u8 b4, .int .u8 b5, .int .u8 b6, .int .u8 b7]) (.agg #[.int .u8 b0, .int .u8 b1, .int .u8 b2, .int .u8 b3, .int .u8 b4, .int .u8 b5, .int .u8 b6, .int .u8 b7])).run Try.prog w = .ok () w := run_eqGuard_agg _ _ _ _ _ _ _ (by kernel_rfl)
  have h3 := run_eql_struct (P := Try.prog) (w := w) 85 #[.int .u8 b0, .int .u8 b1, .int .u8 b2, .int .u8 b3, .int .u8 b4, .int .u8 b5, .int .u8 b6, .int .u8 b7] #[.int .u8 b0, .int .u8 b1, .int .u8 b2, .int .u8 b3, .int .u8 b4, .int .u8 b5, .int .u8 b6, .int .u8 b7]
  rw [h1] at h3
  simp [execOp, hE.ev hx, hE.ev hy, h2, h3]
theorem q_eqA5 {d : Option Nat} {yt : TypeId} {x y : Operand} {a b c e f a' b' c' e' f' : Int} (hx : ev env x = some (.agg #[.int .u8 a, .int .u8 b, .int .u8 c, .int .u8 e, .int .u8 f])) (hy : ev env y = some (.agg #[.int .u8 a', .int .u8 b', .int .u8 c', .int .u8 e', .int .u8 f'])) : Qt Try.prog S w0 ⟨d, .binOp .eql 57 x y yt, ty, pos, af, g⟩ env hp (.bool (a == a' && (b == b' && (c == c' && (e == e' && f == f'))))) := fun n a1 w hE hS => by
  have h1 := eqA5 a b c e f a' b' c' e' f' w
  have h2 : (eqGuard .eql 57 x y (.agg #[.int .u8 a, .int .u8 b, .int .u8 c, .int .u8 e, .int .u8 f]) (.agg #[.int .u8 a', .int .u8 b', .int .u8 c', .int .u8 e', .int .u8 f'])).run Try.prog w = .ok () w := run_eqGuard_agg _ _ _ _ _ _ _ (by kernel_rfl)
  have h3 := run_eql_struct (P := Try.prog) (w := w) 57 #[.int .u8 a, .int .u8 b, .int .u8 c, .int .u8 e, .int .u8 f] #[.int .u8 a', .int .u8 b', .int .u8 c', .int .u8 e', .int .u8 f']
  rw [h1] at h3
  simp [execOp, hE.ev hx, hE.ev hy, h2, h3]
theorem q_neA5 {d : Option Nat} {yt : TypeId} {x y : Operand} {a b c e f a' b' c' e' f' : Int} (hx : ev env x = some (.agg #[.int .u8 a, .int .u8 b, .int .u8 c, .int .u8 e, .int .u8 f])) (hy : ev env y = some (.agg #[.int .u8 a', .int .u8 b', .int .u8 c', .int .u8 e', .int .u8 f'])) : Qt Try.prog S w0 ⟨d, .binOp .neq 57 x y yt, ty, pos, af, g⟩ env hp (.bool (!(a == a' && (b == b' && (c == c' && (e == e' && f == f')))))) := fun n a1 w hE hS => by
  have h1 := eqA5 a b c e f a' b' c' e' f' w
  have h2 : (eqGuard .neq 57 x y (.agg #[.int .u8 a, .int .u8 b, .int .u8 c, .int .u8 e, .int .u8 f]) (.agg #[.int .u8 a', .int .u8 b', .int .u8 c', .int .u8 e', .int .u8 f'])).run Try.prog w = .ok () w := run_eqGuard_agg _ _ _ _ _ _ _ (by kernel_rfl)
  have h3 := run_neq_struct (P := Try.prog) (w := w) 57 #[.int .u8 a, .int .u8 b, .int .u8 c, .int .u8 e, .int .u8 f] #[.int .u8 a', .int .u8 b', .int .u8 c', .int .u8 e', .int .u8 f']
  rw [h1] at h3
  simp [execOp, hE.ev hx, hE.ev hy, h2, h3]
end
end Go.Proofs.Ytboccjdncdaakaa

/-
  Layer 17: commands as values; small, great, table, may, walked.
-/

set_option linter.unusedVariables false
set_option maxRecDepth 100000
namespace Go.Proofs.Ytboccjdncdaakaa
open Go.RowKit
attribute [local irreducible] TL TC TQ TK TO Qt TA
/-- A command without bytes. -/
structure CmdV where
  code : Nat
  a0 : Nat
  a1 : Nat
  a2 : Nat
  a3 : Nat
  a4 : Nat
  w : Nat
def cmdC (c : CmdV) : List Value := [.int .u8 c.code, .int .u8 c.a0, .int .u8 c.a1, .int .u8 c.a2, .int .u8 c.a3, .int .u8 c.a4, .int .u32 c.w, .slice none 0 0]
theorem len_cmdC (c : CmdV) : (cmdC c).length = 8 := rfl
structure CmdV.Ok (c : CmdV) : Prop where
  code : c.code ≤ 255
  a0 : c.a0 ≤ 255
  a1 : c.a1 ≤ 255
  a2 : c.a2 ≤ 255
  a3 : c.a3 ≤ 255
  a4 : c.a4 ≤ 255
  w : c.w ≤ 4294967295
def uv (l : List Nat) : List Value := l.map fun (x : Nat) => Value.int .u8 (x : Int)
theorem uv_len (l : List Nat) : (uv l).length = l.length := by simp [uv]
theorem uv_one (l : List Nat) : ∀ u ∈ uv l, u.oneCell' = true := fun u hu => by
  obtain ⟨x, _, rfl⟩ := List.mem_map.1 hu
  rfl
def smC (code : Nat) (l : List Nat) : CmdV := ⟨code, l.getD 0 0, l.getD 1 0, l.getD 2 0, l.getD 3 0, l.getD 4 0, 0⟩
def grC (code w : Nat) (l : List Nat) : CmdV := ⟨code, l.getD 0 0, l.getD 1 0, l.getD 2 0, l.getD 3 0, l.getD 4 0, w⟩
theorem set_sm {code : Nat} : ∀ {l : List Nat}, l.length ≤ 5 → setAt [.int .u8 code, .int .u8 0, .int .u8 0, .int .u8 0, .int .u8 0, .int .u8 0, .int .u32 0, .slice none 0 0] 1 (uv l) = cmdC (smC code l)
  | [], _ => rfl
  | [_], _ => rfl
  | [_, _], _ => rfl
  | [_, _, _], _ => rfl
  | [_, _, _, _], _ => rfl
  | [_, _, _, _, _], _ => rfl
  | _ :: _ :: _ :: _ :: _ :: _ :: _, h => by simp at h
theorem uv_nil (w : World) : Ro (fps []) w (roV none 0 (uv [])) := Ro.empty ⟨rfl, fun h => by omega⟩
theorem uv_blk {b : Nat} {t : TypeId} {l : List Nat} {w : World} (h : (blk b (uv l) t).C w) : Ro (fps []) w (roV (some ⟨b, 0, none⟩) l.length (uv l)) := Ro.empty (roV_blk h (uv_len l))
attribute [local irreducible] blk row bytesA starL memA segA roB
set_option maxHeartbeats 4000000 in
theorem spsmall_spec (code : Nat) (l : List Nat) (A : Option Addr) (n c : Nat) (w : World) (hn : n ≤ 5) (hr : Ro (fps []) w (roV A n (uv l))) : Calls Try.prog 27 #[.int .u8 code, .slice A n c] w (Ret w [] fun v B => v = .agg (cmdC (smC code l)).toArray ∧ B = []) := by
  have hl : l.length = n := by rw [← uv_len]; exact hr.is.1
  refine enter (vs := [.int .u8 code, .slice A n c]) Try.func27 rfl Try.ntmps27 rfl (Hold.nil w) ?_
  (repeat (first | (refine i_dst ?_; (first | (refine i_move ?_; refine l_q rfl rfl rfl (q_move rfl) ?_) | (refine i_alloc ?_; (refine l_allocA tab rfl rfl (fun _ => ?_))) | (refine l_q rfl rfl rfl (by (first | (apply iq_fld; (exact q_fieldAddr tab rfl rfl rfl rfl rfl rfl rfl)) | (apply iq_bld; ((exact q_bld tab rfl rfl rfl (by first | ((repeat (first | exact FillR.nil | exact LSets.nil | exact LSet.zero | exact CellsOf.agg | exact rfl | exact CellsOf.one rfl | apply FillR.cons | apply LSets.cons | apply LSet.succ)); done) | fail) (fun w => by kernel_rfl)))))) ?_))) | refine d_seq ?_ | refine c_region ?_ | refine l_nil ?_ | (refine i_q ?_; (refine d_then ?_)) | (refine i_store ?_; ((refine l_setN tab rfl rfl rfl rfl (List.cons_ne_nil _ _) rfl (by first | ((repeat (first | exact Upd.head | apply Upd.tail)); done) | fail) (by first | ((repeat (first | exact LSets.nil | exact LSet.zero | apply LSets.cons | apply LSet.succ)); done) | fail) ?_)))))
  refine i_dst (l_q rfl rfl rfl (q_arAll tab rfl rfl rfl (by omega)) ?_)
  (repeat ((refine i_dst ?_; ((refine i_move ?_; refine l_q rfl rfl rfl (q_move rfl) ?_)))))
  refine l_op rfl (fun K hK => e_copy tab (i := 0) (news := uv l) rfl rfl rfl rfl rfl rfl (by simp) (fun w h => roV_src (h.ro hr)) (uv_one l) (hK _ _ ?_))
  clear hK
  have hset := set_sm (code := code) (l := l) (by omega)
  rename_i b4 b5
  refine l_hp (hp' := [blk b5 (cmdC (smC code l)) 59, blk b4 [.int .u8 0, .int .u8 0, .int .u8 0, .int .u8 0, .int .u8 0, .int .u8 0, .int .u32 0, .slice none 0 0] 59]) (fun w h => by
    rw [← hset]
    rw [List.take_of_length_le (by rw [uv_len]; omega)] at h
    exact h.psub (by first | ((repeat (first | exact PSub.nil | exact Ext.head | apply Ext.tail | apply PSub.cons)); done) | fail)) ?_
  simp only [cmdC]
  (repeat (first | (refine i_dst ?_; ((refine i_load ?_; refine l_q rfl rfl rfl (by ((exact q_ldN tab rfl rfl rfl rfl (by first | ((repeat (first | exact List.Mem.head _ | apply List.Mem.tail)); done) | fail) (by first | ((repeat (first | exact TakeR.nil | apply TakeR.cons | apply CutR.zero | apply CutR.skip)); done) | fail)))) ?_))) | refine d_seq ?_ | refine c_region ?_ | refine l_nil ?_ | (refine i_q ?_; (refine d_then ?_)) | refine c_ret ?_ | (refine i_store ?_; ((refine l_setN tab rfl rfl rfl rfl (List.cons_ne_nil _ _) rfl (by first | ((repeat (first | exact Upd.head | apply Upd.tail)); done) | fail) (by first | ((repeat (first | exact LSets.nil | exact LSet.zero | apply LSets.cons | apply LSet.succ)); done) | fail) ?_)))))
  exact t_ret1h (hp' := []) Try.results27 (res_cell (l := cmdC (smC code l)) tab 1 rfl rfl rfl rfl rfl rfl) (fun w h => h.psub (by first | ((repeat (first | exact PSub.nil | exact Ext.head | apply Ext.tail | apply PSub.cons)); done) | fail)) ⟨rfl, rfl⟩

set_option maxHeartbeats 4000000 in
theorem spgreat_spec (code w32 : Nat) (hw32 : w32 ≤ 4294967295) (l : List Nat) (A : Option Addr) (n c : Nat) (w : World) (hn : n ≤ 5) (hr : Ro (fps []) w (roV A n (uv l))) : Calls Try.prog 31 #[.int .u8 code, .int .u32 w32, .slice A n c] w (Ret w [] fun v B => v = .agg (cmdC (grC code w32 l)).toArray ∧ B = []) := by
  refine enter (vs := [.int .u8 code, .int .u32 w32, .slice A n c]) Try.func31 rfl Try.ntmps31 rfl (Hold.nil w) ?_
  (repeat (first | (refine i_dst ?_; (first | (refine i_move ?_; refine l_q rfl rfl rfl (q_move rfl) ?_) | (refine i_alloc ?_; (refine l_allocA tab rfl rfl (fun _ => ?_))))) | refine d_seq ?_ | refine c_region ?_ | refine l_nil ?_ | (refine i_q ?_; (refine d_then ?_))))
  (refine l_call0 rfl rfl Try.func27 rfl (by decide) (fun w' h => spsmall_spec code l A n c w' hn (roOf0 h hr)) (fun v B hv => ?_); obtain ⟨rfl, rfl⟩ := hv)
  simp only [cmdC]
  (repeat (first | (refine i_dst ?_; (first | (refine i_move ?_; refine l_q rfl rfl rfl (q_move rfl) ?_) | (refine i_load ?_; refine l_q rfl rfl rfl (by ((exact q_ldN tab rfl rfl rfl rfl (by first | ((repeat (first | exact List.Mem.head _ | apply List.Mem.tail)); done) | fail) (by first | ((repeat (first | exact TakeR.nil | apply TakeR.cons | apply CutR.zero | apply CutR.skip)); done) | fail)))) ?_) | (refine i_alloc ?_; (refine l_allocA tab rfl rfl (fun _ => ?_))) | (refine l_q rfl rfl rfl (by ((apply iq_fld; (exact q_fieldAddr tab rfl rfl rfl rfl rfl rfl rfl)))) ?_))) | refine d_seq ?_ | refine c_region ?_ | refine l_nil ?_ | (refine i_q ?_; (refine d_then ?_)) | refine c_ret ?_ | (refine i_store ?_; (first | (refine l_set tab rfl rfl rfl rfl (by first | ((repeat (first | exact Upd.head | apply Upd.tail)); done) | fail) (by first | ((repeat (first | exact LSet.zero | apply LSet.succ)); done) | fail) ?_) | (refine l_setN tab rfl rfl rfl rfl (List.cons_ne_nil _ _) rfl (by first | ((repeat (first | exact Upd.head | apply Upd.tail)); done) | fail) (by first | ((repeat (first | exact LSets.nil | exact LSet.zero | apply LSets.cons | apply LSet.succ)); done) | fail) ?_)))))
  exact t_ret1h (hp' := []) Try.results31 (res_cell (l := cmdC (grC code w32 l)) tab 1 rfl rfl rfl rfl rfl rfl) (fun w h => h.psub (by first | ((repeat (first | exact PSub.nil | exact Ext.head | apply Ext.tail | apply PSub.cons)); done) | fail)) ⟨rfl, rfl⟩

set_option maxHeartbeats 4000000 in
theorem sptable_spec {A : Option Addr} {n c : Nat} {t : List EntryI} {w : World} (h : InS (fps []) w 3 InEntry A n t) (hn : n ≤ 1000) :
    Calls Try.prog 39 #[.slice A n c] w (Ret w [] fun v B => ∃ b, v = .bool b ∧ B = []) := by
  refine enter (vs := [.slice A n c]) Try.func39 rfl Try.ntmps39 rfl (Hold.nil w) ?_
  (repeat (first | (refine i_dst ?_; (first | (refine i_move ?_; refine l_q rfl rfl rfl (q_move rfl) ?_) | (refine i_assign ?_; refine l_q rfl rfl rfl (q_assign rfl) ?_) | (refine i_blt ?_; refine l_q rfl rfl rfl (by (exact q_len tab rfl rfl)) ?_))) | refine d_seq ?_ | refine c_region ?_ | refine l_nil ?_ | refine c_block ?_ | (refine i_q ?_; (refine d_then ?_))))
  refine d_loop (T := Nat × Nat) [0, 6, 7] (fun k => [(3, .int .i64 k.2), (8, .int .i64 k.1)]) [] (fun _ => []) (fun k => k.1 ≤ n ∧ k.2 ≤ 255 * k.1) (fun k => n - k.1) (0, 0) (by first | ((repeat (first | exact Pick.nil | exact rfl | apply Pick.cons)); done) | fail) ⟨Nat.zero_le _, Nat.le_refl _⟩ (by first | ((repeat (first | exact trivial | exact rfl | apply Sub.cons | exact look_int rfl (by omega) | exact look_int rfl (by simp) | exact look_int rfl (by simp; omega))); done) | fail) (fun w h => h) ?_
  rintro ⟨k, s⟩ ⟨hk, hs⟩
  dsimp only at hk hs ⊢
  by_cases hlt : k < n
  · obtain ⟨e, he⟩ : ∃ e, t[k]? = some e := ⟨_, List.getElem?_eq_getElem (by rw [h.len]; exact hlt)⟩
    obtain ⟨b, o, r, rfl, hrl, ⟨rfl, e1, e2, e3⟩, hcell⟩ := h.get (by omega) he
    by_cases hz : e.size = 0
    · (repeat (first | (refine i_dst ?_; (first | (refine i_assign ?_; refine l_q rfl rfl rfl (q_assign rfl) ?_) | (refine i_load ?_; refine l_q rfl rfl rfl (by (first | (exact q_ld1 tab rfl rfl rfl (by first | ((repeat (first | exact List.Mem.head _ | apply List.Mem.tail)); done) | fail) (by (rfl))) | exact q_ldcN tab rfl rfl rfl rfl (by assumption) rfl)) ?_) | (refine i_bin ?_; refine l_q rfl rfl rfl (by (first | exact q_lss rfl rfl | exact q_eql rfl rfl)) ?_) | (refine i_ix ?_; refine l_q rfl rfl rfl (by (exact q_indexAddr tab rfl rfl rfl rfl (by omega))) ?_) | (refine i_alloc ?_; (refine l_allocA tab rfl rfl (fun _ => ?_))) | (refine l_q rfl rfl rfl (by ((apply iq_fld; (exact q_fieldAddr tab rfl rfl rfl rfl rfl rfl rfl)))) ?_))) | refine d_seq ?_ | refine c_region ?_ | refine l_nil ?_ | refine c_block ?_ | (refine i_q ?_; (first | refine d_then ?_ | refine d_then_ret ?_ | refine t_then_ret ?_ | refine t_block_ret ?_)) | refine c_skip ?_ | refine c_ret ?_ | (refine i_store ?_; ((refine l_setN tab rfl rfl rfl rfl (List.cons_ne_nil _ _) rfl (by first | ((repeat (first | exact Upd.head | apply Upd.tail)); done) | fail) (by first | ((repeat (first | exact LSets.nil | exact LSet.zero | apply LSets.cons | apply LSet.succ)); done) | fail) ?_))) | (refine i_cond ?_; (refine c_ct rfl (by (exact decide_eq_true (by omega))) ?_))))
      exact t_hp (hp' := []) (fun w h => h.psub (by first | ((repeat (first | exact PSub.nil | exact Ext.head | apply Ext.tail | apply PSub.cons)); done) | fail)) (t_ret1 Try.results39 rfl ⟨false, rfl, rfl⟩)
    · (repeat (first | (refine i_dst ?_; (first | (refine i_move ?_; refine l_q rfl rfl rfl (q_move rfl) ?_) | (refine i_assign ?_; refine l_q rfl rfl rfl (q_assign rfl) ?_) | (refine i_load ?_; refine l_q rfl rfl rfl (by (first | (exact q_ld1 tab rfl rfl rfl (by first | ((repeat (first | exact List.Mem.head _ | apply List.Mem.tail)); done) | fail) (by (rfl))) | exact q_ldcN tab rfl rfl rfl rfl (by assumption) rfl)) ?_) | (refine i_bin ?_; refine l_q rfl rfl rfl (by (first | exact q_lss rfl rfl | exact q_eql rfl rfl | exact q_add rfl rfl (by (exact wr_i64 (by omega))))) ?_) | (refine i_ix ?_; refine l_q rfl rfl rfl (by (exact q_indexAddr tab rfl rfl rfl rfl (by omega))) ?_) | (refine i_alloc ?_; (refine l_allocA tab rfl rfl (fun _ => ?_))) | (refine l_q rfl rfl rfl (by (first | (apply iq_fld; (exact q_fieldAddr tab rfl rfl rfl rfl rfl rfl rfl)) | (apply iq_cv; (exact q_conv tab rfl rfl rfl (by (exact wr_i64 (by omega))))))) ?_))) | refine d_seq ?_ | refine c_region ?_ | refine l_nil ?_ | refine c_block ?_ | (refine i_q ?_; (first | refine d_then ?_ | refine t_then ?_ | refine t_block ?_)) | refine c_skip ?_ | (refine i_store ?_; ((refine l_setN tab rfl rfl rfl rfl (List.cons_ne_nil _ _) rfl (by first | ((repeat (first | exact Upd.head | apply Upd.tail)); done) | fail) (by first | ((repeat (first | exact LSets.nil | exact LSet.zero | apply LSets.cons | apply LSet.succ)); done) | fail) ?_))) | (refine i_cond ?_; (first | refine c_ct rfl (by (exact decide_eq_true (by omega))) ?_ | refine c_cf rfl (by (exact decide_eq_false (by omega))) ?_))))
      exact k_again (k + 1, s + e.size) ⟨by dsimp only; omega, by dsimp only; omega⟩ (by dsimp only; omega) (by first | ((repeat (first | exact trivial | exact rfl | apply Sub.cons | exact look_int rfl (by omega) | exact look_int rfl (by simp) | exact look_int rfl (by simp; omega))); done) | fail) (fun w h => h.subl (by first | ((repeat (first | exact SubL.nil | apply SubL.keep | apply SubL.skip)); done) | fail))
  · have hkn : k = n := by omega
    subst hkn
    by_cases h1 : 1 ≤ k
    · by_cases h7 : k ≤ 7
      · (repeat (first | (refine i_dst ?_; (first | (refine i_move ?_; refine l_q rfl rfl rfl (q_move rfl) ?_) | (refine i_assign ?_; refine l_q rfl rfl rfl (q_assign rfl) ?_) | (refine i_bin ?_; refine l_q rfl rfl rfl (by (first | exact q_lss rfl rfl | exact q_geq rfl rfl | exact q_leq rfl rfl)) ?_) | (refine i_blt ?_; refine l_q rfl rfl rfl (by (exact q_len tab rfl rfl)) ?_) | refine l_q rfl rfl rfl (by (exact q_pick_t rfl rfl)) ?_)) | refine d_seq ?_ | refine c_region ?_ | refine l_nil ?_ | (refine i_q ?_; (first | refine d_then ?_ | refine d_then_exit ?_ | refine t_then_exit ?_ | refine t_block_eq rfl ?_)) | refine c_exit ?_ | refine c_ret ?_ | (refine i_guard ?_; (first | refine l_gt rfl rfl rfl ?_ | refine l_gtd rfl rfl rfl (by (exact decide_eq_true (by omega))) ?_)) | (refine i_cond ?_; ((refine c_cf rfl (by (((first | (simp; done) | fail)))) ?_)))))
        exact t_hp (hp' := []) (fun w h => h.psub (by first | ((repeat (first | exact PSub.nil | exact Ext.head | apply Ext.tail | apply PSub.cons)); done) | fail)) (t_ret1 Try.results39 rfl ⟨_, rfl, rfl⟩)
      · (repeat (first | (refine i_dst ?_; (first | (refine i_move ?_; refine l_q rfl rfl rfl (q_move rfl) ?_) | (refine i_assign ?_; refine l_q rfl rfl rfl (q_assign rfl) ?_) | (refine i_bin ?_; refine l_q rfl rfl rfl (by (first | exact q_lss rfl rfl | exact q_geq rfl rfl | exact q_leq rfl rfl)) ?_) | (refine i_blt ?_; refine l_q rfl rfl rfl (by (exact q_len tab rfl rfl)) ?_) | refine l_q rfl rfl rfl (by (first | exact q_pick_t rfl rfl | exact q_pick_f rfl rfl)) ?_)) | refine d_seq ?_ | refine c_region ?_ | refine l_nil ?_ | (refine i_q ?_; (first | refine d_then ?_ | refine d_then_exit ?_ | refine t_then_exit ?_ | refine t_block_eq rfl ?_)) | refine c_exit ?_ | refine c_ret ?_ | (refine i_guard ?_; (first | refine l_gt rfl rfl rfl ?_ | refine l_gf rfl rfl rfl rfl rfl rfl ?_ | refine l_gtd rfl rfl rfl (by (exact decide_eq_true (by omega))) ?_ | refine l_gfd rfl rfl rfl (by (exact decide_eq_false (by omega))) rfl rfl ?_)) | (refine i_cond ?_; ((refine c_cf rfl (by (((first | (simp; done) | fail)))) ?_)))))
        exact t_hp (hp' := []) (fun w h => h.psub (by first | ((repeat (first | exact PSub.nil | exact Ext.head | apply Ext.tail | apply PSub.cons)); done) | fail)) (t_ret1 Try.results39 rfl ⟨_, rfl, rfl⟩)
    · (repeat (first | (refine i_dst ?_; (first | (refine i_move ?_; refine l_q rfl rfl rfl (q_move rfl) ?_) | (refine i_assign ?_; refine l_q rfl rfl rfl (q_assign rfl) ?_) | (refine i_bin ?_; refine l_q rfl rfl rfl (by (first | exact q_lss rfl rfl | exact q_geq rfl rfl)) ?_) | (refine i_blt ?_; refine l_q rfl rfl rfl (by (exact q_len tab rfl rfl)) ?_) | refine l_q rfl rfl rfl (by (exact q_pick_f rfl rfl)) ?_)) | refine d_seq ?_ | refine c_region ?_ | refine l_nil ?_ | (refine i_q ?_; (first | refine d_then ?_ | refine d_then_exit ?_ | refine t_then_exit ?_ | refine t_block_eq rfl ?_)) | refine c_exit ?_ | refine c_ret ?_ | (refine i_guard ?_; (first | refine l_gf rfl rfl rfl rfl rfl rfl ?_ | refine l_gfd rfl rfl rfl (by (exact decide_eq_false (by omega))) rfl rfl ?_)) | (refine i_cond ?_; ((refine c_cf rfl (by (((first | (simp; done) | fail)))) ?_)))))
      exact t_hp (hp' := []) (fun w h => h.psub (by first | ((repeat (first | exact PSub.nil | exact Ext.head | apply Ext.tail | apply PSub.cons)); done) | fail)) (t_ret1 Try.results39 rfl ⟨_, rfl, rfl⟩)

set_option maxHeartbeats 4000000 in
theorem spmay1_spec {A : Option Addr} {n c : Nat} {t : List EntryI} {w : World} (h : InS (fps []) w 3 InEntry A n t) (hn : n ≤ 1000) :
    Calls Try.prog 38 #[.slice A n c] w (Ret w [] fun v B => ∃ b, v = .bool b ∧ B = []) := by
  refine enter (vs := [.slice A n c]) Try.func38 rfl Try.ntmps38 rfl (Hold.nil w) ?_
  have hq := h
  clear h
  (repeat (first | (refine i_dst ?_; (first | (refine i_move ?_; refine l_q rfl rfl rfl (q_move rfl) ?_) | (refine i_assign ?_; refine l_q rfl rfl rfl (q_assign rfl) ?_))) | refine d_seq ?_ | refine c_region ?_ | refine l_nil ?_ | (refine i_q ?_; (refine d_then ?_))))
  (refine l_call0 rfl rfl Try.func39 rfl (by decide) (fun w' h => sptable_spec (hq.to (fun r hr => roOf0 h hr) (fun _ _ hx => hx)) hn) (fun v B hv => ?_); obtain ⟨b, rfl, rfl⟩ := hv)
  (repeat (first | (refine i_dst ?_; (first | (refine i_assign ?_; refine l_q rfl rfl rfl (q_assign rfl) ?_) | refine l_q rfl rfl rfl (by (exact q_not rfl)) ?_)) | refine l_nil ?_ | (refine i_q ?_; (refine d_then ?_)) | refine c_ret ?_))
  exact t_hp (hp' := []) (fun w h => h.psub (by first | ((repeat (first | exact PSub.nil | exact Ext.head | apply Ext.tail | apply PSub.cons)); done) | fail)) (t_ret1 Try.results38 rfl ⟨_, rfl, rfl⟩)
end Go.Proofs.Ytboccjdncdaakaa

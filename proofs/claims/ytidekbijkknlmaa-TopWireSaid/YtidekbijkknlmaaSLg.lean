/-
  Maps: what is known of one, and the operations make, lookup and update.
-/
import Derived.Test.YtidekbijkknlmaaSLf
import Derived.MapKept
set_option linter.unusedVariables false
set_option maxRecDepth 100000
namespace Go.Proofs.Ytidekbijkknlmaa
open Go.RowKit Go.MapKept
open Classical in
/-- What stands under a key. -/
noncomputable def mg : List MapEntry → Value → Option Value
  | [], _ => none
  | e :: es, k => if e.key = k then some e.val else mg es k
theorem find_mg {d : TypeDesc} {k : Value} (hk : IsKey d k) : ∀ (l : List MapEntry) (i : Nat), (∀ x ∈ l, IsKey d x.key) →
    (Instr.findNow d k l i = some none ∧ mg l k = none) ∨ ∃ m e, Instr.findNow d k l i = some (some (i + m, e.val)) ∧ l[m]? = some e ∧ e.key = k ∧ mg l k = some e.val ∧ ∀ (val k' : Value), (k' = k → mg (l.modify m fun e => { e with key := k, val := val }) k' = some val) ∧ (k' ≠ k → mg (l.modify m fun e => { e with key := k, val := val }) k' = mg l k')
  | [], _, _ => .inl ⟨rfl, rfl⟩
  | e :: es, i, h => by
    obtain ⟨r, hr, hiff⟩ := sameNow_of_keys hk (h e (.head _))
    cases r with
    | true =>
      have he : e.key = k := (hiff.1 rfl).symm
      refine .inr ⟨0, e, by simp [Instr.findNow, hr], rfl, he, by simp [mg, he], fun val k' => ⟨fun hkk => ?_, fun hkk => ?_⟩⟩
      · subst hkk; simp [mg]
      · have h1 : ¬ k = k' := fun q => hkk q.symm
        have h2 : ¬ e.key = k' := fun q => hkk (by rw [← q, he])
        simp [mg, h1, h2]
    | false =>
      have hne : ¬ e.key = k := fun q => by have := hiff.2 q.symm; cases this
      rcases find_mg hk es (i + 1) (fun x hx => h x (.tail _ hx)) with ⟨h1, h2⟩ | ⟨m, e', h1, h2, h3, h4, h5⟩
      · exact .inl ⟨by simp [Instr.findNow, hr, h1], by simp [mg, hne, h2]⟩
      · refine .inr ⟨m + 1, e', by simp [Instr.findNow, hr, h1]; omega, by simpa using h2, h3, by simp [mg, hne, h4], fun val k' => ⟨fun hkk => ?_, fun hkk => ?_⟩⟩
        · subst hkk
          simp [mg, hne, (h5 val _).1 rfl]
        · simp [mg, (h5 val k').2 hkk]
theorem mg_snoc : ∀ (l : List MapEntry) (e : MapEntry) (k : Value), mg l e.key = none → (k = e.key → mg (l ++ [e]) k = some e.val) ∧ (k ≠ e.key → mg (l ++ [e]) k = mg l k)
  | [], e, k, _ => ⟨fun h => by subst h; simp [mg], fun h => by have : ¬ e.key = k := fun q => h q.symm; simp [mg, this]⟩
  | x :: l, e, k, h => by
    have hx : ¬ x.key = e.key := fun q => by simp [mg, q] at h
    have hl : mg l e.key = none := by simpa [mg, hx] using h
    obtain ⟨h1, h2⟩ := mg_snoc l e k hl
    refine ⟨fun hk => ?_, fun hk => ?_⟩
    · subst hk
      simp [mg, hx, h1 rfl]
    · simp [mg, h2 hk]
/-- A map. -/
def mapA (d : TypeDesc) (b : Nat) (f : Value → Option Value) : Asn where
  S := fun x => x = b
  C := fun w => ∃ arr clk, w.heap[b]? = some (.map arr clk) ∧ (∀ e ∈ arr.toList, IsKey d e.key) ∧ ∀ k, IsKey d k → mg arr.toList k = f k
  lt := fun h x hx => by obtain ⟨_, _, h, _⟩ := h; subst hx; exact (Array.getElem?_eq_some_iff.1 h).1
  loc := fun hk h => by obtain ⟨arr, clk, h1, h2⟩ := h; exact ⟨arr, clk, (hk b rfl).trans h1, h2⟩
section
variable {P : Program} {n : Nat} {S : Nat → Prop} {w0 : World} {Q : Exit → Act → World → Prop} {ops : Array Oper} {env : Env} {hp hp' : List Asn}
variable {d : Nat} {ty : TypeId} {pos : String} {af : Array Edge} {g : Option (Nat × Bool)} {K : Act → World → Prop} {rest : List Oper}
theorem e_mkmap (kd : TypeDesc) {t : TypeId} (hd : Nat.blt d n = true) (h : ∀ b, TK n S w0 K ((d, .map (some b)) :: env) (mapA kd b (fun _ => none) :: hp)) : TO P n S w0 Q ⟨some d, .makeMap t none, ty, pos, af, g⟩ K env hp := fun a w hE hS => by
  have hst : St S w0 (mapA kd w.heap.size (fun _ => none) :: hp) (w.alloc (.map #[] 0)) := by
    refine hS.new ⟨rfl, rfl, rfl, by simp, fun k hk _ => Below.heap_alloc _ _ _ hk⟩ ⟨#[], 0, ?_, by simp, fun k hk => rfl⟩ (fun b hb => by have : b = w.heap.size := hb; omega)
    show (w.heap.push _)[w.heap.size]? = _
    simp
  have := h w.heap.size _ _ (hE.put hd _) hst
  have hrun : (execOp a.eval ⟨some d, .makeMap t none, ty, pos, af, g⟩).run P w = .ok (.value (.map (some w.heap.size))) (w.alloc (.map #[] 0)) := by
    simp only [execOp, Option.map_none, Instr.makeMap]
    rfl
  unfold Oper.wp
  rw [hrun]
  exact this
theorem run_lookupA {kd : TypeDesc} {T kt e : TypeId} (hT : P.underlying T = some (.map kt e)) (hK : P.underlying kt = some kd) {w : World} {b : Nat} {f : Value → Option Value} (h : (mapA kd b f).C w) {k z : Value} (hk : IsKey kd k) (hz : (zeroValue e).run P w = .ok z w) (c : Bool) :
    (Instr.lookup T (.map (some b)) k c).run P w = .ok (if c then .tuple #[(f k).getD z, .bool (f k).isSome] else (f k).getD z) w := by
  obtain ⟨arr, clk, h1, h2, h3⟩ := h
  rcases find_mg hk arr.toList 0 h2 with ⟨h4, h5⟩ | ⟨m, e', h4, _, _, h5, _⟩
  · rw [h3 k hk] at h5
    simp [Instr.lookup, run_underlying hT, MapKept.run_getObj_map h1, MapKept.run_checkKey hK hk, MapKept.run_findKey hK h4, hz, h5]
  · rw [h3 k hk] at h5
    simp [Instr.lookup, run_underlying hT, MapKept.run_getObj_map h1, MapKept.run_checkKey hK hk, MapKept.run_findKey hK h4, h5]
theorem q_lookup (T : Tab P) {d : Option Nat} {kd : TypeDesc} {t kt e : TypeId} {x y : Operand} {b : Nat} {f : Value → Option Value} {k z : Value} {s by_ : Nat} {r : Option Value} (hx : ev env x = some (.map (some b))) (hy : ev env y = some k) (ht : T.u t = some (.map kt e)) (hk : T.u kt = some kd) (hz : T.i e = some (z, s, by_)) (hik : IsKey kd k) (hm : mapA kd b f ∈ hp) (hr : f k = r) :
    Qt P S w0 ⟨d, .lookup t x y true, ty, pos, af, g⟩ env hp (.tuple #[r.getD z, .bool r.isSome]) := fun n a w hE hS => by
  subst hr
  simp [execOp, hE.ev hx, hE.ev hy, run_lookupA (T.U ht) (T.U hk) (hS.mem hm) hik (T.zero hz w) true]
theorem q_lookup1 (T : Tab P) {d : Option Nat} {kd : TypeDesc} {t kt e : TypeId} {x y : Operand} {b : Nat} {f : Value → Option Value} {k z : Value} {s by_ : Nat} {r : Option Value} (hx : ev env x = some (.map (some b))) (hy : ev env y = some k) (ht : T.u t = some (.map kt e)) (hk : T.u kt = some kd) (hz : T.i e = some (z, s, by_)) (hik : IsKey kd k) (hm : mapA kd b f ∈ hp) (hr : f k = r) :
    Qt P S w0 ⟨d, .lookup t x y false, ty, pos, af, g⟩ env hp (r.getD z) := fun n a w hE hS => by
  subst hr
  simp [execOp, hE.ev hx, hE.ev hy, run_lookupA (T.U ht) (T.U hk) (hS.mem hm) hik (T.zero hz w) false]
theorem run_updateA {kd : TypeDesc} {T kt e : TypeId} (hT : P.underlying T = some (.map kt e)) (hK : P.underlying kt = some kd) {w : World} {b : Nat} {f f' : Value → Option Value} (h : (mapA kd b f).C w) {k v : Value} (hk : IsKey kd k) (hf : ∀ k', IsKey kd k' → (k' = k → f' k' = some v) ∧ (k' ≠ k → f' k' = f k')) :
    ∃ w', (Instr.mapUpdate T (.map (some b)) k v).run P w = .ok () w' ∧ (mapA kd b f').C w' ∧ Kept (fun x => x = b) w w' := by
  obtain ⟨arr, clk, h1, h2, h3⟩ := h
  have hlt := (Array.getElem?_eq_some_iff.1 h1).1
  have hkept : ∀ o : Obj, Kept (fun x => x = b) w { w with heap := w.heap.setIfInBounds b o } := fun o => ⟨rfl, rfl, rfl, by simp, fun k hk hne => by
    have : b ≠ k := fun e => hne e.symm
    simp only [Array.getElem?_setIfInBounds, this, if_false]⟩
  rcases find_mg hk arr.toList 0 h2 with ⟨h4, h5⟩ | ⟨m, e', h4, h5, h6, h7, h8⟩
  · refine ⟨{ w with heap := w.heap.setIfInBounds b (.map (arr.push { key := k, val := v, born := clk }) (clk + 1)) }, ?_, ⟨_, _, (heap_set h1).1, ?_, fun k' hk' => ?_⟩, hkept _⟩
    · simp [Instr.mapUpdate, run_underlying hT, MapKept.run_getObj_map h1, MapKept.run_checkKey hK hk, MapKept.run_findKey hK h4, MapKept.run_setObj_map _ h1]
    · intro x hx
      simp only [Array.toList_push, List.mem_append, List.mem_singleton] at hx
      rcases hx with hx | rfl
      · exact h2 x hx
      · exact hk
    · simp only [Array.toList_push]
      obtain ⟨q1, q2⟩ := mg_snoc arr.toList { key := k, val := v, born := clk } k' h5
      by_cases e : k' = k
      · rw [q1 e, (hf k' hk').1 e]
      · rw [q2 e, (hf k' hk').2 e, h3 k' hk']
  · have hj : arr[m]? = some e' := by simpa using h5
    refine ⟨{ w with heap := w.heap.setIfInBounds b (.map (arr.modify m fun e => { e with key := k, val := v }) clk) }, ?_, ⟨_, _, (heap_set h1).1, ?_, fun k' hk' => ?_⟩, hkept _⟩
    · simp [Instr.mapUpdate, run_underlying hT, MapKept.run_getObj_map h1, MapKept.run_checkKey hK hk, MapKept.run_findKey hK h4, hj, h6, run_keyThatStays hk, MapKept.run_setObj_map _ h1]
    · exact isKey_modify h2 _ _ (fun e'' he'' => by rw [hj] at he''; cases he''; exact h6.symm)
    · rw [Array.toList_modify]
      obtain ⟨q1, q2⟩ := h8 v k'
      by_cases e : k' = k
      · rw [q1 e, (hf k' hk').1 e]
      · rw [q2 e, (hf k' hk').2 e, h3 k' hk']
theorem e_mapset (T : Tab P) {kd : TypeDesc} {t kt e : TypeId} {x y z : Operand} {b : Nat} {f f' : Value → Option Value} {k v : Value} (hx : ev env x = some (.map (some b))) (hy : ev env y = some k) (hz : ev env z = some v) (ht : T.u t = some (.map kt e)) (hk : T.u kt = some kd) (hik : IsKey kd k) (hu : Upd (mapA kd b f) (mapA kd b f') hp hp') (hf : ∀ k', IsKey kd k' → (k' = k → f' k' = some v) ∧ (k' ≠ k → f' k' = f k'))
    (h : TK n S w0 K env hp') : TO P n S w0 Q ⟨none, .mapUpdate t x y z, ty, pos, af, g⟩ K env hp := fun a w hE hS => by
  obtain ⟨i, h1, rfl⟩ := hu.ix
  obtain ⟨w', h2, h3, h4⟩ := run_updateA (P := P) (T.U ht) (T.U hk) (hS.get h1) hik hf
  have := h a w' hE (hS.repl h1 h4 h3 (fun _ h => .inl h))
  unfold Oper.wp
  simp [execOp, hE.ev hx, hE.ev hy, hE.ev hz, h2]
  exact this
theorem e_mapins (T : Tab P) {kd : TypeDesc} {t kt e : TypeId} {x y z : Operand} {b : Nat} {f f' : Value → Option Value} {k v : Value} (hx : ev env x = some (.map (some b))) (hy : ev env y = some k) (hz : ev env z = some v) (ht : T.u t = some (.map kt e)) (hk : T.u kt = some kd) (hik : IsKey kd k) (hu : Upd (mapA kd b f) (mapA kd b f') hp hp') (hf : ∀ k', IsKey kd k' → (k' = k → f' k' = some v) ∧ (k' ≠ k → f' k' = f k'))
    (h : TK n S w0 K env hp') : TO P n S w0 Q ⟨none, .insert t x y z, ty, pos, af, g⟩ K env hp := fun a w hE hS => by
  obtain ⟨i, h1, rfl⟩ := hu.ix
  obtain ⟨w', h2, h3, h4⟩ := run_updateA (P := P) (T.U ht) (T.U hk) (hS.get h1) hik hf
  have := h a w' hE (hS.repl h1 h4 h3 (fun _ h => .inl h))
  unfold Oper.wp
  simp [execOp, hE.ev hx, hE.ev hy, hE.ev hz, h2]
  exact this
end
end Go.Proofs.Ytidekbijkknlmaa

/-
  The operations that change memory, calls, and regions that draw their order.
-/
import Derived.Test.YtidekbijkknlmaaSLb
set_option linter.unusedVariables false
set_option maxRecDepth 100000
namespace Go.Proofs.Ytidekbijkknlmaa
open Go.RowKit

/-- Values put into a list, from a place on. -/
def setAt (l : List Value) (o : Nat) : List Value → List Value
  | [] => l
  | v :: vs => setAt (l.set o v) (o + 1) vs
theorem length_setAt : ∀ (vs l : List Value) (o : Nat), (setAt l o vs).length = l.length
  | [], _, _ => rfl
  | v :: vs, l, o => by rw [setAt, length_setAt vs]; simp
theorem blk_setCell {b : Nat} {l : List Value} {t : TypeId} {w : World} (h : (blk b l t).C w) (o : Nat) (v : Value) : (blk b (l.set o v) t).C (w.setCell ⟨b, o, none⟩ v) := by
  have h' : w.heap[b]? = some (.cells l.toArray t (0, 0)) := h
  show (w.setCell ⟨b, o, none⟩ v).heap[b]? = _
  simp [World.setCell, Array.getElem?_modify, h']
theorem kept_setCell (w : World) (b o : Nat) (v : Value) : Kept (fun x => x = b) w (w.setCell ⟨b, o, none⟩ v) :=
  ⟨rfl, rfl, rfl, by simp [World.setCell], fun k hk hn => Below.heap_setCell _ _ _ _ hn⟩
theorem run_store1 {P : Program} {b : Nat} {l : List Value} {t : TypeId} {w : World} (h : (blk b l t).C w) {o : Nat} (ho : o < l.length) {v : Value} (hv : v.oneCell' = true) : (store ⟨b, o, none⟩ v).run P w = .ok () (w.setCell ⟨b, o, none⟩ v) := by
  have h1 : w.cell? ⟨b, o, none⟩ = some (l[o]'ho) := blk_cell h (List.getElem?_eq_getElem ho)
  have h2 := blk_free h o
  cases v <;> simp [Value.oneCell'] at hv <;> simp [store, Sem.run, h1, h2]
theorem run_storeCells' {P : Program} {b : Nat} {t : TypeId} (o : Nat) : ∀ (vs : List Value) (i : Nat) (l : List Value) (w : World), (blk b l t).C w → o + i + vs.length ≤ l.length → (∀ v ∈ vs, v.oneCell' = true) →
    ∃ w', (storeCells ⟨b, o, none⟩ vs i).run P w = .ok () w' ∧ (blk b (setAt l (o + i) vs) t).C w' ∧ Kept (fun x => x = b) w w'
  | [], i, l, w, h, _, _ => ⟨w, by simp [storeCells], h, Kept.refl _ _⟩
  | v :: vs, i, l, w, h, hl, hv => by
    simp only [List.length_cons] at hl
    have h1 := run_store1 (P := P) h (show o + i < l.length by omega) (hv v (by simp))
    obtain ⟨w', h2, h3, h4⟩ := run_storeCells' (P := P) o vs (i + 1) (l.set (o + i) v) _ (blk_setCell h (o + i) v) (by simp; omega) (fun u hu => hv u (by simp [hu]))
    refine ⟨w', ?_, h3, (kept_setCell w b (o + i) v).trans h4 (fun _ _ h => h)⟩
    simp [storeCells, Addr.add_lit, h1, h2]
theorem run_storeVar' {P : Program} (T : Tab P) {t : TypeId} {z : Value} {s y : Nat} (hi : T.i t = some (z, s, y)) {b : Nat} {l : List Value} {t' : TypeId} {w : World} (h : (blk b l t').C w) {o : Nat} {v : Value} {vs : List Value} (hv : v.cells.toList = vs) (hs : vs.length = s) (hl : o + vs.length ≤ l.length) (h1 : ∀ u ∈ vs, u.oneCell' = true) :
    ∃ w', (storeVar t ⟨b, o, none⟩ v).run P w = .ok () w' ∧ (blk b (setAt l o vs) t').C w' ∧ Kept (fun x => x = b) w w' := by
  obtain ⟨w', h2, h3, h4⟩ := run_storeCells' (P := P) o vs 0 l w h (by simpa using hl) h1
  refine ⟨w', ?_, by simpa using h3, h4⟩
  have : v.cells.size = s := by rw [← hs, ← hv]; simp
  simp [storeVar, T.size hi, this, hv, h2]
theorem st_alloc {S : Nat → Prop} {w0 w : World} {hp : List Asn} (h : St S w0 hp w) (l : List Value) (t : TypeId) : St S w0 (blk w.heap.size l t :: hp) (w.alloc (.cells l.toArray t)) := by
  refine h.new ⟨rfl, rfl, rfl, by simp, fun k hk _ => Below.heap_alloc _ _ _ hk⟩ ?_ (fun b hb => by have : b = w.heap.size := hb; omega)
  show (w.alloc (.cells l.toArray t)).heap[w.heap.size]? = _
  show (w.heap.push _)[w.heap.size]? = _
  simp

theorem wr_i64 {x : Int} (h : -9223372036854775808 ≤ x ∧ x ≤ 9223372036854775807) : IntKind.i64.wrap x = x := IntWalk.i64_in x (by omega)
theorem wr_u8 {x : Int} (h : 0 ≤ x ∧ x ≤ 255) : IntKind.u8.wrap x = x := by simp [IntKind.wrap, IntKind.signed, IntKind.bits]; omega
theorem wr_u32 {x : Int} (h : 0 ≤ x ∧ x ≤ 4294967295) : IntKind.u32.wrap x = x := by simp [IntKind.wrap, IntKind.signed, IntKind.bits]; omega
theorem wr_u64 {x : Int} (h : 0 ≤ x ∧ x ≤ 18446744073709551615) : IntKind.u64.wrap x = x := by simp [IntKind.wrap, IntKind.signed, IntKind.bits]; omega

section
variable {P : Program} {n : Nat} {S : Nat → Prop} {w0 : World} {Q : Exit → Act → World → Prop} {ops : Array Oper} {env : Env} {hp : List Asn}
variable {d : Nat} {ty : TypeId} {pos : String} {af : Array Edge} {g : Option (Nat × Bool)} {K : Act → World → Prop}

theorem e_box {t : TypeId} {x : Operand} {v : Value} {l : List Value} (hd : Nat.blt d n = true) (hx : ev env x = some v) (hl : v.cells.toList = l) (h : ∀ b, TK n S w0 K ((d, .pointer (some ⟨b, 0, none⟩)) :: env) (blk b l t :: hp)) : TO P n S w0 Q ⟨some d, .box t x, ty, pos, af, g⟩ K env hp := fun a w hE hS => by
  have := h w.heap.size _ _ (hE.put hd _) (st_alloc hS l t)
  have e : v.cells = l.toArray := by rw [← hl]
  have hrun : (execOp a.eval ⟨some d, .box t x, ty, pos, af, g⟩).run P w = .ok (.value (.pointer (some ⟨w.heap.size, 0, none⟩))) (w.alloc (.cells l.toArray t)) := by
    simp only [execOp, hE.ev hx, Instr.box, newVar, newRow, newObj, e]
    rfl
  unfold Oper.wp
  rw [hrun]
  exact this
theorem e_alloc (T : Tab P) {t : TypeId} {z : Value} {s y : Nat} {l : List Value} (hd : Nat.blt d n = true) (hi : T.i t = some (z, s, y)) (hl : z.cells.toList = l) (h : ∀ b, TK n S w0 K ((d, .pointer (some ⟨b, 0, none⟩)) :: env) (blk b l t :: hp)) : TO P n S w0 Q ⟨some d, .alloc t, ty, pos, af, g⟩ K env hp := fun a w hE hS => by
  have := h w.heap.size _ _ (hE.put hd _) (st_alloc hS l t)
  have e : z.cells = l.toArray := by rw [← hl]
  have hrun : (execOp a.eval ⟨some d, .alloc t, ty, pos, af, g⟩).run P w = .ok (.value (.pointer (some ⟨w.heap.size, 0, none⟩))) (w.alloc (.cells l.toArray t)) := by
    simp only [execOp, Instr.alloc, Sem.run_bind, T.zero hi, Result.andThen_ok, newVar, newRow, newObj, e]
    rfl
  unfold Oper.wp
  rw [hrun]
  exact this
theorem e_store1 (T : Tab P) {t : TypeId} {p x : Operand} {b o : Nat} {v : Value} {i : Nat} {l : List Value} {t' : TypeId} {z : Value} {y : Nat} (hp_ : ev env p = some (.pointer (some ⟨b, o, none⟩))) (hx : ev env x = some v) (hi : hp[i]? = some (blk b l t')) (hz : T.i t = some (z, 1, y)) (ho : o < l.length) (hv : v.oneCell' = true)
    (h : TK n S w0 K env (hp.set i (blk b (l.set o v) t'))) : TO P n S w0 Q ⟨none, .store t p x, ty, pos, af, g⟩ K env hp := fun a w hE hS => by
  have hc : v.cells.toList = [v] := by cases v <;> simp [Value.oneCell'] at hv <;> rfl
  obtain ⟨w', h1, h2, h3⟩ := run_storeVar' (P := P) T hz (hS.get hi) (o := o) hc rfl (by simp; omega) (by simpa using hv)
  have := h a w' hE (hS.repl hi h3 h2 (fun _ h => .inl h))
  unfold Oper.wp
  simp [execOp, hE.ev hp_, hE.ev hx, Instr.storeAt, Instr.sureAddr, h1]
  exact this
theorem e_storeN (T : Tab P) {t : TypeId} {p x : Operand} {b o : Nat} {v : Value} {vs : List Value} {i : Nat} {l : List Value} {t' : TypeId} {z : Value} {s y : Nat} (hp_ : ev env p = some (.pointer (some ⟨b, o, none⟩))) (hx : ev env x = some v) (hv : v.cells.toList = vs) (hi : hp[i]? = some (blk b l t')) (hz : T.i t = some (z, s, y)) (hs : vs.length = s) (ho : o + vs.length ≤ l.length) (h1 : vs.all (·.oneCell') = true)
    (h : TK n S w0 K env (hp.set i (blk b (setAt l o vs) t'))) : TO P n S w0 Q ⟨none, .store t p x, ty, pos, af, g⟩ K env hp := fun a w hE hS => by
  obtain ⟨w', h1, h2, h3⟩ := run_storeVar' (P := P) T hz (hS.get hi) (o := o) hv hs ho (List.all_eq_true.1 h1)
  have := h a w' hE (hS.repl hi h3 h2 (fun _ h => .inl h))
  unfold Oper.wp
  simp [execOp, hE.ev hp_, hE.ev hx, Instr.storeAt, Instr.sureAddr, h1]
  exact this
theorem e_buildSlice {t e : TypeId} {len : Nat} {parts : Array (Nat × Operand)} {vs l : List Value} (hd : Nat.blt d n = true) (hv : evs env (parts.toList.map (·.2)) = some vs)
    (hr : ∀ w, (Instr.buildSlice t len ((parts.toList.map (·.1)).zip vs).toArray).run P w = .ok (.slice (some ⟨w.heap.size, 0, none⟩) len len) (w.alloc (.cells l.toArray e)))
    (h : ∀ b, TK n S w0 K ((d, .slice (some ⟨b, 0, none⟩) len len) :: env) (blk b l e :: hp)) : TO P n S w0 Q ⟨some d, .buildSlice t len parts, ty, pos, af, g⟩ K env hp := fun a w hE hS => by
  have h1 := hE.evs hv
  have h2 : (parts.map fun (i, x) => (i, a.eval x)) = ((parts.toList.map (·.1)).zip vs).toArray := by
    rw [← h1]
    apply Array.toList_inj.1
    simp [List.zip_map', List.map_map]
  have := h w.heap.size _ _ (hE.put hd _) (st_alloc hS l e)
  unfold Oper.wp
  simp only [execOp, h2]
  simp [hr w, Oper.upon]
  exact this
theorem e_makeSlice {t e : TypeId} {x y : Operand} {vx vy : Value} {l : List Value} {len cap : Nat} (hd : Nat.blt d n = true) (hx : ev env x = some vx) (hy : ev env y = some vy)
    (hr : ∀ w, (Instr.makeSlice t vx vy).run P w = .ok (.slice (some ⟨w.heap.size, 0, none⟩) len cap) (w.alloc (.cells l.toArray e)))
    (h : ∀ b, TK n S w0 K ((d, .slice (some ⟨b, 0, none⟩) len cap) :: env) (blk b l e :: hp)) : TO P n S w0 Q ⟨some d, .makeSlice t x y, ty, pos, af, g⟩ K env hp := fun a w hE hS => by
  have := h w.heap.size _ _ (hE.put hd _) (st_alloc hS l e)
  unfold Oper.wp
  simp [execOp, hE.ev hx, hE.ev hy, hr w, Oper.upon]
  exact this
/-- make([]T, n), of elements of a cell. -/
theorem run_make1 {P : Program} (T : Tab P) {t e : TypeId} {z : Value} {y : Nat} (ht : T.u t = some (.slice e)) (hz : T.i e = some (z, 1, y)) (h1 : z.oneCell' = true) {k k' : IntKind} {m : Int} (h0 : 0 ≤ m) (hm : m * y ≤ 140737488355328) (hm' : m ≤ 9223372036854775807) (w : World) :
    (Instr.makeSlice t (.int k m) (.int k' m)).run P w = .ok (.slice (some ⟨w.heap.size, 0, none⟩) m.toNat m.toNat) (w.alloc (.cells (List.replicate m.toNat z).toArray e)) := by
  obtain ⟨i, hi, hz0, hsz, hby⟩ := T.I hz
  have hw : IntKind.i64.wrap m = m := IntWalk.i64_in m (by omega)
  have hy : (y : Int) * m = m * y := Int.mul_comm _ _
  have c1 : z.cells = #[z] := by cases z <;> simp [Value.oneCell'] at h1 <;> rfl
  have hrow : (Array.range m.toNat).map (fun x => #[z][x % 1]!) = (List.replicate m.toNat z).toArray := by
    apply Array.toList_inj.1
    simp only [Array.toList_map, Array.toList_range, Nat.mod_one]
    rw [List.map_const']
    simp
  have hnr : ¬ (m.toNat * y > roomBytes) := by
    have : ((m.toNat * y : Nat) : Int) = m * y := by rw [Int.natCast_mul, Int.toNat_of_nonneg h0]
    unfold roomBytes
    omega
  have hnn : ¬ m < 0 := by omega
  have hbig : ¬ (y : Int) * m > 2 ^ 48 := by rw [hy]; omega
  simp only [Instr.makeSlice, Sem.run_bind, run_underlying (T.U ht), Result.andThen_ok, asInt, asIntOf, Sem.run_pure, typeInfo]
  simp [hi, hw, hby, hnn, askRoom, sizeOf, typeInfo, hsz, hz0, zeroValue, newRow, newObj]
  rw [if_neg (by omega)]
  by_cases hm0 : m ≤ 0
  · have : m = 0 := by omega
    subst this
    rw [if_pos hm0]
    have e3 : Array.map (fun x : Nat => (default : Value)) (Array.range (Int.toNat 0)) = Array.replicate (Int.toNat 0) z := by simp
    rw [e3]
    rfl
  · rw [if_neg hm0, c1]
    have e2 : Array.map (fun x => #[z][x % #[z].size]!) (Array.range m.toNat) = Array.replicate m.toNat z := by
      rw [show (#[z] : Array Value).size = 1 from rfl, hrow]
      simp
    rw [e2]
    rfl
theorem e_call {f : FuncId} {fn : Func} {args : Array Operand} {ats : Array TypeId} {vs : List Value} {A F : List Asn} {R : Value → List Asn → Prop} (hd : Nat.blt d n = true) (hv : evs env args.toList = some vs) (hf : P.funcs[f]? = some fn) (hb : fn.body.isSome = true) (hn : (fn.name == "runtime.NumGoroutine") = false)
    (hs : ∀ w, St S w0 hp w → St S w0 (A ++ F) w) (hc : ∀ w, St S w0 (A ++ F) w → Calls P f vs.toArray w (Ret w A R)) (h : ∀ v B, R v B → TK n S w0 K ((d, v) :: env) (B ++ F)) : TO P n S w0 Q ⟨some d, .call { callee := .value (.func f), args := args, argTypes := ats }, ty, pos, af, g⟩ K env hp := fun a w hE hS => by
  have h1 := hE.evs hv
  have h2 : args.map a.eval = vs.toArray := by rw [← h1]; exact Array.toList_inj.1 (by simp)
  have hS' := hs w hS
  have hcall := hc w hS'
  have hrun : (execOp a.eval ⟨some d, .call { callee := .value (.func f), args := args, argTypes := ats }, ty, pos, af, g⟩).run P w = .ok (.enter f vs.toArray) w := by
    simp only [execOp, resolve, h2]
    have hbn : ¬ fn.body = none := by cases hq : fn.body <;> simp [hq] at hb ⊢
    have hne : ¬ fn.name = "runtime.NumGoroutine" := by simpa using hn
    simp [Act.eval, Deferred.ofValue, invoke, callFunc, hf, hne, hbn]
  unfold Oper.wp
  rw [hrun, Oper.upon_enter]
  refine hcall.mono fun e w' he => ?_
  obtain ⟨v, B, rfl, hR, hst⟩ := he
  exact h v B hR _ w' (hE.put hd v) (hS'.join hst)

/-! guards and tests -/
theorem l_gt {o : Oper} {rest : List Oper} {j t : Nat} {want : Bool} (hg : o.guard = some (j, want)) (hj : (ops[j]?).bind (·.dst) = some t) (hb : look env t = some (.bool want))
    (h : TL P n S w0 Q ops (⟨o.dst, o.op, o.type, o.pos, o.after, none⟩ :: rest) env hp) : TL P n S w0 Q ops (o :: rest) env hp := fun a w hE hS => by
  have hy : yielded ops a.tmps j = some want := by
    have := hE.at_ t _ hb
    simp [yielded, hj, this]
  have := h a w hE hS
  unfold wpList at this ⊢
  have h1 : Region.wanted o (yielded ops a.tmps) = true := by simp [Region.wanted, hg, hy]
  have h2 : Region.wanted ⟨o.dst, o.op, o.type, o.pos, o.after, none⟩ (yielded ops a.tmps) = true := by simp [Region.wanted]
  rw [if_pos h1]
  rw [if_pos h2] at this
  exact this
theorem l_gf {o : Oper} {rest : List Oper} {j t d : Nat} {want b : Bool} (hg : o.guard = some (j, want)) (hj : (ops[j]?).bind (·.dst) = some t) (hb : look env t = some (.bool b)) (hbw : b = !want) (hd : o.dst = some d) (hdn : Nat.blt d n = true)
    (h : TL P n S w0 Q ops rest ((d, undef) :: env) hp) : TL P n S w0 Q ops (o :: rest) env hp := fun a w hE hS => by
  have hy : yielded ops a.tmps j = some (!want) := by
    have := hE.at_ t _ hb
    simp [yielded, hj, this, hbw]
  unfold wpList
  have h1 : ¬ Region.wanted o (yielded ops a.tmps) = true := by simp [Region.wanted, hg, hy]
  rw [if_neg h1, hd]
  exact h _ w (hE.put hdn undef) hS
theorem l_split {l : List Oper} (t : Nat) {b : Bool} (hb : look env t = some (.bool b)) (ht : b = true → TL P n S w0 Q ops l ((t, .bool true) :: env) hp) (hf : b = false → TL P n S w0 Q ops l ((t, .bool false) :: env) hp) : TL P n S w0 Q ops l env hp := fun a w hE hS => by
  have key : Fr ((t, .bool b) :: env) n a := ⟨hE.defers, hE.size, fun k v hk => by
    rw [look_cons] at hk
    by_cases e : t = k
    · subst e
      rw [if_pos rfl] at hk
      injection hk with hk
      subst hk
      exact hE.at_ _ _ hb
    · rw [if_neg e] at hk
      exact hE.at_ k v hk⟩
  cases b
  · exact hf rfl a w key hS
  · exact ht rfl a w key hS
/-- Known: a bool. -/
theorem l_known {l : List Oper} (t : Nat) {b : Bool} (c : Bool) (hb : look env t = some (.bool b)) (hc : b = c) (h : TL P n S w0 Q ops l ((t, .bool c) :: env) hp) : TL P n S w0 Q ops l env hp := by
  subst hc
  cases b
  · exact l_split t hb (fun h => by cases h) (fun _ => h)
  · exact l_split t hb (fun _ => h) (fun h => by cases h)
theorem l_gtd {o : Oper} {rest : List Oper} {j t : Nat} {want b : Bool} (hg : o.guard = some (j, want)) (hj : (ops[j]?).bind (·.dst) = some t) (hb : look env t = some (.bool b)) (hw : b = want)
    (h : TL P n S w0 Q ops (⟨o.dst, o.op, o.type, o.pos, o.after, none⟩ :: rest) ((t, .bool want) :: env) hp) : TL P n S w0 Q ops (o :: rest) env hp := by
  refine l_known t want hb hw (l_gt hg hj ?_ h)
  rw [look_cons, if_pos rfl]
theorem l_gfd {o : Oper} {rest : List Oper} {j t d : Nat} {want b : Bool} (hg : o.guard = some (j, want)) (hj : (ops[j]?).bind (·.dst) = some t) (hb : look env t = some (.bool b)) (hw : b = !want) (hd : o.dst = some d) (hdn : Nat.blt d n = true)
    (h : TL P n S w0 Q ops rest ((d, undef) :: (t, .bool (!want)) :: env) hp) : TL P n S w0 Q ops (o :: rest) env hp := by
  refine l_known t (!want) hb hw (l_gf hg hj (b := !want) ?_ rfl hd hdn h)
  rw [look_cons, if_pos rfl]
theorem c_ct {c : Operand} {x y : Code} {b : Bool} (hc : ev env c = some (.bool b)) (hb : b = true) (h : TC P n S w0 Q x env hp) : TC P n S w0 Q (.cond c x y) env hp := c_cond hc (fun _ => h) (fun e => by rw [hb] at e; cases e)
theorem c_cf {c : Operand} {x y : Code} {b : Bool} (hc : ev env c = some (.bool b)) (hb : b = false) (h : TC P n S w0 Q y env hp) : TC P n S w0 Q (.cond c x y) env hp := c_cond hc (fun e => by rw [hb] at e; cases e) (fun _ => h)
theorem l_e {o : Oper} {rest : List Oper} (hg : o.guard = none) (h : ∀ K : Act → World → Prop, (∀ env hp, TL P n S w0 Q ops rest env hp → TK n S w0 K env hp) → TO P n S w0 Q o K env hp) : TL P n S w0 Q ops (o :: rest) env hp := l_op hg h
theorem q_indexAddr1 (T : Tab P) {d : Option Tmp} {t e : TypeId} {x ix : Operand} {b o len cap : Nat} {k : IntKind} {i : Int} {z : Value} {y : Nat} (hx : ev env x = some (.slice (some ⟨b, o, none⟩) len cap)) (hi : ev env ix = some (.int k i)) (ht : T.u t = some (.slice e)) (hz : T.i e = some (z, 1, y)) (h : 0 ≤ i ∧ i < len) :
    Qt P S w0 ⟨d, .indexAddr t x ix, ty, pos, af, g⟩ env hp (.pointer (some ⟨b, o + i.toNat, none⟩)) := by
  have := q_indexAddr (S := S) (w0 := w0) (hp := hp) (d := d) (ty := ty) (pos := pos) (af := af) (g := g) T hx hi ht hz h
  rwa [Nat.mul_one] at this
theorem q_indexAddrA1 (T : Tab P) {d : Option Tmp} {t e : TypeId} {x ix : Operand} {b o len : Nat} {k : IntKind} {i : Int} {z : Value} {y : Nat} (hx : ev env x = some (.pointer (some ⟨b, o, none⟩))) (hi : ev env ix = some (.int k i)) (ht : T.u t = some (.array len e)) (hz : T.i e = some (z, 1, y)) (h : 0 ≤ i ∧ i < len) :
    Qt P S w0 ⟨d, .indexAddr t x ix, ty, pos, af, g⟩ env hp (.pointer (some ⟨b, o + i.toNat, none⟩)) := by
  have := q_indexAddrA (S := S) (w0 := w0) (hp := hp) (d := d) (ty := ty) (pos := pos) (af := af) (g := g) T hx hi ht hz h
  rwa [Nat.mul_one] at this

/-! shapes, so that what does not fit fails at once -/
theorem i_op {o : Oper} {rest : List Oper} (h : TL P n S w0 Q ops (o :: rest) env hp) : TL P n S w0 Q ops (o :: rest) env hp := h
theorem i_dst {op : Op} {rest : List Oper} (h : TL P n S w0 Q ops (⟨some d, op, ty, pos, af, none⟩ :: rest) env hp) : TL P n S w0 Q ops (⟨some d, op, ty, pos, af, none⟩ :: rest) env hp := h
theorem i_store {t : TypeId} {x y : Operand} {rest : List Oper} (h : TL P n S w0 Q ops (⟨none, .store t x y, ty, pos, af, none⟩ :: rest) env hp) : TL P n S w0 Q ops (⟨none, .store t x y, ty, pos, af, none⟩ :: rest) env hp := h
theorem i_guard {o : Option Nat} {op : Op} {j : Nat} {c : Bool} {rest : List Oper} (h : TL P n S w0 Q ops (⟨o, op, ty, pos, af, some (j, c)⟩ :: rest) env hp) : TL P n S w0 Q ops (⟨o, op, ty, pos, af, some (j, c)⟩ :: rest) env hp := h
theorem i_cond {c : Operand} {x y : Code} (h : TC P n S w0 Q (.cond c x y) env hp) : TC P n S w0 Q (.cond c x y) env hp := h
theorem i_k (h : TK n S w0 K env hp) : TK n S w0 K env hp := h
theorem i_q {e : Exit} (h : TQ n S w0 Q e env hp) : TQ n S w0 Q e env hp := h
theorem i_c {c : Code} (h : TC P n S w0 Q c env hp) : TC P n S w0 Q c env hp := h
theorem i_load {rest : List Oper} {t : TypeId} {x : Operand} (h : TL P n S w0 Q ops (⟨some d, .load t x, ty, pos, af, none⟩ :: rest) env hp) : TL P n S w0 Q ops (⟨some d, .load t x, ty, pos, af, none⟩ :: rest) env hp := h
theorem i_bin {rest : List Oper} {b : BinOp} {t u : TypeId} {x y : Operand} (h : TL P n S w0 Q ops (⟨some d, .binOp b t x y u, ty, pos, af, none⟩ :: rest) env hp) : TL P n S w0 Q ops (⟨some d, .binOp b t x y u, ty, pos, af, none⟩ :: rest) env hp := h
theorem i_blt {rest : List Oper} {b : Builtin} {xs : Array Operand} {ts : Array TypeId} (h : TL P n S w0 Q ops (⟨some d, .call ⟨.builtin b, xs, ts⟩, ty, pos, af, none⟩ :: rest) env hp) : TL P n S w0 Q ops (⟨some d, .call ⟨.builtin b, xs, ts⟩, ty, pos, af, none⟩ :: rest) env hp := h
theorem i_ix {rest : List Oper} {t : TypeId} {x y : Operand} (h : TL P n S w0 Q ops (⟨some d, .indexAddr t x y, ty, pos, af, none⟩ :: rest) env hp) : TL P n S w0 Q ops (⟨some d, .indexAddr t x y, ty, pos, af, none⟩ :: rest) env hp := h
theorem i_sl {rest : List Oper} {t : TypeId} {x : Operand} {a b c : Option Operand} (h : TL P n S w0 Q ops (⟨some d, .slice t x a b c, ty, pos, af, none⟩ :: rest) env hp) : TL P n S w0 Q ops (⟨some d, .slice t x a b c, ty, pos, af, none⟩ :: rest) env hp := h
theorem i_move {rest : List Oper} {x : Operand} (h : TL P n S w0 Q ops (⟨some d, .move x, ty, pos, af, none⟩ :: rest) env hp) : TL P n S w0 Q ops (⟨some d, .move x, ty, pos, af, none⟩ :: rest) env hp := h
theorem i_assign {rest : List Oper} {x : Operand} (h : TL P n S w0 Q ops (⟨some d, .assign x, ty, pos, af, none⟩ :: rest) env hp) : TL P n S w0 Q ops (⟨some d, .assign x, ty, pos, af, none⟩ :: rest) env hp := h
theorem iq_load {d : Option Nat} {v : Value} {t : TypeId} {x : Operand} (h : Qt P S w0 ⟨d, .load t x, ty, pos, af, g⟩ env hp v) : Qt P S w0 ⟨d, .load t x, ty, pos, af, g⟩ env hp v := h
theorem iq_bin {d : Option Nat} {v : Value} {b : BinOp} {t u : TypeId} {x y : Operand} (h : Qt P S w0 ⟨d, .binOp b t x y u, ty, pos, af, g⟩ env hp v) : Qt P S w0 ⟨d, .binOp b t x y u, ty, pos, af, g⟩ env hp v := h
theorem iq_blt {d : Option Nat} {v : Value} {b : Builtin} {xs : Array Operand} {ts : Array TypeId} (h : Qt P S w0 ⟨d, .call ⟨.builtin b, xs, ts⟩, ty, pos, af, g⟩ env hp v) : Qt P S w0 ⟨d, .call ⟨.builtin b, xs, ts⟩, ty, pos, af, g⟩ env hp v := h
theorem iq_ix {d : Option Nat} {v : Value} {t : TypeId} {x y : Operand} (h : Qt P S w0 ⟨d, .indexAddr t x y, ty, pos, af, g⟩ env hp v) : Qt P S w0 ⟨d, .indexAddr t x y, ty, pos, af, g⟩ env hp v := h
theorem iq_sl {d : Option Nat} {v : Value} {t : TypeId} {x : Operand} {a b c : Option Operand} (h : Qt P S w0 ⟨d, .slice t x a b c, ty, pos, af, g⟩ env hp v) : Qt P S w0 ⟨d, .slice t x a b c, ty, pos, af, g⟩ env hp v := h
end
end Go.Proofs.Ytidekbijkknlmaa

/-
  Part 2 of the proof of QJ: the texts SLc Tab.
-/
import Derived.Test.YtboccjdncdaakaaK01

/-
  The operations that change memory, calls, and regions that draw their order.
-/

set_option linter.unusedVariables false
set_option maxRecDepth 100000
namespace Go.Proofs.Ytboccjdncdaakaa
open Go.RowKit

/-- Values put into a list, from a place on. -/
def setAt (l : List Value) (o : Nat) : List Value → List Value
  | [] => l
  | v :: vs => setAt (l.set o v) (o + 1) vs
theorem length_setAt : ∀ (vs l : List Value) (o : Nat), (setAt l o vs).length = l.length
  | [], _, _ => rfl
  | v :: vs, l, o => by rw [setAt, length_setAt vs]; simp
theorem blk_setCell {b : Nat} {l : List Value} {t : TypeId} {w : World} (h : (blk b l t).C w) (o : Nat) (v : Value) : (blk b (l.set o v) t).C (w.setCell ⟨b, o, none⟩ v) := by
  have h' : w.heap[b]? = some (.cells l.toArray t (0, 0)) := h
  show (w.setCell ⟨b, o, none⟩ v).heap[b]? = _
  simp [World.setCell, Array.getElem?_modify, h']
theorem kept_setCell (w : World) (b o : Nat) (v : Value) : Kept (fun x => x = b) w (w.setCell ⟨b, o, none⟩ v) :=
  ⟨rfl, rfl, rfl, by simp [World.setCell], fun k hk hn => Below.heap_setCell _ _ _ _ hn⟩
theorem run_store1 {P : Program} {b : Nat} {l : List Value} {t : TypeId} {w : World} (h : (blk b l t).C w) {o : Nat} (ho : o < l.length) {v : Value} (hv : v.oneCell' = true) : (store ⟨b, o, none⟩ v).run P w = .ok () (w.setCell ⟨b, o, none⟩ v) := by
  have h1 : w.cell? ⟨b, o, none⟩ = some (l[o]'ho) := blk_cell h (List.getElem?_eq_getElem ho)
  have h2 := blk_free h o
  cases v <;> simp [Value.oneCell'] at hv <;> simp [store, Sem.run, h1, h2]
theorem run_storeCells' {P : Program} {b : Nat} {t : TypeId} (o : Nat) : ∀ (vs : List Value) (i : Nat) (l : List Value) (w : World), (blk b l t).C w → o + i + vs.length ≤ l.length → (∀ v ∈ vs, v.oneCell' = true) →
    ∃ w', (storeCells ⟨b, o, none⟩ vs i).run P w = .ok () w' ∧ (blk b (setAt l (o + i) vs) t).C w' ∧ Kept (fun x => x = b) w w'
  | [], i, l, w, h, _, _ => ⟨w, by simp [storeCells], h, Kept.refl _ _⟩
  | v :: vs, i, l, w, h, hl, hv => by
    simp only [List.length_cons] at hl
    have h1 := run_store1 (P := P) h (show o + i < l.length by omega) (hv v (by simp))
    obtain ⟨w', h2, h3, h4⟩ := run_storeCells' (P := P) o vs (i + 1) (l.set (o + i) v) _ (blk_setCell h (o + i) v) (by simp; omega) (fun u hu => hv u (by simp [hu]))
    refine ⟨w', ?_, h3, (kept_setCell w b (o + i) v).trans h4 (fun _ _ h => h)⟩
    simp [storeCells, Addr.add_lit, h1, h2]
theorem run_storeVar' {P : Program} (T : Tab P) {t : TypeId} {z : Value} {s y : Nat} (hi : T.i t = some (z, s, y)) {b : Nat} {l : List Value} {t' : TypeId} {w : World} (h : (blk b l t').C w) {o : Nat} {v : Value} {vs : List Value} (hv : v.cells.toList = vs) (hs : vs.length = s) (hl : o + vs.length ≤ l.length) (h1 : ∀ u ∈ vs, u.oneCell' = true) :
    ∃ w', (storeVar t ⟨b, o, none⟩ v).run P w = .ok () w' ∧ (blk b (setAt l o vs) t').C w' ∧ Kept (fun x => x = b) w w' := by
  obtain ⟨w', h2, h3, h4⟩ := run_storeCells' (P := P) o vs 0 l w h (by simpa using hl) h1
  refine ⟨w', ?_, by simpa using h3, h4⟩
  have : v.cells.size = s := by rw [← hs, ← hv]; simp
  simp [storeVar, T.size hi, this, hv, h2]
theorem st_alloc {S : Nat → Prop} {w0 w : World} {hp : List Asn} (h : St S w0 hp w) (l : List Value) (t : TypeId) : St S w0 (blk w.heap.size l t :: hp) (w.alloc (.cells l.toArray t)) := by
  refine h.new ⟨rfl, rfl, rfl, by simp, fun k hk _ => Below.heap_alloc _ _ _ hk⟩ ?_ (fun b hb => by have : b = w.heap.size := hb; omega)
  show (w.alloc (.cells l.toArray t)).heap[w.heap.size]? = _
  show (w.heap.push _)[w.heap.size]? = _
  simp

theorem wr_i64 {x : Int} (h : -9223372036854775808 ≤ x ∧ x ≤ 9223372036854775807) : IntKind.i64.wrap x = x := IntWalk.i64_in x (by omega)
theorem wr_u8 {x : Int} (h : 0 ≤ x ∧ x ≤ 255) : IntKind.u8.wrap x = x := by simp [IntKind.wrap, IntKind.signed, IntKind.bits]; omega
theorem wr_u32 {x : Int} (h : 0 ≤ x ∧ x ≤ 4294967295) : IntKind.u32.wrap x = x := by simp [IntKind.wrap, IntKind.signed, IntKind.bits]; omega
theorem wr_u64 {x : Int} (h : 0 ≤ x ∧ x ≤ 18446744073709551615) : IntKind.u64.wrap x = x := by simp [IntKind.wrap, IntKind.signed, IntKind.bits]; omega

section
variable {P : Program} {n : Nat} {S : Nat → Prop} {w0 : World} {Q : Exit → Act → World → Prop} {ops : Array Oper} {env : Env} {hp : List Asn}
variable {d : Nat} {ty : TypeId} {pos : String} {af : Array Edge} {g : Option (Nat × Bool)} {K : Act → World → Prop}

theorem e_box {t : TypeId} {x : Operand} {v : Value} {l : List Value} (hd : Nat.blt d n = true) (hx : ev env x = some v) (hl : v.cells.toList = l) (h : ∀ b, TK n S w0 K ((d, .pointer (some ⟨b, 0, none⟩)) :: env) (blk b l t :: hp)) : TO P n S w0 Q ⟨some d, .box t x, ty, pos, af, g⟩ K env hp := fun a w hE hS => by
  have := h w.heap.size _ _ (hE.put hd _) (st_alloc hS l t)
  have e : v.cells = l.toArray := by rw [← hl]
  have hrun : (execOp a.eval ⟨some d, .box t x, ty, pos, af, g⟩).run P w = .ok (.value (.pointer (some ⟨w.heap.size, 0, none⟩))) (w.alloc (.cells l.toArray t)) := by
    simp only [execOp, hE.ev hx, Instr.box, newVar, newRow, newObj, e]
    rfl
  unfold Oper.wp
  rw [hrun]
  exact this
theorem e_alloc (T : Tab P) {t : TypeId} {z : Value} {s y : Nat} {l : List Value} (hd : Nat.blt d n = true) (hi : T.i t = some (z, s, y)) (hl : z.cells.toList = l) (h : ∀ b, TK n S w0 K ((d, .pointer (some ⟨b, 0, none⟩)) :: env) (blk b l t :: hp)) : TO P n S w0 Q ⟨some d, .alloc t, ty, pos, af, g⟩ K env hp := fun a w hE hS => by
  have := h w.heap.size _ _ (hE.put hd _) (st_alloc hS l t)
  have e : z.cells = l.toArray := by rw [← hl]
  have hrun : (execOp a.eval ⟨some d, .alloc t, ty, pos, af, g⟩).run P w = .ok (.value (.pointer (some ⟨w.heap.size, 0, none⟩))) (w.alloc (.cells l.toArray t)) := by
    simp only [execOp, Instr.alloc, Sem.run_bind, T.zero hi, Result.andThen_ok, newVar, newRow, newObj, e]
    rfl
  unfold Oper.wp
  rw [hrun]
  exact this
theorem e_store1 (T : Tab P) {t : TypeId} {p x : Operand} {b o : Nat} {v : Value} {i : Nat} {l : List Value} {t' : TypeId} {z : Value} {y : Nat} (hp_ : ev env p = some (.pointer (some ⟨b, o, none⟩))) (hx : ev env x = some v) (hi : hp[i]? = some (blk b l t')) (hz : T.i t = some (z, 1, y)) (ho : o < l.length) (hv : v.oneCell' = true)
    (h : TK n S w0 K env (hp.set i (blk b (l.set o v) t'))) : TO P n S w0 Q ⟨none, .store t p x, ty, pos, af, g⟩ K env hp := fun a w hE hS => by
  have hc : v.cells.toList = [v] := by cases v <;> simp [Value.oneCell'] at hv <;> rfl
  obtain ⟨w', h1, h2, h3⟩ := run_storeVar' (P := P) T hz (hS.get hi) (o := o) hc rfl (by simp; omega) (by simpa using hv)
  have := h a w' hE (hS.repl hi h3 h2 (fun _ h => .inl h))
  unfold Oper.wp
  simp [execOp, hE.ev hp_, hE.ev hx, Instr.storeAt, Instr.sureAddr, h1]
  exact this
theorem e_storeN (T : Tab P) {t : TypeId} {p x : Operand} {b o : Nat} {v : Value} {vs : List Value} {i : Nat} {l : List Value} {t' : TypeId} {z : Value} {s y : Nat} (hp_ : ev env p = some (.pointer (some ⟨b, o, none⟩))) (hx : ev env x = some v) (hv : v.cells.toList = vs) (hi : hp[i]? = some (blk b l t')) (hz : T.i t = some (z, s, y)) (hs : vs.length = s) (ho : o + vs.length ≤ l.length) (h1 : vs.all (·.oneCell') = true)
    (h : TK n S w0 K env (hp.set i (blk b (setAt l o vs) t'))) : TO P n S w0 Q ⟨none, .store t p x, ty, pos, af, g⟩ K env hp := fun a w hE hS => by
  obtain ⟨w', h1, h2, h3⟩ := run_storeVar' (P := P) T hz (hS.get hi) (o := o) hv hs ho (List.all_eq_true.1 h1)
  have := h a w' hE (hS.repl hi h3 h2 (fun _ h => .inl h))
  unfold Oper.wp
  simp [execOp, hE.ev hp_, hE.ev hx, Instr.storeAt, Instr.sureAddr, h1]
  exact this
theorem e_buildSlice {t e : TypeId} {len : Nat} {parts : Array (Nat × Operand)} {vs l : List Value} (hd : Nat.blt d n = true) (hv : evs env (parts.toList.map (·.2)) = some vs)
    (hr : ∀ w, (Instr.buildSlice t len ((parts.toList.map (·.1)).zip vs).toArray).run P w = .ok (.slice (some ⟨w.heap.size, 0, none⟩) len len) (w.alloc (.cells l.toArray e)))
    (h : ∀ b, TK n S w0 K ((d, .slice (some ⟨b, 0, none⟩) len len) :: env) (blk b l e :: hp)) : TO P n S w0 Q ⟨some d, .buildSlice t len parts, ty, pos, af, g⟩ K env hp := fun a w hE hS => by
  have h1 := hE.evs hv
  have h2 : (parts.map fun (i, x) => (i, a.eval x)) = ((parts.toList.map (·.1)).zip vs).toArray := by
    rw [← h1]
    apply Array.toList_inj.1
    simp [List.zip_map', List.map_map]
  have := h w.heap.size _ _ (hE.put hd _) (st_alloc hS l e)
  unfold Oper.wp
  simp only [execOp, h2]
  simp [hr w, Oper.upon]
  exact this
theorem e_makeSlice {t e : TypeId} {x y : Operand} {vx vy : Value} {l : List Value} {len cap : Nat} (hd : Nat.blt d n = true) (hx : ev env x = some vx) (hy : ev env y = some vy)
    (hr : ∀ w, (Instr.makeSlice t vx vy).run P w = .ok (.slice (some ⟨w.heap.size, 0, none⟩) len cap) (w.alloc (.cells l.toArray e)))
    (h : ∀ b, TK n S w0 K ((d, .slice (some ⟨b, 0, none⟩) len cap) :: env) (blk b l e :: hp)) : TO P n S w0 Q ⟨some d, .makeSlice t x y, ty, pos, af, g⟩ K env hp := fun a w hE hS => by
  have := h w.heap.size _ _ (hE.put hd _) (st_alloc hS l e)
  unfold Oper.wp
  simp [execOp, hE.ev hx, hE.ev hy, hr w, Oper.upon]
  exact this
/-- make([]T, n), of elements of a cell. -/
theorem run_make1 {P : Program} (T : Tab P) {t e : TypeId} {z : Value} {y : Nat} (ht : T.u t = some (.slice e)) (hz : T.i e = some (z, 1, y)) (h1 : z.oneCell' = true) {k k' : IntKind} {m : Int} (h0 : 0 ≤ m) (hm : m * y ≤ 140737488355328) (hm' : m ≤ 9223372036854775807) (w : World) :
    (Instr.makeSlice t (.int k m) (.int k' m)).run P w = .ok (.slice (some ⟨w.heap.size, 0, none⟩) m.toNat m.toNat) (w.alloc (.cells (List.replicate m.toNat z).toArray e)) := by
  obtain ⟨i, hi, hz0, hsz, hby⟩ := T.I hz
  have hw : IntKind.i64.wrap m = m := IntWalk.i64_in m (by omega)
  have hy : (y : Int) * m = m * y := Int.mul_comm _ _
  have c1 : z.cells = #[z] := by cases z <;> simp [Value.oneCell'] at h1 <;> rfl
  have hrow : (Array.range m.toNat).map (fun x => #[z][x % 1]!) = (List.replicate m.toNat z).toArray := by
    apply Array.toList_inj.1
    simp only [Array.toList_map, Array.toList_range, Nat.mod_one]
    rw [List.map_const']
    simp
  have hnr : ¬ (m.toNat * y > roomBytes) := by
    have : ((m.toNat * y : Nat) : Int) = m * y := by rw [Int.natCast_mul, Int.toNat_of_nonneg h0]
    unfold roomBytes
    omega
  have hnn : ¬ m < 0 := by omega
  have hbig : ¬ (y : Int) * m > 2 ^ 48 := by rw [hy]; omega
  simp only [Instr.makeSlice, Sem.run_bind, run_underlying (T.U ht), Result.andThen_ok, asInt, asIntOf, Sem.run_pure, typeInfo]
  simp [hi, hw, hby, hnn, askRoom, sizeOf, typeInfo, hsz, hz0, zeroValue, newRow, newObj]
  rw [if_neg (by omega)]
  by_cases hm0 : m ≤ 0
  · have : m = 0 := by omega
    subst this
    rw [if_pos hm0]
    have e3 : Array.map (fun x : Nat => (default : Value)) (Array.range (Int.toNat 0)) = Array.replicate (Int.toNat 0) z := by simp
    rw [e3]
    rfl
  · rw [if_neg hm0, c1]
    have e2 : Array.map (fun x => #[z][x % #[z].size]!) (Array.range m.toNat) = Array.replicate m.toNat z := by
      rw [show (#[z] : Array Value).size = 1 from rfl, hrow]
      simp
    rw [e2]
    rfl
theorem e_call {f : FuncId} {fn : Func} {args : Array Operand} {ats : Array TypeId} {vs : List Value} {A F : List Asn} {R : Value → List Asn → Prop} (hd : Nat.blt d n = true) (hv : evs env args.toList = some vs) (hf : P.funcs[f]? = some fn) (hb : fn.body.isSome = true) (hn : (fn.name == "runtime.NumGoroutine") = false)
    (hs : ∀ w, St S w0 hp w → St S w0 (A ++ F) w) (hc : ∀ w, St S w0 (A ++ F) w → Calls P f vs.toArray w (Ret w A R)) (h : ∀ v B, R v B → TK n S w0 K ((d, v) :: env) (B ++ F)) : TO P n S w0 Q ⟨some d, .call { callee := .value (.func f), args := args, argTypes := ats }, ty, pos, af, g⟩ K env hp := fun a w hE hS => by
  have h1 := hE.evs hv
  have h2 : args.map a.eval = vs.toArray := by rw [← h1]; exact Array.toList_inj.1 (by simp)
  have hS' := hs w hS
  have hcall := hc w hS'
  have hrun : (execOp a.eval ⟨some d, .call { callee := .value (.func f), args := args, argTypes := ats }, ty, pos, af, g⟩).run P w = .ok (.enter f vs.toArray) w := by
    simp only [execOp, resolve, h2]
    have hbn : ¬ fn.body = none := by cases hq : fn.body <;> simp [hq] at hb ⊢
    have hne : ¬ fn.name = "runtime.NumGoroutine" := by simpa using hn
    simp [Act.eval, Deferred.ofValue, invoke, callFunc, hf, hne, hbn]
  unfold Oper.wp
  rw [hrun, Oper.upon_enter]
  refine hcall.mono fun e w' he => ?_
  obtain ⟨v, B, rfl, hR, hst⟩ := he
  exact h v B hR _ w' (hE.put hd v) (hS'.join hst)

/-! guards and tests -/
theorem l_gt {o : Oper} {rest : List Oper} {j t : Nat} {want : Bool} (hg : o.guard = some (j, want)) (hj : (ops[j]?).bind (·.dst) = some t) (hb : look env t = some (.bool want))
    (h : TL P n S w0 Q ops (⟨o.dst, o.op, o.type, o.pos, o.after, none⟩ :: rest) env hp) : TL P n S w0 Q ops (o :: rest) env hp := fun a w hE hS => by
  have hy : yielded ops a.tmps j = some want := by
    have := hE.at_ t _ hb
    simp [yielded, hj, this]
  have := h a w hE hS
  unfold wpList at this ⊢
  have h1 : Region.wanted o (yielded ops a.tmps) = true := by simp [Region.wanted, hg, hy]
  have h2 : Region.wanted ⟨o.dst, o.op, o.type, o.pos, o.after, none⟩ (yielded ops a.tmps) = true := by simp [Region.wanted]
  rw [if_pos h1]
  rw [if_pos h2] at this
  exact this
theorem l_gf {o : Oper} {rest : List Oper} {j t d : Nat} {want b : Bool} (hg : o.guard = some (j, want)) (hj : (ops[j]?).bind (·.dst) = some t) (hb : look env t = some (.bool b)) (hbw : b = !want) (hd : o.dst = some d) (hdn : Nat.blt d n = true)
    (h : TL P n S w0 Q ops rest ((d, undef) :: env) hp) : TL P n S w0 Q ops (o :: rest) env hp := fun a w hE hS => by
  have hy : yielded ops a.tmps j = some (!want) := by
    have := hE.at_ t _ hb
    simp [yielded, hj, this, hbw]
  unfold wpList
  have h1 : ¬ Region.wanted o (yielded ops a.tmps) = true := by simp [Region.wanted, hg, hy]
  rw [if_neg h1, hd]
  exact h _ w (hE.put hdn undef) hS
theorem l_split {l : List Oper} (t : Nat) {b : Bool} (hb : look env t = some (.bool b)) (ht : b = true → TL P n S w0 Q ops l ((t, .bool true) :: env) hp) (hf : b = false → TL P n S w0 Q ops l ((t, .bool false) :: env) hp) : TL P n S w0 Q ops l env hp := fun a w hE hS => by
  have key : Fr ((t, .bool b) :: env) n a := ⟨hE.defers, hE.size, fun k v hk => by
    rw [look_cons] at hk
    by_cases e : t = k
    · subst e
      rw [if_pos rfl] at hk
      injection hk with hk
      subst hk
      exact hE.at_ _ _ hb
    · rw [if_neg e] at hk
      exact hE.at_ k v hk⟩
  cases b
  · exact hf rfl a w key hS
  · exact ht rfl a w key hS
/-- Known: a bool. -/
theorem l_known {l : List Oper} (t : Nat) {b : Bool} (c : Bool) (hb : look env t = some (.bool b)) (hc : b = c) (h : TL P n S w0 Q ops l ((t, .bool c) :: env) hp) : TL P n S w0 Q ops l env hp := by
  subst hc
  cases b
  · exact l_split t hb (fun h => by cases h) (fun _ => h)
  · exact l_split t hb (fun _ => h) (fun h => by cases h)
theorem l_gtd {o : Oper} {rest : List Oper} {j t : Nat} {want b : Bool} (hg : o.guard = some (j, want)) (hj : (ops[j]?).bind (·.dst) = some t) (hb : look env t = some (.bool b)) (hw : b = want)
    (h : TL P n S w0 Q ops (⟨o.dst, o.op, o.type, o.pos, o.after, none⟩ :: rest) ((t, .bool want) :: env) hp) : TL P n S w0 Q ops (o :: rest) env hp := by
  refine l_known t want hb hw (l_gt hg hj ?_ h)
  rw [look_cons, if_pos rfl]
theorem l_gfd {o : Oper} {rest : List Oper} {j t d : Nat} {want b : Bool} (hg : o.guard = some (j, want)) (hj : (ops[j]?).bind (·.dst) = some t) (hb : look env t = some (.bool b)) (hw : b = !want) (hd : o.dst = some d) (hdn : Nat.blt d n = true)
    (h : TL P n S w0 Q ops rest ((d, undef) :: (t, .bool (!want)) :: env) hp) : TL P n S w0 Q ops (o :: rest) env hp := by
  refine l_known t (!want) hb hw (l_gf hg hj (b := !want) ?_ rfl hd hdn h)
  rw [look_cons, if_pos rfl]
theorem c_ct {c : Operand} {x y : Code} {b : Bool} (hc : ev env c = some (.bool b)) (hb : b = true) (h : TC P n S w0 Q x env hp) : TC P n S w0 Q (.cond c x y) env hp := c_cond hc (fun _ => h) (fun e => by rw [hb] at e; cases e)
theorem c_cf {c : Operand} {x y : Code} {b : Bool} (hc : ev env c = some (.bool b)) (hb : b = false) (h : TC P n S w0 Q y env hp) : TC P n S w0 Q (.cond c x y) env hp := c_cond hc (fun e => by rw [hb] at e; cases e) (fun _ => h)
theorem l_e {o : Oper} {rest : List Oper} (hg : o.guard = none) (h : ∀ K : Act → World → Prop, (∀ env hp, TL P n S w0 Q ops rest env hp → TK n S w0 K env hp) → TO P n S w0 Q o K env hp) : TL P n S w0 Q ops (o :: rest) env hp := l_op hg h
theorem q_indexAddr1 (T : Tab P) {d : Option Tmp} {t e : TypeId} {x ix : Operand} {b o len cap : Nat} {k : IntKind} {i : Int} {z : Value} {y : Nat} (hx : ev env x = some (.slice (some ⟨b, o, none⟩) len cap)) (hi : ev env ix = some (.int k i)) (ht : T.u t = some (.slice e)) (hz : T.i e = some (z, 1, y)) (h : 0 ≤ i ∧ i < len) :
    Qt P S w0 ⟨d, .indexAddr t x ix, ty, pos, af, g⟩ env hp (.pointer (some ⟨b, o + i.toNat, none⟩)) := by
  have := q_indexAddr (S := S) (w0 := w0) (hp := hp) (d := d) (ty := ty) (pos := pos) (af := af) (g := g) T hx hi ht hz h
  rwa [Nat.mul_one] at this
theorem q_indexAddrA1 (T : Tab P) {d : Option Tmp} {t e : TypeId} {x ix : Operand} {b o len : Nat} {k : IntKind} {i : Int} {z : Value} {y : Nat} (hx : ev env x = some (.pointer (some ⟨b, o, none⟩))) (hi : ev env ix = some (.int k i)) (ht : T.u t = some (.array len e)) (hz : T.i e = some (z, 1, y)) (h : 0 ≤ i ∧ i < len) :
    Qt P S w0 ⟨d, .indexAddr t x ix, ty, pos, af, g⟩ env hp (.pointer (some ⟨b, o + i.toNat, none⟩)) := by
  have := q_indexAddrA (S := S) (w0 := w0) (hp := hp) (d := d) (ty := ty) (pos := pos) (af := af) (g := g) T hx hi ht hz h
  rwa [Nat.mul_one] at this

/-! shapes, so that what does not fit fails at once -/
theorem i_op {o : Oper} {rest : List Oper} (h : TL P n S w0 Q ops (o :: rest) env hp) : TL P n S w0 Q ops (o :: rest) env hp := h
theorem i_dst {op : Op} {rest : List Oper} (h : TL P n S w0 Q ops (⟨some d, op, ty, pos, af, none⟩ :: rest) env hp) : TL P n S w0 Q ops (⟨some d, op, ty, pos, af, none⟩ :: rest) env hp := h
theorem i_store {t : TypeId} {x y : Operand} {rest : List Oper} (h : TL P n S w0 Q ops (⟨none, .store t x y, ty, pos, af, none⟩ :: rest) env hp) : TL P n S w0 Q ops (⟨none, .store t x y, ty, pos, af, none⟩ :: rest) env hp := h
theorem i_guard {o : Option Nat} {op : Op} {j : Nat} {c : Bool} {rest : List Oper} (h : TL P n S w0 Q ops (⟨o, op, ty, pos, af, some (j, c)⟩ :: rest) env hp) : TL P n S w0 Q ops (⟨o, op, ty, pos, af, some (j, c)⟩ :: rest) env hp := h
theorem i_cond {c : Operand} {x y : Code} (h : TC P n S w0 Q (.cond c x y) env hp) : TC P n S w0 Q (.cond c x y) env hp := h
theorem i_k (h : TK n S w0 K env hp) : TK n S w0 K env hp := h
theorem i_q {e : Exit} (h : TQ n S w0 Q e env hp) : TQ n S w0 Q e env hp := h
theorem i_c {c : Code} (h : TC P n S w0 Q c env hp) : TC P n S w0 Q c env hp := h
theorem i_load {rest : List Oper} {t : TypeId} {x : Operand} (h : TL P n S w0 Q ops (⟨some d, .load t x, ty, pos, af, none⟩ :: rest) env hp) : TL P n S w0 Q ops (⟨some d, .load t x, ty, pos, af, none⟩ :: rest) env hp := h
theorem i_bin {rest : List Oper} {b : BinOp} {t u : TypeId} {x y : Operand} (h : TL P n S w0 Q ops (⟨some d, .binOp b t x y u, ty, pos, af, none⟩ :: rest) env hp) : TL P n S w0 Q ops (⟨some d, .binOp b t x y u, ty, pos, af, none⟩ :: rest) env hp := h
theorem i_blt {rest : List Oper} {b : Builtin} {xs : Array Operand} {ts : Array TypeId} (h : TL P n S w0 Q ops (⟨some d, .call ⟨.builtin b, xs, ts⟩, ty, pos, af, none⟩ :: rest) env hp) : TL P n S w0 Q ops (⟨some d, .call ⟨.builtin b, xs, ts⟩, ty, pos, af, none⟩ :: rest) env hp := h
theorem i_ix {rest : List Oper} {t : TypeId} {x y : Operand} (h : TL P n S w0 Q ops (⟨some d, .indexAddr t x y, ty, pos, af, none⟩ :: rest) env hp) : TL P n S w0 Q ops (⟨some d, .indexAddr t x y, ty, pos, af, none⟩ :: rest) env hp := h
theorem i_sl {rest : List Oper} {t : TypeId} {x : Operand} {a b c : Option Operand} (h : TL P n S w0 Q ops (⟨some d, .slice t x a b c, ty, pos, af, none⟩ :: rest) env hp) : TL P n S w0 Q ops (⟨some d, .slice t x a b c, ty, pos, af, none⟩ :: rest) env hp := h
theorem i_move {rest : List Oper} {x : Operand} (h : TL P n S w0 Q ops (⟨some d, .move x, ty, pos, af, none⟩ :: rest) env hp) : TL P n S w0 Q ops (⟨some d, .move x, ty, pos, af, none⟩ :: rest) env hp := h
theorem i_assign {rest : List Oper} {x : Operand} (h : TL P n S w0 Q ops (⟨some d, .assign x, ty, pos, af, none⟩ :: rest) env hp) : TL P n S w0 Q ops (⟨some d, .assign x, ty, pos, af, none⟩ :: rest) env hp := h
theorem iq_load {d : Option Nat} {v : Value} {t : TypeId} {x : Operand} (h : Qt P S w0 ⟨d, .load t x, ty, pos, af, g⟩ env hp v) : Qt P S w0 ⟨d, .load t x, ty, pos, af, g⟩ env hp v := h
theorem iq_bin {d : Option Nat} {v : Value} {b : BinOp} {t u : TypeId} {x y : Operand} (h : Qt P S w0 ⟨d, .binOp b t x y u, ty, pos, af, g⟩ env hp v) : Qt P S w0 ⟨d, .binOp b t x y u, ty, pos, af, g⟩ env hp v := h
theorem iq_blt {d : Option Nat} {v : Value} {b : Builtin} {xs : Array Operand} {ts : Array TypeId} (h : Qt P S w0 ⟨d, .call ⟨.builtin b, xs, ts⟩, ty, pos, af, g⟩ env hp v) : Qt P S w0 ⟨d, .call ⟨.builtin b, xs, ts⟩, ty, pos, af, g⟩ env hp v := h
theorem iq_ix {d : Option Nat} {v : Value} {t : TypeId} {x y : Operand} (h : Qt P S w0 ⟨d, .indexAddr t x y, ty, pos, af, g⟩ env hp v) : Qt P S w0 ⟨d, .indexAddr t x y, ty, pos, af, g⟩ env hp v := h
theorem iq_sl {d : Option Nat} {v : Value} {t : TypeId} {x : Operand} {a b c : Option Operand} (h : Qt P S w0 ⟨d, .slice t x a b c, ty, pos, af, g⟩ env hp v) : Qt P S w0 ⟨d, .slice t x a b c, ty, pos, af, g⟩ env hp v := h
end
end Go.Proofs.Ytboccjdncdaakaa

/-
  What is known of each type of the program: made by mktab.py.
-/

set_option linter.unusedVariables false
set_option maxRecDepth 100000
namespace Go.Proofs.Ytboccjdncdaakaa
theorem info_of {P : Program} {t : TypeId} {i : TypeInfo} (h : ∀ w, (typeInfo t).run P w = .ok i w) : P.info? t = some i := by
  have := h default
  cases hq : P.info? t with
  | none => simp [typeInfo, hq, stuck] at this
  | some j => simp [typeInfo, hq] at this; rw [this]
theorem infOk_of {P : Program} {t : TypeId} {i : TypeInfo} {z : Value} {s b : Nat} (h : ∀ w, (typeInfo t).run P w = .ok i w) (hz : i.zero = some z) (hs : i.size = s) (hb : i.bytes = b) : (P.info? t).map (fun i => (i.zero, i.size, i.bytes)) = some (some z, s, b) := by
  rw [info_of h]
  simp [hz, hs, hb]
set_option maxHeartbeats 4000000 in
noncomputable def tab : Tab Try.prog where
  und := [(0, _), (1, _), (2, _), (3, _), (4, _), (5, _), (6, _), (7, _), (8, _), (9, _), (10, _), (11, _), (12, _), (13, _), (14, _), (15, _), (16, _), (17, _), (18, _), (19, _), (20, _), (21, _), (22, _), (23, _), (24, _), (25, _), (26, _), (27, _), (28, _), (29, _), (30, _), (31, _), (32, _), (33, _), (34, _), (35, _), (36, _), (37, _), (38, _), (39, _), (40, _), (41, _), (42, _), (43, _), (44, _), (45, _), (46, _), (47, _), (48, _), (49, _), (50, _), (51, _), (52, _), (53, _), (54, _), (55, _), (56, _), (57, _), (58, _), (59, _), (60, _), (61, _), (62, _), (63, _), (64, _), (65, _), (66, _), (67, _), (68, _), (69, _), (70, _), (71, _), (72, _), (73, _), (74, _), (75, _), (76, _), (77, _), (78, _), (79, _), (80, _), (81, _), (82, _), (83, _), (84, _), (85, _), (86, _), (87, _), (88, _), (89, _), (90, _), (91, _), (92, _), (93, _), (94, _), (95, _), (96, _), (97, _), (98, _), (99, _), (100, _), (101, _), (102, _), (103, _), (104, _), (105, _), (106, _), (107, _), (108, _), (109, _), (110, _), (111, _), (112, _), (113, _), (114, _), (115, _), (116, _), (117, _), (118, _), (119, _), (120, _), (121, _), (122, _), (123, _), (124, _), (125, _), (126, _), (127, _), (128, _), (129, _), (130, _), (131, _), (132, _), (133, _), (134, _), (135, _), (136, _), (137, _), (138, _), (139, _), (140, _), (141, _), (142, _), (143, _), (144, _), (145, _), (146, _), (147, _), (148, _), (149, _), (150, _), (151, _), (152, _)]
  inf := [(0, (_, 1, 0)), (1, (_, 1, 8)), (2, (_, 1, 8)), (3, (_, 1, 8)), (4, (_, 1, 1)), (5, (_, 1, 1)), (6, (_, 1, 1)), (7, (_, 4, 24)), (8, (_, 4, 24)), (9, (_, 1, 16)), (10, (_, 1, 16)), (11, (_, 1, 16)), (12, (_, 1, 8)), (13, (_, 2, 24)), (14, (_, 2, 24)), (15, (_, 1, 8)), (16, (_, 1, 8)), (17, (_, 1, 8)), (18, (_, 1, 8)), (19, (_, 1, 8)), (20, (_, 1, 16)), (21, (_, 1, 4)), (22, (_, 1, 24)), (23, (_, 1, 24)), (24, (_, 1, 8)), (25, (_, 1, 24)), (26, (_, 8, 40)), (27, (_, 8, 40)), (28, (_, 1, 8)), (29, (_, 1, 8)), (30, (_, 1, 0)), (31, (_, 1, 8)), (32, (_, 1, 24)), (33, (_, 3, 56)), (34, (_, 3, 56)), (35, (_, 1, 8)), (36, (_, 1, 8)), (37, (_, 1, 24)), (38, (_, 1, 24)), (39, (_, 1, 8)), (40, (_, 3, 32)), (41, (_, 3, 32)), (42, (_, 1, 4)), (43, (_, 3, 8)), (44, (_, 3, 8)), (45, (_, 1, 0)), (46, (_, 1, 8)), (47, (_, 1, 8)), (48, (_, 1, 8)), (49, (_, 1, 8)), (50, (_, 1, 8)), (51, (_, 1, 24)), (52, (_, 1, 0)), (53, (_, 1, 8)), (54, (_, 1, 8)), (55, (_, 1, 0)), (56, (_, 1, 8)), (57, (_, 5, 5)), (58, (_, 8, 40)), (59, (_, 8, 40)), (60, (_, 1, 8)), (61, (_, 1, 8)), (62, (_, 1, 8)), (63, (_, 1, 24)), (64, (_, 2, 48)), (65, (_, 2, 48)), (66, (_, 2, 16)), (67, (_, 2, 16)), (68, (_, 1, 8)), (69, (_, 2, 16)), (70, (_, 3, 40)), (71, (_, 3, 40)), (72, (_, 4, 96)), (73, (_, 4, 96)), (74, (_, 4, 96)), (75, (_, 1, 0)), (76, (_, 1, 8)), (77, (_, 1, 8)), (78, (_, 1, 8)), (79, (_, 1, 8)), (80, (_, 1, 0)), (81, (_, 1, 8)), (82, (_, 1, 8)), (83, (_, 1, 8)), (84, (_, 1, 8)), (85, (_, 8, 8)), (86, (_, 11, 24)), (87, (_, 11, 24)), (88, (_, 1, 0)), (89, (_, 1, 8)), (90, (_, 1, 8)), (91, (_, 1, 8)), (92, (_, 1, 8)), (93, (_, 1, 8)), (94, (_, 1, 8)), (95, (_, 1, 8)), (96, (_, 1, 8)), (97, (_, 4, 48)), (98, (_, 4, 48)), (99, (_, 1, 8)), (100, (_, 1, 0)), (101, (_, 1, 8)), (102, (_, 1, 8)), (103, (_, 1, 8)), (104, (_, 1, 8)), (105, (_, 1, 8)), (106, (_, 1, 8)), (107, (_, 1, 0)), (108, (_, 1, 8)), (109, (_, 1, 8)), (110, (_, 1, 8)), (111, (_, 1, 8)), (112, (_, 1, 8)), (113, (_, 1, 8)), (114, (_, 1, 8)), (115, (_, 1, 8)), (116, (_, 1, 8)), (117, (_, 1, 8)), (118, (_, 1, 8)), (119, (_, 1, 8)), (120, (_, 1, 8)), (121, (_, 1, 8)), (122, (_, 1, 8)), (123, (_, 1, 8)), (124, (_, 3, 24)), (125, (_, 3, 24)), (126, (_, 1, 8)), (127, (_, 1, 8)), (128, (_, 1, 0)), (129, (_, 1, 8)), (130, (_, 1, 8)), (131, (_, 1, 8)), (132, (_, 1, 0)), (133, (_, 1, 8)), (134, (_, 1, 0)), (135, (_, 1, 8)), (136, (_, 1, 8)), (137, (_, 1, 8)), (138, (_, 4, 40)), (139, (_, 4, 40)), (140, (_, 0, 0)), (141, (_, 0, 0)), (142, (_, 0, 0)), (143, (_, 1, 8)), (144, (_, 1, 1)), (145, (_, 1, 1)), (146, (_, 1, 8)), (147, (_, 1, 8)), (148, (_, 1, 4)), (149, (_, 1, 4)), (150, (_, 11, 48)), (151, (_, 11, 48)), (152, (_, 1, 8))]
  undOk := ⟨Try.underlying0, Try.underlying1, Try.underlying2, Try.underlying3, Try.underlying4, Try.underlying5, Try.underlying6, Try.underlying7, Try.underlying8, Try.underlying9, Try.underlying10, Try.underlying11, Try.underlying12, Try.underlying13, Try.underlying14, Try.underlying15, Try.underlying16, Try.underlying17, Try.underlying18, Try.underlying19, Try.underlying20, Try.underlying21, Try.underlying22, Try.underlying23, Try.underlying24, Try.underlying25, Try.underlying26, Try.underlying27, Try.underlying28, Try.underlying29, Try.underlying30, Try.underlying31, Try.underlying32, Try.underlying33, Try.underlying34, Try.underlying35, Try.underlying36, Try.underlying37, Try.underlying38, Try.underlying39, Try.underlying40, Try.underlying41, Try.underlying42, Try.underlying43, Try.underlying44, Try.underlying45, Try.underlying46, Try.underlying47, Try.underlying48, Try.underlying49, Try.underlying50, Try.underlying51, Try.underlying52, Try.underlying53, Try.underlying54, Try.underlying55, Try.underlying56, Try.underlying57, Try.underlying58, Try.underlying59, Try.underlying60, Try.underlying61, Try.underlying62, Try.underlying63, Try.underlying64, Try.underlying65, Try.underlying66, Try.underlying67, Try.underlying68, Try.underlying69, Try.underlying70, Try.underlying71, Try.underlying72, Try.underlying73, Try.underlying74, Try.underlying75, Try.underlying76, Try.underlying77, Try.underlying78, Try.underlying79, Try.underlying80, Try.underlying81, Try.underlying82, Try.underlying83, Try.underlying84, Try.underlying85, Try.underlying86, Try.underlying87, Try.underlying88, Try.underlying89, Try.underlying90, Try.underlying91, Try.underlying92, Try.underlying93, Try.underlying94, Try.underlying95, Try.underlying96, Try.underlying97, Try.underlying98, Try.underlying99, Try.underlying100, Try.underlying101, Try.underlying102, Try.underlying103, Try.underlying104, Try.underlying105, Try.underlying106, Try.underlying107, Try.underlying108, Try.underlying109, Try.underlying110, Try.underlying111, Try.underlying112, Try.underlying113, Try.underlying114, Try.underlying115, Try.underlying116, Try.underlying117, Try.underlying118, Try.underlying119, Try.underlying120, Try.underlying121, Try.underlying122, Try.underlying123, Try.underlying124, Try.underlying125, Try.underlying126, Try.underlying127, Try.underlying128, Try.underlying129, Try.underlying130, Try.underlying131, Try.underlying132, Try.underlying133, Try.underlying134, Try.underlying135, Try.underlying136, Try.underlying137, Try.underlying138, Try.underlying139, Try.underlying140, Try.underlying141, Try.underlying142, Try.underlying143, Try.underlying144, Try.underlying145, Try.underlying146, Try.underlying147, Try.underlying148, Try.underlying149, Try.underlying150, Try.underlying151, Try.underlying152, trivial⟩
  infOk := ⟨infOk_of Try.typeInfo0 rfl rfl rfl, infOk_of Try.typeInfo1 rfl rfl rfl, infOk_of Try.typeInfo2 rfl rfl rfl, infOk_of Try.typeInfo3 rfl rfl rfl, infOk_of Try.typeInfo4 rfl rfl rfl, infOk_of Try.typeInfo5 rfl rfl rfl, infOk_of Try.typeInfo6 rfl rfl rfl, infOk_of Try.typeInfo7 rfl rfl rfl, infOk_of Try.typeInfo8 rfl rfl rfl, infOk_of Try.typeInfo9 rfl rfl rfl, infOk_of Try.typeInfo10 rfl rfl rfl, infOk_of Try.typeInfo11 rfl rfl rfl, infOk_of Try.typeInfo12 rfl rfl rfl, infOk_of Try.typeInfo13 rfl rfl rfl, infOk_of Try.typeInfo14 rfl rfl rfl, infOk_of Try.typeInfo15 rfl rfl rfl, infOk_of Try.typeInfo16 rfl rfl rfl, infOk_of Try.typeInfo17 rfl rfl rfl, infOk_of Try.typeInfo18 rfl rfl rfl, infOk_of Try.typeInfo19 rfl rfl rfl, infOk_of Try.typeInfo20 rfl rfl rfl, infOk_of Try.typeInfo21 rfl rfl rfl, infOk_of Try.typeInfo22 rfl rfl rfl, infOk_of Try.typeInfo23 rfl rfl rfl, infOk_of Try.typeInfo24 rfl rfl rfl, infOk_of Try.typeInfo25 rfl rfl rfl, infOk_of Try.typeInfo26 rfl rfl rfl, infOk_of Try.typeInfo27 rfl rfl rfl, infOk_of Try.typeInfo28 rfl rfl rfl, infOk_of Try.typeInfo29 rfl rfl rfl, infOk_of Try.typeInfo30 rfl rfl rfl, infOk_of Try.typeInfo31 rfl rfl rfl, infOk_of Try.typeInfo32 rfl rfl rfl, infOk_of Try.typeInfo33 rfl rfl rfl, infOk_of Try.typeInfo34 rfl rfl rfl, infOk_of Try.typeInfo35 rfl rfl rfl, infOk_of Try.typeInfo36 rfl rfl rfl, infOk_of Try.typeInfo37 rfl rfl rfl, infOk_of Try.typeInfo38 rfl rfl rfl, infOk_of Try.typeInfo39 rfl rfl rfl, infOk_of Try.typeInfo40 rfl rfl rfl, infOk_of Try.typeInfo41 rfl rfl rfl, infOk_of Try.typeInfo42 rfl rfl rfl, infOk_of Try.typeInfo43 rfl rfl rfl, infOk_of Try.typeInfo44 rfl rfl rfl, infOk_of Try.typeInfo45 rfl rfl rfl, infOk_of Try.typeInfo46 rfl rfl rfl, infOk_of Try.typeInfo47 rfl rfl rfl, infOk_of Try.typeInfo48 rfl rfl rfl, infOk_of Try.typeInfo49 rfl rfl rfl, infOk_of Try.typeInfo50 rfl rfl rfl, infOk_of Try.typeInfo51 rfl rfl rfl, infOk_of Try.typeInfo52 rfl rfl rfl, infOk_of Try.typeInfo53 rfl rfl rfl, infOk_of Try.typeInfo54 rfl rfl rfl, infOk_of Try.typeInfo55 rfl rfl rfl, infOk_of Try.typeInfo56 rfl rfl rfl, infOk_of Try.typeInfo57 rfl rfl rfl, infOk_of Try.typeInfo58 rfl rfl rfl, infOk_of Try.typeInfo59 rfl rfl rfl, infOk_of Try.typeInfo60 rfl rfl rfl, infOk_of Try.typeInfo61 rfl rfl rfl, infOk_of Try.typeInfo62 rfl rfl rfl, infOk_of Try.typeInfo63 rfl rfl rfl, infOk_of Try.typeInfo64 rfl rfl rfl, infOk_of Try.typeInfo65 rfl rfl rfl, infOk_of Try.typeInfo66 rfl rfl rfl, infOk_of Try.typeInfo67 rfl rfl rfl, infOk_of Try.typeInfo68 rfl rfl rfl, infOk_of Try.typeInfo69 rfl rfl rfl, infOk_of Try.typeInfo70 rfl rfl rfl, infOk_of Try.typeInfo71 rfl rfl rfl, infOk_of Try.typeInfo72 rfl rfl rfl, infOk_of Try.typeInfo73 rfl rfl rfl, infOk_of Try.typeInfo74 rfl rfl rfl, infOk_of Try.typeInfo75 rfl rfl rfl, infOk_of Try.typeInfo76 rfl rfl rfl, infOk_of Try.typeInfo77 rfl rfl rfl, infOk_of Try.typeInfo78 rfl rfl rfl, infOk_of Try.typeInfo79 rfl rfl rfl, infOk_of Try.typeInfo80 rfl rfl rfl, infOk_of Try.typeInfo81 rfl rfl rfl, infOk_of Try.typeInfo82 rfl rfl rfl, infOk_of Try.typeInfo83 rfl rfl rfl, infOk_of Try.typeInfo84 rfl rfl rfl, infOk_of Try.typeInfo85 rfl rfl rfl, infOk_of Try.typeInfo86 rfl rfl rfl, infOk_of Try.typeInfo87 rfl rfl rfl, infOk_of Try.typeInfo88 rfl rfl rfl, infOk_of Try.typeInfo89 rfl rfl rfl, infOk_of Try.typeInfo90 rfl rfl rfl, infOk_of Try.typeInfo91 rfl rfl rfl, infOk_of Try.typeInfo92 rfl rfl rfl, infOk_of Try.typeInfo93 rfl rfl rfl, infOk_of Try.typeInfo94 rfl rfl rfl, infOk_of Try.typeInfo95 rfl rfl rfl, infOk_of Try.typeInfo96 rfl rfl rfl, infOk_of Try.typeInfo97 rfl rfl rfl, infOk_of Try.typeInfo98 rfl rfl rfl, infOk_of Try.typeInfo99 rfl rfl rfl, infOk_of Try.typeInfo100 rfl rfl rfl, infOk_of Try.typeInfo101 rfl rfl rfl, infOk_of Try.typeInfo102 rfl rfl rfl, infOk_of Try.typeInfo103 rfl rfl rfl, infOk_of Try.typeInfo104 rfl rfl rfl, infOk_of Try.typeInfo105 rfl rfl rfl, infOk_of Try.typeInfo106 rfl rfl rfl, infOk_of Try.typeInfo107 rfl rfl rfl, infOk_of Try.typeInfo108 rfl rfl rfl, infOk_of Try.typeInfo109 rfl rfl rfl, infOk_of Try.typeInfo110 rfl rfl rfl, infOk_of Try.typeInfo111 rfl rfl rfl, infOk_of Try.typeInfo112 rfl rfl rfl, infOk_of Try.typeInfo113 rfl rfl rfl, infOk_of Try.typeInfo114 rfl rfl rfl, infOk_of Try.typeInfo115 rfl rfl rfl, infOk_of Try.typeInfo116 rfl rfl rfl, infOk_of Try.typeInfo117 rfl rfl rfl, infOk_of Try.typeInfo118 rfl rfl rfl, infOk_of Try.typeInfo119 rfl rfl rfl, infOk_of Try.typeInfo120 rfl rfl rfl, infOk_of Try.typeInfo121 rfl rfl rfl, infOk_of Try.typeInfo122 rfl rfl rfl, infOk_of Try.typeInfo123 rfl rfl rfl, infOk_of Try.typeInfo124 rfl rfl rfl, infOk_of Try.typeInfo125 rfl rfl rfl, infOk_of Try.typeInfo126 rfl rfl rfl, infOk_of Try.typeInfo127 rfl rfl rfl, infOk_of Try.typeInfo128 rfl rfl rfl, infOk_of Try.typeInfo129 rfl rfl rfl, infOk_of Try.typeInfo130 rfl rfl rfl, infOk_of Try.typeInfo131 rfl rfl rfl, infOk_of Try.typeInfo132 rfl rfl rfl, infOk_of Try.typeInfo133 rfl rfl rfl, infOk_of Try.typeInfo134 rfl rfl rfl, infOk_of Try.typeInfo135 rfl rfl rfl, infOk_of Try.typeInfo136 rfl rfl rfl, infOk_of Try.typeInfo137 rfl rfl rfl, infOk_of Try.typeInfo138 rfl rfl rfl, infOk_of Try.typeInfo139 rfl rfl rfl, infOk_of Try.typeInfo140 rfl rfl rfl, infOk_of Try.typeInfo141 rfl rfl rfl, infOk_of Try.typeInfo142 rfl rfl rfl, infOk_of Try.typeInfo143 rfl rfl rfl, infOk_of Try.typeInfo144 rfl rfl rfl, infOk_of Try.typeInfo145 rfl rfl rfl, infOk_of Try.typeInfo146 rfl rfl rfl, infOk_of Try.typeInfo147 rfl rfl rfl, infOk_of Try.typeInfo148 rfl rfl rfl, infOk_of Try.typeInfo149 rfl rfl rfl, infOk_of Try.typeInfo150 rfl rfl rfl, infOk_of Try.typeInfo151 rfl rfl rfl, infOk_of Try.typeInfo152 rfl rfl rfl, trivial⟩
  fld := [(7, [0, 1, 2, 3]), (8, [0, 1, 2, 3]), (13, [0, 1]), (14, [0, 1]), (18, [0]), (19, [0]), (26, [0, 1, 2, 3, 4, 5, 6, 7]), (27, [0, 1, 2, 3, 4, 5, 6, 7]), (33, [0, 1, 2]), (34, [0, 1, 2]), (40, [0, 1, 2]), (41, [0, 1, 2]), (43, [0, 1, 2]), (44, [0, 1, 2]), (58, [0, 1, 6, 7]), (59, [0, 1, 6, 7]), (64, [0, 1]), (65, [0, 1]), (66, [0, 1]), (67, [0, 1]), (70, [0, 1]), (71, [0, 1]), (73, [0]), (74, [0]), (86, [0, 1, 2, 3]), (87, [0, 1, 2, 3]), (97, [0, 1, 2, 3]), (98, [0, 1, 2, 3]), (124, [0, 1, 2]), (125, [0, 1, 2]), (138, [0, 1, 2, 3]), (139, [0, 1, 2, 3]), (141, [0]), (142, [0]), (150, [0, 1, 2, 3, 4, 5, 6, 7, 8, 9, 10]), (151, [0, 1, 2, 3, 4, 5, 6, 7, 8, 9, 10])]
  fldOk := ⟨⟨_, Try.underlying7, by simp⟩, ⟨_, Try.underlying8, by simp⟩, ⟨_, Try.underlying13, by simp⟩, ⟨_, Try.underlying14, by simp⟩, ⟨_, Try.underlying18, by simp⟩, ⟨_, Try.underlying19, by simp⟩, ⟨_, Try.underlying26, by simp⟩, ⟨_, Try.underlying27, by simp⟩, ⟨_, Try.underlying33, by simp⟩, ⟨_, Try.underlying34, by simp⟩, ⟨_, Try.underlying40, by simp⟩, ⟨_, Try.underlying41, by simp⟩, ⟨_, Try.underlying43, by simp⟩, ⟨_, Try.underlying44, by simp⟩, ⟨_, Try.underlying58, by simp⟩, ⟨_, Try.underlying59, by simp⟩, ⟨_, Try.underlying64, by simp⟩, ⟨_, Try.underlying65, by simp⟩, ⟨_, Try.underlying66, by simp⟩, ⟨_, Try.underlying67, by simp⟩, ⟨_, Try.underlying70, by simp⟩, ⟨_, Try.underlying71, by simp⟩, ⟨_, Try.underlying73, by simp⟩, ⟨_, Try.underlying74, by simp⟩, ⟨_, Try.underlying86, by simp⟩, ⟨_, Try.underlying87, by simp⟩, ⟨_, Try.underlying97, by simp⟩, ⟨_, Try.underlying98, by simp⟩, ⟨_, Try.underlying124, by simp⟩, ⟨_, Try.underlying125, by simp⟩, ⟨_, Try.underlying138, by simp⟩, ⟨_, Try.underlying139, by simp⟩, ⟨_, Try.underlying141, by simp⟩, ⟨_, Try.underlying142, by simp⟩, ⟨_, Try.underlying150, by simp⟩, ⟨_, Try.underlying151, by simp⟩, trivial⟩
theorem mixed : Try.prog.follows .mixedOrders = true := by kernel_rfl
end Go.Proofs.Ytboccjdncdaakaa

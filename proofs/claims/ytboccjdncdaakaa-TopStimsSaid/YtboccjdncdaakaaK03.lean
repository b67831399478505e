/-
  append and copy, calls of function values, and regions that draw their order.
-/
import Derived.Test.YtboccjdncdaakaaK02


set_option linter.unusedVariables false
set_option maxRecDepth 100000
namespace Go.Proofs.Ytboccjdncdaakaa
open Go.RowKit

/-- The cells that a slice (or nil) has. -/
def SrcAt (w : World) (A : Option Addr) (q : Nat) (news : List Value) : Prop := news.length = q ∧ (0 < q → ∃ b o, A = some ⟨b, o, none⟩ ∧ CellsAt w b o news)
theorem SrcAt.nil (w : World) (A : Option Addr) : SrcAt w A 0 [] := ⟨rfl, fun h => by omega⟩
theorem SrcAt.blk {w : World} {b q : Nat} {l : List Value} {t : TypeId} (h : (blk b l t).C w) (hl : l.length = q) : SrcAt w (some ⟨b, 0, none⟩) q l := ⟨hl, fun _ => ⟨b, 0, rfl, fun j u hu => by rw [Nat.zero_add]; exact blk_cell h hu⟩⟩
theorem blk_cells {b o q : Nat} {l vs : List Value} {t : TypeId} {w : World} (h : (blk b l t).C w) (hv : (l.drop o).take q = vs) : CellsAt w b o vs := fun j u hu => by
  subst hv
  have : l[o + j]? = some u := by
    rw [List.getElem?_take] at hu
    split at hu
    · rwa [List.getElem?_drop] at hu
    · cases hu
  exact blk_cell h this
theorem row_src {e : TypeId} {size : Nat} {A : Option Addr} {c n : Nat} {xs : List Value} {w : World} (h : (row e size (.slice A n c) n xs).C w) : SrcAt w A (n * size) xs := by
  have h' : w.ownsRow 0 e size (.slice A n c) n xs := h
  refine ⟨h'.1, fun hn => ?_⟩
  rcases h'.2 with ⟨h1, h2⟩ | ⟨g, cap, cur, h1, _⟩
  · subst h2; omega
  · injection h1 with h1
    subst h1
    refine ⟨g, 0, rfl, fun j u hu => ?_⟩
    have := World.ownsRow.cells h' (g := g) rfl j u hu
    rwa [Addr.add_lit] at this
/-- A row of a call's own. -/
theorem row_of_blk {b : Nat} {l : List Value} {e : TypeId} {w : World} (h : (blk b l e).C w) (size n cap : Nat) (hn : n ≤ cap) (hc : cap ≤ maxLen) (hl : l.length = cap * size) (xs : List Value) (hx : l.take (n * size) = xs) : (row e size (.slice (some ⟨b, 0, none⟩) n cap) n xs).C w := by
  refine ⟨?_, .inr ⟨b, cap, l.toArray, rfl, Nat.zero_le _, h, hn, hc, by simpa using hl, by simpa using hx⟩⟩
  rw [← hx, List.length_take, hl]
  exact Nat.min_eq_left (Nat.mul_le_mul_right _ hn)
/-- A row, laid open. -/
theorem row_blk {e : TypeId} {size : Nat} {v : Value} {n : Nat} {xs : List Value} {w : World} (h : (row e size v n xs).C w) (hn : 0 < n) : ∃ g cap junk, v = .slice (some ⟨g, 0, none⟩) n cap ∧ n ≤ cap ∧ cap ≤ maxLen ∧ (xs ++ junk).length = cap * size ∧ (blk g (xs ++ junk) e).C w := by
  have h' : w.ownsRow 0 e size v n xs := h
  rcases h'.2 with ⟨_, h2⟩ | ⟨g, cap, cur, h1, _, h2, h3, h4, h5, h6⟩
  · omega
  · refine ⟨g, cap, cur.toList.drop (n * size), h1, h3, h4, ?_, ?_⟩
    · rw [← h6, List.take_append_drop]; simpa using h5
    · show w.heap[g]? = _
      rw [← h6, List.take_append_drop, h2]

def RowT {P : Program} (T : Tab P) (t e : TypeId) (size bytes : Nat) (z : Value) : Prop := T.u t = some (.slice e) ∧ T.i e = some (z, size, bytes) ∧ z.cells.size = size ∧ 0 < size
theorem run_app {P : Program} (T : Tab P) (w : World) (t ty : TypeId) {e : TypeId} {size bytes : Nat} {z : Value} (hT : RowT T t e size bytes z) {v : Value} {n : Nat} {xs : List Value} (hown : w.ownsRow 0 e size v n xs)
    {A : Option Addr} {m : Nat} (c : Nat) {news : List Value} (hr : SrcAt w A (m * size) news) (h1 : ∀ u ∈ news, u.oneCell' = true) (h63 : n + m ≤ maxLen) (hbytes : (n + m) * bytes ≤ 140737488355328) :
    ∃ v' w', (Builtin.append_ #[t, t] ty #[v, .slice A m c]).run P w = .ok v' w' ∧ w'.ownsRow 0 e size v' (n + m) (xs ++ news) ∧ w.grownBy w' v.ownBlock ∧ (v'.ownBlock = v.ownBlock ∨ v'.ownBlock = some w.heap.size) := by
  obtain ⟨ht0, hi0, hzs, hsz⟩ := hT
  have ht := T.U ht0
  obtain ⟨i, hi, hz, hsize, hby⟩ := T.I hi0
  rcases Nat.eq_zero_or_pos m with rfl | hm
  · have hn0 : news = [] := List.eq_nil_of_length_eq_zero (by simpa using hr.1)
    subst hn0
    rcases A with _ | ad
    · refine ⟨v, w, ?_, by simpa using hown, World.grownBy.refl w _, .inl rfl⟩
      rcases hown.2 with ⟨rfl, rfl⟩ | ⟨g, cap, cur, rfl, _, _, hnc, _⟩
      · simp [Builtin.append_, run_underlying ht, sizeOf, typeInfo, hi, Builtin.lenOf, Builtin.firstCells]
      · simp [Builtin.append_, run_underlying ht, sizeOf, typeInfo, hi, Builtin.lenOf, Builtin.firstCells, hnc, storeCells]
    · obtain ⟨v', w', a1, a2, a3, _, a5⟩ := run_append_own_at (P := P) w 0 t ty e i z size bytes ht hi hz hsize hby hzs hsz v n xs hown ad 0 c [] (by simp) (by simp) (by simp) h63 hbytes (Nat.zero_le _)
      exact ⟨v', w', a1, a2, a3, a5⟩
  · obtain ⟨b, off, rfl, hc⟩ := hr.2 (Nat.mul_pos hm hsz)
    obtain ⟨v', w', a1, a2, a3, _, a5⟩ := run_append_own_at (P := P) w 0 t ty e i z size bytes ht hi hz hsize hby hzs hsz v n xs hown ⟨b, off, none⟩ m c news hr.1 (fun j u hu => by rw [Addr.add_lit]; exact hc j u hu) h1 h63 hbytes (Nat.zero_le _)
    exact ⟨v', w', a1, a2, a3, a5⟩

section
variable {P : Program} {n : Nat} {S : Nat → Prop} {w0 w : World} {Q : Exit → Act → World → Prop} {ops : Array Oper} {env : Env} {hp : List Asn}
variable {d : Nat} {ty : TypeId} {pos : String} {af : Array Edge} {g : Option (Nat × Bool)} {K : Act → World → Prop}

theorem run_eqslIn (T : Tab P) {t e : TypeId} (ht : T.u t = some (.slice e)) (A : Option Addr) (m c : Nat) (w : World) (k : Nat) : (Op.equalIn (k + 1) t (.slice A m c) (.slice none 0 0)).run P w = .ok A.isNone w := by
  cases A <;> simp [Op.equalIn, run_underlying (T.U ht)]
theorem q_eqsl (T : Tab P) {d : Option Nat} {t yt e : TypeId} {x y : Operand} {A : Option Addr} {m c : Nat} (hx : ev env x = some (.slice A m c)) (hy : ev env y = some (.slice none 0 0)) (ht : T.u t = some (.slice e)) : Qt P S w0 ⟨d, .binOp .eql t x y yt, ty, pos, af, g⟩ env hp (.bool A.isNone) := fun n a w hE hS => by
  have : (Op.equal t (.slice A m c) (.slice none 0 0)).run P w = .ok A.isNone w := run_eqslIn T ht A m c w 9999
  simp [execOp, hE.ev hx, hE.ev hy, eqGuard, binOp, this]
theorem st_nil (h : St S w0 hp w) (e : TypeId) (size : Nat) : St S w0 (row e size (.slice none 0 0) 0 [] :: hp) w :=
  h.new (Kept.refl _ _) (World.ownsRow_nil _ _ _ _) (fun b hb => by cases hb)
theorem e_append (T : Tab P) {t e : TypeId} {x y : Operand} {v : Value} {size bytes m k c : Nat} {z : Value} {xs news : List Value} {A : Option Addr} {i : Nat} (hd : Nat.blt d n = true) (hx : ev env x = some v) (hy : ev env y = some (.slice A k c)) (hi : hp[i]? = some (row e size v m xs)) (hT : RowT T t e size bytes z)
    (hr : ∀ w, St S w0 hp w → SrcAt w A (k * size) news) (h1 : ∀ u ∈ news, u.oneCell' = true) (h63 : m + k ≤ maxLen) (hb : (m + k) * bytes ≤ 140737488355328)
    (h : ∀ A' c', m + k ≤ c' → c' ≤ maxLen → TK n S w0 K ((d, .slice A' (m + k) c') :: env) (hp.set i (row e size (.slice A' (m + k) c') (m + k) (xs ++ news)))) : TO P n S w0 Q ⟨some d, .call { callee := .builtin .append, args := #[x, y], argTypes := #[t, t] }, ty, pos, af, g⟩ K env hp := fun a w hE hS => by
  obtain ⟨v', w', hrun, h2, h3, h4⟩ := run_app T w t ty hT (hS.get hi) c (hr w hS) h1 h63 hb
  obtain ⟨A', c', rfl, q1, q2⟩ : ∃ A' c', v' = .slice A' (m + k) c' ∧ m + k ≤ c' ∧ c' ≤ maxLen := by
    rcases h2.2 with ⟨e1, e2⟩ | ⟨g, cap, cur, e1, _, _, e2, e3, _⟩
    · exact ⟨none, 0, by rw [e1, e2], by omega, Nat.zero_le _⟩
    · exact ⟨_, cap, e1, e2, e3⟩
  have := h A' c' q1 q2 _ w' (hE.put hd _) (hS.repl hi (w' := w') ⟨h3.os, h3.tape, h3.output, h3.size, fun k hk hn => h3.block k hk (fun e => hn e.symm)⟩ h2 (fun b hb => ?_))
  · unfold Oper.wp execOp
    simp only [resolve, invoke, builtin, Sem.run_bind, Sem.run_pure, Result.andThen_ok, List.map_toArray, List.map_cons, List.map_nil, hE.ev hx, hE.ev hy, hrun]
    exact this
  · have hb' : (Value.slice A' (m + k) c').ownBlock = some b := hb
    rcases h4 with h4 | h4
    · exact .inl (h4.symm.trans hb')
    · rw [h4] at hb'
      injection hb' with hb'
      exact .inr (by omega)
/-- copy, of elements of a cell. -/
theorem e_copy (T : Tab P) {t e : TypeId} {x y : Operand} {b o m c k c' : Nat} {A : Option Addr} {z : Value} {by_ : Nat} {news l : List Value} {t' : TypeId} {i : Nat} (hd : Nat.blt d n = true) (hx : ev env x = some (.slice (some ⟨b, o, none⟩) m c)) (hy : ev env y = some (.slice A k c')) (ht : T.u t = some (.slice e)) (hz : T.i e = some (z, 1, by_))
    (hi : hp[i]? = some (blk b l t')) (hl : o + m ≤ l.length) (hr : ∀ w, St S w0 hp w → SrcAt w A k news) (h1 : ∀ u ∈ news, u.oneCell' = true)
    (h : TK n S w0 K ((d, .int .i64 ((min k m : Nat) : Int)) :: env) (hp.set i (blk b (setAt l o (news.take (min k m))) t'))) : TO P n S w0 Q ⟨some d, .call { callee := .builtin .copy, args := #[x, y], argTypes := #[t, t] }, ty, pos, af, g⟩ K env hp := fun a w hE hS => by
  have hsrc := hr w hS
  have hlen : (news.take (min k m)).length = min k m := by rw [List.length_take, hsrc.1]; omega
  have hfc : (Builtin.firstCells 1 (min k m) (.slice A k c')).run P w = .ok (news.take (min k m)).toArray w := by
    rcases Nat.eq_zero_or_pos (min k m) with h0 | h0
    · rw [h0]
      cases A <;> simp [Builtin.firstCells, loadCells, loadCellsFrom]
    · obtain ⟨b', o', rfl, hc⟩ := hsrc.2 (by omega)
      simp only [Builtin.firstCells, Nat.mul_one]
      exact run_loadCells' P (fun j u hu => hc j u (by
        rw [List.getElem?_take] at hu
        split at hu
        · exact hu
        · cases hu)) hlen
  obtain ⟨w', h2, h3, h4⟩ := run_storeCells' (P := P) o (news.take (min k m)) 0 l w (hS.get hi) (by rw [hlen]; omega) (fun u hu => h1 u (List.mem_of_mem_take hu))
  have hrun : (Builtin.copy_ #[t, t] ty #[.slice (some ⟨b, o, none⟩) m c, .slice A k c']).run P w = .ok (.int .i64 ((min k m : Nat) : Int)) w' := by
    simp only [Builtin.copy_]
    simp [run_underlying (T.U ht), Builtin.lenOf, T.size hz, goInt]
    rw [show Nat.min k m = min k m from rfl, hfc]
    simp [h2]
  have := h _ w' (hE.put hd _) (hS.repl hi h4 (by simpa using h3) (fun _ h => .inl h))
  unfold Oper.wp execOp
  simp only [resolve, invoke, builtin, Sem.run_bind, Sem.run_pure, Result.andThen_ok, List.map_toArray, List.map_cons, List.map_nil, hE.ev hx, hE.ev hy, hrun]
  exact this
/-- copy of nothing. -/
theorem e_copy0 (T : Tab P) {t e : TypeId} {x y : Operand} {B : Option Addr} {m c k c' : Nat} {A : Option Addr} {z : Value} {sz by_ : Nat} (hd : Nat.blt d n = true) (hx : ev env x = some (.slice B m c)) (hy : ev env y = some (.slice A k c')) (ht : T.u t = some (.slice e)) (hz : T.i e = some (z, sz, by_)) (h0 : min k m = 0)
    (h : TK n S w0 K ((d, .int .i64 0) :: env) hp) : TO P n S w0 Q ⟨some d, .call { callee := .builtin .copy, args := #[x, y], argTypes := #[t, t] }, ty, pos, af, g⟩ K env hp := fun a w hE hS => by
  have hrun : (Builtin.copy_ #[t, t] ty #[.slice B m c, .slice A k c']).run P w = .ok (.int .i64 0) w := by
    simp only [Builtin.copy_]
    simp [run_underlying (T.U ht), Builtin.lenOf, T.size hz, goInt]
    rw [show Nat.min k m = 0 from h0]
    cases A <;> cases B <;> simp [Builtin.firstCells, loadCells, loadCellsFrom, storeCells]
  have := h _ w (hE.put hd _) hS
  unfold Oper.wp execOp
  simp only [resolve, invoke, builtin, Sem.run_bind, Sem.run_pure, Result.andThen_ok, List.map_toArray, List.map_cons, List.map_nil, hE.ev hx, hE.ev hy, hrun]
  exact this
/-- A function value is called. -/
theorem e_callv {f : FuncId} {fn : Func} {p : Operand} {args : Array Operand} {ats : Array TypeId} {vs cap : List Value} {A F : List Asn} {R : Value → List Asn → Prop} (hd : Nat.blt d n = true) (hp_ : ev env p = some (.func (.func f) #[] cap.toArray)) (hv : evs env args.toList = some vs) (hf : P.funcs[f]? = some fn) (hb : fn.body.isSome = true) (hn : (fn.name == "runtime.NumGoroutine") = false)
    (hs : ∀ w, St S w0 hp w → St S w0 (A ++ F) w) (hc : ∀ w, St S w0 (A ++ F) w → Calls P f (vs ++ cap).toArray w (Ret w A R)) (h : ∀ v B, R v B → TK n S w0 K ((d, v) :: env) (B ++ F)) : TO P n S w0 Q ⟨some d, .call { callee := .value p, args := args, argTypes := ats }, ty, pos, af, g⟩ K env hp := fun a w hE hS => by
  have h1 := hE.evs hv
  have h2 : args.map a.eval = vs.toArray := by rw [← h1]; exact Array.toList_inj.1 (by simp)
  have hS' := hs w hS
  have hcall := hc w hS'
  have hrun : (execOp a.eval ⟨some d, .call { callee := .value p, args := args, argTypes := ats }, ty, pos, af, g⟩).run P w = .ok (.enter f (vs ++ cap).toArray) w := by
    simp only [execOp, resolve, h2, hE.ev hp_]
    have hbn : ¬ fn.body = none := by cases hq : fn.body <;> simp [hq] at hb ⊢
    have hne : ¬ fn.name = "runtime.NumGoroutine" := by simpa using hn
    simp [Deferred.ofValue, invoke, callFunc, hf, hne, hbn]
  unfold Oper.wp
  rw [hrun, Oper.upon_enter]
  refine hcall.mono fun e w' he => ?_
  obtain ⟨v, B, rfl, hR, hst⟩ := he
  exact h v B hR _ w' (hE.put hd v) (hS'.join hst)
theorem e_call0 {f : FuncId} {fn : Func} {args : Array Operand} {ats : Array TypeId} {vs : List Value} {R : Value → List Asn → Prop} (hd : Nat.blt d n = true) (hv : evs env args.toList = some vs) (hf : P.funcs[f]? = some fn) (hb : fn.body.isSome = true) (hn : (fn.name == "runtime.NumGoroutine") = false)
    (hc : ∀ w, St S w0 hp w → Calls P f vs.toArray w (Ret w [] R)) (h : ∀ v B, R v B → TK n S w0 K ((d, v) :: env) (B ++ hp)) : TO P n S w0 Q ⟨some d, .call { callee := .value (.func f), args := args, argTypes := ats }, ty, pos, af, g⟩ K env hp :=
  e_call (A := []) (F := hp) hd hv hf hb hn (fun _ h => h) hc h
theorem roOf0 {S : Nat → Prop} {w0 w : World} {hp : List Asn} (h : St S w0 hp w) {r : Asn} (hr : Ro S w0 r) : Ro (fps []) w r := Ro.empty (h.ro hr)
theorem roHp0 {S : Nat → Prop} {w0 w : World} {hp : List Asn} (h : St S w0 hp w) {i : Nat} {r : Asn} (hi : hp[i]? = some r) : Ro (fps []) w r := Ro.empty (h.get hi)
end

section
variable {P : Program} {S : Nat → Prop} {w0 : World} {env : Env} {hp : List Asn} {d : Option Tmp} {ty : TypeId} {pos : String} {af : Array Edge} {g : Option (Nat × Bool)}
theorem q_loadB2 {t : TypeId} (T : Tab P) (i : Nat) {x : Operand} {b o : Nat} {l : List Value} {t' : TypeId} {v0 v1 : Value} {dt : TypeDesc} {z : Value} {y : Nat} (hx : ev env x = some (.pointer (some ⟨b, o, none⟩))) (ht : T.u t = some dt) (ha : aggB dt = true) (hz : T.i t = some (z, 2, y)) (hi : hp[i]? = some (blk b l t')) (h0 : l[o + 0]? = some v0) (h1 : l[o + 1]? = some v1) : Qt P S w0 ⟨d, .load t x, ty, pos, af, g⟩ env hp (.agg #[v0, v1]) :=
  q_loadN (vs := [v0, v1]) T hx ht ha hz rfl (fun w h j u hu => blk_cell (h.get hi) (by
    match j, hu with
    | 0, hu => injection hu with hu; subst hu; exact h0
    | 1, hu => injection hu with hu; subst hu; exact h1))
theorem q_loadB3 {t : TypeId} (T : Tab P) (i : Nat) {x : Operand} {b o : Nat} {l : List Value} {t' : TypeId} {v0 v1 v2 : Value} {dt : TypeDesc} {z : Value} {y : Nat} (hx : ev env x = some (.pointer (some ⟨b, o, none⟩))) (ht : T.u t = some dt) (ha : aggB dt = true) (hz : T.i t = some (z, 3, y)) (hi : hp[i]? = some (blk b l t')) (h0 : l[o + 0]? = some v0) (h1 : l[o + 1]? = some v1) (h2 : l[o + 2]? = some v2) : Qt P S w0 ⟨d, .load t x, ty, pos, af, g⟩ env hp (.agg #[v0, v1, v2]) :=
  q_loadN (vs := [v0, v1, v2]) T hx ht ha hz rfl (fun w h j u hu => blk_cell (h.get hi) (by
    match j, hu with
    | 0, hu => injection hu with hu; subst hu; exact h0
    | 1, hu => injection hu with hu; subst hu; exact h1
    | 2, hu => injection hu with hu; subst hu; exact h2))
theorem q_loadB4 {t : TypeId} (T : Tab P) (i : Nat) {x : Operand} {b o : Nat} {l : List Value} {t' : TypeId} {v0 v1 v2 v3 : Value} {dt : TypeDesc} {z : Value} {y : Nat} (hx : ev env x = some (.pointer (some ⟨b, o, none⟩))) (ht : T.u t = some dt) (ha : aggB dt = true) (hz : T.i t = some (z, 4, y)) (hi : hp[i]? = some (blk b l t')) (h0 : l[o + 0]? = some v0) (h1 : l[o + 1]? = some v1) (h2 : l[o + 2]? = some v2) (h3 : l[o + 3]? = some v3) : Qt P S w0 ⟨d, .load t x, ty, pos, af, g⟩ env hp (.agg #[v0, v1, v2, v3]) :=
  q_loadN (vs := [v0, v1, v2, v3]) T hx ht ha hz rfl (fun w h j u hu => blk_cell (h.get hi) (by
    match j, hu with
    | 0, hu => injection hu with hu; subst hu; exact h0
    | 1, hu => injection hu with hu; subst hu; exact h1
    | 2, hu => injection hu with hu; subst hu; exact h2
    | 3, hu => injection hu with hu; subst hu; exact h3))
theorem q_loadB5 {t : TypeId} (T : Tab P) (i : Nat) {x : Operand} {b o : Nat} {l : List Value} {t' : TypeId} {v0 v1 v2 v3 v4 : Value} {dt : TypeDesc} {z : Value} {y : Nat} (hx : ev env x = some (.pointer (some ⟨b, o, none⟩))) (ht : T.u t = some dt) (ha : aggB dt = true) (hz : T.i t = some (z, 5, y)) (hi : hp[i]? = some (blk b l t')) (h0 : l[o + 0]? = some v0) (h1 : l[o + 1]? = some v1) (h2 : l[o + 2]? = some v2) (h3 : l[o + 3]? = some v3) (h4 : l[o + 4]? = some v4) : Qt P S w0 ⟨d, .load t x, ty, pos, af, g⟩ env hp (.agg #[v0, v1, v2, v3, v4]) :=
  q_loadN (vs := [v0, v1, v2, v3, v4]) T hx ht ha hz rfl (fun w h j u hu => blk_cell (h.get hi) (by
    match j, hu with
    | 0, hu => injection hu with hu; subst hu; exact h0
    | 1, hu => injection hu with hu; subst hu; exact h1
    | 2, hu => injection hu with hu; subst hu; exact h2
    | 3, hu => injection hu with hu; subst hu; exact h3
    | 4, hu => injection hu with hu; subst hu; exact h4))
theorem q_loadB6 {t : TypeId} (T : Tab P) (i : Nat) {x : Operand} {b o : Nat} {l : List Value} {t' : TypeId} {v0 v1 v2 v3 v4 v5 : Value} {dt : TypeDesc} {z : Value} {y : Nat} (hx : ev env x = some (.pointer (some ⟨b, o, none⟩))) (ht : T.u t = some dt) (ha : aggB dt = true) (hz : T.i t = some (z, 6, y)) (hi : hp[i]? = some (blk b l t')) (h0 : l[o + 0]? = some v0) (h1 : l[o + 1]? = some v1) (h2 : l[o + 2]? = some v2) (h3 : l[o + 3]? = some v3) (h4 : l[o + 4]? = some v4) (h5 : l[o + 5]? = some v5) : Qt P S w0 ⟨d, .load t x, ty, pos, af, g⟩ env hp (.agg #[v0, v1, v2, v3, v4, v5]) :=
  q_loadN (vs := [v0, v1, v2, v3, v4, v5]) T hx ht ha hz rfl (fun w h j u hu => blk_cell (h.get hi) (by
    match j, hu with
    | 0, hu => injection hu with hu; subst hu; exact h0
    | 1, hu => injection hu with hu; subst hu; exact h1
    | 2, hu => injection hu with hu; subst hu; exact h2
    | 3, hu => injection hu with hu; subst hu; exact h3
    | 4, hu => injection hu with hu; subst hu; exact h4
    | 5, hu => injection hu with hu; subst hu; exact h5))
theorem q_loadB7 {t : TypeId} (T : Tab P) (i : Nat) {x : Operand} {b o : Nat} {l : List Value} {t' : TypeId} {v0 v1 v2 v3 v4 v5 v6 : Value} {dt : TypeDesc} {z : Value} {y : Nat} (hx : ev env x = some (.pointer (some ⟨b, o, none⟩))) (ht : T.u t = some dt) (ha : aggB dt = true) (hz : T.i t = some (z, 7, y)) (hi : hp[i]? = some (blk b l t')) (h0 : l[o + 0]? = some v0) (h1 : l[o + 1]? = some v1) (h2 : l[o + 2]? = some v2) (h3 : l[o + 3]? = some v3) (h4 : l[o + 4]? = some v4) (h5 : l[o + 5]? = some v5) (h6 : l[o + 6]? = some v6) : Qt P S w0 ⟨d, .load t x, ty, pos, af, g⟩ env hp (.agg #[v0, v1, v2, v3, v4, v5, v6]) :=
  q_loadN (vs := [v0, v1, v2, v3, v4, v5, v6]) T hx ht ha hz rfl (fun w h j u hu => blk_cell (h.get hi) (by
    match j, hu with
    | 0, hu => injection hu with hu; subst hu; exact h0
    | 1, hu => injection hu with hu; subst hu; exact h1
    | 2, hu => injection hu with hu; subst hu; exact h2
    | 3, hu => injection hu with hu; subst hu; exact h3
    | 4, hu => injection hu with hu; subst hu; exact h4
    | 5, hu => injection hu with hu; subst hu; exact h5
    | 6, hu => injection hu with hu; subst hu; exact h6))
theorem q_loadB8 {t : TypeId} (T : Tab P) (i : Nat) {x : Operand} {b o : Nat} {l : List Value} {t' : TypeId} {v0 v1 v2 v3 v4 v5 v6 v7 : Value} {dt : TypeDesc} {z : Value} {y : Nat} (hx : ev env x = some (.pointer (some ⟨b, o, none⟩))) (ht : T.u t = some dt) (ha : aggB dt = true) (hz : T.i t = some (z, 8, y)) (hi : hp[i]? = some (blk b l t')) (h0 : l[o + 0]? = some v0) (h1 : l[o + 1]? = some v1) (h2 : l[o + 2]? = some v2) (h3 : l[o + 3]? = some v3) (h4 : l[o + 4]? = some v4) (h5 : l[o + 5]? = some v5) (h6 : l[o + 6]? = some v6) (h7 : l[o + 7]? = some v7) : Qt P S w0 ⟨d, .load t x, ty, pos, af, g⟩ env hp (.agg #[v0, v1, v2, v3, v4, v5, v6, v7]) :=
  q_loadN (vs := [v0, v1, v2, v3, v4, v5, v6, v7]) T hx ht ha hz rfl (fun w h j u hu => blk_cell (h.get hi) (by
    match j, hu with
    | 0, hu => injection hu with hu; subst hu; exact h0
    | 1, hu => injection hu with hu; subst hu; exact h1
    | 2, hu => injection hu with hu; subst hu; exact h2
    | 3, hu => injection hu with hu; subst hu; exact h3
    | 4, hu => injection hu with hu; subst hu; exact h4
    | 5, hu => injection hu with hu; subst hu; exact h5
    | 6, hu => injection hu with hu; subst hu; exact h6
    | 7, hu => injection hu with hu; subst hu; exact h7))
end
theorem res_cell {P : Program} (T : Tab P) {env : Env} {hp : List Asn} {S : Nat → Prop} {w0 : World} (i : Nat) {p b : Nat} {t t' : TypeId} {l : List Value} {dt : TypeDesc} {z : Value} {s y : Nat} (hp_ : look env p = some (.pointer (some ⟨b, 0, none⟩))) (ht : T.u t = some dt) (ha : aggB dt = true) (hz : T.i t = some (z, s, y)) (hi : hp[i]? = some (blk b l t')) (hl : l.length = s) : resOf P env hp S w0 (.cell p t) (.agg l.toArray) :=
  ⟨⟨b, 0, none⟩, hp_, fun w h => run_loadVarN T ht ha hz hl (fun j u hu => by rw [Nat.zero_add]; exact blk_cell (h.get hi) hu)⟩
theorem t_ret1h {P : Program} {n : Nat} {env : Env} {hp hp' : List Asn} {fn : Func} {w : World} {A : List Asn} {R : Value → List Asn → Prop} {r : ResultVar} {v : Value} (hr : fn.results = #[r]) (hv : resOf P env hp (fps A) w r v) (hH : ∀ w', St (fps A) w hp w' → St (fps A) w hp' w') (h : R v hp') : TQ n (fps A) w (bodyPost P fn (Ret w A R)) .ret env hp := fun a w' hE hS => by
  refine ⟨hE.defers, v, ?_, _, _, rfl, h, hH w' hS⟩
  cases r with
  | tmp t => have := hE.at_ t v hv; simp [results, hr, this]
  | cell p t =>
    obtain ⟨ad, h1, h2⟩ := hv
    have := hE.at_ p _ h1
    simp [results, hr, this, asAddr, h2 w' hS]
theorem t_ret2h {P : Program} {n : Nat} {env : Env} {hp hp' : List Asn} {fn : Func} {w : World} {A : List Asn} {R : Value → List Asn → Prop} {r : ResultVar} {t' : Nat} {v v' : Value} (hr : fn.results = #[r, .tmp t']) (hv : resOf P env hp (fps A) w r v) (hv' : look env t' = some v') (hH : ∀ w', St (fps A) w hp w' → St (fps A) w hp' w') (h : R (.tuple #[v, v']) hp') : TQ n (fps A) w (bodyPost P fn (Ret w A R)) .ret env hp := fun a w' hE hS => by
  refine ⟨hE.defers, _, ?_, _, _, rfl, h, hH w' hS⟩
  have h2 := hE.at_ t' v' hv'
  cases r with
  | tmp t => have h1 := hE.at_ t v hv; simp [results, hr, h1, h2]
  | cell q t =>
    obtain ⟨ad, h1, h1'⟩ := hv
    have h1 := hE.at_ q _ h1
    simp [results, hr, h1, asAddr, h1' w' hS, h2]
/-! ### Regions that draw their order -/
def Qn (Q : Exit → Act → World → Prop) : Exit → Act → World → Prop
  | .normal, a, w => Q .normal a w
  | _, _, _ => False
def lst (N : Nat) (dn : List Nat) : Array Bool := ((List.range N).map fun i => dn.any (Nat.beq i)).toArray
theorem lst_set {N i : Nat} {dn : List Nat} (h : i < N) : (lst N dn).setIfInBounds i true = lst N (i :: dn) := by
  apply Array.ext
  · simp [lst]
  · intro j h1 h2
    simp only [lst, List.size_toArray, List.length_map, List.length_range] at h2
    simp only [lst, List.getElem_toArray, List.getElem_map, List.getElem_range, List.any_cons]
    by_cases e : i = j
    · subst e
      simp
    · have : Nat.beq j i = false := by rw [← Bool.not_eq_true, Nat.beq_eq]; exact fun h => e h.symm
      simp [e, this]
theorem lst_nil (N : Nat) : Array.replicate N false = lst N [] := by
  apply Array.ext
  · simp [lst]
  · intro j h1 h2
    simp [lst]
/-- Whatever order is picked, and S holds behind every operation that is carried out. -/
def wpX (P : Program) (ops : Array Oper) (Q : Exit → Act → World → Prop) (N : Nat) (S : List Nat → World → Prop) : Nat → List Nat → Act → World → Prop
  | 0, dn, a, w => Region.ready .any ops (lst N dn) = [] ∧ Q .normal a w
  | f + 1, dn, a, w => (Region.ready .any ops (lst N dn) = [] → Q .normal a w) ∧ ∀ i ∈ Region.ready .any ops (lst N dn), wpOp P ops Q i (fun a' w' => S (i :: dn) w' ∧ wpX P ops Q N S f (i :: dn) a' w') a w
theorem ready_lt {ops : Array Oper} {N j : Nat} {dn : List Nat} (h : j ∈ Region.ready .any ops (lst N dn)) : j < N := by
  have := (mem_ready.1 h).1
  rcases Nat.lt_or_ge j N with h | h
  · exact h
  · rw [lst] at this
    simp [h] at this
theorem wpAny_of_X {P : Program} {ops : Array Oper} {Q : Exit → Act → World → Prop} {N : Nat} {S : List Nat → World → Prop} : ∀ (f : Nat) (dn : List Nat) (a : Act) (w : World), wpX P ops Q N S f dn a w → wpAny P .any ops Q f (lst N dn) a w
  | 0, _, _, _, h => h
  | f + 1, dn, _, _, h => ⟨h.1, fun i hi => by
    rw [lst_set (ready_lt hi)]
    exact wpOp_mono (fun a' w' h' => wpAny_of_X f _ a' w' h'.2) (h.2 i hi)⟩
/-- What is sure: till operation number e hb, from then on hz. -/
def Sx (S : Nat → Prop) (w0 : World) (e : Nat) (hb hz : List Asn) (dn : List Nat) (w : World) : Prop := St S w0 (bif dn.any (Nat.beq e) then hz else hb) w
section
variable {P : Program} {ops : Array Oper} {Q : Exit → Act → World → Prop} {N e : Nat} {S : Nat → Prop} {w0 : World} {hb hz : List Asn}
theorem same_any {i j : Nat} {dn : List Nat} (k : Nat) : (j :: i :: dn).any (Nat.beq k) = (i :: j :: dn).any (Nat.beq k) := by
  simp only [List.any_cons]
  cases Nat.beq k i <;> cases Nat.beq k j <;> rfl
theorem wpX_perm : ∀ (f : Nat) (l l' : List Nat) (a : Act) (w : World), (∀ k, l.any (Nat.beq k) = l'.any (Nat.beq k)) → wpX P ops Q N (Sx S w0 e hb hz) f l a w → wpX P ops Q N (Sx S w0 e hb hz) f l' a w
  | 0, l, l', a, w, hp, h => by
    have : lst N l = lst N l' := by simp only [lst]; congr 1; exact List.map_congr_left fun k _ => hp k
    unfold wpX at h ⊢
    rw [← this]
    exact h
  | f + 1, l, l', a, w, hp, h => by
    have : lst N l = lst N l' := by simp only [lst]; congr 1; exact List.map_congr_left fun k _ => hp k
    unfold wpX at h ⊢
    rw [← this]
    refine ⟨h.1, fun i hi => wpOp_mono (fun a' w' h' => ?_) (h.2 i hi)⟩
    have hp' : ∀ k, (i :: l).any (Nat.beq k) = (i :: l').any (Nat.beq k) := fun k => by simp only [List.any_cons, hp k]
    refine ⟨?_, wpX_perm f _ _ a' w' hp' h'.2⟩
    have := h'.1
    unfold Sx at this ⊢
    rwa [← hp' e]
theorem beq_ne {i j : Nat} (h : i ≠ j) : Nat.beq i j = false := by rw [← Bool.not_eq_true, Nat.beq_eq]; exact h
/-- An operation that only reads may be taken first, if it yields its value whenever it may come. -/
theorem wpX_take {i : Nat} {oi : Oper} {v : Value} (hi : ops[i]? = some oi) (hiN : i < N) (hie : e ≠ i) (hsel : Region.noSelect ops = true) (hQ : ∀ c a w, Q (.panic c) a w → False) (I : List Nat → Prop) (hI : ∀ dn j, I dn → dn.any (Nat.beq i) = false → j ∈ Region.ready .any ops (lst N dn) → j ≠ i → I (j :: dn)) :
    ∀ (f : Nat) (dn : List Nat) (a : Act) (w : World), Region.free .any ops (lst N dn) i = true → i ∈ Region.ready .any ops (lst N dn) → dn.any (Nat.beq i) = false → I dn → YieldsIf P ops (fun w => ∃ dn', dn'.any (Nat.beq i) = false ∧ I dn' ∧ Sx S w0 e hb hz dn' w) oi v a → Sx S w0 e hb hz dn w →
      wpX P ops Q N (Sx S w0 e hb hz) f (i :: dn) (a.put oi.dst v) w → wpX P ops Q N (Sx S w0 e hb hz) (f + 1) dn a w := by
  have hcons : ∀ (l : List Nat) (w : World), Sx S w0 e hb hz (i :: l) w ↔ Sx S w0 e hb hz l w := fun l w => by
    unfold Sx
    rw [List.any_cons, beq_ne hie, Bool.false_or]
  intro f
  induction f with
  | zero =>
    intro dn a w hfree hr hni hId hy hs H
    refine ⟨fun h => (by rw [h] at hr; cases hr), fun j hj => ?_⟩
    by_cases hji : j = i
    · subst hji
      exact hy.wpOp hi ⟨dn, hni, hId, hs⟩ ⟨(hcons _ _).2 hs, H⟩
    · have := ready_mono hj hji
      rw [lst_set hiN, H.1] at this
      cases this
  | succ f ih =>
    intro dn a w hfree hr hni hId hy hs H
    refine ⟨fun h => (by rw [h] at hr; cases hr), fun j hj => ?_⟩
    by_cases hji : j = i
    · subst hji
      exact hy.wpOp hi ⟨dn, hni, hId, hs⟩ ⟨(hcons _ _).2 hs, H⟩
    · have hjN := ready_lt hj
      have hjr := ready_mono hj hji
      rw [lst_set hiN] at hjr
      have h1 := H.2 j hjr
      obtain ⟨hjun, oj, hoj, hall⟩ := mem_ready.1 hj
      have hnot : ∀ x ∈ oj.after, Region.binds .any x = true → x.on ≠ i := fun x hx hbx heq => by
        have h2 := hall x hx hbx
        have h0 := (mem_ready.1 hr).1
        rw [heq] at h2
        simp only [Array.getD_eq_getD_getElem?] at h0 h2
        cases hq : (lst N dn)[i]? with
        | none => rw [hq] at h2; cases h2
        | some b => rw [hq] at h0 h2; simp only [Option.getD_some] at h0 h2; rw [h0] at h2; cases h2
      have hap : oi.apart ops oj = true := Region.free_spec hi hfree j oj hoj hji hjun hnot
      have h2 := wpOp_putIf hoj hap (fun cs b => Region.noSelect_spec hsel i oi cs b hi) (fun cs b => Region.noSelect_spec hsel j oj cs b hoj) (fun c a w h => (hQ c _ w h).elim) hy h1
      refine wpOp_mono (fun a' w' h3 => ?_) h2
      obtain ⟨hy', hs2, hX⟩ := h3
      have hs3 : Sx S w0 e hb hz (j :: dn) w' := by
        refine (hcons _ _).1 ?_
        unfold Sx at hs2 ⊢
        rwa [← same_any e]
      refine ⟨hs3, ih (j :: dn) a' w' ?_ ?_ ?_ (hI dn j hId hni hj hji) hy' hs3 (wpX_perm f _ _ _ _ (fun k => same_any k) hX)⟩
      · rw [← lst_set hjN]
        unfold Region.free at hfree ⊢
        rw [hi] at hfree ⊢
        simp only [List.all_eq_true, List.mem_range, Bool.or_eq_true] at hfree ⊢
        intro k hk
        rcases hfree k hk with h | h
        · rcases h with h | h
          · exact .inl (.inl h)
          · refine .inl (.inr ?_)
            by_cases hjk : j = k
            · subst hjk
              have hsz : j < (lst N dn).size := by simpa [lst] using hjN
              simp [hsz]
            · rw [getD_set_ne true hjk]
              exact h
        · exact .inr h
      · have := ready_mono hr (Ne.symm hji)
        rwa [lst_set hjN] at this
      · rw [List.any_cons, beq_ne (Ne.symm hji), Bool.false_or]
        exact hni
end
def TA (P : Program) (n : Nat) (S : Nat → Prop) (w0 : World) (Q : Exit → Act → World → Prop) (ops : Array Oper) (N e : Nat) (hb hz : List Asn) (fuel : Nat) (dn : List Nat) (env : Env) (hp : List Asn) : Prop :=
  (∀ w, St S w0 hb w → St S w0 hz w) → (∀ w, St S w0 hp w → Sx S w0 e hb hz dn w) → ∀ a w, Fr env n a → St S w0 hp w → wpX P ops (Qn Q) N (Sx S w0 e hb hz) fuel dn a w
def chk (ops : Array Oper) (N e : Nat) (dn : List Nat) (i : Nat) : Bool := Nat.blt i N && !(Nat.beq e i) && Region.noSelect ops && Region.free .any ops (lst N dn) i && (Region.ready .any ops (lst N dn)).contains i
def direct (ops : Array Oper) (e i : Nat) : Bool := match ops[e]? with
  | some o => o.after.any fun x => Region.binds .any x && Nat.beq x.on i
  | none => false
section
variable {P : Program} {n : Nat} {S : Nat → Prop} {w0 w : World} {Q : Exit → Act → World → Prop} {ops : Array Oper} {env : Env} {hp hb hz : List Asn} {fuel N e : Nat} {dn : List Nat}
theorem chk_spec {i : Nat} (h : chk ops N e dn i = true) : i < N ∧ e ≠ i ∧ Region.noSelect ops = true ∧ Region.free .any ops (lst N dn) i = true ∧ i ∈ Region.ready .any ops (lst N dn) := by
  simp only [chk, Bool.and_eq_true, Nat.blt_eq, Bool.not_eq_true'] at h
  exact ⟨h.1.1.1.1, fun e0 => (by have := h.1.1.1.2; subst e0; simp at this), h.1.1.2, h.1.2, by simpa using h.2⟩
theorem qn_panic (c : List PanicEntry) (a : Act) (w : World) (h : Qn Q (.panic c) a w) : False := h
theorem sx_hz (hbz : ∀ w, St S w0 hb w → St S w0 hz w) {dn : List Nat} {w : World} (h : Sx S w0 e hb hz dn w) : St S w0 hz w := by
  unfold Sx at h
  cases hq : dn.any (Nat.beq e) with
  | true => rw [hq] at h; exact h
  | false => rw [hq] at h; exact hbz w h
theorem a_begin {id : Nat} (hm : P.follows .mixedOrders = true) (hz : List Asn) (N : Nat) (hN : ops.size = N) (hH : ∀ w, St S w0 hp w → St S w0 hz w) (h : TA P n S w0 Q ops N N hz hz N [] env hp) : TC P n S w0 Q (.region id ops true) env hp := fun a w hE hS => by
  subst hN
  have h1 := wpAny_of_X _ _ _ _ (h (fun _ h => h) (fun w h => hH w h) a w.drew hE hS.drew)
  rw [← lst_nil] at h1
  exact wp_mono (wp_region_any (id := id) hm h1) fun e a w hq => by cases e <;> first | exact hq | exact hq.elim
/-- Operation number e (a store, say) may change what others, that come before it, read. -/
theorem a_beginE {id : Nat} (hm : P.follows .mixedOrders = true) (hb hz : List Asn) (N e : Nat) (hN : ops.size = N) (hH : ∀ w, St S w0 hp w → St S w0 hb w) (hbz : ∀ w, St S w0 hb w → St S w0 hz w) (h : TA P n S w0 Q ops N e hb hz N [] env hp) : TC P n S w0 Q (.region id ops true) env hp := fun a w hE hS => by
  subst hN
  have h1 := wpAny_of_X _ _ _ _ (h hbz (fun w h => hH w h) a w.drew hE hS.drew)
  rw [← lst_nil] at h1
  exact wp_mono (wp_region_any (id := id) hm h1) fun e a w hq => by cases e <;> first | exact hq | exact hq.elim
theorem sx_cons {i : Nat} (hie : e ≠ i) {dn : List Nat} (h : ∀ w, St S w0 hp w → Sx S w0 e hb hz dn w) : ∀ w, St S w0 hp w → Sx S w0 e hb hz (i :: dn) w := fun w hw => by
  have := h w hw
  unfold Sx at this ⊢
  rwa [List.any_cons, beq_ne hie, Bool.false_or]
theorem a_q (i : Nat) {o : Oper} {d : Nat} {v : Value} (hi : ops[i]? = some o) (hni : dn.any (Nat.beq i) = false) (hg : o.guard = none) (hd : o.dst = some d) (hdn : Nat.blt d n = true) (hc : chk ops N e dn i = true) (hq : Qt P S w0 o env hz v) (h : TA P n S w0 Q ops N e hb hz fuel (i :: dn) ((d, v) :: env) hp) : TA P n S w0 Q ops N e hb hz (fuel + 1) dn env hp := fun hbz hH a w hE hS => by
  obtain ⟨h0, hie, h1, h2, h3⟩ := chk_spec hc
  refine wpX_take (v := v) hi h0 hie h1 qn_panic (fun _ => True) (fun _ _ _ _ _ _ => trivial) fuel dn a w h2 h3 hni trivial (.inl ⟨by simp [Region.wanted, hg], fun w' ⟨dn', _, _, hw'⟩ => hq n a w' hE (sx_hz hbz hw')⟩) (hH w hS) ?_
  rw [hd]
  exact h hbz (sx_cons hie hH) _ w (hE.put hdn v) hS
/-- It comes before operation e: it may read what e changes. -/
theorem a_y (i : Nat) {o : Oper} {d : Nat} {v : Value} (hi : ops[i]? = some o) (hni : dn.any (Nat.beq i) = false) (hg : o.guard = none) (hd : o.dst = some d) (hdn : Nat.blt d n = true) (hc : (chk ops N e dn i && direct ops e i && !(dn.any (Nat.beq e))) = true) (hq : Qt P S w0 o env hb v) (h : TA P n S w0 Q ops N e hb hz fuel (i :: dn) ((d, v) :: env) hp) : TA P n S w0 Q ops N e hb hz (fuel + 1) dn env hp := fun hbz hH a w hE hS => by
  simp only [Bool.and_eq_true, Bool.not_eq_true'] at hc
  obtain ⟨h0, hie, h1, h2, h3⟩ := chk_spec hc.1.1
  refine wpX_take (v := v) hi h0 hie h1 qn_panic (fun dn' => dn'.any (Nat.beq e) = false) (fun dn' j hd' hni' hj hji => ?_) fuel dn a w h2 h3 hni hc.2 (.inl ⟨by simp [Region.wanted, hg], fun w' ⟨dn', _, he, hw'⟩ => hq n a w' hE (by unfold Sx at hw'; rw [he] at hw'; exact hw')⟩) (hH w hS) ?_
  · rw [List.any_cons, hd', Bool.or_false]
    by_cases hej : e = j
    · exfalso
      subst hej
      obtain ⟨_, oe, hoe, hall⟩ := mem_ready.1 hj
      have hdir := hc.1.2
      unfold direct at hdir
      rw [hoe] at hdir
      simp only at hdir
      obtain ⟨x, hx, hx2⟩ := Array.any_eq_true'.1 hdir
      simp only [Bool.and_eq_true, Nat.beq_eq] at hx2
      have := hall x hx hx2.1
      rw [hx2.2] at this
      simp [lst, h0] at this
      have : dn'.any (Nat.beq i) = true := List.any_eq_true.2 ⟨i, this, Nat.beq_refl i⟩
      rw [hni'] at this
      cases this
    · exact beq_ne hej
  · rw [hd]
    exact h hbz (sx_cons hie hH) _ w (hE.put hdn v) hS
theorem a_gt (i : Nat) {o : Oper} {d j t : Nat} {want : Bool} {v : Value} (hi : ops[i]? = some o) (hni : dn.any (Nat.beq i) = false) (hg : o.guard = some (j, want)) (hj : (ops[j]?).bind (·.dst) = some t) (hb_ : look env t = some (.bool want)) (hd : o.dst = some d) (hdn : Nat.blt d n = true) (hc : chk ops N e dn i = true) (hq : Qt P S w0 o env hz v) (h : TA P n S w0 Q ops N e hb hz fuel (i :: dn) ((d, v) :: env) hp) : TA P n S w0 Q ops N e hb hz (fuel + 1) dn env hp := fun hbz hH a w hE hS => by
  obtain ⟨h0, hie, h1, h2, h3⟩ := chk_spec hc
  have hy : yielded ops a.tmps j = some want := by
    have := hE.at_ t _ hb_
    simp [yielded, hj, this]
  refine wpX_take (v := v) hi h0 hie h1 qn_panic (fun _ => True) (fun _ _ _ _ _ _ => trivial) fuel dn a w h2 h3 hni trivial (.inl ⟨by simp [Region.wanted, hg, hy], fun w' ⟨dn', _, _, hw'⟩ => hq n a w' hE (sx_hz hbz hw')⟩) (hH w hS) ?_
  rw [hd]
  exact h hbz (sx_cons hie hH) _ w (hE.put hdn v) hS
theorem a_gf (i : Nat) {o : Oper} {d j t : Nat} {want b : Bool} (hi : ops[i]? = some o) (hni : dn.any (Nat.beq i) = false) (hg : o.guard = some (j, want)) (hj : (ops[j]?).bind (·.dst) = some t) (hb_ : look env t = some (.bool b)) (hbw : b = !want) (hd : o.dst = some d) (hdn : Nat.blt d n = true) (hc : chk ops N e dn i = true) (h : TA P n S w0 Q ops N e hb hz fuel (i :: dn) ((d, undef) :: env) hp) : TA P n S w0 Q ops N e hb hz (fuel + 1) dn env hp := fun hbz hH a w hE hS => by
  obtain ⟨h0, hie, h1, h2, h3⟩ := chk_spec hc
  have hy : yielded ops a.tmps j = some (!want) := by
    have := hE.at_ t _ hb_
    simp [yielded, hj, this, hbw]
  refine wpX_take (v := undef) hi h0 hie h1 qn_panic (fun _ => True) (fun _ _ _ _ _ _ => trivial) fuel dn a w h2 h3 hni trivial (.inr ⟨by simp [Region.wanted, hg, hy], rfl⟩) (hH w hS) ?_
  rw [hd]
  exact h hbz (sx_cons hie hH) _ w (hE.put hdn undef) hS
theorem a_split (t : Nat) {b : Bool} (hb_ : look env t = some (.bool b)) (ht : b = true → TA P n S w0 Q ops N e hb hz fuel dn ((t, .bool true) :: env) hp) (hf : b = false → TA P n S w0 Q ops N e hb hz fuel dn ((t, .bool false) :: env) hp) : TA P n S w0 Q ops N e hb hz fuel dn env hp := fun hbz hH a w hE hS => by
  have key : Fr ((t, .bool b) :: env) n a := ⟨hE.defers, hE.size, fun k v hk => by
    rw [look_cons] at hk
    by_cases e : t = k
    · subst e
      rw [if_pos rfl] at hk
      injection hk with hk
      subst hk
      exact hE.at_ _ _ hb_
    · rw [if_neg e] at hk
      exact hE.at_ k v hk⟩
  cases b
  · exact hf rfl hbz hH a w key hS
  · exact ht rfl hbz hH a w key hS
theorem a_known (t : Nat) {b : Bool} (c : Bool) (hb_ : look env t = some (.bool b)) (hc : b = c) (h : TA P n S w0 Q ops N e hb hz fuel dn ((t, .bool c) :: env) hp) : TA P n S w0 Q ops N e hb hz fuel dn env hp := by
  subst hc
  cases b
  · exact a_split t hb_ (fun h => by cases h) (fun _ => h)
  · exact a_split t hb_ (fun _ => h) (fun h => by cases h)
theorem a_done (hr : (Region.ready .any ops (lst N dn)).isEmpty = true) (h : TQ n S w0 Q .normal env hp) : TA P n S w0 Q ops N e hb hz fuel dn env hp := fun hbz hH a w hE hS => by
  have hr' : Region.ready .any ops (lst N dn) = [] := by simpa using hr
  cases fuel with
  | zero => exact ⟨hr', h a w hE hS⟩
  | succ f => exact ⟨fun _ => h a w hE hS, fun i hi => by rw [hr'] at hi; cases hi⟩
theorem wpOp_of {i : Nat} {o : Oper} {K : Act → World → Prop} {Q : Exit → Act → World → Prop} {a : Act} (hi : ops[i]? = some o) (hg : o.guard = none) (h : o.wp P a w K Q) : wpOp P ops Q i K a w := by
  unfold wpOp
  simp only [hi]
  rw [if_pos (by simp [Region.wanted, hg])]
  exact .inl h
/-- An operation that changes memory, when no other one may come. -/
theorem a_e (i : Nat) {o : Oper} (hi : ops[i]? = some o) (hr : ((Region.ready .any ops (lst N dn)) == [i]) = true) (hg : o.guard = none)
    (h : ∀ K : Act → World → Prop, (∀ env hp', (∀ w, St S w0 hp' w → St S w0 (bif (i :: dn).any (Nat.beq e) then hz else hb) w) → TA P n S w0 Q ops N e hb hz fuel (i :: dn) env hp' → TK n S w0 K env hp') → TO P n S w0 (Qn Q) o K env hp) : TA P n S w0 Q ops N e hb hz (fuel + 1) dn env hp := fun hbz hH a w hE hS => by
  have hr' : Region.ready .any ops (lst N dn) = [i] := by simpa using hr
  refine ⟨fun h0 => (by rw [hr'] at h0; cases h0), fun j hj => ?_⟩
  rw [hr', List.mem_singleton] at hj
  subst hj
  exact wpOp_of hi hg (h _ (fun env' hp' hz' ht a' w' hE' hS' => ⟨hz' w' hS', ht hbz hz' a' w' hE' hS'⟩) a w hE hS)
/-- The same, of an operation whose guard is met. -/
theorem a_eg (i : Nat) {o : Oper} {j t : Nat} {want : Bool} (hi : ops[i]? = some o) (hr : ((Region.ready .any ops (lst N dn)) == [i]) = true) (hg : o.guard = some (j, want)) (hj : (ops[j]?).bind (·.dst) = some t) (hb_ : look env t = some (.bool want))
    (h : ∀ K : Act → World → Prop, (∀ env hp', (∀ w, St S w0 hp' w → St S w0 (bif (i :: dn).any (Nat.beq e) then hz else hb) w) → TA P n S w0 Q ops N e hb hz fuel (i :: dn) env hp' → TK n S w0 K env hp') → TO P n S w0 (Qn Q) o K env hp) : TA P n S w0 Q ops N e hb hz (fuel + 1) dn env hp := fun hbz hH a w hE hS => by
  have hr' : Region.ready .any ops (lst N dn) = [i] := by simpa using hr
  have hy : yielded ops a.tmps j = some want := by
    have := hE.at_ t _ hb_
    simp [yielded, hj, this]
  refine ⟨fun h0 => (by rw [hr'] at h0; cases h0), fun k hk => ?_⟩
  rw [hr', List.mem_singleton] at hk
  subst hk
  unfold wpOp
  simp only [hi]
  rw [if_pos (by simp [Region.wanted, hg, hy])]
  exact .inl (h _ (fun env' hp' hz' ht a' w' hE' hS' => ⟨hz' w' hS', ht hbz hz' a' w' hE' hS'⟩) a w hE hS)
/-- Two that may come in either order. -/
theorem a_e2 (i j : Nat) {o o' : Oper} (hi : ops[i]? = some o) (hj : ops[j]? = some o') (hr : ((Region.ready .any ops (lst N dn)) == [i, j]) = true) (hg : o.guard = none) (hg' : o'.guard = none)
    (h : ∀ K : Act → World → Prop, (∀ env hp', (∀ w, St S w0 hp' w → St S w0 (bif (i :: dn).any (Nat.beq e) then hz else hb) w) → TA P n S w0 Q ops N e hb hz fuel (i :: dn) env hp' → TK n S w0 K env hp') → TO P n S w0 (Qn Q) o K env hp)
    (h' : ∀ K : Act → World → Prop, (∀ env hp', (∀ w, St S w0 hp' w → St S w0 (bif (j :: dn).any (Nat.beq e) then hz else hb) w) → TA P n S w0 Q ops N e hb hz fuel (j :: dn) env hp' → TK n S w0 K env hp') → TO P n S w0 (Qn Q) o' K env hp) : TA P n S w0 Q ops N e hb hz (fuel + 1) dn env hp := fun hbz hH a w hE hS => by
  have hr' : Region.ready .any ops (lst N dn) = [i, j] := by simpa using hr
  refine ⟨fun h0 => (by rw [hr'] at h0; cases h0), fun k hk => ?_⟩
  rw [hr'] at hk
  simp only [List.mem_cons, List.not_mem_nil, or_false] at hk
  rcases hk with rfl | rfl
  · exact wpOp_of hi hg (h _ (fun env' hp' hz' ht a' w' hE' hS' => ⟨hz' w' hS', ht hbz hz' a' w' hE' hS'⟩) a w hE hS)
  · exact wpOp_of hj hg' (h' _ (fun env' hp' hz' ht a' w' hE' hS' => ⟨hz' w' hS', ht hbz hz' a' w' hE' hS'⟩) a w hE hS)
theorem a_hp {hp' : List Asn} (hH : ∀ w, St S w0 hp w → St S w0 hp' w) (hz' : ∀ w, St S w0 hp' w → St S w0 (bif dn.any (Nat.beq e) then hz else hb) w) (h : TA P n S w0 Q ops N e hb hz fuel dn env hp') : TA P n S w0 Q ops N e hb hz fuel dn env hp := fun hbz _ a w hE hS => h hbz hz' a w hE (hH w hS)
theorem i_a (h : TA P n S w0 Q ops N e hb hz fuel dn env hp) : TA P n S w0 Q ops N e hb hz fuel dn env hp := h
theorem t_hp {e : Exit} {hp' : List Asn} (hH : ∀ w, St S w0 hp w → St S w0 hp' w) (h : TQ n S w0 Q e env hp') : TQ n S w0 Q e env hp := fun a w hE hS => h a w hE (hH w hS)
theorem l_ex {α : Type} {p : α → Prop} {hp' : α → List Asn} {l : List Oper} (hx : ∀ w, St S w0 hp w → ∃ x, p x ∧ St S w0 (hp' x) w) (h : ∀ x, p x → TL P n S w0 Q ops l env (hp' x)) : TL P n S w0 Q ops l env hp := fun a w hE hS => by
  obtain ⟨x, h1, h2⟩ := hx w hS
  exact h x h1 a w hE h2
theorem c_ex {α : Type} {p : α → Prop} {hp' : α → List Asn} {c : Code} (hx : ∀ w, St S w0 hp w → ∃ x, p x ∧ St S w0 (hp' x) w) (h : ∀ x, p x → TC P n S w0 Q c env (hp' x)) : TC P n S w0 Q c env hp := fun a w hE hS => by
  obtain ⟨x, h1, h2⟩ := hx w hS
  exact h x h1 a w hE h2
theorem a_ex {α : Type} {p : α → Prop} {hp' : α → List Asn} (hx : ∀ w, St S w0 hp w → ∃ x, p x ∧ St S w0 (hp' x) w) (hz' : ∀ x w, St S w0 (hp' x) w → St S w0 (bif dn.any (Nat.beq e) then hz else hb) w) (h : ∀ x, p x → TA P n S w0 Q ops N e hb hz fuel dn env (hp' x)) : TA P n S w0 Q ops N e hb hz fuel dn env hp := fun hbz _ a w hE hS => by
  obtain ⟨x, h1, h2⟩ := hx w hS
  exact h x h1 hbz (hz' x) a w hE h2
theorem setAt_eq : ∀ (vs l : List Value) (o : Nat), o + vs.length ≤ l.length → setAt l o vs = l.take o ++ vs ++ l.drop (o + vs.length)
  | [], l, o, _ => by simp [setAt]
  | v :: vs, l, o, h => by
    simp only [List.length_cons] at h
    rw [setAt, setAt_eq vs (l.set o v) (o + 1) (by simp; omega)]
    have h1 : (l.set o v).take (o + 1) = l.take o ++ [v] := by
      rw [List.take_set]
      rw [List.take_succ_eq_append_getElem (by omega)]
      have h3 : (l.take o).length = o := by rw [List.length_take]; omega
      rw [List.set_append, if_neg (by omega), h3]
      simp
    have h2 : (l.set o v).drop (o + 1 + vs.length) = l.drop (o + (vs.length + 1)) := by
      rw [List.drop_set_of_lt (by omega)]
      congr 1
      omega
    rw [h1, h2]
    simp
end
end Go.Proofs.Ytboccjdncdaakaa

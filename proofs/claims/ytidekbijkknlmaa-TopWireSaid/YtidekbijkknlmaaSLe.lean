/-
  The walk's rules once more, in a form that needs no names: what is left to do stands in the goal; places are found by search.
-/
import Derived.Test.YtidekbijkknlmaaSLd
set_option linter.unusedVariables false
set_option maxRecDepth 100000
namespace Go.Proofs.Ytidekbijkknlmaa
open Go.RowKit

/-! ### Searches -/
inductive Upd (X Y : Asn) : List Asn → List Asn → Prop
  | head {r : List Asn} : Upd X Y (X :: r) (Y :: r)
  | tail {Z : Asn} {r r' : List Asn} : Upd X Y r r' → Upd X Y (Z :: r) (Z :: r')
theorem Upd.ix {X Y : Asn} {hp hp' : List Asn} (h : Upd X Y hp hp') : ∃ i, hp[i]? = some X ∧ hp' = hp.set i Y := by
  induction h with
  | head => exact ⟨0, rfl, rfl⟩
  | tail _ ih => obtain ⟨i, h1, h2⟩ := ih; exact ⟨i + 1, by simpa using h1, by simp [h2]⟩
/-- One object, and the others. -/
inductive Ext (X : Asn) : List Asn → List Asn → Prop
  | head {r : List Asn} : Ext X (X :: r) r
  | tail {Z : Asn} {r r' : List Asn} : Ext X r r' → Ext X (Z :: r) (Z :: r')
theorem Ext.perm {X : Asn} {hp r : List Asn} (h : Ext X hp r) : hp.Perm (X :: r) := by
  induction h with
  | head => exact .refl _
  | tail _ ih => exact (ih.cons _).trans (.swap _ _ _)
inductive SubL : List Asn → List Asn → Prop
  | nil {r : List Asn} : SubL [] r
  | keep {X : Asn} {a r : List Asn} : SubL a r → SubL (X :: a) (X :: r)
  | skip {X : Asn} {a r : List Asn} : SubL a r → SubL a (X :: r)
theorem SubL.sub {a r : List Asn} (h : SubL a r) : a.Sublist r := by
  induction h with
  | nil => exact List.nil_sublist _
  | keep _ ih => exact ih.cons_cons _
  | skip _ ih => exact ih.cons _
inductive LSet : List Value → Nat → Value → List Value → Prop
  | zero {x v : Value} {l : List Value} : LSet (x :: l) 0 v (v :: l)
  | succ {x v : Value} {l l' : List Value} {o : Nat} : LSet l o v l' → LSet (x :: l) (o + 1) v (x :: l')
theorem LSet.eq {l l' : List Value} {o : Nat} {v : Value} (h : LSet l o v l') : l' = l.set o v ∧ o < l.length := by
  induction h with
  | zero => simp
  | succ _ ih => simp [ih.1, ih.2]
inductive LSets : List Value → Nat → List Value → List Value → Prop
  | nil {l : List Value} {o : Nat} : LSets l o [] l
  | cons {l l1 l2 : List Value} {o : Nat} {v : Value} {vs : List Value} : LSet l o v l1 → LSets l1 (o + 1) vs l2 → LSets l o (v :: vs) l2
theorem LSets.eq {l l' : List Value} {o : Nat} {vs : List Value} (h : LSets l o vs l') : l' = setAt l o vs ∧ (vs ≠ [] → o + vs.length ≤ l.length) := by
  induction h with
  | nil => exact ⟨rfl, fun h => absurd rfl h⟩
  | @cons l l1 l2 o v vs h1 _ ih =>
    obtain ⟨e1, e2⟩ := h1.eq
    subst e1
    refine ⟨ih.1, fun _ => ?_⟩
    rcases vs with _ | ⟨u, vs⟩
    · simp; omega
    · have := ih.2 (by simp)
      simp at this ⊢
      omega
inductive Pick (env : Env) : List Nat → Env → Prop
  | nil : Pick env [] []
  | cons {k : Nat} {v : Value} {ks : List Nat} {pe : Env} : look env k = some v → Pick env ks pe → Pick env (k :: ks) ((k, v) :: pe)
theorem Pick.sub {env pe : Env} {ks : List Nat} (h : Pick env ks pe) : Sub pe env := by
  induction h with
  | nil => trivial
  | cons h _ ih => exact ⟨h, ih⟩

theorem look_int {env : Env} {k : Nat} {K : IntKind} {a b : Int} (h : look env k = some (.int K a)) (e : a = b) : look env k = some (.int K b) := by rw [h, e]
theorem Sub.cons {k : Nat} {v : Value} {e env : Env} (h : Proofs.Ytidekbijkknlmaa.look env k = some v) (hs : Sub e env) : Sub ((k, v) :: e) env := ⟨h, hs⟩

section
variable {S : Nat → Prop} {w0 w : World} {hp hp' : List Asn}
theorem St.perm (h : St S w0 hp w) (hq : hp.Perm hp') : St S w0 hp' w :=
  ⟨h.kept, fun A hA => h.own A (hq.mem_iff.2 hA), .of_pair ((List.Perm.pairwise_iff (fun h => Dj.symm h) hq).1 h.ap.pair), fun A hA => h.all A (hq.mem_iff.2 hA)⟩
theorem St.subl (h : St S w0 hp w) (hs : SubL hp' hp) : St S w0 hp' w :=
  ⟨h.kept, fun A hA => h.own A (hs.sub.subset hA), .of_pair (h.ap.pair.sublist hs.sub), fun A hA => h.all A (hs.sub.subset hA)⟩
theorem St.ext (h : St S w0 hp w) {X : Asn} {r : List Asn} (he : Ext X hp r) : St S w0 (X :: r) w := h.perm he.perm
theorem St.mem (h : St S w0 hp w) {X : Asn} (hX : X ∈ hp) : X.C w := h.all X hX
theorem St.upd (h : St S w0 hp w) {X Y : Asn} (hu : Upd X Y hp hp') (hC : X.C w → Y.C w) (hs : ∀ b, Y.S b → X.S b) : St S w0 hp' w := by
  obtain ⟨i, h1, rfl⟩ := hu.ix
  exact h.see h1 hC hs
end

/-! ### Code -/
def ThenC (P : Program) (y : Code) (Q : Exit → Act → World → Prop) : Exit → Act → World → Prop := Exit.then (fun a w => y.wp P Q a w) Q
section
variable {P : Program} {n : Nat} {S : Nat → Prop} {w0 : World} {Q : Exit → Act → World → Prop} {ops : Array Oper} {env : Env} {hp hp' : List Asn}
theorem d_seq {x y : Code} (h : TC P n S w0 (ThenC P y Q) x env hp) : TC P n S w0 Q (.seq x y) env hp := fun a w hE hS => wp_seq (h a w hE hS)
theorem d_then {y : Code} (h : TC P n S w0 Q y env hp) : TQ n S w0 (ThenC P y Q) .normal env hp := h
theorem d_then_exit {y : Code} {i : Nat} (h : TQ n S w0 Q (.exit i) env hp) : TQ n S w0 (ThenC P y Q) (.exit i) env hp := h
theorem d_then_ret {y : Code} (h : TQ n S w0 Q .ret env hp) : TQ n S w0 (ThenC P y Q) .ret env hp := h
/-- A loop: ks are temporaries that stay as they are, F objects that do. -/
theorem d_loop {T : Type} {c : Code} (ks : List Nat) {pe : Env} (E : T → Env) (F : List Asn) (H : T → List Asn) (J : T → Prop) (μ : T → Nat) (t0 : T) (hk : Pick env ks pe) (hJ : J t0) (hE : Sub (E t0) env) (hH : ∀ w, St S w0 hp w → St S w0 (H t0 ++ F) w)
    (round : ∀ t, J t → TC P n S w0 (Exit.then (Again n S w0 (fun t => E t ++ pe) (fun t => H t ++ F) J μ t) Q) c (E t ++ pe) (H t ++ F)) : TC P n S w0 Q (.loop c) env hp :=
  c_loop _ _ J μ t0 hJ (hE.append hk.sub) hH round
theorem c_subl {c : Code} (hs : SubL hp' hp) (h : TC P n S w0 Q c env hp') : TC P n S w0 Q c env hp := fun a w e s => h a w e (s.subl hs)
theorem c_pick {c : Code} (ks : List Nat) {pe : Env} (hk : Pick env ks pe) (h : TC P n S w0 Q c pe hp) : TC P n S w0 Q c env hp := c_sub hk.sub (fun _ h => h) h
theorem t_subl {e : Exit} (hs : SubL hp' hp) (h : TQ n S w0 Q e env hp') : TQ n S w0 Q e env hp := fun a w hE hS => h a w hE (hS.subl hs)
theorem l_subl {l : List Oper} (hs : SubL hp' hp) (h : TL P n S w0 Q ops l env hp') : TL P n S w0 Q ops l env hp := fun a w hE hS => h a w hE (hS.subl hs)

/-! ### Operations -/
variable {d : Nat} {ty : TypeId} {pos : String} {af : Array Edge} {rest : List Oper}
theorem l_boxA {t : TypeId} {x : Operand} {l : List Value} (hd : Nat.blt d n = true) (hx : ev env x = some (.agg l.toArray)) (h : ∀ b, TL P n S w0 Q ops rest ((d, .pointer (some ⟨b, 0, none⟩)) :: env) (blk b l t :: hp)) : TL P n S w0 Q ops (⟨some d, .box t x, ty, pos, af, none⟩ :: rest) env hp :=
  l_op rfl fun K hK => e_box hd hx (by simp [Value.cells]) fun b => hK _ _ (h b)
theorem l_box1 {t : TypeId} {x : Operand} {v : Value} (hd : Nat.blt d n = true) (hx : ev env x = some v) (h1 : v.oneCell' = true) (h : ∀ b, TL P n S w0 Q ops rest ((d, .pointer (some ⟨b, 0, none⟩)) :: env) (blk b [v] t :: hp)) : TL P n S w0 Q ops (⟨some d, .box t x, ty, pos, af, none⟩ :: rest) env hp :=
  l_op rfl fun K hK => e_box hd hx (by cases v <;> simp [Value.oneCell'] at h1 <;> rfl) fun b => hK _ _ (h b)
theorem l_allocA (T : Tab P) {t : TypeId} {l : List Value} {s y : Nat} (hd : Nat.blt d n = true) (hi : T.i t = some (.agg l.toArray, s, y)) (h : ∀ b, TL P n S w0 Q ops rest ((d, .pointer (some ⟨b, 0, none⟩)) :: env) (blk b l t :: hp)) : TL P n S w0 Q ops (⟨some d, .alloc t, ty, pos, af, none⟩ :: rest) env hp :=
  l_op rfl fun K hK => e_alloc T hd hi (by simp [Value.cells]) fun b => hK _ _ (h b)
theorem l_alloc1 (T : Tab P) {t : TypeId} {z : Value} {s y : Nat} (hd : Nat.blt d n = true) (hi : T.i t = some (z, s, y)) (h1 : z.oneCell' = true) (h : ∀ b, TL P n S w0 Q ops rest ((d, .pointer (some ⟨b, 0, none⟩)) :: env) (blk b [z] t :: hp)) : TL P n S w0 Q ops (⟨some d, .alloc t, ty, pos, af, none⟩ :: rest) env hp :=
  l_op rfl fun K hK => e_alloc T hd hi (by cases z <;> simp [Value.oneCell'] at h1 <;> rfl) fun b => hK _ _ (h b)
theorem e_set {g : Option (Nat × Bool)} (T : Tab P) {K : Act → World → Prop} {t : TypeId} {p x : Operand} {b o : Nat} {v : Value} {l l' : List Value} {t' : TypeId} {z : Value} {y : Nat} (hp_ : ev env p = some (.pointer (some ⟨b, o, none⟩))) (hx : ev env x = some v) (hz : T.i t = some (z, 1, y)) (hv : v.oneCell' = true) (hu : Upd (blk b l t') (blk b l' t') hp hp') (hl : LSet l o v l')
    (h : TK n S w0 K env hp') : TO P n S w0 Q ⟨none, .store t p x, ty, pos, af, g⟩ K env hp := by
  obtain ⟨i, h1, rfl⟩ := hu.ix
  obtain ⟨rfl, h2⟩ := hl.eq
  exact e_store1 T hp_ hx h1 hz h2 hv h
theorem l_set (T : Tab P) {t : TypeId} {p x : Operand} {b o : Nat} {v : Value} {l l' : List Value} {t' : TypeId} {z : Value} {y : Nat} (hp_ : ev env p = some (.pointer (some ⟨b, o, none⟩))) (hx : ev env x = some v) (hz : T.i t = some (z, 1, y)) (hv : v.oneCell' = true) (hu : Upd (blk b l t') (blk b l' t') hp hp') (hl : LSet l o v l')
    (h : TL P n S w0 Q ops rest env hp') : TL P n S w0 Q ops (⟨none, .store t p x, ty, pos, af, none⟩ :: rest) env hp :=
  l_op rfl fun K hK => e_set T hp_ hx hz hv hu hl (hK _ _ h)
/-- A store at a place that is known by a letter. -/
theorem e_setI {g : Option (Nat × Bool)} (T : Tab P) {K : Act → World → Prop} {t : TypeId} {p x : Operand} {b o : Nat} {v : Value} {l : List Value} {t' : TypeId} {z : Value} {y : Nat} (hp_ : ev env p = some (.pointer (some ⟨b, o, none⟩))) (hx : ev env x = some v) (hz : T.i t = some (z, 1, y)) (hv : v.oneCell' = true) (hu : Upd (blk b l t') (blk b (l.set o v) t') hp hp') (ho : o < l.length)
    (h : TK n S w0 K env hp') : TO P n S w0 Q ⟨none, .store t p x, ty, pos, af, g⟩ K env hp := by
  obtain ⟨i, h1, rfl⟩ := hu.ix
  exact e_store1 T hp_ hx h1 hz ho hv h
theorem l_setI (T : Tab P) {t : TypeId} {p x : Operand} {b o : Nat} {v : Value} {l : List Value} {t' : TypeId} {z : Value} {y : Nat} (hp_ : ev env p = some (.pointer (some ⟨b, o, none⟩))) (hx : ev env x = some v) (hz : T.i t = some (z, 1, y)) (hv : v.oneCell' = true) (hu : Upd (blk b l t') (blk b (l.set o v) t') hp hp') (ho : o < l.length)
    (h : TL P n S w0 Q ops rest env hp') : TL P n S w0 Q ops (⟨none, .store t p x, ty, pos, af, none⟩ :: rest) env hp :=
  l_op rfl fun K hK => e_setI T hp_ hx hz hv hu ho (hK _ _ h)
theorem e_setN {g : Option (Nat × Bool)} (T : Tab P) {K : Act → World → Prop} {t : TypeId} {p x : Operand} {b o : Nat} {vs l l' : List Value} {t' : TypeId} {z : Value} {s y : Nat} (hp_ : ev env p = some (.pointer (some ⟨b, o, none⟩))) (hx : ev env x = some (.agg vs.toArray)) (hz : T.i t = some (z, s, y)) (hs : vs.length = s) (h0 : vs ≠ []) (hv : vs.all (·.oneCell') = true) (hu : Upd (blk b l t') (blk b l' t') hp hp') (hl : LSets l o vs l')
    (h : TK n S w0 K env hp') : TO P n S w0 Q ⟨none, .store t p x, ty, pos, af, g⟩ K env hp := by
  obtain ⟨i, h1, rfl⟩ := hu.ix
  obtain ⟨rfl, h2⟩ := hl.eq
  exact e_storeN T hp_ hx (by simp [Value.cells]) h1 hz hs (h2 h0) hv h
theorem l_setN (T : Tab P) {t : TypeId} {p x : Operand} {b o : Nat} {vs l l' : List Value} {t' : TypeId} {z : Value} {s y : Nat} (hp_ : ev env p = some (.pointer (some ⟨b, o, none⟩))) (hx : ev env x = some (.agg vs.toArray)) (hz : T.i t = some (z, s, y)) (hs : vs.length = s) (h0 : vs ≠ []) (hv : vs.all (·.oneCell') = true) (hu : Upd (blk b l t') (blk b l' t') hp hp') (hl : LSets l o vs l')
    (h : TL P n S w0 Q ops rest env hp') : TL P n S w0 Q ops (⟨none, .store t p x, ty, pos, af, none⟩ :: rest) env hp :=
  l_op rfl fun K hK => e_setN T hp_ hx hz hs h0 hv hu hl (hK _ _ h)
theorem l_build {t e : TypeId} {len : Nat} {parts : Array (Nat × Operand)} {vs l : List Value} (hd : Nat.blt d n = true) (hv : evs env (parts.toList.map (·.2)) = some vs)
    (hr : ∀ w, (Instr.buildSlice t len ((parts.toList.map (·.1)).zip vs).toArray).run P w = .ok (.slice (some ⟨w.heap.size, 0, none⟩) len len) (w.alloc (.cells l.toArray e)))
    (h : ∀ b, TL P n S w0 Q ops rest ((d, .slice (some ⟨b, 0, none⟩) len len) :: env) (blk b l e :: hp)) : TL P n S w0 Q ops (⟨some d, .buildSlice t len parts, ty, pos, af, none⟩ :: rest) env hp :=
  l_op rfl fun K hK => e_buildSlice hd hv hr fun b => hK _ _ (h b)
theorem l_make {t e : TypeId} {x y : Operand} {vx vy : Value} {l : List Value} {len cap : Nat} (hd : Nat.blt d n = true) (hx : ev env x = some vx) (hy : ev env y = some vy)
    (hr : ∀ w, (Instr.makeSlice t vx vy).run P w = .ok (.slice (some ⟨w.heap.size, 0, none⟩) len cap) (w.alloc (.cells l.toArray e)))
    (h : ∀ b, TL P n S w0 Q ops rest ((d, .slice (some ⟨b, 0, none⟩) len cap) :: env) (blk b l e :: hp)) : TL P n S w0 Q ops (⟨some d, .makeSlice t x y, ty, pos, af, none⟩ :: rest) env hp :=
  l_op rfl fun K hK => e_makeSlice hd hx hy hr fun b => hK _ _ (h b)
/-- append to a row that is owned. -/
theorem e_app {g : Option (Nat × Bool)} (T : Tab P) {K : Act → World → Prop} {t e : TypeId} {x y : Operand} {v : Value} {size bytes m k c : Nat} {z : Value} {xs news : List Value} {A : Option Addr} (hd : Nat.blt d n = true) (hx : ev env x = some v) (hy : ev env y = some (.slice A k c)) (hT : RowT T t e size bytes z) {r : List Asn} (hi : Ext (row e size v m xs) hp r)
    (hr : ∀ w, St S w0 hp w → SrcAt w A (k * size) news) (h1 : ∀ u ∈ news, u.oneCell' = true) (h63 : m + k ≤ maxLen) (hb : (m + k) * bytes ≤ 140737488355328)
    (h : ∀ A' c', m + k ≤ c' → c' ≤ maxLen → TK n S w0 K ((d, .slice A' (m + k) c') :: env) (row e size (.slice A' (m + k) c') (m + k) (xs ++ news) :: r)) : TO P n S w0 Q ⟨some d, .call { callee := .builtin .append, args := #[x, y], argTypes := #[t, t] }, ty, pos, af, g⟩ K env hp := fun a w hE hS =>
  e_append T (hp := row e size v m xs :: r) (i := 0) hd hx hy rfl hT (fun w h => hr w (h.perm hi.perm.symm)) h1 h63 hb h a w hE (hS.ext hi)
theorem l_app (T : Tab P) {t e : TypeId} {x y : Operand} {v : Value} {size bytes m k c : Nat} {z : Value} {xs news : List Value} {A : Option Addr} (hd : Nat.blt d n = true) (hx : ev env x = some v) (hy : ev env y = some (.slice A k c)) (hT : RowT T t e size bytes z) {r : List Asn} (hi : Ext (row e size v m xs) hp r)
    (hr : ∀ w, St S w0 hp w → SrcAt w A (k * size) news) (h1 : ∀ u ∈ news, u.oneCell' = true) (h63 : m + k ≤ maxLen) (hb : (m + k) * bytes ≤ 140737488355328)
    (h : ∀ A' c', m + k ≤ c' → c' ≤ maxLen → TL P n S w0 Q ops rest ((d, .slice A' (m + k) c') :: env) (row e size (.slice A' (m + k) c') (m + k) (xs ++ news) :: r)) : TL P n S w0 Q ops (⟨some d, .call { callee := .builtin .append, args := #[x, y], argTypes := #[t, t] }, ty, pos, af, none⟩ :: rest) env hp :=
  l_op rfl fun K hK => e_app T hd hx hy hT hi hr h1 h63 hb fun A' c' h1 h2 => hK _ _ (h A' c' h1 h2)
/-- Calls: of a function that changes nothing of ours; of one that is handed one object, or two. -/
theorem l_call0 {f : FuncId} {fn : Func} {args : Array Operand} {ats : Array TypeId} {vs : List Value} {R : Value → List Asn → Prop} (hd : Nat.blt d n = true) (hv : evs env args.toList = some vs) (hf : P.funcs[f]? = some fn) (hb : fn.body.isSome = true) (hn : (fn.name == "runtime.NumGoroutine") = false)
    (hc : ∀ w, St S w0 hp w → Calls P f vs.toArray w (Ret w [] R)) (h : ∀ v B, R v B → TL P n S w0 Q ops rest ((d, v) :: env) (B ++ hp)) : TL P n S w0 Q ops (⟨some d, .call { callee := .value (.func f), args := args, argTypes := ats }, ty, pos, af, none⟩ :: rest) env hp :=
  l_op rfl fun K hK => e_call0 hd hv hf hb hn hc fun v B hR => hK _ _ (h v B hR)
theorem e_call1 {g : Option (Nat × Bool)} {K : Act → World → Prop} {f : FuncId} {fn : Func} {args : Array Operand} {ats : Array TypeId} {vs : List Value} {X : Asn} {r : List Asn} {R : Value → List Asn → Prop} (hi : Ext X hp r) (hd : Nat.blt d n = true) (hv : evs env args.toList = some vs) (hf : P.funcs[f]? = some fn) (hb : fn.body.isSome = true) (hn : (fn.name == "runtime.NumGoroutine") = false)
    (hc : ∀ w, St S w0 ([X] ++ r) w → Calls P f vs.toArray w (Ret w [X] R)) (h : ∀ v B, R v B → TK n S w0 K ((d, v) :: env) (B ++ r)) : TO P n S w0 Q ⟨some d, .call { callee := .value (.func f), args := args, argTypes := ats }, ty, pos, af, g⟩ K env hp :=
  e_call (A := [X]) (F := r) hd hv hf hb hn (fun w hS => hS.ext hi) hc h
theorem l_call1 {f : FuncId} {fn : Func} {args : Array Operand} {ats : Array TypeId} {vs : List Value} {X : Asn} {r : List Asn} {R : Value → List Asn → Prop} (hi : Ext X hp r) (hd : Nat.blt d n = true) (hv : evs env args.toList = some vs) (hf : P.funcs[f]? = some fn) (hb : fn.body.isSome = true) (hn : (fn.name == "runtime.NumGoroutine") = false)
    (hc : ∀ w, St S w0 ([X] ++ r) w → Calls P f vs.toArray w (Ret w [X] R)) (h : ∀ v B, R v B → TL P n S w0 Q ops rest ((d, v) :: env) (B ++ r)) : TL P n S w0 Q ops (⟨some d, .call { callee := .value (.func f), args := args, argTypes := ats }, ty, pos, af, none⟩ :: rest) env hp :=
  l_op rfl fun K hK => e_call1 hi hd hv hf hb hn hc fun v B hR => hK _ _ (h v B hR)
theorem e_call2 {g : Option (Nat × Bool)} {K : Act → World → Prop} {f : FuncId} {fn : Func} {args : Array Operand} {ats : Array TypeId} {vs : List Value} {X Y : Asn} {r r' : List Asn} {R : Value → List Asn → Prop} (hi : Ext X hp r) (hj : Ext Y r r') (hd : Nat.blt d n = true) (hv : evs env args.toList = some vs) (hf : P.funcs[f]? = some fn) (hb : fn.body.isSome = true) (hn : (fn.name == "runtime.NumGoroutine") = false)
    (hc : ∀ w, St S w0 ([X, Y] ++ r') w → Calls P f vs.toArray w (Ret w [X, Y] R)) (h : ∀ v B, R v B → TK n S w0 K ((d, v) :: env) (B ++ r')) : TO P n S w0 Q ⟨some d, .call { callee := .value (.func f), args := args, argTypes := ats }, ty, pos, af, g⟩ K env hp :=
  e_call (A := [X, Y]) (F := r') hd hv hf hb hn (fun w hS => hS.perm (hi.perm.trans (hj.perm.cons _))) hc h
theorem l_call2 {f : FuncId} {fn : Func} {args : Array Operand} {ats : Array TypeId} {vs : List Value} {X Y : Asn} {r r' : List Asn} {R : Value → List Asn → Prop} (hi : Ext X hp r) (hj : Ext Y r r') (hd : Nat.blt d n = true) (hv : evs env args.toList = some vs) (hf : P.funcs[f]? = some fn) (hb : fn.body.isSome = true) (hn : (fn.name == "runtime.NumGoroutine") = false)
    (hc : ∀ w, St S w0 ([X, Y] ++ r') w → Calls P f vs.toArray w (Ret w [X, Y] R)) (h : ∀ v B, R v B → TL P n S w0 Q ops rest ((d, v) :: env) (B ++ r')) : TL P n S w0 Q ops (⟨some d, .call { callee := .value (.func f), args := args, argTypes := ats }, ty, pos, af, none⟩ :: rest) env hp :=
  l_op rfl fun K hK => e_call2 hi hj hd hv hf hb hn hc fun v B hR => hK _ _ (h v B hR)

/-! ### Slices that are read -/
/-- A place behind a slice's beginning. -/
def adr (A : Option Addr) (k : Nat) : Option Addr := A.map (·.add k)
theorem adr_some (b o k : Nat) : adr (some ⟨b, o, none⟩) k = some ⟨b, o + k, none⟩ := by simp [adr, Addr.add_lit]
/-- q cells that begin at A. -/
def Src (S : Nat → Prop) (w0 : World) (hp : List Asn) (A : Option Addr) (q : Nat) (vs : List Value) : Prop := ∀ w, St S w0 hp w → SrcAt w A q vs
theorem q_ixS (T : Tab P) {d : Option Nat} {g : Option (Nat × Bool)} {t e : TypeId} {x ix : Operand} {A : Option Addr} {len cap : Nat} {k : IntKind} {i : Int} {z : Value} {sz y : Nat} {vs : List Value} (hx : ev env x = some (.slice A len cap)) (hi : ev env ix = some (.int k i)) (ht : T.u t = some (.slice e)) (hz : T.i e = some (z, sz, y)) (h0 : Nat.beq sz 0 = false) (hs : Src S w0 hp A (len * sz) vs) (h : 0 ≤ i ∧ i < len) :
    Qt P S w0 ⟨d, .indexAddr t x ix, ty, pos, af, g⟩ env hp (.pointer (adr A (i.toNat * sz))) := fun n a w hE hS => by
  have h0' : 0 < sz := by rcases Nat.eq_zero_or_pos sz with e | e; · subst e; cases h0
                          · exact e
  obtain ⟨b, o, rfl, _⟩ := (hs w hS).2 (Nat.mul_pos (by omega) h0')
  rw [adr_some]
  exact q_indexAddr T hx hi ht hz h n a w hE hS
theorem q_fldS (T : Tab P) {d : Option Nat} {g : Option (Nat × Bool)} {s : TypeId} {x : Operand} {i : Nat} {os : List Nat} {fs : List Field} {f : Field} {A : Option Addr} {j k q : Nat} {vs : List Value} {z : Value} {sz y : Nat} (hx : ev env x = some (.pointer (adr A j))) (ho : T.f s = some os) (hk : os[i]? = some k) (hs : T.u s = some (.struct fs.toArray)) (hf : fs[i]? = some f) (hz : T.i f.type = some (z, sz, y)) (h0 : Nat.beq sz 0 = false) (hsr : Src S w0 hp A q vs) (h : 0 < q) :
    Qt P S w0 ⟨d, .fieldAddr s x i, ty, pos, af, g⟩ env hp (.pointer (adr A (j + k))) := fun n a w hE hS => by
  obtain ⟨b, o, rfl, _⟩ := (hsr w hS).2 h
  rw [adr_some] at hx ⊢
  rw [← Nat.add_assoc]
  exact q_fieldAddr T hx ho hk hs hf hz h0 n a w hE hS
theorem q_nckS {d : Option Nat} {g : Option (Nat × Bool)} {x : Operand} {A : Option Addr} {j q : Nat} {vs : List Value} (hx : ev env x = some (.pointer (adr A j))) (hsr : Src S w0 hp A q vs) (h : 0 < q) : Qt P S w0 ⟨d, .nilCheck x, ty, pos, af, g⟩ env hp (.pointer (adr A j)) := fun n a w hE hS => by
  obtain ⟨b, o, rfl, _⟩ := (hsr w hS).2 h
  rw [adr_some] at hx ⊢
  exact q_nilck hx n a w hE hS
theorem q_ldS (T : Tab P) {d : Option Nat} {g : Option (Nat × Bool)} {t : TypeId} {x : Operand} {A : Option Addr} {j q : Nat} {vs : List Value} {v : Value} {dt : TypeDesc} (hx : ev env x = some (.pointer (adr A j))) (ht : T.u t = some dt) (ha : aggB dt = false) (hsr : Src S w0 hp A q vs) (hv : vs[j]? = some v) : Qt P S w0 ⟨d, .load t x, ty, pos, af, g⟩ env hp v := fun n a w hE hS => by
  have hj := (List.getElem?_eq_some_iff.1 hv).1
  have hl := (hsr w hS).1
  obtain ⟨b, o, rfl, hc⟩ := (hsr w hS).2 (by omega)
  rw [adr_some] at hx
  refine q_load T hx ht ha (fun w' h => ?_) n a w hE hS
  obtain ⟨b', o', e, hc'⟩ := (hsr w' h).2 (by omega)
  injection e with e
  injection e with e1 e2
  subst e1 e2
  exact hc' j v hv
theorem q_ldSN (T : Tab P) {d : Option Nat} {g : Option (Nat × Bool)} {t : TypeId} {x : Operand} {A : Option Addr} {j q : Nat} {vs us : List Value} {dt : TypeDesc} {z : Value} {s y : Nat} (hx : ev env x = some (.pointer (adr A j))) (ht : T.u t = some dt) (ha : aggB dt = true) (hi : T.i t = some (z, s, y)) (hsr : Src S w0 hp A q vs) (hl : us.length = s) (h0 : us ≠ []) (hv : ∀ i u, us[i]? = some u → vs[j + i]? = some u) : Qt P S w0 ⟨d, .load t x, ty, pos, af, g⟩ env hp (.agg us.toArray) := fun n a w hE hS => by
  have hj : 0 < q := by
    rcases us with _ | ⟨u, us⟩
    · exact absurd rfl h0
    · have := (List.getElem?_eq_some_iff.1 (hv 0 u rfl)).1
      have := (hsr w hS).1
      omega
  obtain ⟨b, o, rfl, hc⟩ := (hsr w hS).2 hj
  rw [adr_some] at hx
  refine q_loadN T hx ht ha hi hl (fun w' h => ?_) n a w hE hS
  obtain ⟨b', o', e, hc'⟩ := (hsr w' h).2 hj
  injection e with e
  injection e with e1 e2
  subst e1 e2
  intro i u hu
  rw [Nat.add_assoc]
  exact hc' _ _ (hv i u hu)
/-- A row of things of s cells each. -/
theorem flat_get {α : Type} {f : α → List Value} {s : Nat} (hf : ∀ x, (f x).length = s) : ∀ {l : List α} {i : Nat} {x : α}, l[i]? = some x → ∀ {k : Nat} {v : Value}, (f x)[k]? = some v → (l.flatMap f)[i * s + k]? = some v
  | [], i, x, h, k, v, hv => by simp at h
  | y :: l, 0, x, h, k, v, hv => by
    simp at h
    subst h
    have hk := (List.getElem?_eq_some_iff.1 hv).1
    rw [Nat.zero_mul, Nat.zero_add, List.flatMap_cons, List.getElem?_append_left hk]
    exact hv
  | y :: l, i + 1, x, h, k, v, hv => by
    have := flat_get hf (l := l) (i := i) (x := x) (by simpa using h) hv
    rw [List.flatMap_cons, List.getElem?_append_right (by rw [hf, Nat.add_mul]; omega), hf, show (i + 1) * s + k - s = i * s + k by rw [Nat.add_mul]; omega]
    exact this
theorem length_flat {α : Type} {f : α → List Value} {s : Nat} (hf : ∀ x, (f x).length = s) : ∀ (l : List α), (l.flatMap f).length = l.length * s
  | [] => by simp
  | y :: l => by rw [List.flatMap_cons, List.length_append, length_flat hf l, hf, List.length_cons, Nat.add_mul]; omega

/-! ### More loads -/
inductive TakeR : List Value → Nat → List Value → Prop
  | nil {l : List Value} : TakeR l 0 []
  | cons {x : Value} {l vs : List Value} {s : Nat} : TakeR l s vs → TakeR (x :: l) (s + 1) (x :: vs)
inductive CutR : List Value → Nat → Nat → List Value → Prop
  | zero {l vs : List Value} {s : Nat} : TakeR l s vs → CutR l 0 s vs
  | skip {x : Value} {l vs : List Value} {o s : Nat} : CutR l o s vs → CutR (x :: l) (o + 1) s vs
theorem TakeR.eq {l vs : List Value} {s : Nat} (h : TakeR l s vs) : vs.length = s ∧ ∀ (j : Nat) (u : Value), vs[j]? = some u → l[j]? = some u := by
  induction h with
  | nil => exact ⟨rfl, fun j u h => by simp at h⟩
  | cons _ ih =>
    refine ⟨by simp [ih.1], fun j u h => ?_⟩
    cases j with
    | zero => simpa using h
    | succ j => simpa using ih.2 j u (by simpa using h)
theorem CutR.eq {l vs : List Value} {o s : Nat} (h : CutR l o s vs) : vs.length = s ∧ ∀ (j : Nat) (u : Value), vs[j]? = some u → l[o + j]? = some u := by
  induction h with
  | zero h => simpa using h.eq
  | skip _ ih =>
    refine ⟨ih.1, fun j u h => ?_⟩
    rw [Nat.add_right_comm]
    simpa using ih.2 j u h
variable {g : Option (Nat × Bool)}
theorem q_ld1 (T : Tab P) {d : Option Nat} {t : TypeId} {x : Operand} {b o : Nat} {v : Value} {l : List Value} {t' : TypeId} {dt : TypeDesc} (hx : ev env x = some (.pointer (some ⟨b, o, none⟩))) (ht : T.u t = some dt) (ha : aggB dt = false) (hm : blk b l t' ∈ hp) (hv : l[o]? = some v) : Qt P S w0 ⟨d, .load t x, ty, pos, af, g⟩ env hp v :=
  q_load T hx ht ha fun w h => blk_cell (h.mem hm) hv
theorem q_ldN (T : Tab P) {d : Option Nat} {t : TypeId} {x : Operand} {b o : Nat} {l vs : List Value} {t' : TypeId} {dt : TypeDesc} {z : Value} {s y : Nat} (hx : ev env x = some (.pointer (some ⟨b, o, none⟩))) (ht : T.u t = some dt) (ha : aggB dt = true) (hi : T.i t = some (z, s, y)) (hm : blk b l t' ∈ hp) (hv : CutR l o s vs) : Qt P S w0 ⟨d, .load t x, ty, pos, af, g⟩ env hp (.agg vs.toArray) :=
  q_loadN T hx ht ha hi hv.eq.1 fun w h j u hu => blk_cell (h.mem hm) (hv.eq.2 j u hu)
theorem q_ldc (T : Tab P) {d : Option Nat} {t : TypeId} {x : Operand} {b o : Nat} {v : Value} {dt : TypeDesc} (hx : ev env x = some (.pointer (some ⟨b, o, none⟩))) (ht : T.u t = some dt) (ha : aggB dt = false) (hc : ∀ hp w, St S w0 hp w → w.cell? ⟨b, o, none⟩ = some v) : Qt P S w0 ⟨d, .load t x, ty, pos, af, g⟩ env hp v :=
  q_load T hx ht ha (hc hp)
theorem q_ldcN (T : Tab P) {d : Option Nat} {t : TypeId} {x : Operand} {b o : Nat} {vs : List Value} {dt : TypeDesc} {z : Value} {s y : Nat} (hx : ev env x = some (.pointer (some ⟨b, o, none⟩))) (ht : T.u t = some dt) (ha : aggB dt = true) (hi : T.i t = some (z, s, y)) (hc : ∀ hp w, St S w0 hp w → CellsAt w b o vs) (hl : vs.length = s) : Qt P S w0 ⟨d, .load t x, ty, pos, af, g⟩ env hp (.agg vs.toArray) :=
  q_loadN T hx ht ha hi hl (hc hp)
theorem q_ixS1 (T : Tab P) {d : Option Nat} {t e : TypeId} {x ix : Operand} {A : Option Addr} {len cap j : Nat} {k : IntKind} {i : Int} {z : Value} {y q : Nat} {vs : List Value} (hx : ev env x = some (.slice A len cap)) (hi : ev env ix = some (.int k i)) (ht : T.u t = some (.slice e)) (hz : T.i e = some (z, 1, y)) (hs : Src S w0 hp A q vs) (hj : i.toNat = j) (h : 0 ≤ i ∧ i < len) (hq : i.toNat < q) :
    Qt P S w0 ⟨d, .indexAddr t x ix, ty, pos, af, g⟩ env hp (.pointer (adr A j)) := fun n a w hE hS => by
  subst hj
  obtain ⟨b, o, rfl, _⟩ := (hs w hS).2 (by omega)
  rw [adr_some]
  exact q_indexAddr1 T hx hi ht hz h n a w hE hS
theorem q_ixSN (T : Tab P) {d : Option Nat} {t e : TypeId} {x ix : Operand} {A : Option Addr} {len cap j : Nat} {k : IntKind} {i : Int} {z : Value} {sz y q : Nat} {vs : List Value} (hx : ev env x = some (.slice A len cap)) (hi : ev env ix = some (.int k i)) (ht : T.u t = some (.slice e)) (hz : T.i e = some (z, sz, y)) (hs : Src S w0 hp A q vs) (hj : i.toNat = j) (h : 0 ≤ i ∧ i < len) (hq : 0 < q) :
    Qt P S w0 ⟨d, .indexAddr t x ix, ty, pos, af, g⟩ env hp (.pointer (adr A (j * sz))) := fun n a w hE hS => by
  subst hj
  obtain ⟨b, o, rfl, _⟩ := (hs w hS).2 hq
  rw [adr_some]
  exact q_indexAddr T hx hi ht hz h n a w hE hS
/-- Structs in a row: one field; the whole. -/
theorem q_ldF (T : Tab P) {d : Option Nat} {t : TypeId} {x : Operand} {A : Option Addr} {i s j q : Nat} {α : Type} {f : α → List Value} {l : List α} {y : α} {v : Value} {dt : TypeDesc} (hx : ev env x = some (.pointer (adr A (i * s + j)))) (ht : T.u t = some dt) (ha : aggB dt = false) (hsr : Src S w0 hp A q (l.flatMap f)) (hf : ∀ x, (f x).length = s) (hy : l[i]? = some y) (hv : (f y)[j]? = some v) : Qt P S w0 ⟨d, .load t x, ty, pos, af, g⟩ env hp v :=
  q_ldS T hx ht ha hsr (flat_get hf hy hv)
theorem q_ldFN (T : Tab P) {d : Option Nat} {t : TypeId} {x : Operand} {A : Option Addr} {i s q : Nat} {α : Type} {f : α → List Value} {l : List α} {y : α} {us : List Value} {dt : TypeDesc} {z : Value} {by_ : Nat} (hx : ev env x = some (.pointer (adr A (i * s)))) (ht : T.u t = some dt) (ha : aggB dt = true) (hi : T.i t = some (z, s, by_)) (hsr : Src S w0 hp A q (l.flatMap f)) (hf : ∀ x, (f x).length = s) (hy : l[i]? = some y) (hu : f y = us) (h0 : us ≠ []) : Qt P S w0 ⟨d, .load t x, ty, pos, af, g⟩ env hp (.agg us.toArray) :=
  q_ldSN T hx ht ha hi hsr (by rw [← hu]; exact hf y) h0 fun j u h => flat_get hf hy (by rw [hu]; exact h)
theorem q_minN {d : Option Nat} {x y : Operand} {k k' : IntKind} {m m' : Nat} {ts : Array TypeId} (hx : ev env x = some (.int k (m : Int))) (hy : ev env y = some (.int k' (m' : Int))) : Qt P S w0 ⟨d, .call { callee := .builtin .min, args := #[x, y], argTypes := ts }, ty, pos, af, g⟩ env hp (.int k ((min m m' : Nat) : Int)) :=
  q_min hx hy (by split <;> omega)
theorem q_maxN {d : Option Nat} {x y : Operand} {k k' : IntKind} {m m' : Nat} {ts : Array TypeId} (hx : ev env x = some (.int k (m : Int))) (hy : ev env y = some (.int k' (m' : Int))) : Qt P S w0 ⟨d, .call { callee := .builtin .max, args := #[x, y], argTypes := ts }, ty, pos, af, g⟩ env hp (.int k ((max m m' : Nat) : Int)) :=
  q_max hx hy (by split <;> omega)
/-! ### Splits -/
theorem l_split' {l : List Oper} (t : Nat) {b : Bool} (hb : look env t = some (.bool b)) (ht : b = true → TL P n S w0 Q ops l ((t, .bool true) :: env) hp) (hf : b = false → TL P n S w0 Q ops l ((t, .bool false) :: env) hp) : TL P n S w0 Q ops l env hp := l_split t hb ht hf
theorem l_gsplit {o : Oper} {rest : List Oper} {j t : Nat} {want b : Bool} (hg : o.guard = some (j, want)) (hj : (ops[j]?).bind (·.dst) = some t) (hb : look env t = some (.bool b)) (ht : b = true → TL P n S w0 Q ops (o :: rest) ((t, .bool true) :: env) hp) (hf : b = false → TL P n S w0 Q ops (o :: rest) ((t, .bool false) :: env) hp) : TL P n S w0 Q ops (o :: rest) env hp := l_split t hb ht hf
/-! ### Structs and slices that are built: the result is found by search, and checked by the kernel -/
inductive CellsOf : Value → List Value → Prop
  | agg {l : List Value} : CellsOf (.agg l.toArray) l
  | one {v : Value} : v.oneCell' = true → CellsOf v [v]
inductive AppR : List Value → List Value → List Value → Prop
  | nil {l : List Value} : AppR [] l l
  | cons {x : Value} {a l r : List Value} : AppR a l r → AppR (x :: a) l (x :: r)
inductive RepR (z : List Value) : Nat → List Value → Prop
  | zero : RepR z 0 []
  | succ {n : Nat} {l r : List Value} : RepR z n l → AppR z l r → RepR z (n + 1) r
inductive FillR (env : Env) (place : Nat → Option Nat) : List (Nat × Operand) → List Value → List Value → Prop
  | nil {l : List Value} : FillR env place [] l l
  | cons {i off : Nat} {x : Operand} {v : Value} {vs l l1 l2 : List Value} {rest : List (Nat × Operand)} : ev env x = some v → CellsOf v vs → place i = some off → LSets l off vs l1 → FillR env place rest l1 l2 → FillR env place ((i, x) :: rest) l l2
theorem q_bld (T : Tab P) {d : Option Nat} {t : TypeId} {parts : Array (Nat × Operand)} {vs zl rl : List Value} {os : List Nat} {s y : Nat} (hp_ : evs env (parts.toList.map (·.2)) = some vs) (hz : T.i t = some (.agg zl.toArray, s, y)) (ho : T.f t = some os) (hf : FillR env (fun i => os[i]?) parts.toList zl rl) (hr : ∀ w, (Instr.build t ((parts.toList.map (·.1)).zip vs).toArray).run P w = .ok (.agg rl.toArray) w) : Qt P S w0 ⟨d, .build t parts, ty, pos, af, g⟩ env hp (.agg rl.toArray) := q_build hp_ hr
theorem q_bldA (T : Tab P) {d : Option Nat} {t : TypeId} {parts : Array (Nat × Operand)} {vs zl rl : List Value} {m e s y sz : Nat} {ze : Value} {ye : Nat} (hp_ : evs env (parts.toList.map (·.2)) = some vs) (hz : T.i t = some (.agg zl.toArray, s, y)) (ht : T.u t = some (.array m e)) (he : T.i e = some (ze, sz, ye)) (hf : FillR env (fun i => some (i * sz)) parts.toList zl rl) (hr : ∀ w, (Instr.build t ((parts.toList.map (·.1)).zip vs).toArray).run P w = .ok (.agg rl.toArray) w) : Qt P S w0 ⟨d, .build t parts, ty, pos, af, g⟩ env hp (.agg rl.toArray) := q_build hp_ hr
theorem l_bldS (T : Tab P) {t e : TypeId} {len : Nat} {parts : Array (Nat × Operand)} {vs zc zl l : List Value} {z : Value} {sz y : Nat} (hd : Nat.blt d n = true) (hv : evs env (parts.toList.map (·.2)) = some vs) (ht : T.u t = some (.slice e)) (hz : T.i e = some (z, sz, y)) (hc : CellsOf z zc) (hl : RepR zc len zl) (hf : FillR env (fun i => some (i * sz)) parts.toList zl l)
    (hr : ∀ w, (Instr.buildSlice t len ((parts.toList.map (·.1)).zip vs).toArray).run P w = .ok (.slice (some ⟨w.heap.size, 0, none⟩) len len) (w.alloc (.cells l.toArray e)))
    (h : ∀ b, TL P n S w0 Q ops rest ((d, .slice (some ⟨b, 0, none⟩) len len) :: env) (blk b l e :: hp)) : TL P n S w0 Q ops (⟨some d, .buildSlice t len parts, ty, pos, af, none⟩ :: rest) env hp := l_build hd hv hr h
theorem e_bldS (T : Tab P) {K : Act → World → Prop} {t e : TypeId} {len : Nat} {parts : Array (Nat × Operand)} {vs zc zl l : List Value} {z : Value} {sz y : Nat} (hd : Nat.blt d n = true) (hv : evs env (parts.toList.map (·.2)) = some vs) (ht : T.u t = some (.slice e)) (hz : T.i e = some (z, sz, y)) (hc : CellsOf z zc) (hl : RepR zc len zl) (hf : FillR env (fun i => some (i * sz)) parts.toList zl l)
    (hr : ∀ w, (Instr.buildSlice t len ((parts.toList.map (·.1)).zip vs).toArray).run P w = .ok (.slice (some ⟨w.heap.size, 0, none⟩) len len) (w.alloc (.cells l.toArray e)))
    (h : ∀ b, TK n S w0 K ((d, .slice (some ⟨b, 0, none⟩) len len) :: env) (blk b l e :: hp)) : TO P n S w0 Q ⟨some d, .buildSlice t len parts, ty, pos, af, g⟩ K env hp := e_buildSlice hd hv hr h
theorem i_box {rest : List Oper} {t : TypeId} {x : Operand} (h : TL P n S w0 Q ops (⟨some d, .box t x, ty, pos, af, none⟩ :: rest) env hp) : TL P n S w0 Q ops (⟨some d, .box t x, ty, pos, af, none⟩ :: rest) env hp := h
theorem i_alloc {rest : List Oper} {t : TypeId} (h : TL P n S w0 Q ops (⟨some d, .alloc t, ty, pos, af, none⟩ :: rest) env hp) : TL P n S w0 Q ops (⟨some d, .alloc t, ty, pos, af, none⟩ :: rest) env hp := h
theorem i_bld {rest : List Oper} {t : TypeId} {ps : Array (Nat × Operand)} (h : TL P n S w0 Q ops (⟨some d, .build t ps, ty, pos, af, none⟩ :: rest) env hp) : TL P n S w0 Q ops (⟨some d, .build t ps, ty, pos, af, none⟩ :: rest) env hp := h
theorem i_bldS {rest : List Oper} {t : TypeId} {len : Nat} {ps : Array (Nat × Operand)} (h : TL P n S w0 Q ops (⟨some d, .buildSlice t len ps, ty, pos, af, none⟩ :: rest) env hp) : TL P n S w0 Q ops (⟨some d, .buildSlice t len ps, ty, pos, af, none⟩ :: rest) env hp := h
theorem iq_fld {d : Option Nat} {g : Option (Nat × Bool)} {v : Value} {s : TypeId} {x : Operand} {i : Nat} (h : Qt P S w0 ⟨d, .fieldAddr s x i, ty, pos, af, g⟩ env hp v) : Qt P S w0 ⟨d, .fieldAddr s x i, ty, pos, af, g⟩ env hp v := h
theorem iq_nck {d : Option Nat} {g : Option (Nat × Bool)} {v : Value} {x : Operand} (h : Qt P S w0 ⟨d, .nilCheck x, ty, pos, af, g⟩ env hp v) : Qt P S w0 ⟨d, .nilCheck x, ty, pos, af, g⟩ env hp v := h
theorem iq_cv {d : Option Nat} {g : Option (Nat × Bool)} {v : Value} {s t : TypeId} {x : Operand} (h : Qt P S w0 ⟨d, .convert s t x, ty, pos, af, g⟩ env hp v) : Qt P S w0 ⟨d, .convert s t x, ty, pos, af, g⟩ env hp v := h
theorem iq_bld {d : Option Nat} {g : Option (Nat × Bool)} {v : Value} {t : TypeId} {ps : Array (Nat × Operand)} (h : Qt P S w0 ⟨d, .build t ps, ty, pos, af, g⟩ env hp v) : Qt P S w0 ⟨d, .build t ps, ty, pos, af, g⟩ env hp v := h
theorem i_mk {rest : List Oper} {t : TypeId} {x y : Operand} (h : TL P n S w0 Q ops (⟨some d, .makeSlice t x y, ty, pos, af, none⟩ :: rest) env hp) : TL P n S w0 Q ops (⟨some d, .makeSlice t x y, ty, pos, af, none⟩ :: rest) env hp := h
end
theorem run_makeN {P : Program} (T : Tab P) {t e : TypeId} {z : Value} {y : Nat} (ht : T.u t = some (.slice e)) (hz : T.i e = some (z, 1, y)) (h1 : z.oneCell' = true) {k k' : IntKind} {m : Nat} (hm : (m : Int) * y ≤ 140737488355328) (hm' : (m : Int) ≤ 9223372036854775807) (w : World) :
    (Instr.makeSlice t (.int k m) (.int k' m)).run P w = .ok (.slice (some ⟨w.heap.size, 0, none⟩) m m) (w.alloc (.cells (List.replicate m z).toArray e)) := by
  have := run_make1 T ht hz h1 (k := k) (k' := k') (m := (m : Int)) (by omega) hm hm' w
  simpa using this
end Go.Proofs.Ytidekbijkknlmaa

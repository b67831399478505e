/-
  Part 4 of the proof of QJ: the texts SLe M1.
-/
import Derived.Test.YtboccjdncdaakaaK03

/-
  The walk's rules once more, in a form that needs no names: what is left to do stands in the goal; places are found by search.
-/

set_option linter.unusedVariables false
set_option maxRecDepth 100000
namespace Go.Proofs.Ytboccjdncdaakaa
open Go.RowKit

/-! ### Searches -/
inductive Upd (X Y : Asn) : List Asn → List Asn → Prop
  | head {r : List Asn} : Upd X Y (X :: r) (Y :: r)
  | tail {Z : Asn} {r r' : List Asn} : Upd X Y r r' → Upd X Y (Z :: r) (Z :: r')
theorem Upd.ix {X Y : Asn} {hp hp' : List Asn} (h : Upd X Y hp hp') : ∃ i, hp[i]? = some X ∧ hp' = hp.set i Y := by
  induction h with
  | head => exact ⟨0, rfl, rfl⟩
  | tail _ ih => obtain ⟨i, h1, h2⟩ := ih; exact ⟨i + 1, by simpa using h1, by simp [h2]⟩
/-- One object, and the others. -/
inductive Ext (X : Asn) : List Asn → List Asn → Prop
  | head {r : List Asn} : Ext X (X :: r) r
  | tail {Z : Asn} {r r' : List Asn} : Ext X r r' → Ext X (Z :: r) (Z :: r')
theorem Ext.perm {X : Asn} {hp r : List Asn} (h : Ext X hp r) : hp.Perm (X :: r) := by
  induction h with
  | head => exact .refl _
  | tail _ ih => exact (ih.cons _).trans (.swap _ _ _)
inductive SubL : List Asn → List Asn → Prop
  | nil {r : List Asn} : SubL [] r
  | keep {X : Asn} {a r : List Asn} : SubL a r → SubL (X :: a) (X :: r)
  | skip {X : Asn} {a r : List Asn} : SubL a r → SubL a (X :: r)
theorem SubL.sub {a r : List Asn} (h : SubL a r) : a.Sublist r := by
  induction h with
  | nil => exact List.nil_sublist _
  | keep _ ih => exact ih.cons_cons _
  | skip _ ih => exact ih.cons _
inductive LSet : List Value → Nat → Value → List Value → Prop
  | zero {x v : Value} {l : List Value} : LSet (x :: l) 0 v (v :: l)
  | succ {x v : Value} {l l' : List Value} {o : Nat} : LSet l o v l' → LSet (x :: l) (o + 1) v (x :: l')
theorem LSet.eq {l l' : List Value} {o : Nat} {v : Value} (h : LSet l o v l') : l' = l.set o v ∧ o < l.length := by
  induction h with
  | zero => simp
  | succ _ ih => simp [ih.1, ih.2]
inductive LSets : List Value → Nat → List Value → List Value → Prop
  | nil {l : List Value} {o : Nat} : LSets l o [] l
  | cons {l l1 l2 : List Value} {o : Nat} {v : Value} {vs : List Value} : LSet l o v l1 → LSets l1 (o + 1) vs l2 → LSets l o (v :: vs) l2
theorem LSets.eq {l l' : List Value} {o : Nat} {vs : List Value} (h : LSets l o vs l') : l' = setAt l o vs ∧ (vs ≠ [] → o + vs.length ≤ l.length) := by
  induction h with
  | nil => exact ⟨rfl, fun h => absurd rfl h⟩
  | @cons l l1 l2 o v vs h1 _ ih =>
    obtain ⟨e1, e2⟩ := h1.eq
    subst e1
    refine ⟨ih.1, fun _ => ?_⟩
    rcases vs with _ | ⟨u, vs⟩
    · simp; omega
    · have := ih.2 (by simp)
      simp at this ⊢
      omega
inductive Pick (env : Env) : List Nat → Env → Prop
  | nil : Pick env [] []
  | cons {k : Nat} {v : Value} {ks : List Nat} {pe : Env} : look env k = some v → Pick env ks pe → Pick env (k :: ks) ((k, v) :: pe)
theorem Pick.sub {env pe : Env} {ks : List Nat} (h : Pick env ks pe) : Sub pe env := by
  induction h with
  | nil => trivial
  | cons h _ ih => exact ⟨h, ih⟩

theorem look_int {env : Env} {k : Nat} {K : IntKind} {a b : Int} (h : look env k = some (.int K a)) (e : a = b) : look env k = some (.int K b) := by rw [h, e]
theorem Sub.cons {k : Nat} {v : Value} {e env : Env} (h : Proofs.Ytboccjdncdaakaa.look env k = some v) (hs : Sub e env) : Sub ((k, v) :: e) env := ⟨h, hs⟩

section
variable {S : Nat → Prop} {w0 w : World} {hp hp' : List Asn}
theorem St.perm (h : St S w0 hp w) (hq : hp.Perm hp') : St S w0 hp' w :=
  ⟨h.kept, fun A hA => h.own A (hq.mem_iff.2 hA), .of_pair ((List.Perm.pairwise_iff (fun h => Dj.symm h) hq).1 h.ap.pair), fun A hA => h.all A (hq.mem_iff.2 hA)⟩
theorem St.subl (h : St S w0 hp w) (hs : SubL hp' hp) : St S w0 hp' w :=
  ⟨h.kept, fun A hA => h.own A (hs.sub.subset hA), .of_pair (h.ap.pair.sublist hs.sub), fun A hA => h.all A (hs.sub.subset hA)⟩
theorem St.ext (h : St S w0 hp w) {X : Asn} {r : List Asn} (he : Ext X hp r) : St S w0 (X :: r) w := h.perm he.perm
theorem St.mem (h : St S w0 hp w) {X : Asn} (hX : X ∈ hp) : X.C w := h.all X hX
theorem St.upd (h : St S w0 hp w) {X Y : Asn} (hu : Upd X Y hp hp') (hC : X.C w → Y.C w) (hs : ∀ b, Y.S b → X.S b) : St S w0 hp' w := by
  obtain ⟨i, h1, rfl⟩ := hu.ix
  exact h.see h1 hC hs
end

/-! ### Code -/
def ThenC (P : Program) (y : Code) (Q : Exit → Act → World → Prop) : Exit → Act → World → Prop := Exit.then (fun a w => y.wp P Q a w) Q
section
variable {P : Program} {n : Nat} {S : Nat → Prop} {w0 : World} {Q : Exit → Act → World → Prop} {ops : Array Oper} {env : Env} {hp hp' : List Asn}
theorem d_seq {x y : Code} (h : TC P n S w0 (ThenC P y Q) x env hp) : TC P n S w0 Q (.seq x y) env hp := fun a w hE hS => wp_seq (h a w hE hS)
theorem d_then {y : Code} (h : TC P n S w0 Q y env hp) : TQ n S w0 (ThenC P y Q) .normal env hp := h
theorem d_then_exit {y : Code} {i : Nat} (h : TQ n S w0 Q (.exit i) env hp) : TQ n S w0 (ThenC P y Q) (.exit i) env hp := h
theorem d_then_ret {y : Code} (h : TQ n S w0 Q .ret env hp) : TQ n S w0 (ThenC P y Q) .ret env hp := h
/-- A loop: ks are temporaries that stay as they are, F objects that do. -/
theorem d_loop {T : Type} {c : Code} (ks : List Nat) {pe : Env} (E : T → Env) (F : List Asn) (H : T → List Asn) (J : T → Prop) (μ : T → Nat) (t0 : T) (hk : Pick env ks pe) (hJ : J t0) (hE : Sub (E t0) env) (hH : ∀ w, St S w0 hp w → St S w0 (H t0 ++ F) w)
    (round : ∀ t, J t → TC P n S w0 (Exit.then (Again n S w0 (fun t => E t ++ pe) (fun t => H t ++ F) J μ t) Q) c (E t ++ pe) (H t ++ F)) : TC P n S w0 Q (.loop c) env hp :=
  c_loop _ _ J μ t0 hJ (hE.append hk.sub) hH round
theorem c_subl {c : Code} (hs : SubL hp' hp) (h : TC P n S w0 Q c env hp') : TC P n S w0 Q c env hp := fun a w e s => h a w e (s.subl hs)
theorem c_pick {c : Code} (ks : List Nat) {pe : Env} (hk : Pick env ks pe) (h : TC P n S w0 Q c pe hp) : TC P n S w0 Q c env hp := c_sub hk.sub (fun _ h => h) h
theorem t_subl {e : Exit} (hs : SubL hp' hp) (h : TQ n S w0 Q e env hp') : TQ n S w0 Q e env hp := fun a w hE hS => h a w hE (hS.subl hs)
theorem l_subl {l : List Oper} (hs : SubL hp' hp) (h : TL P n S w0 Q ops l env hp') : TL P n S w0 Q ops l env hp := fun a w hE hS => h a w hE (hS.subl hs)

/-! ### Operations -/
variable {d : Nat} {ty : TypeId} {pos : String} {af : Array Edge} {rest : List Oper}
theorem l_boxA {t : TypeId} {x : Operand} {l : List Value} (hd : Nat.blt d n = true) (hx : ev env x = some (.agg l.toArray)) (h : ∀ b, TL P n S w0 Q ops rest ((d, .pointer (some ⟨b, 0, none⟩)) :: env) (blk b l t :: hp)) : TL P n S w0 Q ops (⟨some d, .box t x, ty, pos, af, none⟩ :: rest) env hp :=
  l_op rfl fun K hK => e_box hd hx (by simp [Value.cells]) fun b => hK _ _ (h b)
theorem l_box1 {t : TypeId} {x : Operand} {v : Value} (hd : Nat.blt d n = true) (hx : ev env x = some v) (h1 : v.oneCell' = true) (h : ∀ b, TL P n S w0 Q ops rest ((d, .pointer (some ⟨b, 0, none⟩)) :: env) (blk b [v] t :: hp)) : TL P n S w0 Q ops (⟨some d, .box t x, ty, pos, af, none⟩ :: rest) env hp :=
  l_op rfl fun K hK => e_box hd hx (by cases v <;> simp [Value.oneCell'] at h1 <;> rfl) fun b => hK _ _ (h b)
theorem l_allocA (T : Tab P) {t : TypeId} {l : List Value} {s y : Nat} (hd : Nat.blt d n = true) (hi : T.i t = some (.agg l.toArray, s, y)) (h : ∀ b, TL P n S w0 Q ops rest ((d, .pointer (some ⟨b, 0, none⟩)) :: env) (blk b l t :: hp)) : TL P n S w0 Q ops (⟨some d, .alloc t, ty, pos, af, none⟩ :: rest) env hp :=
  l_op rfl fun K hK => e_alloc T hd hi (by simp [Value.cells]) fun b => hK _ _ (h b)
theorem l_alloc1 (T : Tab P) {t : TypeId} {z : Value} {s y : Nat} (hd : Nat.blt d n = true) (hi : T.i t = some (z, s, y)) (h1 : z.oneCell' = true) (h : ∀ b, TL P n S w0 Q ops rest ((d, .pointer (some ⟨b, 0, none⟩)) :: env) (blk b [z] t :: hp)) : TL P n S w0 Q ops (⟨some d, .alloc t, ty, pos, af, none⟩ :: rest) env hp :=
  l_op rfl fun K hK => e_alloc T hd hi (by cases z <;> simp [Value.oneCell'] at h1 <;> rfl) fun b => hK _ _ (h b)
theorem e_set {g : Option (Nat × Bool)} (T : Tab P) {K : Act → World → Prop} {t : TypeId} {p x : Operand} {b o : Nat} {v : Value} {l l' : List Value} {t' : TypeId} {z : Value} {y : Nat} (hp_ : ev env p = some (.pointer (some ⟨b, o, none⟩))) (hx : ev env x = some v) (hz : T.i t = some (z, 1, y)) (hv : v.oneCell' = true) (hu : Upd (blk b l t') (blk b l' t') hp hp') (hl : LSet l o v l')
    (h : TK n S w0 K env hp') : TO P n S w0 Q ⟨none, .store t p x, ty, pos, af, g⟩ K env hp := by
  obtain ⟨i, h1, rfl⟩ := hu.ix
  obtain ⟨rfl, h2⟩ := hl.eq
  exact e_store1 T hp_ hx h1 hz h2 hv h
theorem l_set (T : Tab P) {t : TypeId} {p x : Operand} {b o : Nat} {v : Value} {l l' : List Value} {t' : TypeId} {z : Value} {y : Nat} (hp_ : ev env p = some (.pointer (some ⟨b, o, none⟩))) (hx : ev env x = some v) (hz : T.i t = some (z, 1, y)) (hv : v.oneCell' = true) (hu : Upd (blk b l t') (blk b l' t') hp hp') (hl : LSet l o v l')
    (h : TL P n S w0 Q ops rest env hp') : TL P n S w0 Q ops (⟨none, .store t p x, ty, pos, af, none⟩ :: rest) env hp :=
  l_op rfl fun K hK => e_set T hp_ hx hz hv hu hl (hK _ _ h)
/-- A store at a place that is known by a letter. -/
theorem e_setI {g : Option (Nat × Bool)} (T : Tab P) {K : Act → World → Prop} {t : TypeId} {p x : Operand} {b o : Nat} {v : Value} {l : List Value} {t' : TypeId} {z : Value} {y : Nat} (hp_ : ev env p = some (.pointer (some ⟨b, o, none⟩))) (hx : ev env x = some v) (hz : T.i t = some (z, 1, y)) (hv : v.oneCell' = true) (hu : Upd (blk b l t') (blk b (l.set o v) t') hp hp') (ho : o < l.length)
    (h : TK n S w0 K env hp') : TO P n S w0 Q ⟨none, .store t p x, ty, pos, af, g⟩ K env hp := by
  obtain ⟨i, h1, rfl⟩ := hu.ix
  exact e_store1 T hp_ hx h1 hz ho hv h
theorem l_setI (T : Tab P) {t : TypeId} {p x : Operand} {b o : Nat} {v : Value} {l : List Value} {t' : TypeId} {z : Value} {y : Nat} (hp_ : ev env p = some (.pointer (some ⟨b, o, none⟩))) (hx : ev env x = some v) (hz : T.i t = some (z, 1, y)) (hv : v.oneCell' = true) (hu : Upd (blk b l t') (blk b (l.set o v) t') hp hp') (ho : o < l.length)
    (h : TL P n S w0 Q ops rest env hp') : TL P n S w0 Q ops (⟨none, .store t p x, ty, pos, af, none⟩ :: rest) env hp :=
  l_op rfl fun K hK => e_setI T hp_ hx hz hv hu ho (hK _ _ h)
theorem e_setN {g : Option (Nat × Bool)} (T : Tab P) {K : Act → World → Prop} {t : TypeId} {p x : Operand} {b o : Nat} {vs l l' : List Value} {t' : TypeId} {z : Value} {s y : Nat} (hp_ : ev env p = some (.pointer (some ⟨b, o, none⟩))) (hx : ev env x = some (.agg vs.toArray)) (hz : T.i t = some (z, s, y)) (hs : vs.length = s) (h0 : vs ≠ []) (hv : vs.all (·.oneCell') = true) (hu : Upd (blk b l t') (blk b l' t') hp hp') (hl : LSets l o vs l')
    (h : TK n S w0 K env hp') : TO P n S w0 Q ⟨none, .store t p x, ty, pos, af, g⟩ K env hp := by
  obtain ⟨i, h1, rfl⟩ := hu.ix
  obtain ⟨rfl, h2⟩ := hl.eq
  exact e_storeN T hp_ hx (by simp [Value.cells]) h1 hz hs (h2 h0) hv h
theorem l_setN (T : Tab P) {t : TypeId} {p x : Operand} {b o : Nat} {vs l l' : List Value} {t' : TypeId} {z : Value} {s y : Nat} (hp_ : ev env p = some (.pointer (some ⟨b, o, none⟩))) (hx : ev env x = some (.agg vs.toArray)) (hz : T.i t = some (z, s, y)) (hs : vs.length = s) (h0 : vs ≠ []) (hv : vs.all (·.oneCell') = true) (hu : Upd (blk b l t') (blk b l' t') hp hp') (hl : LSets l o vs l')
    (h : TL P n S w0 Q ops rest env hp') : TL P n S w0 Q ops (⟨none, .store t p x, ty, pos, af, none⟩ :: rest) env hp :=
  l_op rfl fun K hK => e_setN T hp_ hx hz hs h0 hv hu hl (hK _ _ h)
theorem l_build {t e : TypeId} {len : Nat} {parts : Array (Nat × Operand)} {vs l : List Value} (hd : Nat.blt d n = true) (hv : evs env (parts.toList.map (·.2)) = some vs)
    (hr : ∀ w, (Instr.buildSlice t len ((parts.toList.map (·.1)).zip vs).toArray).run P w = .ok (.slice (some ⟨w.heap.size, 0, none⟩) len len) (w.alloc (.cells l.toArray e)))
    (h : ∀ b, TL P n S w0 Q ops rest ((d, .slice (some ⟨b, 0, none⟩) len len) :: env) (blk b l e :: hp)) : TL P n S w0 Q ops (⟨some d, .buildSlice t len parts, ty, pos, af, none⟩ :: rest) env hp :=
  l_op rfl fun K hK => e_buildSlice hd hv hr fun b => hK _ _ (h b)
theorem l_make {t e : TypeId} {x y : Operand} {vx vy : Value} {l : List Value} {len cap : Nat} (hd : Nat.blt d n = true) (hx : ev env x = some vx) (hy : ev env y = some vy)
    (hr : ∀ w, (Instr.makeSlice t vx vy).run P w = .ok (.slice (some ⟨w.heap.size, 0, none⟩) len cap) (w.alloc (.cells l.toArray e)))
    (h : ∀ b, TL P n S w0 Q ops rest ((d, .slice (some ⟨b, 0, none⟩) len cap) :: env) (blk b l e :: hp)) : TL P n S w0 Q ops (⟨some d, .makeSlice t x y, ty, pos, af, none⟩ :: rest) env hp :=
  l_op rfl fun K hK => e_makeSlice hd hx hy hr fun b => hK _ _ (h b)
/-- append to a row that is owned. -/
theorem e_app {g : Option (Nat × Bool)} (T : Tab P) {K : Act → World → Prop} {t e : TypeId} {x y : Operand} {v : Value} {size bytes m k c : Nat} {z : Value} {xs news : List Value} {A : Option Addr} (hd : Nat.blt d n = true) (hx : ev env x = some v) (hy : ev env y = some (.slice A k c)) (hT : RowT T t e size bytes z) {r : List Asn} (hi : Ext (row e size v m xs) hp r)
    (hr : ∀ w, St S w0 hp w → SrcAt w A (k * size) news) (h1 : ∀ u ∈ news, u.oneCell' = true) (h63 : m + k ≤ maxLen) (hb : (m + k) * bytes ≤ 140737488355328)
    (h : ∀ A' c', m + k ≤ c' → c' ≤ maxLen → TK n S w0 K ((d, .slice A' (m + k) c') :: env) (row e size (.slice A' (m + k) c') (m + k) (xs ++ news) :: r)) : TO P n S w0 Q ⟨some d, .call { callee := .builtin .append, args := #[x, y], argTypes := #[t, t] }, ty, pos, af, g⟩ K env hp := fun a w hE hS =>
  e_append T (hp := row e size v m xs :: r) (i := 0) hd hx hy rfl hT (fun w h => hr w (h.perm hi.perm.symm)) h1 h63 hb h a w hE (hS.ext hi)
theorem l_app (T : Tab P) {t e : TypeId} {x y : Operand} {v : Value} {size bytes m k c : Nat} {z : Value} {xs news : List Value} {A : Option Addr} (hd : Nat.blt d n = true) (hx : ev env x = some v) (hy : ev env y = some (.slice A k c)) (hT : RowT T t e size bytes z) {r : List Asn} (hi : Ext (row e size v m xs) hp r)
    (hr : ∀ w, St S w0 hp w → SrcAt w A (k * size) news) (h1 : ∀ u ∈ news, u.oneCell' = true) (h63 : m + k ≤ maxLen) (hb : (m + k) * bytes ≤ 140737488355328)
    (h : ∀ A' c', m + k ≤ c' → c' ≤ maxLen → TL P n S w0 Q ops rest ((d, .slice A' (m + k) c') :: env) (row e size (.slice A' (m + k) c') (m + k) (xs ++ news) :: r)) : TL P n S w0 Q ops (⟨some d, .call { callee := .builtin .append, args := #[x, y], argTypes := #[t, t] }, ty, pos, af, none⟩ :: rest) env hp :=
  l_op rfl fun K hK => e_app T hd hx hy hT hi hr h1 h63 hb fun A' c' h1 h2 => hK _ _ (h A' c' h1 h2)
/-- Calls: of a function that changes nothing of ours; of one that is handed one object, or two. -/
theorem l_call0 {f : FuncId} {fn : Func} {args : Array Operand} {ats : Array TypeId} {vs : List Value} {R : Value → List Asn → Prop} (hd : Nat.blt d n = true) (hv : evs env args.toList = some vs) (hf : P.funcs[f]? = some fn) (hb : fn.body.isSome = true) (hn : (fn.name == "runtime.NumGoroutine") = false)
    (hc : ∀ w, St S w0 hp w → Calls P f vs.toArray w (Ret w [] R)) (h : ∀ v B, R v B → TL P n S w0 Q ops rest ((d, v) :: env) (B ++ hp)) : TL P n S w0 Q ops (⟨some d, .call { callee := .value (.func f), args := args, argTypes := ats }, ty, pos, af, none⟩ :: rest) env hp :=
  l_op rfl fun K hK => e_call0 hd hv hf hb hn hc fun v B hR => hK _ _ (h v B hR)
theorem e_call1 {g : Option (Nat × Bool)} {K : Act → World → Prop} {f : FuncId} {fn : Func} {args : Array Operand} {ats : Array TypeId} {vs : List Value} {X : Asn} {r : List Asn} {R : Value → List Asn → Prop} (hi : Ext X hp r) (hd : Nat.blt d n = true) (hv : evs env args.toList = some vs) (hf : P.funcs[f]? = some fn) (hb : fn.body.isSome = true) (hn : (fn.name == "runtime.NumGoroutine") = false)
    (hc : ∀ w, St S w0 ([X] ++ r) w → Calls P f vs.toArray w (Ret w [X] R)) (h : ∀ v B, R v B → TK n S w0 K ((d, v) :: env) (B ++ r)) : TO P n S w0 Q ⟨some d, .call { callee := .value (.func f), args := args, argTypes := ats }, ty, pos, af, g⟩ K env hp :=
  e_call (A := [X]) (F := r) hd hv hf hb hn (fun w hS => hS.ext hi) hc h
theorem l_call1 {f : FuncId} {fn : Func} {args : Array Operand} {ats : Array TypeId} {vs : List Value} {X : Asn} {r : List Asn} {R : Value → List Asn → Prop} (hi : Ext X hp r) (hd : Nat.blt d n = true) (hv : evs env args.toList = some vs) (hf : P.funcs[f]? = some fn) (hb : fn.body.isSome = true) (hn : (fn.name == "runtime.NumGoroutine") = false)
    (hc : ∀ w, St S w0 ([X] ++ r) w → Calls P f vs.toArray w (Ret w [X] R)) (h : ∀ v B, R v B → TL P n S w0 Q ops rest ((d, v) :: env) (B ++ r)) : TL P n S w0 Q ops (⟨some d, .call { callee := .value (.func f), args := args, argTypes := ats }, ty, pos, af, none⟩ :: rest) env hp :=
  l_op rfl fun K hK => e_call1 hi hd hv hf hb hn hc fun v B hR => hK _ _ (h v B hR)
theorem e_call2 {g : Option (Nat × Bool)} {K : Act → World → Prop} {f : FuncId} {fn : Func} {args : Array Operand} {ats : Array TypeId} {vs : List Value} {X Y : Asn} {r r' : List Asn} {R : Value → List Asn → Prop} (hi : Ext X hp r) (hj : Ext Y r r') (hd : Nat.blt d n = true) (hv : evs env args.toList = some vs) (hf : P.funcs[f]? = some fn) (hb : fn.body.isSome = true) (hn : (fn.name == "runtime.NumGoroutine") = false)
    (hc : ∀ w, St S w0 ([X, Y] ++ r') w → Calls P f vs.toArray w (Ret w [X, Y] R)) (h : ∀ v B, R v B → TK n S w0 K ((d, v) :: env) (B ++ r')) : TO P n S w0 Q ⟨some d, .call { callee := .value (.func f), args := args, argTypes := ats }, ty, pos, af, g⟩ K env hp :=
  e_call (A := [X, Y]) (F := r') hd hv hf hb hn (fun w hS => hS.perm (hi.perm.trans (hj.perm.cons _))) hc h
theorem l_call2 {f : FuncId} {fn : Func} {args : Array Operand} {ats : Array TypeId} {vs : List Value} {X Y : Asn} {r r' : List Asn} {R : Value → List Asn → Prop} (hi : Ext X hp r) (hj : Ext Y r r') (hd : Nat.blt d n = true) (hv : evs env args.toList = some vs) (hf : P.funcs[f]? = some fn) (hb : fn.body.isSome = true) (hn : (fn.name == "runtime.NumGoroutine") = false)
    (hc : ∀ w, St S w0 ([X, Y] ++ r') w → Calls P f vs.toArray w (Ret w [X, Y] R)) (h : ∀ v B, R v B → TL P n S w0 Q ops rest ((d, v) :: env) (B ++ r')) : TL P n S w0 Q ops (⟨some d, .call { callee := .value (.func f), args := args, argTypes := ats }, ty, pos, af, none⟩ :: rest) env hp :=
  l_op rfl fun K hK => e_call2 hi hj hd hv hf hb hn hc fun v B hR => hK _ _ (h v B hR)

/-! ### Slices that are read -/
/-- A place behind a slice's beginning. -/
def adr (A : Option Addr) (k : Nat) : Option Addr := A.map (·.add k)
theorem adr_some (b o k : Nat) : adr (some ⟨b, o, none⟩) k = some ⟨b, o + k, none⟩ := by simp [adr, Addr.add_lit]
/-- q cells that begin at A. -/
def Src (S : Nat → Prop) (w0 : World) (hp : List Asn) (A : Option Addr) (q : Nat) (vs : List Value) : Prop := ∀ w, St S w0 hp w → SrcAt w A q vs
theorem q_ixS (T : Tab P) {d : Option Nat} {g : Option (Nat × Bool)} {t e : TypeId} {x ix : Operand} {A : Option Addr} {len cap : Nat} {k : IntKind} {i : Int} {z : Value} {sz y : Nat} {vs : List Value} (hx : ev env x = some (.slice A len cap)) (hi : ev env ix = some (.int k i)) (ht : T.u t = some (.slice e)) (hz : T.i e = some (z, sz, y)) (h0 : Nat.beq sz 0 = false) (hs : Src S w0 hp A (len * sz) vs) (h : 0 ≤ i ∧ i < len) :
    Qt P S w0 ⟨d, .indexAddr t x ix, ty, pos, af, g⟩ env hp (.pointer (adr A (i.toNat * sz))) := fun n a w hE hS => by
  have h0' : 0 < sz := by rcases Nat.eq_zero_or_pos sz with e | e; · subst e; cases h0
                          · exact e
  obtain ⟨b, o, rfl, _⟩ := (hs w hS).2 (Nat.mul_pos (by omega) h0')
  rw [adr_some]
  exact q_indexAddr T hx hi ht hz h n a w hE hS
theorem q_fldS (T : Tab P) {d : Option Nat} {g : Option (Nat × Bool)} {s : TypeId} {x : Operand} {i : Nat} {os : List Nat} {fs : List Field} {f : Field} {A : Option Addr} {j k q : Nat} {vs : List Value} {z : Value} {sz y : Nat} (hx : ev env x = some (.pointer (adr A j))) (ho : T.f s = some os) (hk : os[i]? = some k) (hs : T.u s = some (.struct fs.toArray)) (hf : fs[i]? = some f) (hz : T.i f.type = some (z, sz, y)) (h0 : Nat.beq sz 0 = false) (hsr : Src S w0 hp A q vs) (h : 0 < q) :
    Qt P S w0 ⟨d, .fieldAddr s x i, ty, pos, af, g⟩ env hp (.pointer (adr A (j + k))) := fun n a w hE hS => by
  obtain ⟨b, o, rfl, _⟩ := (hsr w hS).2 h
  rw [adr_some] at hx ⊢
  rw [← Nat.add_assoc]
  exact q_fieldAddr T hx ho hk hs hf hz h0 n a w hE hS
theorem q_nckS {d : Option Nat} {g : Option (Nat × Bool)} {x : Operand} {A : Option Addr} {j q : Nat} {vs : List Value} (hx : ev env x = some (.pointer (adr A j))) (hsr : Src S w0 hp A q vs) (h : 0 < q) : Qt P S w0 ⟨d, .nilCheck x, ty, pos, af, g⟩ env hp (.pointer (adr A j)) := fun n a w hE hS => by
  obtain ⟨b, o, rfl, _⟩ := (hsr w hS).2 h
  rw [adr_some] at hx ⊢
  exact q_nilck hx n a w hE hS
theorem q_ldS (T : Tab P) {d : Option Nat} {g : Option (Nat × Bool)} {t : TypeId} {x : Operand} {A : Option Addr} {j q : Nat} {vs : List Value} {v : Value} {dt : TypeDesc} (hx : ev env x = some (.pointer (adr A j))) (ht : T.u t = some dt) (ha : aggB dt = false) (hsr : Src S w0 hp A q vs) (hv : vs[j]? = some v) : Qt P S w0 ⟨d, .load t x, ty, pos, af, g⟩ env hp v := fun n a w hE hS => by
  have hj := (List.getElem?_eq_some_iff.1 hv).1
  have hl := (hsr w hS).1
  obtain ⟨b, o, rfl, hc⟩ := (hsr w hS).2 (by omega)
  rw [adr_some] at hx
  refine q_load T hx ht ha (fun w' h => ?_) n a w hE hS
  obtain ⟨b', o', e, hc'⟩ := (hsr w' h).2 (by omega)
  injection e with e
  injection e with e1 e2
  subst e1 e2
  exact hc' j v hv
theorem q_ldSN (T : Tab P) {d : Option Nat} {g : Option (Nat × Bool)} {t : TypeId} {x : Operand} {A : Option Addr} {j q : Nat} {vs us : List Value} {dt : TypeDesc} {z : Value} {s y : Nat} (hx : ev env x = some (.pointer (adr A j))) (ht : T.u t = some dt) (ha : aggB dt = true) (hi : T.i t = some (z, s, y)) (hsr : Src S w0 hp A q vs) (hl : us.length = s) (h0 : us ≠ []) (hv : ∀ i u, us[i]? = some u → vs[j + i]? = some u) : Qt P S w0 ⟨d, .load t x, ty, pos, af, g⟩ env hp (.agg us.toArray) := fun n a w hE hS => by
  have hj : 0 < q := by
    rcases us with _ | ⟨u, us⟩
    · exact absurd rfl h0
    · have := (List.getElem?_eq_some_iff.1 (hv 0 u rfl)).1
      have := (hsr w hS).1
      omega
  obtain ⟨b, o, rfl, hc⟩ := (hsr w hS).2 hj
  rw [adr_some] at hx
  refine q_loadN T hx ht ha hi hl (fun w' h => ?_) n a w hE hS
  obtain ⟨b', o', e, hc'⟩ := (hsr w' h).2 hj
  injection e with e
  injection e with e1 e2
  subst e1 e2
  intro i u hu
  rw [Nat.add_assoc]
  exact hc' _ _ (hv i u hu)
/-- A row of things of s cells each. -/
theorem flat_get {α : Type} {f : α → List Value} {s : Nat} (hf : ∀ x, (f x).length = s) : ∀ {l : List α} {i : Nat} {x : α}, l[i]? = some x → ∀ {k : Nat} {v : Value}, (f x)[k]? = some v → (l.flatMap f)[i * s + k]? = some v
  | [], i, x, h, k, v, hv => by simp at h
  | y :: l, 0, x, h, k, v, hv => by
    simp at h
    subst h
    have hk := (List.getElem?_eq_some_iff.1 hv).1
    rw [Nat.zero_mul, Nat.zero_add, List.flatMap_cons, List.getElem?_append_left hk]
    exact hv
  | y :: l, i + 1, x, h, k, v, hv => by
    have := flat_get hf (l := l) (i := i) (x := x) (by simpa using h) hv
    rw [List.flatMap_cons, List.getElem?_append_right (by rw [hf, Nat.add_mul]; omega), hf, show (i + 1) * s + k - s = i * s + k by rw [Nat.add_mul]; omega]
    exact this
theorem length_flat {α : Type} {f : α → List Value} {s : Nat} (hf : ∀ x, (f x).length = s) : ∀ (l : List α), (l.flatMap f).length = l.length * s
  | [] => by simp
  | y :: l => by rw [List.flatMap_cons, List.length_append, length_flat hf l, hf, List.length_cons, Nat.add_mul]; omega

/-! ### More loads -/
inductive TakeR : List Value → Nat → List Value → Prop
  | nil {l : List Value} : TakeR l 0 []
  | cons {x : Value} {l vs : List Value} {s : Nat} : TakeR l s vs → TakeR (x :: l) (s + 1) (x :: vs)
inductive CutR : List Value → Nat → Nat → List Value → Prop
  | zero {l vs : List Value} {s : Nat} : TakeR l s vs → CutR l 0 s vs
  | skip {x : Value} {l vs : List Value} {o s : Nat} : CutR l o s vs → CutR (x :: l) (o + 1) s vs
theorem TakeR.eq {l vs : List Value} {s : Nat} (h : TakeR l s vs) : vs.length = s ∧ ∀ (j : Nat) (u : Value), vs[j]? = some u → l[j]? = some u := by
  induction h with
  | nil => exact ⟨rfl, fun j u h => by simp at h⟩
  | cons _ ih =>
    refine ⟨by simp [ih.1], fun j u h => ?_⟩
    cases j with
    | zero => simpa using h
    | succ j => simpa using ih.2 j u (by simpa using h)
theorem CutR.eq {l vs : List Value} {o s : Nat} (h : CutR l o s vs) : vs.length = s ∧ ∀ (j : Nat) (u : Value), vs[j]? = some u → l[o + j]? = some u := by
  induction h with
  | zero h => simpa using h.eq
  | skip _ ih =>
    refine ⟨ih.1, fun j u h => ?_⟩
    rw [Nat.add_right_comm]
    simpa using ih.2 j u h
variable {g : Option (Nat × Bool)}
theorem q_ld1 (T : Tab P) {d : Option Nat} {t : TypeId} {x : Operand} {b o : Nat} {v : Value} {l : List Value} {t' : TypeId} {dt : TypeDesc} (hx : ev env x = some (.pointer (some ⟨b, o, none⟩))) (ht : T.u t = some dt) (ha : aggB dt = false) (hm : blk b l t' ∈ hp) (hv : l[o]? = some v) : Qt P S w0 ⟨d, .load t x, ty, pos, af, g⟩ env hp v :=
  q_load T hx ht ha fun w h => blk_cell (h.mem hm) hv
theorem q_ldN (T : Tab P) {d : Option Nat} {t : TypeId} {x : Operand} {b o : Nat} {l vs : List Value} {t' : TypeId} {dt : TypeDesc} {z : Value} {s y : Nat} (hx : ev env x = some (.pointer (some ⟨b, o, none⟩))) (ht : T.u t = some dt) (ha : aggB dt = true) (hi : T.i t = some (z, s, y)) (hm : blk b l t' ∈ hp) (hv : CutR l o s vs) : Qt P S w0 ⟨d, .load t x, ty, pos, af, g⟩ env hp (.agg vs.toArray) :=
  q_loadN T hx ht ha hi hv.eq.1 fun w h j u hu => blk_cell (h.mem hm) (hv.eq.2 j u hu)
theorem q_ldc (T : Tab P) {d : Option Nat} {t : TypeId} {x : Operand} {b o : Nat} {v : Value} {dt : TypeDesc} (hx : ev env x = some (.pointer (some ⟨b, o, none⟩))) (ht : T.u t = some dt) (ha : aggB dt = false) (hc : ∀ hp w, St S w0 hp w → w.cell? ⟨b, o, none⟩ = some v) : Qt P S w0 ⟨d, .load t x, ty, pos, af, g⟩ env hp v :=
  q_load T hx ht ha (hc hp)
theorem q_ldcN (T : Tab P) {d : Option Nat} {t : TypeId} {x : Operand} {b o : Nat} {vs : List Value} {dt : TypeDesc} {z : Value} {s y : Nat} (hx : ev env x = some (.pointer (some ⟨b, o, none⟩))) (ht : T.u t = some dt) (ha : aggB dt = true) (hi : T.i t = some (z, s, y)) (hc : ∀ hp w, St S w0 hp w → CellsAt w b o vs) (hl : vs.length = s) : Qt P S w0 ⟨d, .load t x, ty, pos, af, g⟩ env hp (.agg vs.toArray) :=
  q_loadN T hx ht ha hi hl (hc hp)
theorem q_ixS1 (T : Tab P) {d : Option Nat} {t e : TypeId} {x ix : Operand} {A : Option Addr} {len cap j : Nat} {k : IntKind} {i : Int} {z : Value} {y q : Nat} {vs : List Value} (hx : ev env x = some (.slice A len cap)) (hi : ev env ix = some (.int k i)) (ht : T.u t = some (.slice e)) (hz : T.i e = some (z, 1, y)) (hs : Src S w0 hp A q vs) (hj : i.toNat = j) (h : 0 ≤ i ∧ i < len) (hq : i.toNat < q) :
    Qt P S w0 ⟨d, .indexAddr t x ix, ty, pos, af, g⟩ env hp (.pointer (adr A j)) := fun n a w hE hS => by
  subst hj
  obtain ⟨b, o, rfl, _⟩ := (hs w hS).2 (by omega)
  rw [adr_some]
  exact q_indexAddr1 T hx hi ht hz h n a w hE hS
theorem q_ixSN (T : Tab P) {d : Option Nat} {t e : TypeId} {x ix : Operand} {A : Option Addr} {len cap j : Nat} {k : IntKind} {i : Int} {z : Value} {sz y q : Nat} {vs : List Value} (hx : ev env x = some (.slice A len cap)) (hi : ev env ix = some (.int k i)) (ht : T.u t = some (.slice e)) (hz : T.i e = some (z, sz, y)) (hs : Src S w0 hp A q vs) (hj : i.toNat = j) (h : 0 ≤ i ∧ i < len) (hq : 0 < q) :
    Qt P S w0 ⟨d, .indexAddr t x ix, ty, pos, af, g⟩ env hp (.pointer (adr A (j * sz))) := fun n a w hE hS => by
  subst hj
  obtain ⟨b, o, rfl, _⟩ := (hs w hS).2 hq
  rw [adr_some]
  exact q_indexAddr T hx hi ht hz h n a w hE hS
/-- Structs in a row: one field; the whole. -/
theorem q_ldF (T : Tab P) {d : Option Nat} {t : TypeId} {x : Operand} {A : Option Addr} {i s j q : Nat} {α : Type} {f : α → List Value} {l : List α} {y : α} {v : Value} {dt : TypeDesc} (hx : ev env x = some (.pointer (adr A (i * s + j)))) (ht : T.u t = some dt) (ha : aggB dt = false) (hsr : Src S w0 hp A q (l.flatMap f)) (hf : ∀ x, (f x).length = s) (hy : l[i]? = some y) (hv : (f y)[j]? = some v) : Qt P S w0 ⟨d, .load t x, ty, pos, af, g⟩ env hp v :=
  q_ldS T hx ht ha hsr (flat_get hf hy hv)
theorem q_ldFN (T : Tab P) {d : Option Nat} {t : TypeId} {x : Operand} {A : Option Addr} {i s q : Nat} {α : Type} {f : α → List Value} {l : List α} {y : α} {us : List Value} {dt : TypeDesc} {z : Value} {by_ : Nat} (hx : ev env x = some (.pointer (adr A (i * s)))) (ht : T.u t = some dt) (ha : aggB dt = true) (hi : T.i t = some (z, s, by_)) (hsr : Src S w0 hp A q (l.flatMap f)) (hf : ∀ x, (f x).length = s) (hy : l[i]? = some y) (hu : f y = us) (h0 : us ≠ []) : Qt P S w0 ⟨d, .load t x, ty, pos, af, g⟩ env hp (.agg us.toArray) :=
  q_ldSN T hx ht ha hi hsr (by rw [← hu]; exact hf y) h0 fun j u h => flat_get hf hy (by rw [hu]; exact h)
theorem q_minN {d : Option Nat} {x y : Operand} {k k' : IntKind} {m m' : Nat} {ts : Array TypeId} (hx : ev env x = some (.int k (m : Int))) (hy : ev env y = some (.int k' (m' : Int))) : Qt P S w0 ⟨d, .call { callee := .builtin .min, args := #[x, y], argTypes := ts }, ty, pos, af, g⟩ env hp (.int k ((min m m' : Nat) : Int)) :=
  q_min hx hy (by split <;> omega)
theorem q_maxN {d : Option Nat} {x y : Operand} {k k' : IntKind} {m m' : Nat} {ts : Array TypeId} (hx : ev env x = some (.int k (m : Int))) (hy : ev env y = some (.int k' (m' : Int))) : Qt P S w0 ⟨d, .call { callee := .builtin .max, args := #[x, y], argTypes := ts }, ty, pos, af, g⟩ env hp (.int k ((max m m' : Nat) : Int)) :=
  q_max hx hy (by split <;> omega)
/-! ### Splits -/
theorem l_split' {l : List Oper} (t : Nat) {b : Bool} (hb : look env t = some (.bool b)) (ht : b = true → TL P n S w0 Q ops l ((t, .bool true) :: env) hp) (hf : b = false → TL P n S w0 Q ops l ((t, .bool false) :: env) hp) : TL P n S w0 Q ops l env hp := l_split t hb ht hf
theorem l_gsplit {o : Oper} {rest : List Oper} {j t : Nat} {want b : Bool} (hg : o.guard = some (j, want)) (hj : (ops[j]?).bind (·.dst) = some t) (hb : look env t = some (.bool b)) (ht : b = true → TL P n S w0 Q ops (o :: rest) ((t, .bool true) :: env) hp) (hf : b = false → TL P n S w0 Q ops (o :: rest) ((t, .bool false) :: env) hp) : TL P n S w0 Q ops (o :: rest) env hp := l_split t hb ht hf
/-! ### Structs and slices that are built: the result is found by search, and checked by the kernel -/
inductive CellsOf : Value → List Value → Prop
  | agg {l : List Value} : CellsOf (.agg l.toArray) l
  | one {v : Value} : v.oneCell' = true → CellsOf v [v]
inductive AppR : List Value → List Value → List Value → Prop
  | nil {l : List Value} : AppR [] l l
  | cons {x : Value} {a l r : List Value} : AppR a l r → AppR (x :: a) l (x :: r)
inductive RepR (z : List Value) : Nat → List Value → Prop
  | zero : RepR z 0 []
  | succ {n : Nat} {l r : List Value} : RepR z n l → AppR z l r → RepR z (n + 1) r
inductive FillR (env : Env) (place : Nat → Option Nat) : List (Nat × Operand) → List Value → List Value → Prop
  | nil {l : List Value} : FillR env place [] l l
  | cons {i off : Nat} {x : Operand} {v : Value} {vs l l1 l2 : List Value} {rest : List (Nat × Operand)} : ev env x = some v → CellsOf v vs → place i = some off → LSets l off vs l1 → FillR env place rest l1 l2 → FillR env place ((i, x) :: rest) l l2
theorem q_bld (T : Tab P) {d : Option Nat} {t : TypeId} {parts : Array (Nat × Operand)} {vs zl rl : List Value} {os : List Nat} {s y : Nat} (hp_ : evs env (parts.toList.map (·.2)) = some vs) (hz : T.i t = some (.agg zl.toArray, s, y)) (ho : T.f t = some os) (hf : FillR env (fun i => os[i]?) parts.toList zl rl) (hr : ∀ w, (Instr.build t ((parts.toList.map (·.1)).zip vs).toArray).run P w = .ok (.agg rl.toArray) w) : Qt P S w0 ⟨d, .build t parts, ty, pos, af, g⟩ env hp (.agg rl.toArray) := q_build hp_ hr
theorem q_bldA (T : Tab P) {d : Option Nat} {t : TypeId} {parts : Array (Nat × Operand)} {vs zl rl : List Value} {m e s y sz : Nat} {ze : Value} {ye : Nat} (hp_ : evs env (parts.toList.map (·.2)) = some vs) (hz : T.i t = some (.agg zl.toArray, s, y)) (ht : T.u t = some (.array m e)) (he : T.i e = some (ze, sz, ye)) (hf : FillR env (fun i => some (i * sz)) parts.toList zl rl) (hr : ∀ w, (Instr.build t ((parts.toList.map (·.1)).zip vs).toArray).run P w = .ok (.agg rl.toArray) w) : Qt P S w0 ⟨d, .build t parts, ty, pos, af, g⟩ env hp (.agg rl.toArray) := q_build hp_ hr
theorem l_bldS (T : Tab P) {t e : TypeId} {len : Nat} {parts : Array (Nat × Operand)} {vs zc zl l : List Value} {z : Value} {sz y : Nat} (hd : Nat.blt d n = true) (hv : evs env (parts.toList.map (·.2)) = some vs) (ht : T.u t = some (.slice e)) (hz : T.i e = some (z, sz, y)) (hc : CellsOf z zc) (hl : RepR zc len zl) (hf : FillR env (fun i => some (i * sz)) parts.toList zl l)
    (hr : ∀ w, (Instr.buildSlice t len ((parts.toList.map (·.1)).zip vs).toArray).run P w = .ok (.slice (some ⟨w.heap.size, 0, none⟩) len len) (w.alloc (.cells l.toArray e)))
    (h : ∀ b, TL P n S w0 Q ops rest ((d, .slice (some ⟨b, 0, none⟩) len len) :: env) (blk b l e :: hp)) : TL P n S w0 Q ops (⟨some d, .buildSlice t len parts, ty, pos, af, none⟩ :: rest) env hp := l_build hd hv hr h
theorem e_bldS (T : Tab P) {K : Act → World → Prop} {t e : TypeId} {len : Nat} {parts : Array (Nat × Operand)} {vs zc zl l : List Value} {z : Value} {sz y : Nat} (hd : Nat.blt d n = true) (hv : evs env (parts.toList.map (·.2)) = some vs) (ht : T.u t = some (.slice e)) (hz : T.i e = some (z, sz, y)) (hc : CellsOf z zc) (hl : RepR zc len zl) (hf : FillR env (fun i => some (i * sz)) parts.toList zl l)
    (hr : ∀ w, (Instr.buildSlice t len ((parts.toList.map (·.1)).zip vs).toArray).run P w = .ok (.slice (some ⟨w.heap.size, 0, none⟩) len len) (w.alloc (.cells l.toArray e)))
    (h : ∀ b, TK n S w0 K ((d, .slice (some ⟨b, 0, none⟩) len len) :: env) (blk b l e :: hp)) : TO P n S w0 Q ⟨some d, .buildSlice t len parts, ty, pos, af, g⟩ K env hp := e_buildSlice hd hv hr h
theorem i_box {rest : List Oper} {t : TypeId} {x : Operand} (h : TL P n S w0 Q ops (⟨some d, .box t x, ty, pos, af, none⟩ :: rest) env hp) : TL P n S w0 Q ops (⟨some d, .box t x, ty, pos, af, none⟩ :: rest) env hp := h
theorem i_alloc {rest : List Oper} {t : TypeId} (h : TL P n S w0 Q ops (⟨some d, .alloc t, ty, pos, af, none⟩ :: rest) env hp) : TL P n S w0 Q ops (⟨some d, .alloc t, ty, pos, af, none⟩ :: rest) env hp := h
theorem i_bld {rest : List Oper} {t : TypeId} {ps : Array (Nat × Operand)} (h : TL P n S w0 Q ops (⟨some d, .build t ps, ty, pos, af, none⟩ :: rest) env hp) : TL P n S w0 Q ops (⟨some d, .build t ps, ty, pos, af, none⟩ :: rest) env hp := h
theorem i_bldS {rest : List Oper} {t : TypeId} {len : Nat} {ps : Array (Nat × Operand)} (h : TL P n S w0 Q ops (⟨some d, .buildSlice t len ps, ty, pos, af, none⟩ :: rest) env hp) : TL P n S w0 Q ops (⟨some d, .buildSlice t len ps, ty, pos, af, none⟩ :: rest) env hp := h
theorem iq_fld {d : Option Nat} {g : Option (Nat × Bool)} {v : Value} {s : TypeId} {x : Operand} {i : Nat} (h : Qt P S w0 ⟨d, .fieldAddr s x i, ty, pos, af, g⟩ env hp v) : Qt P S w0 ⟨d, .fieldAddr s x i, ty, pos, af, g⟩ env hp v := h
theorem iq_nck {d : Option Nat} {g : Option (Nat × Bool)} {v : Value} {x : Operand} (h : Qt P S w0 ⟨d, .nilCheck x, ty, pos, af, g⟩ env hp v) : Qt P S w0 ⟨d, .nilCheck x, ty, pos, af, g⟩ env hp v := h
theorem iq_cv {d : Option Nat} {g : Option (Nat × Bool)} {v : Value} {s t : TypeId} {x : Operand} (h : Qt P S w0 ⟨d, .convert s t x, ty, pos, af, g⟩ env hp v) : Qt P S w0 ⟨d, .convert s t x, ty, pos, af, g⟩ env hp v := h
theorem iq_bld {d : Option Nat} {g : Option (Nat × Bool)} {v : Value} {t : TypeId} {ps : Array (Nat × Operand)} (h : Qt P S w0 ⟨d, .build t ps, ty, pos, af, g⟩ env hp v) : Qt P S w0 ⟨d, .build t ps, ty, pos, af, g⟩ env hp v := h
theorem i_mk {rest : List Oper} {t : TypeId} {x y : Operand} (h : TL P n S w0 Q ops (⟨some d, .makeSlice t x y, ty, pos, af, none⟩ :: rest) env hp) : TL P n S w0 Q ops (⟨some d, .makeSlice t x y, ty, pos, af, none⟩ :: rest) env hp := h
end
theorem run_makeN {P : Program} (T : Tab P) {t e : TypeId} {z : Value} {y : Nat} (ht : T.u t = some (.slice e)) (hz : T.i e = some (z, 1, y)) (h1 : z.oneCell' = true) {k k' : IntKind} {m : Nat} (hm : (m : Int) * y ≤ 140737488355328) (hm' : (m : Int) ≤ 9223372036854775807) (w : World) :
    (Instr.makeSlice t (.int k m) (.int k' m)).run P w = .ok (.slice (some ⟨w.heap.size, 0, none⟩) m m) (w.alloc (.cells (List.replicate m z).toArray e)) := by
  have := run_make1 T ht hz h1 (k := k) (k' := k') (m := (m : Int)) (by omega) hm hm' w
  simpa using this
end Go.Proofs.Ytboccjdncdaakaa

/-
  Objects of layer 8 in memory; mem.within.
-/

set_option linter.unusedVariables false
set_option maxRecDepth 100000
namespace Go.Proofs.Ytboccjdncdaakaa
open Go.RowKit
attribute [local irreducible] TL TC TQ TK TO Qt TA
set_option maxHeartbeats 1000000 in
theorem within_spec (x a b : Int) (w : World) : Calls Try.prog 17 #[.int .i64 x, .int .i64 a, .int .i64 b] w (Ret w [] fun v B => v = .bool (decide (a ≤ x ∧ x ≤ b)) ∧ B = []) := by
  refine enter (vs := [.int .i64 x, .int .i64 a, .int .i64 b]) Try.func17 rfl Try.ntmps17 rfl (Hold.nil w) ?_
  (repeat (first | (refine i_dst ?_; (first | (refine i_move ?_; refine l_q rfl rfl rfl (q_move rfl) ?_) | (refine i_assign ?_; refine l_q rfl rfl rfl (q_assign rfl) ?_) | (refine i_bin ?_; refine l_q rfl rfl rfl (by (exact q_geq rfl rfl)) ?_))) | refine c_seq (fun K hK => ?_) | refine c_region ?_ | refine l_nil ?_ | refine t_then ?_ | (refine i_k ?_; (((refine hK _ _ ?_; clear hK))))))
  refine l_split 10 rfl (fun h => ?_) (fun h => ?_)
  all_goals
    (repeat (first | (refine i_dst ?_; (first | (refine i_move ?_; refine l_q rfl rfl rfl (q_move rfl) ?_) | (refine i_assign ?_; refine l_q rfl rfl rfl (q_assign rfl) ?_) | (refine i_bin ?_; refine l_q rfl rfl rfl (by (exact q_leq rfl rfl)) ?_) | refine l_q rfl rfl rfl (by (first | exact q_pick_t rfl rfl | exact q_pick_f rfl rfl)) ?_)) | refine l_nil ?_ | refine t_then ?_ | (refine i_k ?_; (((refine hK _ _ ?_; clear hK)))) | refine c_ret ?_ | (refine i_guard ?_; (first | refine l_gt rfl rfl rfl ?_ | refine l_gf rfl rfl rfl rfl rfl rfl ?_))))
    refine t_ret1 Try.results17 rfl ⟨?_, rfl⟩
    simp at h
    simp [h]
  omega

/-! ### Bytes -/
def Oct (l : List Int) : Prop := ∀ x ∈ l, 0 ≤ x ∧ x ≤ 255
theorem Oct.nil : Oct [] := fun _ h => by cases h
theorem Oct.append {a b : List Int} (h : Oct a) (k : Oct b) : Oct (a ++ b) := fun y hy => by
  rcases List.mem_append.1 hy with hy | hy
  · exact h y hy
  · exact k y hy
theorem Oct.take {l : List Int} (h : Oct l) (n : Nat) : Oct (l.take n) := fun y hy => h y (List.mem_of_mem_take hy)
theorem Oct.drop {l : List Int} (h : Oct l) (n : Nat) : Oct (l.drop n) := fun y hy => h y (List.mem_of_mem_drop hy)
theorem Oct.getD {l : List Int} (h : Oct l) (i : Nat) : 0 ≤ l.getD i 0 ∧ l.getD i 0 ≤ 255 := by
  rw [List.getD_eq_getElem?_getD]
  rcases hx : l[i]? with _ | x
  · simp
  · exact h x (List.mem_of_getElem? hx)
theorem Oct.zeros (n : Nat) : Oct (List.replicate n 0) := fun x hx => by rw [List.eq_of_mem_replicate hx]; omega
/-- As cells. -/
def bv (l : List Int) : List Value := l.map (Value.int .u8)
@[simp] theorem length_bv (l : List Int) : (bv l).length = l.length := by simp [bv]
theorem bv_append (a b : List Int) : bv (a ++ b) = bv a ++ bv b := by simp [bv]
theorem bv_one (l : List Int) : ∀ u ∈ bv l, u.oneCell' = true := fun u hu => by
  obtain ⟨x, _, rfl⟩ := List.mem_map.1 hu
  rfl
theorem bv_get {l : List Int} {i : Nat} (h : i < l.length) : (bv l)[i]? = some (.int .u8 (l.getD i 0)) := by
  simp [bv, List.getD_eq_getElem?_getD, List.getElem?_eq_getElem h]

/-- Bytes that a slice (or nil) reads. -/
def roB (A : Option Addr) (n : Nat) (l : List Int) : Asn where
  S := fun x => 0 < n ∧ ∃ o, A = some ⟨x, o, none⟩
  C := fun w => l.length = n ∧ Oct l ∧ (0 < n → ∃ b o, A = some ⟨b, o, none⟩ ∧ b < w.heap.size ∧ CellsAt w b o (bv l))
  lt := fun h b ⟨hn, o, hA⟩ => by
    obtain ⟨b', o', h1, h2, _⟩ := h.2.2 hn
    rw [hA] at h1
    injection h1 with h1
    injection h1 with h1
    omega
  loc := fun {w w'} hk h => ⟨h.1, h.2.1, fun hn => by
    obtain ⟨b, o, h1, h2, h3⟩ := h.2.2 hn
    have hb := hk b ⟨hn, o, h1⟩
    refine ⟨b, o, h1, ?_, fun j u hu => ?_⟩
    · have : w.heap[b]? = some (w.heap[b]'h2) := Array.getElem?_eq_getElem h2
      rw [this] at hb
      exact (Array.getElem?_eq_some_iff.1 hb).1
    · rw [World.cell?_of_block (w := w) (a := ⟨b, o + j, none⟩) hb]
      exact h3 j u hu⟩
theorem roB_len {A : Option Addr} {n : Nat} {l : List Int} {w : World} (h : (roB A n l).C w) : l.length = n := h.1
theorem roB_oct {A : Option Addr} {n : Nat} {l : List Int} {w : World} (h : (roB A n l).C w) : Oct l := h.2.1
/-- Bytes that somebody owns. -/
def bytesA (v : Value) (l : List Int) : Asn where
  S := (row 5 1 v l.length (bv l)).S
  C := fun w => Oct l ∧ (row 5 1 v l.length (bv l)).C w
  lt := fun h => (row 5 1 v l.length (bv l)).lt h.2
  loc := fun hk h => ⟨h.1, (row 5 1 v l.length (bv l)).loc hk h.2⟩
theorem row_slice {e : TypeId} {size : Nat} {v : Value} {n : Nat} {xs : List Value} {w : World} (h : (row e size v n xs).C w) : ∃ A c, v = .slice A n c ∧ n ≤ c ∧ c ≤ maxLen ∧ (0 < n → ∃ g, A = some ⟨g, 0, none⟩ ∧ g < w.heap.size) := by
  have h' : w.ownsRow 0 e size v n xs := h
  rcases h'.2 with ⟨rfl, rfl⟩ | ⟨g, cap, cur, rfl, _, hb, h1, h2, _⟩
  · exact ⟨none, 0, rfl, Nat.le_refl _, Nat.zero_le _, fun h => by omega⟩
  · exact ⟨_, cap, rfl, h1, h2, fun _ => ⟨g, rfl, (Array.getElem?_eq_some_iff.1 hb).1⟩⟩
theorem row_cells {e : TypeId} {size : Nat} {A : Option Addr} {c n : Nat} {xs : List Value} {w : World} (h : (row e size (.slice A n c) n xs).C w) {g : Nat} (hA : A = some ⟨g, 0, none⟩) : CellsAt w g 0 xs := fun j u hu => by
  have h' : w.ownsRow 0 e size (.slice A n c) n xs := h
  have := World.ownsRow.cells h' (g := g) (by rw [hA]; rfl) j u hu
  rwa [Addr.add_lit] at this
theorem bytesA_ro {v : Value} {l : List Int} {w : World} (h : (bytesA v l).C w) : ∃ A c, v = .slice A l.length c ∧ l.length ≤ c ∧ c ≤ maxLen ∧ (roB A l.length l).C w ∧ (∀ b, (roB A l.length l).S b → (bytesA v l).S b) := by
  obtain ⟨A, c, rfl, h1, h2, h3⟩ := row_slice h.2
  refine ⟨A, c, rfl, h1, h2, ⟨rfl, h.1, fun hn => ?_⟩, fun b ⟨hn, o, hA⟩ => ?_⟩
  · obtain ⟨g, hg, hlt⟩ := h3 hn
    exact ⟨g, 0, hg, hlt, row_cells h.2 hg⟩
  · show (Value.slice A l.length c).ownBlock = some b
    rw [hA]
    rfl
theorem roB_src {A : Option Addr} {n : Nat} {l : List Int} {w : World} (h : (roB A n l).C w) : SrcAt w A n (bv l) := ⟨by rw [length_bv]; exact h.1, fun hn => by
  obtain ⟨b, o, h1, _, h2⟩ := h.2.2 hn
  exact ⟨b, o, h1, h2⟩⟩
theorem rowB : RowT tab 38 5 1 1 (.int .u8 0) := ⟨rfl, rfl, rfl, by decide⟩
/-- Some objects as one. -/
def starL (l : List Asn) : Asn where
  S := fps l
  C := fun w => Hold l w
  lt := fun h b ⟨X, hX, hb⟩ => X.lt (h.all X hX) b hb
  loc := fun hk h => ⟨h.ap, fun X hX => X.loc (fun b hb => hk b ⟨X, hX, hb⟩) (h.all X hX)⟩
theorem starL_get {l : List Asn} {w : World} (h : (starL l).C w) {i : Nat} {X : Asn} (hi : l[i]? = some X) : X.C w := h.all X (List.mem_of_getElem? hi)
theorem Ro.sub {S : Nat → Prop} {w0 : World} {r q : Asn} (h : Ro S w0 r) (hc : r.C w0 → q.C w0) (hs : ∀ b, q.S b → r.S b) : Ro S w0 q := ⟨hc h.is, fun b hb => h.no b (hs b hb)⟩

/-- A plain fact. -/
def pureA (p : Prop) : Asn where
  S := fun _ => False
  C := fun _ => p
  lt := fun _ _ h => h.elim
  loc := fun _ h => h
def emp : Asn := pureA True
/-- A part of an object is taken out, and put back. -/
theorem st_take {S : Nat → Prop} {w0 w : World} {hp : List Asn} (h : St S w0 hp w) {j i : Nat} {l : List Asn} {X : Asn} (hj : hp[j]? = some (starL l)) (hi : l[i]? = some X) : St S w0 (X :: hp.set j (starL (l.set i emp))) w := by
  have hl : Hold l w := h.get hj
  have hjl : j < hp.length := (List.getElem?_eq_some_iff.1 hj).1
  have hil : i < l.length := (List.getElem?_eq_some_iff.1 hi).1
  have hsub : ∀ b, fps (l.set i emp) b → fps l b := fun b ⟨Y, hY, hb⟩ => by
    rcases List.mem_or_eq_of_mem_set hY with h | h
    · exact ⟨Y, h, hb⟩
    · subst h; exact hb.elim
  have hset : Hold (l.set i emp) w := by
    refine ⟨Apart.of_get fun a b A B hA hB hlt => ?_, fun Y hY => ?_⟩
    · by_cases e1 : a = i
      · subst e1
        rw [List.getElem?_set_self hil] at hA
        injection hA with hA
        subst hA
        exact fun _ h _ => h
      · by_cases e2 : b = i
        · subst e2
          rw [List.getElem?_set_self hil] at hB
          injection hB with hB
          subst hB
          exact fun _ _ h => h
        · rw [List.getElem?_set_ne (Ne.symm e1)] at hA
          rw [List.getElem?_set_ne (Ne.symm e2)] at hB
          exact hl.ap.get hA hB (by omega)
    · rcases List.mem_or_eq_of_mem_set hY with h | h
      · exact hl.all Y h
      · subst h; exact trivial
  have h1 : St S w0 (hp.set j (starL (l.set i emp))) w := h.see hj (fun _ => hset) hsub
  have hXm := List.mem_of_getElem? hi
  refine ⟨h1.kept, fun A hA b hb => ?_, ⟨fun B hB b hx hb => ?_, h1.ap⟩, fun A hA => ?_⟩
  · rcases List.mem_cons.1 hA with rfl | hA
    · exact h.own _ (List.mem_of_getElem? hj) b ⟨A, hXm, hb⟩
    · exact h1.own A hA b hb
  · obtain ⟨q, hq⟩ := List.mem_iff_getElem?.1 hB
    by_cases e : q = j
    · subst e
      rw [List.getElem?_set_self hjl] at hq
      injection hq with hq
      subst hq
      obtain ⟨Y, hY, hy⟩ := hb
      obtain ⟨r, hr⟩ := List.mem_iff_getElem?.1 hY
      by_cases e2 : r = i
      · subst e2
        rw [List.getElem?_set_self hil] at hr
        injection hr with hr
        subst hr
        exact hy
      · rw [List.getElem?_set_ne (Ne.symm e2)] at hr
        exact hl.ap.get hi hr (Ne.symm e2) b hx hy
    · rw [List.getElem?_set_ne (Ne.symm e)] at hq
      exact h.ap.get hj hq (Ne.symm e) b ⟨X, hXm, hx⟩ hb
  · rcases List.mem_cons.1 hA with rfl | hA
    · exact hl.all A hXm
    · exact h1.all A hA
theorem st_put {S : Nat → Prop} {w0 w : World} {hp : List Asn} {Y : Asn} (h : St S w0 (Y :: hp) w) {j i : Nat} {l : List Asn} (hj : hp[j]? = some (starL l)) (hi : l[i]? = some emp) : St S w0 (hp.set j (starL (l.set i Y))) w := by
  have ht : St S w0 hp w := ⟨h.kept, fun A hA => h.own A (by simp [hA]), h.ap.2, fun A hA => h.all A (by simp [hA])⟩
  have hl : Hold l w := ht.get hj
  have hjl : j < hp.length := (List.getElem?_eq_some_iff.1 hj).1
  have hil : i < l.length := (List.getElem?_eq_some_iff.1 hi).1
  have hYd : ∀ A ∈ hp, Dj Y A := h.ap.1
  have hYc : Y.C w := h.all Y (by simp)
  have hsub : ∀ b, fps (l.set i Y) b → fps l b ∨ Y.S b := fun b ⟨Z, hZ, hb⟩ => by
    rcases List.mem_or_eq_of_mem_set hZ with h | h
    · exact .inl ⟨Z, h, hb⟩
    · subst h; exact .inr hb
  have hset : Hold (l.set i Y) w := by
    have hY0 : ∀ q A, q ≠ i → l[q]? = some A → Dj Y A := fun q A _ hA b h1 h2 => hYd _ (List.mem_of_getElem? hj) b h1 ⟨A, List.mem_of_getElem? hA, h2⟩
    refine ⟨Apart.of_get fun a b A B hA hB hlt => ?_, fun Z hZ => ?_⟩
    · by_cases e1 : a = i
      · subst e1
        rw [List.getElem?_set_self hil] at hA
        injection hA with hA
        subst hA
        rw [List.getElem?_set_ne (by omega)] at hB
        exact hY0 b B (by omega) hB
      · rw [List.getElem?_set_ne (Ne.symm e1)] at hA
        by_cases e2 : b = i
        · subst e2
          rw [List.getElem?_set_self hil] at hB
          injection hB with hB
          subst hB
          exact (hY0 a A e1 hA).symm
        · rw [List.getElem?_set_ne (Ne.symm e2)] at hB
          exact hl.ap.get hA hB (by omega)
    · rcases List.mem_or_eq_of_mem_set hZ with h | h
      · exact hl.all Z h
      · subst h; exact hYc
  have hget : ∀ q A, (hp.set j (starL (l.set i Y)))[q]? = some A → (q = j ∧ A = starL (l.set i Y)) ∨ (q ≠ j ∧ hp[q]? = some A) := fun q A hA => by
    by_cases e : q = j
    · subst e
      rw [List.getElem?_set_self hjl] at hA
      injection hA with hA
      exact .inl ⟨rfl, hA.symm⟩
    · rw [List.getElem?_set_ne (Ne.symm e)] at hA
      exact .inr ⟨e, hA⟩
  have hd : ∀ q A, q ≠ j → hp[q]? = some A → Dj (starL (l.set i Y)) A := fun q A hq hA b hb hb' => by
    rcases hsub b hb with h1 | h1
    · exact ht.ap.get hj hA (Ne.symm hq) b h1 hb'
    · exact hYd A (List.mem_of_getElem? hA) b h1 hb'
  refine ⟨h.kept, fun A hA b hb => ?_, Apart.of_get fun a b A B hA hB hlt => ?_, fun A hA => ?_⟩
  · obtain ⟨q, hq⟩ := List.mem_iff_getElem?.1 hA
    rcases hget q A hq with ⟨_, rfl⟩ | ⟨_, h2⟩
    · rcases hsub b hb with h1 | h1
      · exact ht.own _ (List.mem_of_getElem? hj) b h1
      · exact h.own Y (by simp) b h1
    · exact ht.own A (List.mem_of_getElem? h2) b hb
  · rcases hget a A hA with ⟨h1, rfl⟩ | ⟨h1, h2⟩
    · rcases hget b B hB with ⟨h3, rfl⟩ | ⟨h3, h4⟩
      · omega
      · exact hd b B h3 h4
    · rcases hget b B hB with ⟨h3, rfl⟩ | ⟨h3, h4⟩
      · exact (hd a A h1 h2).symm
      · exact ht.ap.get h2 h4 (by omega)
  · obtain ⟨q, hq⟩ := List.mem_iff_getElem?.1 hA
    rcases hget q A hq with ⟨_, rfl⟩ | ⟨_, h2⟩
    · exact hset
    · exact ht.all A (List.mem_of_getElem? h2)

theorem blk_S {b x : Nat} {l : List Value} {t : TypeId} (h : x = b) : (blk b l t).S x := h
theorem S_blk {b x : Nat} {l : List Value} {t : TypeId} (h : (blk b l t).S x) : x = b := h
theorem bytesA_row {v : Value} {l : List Int} {w : World} (h : (bytesA v l).C w) : (row 5 1 v l.length (bv l)).C w := h.2
theorem bytesA_oct {v : Value} {l : List Int} {w : World} (h : (bytesA v l).C w) : Oct l := h.1
theorem bytesA_S {g x n c : Nat} {l : List Int} (h : (bytesA (.slice (some ⟨g, 0, none⟩) n c) l).S x) : x = g := by
  injection h with h
  exact h.symm
/-! ### Layer 8 -/
/-- What memory holds. -/
structure Seg where
  ln : Nat
  dat : List (List Int)
  s0 : Nat
  s1 : Nat
structure Mm where
  ram : List Int
  segs : List Seg
structure SegOk (s : Seg) : Prop where
  h0 : s.s0 < s.dat.length
  h1 : s.s1 < s.dat.length
  n4 : s.dat.length ≤ 4
  l1 : 1 ≤ s.ln
  l2 : s.ln ≤ 256
  len : ∀ l ∈ s.dat, l.length = s.ln
structure MmOk (M : Mm) : Prop where
  ram : M.ram.length ≤ 1024
  n4 : M.segs.length ≤ 4
  segs : ∀ s ∈ M.segs, SegOk s
/-- Where it lies. -/
structure SegV where
  b : Nat
  pv : Value
  pgs : List Value
  s : Seg
structure MemV where
  rv : Value
  ram : List Int
  sv : Value
  segs : List SegV
def MemV.abs (m : MemV) : Mm := ⟨m.ram, m.segs.map (·.s)⟩
def segL (s : SegV) : List Asn := [blk s.b [s.pv, .int .i64 s.s.s0, .int .i64 s.s.s1] 71, row 38 1 s.pv s.pgs.length s.pgs, pureA (s.pgs.length = s.s.dat.length)] ++ List.zipWith bytesA s.pgs s.s.dat
def segA (s : SegV) : Asn := starL (segL s)
def memL (p : Nat) (m : MemV) : List Asn := [blk p [m.rv, m.sv] 65, bytesA m.rv m.ram, row 68 1 m.sv m.segs.length (m.segs.map fun s => .pointer (some ⟨s.b, 0, none⟩))] ++ m.segs.map segA
def memA (p : Nat) (m : MemV) : Asn := starL (memL p m)
section
variable {p : Nat} {m : MemV} {s : SegV} {w : World}
theorem memA_blk (h : (memA p m).C w) : (blk p [m.rv, m.sv] 65).C w := starL_get h (i := 0) rfl
theorem memA_ram (h : (memA p m).C w) : (bytesA m.rv m.ram).C w := starL_get h (i := 1) rfl
theorem memA_row (h : (memA p m).C w) : (row 68 1 m.sv m.segs.length (m.segs.map fun s => .pointer (some ⟨s.b, 0, none⟩))).C w := starL_get h (i := 2) rfl
theorem memL_seg {k : Nat} (hk : m.segs[k]? = some s) : (memL p m)[3 + k]? = some (segA s) := by
  rw [memL, List.getElem?_append_right (by simp)]
  simp [hk]
theorem memA_seg (h : (memA p m).C w) {k : Nat} (hk : m.segs[k]? = some s) : (segA s).C w := starL_get h (memL_seg hk)
theorem segA_blk (h : (segA s).C w) : (blk s.b [s.pv, .int .i64 s.s.s0, .int .i64 s.s.s1] 71).C w := starL_get h (i := 0) rfl
theorem segA_row (h : (segA s).C w) : (row 38 1 s.pv s.pgs.length s.pgs).C w := starL_get h (i := 1) rfl
theorem segA_len (h : (segA s).C w) : s.pgs.length = s.s.dat.length := starL_get h (i := 2) rfl
theorem segL_page {i : Nat} {v : Value} {l : List Int} (hv : s.pgs[i]? = some v) (hl : s.s.dat[i]? = some l) : (segL s)[3 + i]? = some (bytesA v l) := by
  rw [segL, List.getElem?_append_right (by simp)]
  simp [List.getElem?_zipWith, hv, hl]
theorem segA_page (h : (segA s).C w) {i : Nat} {v : Value} {l : List Int} (hv : s.pgs[i]? = some v) (hl : s.s.dat[i]? = some l) : (bytesA v l).C w := starL_get h (segL_page hv hl)
theorem abs_seg {k : Nat} (hk : m.segs[k]? = some s) : m.abs.segs[k]? = some s.s := by simp [MemV.abs, hk]
end
end Go.Proofs.Ytboccjdncdaakaa

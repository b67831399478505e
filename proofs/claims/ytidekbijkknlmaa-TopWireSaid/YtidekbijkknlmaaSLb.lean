/-
  The operations that only read, one rule each.
-/
import Derived.Test.YtidekbijkknlmaaSLa
set_option linter.unusedVariables false
set_option maxRecDepth 100000
namespace Go.Proofs.Ytidekbijkknlmaa
open Go.RowKit

/-! ### What is known of types -/
def assoc {α : Type} : List (Nat × α) → Nat → Option α
  | [], _ => none
  | (j, v) :: e, k => bif Nat.beq j k then some v else assoc e k
def Each {α : Type} (p : Nat → α → Prop) : List (Nat × α) → Prop
  | [] => True
  | (j, v) :: e => p j v ∧ Each p e
theorem Each.get {α : Type} {p : Nat → α → Prop} : ∀ {l : List (Nat × α)}, Each p l → ∀ {k : Nat} {v : α}, assoc l k = some v → p k v
  | [], _, k, v, h => by cases h
  | (j, u) :: l, hs, k, v, h => by
    simp only [assoc] at h
    cases hb : Nat.beq j k with
    | true =>
      rw [hb] at h
      have : j = k := Nat.eq_of_beq_eq_true hb
      subst this
      simp only [cond_true] at h
      injection h with h
      subst h
      exact hs.1
    | false =>
      rw [hb] at h
      exact Each.get hs.2 h
structure Tab (P : Program) where
  und : List (Nat × TypeDesc)
  inf : List (Nat × (Value × Nat × Nat))
  undOk : Each (fun t d => P.underlying t = some d) und
  infOk : Each (fun t i => (P.info? t).map (fun i => (i.zero, i.size, i.bytes)) = some (some i.1, i.2.1, i.2.2)) inf
  fld : List (Nat × List Nat)
  fldOk : Each (fun t os => ∃ fs : List Field, P.underlying t = some (.struct fs.toArray) ∧ fs.map (·.offset) = os) fld
def Tab.u {P : Program} (T : Tab P) (t : Nat) : Option TypeDesc := assoc T.und t
def Tab.f {P : Program} (T : Tab P) (t : Nat) : Option (List Nat) := assoc T.fld t
def Tab.i {P : Program} (T : Tab P) (t : Nat) : Option (Value × Nat × Nat) := assoc T.inf t
theorem Tab.U {P : Program} (T : Tab P) {t : Nat} {d : TypeDesc} (h : T.u t = some d) : P.underlying t = some d := T.undOk.get h
theorem Tab.I {P : Program} (T : Tab P) {t : Nat} {z : Value} {s b : Nat} (h : T.i t = some (z, s, b)) : ∃ i, P.info? t = some i ∧ i.zero = some z ∧ i.size = s ∧ i.bytes = b := by
  have := T.infOk.get h
  obtain ⟨i, h1, h2⟩ := Option.map_eq_some_iff.1 this
  simp only [Prod.mk.injEq] at h2
  exact ⟨i, h1, h2.1, h2.2.1, h2.2.2⟩
theorem Tab.size {P : Program} (T : Tab P) {t : Nat} {z : Value} {s b : Nat} (h : T.i t = some (z, s, b)) (w : World) : (sizeOf t).run P w = .ok s w := by
  obtain ⟨i, h1, h2, h3, h4⟩ := T.I h
  simp [sizeOf, typeInfo, h1, h3]
theorem Tab.zero {P : Program} (T : Tab P) {t : Nat} {z : Value} {s b : Nat} (h : T.i t = some (z, s, b)) (w : World) : (zeroValue t).run P w = .ok z w := by
  obtain ⟨i, h1, h2, h3, h4⟩ := T.I h
  simp [zeroValue, typeInfo, h1, h2]
def aggB : TypeDesc → Bool
  | .struct _ | .array _ _ => true
  | _ => false
theorem Tab.agg {P : Program} (T : Tab P) {t : Nat} {d : TypeDesc} (h : T.u t = some d) (w : World) : (isAgg t).run P w = .ok (aggB d) w := by
  cases d <;> simp [isAgg, run_underlying (T.U h), aggB]

/-- The cells from an address on. -/
def CellsAt (w : World) (b o : Nat) (vs : List Value) : Prop := ∀ j u, vs[j]? = some u → w.cell? ⟨b, o + j, none⟩ = some u
theorem CellsAt.tail {w : World} {b o : Nat} {v : Value} {vs : List Value} (h : CellsAt w b o (v :: vs)) : CellsAt w b (o + 1) vs := fun j u hu => by
  have := h (j + 1) u (by simpa using hu)
  rw [show o + 1 + j = o + (j + 1) by omega]
  exact this
theorem run_loadFrom (P : Program) (b o : Nat) : ∀ (vs : List Value) (i : Nat) (acc : Array Value) (w : World), CellsAt w b (o + i) vs → (loadCellsFrom ⟨b, o, none⟩ i vs.length acc).run P w = .ok (acc ++ vs.toArray) w
  | [], i, acc, w, _ => by simp [loadCellsFrom]
  | v :: vs, i, acc, w, h => by
    have h0 := h 0 v rfl
    have ih := run_loadFrom P b o vs (i + 1) (acc.push v) w (by have := h.tail; rwa [show o + (i + 1) = o + i + 1 by omega])
    simp only [Nat.add_zero] at h0
    simp [loadCellsFrom, load, Addr.add_lit, Sem.run, h0, ih]
theorem run_loadCells' (P : Program) {b o n : Nat} {vs : List Value} {w : World} (h : CellsAt w b o vs) (hn : vs.length = n) : (loadCells ⟨b, o, none⟩ n).run P w = .ok vs.toArray w := by
  subst hn
  have := run_loadFrom P b o vs 0 #[] w (by simpa using h)
  simpa [loadCells] using this
theorem run_loadVar1 {P : Program} (T : Tab P) {t : Nat} {d : TypeDesc} (ht : T.u t = some d) (hd : aggB d = false) {w : World} {a : Addr} {v : Value} (h : w.cell? a = some v) : (loadVar t a).run P w = .ok v w := by
  simp [loadVar, T.agg ht, hd, load, Sem.run, h]
theorem run_loadVarN {P : Program} (T : Tab P) {t : Nat} {d : TypeDesc} (ht : T.u t = some d) (hd : aggB d = true) {z : Value} {s y : Nat} (hi : T.i t = some (z, s, y)) {w : World} {b o : Nat} {vs : List Value} (hl : vs.length = s) (h : CellsAt w b o vs) : (loadVar t ⟨b, o, none⟩).run P w = .ok (.agg vs.toArray) w := by
  simp [loadVar, T.agg ht, hd, T.size hi, run_loadCells' P h hl]

section
variable {P : Program} {n : Nat} {S : Nat → Prop} {w0 : World} {Q : Exit → Act → World → Prop} {ops : Array Oper} {env : Env} {hp : List Asn}
variable {d : Option Tmp} {ty : TypeId} {pos : String} {af : Array Edge} {g : Option (Nat × Bool)}

theorem q_move {x : Operand} {v : Value} (hx : ev env x = some v) : Qt P S w0 ⟨d, .move x, ty, pos, af, g⟩ env hp v := fun n a w hE hS => by simp [execOp, hE.ev hx]
theorem q_assign {x : Operand} {v : Value} (hx : ev env x = some v) : Qt P S w0 ⟨d, .assign x, ty, pos, af, g⟩ env hp v := fun n a w hE hS => by simp [execOp, hE.ev hx]
theorem q_pick_t {c x y : Operand} {u : Value} (hc : ev env c = some (.bool true)) (hx : ev env x = some u) : Qt P S w0 ⟨d, .pick c x y, ty, pos, af, g⟩ env hp u := fun n a w hE hS => by
  simp [execOp, hE.ev hc, hE.ev hx, asBool]
theorem q_pick_f {c x y : Operand} {u : Value} (hc : ev env c = some (.bool false)) (hy : ev env y = some u) : Qt P S w0 ⟨d, .pick c x y, ty, pos, af, g⟩ env hp u := fun n a w hE hS => by
  simp [execOp, hE.ev hc, hE.ev hy, asBool]
theorem q_pick {c x y : Operand} {b : Bool} {u v : Value} (hc : ev env c = some (.bool b)) (hx : ev env x = some u) (hy : ev env y = some v) : Qt P S w0 ⟨d, .pick c x y, ty, pos, af, g⟩ env hp (if b then u else v) := fun n a w hE hS => by
  simp [execOp, hE.ev hc, hE.ev hx, hE.ev hy, asBool]

/-! integers -/
theorem q_add {t yt : TypeId} {x y : Operand} {k : IntKind} {m m' r : Int} (hx : ev env x = some (.int k m)) (hy : ev env y = some (.int k m')) (hr : k.wrap (m + m') = r) : Qt P S w0 ⟨d, .binOp .add t x y yt, ty, pos, af, g⟩ env hp (.int k r) := fun n a w hE hS => by
  simp [execOp, hE.ev hx, hE.ev hy, eqGuard, binOp, Op.intArith, hr]
theorem q_sub {t yt : TypeId} {x y : Operand} {k : IntKind} {m m' r : Int} (hx : ev env x = some (.int k m)) (hy : ev env y = some (.int k m')) (hr : k.wrap (m - m') = r) : Qt P S w0 ⟨d, .binOp .sub t x y yt, ty, pos, af, g⟩ env hp (.int k r) := fun n a w hE hS => by
  simp [execOp, hE.ev hx, hE.ev hy, eqGuard, binOp, Op.intArith, hr]
theorem q_mul {t yt : TypeId} {x y : Operand} {k : IntKind} {m m' r : Int} (hx : ev env x = some (.int k m)) (hy : ev env y = some (.int k m')) (hr : k.wrap (m * m') = r) : Qt P S w0 ⟨d, .binOp .mul t x y yt, ty, pos, af, g⟩ env hp (.int k r) := fun n a w hE hS => by
  simp [execOp, hE.ev hx, hE.ev hy, eqGuard, binOp, Op.intArith, hr]
theorem q_quo {t yt : TypeId} {x y : Operand} {k : IntKind} {m m' r : Int} (hx : ev env x = some (.int k m)) (hy : ev env y = some (.int k m')) (h0 : m' ≠ 0) (hr : k.wrap (m.tdiv m') = r) : Qt P S w0 ⟨d, .binOp .quo t x y yt, ty, pos, af, g⟩ env hp (.int k r) := fun n a w hE hS => by
  simp [execOp, hE.ev hx, hE.ev hy, eqGuard, binOp, Op.intDiv, h0, hr]
theorem q_rem {t yt : TypeId} {x y : Operand} {k : IntKind} {m m' r : Int} (hx : ev env x = some (.int k m)) (hy : ev env y = some (.int k m')) (h0 : m' ≠ 0) (hr : m.tmod m' = r) : Qt P S w0 ⟨d, .binOp .rem t x y yt, ty, pos, af, g⟩ env hp (.int k r) := fun n a w hE hS => by
  simp [execOp, hE.ev hx, hE.ev hy, eqGuard, binOp, Op.intDiv, h0, hr]
theorem q_lss {t yt : TypeId} {x y : Operand} {k : IntKind} {m m' : Int} (hx : ev env x = some (.int k m)) (hy : ev env y = some (.int k m')) : Qt P S w0 ⟨d, .binOp .lss t x y yt, ty, pos, af, g⟩ env hp (.bool (decide (m < m'))) := fun n a w hE hS => by
  simp [execOp, hE.ev hx, hE.ev hy, eqGuard, binOp, Op.intCmp]
theorem q_leq {t yt : TypeId} {x y : Operand} {k : IntKind} {m m' : Int} (hx : ev env x = some (.int k m)) (hy : ev env y = some (.int k m')) : Qt P S w0 ⟨d, .binOp .leq t x y yt, ty, pos, af, g⟩ env hp (.bool (decide (m ≤ m'))) := fun n a w hE hS => by
  simp [execOp, hE.ev hx, hE.ev hy, eqGuard, binOp, Op.intCmp]
theorem q_gtr {t yt : TypeId} {x y : Operand} {k : IntKind} {m m' : Int} (hx : ev env x = some (.int k m)) (hy : ev env y = some (.int k m')) : Qt P S w0 ⟨d, .binOp .gtr t x y yt, ty, pos, af, g⟩ env hp (.bool (decide (m' < m))) := fun n a w hE hS => by
  simp [execOp, hE.ev hx, hE.ev hy, eqGuard, binOp, Op.intCmp]
theorem q_geq {t yt : TypeId} {x y : Operand} {k : IntKind} {m m' : Int} (hx : ev env x = some (.int k m)) (hy : ev env y = some (.int k m')) : Qt P S w0 ⟨d, .binOp .geq t x y yt, ty, pos, af, g⟩ env hp (.bool (decide (m' ≤ m))) := fun n a w hE hS => by
  simp [execOp, hE.ev hx, hE.ev hy, eqGuard, binOp, Op.intCmp]
theorem q_eql {t yt : TypeId} {x y : Operand} {k : IntKind} {m m' : Int} (hx : ev env x = some (.int k m)) (hy : ev env y = some (.int k m')) : Qt P S w0 ⟨d, .binOp .eql t x y yt, ty, pos, af, g⟩ env hp (.bool (decide (m = m'))) := fun n a w hE hS => by
  simp [execOp, hE.ev hx, hE.ev hy, eqGuard, binOp, Op.intCmp]
  rfl
theorem q_neq {t yt : TypeId} {x y : Operand} {k : IntKind} {m m' : Int} (hx : ev env x = some (.int k m)) (hy : ev env y = some (.int k m')) : Qt P S w0 ⟨d, .binOp .neq t x y yt, ty, pos, af, g⟩ env hp (.bool (decide (m ≠ m'))) := fun n a w hE hS => by
  simp [execOp, hE.ev hx, hE.ev hy, eqGuard, binOp, Op.intCmp]
  rfl
theorem q_bits {op : BinOp} {t yt : TypeId} {x y : Operand} {k : IntKind} {m m' : Int} {v : Value} (hx : ev env x = some (.int k m)) (hy : ev env y = some (.int k m')) (ho : (op matches .and | .or | .xor | .andNot) = true) (hr : ∀ w, (Op.intBits op k m m').run P w = .ok v w) : Qt P S w0 ⟨d, .binOp op t x y yt, ty, pos, af, g⟩ env hp v := fun n a w hE hS => by
  cases op <;> simp at ho <;> simp [execOp, hE.ev hx, hE.ev hy, eqGuard, binOp, hr]
theorem q_conv (T : Tab P) {src dst : TypeId} {x : Operand} {k k' : IntKind} {m r : Int} {ds : TypeDesc} (hx : ev env x = some (.int k m)) (hs : T.u src = some ds) (ht : T.u dst = some (.int k')) (hr : k'.wrap m = r) : Qt P S w0 ⟨d, .convert src dst x, ty, pos, af, g⟩ env hp (.int k' r) := fun n a w hE hS => by
  simp [execOp, hE.ev hx, convert, run_underlying (T.U hs), run_underlying (T.U ht), Conv.intToInt, hr]

/-! bools -/
theorem q_not {t : TypeId} {x : Operand} {b : Bool} (hx : ev env x = some (.bool b)) : Qt P S w0 ⟨d, .unOp .not t x, ty, pos, af, g⟩ env hp (.bool (!b)) := fun n a w hE hS => by simp [execOp, hE.ev hx, Op.unary]
theorem run_eqbIn {P : Program} (T : Tab P) {t : TypeId} (ht : T.u t = some .bool) (a b : Bool) (w : World) (k : Nat) : (Op.equalIn (k + 1) t (.bool a) (.bool b)).run P w = .ok (a == b) w := by
  simp [Op.equalIn, run_underlying (T.U ht)]
theorem run_eqb {P : Program} (T : Tab P) {t : TypeId} (ht : T.u t = some .bool) (a b : Bool) (w : World) : (Op.equal t (.bool a) (.bool b)).run P w = .ok (a == b) w := run_eqbIn T ht a b w 9999
theorem q_eqb (T : Tab P) {t yt : TypeId} {x y : Operand} {b b' : Bool} (hx : ev env x = some (.bool b)) (hy : ev env y = some (.bool b')) (ht : T.u t = some .bool) : Qt P S w0 ⟨d, .binOp .eql t x y yt, ty, pos, af, g⟩ env hp (.bool (b == b')) := fun n a w hE hS => by
  simp [execOp, hE.ev hx, hE.ev hy, eqGuard, binOp, run_eqb T ht]
theorem q_neb (T : Tab P) {t yt : TypeId} {x y : Operand} {b b' : Bool} (hx : ev env x = some (.bool b)) (hy : ev env y = some (.bool b')) (ht : T.u t = some .bool) : Qt P S w0 ⟨d, .binOp .neq t x y yt, ty, pos, af, g⟩ env hp (.bool (!(b == b'))) := fun n a w hE hS => by
  simp [execOp, hE.ev hx, hE.ev hy, eqGuard, binOp, run_eqb T ht]

/-! strings -/
theorem q_eqs {t yt : TypeId} {x y : Operand} {b b' : ByteArray} (hx : ev env x = some (.string b)) (hy : ev env y = some (.string b')) : Qt P S w0 ⟨d, .binOp .eql t x y yt, ty, pos, af, g⟩ env hp (.bool (b.toList == b'.toList)) := fun n a w hE hS => by
  simp [execOp, hE.ev hx, hE.ev hy, eqGuard, binOp, Op.stringOp]
theorem q_nes {t yt : TypeId} {x y : Operand} {b b' : ByteArray} (hx : ev env x = some (.string b)) (hy : ev env y = some (.string b')) : Qt P S w0 ⟨d, .binOp .neq t x y yt, ty, pos, af, g⟩ env hp (.bool (!(b.toList == b'.toList))) := fun n a w hE hS => by
  simp [execOp, hE.ev hx, hE.ev hy, eqGuard, binOp, Op.stringOp]

/-! pointers and nil -/
theorem run_eqpIn {P : Program} (T : Tab P) {t e : TypeId} (ht : T.u t = some (.pointer e)) (p : Option Addr) (w : World) (k : Nat) : (Op.equalIn (k + 1) t (.pointer p) (.pointer none)).run P w = .ok p.isNone w := by
  cases p <;> simp [Op.equalIn, run_underlying (T.U ht)]
theorem run_eqp {P : Program} (T : Tab P) {t e : TypeId} (ht : T.u t = some (.pointer e)) (p : Option Addr) (w : World) : (Op.equal t (.pointer p) (.pointer none)).run P w = .ok p.isNone w := run_eqpIn T ht p w 9999
theorem q_eqnil (T : Tab P) {t yt e : TypeId} {x y : Operand} {p : Option Addr} (hx : ev env x = some (.pointer p)) (hy : ev env y = some (.pointer none)) (ht : T.u t = some (.pointer e)) : Qt P S w0 ⟨d, .binOp .eql t x y yt, ty, pos, af, g⟩ env hp (.bool p.isNone) := fun n a w hE hS => by
  have := run_eqp T ht p w
  cases p <;> simp [execOp, hE.ev hx, hE.ev hy, eqGuard, binOp, this]
theorem q_nenil (T : Tab P) {t yt e : TypeId} {x y : Operand} {p : Option Addr} (hx : ev env x = some (.pointer p)) (hy : ev env y = some (.pointer none)) (ht : T.u t = some (.pointer e)) : Qt P S w0 ⟨d, .binOp .neq t x y yt, ty, pos, af, g⟩ env hp (.bool p.isSome) := fun n a w hE hS => by
  have := run_eqp T ht p w
  cases p <;> simp [execOp, hE.ev hx, hE.ev hy, eqGuard, binOp, this]
theorem q_nilck {x : Operand} {a : Addr} (hx : ev env x = some (.pointer (some a))) : Qt P S w0 ⟨d, .nilCheck x, ty, pos, af, g⟩ env hp (.pointer (some a)) := fun n a w hE hS => by simp [execOp, hE.ev hx]

/-! parts -/
theorem q_extract {x : Operand} {i : Nat} {vs : List Value} {v : Value} (hx : ev env x = some (.tuple vs.toArray)) (hi : vs[i]? = some v) : Qt P S w0 ⟨d, .extract x i, ty, pos, af, g⟩ env hp v := fun n a w hE hS => by
  simp [execOp, hE.ev hx, Instr.extract, hi]
theorem q_fieldAddr (T : Tab P) {s : TypeId} {x : Operand} {i : Nat} {os : List Nat} {fs : List Field} {f : Field} {b o k : Nat} {z : Value} {sz y : Nat} (hx : ev env x = some (.pointer (some ⟨b, o, none⟩))) (ho : T.f s = some os) (hk : os[i]? = some k) (hs : T.u s = some (.struct fs.toArray)) (hf : fs[i]? = some f) (hz : T.i f.type = some (z, sz, y)) (h0 : Nat.beq sz 0 = false) :
    Qt P S w0 ⟨d, .fieldAddr s x i, ty, pos, af, g⟩ env hp (.pointer (some ⟨b, o + k, none⟩)) := fun n a w hE hS => by
  have h0' : sz ≠ 0 := fun e => by subst e; cases h0
  obtain ⟨fs', h1, h2⟩ := T.fldOk.get ho
  rw [T.U hs] at h1
  have h3 : fs = fs' := by
    injection h1 with h1
    injection h1 with h1
    simpa using h1
  subst h3
  have h4 : f.offset = k := by
    rw [← h2, List.getElem?_map, hf] at hk
    simpa using hk
  subst h4
  simp [execOp, hE.ev hx, Instr.fieldAt, run_underlying (T.U hs), hf, Instr.sureAddr, fieldPlace, T.size hz, h0', Addr.add_lit]
theorem q_field1 (T : Tab P) {s : TypeId} {x : Operand} {i : Nat} {fs : List Field} {f : Field} {cs : List Value} {v : Value} {df : TypeDesc} (hx : ev env x = some (.agg cs.toArray)) (hs : T.u s = some (.struct fs.toArray)) (hf : fs[i]? = some f) (ht : T.u f.type = some df) (ha : aggB df = false) (hv : cs[f.offset]? = some v) :
    Qt P S w0 ⟨d, .field s x i, ty, pos, af, g⟩ env hp v := fun n a w hE hS => by
  simp [execOp, hE.ev hx, Instr.field, run_underlying (T.U hs), hf, asAgg, part, T.agg ht, ha, hv]
theorem q_fieldN (T : Tab P) {s : TypeId} {x : Operand} {i : Nat} {fs : List Field} {f : Field} {cs : List Value} {df : TypeDesc} {z : Value} {sz y : Nat} (hx : ev env x = some (.agg cs.toArray)) (hs : T.u s = some (.struct fs.toArray)) (hf : fs[i]? = some f) (ht : T.u f.type = some df) (ha : aggB df = true) (hz : T.i f.type = some (z, sz, y)) :
    Qt P S w0 ⟨d, .field s x i, ty, pos, af, g⟩ env hp (.agg ((cs.drop f.offset).take sz).toArray) := fun n a w hE hS => by
  simp [execOp, hE.ev hx, Instr.field, run_underlying (T.U hs), hf, asAgg, part, T.agg ht, ha, T.size hz]
theorem q_indexAddr (T : Tab P) {t e : TypeId} {x ix : Operand} {b o len cap : Nat} {k : IntKind} {i : Int} {z : Value} {sz y : Nat} (hx : ev env x = some (.slice (some ⟨b, o, none⟩) len cap)) (hi : ev env ix = some (.int k i)) (ht : T.u t = some (.slice e)) (hz : T.i e = some (z, sz, y)) (h : 0 ≤ i ∧ i < len) :
    Qt P S w0 ⟨d, .indexAddr t x ix, ty, pos, af, g⟩ env hp (.pointer (some ⟨b, o + i.toNat * sz, none⟩)) := fun n a w hE hS => by
  simp [execOp, hE.ev hx, hE.ev hi, Instr.indexAt, asIntOf, run_underlying (T.U ht), h.1, h.2, T.size hz, Addr.add_lit]
theorem q_indexAddrA (T : Tab P) {t e : TypeId} {x ix : Operand} {b o len : Nat} {k : IntKind} {i : Int} {z : Value} {sz y : Nat} (hx : ev env x = some (.pointer (some ⟨b, o, none⟩))) (hi : ev env ix = some (.int k i)) (ht : T.u t = some (.array len e)) (hz : T.i e = some (z, sz, y)) (h : 0 ≤ i ∧ i < len) :
    Qt P S w0 ⟨d, .indexAddr t x ix, ty, pos, af, g⟩ env hp (.pointer (some ⟨b, o + i.toNat * sz, none⟩)) := fun n a w hE hS => by
  simp [execOp, hE.ev hx, hE.ev hi, Instr.indexAt, asIntOf, run_underlying (T.U ht), Instr.sureAddr, h.1, h.2, T.size hz, Addr.add_lit]
theorem q_index1 (T : Tab P) {t e : TypeId} {x ix : Operand} {len : Nat} {k : IntKind} {i : Int} {cs : List Value} {v : Value} {de : TypeDesc} {z : Value} {y : Nat} (hx : ev env x = some (.agg cs.toArray)) (hi : ev env ix = some (.int k i)) (ht : T.u t = some (.array len e)) (he : T.u e = some de) (ha : aggB de = false) (hz : T.i e = some (z, 1, y)) (h : 0 ≤ i ∧ i < len) (hv : cs[i.toNat]? = some v) :
    Qt P S w0 ⟨d, .index t x ix, ty, pos, af, g⟩ env hp v := fun n a w hE hS => by
  simp [execOp, hE.ev hx, hE.ev hi, Instr.index, asIntOf, run_underlying (T.U ht), h.1, h.2, T.size hz, part, T.agg he, ha, hv]
theorem q_len (T : Tab P) {t e : TypeId} {x : Operand} {A : Option Addr} {m c : Nat} (hx : ev env x = some (.slice A m c)) (ht : T.u t = some (.slice e)) : Qt P S w0 ⟨d, .call { callee := .builtin .len, args := #[x], argTypes := #[t] }, ty, pos, af, g⟩ env hp (.int .i64 (m : Int)) := fun n a w hE hS => by
  simp [execOp, resolve, invoke, builtin, hE.ev hx, Builtin.len_, run_underlying (T.U ht), goInt]
theorem q_lenA (T : Tab P) {t e : TypeId} {x : Operand} {m : Nat} {v : Value} (hx : ev env x = some v) (ht : T.u t = some (.array m e)) : Qt P S w0 ⟨d, .call { callee := .builtin .len, args := #[x], argTypes := #[t] }, ty, pos, af, g⟩ env hp (.int .i64 (m : Int)) := fun n a w hE hS => by
  simp [execOp, resolve, invoke, builtin, hE.ev hx, Builtin.len_, run_underlying (T.U ht), goInt]
theorem q_min {x y : Operand} {k k' : IntKind} {m m' r : Int} {ts : Array TypeId} (hx : ev env x = some (.int k m)) (hy : ev env y = some (.int k' m')) (hr : (if m' < m then m' else m) = r) : Qt P S w0 ⟨d, .call { callee := .builtin .min, args := #[x, y], argTypes := ts }, ty, pos, af, g⟩ env hp (.int k r) := fun n a w hE hS => by
  simp [execOp, resolve, invoke, builtin, hE.ev hx, hE.ev hy, Builtin.min_, Builtin.min2, hr]
theorem q_max {x y : Operand} {k k' : IntKind} {m m' r : Int} {ts : Array TypeId} (hx : ev env x = some (.int k m)) (hy : ev env y = some (.int k' m')) (hr : (if m < m' then m' else m) = r) : Qt P S w0 ⟨d, .call { callee := .builtin .max, args := #[x, y], argTypes := ts }, ty, pos, af, g⟩ env hp (.int k r) := fun n a w hE hS => by
  simp [execOp, resolve, invoke, builtin, hE.ev hx, hE.ev hy, Builtin.max_, Builtin.max2]
  subst hr
  split <;> rfl
theorem q_load {t : TypeId} (T : Tab P) {x : Operand} {b o : Nat} {v : Value} {dt : TypeDesc} (hx : ev env x = some (.pointer (some ⟨b, o, none⟩))) (ht : T.u t = some dt) (ha : aggB dt = false) (hc : ∀ w, St S w0 hp w → w.cell? ⟨b, o, none⟩ = some v) : Qt P S w0 ⟨d, .load t x, ty, pos, af, g⟩ env hp v := fun n a w hE hS => by
  simp [execOp, hE.ev hx, Instr.loadAt, Instr.sureAddr, run_loadVar1 T ht ha (hc w hS)]
theorem q_loadN {t : TypeId} (T : Tab P) {x : Operand} {b o : Nat} {vs : List Value} {dt : TypeDesc} {z : Value} {s y : Nat} (hx : ev env x = some (.pointer (some ⟨b, o, none⟩))) (ht : T.u t = some dt) (ha : aggB dt = true) (hi : T.i t = some (z, s, y)) (hl : vs.length = s) (hc : ∀ w, St S w0 hp w → CellsAt w b o vs) : Qt P S w0 ⟨d, .load t x, ty, pos, af, g⟩ env hp (.agg vs.toArray) := fun n a w hE hS => by
  simp [execOp, hE.ev hx, Instr.loadAt, Instr.sureAddr, run_loadVarN T ht ha hi hl (hc w hS)]
theorem q_mkfunc {fn : Fn} {cap : Array Operand} {vs : List Value} (hc : evs env cap.toList = some vs) : Qt P S w0 ⟨d, .makeFunc fn #[] cap, ty, pos, af, g⟩ env hp (.func fn #[] vs.toArray) := fun n a w hE hS => by
  have := hE.evs hc
  simp only [execOp, Instr.makeFunc, ← this]
  simp
  exact Array.toList_inj.1 (by simp)
theorem q_run {op : Op} {v : Value} (h : ∀ n a, Fr env n a → ∀ w, St S w0 hp w → (execOp a.eval ⟨d, op, ty, pos, af, g⟩).run P w = .ok (.value v) w) : Qt P S w0 ⟨d, op, ty, pos, af, g⟩ env hp v := fun n a w hE hS => h n a hE w hS
theorem q_build {t : TypeId} {parts : Array (Nat × Operand)} {vs : List Value} {v : Value} (hp_ : evs env (parts.toList.map (·.2)) = some vs) (hr : ∀ w, (Instr.build t ((parts.toList.map (·.1)).zip vs).toArray).run P w = .ok v w) : Qt P S w0 ⟨d, .build t parts, ty, pos, af, g⟩ env hp v := fun n a w hE hS => by
  have h1 := hE.evs hp_
  have h2 : (parts.map fun (i, x) => (i, a.eval x)) = ((parts.toList.map (·.1)).zip vs).toArray := by
    rw [← h1]
    apply Array.toList_inj.1
    simp [List.zip_map', List.map_map]
  simp only [execOp, h2]
  simp [hr w]

/-! slices of slices -/
def cutA (A : Option Addr) (m k s : Nat) : Option Addr := if m = k then A else A.map (·.add (k * s))
theorem q_sliceHi (T : Tab P) {t e : TypeId} {x hi : Operand} {A : Option Addr} {m c : Nat} {k : IntKind} {h : Int} {z : Value} {sz y : Nat} (hx : ev env x = some (.slice A m c)) (hh : ev env hi = some (.int k h)) (ht : T.u t = some (.slice e)) (hz : T.i e = some (z, sz, y)) (hb : 0 ≤ h ∧ h ≤ c) :
    Qt P S w0 ⟨d, .slice t x none (some hi) none, ty, pos, af, g⟩ env hp (.slice A h.toNat c) := fun n a w hE hS => by
  have e0 : (if c = 0 then A else A.map (·.add 0)) = A := by
    split
    · rfl
    · cases A <;> simp [Addr.add]
  simp [execOp, hE.ev hx, hE.ev hh, Instr.sliceAt, Instr.slice, run_underlying (T.U ht), Instr.sliceBounds, run_sliceBound, hb.1, hb.2, T.size hz]
  cases A <;> simp [Addr.add]
theorem q_sliceLo (T : Tab P) {t e : TypeId} {x lo : Operand} {A : Option Addr} {m c : Nat} {k : IntKind} {l : Int} {z : Value} {sz y : Nat} (hx : ev env x = some (.slice A m c)) (hl : ev env lo = some (.int k l)) (ht : T.u t = some (.slice e)) (hz : T.i e = some (z, sz, y)) (hb : 0 ≤ l ∧ l ≤ m) :
    Qt P S w0 ⟨d, .slice t x (some lo) none none, ty, pos, af, g⟩ env hp (.slice (cutA A c l.toNat sz) (m - l.toNat) (c - l.toNat)) := fun n a w hE hS => by
  simp [execOp, hE.ev hx, hE.ev hl, Instr.sliceAt, Instr.slice, run_underlying (T.U ht), Instr.sliceBounds, run_sliceBound, hb.1, hb.2, T.size hz, cutA]
theorem q_sliceLH (T : Tab P) {t e : TypeId} {x lo hi : Operand} {A : Option Addr} {m c : Nat} {k k' : IntKind} {l h : Int} {z : Value} {sz y : Nat} (hx : ev env x = some (.slice A m c)) (hl : ev env lo = some (.int k l)) (hh : ev env hi = some (.int k' h)) (ht : T.u t = some (.slice e)) (hz : T.i e = some (z, sz, y)) (hb : 0 ≤ l ∧ l ≤ h ∧ h ≤ c) :
    Qt P S w0 ⟨d, .slice t x (some lo) (some hi) none, ty, pos, af, g⟩ env hp (.slice (cutA A c l.toNat sz) (h.toNat - l.toNat) (c - l.toNat)) := fun n a w hE hS => by
  have h0 : 0 ≤ h := by omega
  have h1 : l ≤ (h.toNat : Int) := by omega
  have h2 : (h.toNat : Int) = h := by omega
  simp [execOp, hE.ev hx, hE.ev hl, hE.ev hh, Instr.sliceAt, Instr.slice, run_underlying (T.U ht), Instr.sliceBounds, run_sliceBound, hb.1, hb.2.1, hb.2.2, h0, h2, T.size hz, cutA]
end
end Go.Proofs.Ytidekbijkknlmaa

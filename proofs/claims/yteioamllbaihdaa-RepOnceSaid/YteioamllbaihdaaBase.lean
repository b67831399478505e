/-
  Plain helpers for the walks of this seat: stops of the walk, bytes that a slice reads, append onto a row of the call's own. Nothing of the program is in here but its numbers of types.
-/
import Derived.Test.YteioamllbaihdaaRows
import Derived.WalkKit
import Derived.WalkSpells
import Derived.WalkLawsBesides
import Derived.Deep.QuietTactic
import Derived.BigQuiet
import Derived.Lib.Hide
import Derived.Maps.AppendAt
import Derived.Deep.AppendLies
import Derived.Deep.RegionHeld3
import Derived.Laws.CopyOwn
import Derived.Deep.DrawnRows
set_option linter.unusedVariables false
set_option maxRecDepth 100000
namespace Go.Proofs.Yteioamllbaihdaa
open Go.RowKit

/-! ### Where the walk is to stop -/
/-- A goal that the walk does not look into. -/
def Stop (p : Prop) : Prop := p
theorem Stop.go {p : Prop} (h : p) : Stop p := h
theorem stop_append {P : Program} {ops : Array Oper} {Q : Exit → Act → World → Prop} {rest : List Oper} {a : Act} {w : World} {d : Option Tmp} {args : Array Operand} {ats : Array TypeId} {ty : TypeId} {pos : String} {after : Array Edge} {g : Option (Nat × Bool)}
    (h : Stop (wpList P ops Q (⟨d, .call { callee := .builtin .append, args := args, argTypes := ats }, ty, pos, after, g⟩ :: rest) a w)) :
    wpList P ops Q (⟨d, .call { callee := .builtin .append, args := args, argTypes := ats }, ty, pos, after, g⟩ :: rest) a w := h
theorem stop_copy {P : Program} {ops : Array Oper} {Q : Exit → Act → World → Prop} {rest : List Oper} {a : Act} {w : World} {d : Option Tmp} {args : Array Operand} {ats : Array TypeId} {ty : TypeId} {pos : String} {after : Array Edge} {g : Option (Nat × Bool)}
    (h : Stop (wpList P ops Q (⟨d, .call { callee := .builtin .copy, args := args, argTypes := ats }, ty, pos, after, g⟩ :: rest) a w)) :
    wpList P ops Q (⟨d, .call { callee := .builtin .copy, args := args, argTypes := ats }, ty, pos, after, g⟩ :: rest) a w := h

/-! ### Bytes -/
/-- Numbers that are bytes. -/
def Oct (l : List Int) : Prop := ∀ x ∈ l, 0 ≤ x ∧ x ≤ 255
theorem Oct.nil : Oct [] := fun _ h => by cases h
theorem Oct.cons {x : Int} {l : List Int} (h0 : 0 ≤ x) (h1 : x ≤ 255) (h : Oct l) : Oct (x :: l) := fun y hy => by
  rcases List.mem_cons.1 hy with rfl | hy
  · exact ⟨h0, h1⟩
  · exact h y hy
theorem Oct.append {a b : List Int} (h : Oct a) (k : Oct b) : Oct (a ++ b) := fun y hy => by
  rcases List.mem_append.1 hy with hy | hy
  · exact h y hy
  · exact k y hy
theorem Oct.tail {x : Int} {l : List Int} (h : Oct (x :: l)) : Oct l := fun y hy => h y (List.mem_cons_of_mem _ hy)
theorem Oct.take {l : List Int} (h : Oct l) (n : Nat) : Oct (l.take n) := fun y hy => h y (List.mem_of_mem_take hy)
theorem Oct.drop {l : List Int} (h : Oct l) (n : Nat) : Oct (l.drop n) := fun y hy => h y (List.mem_of_mem_drop hy)
theorem Oct.getD {l : List Int} (h : Oct l) (i : Nat) : 0 ≤ l.getD i 0 ∧ l.getD i 0 ≤ 255 := by
  rw [List.getD_eq_getElem?_getD]
  rcases hx : l[i]? with _ | x
  · simp
  · exact h x (List.mem_of_getElem? hx)
/-- As cells. -/
def bv (l : List Int) : List Value := l.map (Value.int .u8)
@[simp] theorem length_bv (l : List Int) : (bv l).length = l.length := by simp [bv]
theorem bv_append (a b : List Int) : bv (a ++ b) = bv a ++ bv b := by simp [bv]
theorem bv_one (l : List Int) : ∀ u ∈ bv l, u.oneCell' = true := fun u hu => by
  obtain ⟨x, _, rfl⟩ := List.mem_map.1 hu
  rfl
theorem ofNat_inj {x y : Int} (hx : 0 ≤ x ∧ x ≤ 255) (hy : 0 ≤ y ∧ y ≤ 255) (h : UInt8.ofNat x.toNat = UInt8.ofNat y.toNat) : x = y := by
  have := congrArg UInt8.toNat h
  simp at this
  omega
theorem strs_inj : ∀ {a b : List Int}, Oct a → Oct b → a.map (fun n => UInt8.ofNat n.toNat) = b.map (fun n => UInt8.ofNat n.toNat) → a = b
  | [], [], _, _, _ => rfl
  | [], _ :: _, _, _, h => by simp at h
  | _ :: _, [], _, _, h => by simp at h
  | x :: a, y :: b, ha, hb, h => by
    simp only [List.map_cons, List.cons.injEq] at h
    rw [ofNat_inj (ha x (by simp)) (hb y (by simp)) h.1, strs_inj (fun z hz => ha z (by simp [hz])) (fun z hz => hb z (by simp [hz])) h.2]
theorem str_eq {a b : List Int} (ha : Oct a) (hb : Oct b) : (strOfNums a = strOfNums b) ↔ a = b := by
  constructor
  · intro h
    have h' : (strOfNums a).data.toList = (strOfNums b).data.toList := by rw [h]
    rw [strOfNums_data, strOfNums_data] at h'
    exact strs_inj ha hb h'
  · rintro rfl
    rfl
theorem str_beq {a b : List Int} (ha : Oct a) (hb : Oct b) : ((strOfNums a).toList == (strOfNums b).toList) = decide (a = b) := by
  rw [ByteArray.toList_eq, ByteArray.toList_eq, strOfNums_data, strOfNums_data, Bool.eq_iff_iff, beq_iff_eq, decide_eq_true_eq]
  exact ⟨strs_inj ha hb, fun h => by rw [h]⟩

/-- The cells of a slice of bytes: l, all of them in blocks below B. -/
def Rd (B : Nat) (w : World) (A : Option Addr) (n : Nat) (l : List Int) : Prop :=
  l.length = n ∧ Oct l ∧ (0 < n → ∃ b off, A = some ⟨b, off, none⟩ ∧ b < B ∧ ∀ i, i < n → w.cell? ⟨b, off + i, none⟩ = some (.int .u8 (l.getD i 0)))
theorem Rd.len {B : Nat} {w : World} {A : Option Addr} {n : Nat} {l : List Int} (h : Rd B w A n l) : l.length = n := h.1
theorem Rd.oct {B : Nat} {w : World} {A : Option Addr} {n : Nat} {l : List Int} (h : Rd B w A n l) : Oct l := h.2.1
theorem Rd.nil (B : Nat) (w : World) (A : Option Addr) : Rd B w A 0 [] := ⟨rfl, Oct.nil, fun h => by omega⟩
theorem Rd.at {B : Nat} {w w' : World} {A : Option Addr} {n : Nat} {l : List Int} (h : Rd B w A n l) (hb : Below B w w') : Rd B w' A n l :=
  ⟨h.1, h.2.1, fun hn => by
    obtain ⟨b, off, rfl, hlt, hc⟩ := h.2.2 hn
    exact ⟨b, off, rfl, hlt, fun i hi => (hb.cell (p := ⟨b, off + i, none⟩) hlt).trans (hc i hi)⟩⟩
theorem Rd.mono {B B' : Nat} {w : World} {A : Option Addr} {n : Nat} {l : List Int} (h : Rd B w A n l) (hB : B ≤ B') : Rd B' w A n l :=
  ⟨h.1, h.2.1, fun hn => by
    obtain ⟨b, off, rfl, hlt, hc⟩ := h.2.2 hn
    exact ⟨b, off, rfl, by omega, hc⟩⟩
theorem Rd.take {B : Nat} {w : World} {A : Option Addr} {n : Nat} {l : List Int} (h : Rd B w A n l) {k : Nat} (hk : k ≤ n) : Rd B w A k (l.take k) :=
  ⟨by rw [List.length_take, h.1]; omega, h.2.1.take k, fun hk0 => by
    obtain ⟨b, off, rfl, hlt, hc⟩ := h.2.2 (by omega)
    refine ⟨b, off, rfl, hlt, fun i hi => ?_⟩
    rw [hc i (by omega)]
    simp [List.getD_eq_getElem?_getD, hi]⟩
theorem Rd.cell {B : Nat} {w : World} {A : Option Addr} {n : Nat} {l : List Int} (h : Rd B w A n l) (hn : 0 < n) : ∃ b off, A = some ⟨b, off, none⟩ ∧ b < B ∧ ∀ i, i < n → w.cell? ⟨b, off + i, none⟩ = some (.int .u8 (l.getD i 0)) := h.2.2 hn
/-- 's[k:]' -/
theorem Rd.drop {B : Nat} {w : World} {A : Option Addr} {n : Nat} {l : List Int} (h : Rd B w A n l) {k cap : Nat} (hk : k ≤ n) (hc : n ≤ cap) : Rd B w (if cap = k then A else A.map (·.add k)) (n - k) (l.drop k) :=
  ⟨by rw [List.length_drop, h.1], h.2.1.drop k, fun hk0 => by
    obtain ⟨b, off, rfl, hlt, hcell⟩ := h.2.2 (by omega)
    refine ⟨b, off + k, ?_, hlt, fun i hi => ?_⟩
    · rw [if_neg (by omega)]
      simp [Addr.add]
    · rw [show off + k + i = off + (k + i) by omega, hcell (k + i) (by omega)]
      simp [List.getD_eq_getElem?_getD, List.getElem?_drop]⟩
theorem Rd.of_own {base : Nat} {w : World} {A : Option Addr} {n c : Nat} {l : List Int} (ho : Oct l) (h : w.ownsRow base 5 1 (.slice A n c) n (bv l)) : Rd w.heap.size w A n l := by
  refine ⟨by have := h.1; simpa using this, ho, fun hn => ?_⟩
  have hl : l.length = n := by have := h.1; simpa using this
  obtain ⟨g, cap, hv, hb, hlt⟩ := h.form hn
  have hA : A = some ⟨g, 0, none⟩ := by injection hv
  have hcap : c = cap := by injection hv
  subst hA hcap
  refine ⟨g, 0, rfl, hlt, fun i hi => ?_⟩
  rw [Nat.zero_add, h.cellAt i (by omega)]
  simp [bv, List.getD_eq_getElem?_getD, hl ▸ hi]
theorem own_slice {w : World} {base : Nat} {e : TypeId} {size : Nat} {v : Value} {n : Nat} {xs : List Value} (h : w.ownsRow base e size v n xs) : ∃ A c, v = .slice A n c ∧ n ≤ c ∧ c ≤ maxLen := by
  rcases h.2 with ⟨rfl, rfl⟩ | ⟨g, cap, cur, rfl, _, _, h1, h2, _⟩
  · exact ⟨none, 0, rfl, Nat.le_refl _, Nat.zero_le _⟩
  · exact ⟨_, cap, rfl, h1, h2⟩
theorem own_base {w : World} {base base' : Nat} {e : TypeId} {size : Nat} {v : Value} {n : Nat} {xs : List Value} (h : w.ownsRow base e size v n xs) (hb : base' ≤ base) : w.ownsRow base' e size v n xs :=
  ⟨h.1, h.2.imp (fun h => h) fun ⟨g, cap, cur, h1, h2, h3⟩ => ⟨g, cap, cur, h1, Nat.le_trans hb h2, h3⟩⟩
theorem own_below {w w' : World} {base B : Nat} {e : TypeId} {size : Nat} {v : Value} {n : Nat} {xs : List Value} (h : w.ownsRow base e size v n xs) (hb : Below B w w') (hB : w.heap.size ≤ B) : w'.ownsRow base e size v n xs :=
  h.kept (row := none) ⟨hb.os, hb.tape, hb.output, hb.size, fun k hk _ => hb.block k (by omega)⟩ (by cases v.ownBlock <;> simp)

/-- string(b) -/
theorem run_conv {P : Program} {B : Nat} {w : World} {A : Option Addr} {n : Nat} {l : List Int} (h : Rd B w A n l) (src e dst c : Nat) (hs : P.underlying src = some (.slice e)) (he : P.underlying e = some (.int .u8)) (hd : P.underlying dst = some .string) :
    (convert src dst (.slice A n c)).run P w = .ok (.string (strOfNums l)) w := by
  rcases Nat.eq_zero_or_pos n with rfl | hn
  · have : l = [] := List.eq_nil_of_length_eq_zero h.1
    subst this
    rcases A with _ | ⟨b, off, spot⟩
    · exact run_convert_bytes_nil w src e hs he 0 c dst hd
    · rw [run_convert_bytes_string w src dst e _ 0 c hs he hd, run_bytesToString w ⟨b, off, spot⟩ 0 c [] (by simp [loadCells, loadCellsFrom])]
      rfl
  · obtain ⟨b, off, rfl, _, hc⟩ := h.2.2 hn
    exact run_convert_bytes_arg w src e hs he b off n c l h.1 hc dst hd

/-! ### s[k:] under one name -/
def cutA (A : Option Addr) (m k s : Nat) : Option Addr := if m = k then A else A.map (·.add (k * s))
theorem run_cut {P : Program} (t e : TypeId) (hu : P.underlying t = some (.slice e)) (s : Nat) (hs : (P.info? e).map (·.size) = some s) (A : Option Addr) (n m : Nat) (kd : IntKind) (k : Int) (h0 : 0 ≤ k) (h1 : k ≤ n) (W : World) :
    (Instr.slice t (.slice A n m) (some (.int kd k)) none none).run P W = .ok (.slice (cutA A m k.toNat s) (n - k.toNat) (m - k.toNat)) W := by
  obtain ⟨i, hi, hi2⟩ := Option.map_eq_some_iff.1 hs
  subst hi2
  simp [Instr.slice, run_underlying hu, Instr.sliceBounds, run_sliceBound, h0, h1, sizeOf, typeInfo, hi, cutA]
theorem Rd.cut {B : Nat} {w : World} {A : Option Addr} {n : Nat} {l : List Int} (h : Rd B w A n l) {k cap : Nat} (hk : k ≤ n) (hc : n ≤ cap) : Rd B w (cutA A cap k 1) (n - k) (l.drop k) := by
  have := h.drop hk hc
  unfold cutA
  rw [Nat.mul_one]
  exact this

theorem run_cut2 {P : Program} (t e : TypeId) (hu : P.underlying t = some (.slice e)) (s : Nat) (hs : (P.info? e).map (·.size) = some s) (A : Option Addr) (n m : Nat) (kd kh : IntKind) (k h : Int) (h0 : 0 ≤ k) (h1 : k ≤ h) (h2 : h ≤ m) (W : World) :
    (Instr.slice t (.slice A n m) (some (.int kd k)) (some (.int kh h)) none).run P W = .ok (.slice (cutA A m k.toNat s) (h.toNat - k.toNat) (m - k.toNat)) W := by
  obtain ⟨i, hi, hi2⟩ := Option.map_eq_some_iff.1 hs
  subst hi2
  have eh : (h.toNat : Int) = h := Int.toNat_of_nonneg (by omega)
  simp [Instr.slice, run_underlying hu, Instr.sliceBounds, run_sliceBound, h0, h1, h2, eh, sizeOf, typeInfo, hi, cutA, (by omega : 0 ≤ h)]

/-! ### append onto a row of the call's own -/
/-- A slice type: its elements' type, how many cells and bytes each has, and its zero. -/
def RowT (P : Program) (t e : TypeId) (size bytes : Nat) (z : Value) : Prop :=
  P.underlying t = some (.slice e) ∧ (P.info? e).map (fun i => (i.zero, i.size, i.bytes)) = some (some z, size, bytes) ∧ z.cells.size = size ∧ 0 < size
/-- The cells that a slice (or nil) has. -/
def Src (w : World) (A : Option Addr) (k : Nat) (news : List Value) : Prop :=
  news.length = k ∧ (0 < k → ∃ b off, A = some ⟨b, off, none⟩ ∧ ∀ i u, news[i]? = some u → w.cell? ⟨b, off + i, none⟩ = some u)
theorem Rd.src {B : Nat} {w : World} {A : Option Addr} {n : Nat} {l : List Int} (h : Rd B w A n l) : Src w A (n * 1) (bv l) :=
  ⟨by simp [h.1], fun hn => by
    obtain ⟨b, off, rfl, _, hc⟩ := h.2.2 (by omega)
    refine ⟨b, off, rfl, fun i u hu => ?_⟩
    have hi : i < l.length := by have := (List.getElem?_eq_some_iff.1 hu).1; simpa using this
    rw [hc i (by rw [← h.1]; exact hi)]
    simp [bv, List.getElem?_eq_getElem hi] at hu
    rw [← hu, List.getD_eq_getElem?_getD, List.getElem?_eq_getElem hi, Option.getD_some]⟩
theorem src_block {w : World} {B : Nat} {cs : Array Value} {t : TypeId} {fr : Nat × Nat} (hb : w.heap[B]? = some (.cells cs t fr)) : Src w (some ⟨B, 0, none⟩) cs.size cs.toList :=
  ⟨by simp, fun _ => ⟨B, 0, rfl, fun i u hu => by rw [Nat.zero_add, cell_of_row w B i cs t fr hb]; simpa using hu⟩⟩

theorem run_app {P : Program} (w : World) (t ty : TypeId) {e : TypeId} {size bytes : Nat} {z : Value} (hT : RowT P t e size bytes z) {base : Nat} {v : Value} {n : Nat} {xs : List Value} (hown : w.ownsRow base e size v n xs)
    {A : Option Addr} {m : Nat} (c : Nat) {news : List Value} (hr : Src w A (m * size) news) (h1 : ∀ u ∈ news, u.oneCell' = true) (h63 : n + m ≤ maxLen) (hbytes : (n + m) * bytes ≤ 140737488355328) (hbase : base ≤ w.heap.size) :
    ∃ v' w', (Builtin.append_ #[t, t] ty #[v, .slice A m c]).run P w = .ok v' w' ∧ w'.ownsRow base e size v' (n + m) (xs ++ news) ∧ w.grownBy w' v.ownBlock ∧ (v'.ownBlock = v.ownBlock ∨ v'.ownBlock = some w.heap.size) := by
  obtain ⟨ht, hi0, hzs, hsz⟩ := hT
  obtain ⟨i, hi, hi2⟩ := Option.map_eq_some_iff.1 hi0
  simp only [Prod.mk.injEq] at hi2
  obtain ⟨hz, hsize, hby⟩ := hi2
  rcases Nat.eq_zero_or_pos m with rfl | hm
  · have hn0 : news = [] := List.eq_nil_of_length_eq_zero (by simpa using hr.1)
    subst hn0
    rcases A with _ | ad
    · refine ⟨v, w, ?_, by simpa using hown, World.grownBy.refl w _, .inl rfl⟩
      rcases hown.2 with ⟨rfl, rfl⟩ | ⟨g, cap, cur, rfl, _, _, hnc, _⟩
      · simp [Builtin.append_, run_underlying ht, sizeOf, typeInfo, hi, Builtin.lenOf, Builtin.firstCells]
      · simp [Builtin.append_, run_underlying ht, sizeOf, typeInfo, hi, Builtin.lenOf, Builtin.firstCells, hnc, storeCells]
    · obtain ⟨v', w', a1, a2, a3, _, a5⟩ := run_append_own_at (P := P) w base t ty e i z size bytes ht hi hz hsize hby hzs hsz v n xs hown ad 0 c [] (by simp) (by simp) (by simp) h63 hbytes hbase
      exact ⟨v', w', a1, a2, a3, a5⟩
  · obtain ⟨b, off, rfl, hc⟩ := hr.2 (Nat.mul_pos hm hsz)
    obtain ⟨v', w', a1, a2, a3, _, a5⟩ := run_append_own_at (P := P) w base t ty e i z size bytes ht hi hz hsize hby hzs hsz v n xs hown ⟨b, off, none⟩ m c news hr.1 (fun j u hu => by rw [Addr.add_lit]; exact hc j u hu) h1 h63 hbytes hbase
    exact ⟨v', w', a1, a2, a3, a5⟩

theorem wp_app {P : Program} {w : World} {ops : Array Oper} {rest : List Oper} {o : Oper} {a : Act} {Q : Exit → Act → World → Prop} (hgd : o.guard = none) (s x : Operand) (t : TypeId)
    (ho : o.op = .call { callee := .builtin .append, args := #[s, x], argTypes := #[t, t] })
    {e : TypeId} {size bytes : Nat} {z : Value} (hT : RowT P t e size bytes z) {base : Nat} {v : Value} {n : Nat} {xs : List Value} (hs : a.eval s = v) (hown : w.ownsRow base e size v n xs)
    {A : Option Addr} {m c : Nat} {news : List Value} (hx : a.eval x = .slice A m c) (hr : Src w A (m * size) news) (h1 : ∀ u ∈ news, u.oneCell' = true) (h63 : n + m ≤ maxLen) (hbytes : (n + m) * bytes ≤ 140737488355328) (hbase : base ≤ w.heap.size)
    (h : ∀ v' w', w'.ownsRow base e size v' (n + m) (xs ++ news) → w.grownBy w' v.ownBlock → (v'.ownBlock = v.ownBlock ∨ v'.ownBlock = some w.heap.size) → wpList P ops Q rest (a.put o.dst v') w') : wpList P ops Q (o :: rest) a w := by
  obtain ⟨v', w', hrun, h2, h3, h4⟩ := run_app w t o.type hT hown c hr h1 h63 hbytes hbase
  refine wpList_plain hgd fun K hK => ?_
  unfold Oper.wp execOp
  simp only [ho, resolve, invoke, builtin, Sem.run_bind, Sem.run_pure, Result.andThen_ok, List.map_toArray, List.map_cons, List.map_nil, hs, hx, hrun]
  exact hK _ _ (h v' w' h2 h3 h4)

theorem step_app {P : Program} {w : World} {ops : Array Oper} {o : Oper} {a : Act} {K : Act → World → Prop} {Q : Exit → Act → World → Prop} {E : Prop} (hgd : o.guard = none) (s x : Operand) (t : TypeId)
    (ho : o.op = .call { callee := .builtin .append, args := #[s, x], argTypes := #[t, t] })
    {e : TypeId} {size bytes : Nat} {z : Value} (hT : RowT P t e size bytes z) {base : Nat} {v : Value} {n : Nat} {xs : List Value} (hs : a.eval s = v) (hown : w.ownsRow base e size v n xs)
    {A : Option Addr} {m c : Nat} {news : List Value} (hx : a.eval x = .slice A m c) (hr : Src w A (m * size) news) (h1 : ∀ u ∈ news, u.oneCell' = true) (h63 : n + m ≤ maxLen) (hbytes : (n + m) * bytes ≤ 140737488355328) (hbase : base ≤ w.heap.size)
    (h : ∀ v' w', w'.ownsRow base e size v' (n + m) (xs ++ news) → w.grownBy w' v.ownBlock → (v'.ownBlock = v.ownBlock ∨ v'.ownBlock = some w.heap.size) → K (a.put o.dst v') w') :
    if Region.wanted o (yielded ops a.tmps) = true then Oper.wp P o a w K Q else E := by
  have hw : Region.wanted o (yielded ops a.tmps) = true := by simp [Region.wanted, hgd]
  rw [if_pos hw]
  obtain ⟨v', w', hrun, h2, h3, h4⟩ := run_app w t o.type hT hown c hr h1 h63 hbytes hbase
  unfold Oper.wp execOp
  simp only [ho, resolve, invoke, builtin, Sem.run_bind, Sem.run_pure, Result.andThen_ok, List.map_toArray, List.map_cons, List.map_nil, hs, hx, hrun]
  exact h v' w' h2 h3 h4
end Go.Proofs.Yteioamllbaihdaa

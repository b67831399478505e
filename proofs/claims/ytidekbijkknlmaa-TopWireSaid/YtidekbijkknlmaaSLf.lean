/-
  Sources of what is read: objects, and memory that stays.
-/
import Derived.Test.YtidekbijkknlmaaSLe
import Derived.Test.YtidekbijkknlmaaG1
set_option linter.unusedVariables false
set_option maxRecDepth 100000
namespace Go.Proofs.Ytidekbijkknlmaa
open Go.RowKit
theorem roV_src {A : Option Addr} {n : Nat} {vs : List Value} {w : World} (h : (roV A n vs).C w) : SrcAt w A n vs := ⟨h.1, fun hn => by
  obtain ⟨b, o, h1, _, h2⟩ := h.2 hn
  exact ⟨b, o, h1, h2⟩⟩
theorem bytesA_src {A : Option Addr} {n c : Nat} {l : List Int} {w : World} (h : (bytesA (.slice A n c) l).C w) : SrcAt w A n (bv l) := roB_src (roB_of h)
section
variable {P : Program} {n : Nat} {S : Nat → Prop} {w0 : World} {Q : Exit → Act → World → Prop} {ops : Array Oper} {env : Env} {hp hp' : List Asn}
variable {d : Option Nat} {ty : TypeId} {pos : String} {af : Array Edge} {g : Option (Nat × Bool)} {rest : List Oper}
theorem q_slHi (T : Tab P) {t e : TypeId} {x hi : Operand} {A : Option Addr} {m c j : Nat} {k : IntKind} {h : Int} {z : Value} {sz y : Nat} (hx : ev env x = some (.slice A m c)) (hh : ev env hi = some (.int k h)) (ht : T.u t = some (.slice e)) (hz : T.i e = some (z, sz, y)) (hj : h.toNat = j) (hb : 0 ≤ h ∧ h ≤ c) :
    Qt P S w0 ⟨d, .slice t x none (some hi) none, ty, pos, af, g⟩ env hp (.slice A j c) := by
  subst hj
  exact q_sliceHi T hx hh ht hz hb
theorem q_slLo (T : Tab P) {t e : TypeId} {x lo : Operand} {A : Option Addr} {m c j : Nat} {k : IntKind} {l : Int} {z : Value} {sz y : Nat} (hx : ev env x = some (.slice A m c)) (hl : ev env lo = some (.int k l)) (ht : T.u t = some (.slice e)) (hz : T.i e = some (z, sz, y)) (hj : l.toNat = j) (hb : 0 ≤ l ∧ l ≤ m) :
    Qt P S w0 ⟨d, .slice t x (some lo) none none, ty, pos, af, g⟩ env hp (.slice (cutA A c j sz) (m - j) (c - j)) := by
  subst hj
  exact q_sliceLo T hx hl ht hz hb
theorem q_slLH (T : Tab P) {t e : TypeId} {x lo hi : Operand} {A : Option Addr} {m c i j : Nat} {k k' : IntKind} {l h : Int} {z : Value} {sz y : Nat} (hx : ev env x = some (.slice A m c)) (hl : ev env lo = some (.int k l)) (hh : ev env hi = some (.int k' h)) (ht : T.u t = some (.slice e)) (hz : T.i e = some (z, sz, y)) (hi_ : l.toNat = i) (hj : h.toNat = j) (hb : 0 ≤ l ∧ l ≤ h ∧ h ≤ c) :
    Qt P S w0 ⟨d, .slice t x (some lo) (some hi) none, ty, pos, af, g⟩ env hp (.slice (cutA A c i sz) (j - i) (c - i)) := by
  subst hi_ hj
  exact q_sliceLH T hx hl hh ht hz hb
theorem q_ldRo (T : Tab P) {t : TypeId} {x : Operand} {b o : Nat} {v : Value} {l : List Value} {t' : TypeId} {dt : TypeDesc} (hx : ev env x = some (.pointer (some ⟨b, o, none⟩))) (ht : T.u t = some dt) (ha : aggB dt = false) (hm : Ro S w0 (blk b l t')) (hv : l[o]? = some v) : Qt P S w0 ⟨d, .load t x, ty, pos, af, g⟩ env hp v :=
  q_load T hx ht ha fun w h => blk_cell (h.ro hm) hv
theorem q_ldRoN (T : Tab P) {t : TypeId} {x : Operand} {b o : Nat} {l vs : List Value} {t' : TypeId} {dt : TypeDesc} {z : Value} {s y : Nat} (hx : ev env x = some (.pointer (some ⟨b, o, none⟩))) (ht : T.u t = some dt) (ha : aggB dt = true) (hi : T.i t = some (z, s, y)) (hm : Ro S w0 (blk b l t')) (hv : CutR l o s vs) : Qt P S w0 ⟨d, .load t x, ty, pos, af, g⟩ env hp (.agg vs.toArray) :=
  q_loadN T hx ht ha hi hv.eq.1 fun w h j u hu => blk_cell (h.ro hm) (hv.eq.2 j u hu)
end
/-! ### Parts of what stays -/
section
variable {S : Nat → Prop} {w0 : World}
theorem Ro.star {l : List Asn} (h : Ro S w0 (starL l)) {i : Nat} {X : Asn} (hi : l[i]? = some X) : Ro S w0 X := h.sub (fun h => starL_get h hi) (fun b hb => ⟨X, List.mem_of_getElem? hi, hb⟩)
theorem Ro.rowV {e : TypeId} {size n c : Nat} {A : Option Addr} {xs : List Value} (h : Ro S w0 (row e size (.slice A n c) n xs)) : Ro S w0 (roV A (n * size) xs) :=
  h.sub (fun h => roV_row h) (fun b ⟨hn, o, hA⟩ => by
    have hn' : 0 < n := by rcases Nat.eq_zero_or_pos n with e | e; · subst e; simp at hn
                           · exact e
    obtain ⟨A', c', e1, _, _, e2⟩ := row_slice h.is
    injection e1 with e1
    subst e1
    obtain ⟨g, e3, _⟩ := e2 hn'
    rw [hA] at e3
    injection e3 with e3
    injection e3 with e3 e4
    subst e3 e4 hA
    rfl)
theorem Ro.rowV1 {e : TypeId} {n c : Nat} {A : Option Addr} {xs : List Value} (h : Ro S w0 (row e 1 (.slice A n c) n xs)) : Ro S w0 (roV A n xs) := by
  have := h.rowV
  rwa [Nat.mul_one] at this
theorem Ro.bytes {A : Option Addr} {n c : Nat} {l : List Int} (h : Ro S w0 (bytesA (.slice A n c) l)) : Ro S w0 (roB A n l) := by
  obtain ⟨A', c', e1, _, _, h1, h2⟩ := bytesA_ro h.is
  injection e1 with e1 e2 e3
  subst e1 e2 e3
  exact h.sub (fun _ => h1) h2
variable {p : Nat} {m : MemV} {s : SegV}
theorem Ro.memBlk (h : Ro S w0 (memA p m)) : Ro S w0 (blk p [m.rv, m.sv] 149) := Ro.star h (i := 0) rfl
theorem Ro.memRam (h : Ro S w0 (memA p m)) : Ro S w0 (bytesA m.rv m.ram) := Ro.star h (i := 1) rfl
theorem Ro.memRow (h : Ro S w0 (memA p m)) : Ro S w0 (row 152 1 m.sv m.segs.length (m.segs.map fun s => .pointer (some ⟨s.b, 0, none⟩))) := Ro.star h (i := 2) rfl
theorem Ro.memSeg (h : Ro S w0 (memA p m)) {k : Nat} (hk : m.segs[k]? = some s) : Ro S w0 (segA s) := Ro.star h (memL_seg hk)
theorem Ro.segBlk (h : Ro S w0 (segA s)) : Ro S w0 (blk s.b [s.pv, .int .i64 s.s.s0, .int .i64 s.s.s1] 154) := Ro.star h (i := 0) rfl
theorem Ro.segRow (h : Ro S w0 (segA s)) : Ro S w0 (row 30 1 s.pv s.pgs.length s.pgs) := Ro.star h (i := 1) rfl
theorem Ro.segPage (h : Ro S w0 (segA s)) {i : Nat} {v : Value} {l : List Int} (hv : s.pgs[i]? = some v) (hl : s.s.dat[i]? = some l) : Ro S w0 (bytesA v l) := Ro.star h (segL_page hv hl)
end
end Go.Proofs.Ytidekbijkknlmaa

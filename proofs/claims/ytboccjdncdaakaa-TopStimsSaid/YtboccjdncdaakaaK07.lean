/-
  Part 7 of the proof of QJ: the texts G1 SLf I1 I2 S1 G2.
-/
import Derived.Test.YtboccjdncdaakaaK06
import Derived.Laws.BytesArg
import Derived.Test.YtboccjdncdaakaaK04

/-
  Bytes as strings; parts of bytes; rows of small structs.
-/

set_option linter.unusedVariables false
set_option maxRecDepth 100000
namespace Go.Proofs.Ytboccjdncdaakaa
open Go.RowKit
theorem roB_of {A : Option Addr} {n c : Nat} {l : List Int} {w : World} (h : (bytesA (.slice A n c) l).C w) : (roB A n l).C w := by
  obtain ⟨A', c', h1, _, _, h2, _⟩ := bytesA_ro h
  injection h1 with h1 h3 h4
  subst h1 h3
  exact h2
theorem run_conv {P : Program} {w : World} {A : Option Addr} {n : Nat} {l : List Int} (h : (roB A n l).C w) (src e dst c : Nat) (hs : P.underlying src = some (.slice e)) (he : P.underlying e = some (.int .u8)) (hd : P.underlying dst = some .string) :
    (convert src dst (.slice A n c)).run P w = .ok (.string (strOfNums l)) w := by
  rcases Nat.eq_zero_or_pos n with rfl | hn
  · have : l = [] := List.eq_nil_of_length_eq_zero h.1
    subst this
    rcases A with _ | ⟨b, off, spot⟩
    · exact run_convert_bytes_nil w src e hs he 0 c dst hd
    · rw [run_convert_bytes_string w src dst e _ 0 c hs he hd, run_bytesToString w ⟨b, off, spot⟩ 0 c [] (by simp [loadCells, loadCellsFrom])]
      rfl
  · obtain ⟨b, off, rfl, _, hc⟩ := h.2.2 hn
    exact run_convert_bytes_arg w src e hs he b off n c l h.1 (fun i hi => hc i _ (bv_get (by rw [h.1]; exact hi))) dst hd
section
variable {P : Program} {S : Nat → Prop} {w0 : World} {env : Env} {hp : List Asn} {d : Option Tmp} {ty : TypeId} {pos : String} {af : Array Edge} {g : Option (Nat × Bool)}
theorem q_str (T : Tab P) {src dst e : TypeId} {x : Operand} {A : Option Addr} {n c : Nat} {l : List Int} (hx : ev env x = some (.slice A n c)) (hs : T.u src = some (.slice e)) (he : T.u e = some (.int .u8)) (hd : T.u dst = some .string) (hb : ∀ w, St S w0 hp w → (roB A n l).C w) : Qt P S w0 ⟨d, .convert src dst x, ty, pos, af, g⟩ env hp (.string (strOfNums l)) := by
  unfold Qt
  intro n a w hE hS
  simp [execOp, hE.ev hx, run_conv (hb w hS) src e dst c (T.U hs) (T.U he) (T.U hd)]
end
theorem strs_inj : ∀ {a b : List Int}, Oct a → Oct b → a.map (fun n => UInt8.ofNat n.toNat) = b.map (fun n => UInt8.ofNat n.toNat) → a = b
  | [], [], _, _, _ => rfl
  | [], _ :: _, _, _, h => by simp at h
  | _ :: _, [], _, _, h => by simp at h
  | x :: a, y :: b, ha, hb, h => by
    simp only [List.map_cons, List.cons.injEq] at h
    have h1 := congrArg UInt8.toNat h.1
    simp at h1
    have hx := ha x (by simp)
    have hy := hb y (by simp)
    rw [show x = y by omega, strs_inj (fun z hz => ha z (by simp [hz])) (fun z hz => hb z (by simp [hz])) h.2]
theorem str_beq {a b : List Int} (ha : Oct a) (hb : Oct b) : ((strOfNums a).toList == (strOfNums b).toList) = decide (a = b) := by
  rw [ByteArray.toList_eq, ByteArray.toList_eq, strOfNums_data, strOfNums_data, Bool.eq_iff_iff, beq_iff_eq, decide_eq_true_eq]
  exact ⟨strs_inj ha hb, fun h => by rw [h]⟩
theorem min_int (a b : Nat) : (if (b : Int) < (a : Int) then (b : Int) else (a : Int)) = ((min a b : Nat) : Int) := by
  split <;> omega
theorem there_get {M : Mm} {seg : Int} {ps : List Int} {s : Seg} (h : thereM M seg ps = some s) : 0 ≤ seg ∧ M.segs[seg.toNat]? = some s ∧ ∀ p ∈ ps, 0 ≤ p ∧ p ≤ (s.dat.length : Int) - 1 := by
  unfold thereM at h
  by_cases h0 : 0 ≤ seg
  · rw [if_pos h0] at h
    cases hs : M.segs[seg.toNat]? with
    | none => rw [hs] at h; cases h
    | some t =>
      rw [hs] at h
      dsimp only at h
      split at h
      · rename_i hall
        injection h with h
        subst h
        refine ⟨h0, rfl, fun p hp => ?_⟩
        have := List.all_eq_true.1 hall p hp
        simpa using this
      · cases h
  · rw [if_neg h0] at h
    cases h
theorem setSeg_ok {M : Mm} {k : Nat} {s : Seg} (hk : MmOk M) (hs : SegOk s) : MmOk { M with segs := M.segs.set k s } :=
  ⟨hk.ram, by simpa using hk.n4, fun t ht => by
    rcases List.mem_or_eq_of_mem_set ht with h | h
    · exact hk.segs t h
    · subst h; exact hs⟩
theorem setM_ok {M : Mm} {who : Nat} {seg page : Int} (hk : MmOk M) : MmOk (setM M who seg page).1 := by
  unfold setM
  split
  · exact hk
  · split
    · exact hk
    · rename_i s hs
      obtain ⟨h0, h1, h2⟩ := there_get hs
      have hso := hk.segs s (List.mem_of_getElem? h1)
      have hp := h2 page (by simp)
      have := hso.h0
      have := hso.h1
      refine setSeg_ok hk ⟨?_, ?_, hso.n4, hso.l1, hso.l2, hso.len⟩
      · show (if who = 2 then s.s0 else page.toNat) < s.dat.length
        split <;> omega
      · show (if who = 1 then s.s1 else page.toNat) < s.dat.length
        split <;> omega
theorem roB_take {A : Option Addr} {n k : Nat} {l : List Int} {w : World} (h : (roB A n l).C w) (hk : k ≤ n) : (roB A k (l.take k)).C w := by
  refine ⟨by rw [List.length_take, h.1]; omega, h.2.1.take k, fun hk0 => ?_⟩
  obtain ⟨b, o, h1, h2, h3⟩ := h.2.2 (by omega)
  refine ⟨b, o, h1, h2, fun j u hu => h3 j u ?_⟩
  have hj : j < k := by
    have := (List.getElem?_eq_some_iff.1 hu).1
    rw [length_bv, List.length_take] at this
    omega
  rw [← hu]
  simp [bv, hj]
theorem Ro.take {S : Nat → Prop} {w0 : World} {A : Option Addr} {n k : Nat} {l : List Int} (h : Ro S w0 (roB A n l)) (hk : k ≤ n) : Ro S w0 (roB A k (l.take k)) :=
  h.sub (fun h => roB_take h hk) (fun b ⟨h1, h2⟩ => ⟨by omega, h2⟩)
theorem st_nilB {S : Nat → Prop} {w0 w : World} {hp : List Asn} (h : St S w0 hp w) : St S w0 (bytesA (.slice none 0 0) [] :: hp) w := h.new (Kept.refl _ _) ⟨Oct.nil, World.ownsRow_nil _ _ _ _⟩ (fun b hb => by cases hb)
theorem rowSeg : RowT tab 32 67 2 16 (.agg #[.int .i64 0, .int .i64 0]) := ⟨rfl, rfl, rfl, by decide⟩
theorem segCells_append (a b : List (Int × Int)) : segCells (a ++ b) = segCells a ++ segCells b := by simp [segCells]
theorem segCells_one (l : List (Int × Int)) : ∀ u ∈ segCells l, u.oneCell' = true := fun u hu => by
  simp only [segCells, List.mem_flatMap] at hu
  obtain ⟨s, _, hs⟩ := hu
  simp at hs
  rcases hs with rfl | rfl <;> rfl
theorem roV_row {e : TypeId} {size n c : Nat} {A : Option Addr} {xs : List Value} {w : World} (h : (row e size (.slice A n c) n xs).C w) : (roV A (n * size) xs).C w := by
  obtain ⟨h1, h2⟩ := row_src h
  refine ⟨h1, fun hn => ?_⟩
  obtain ⟨A', c', h3, _, _, h4⟩ := row_slice h
  injection h3 with h3 _ _
  subst h3
  obtain ⟨b, o, e1, e2⟩ := h2 hn
  have hn0 : 0 < n := Nat.pos_of_ne_zero (fun e => by subst e; simp at hn)
  obtain ⟨g, e3, e4⟩ := h4 hn0
  rw [e1] at e3
  injection e3 with e3
  injection e3 with e3 e5
  subst e3 e5
  exact ⟨b, 0, e1, e4, e2⟩
theorem roB_blk {b : Nat} {l : List Int} {t : TypeId} {w : World} (h : (blk b (bv l) t).C w) (ho : Oct l) : (roB (some ⟨b, 0, none⟩) l.length l).C w :=
  ⟨rfl, ho, fun _ => ⟨b, 0, rfl, (blk b (bv l) t).lt h b rfl, fun j u hu => by rw [Nat.zero_add]; exact blk_cell h hu⟩⟩
theorem Ro.blkB {S : Nat → Prop} {w0 : World} {b : Nat} {l : List Int} {t : TypeId} (h : Ro S w0 (blk b (bv l) t)) (ho : Oct l) : Ro S w0 (roB (some ⟨b, 0, none⟩) l.length l) :=
  h.sub (fun h => roB_blk h ho) (fun x ⟨_, o, hx⟩ => by
    injection hx with hx
    injection hx with hx
    exact hx.symm)
theorem InBB.nil {S : Nat → Prop} {w0 : World} : InBB S w0 none 0 [] := ⟨rfl, [], ⟨⟨rfl, fun h => by omega⟩, fun b h => by have := h.1; omega⟩, fun i l h => by simp at h⟩
theorem oct1 {x : Int} (h : 0 ≤ x ∧ x ≤ 255) : Oct [x] := fun y hy => by simp at hy; subst hy; exact h
end Go.Proofs.Ytboccjdncdaakaa

/-
  Sources of what is read: objects, and memory that stays.
-/

set_option linter.unusedVariables false
set_option maxRecDepth 100000
namespace Go.Proofs.Ytboccjdncdaakaa
open Go.RowKit
theorem roV_src {A : Option Addr} {n : Nat} {vs : List Value} {w : World} (h : (roV A n vs).C w) : SrcAt w A n vs := ⟨h.1, fun hn => by
  obtain ⟨b, o, h1, _, h2⟩ := h.2 hn
  exact ⟨b, o, h1, h2⟩⟩
theorem bytesA_src {A : Option Addr} {n c : Nat} {l : List Int} {w : World} (h : (bytesA (.slice A n c) l).C w) : SrcAt w A n (bv l) := roB_src (roB_of h)
section
variable {P : Program} {n : Nat} {S : Nat → Prop} {w0 : World} {Q : Exit → Act → World → Prop} {ops : Array Oper} {env : Env} {hp hp' : List Asn}
variable {d : Option Nat} {ty : TypeId} {pos : String} {af : Array Edge} {g : Option (Nat × Bool)} {rest : List Oper}
theorem q_slHi (T : Tab P) {t e : TypeId} {x hi : Operand} {A : Option Addr} {m c j : Nat} {k : IntKind} {h : Int} {z : Value} {sz y : Nat} (hx : ev env x = some (.slice A m c)) (hh : ev env hi = some (.int k h)) (ht : T.u t = some (.slice e)) (hz : T.i e = some (z, sz, y)) (hj : h.toNat = j) (hb : 0 ≤ h ∧ h ≤ c) :
    Qt P S w0 ⟨d, .slice t x none (some hi) none, ty, pos, af, g⟩ env hp (.slice A j c) := by
  subst hj
  exact q_sliceHi T hx hh ht hz hb
theorem q_slLo (T : Tab P) {t e : TypeId} {x lo : Operand} {A : Option Addr} {m c j : Nat} {k : IntKind} {l : Int} {z : Value} {sz y : Nat} (hx : ev env x = some (.slice A m c)) (hl : ev env lo = some (.int k l)) (ht : T.u t = some (.slice e)) (hz : T.i e = some (z, sz, y)) (hj : l.toNat = j) (hb : 0 ≤ l ∧ l ≤ m) :
    Qt P S w0 ⟨d, .slice t x (some lo) none none, ty, pos, af, g⟩ env hp (.slice (cutA A c j sz) (m - j) (c - j)) := by
  subst hj
  exact q_sliceLo T hx hl ht hz hb
theorem q_slLH (T : Tab P) {t e : TypeId} {x lo hi : Operand} {A : Option Addr} {m c i j : Nat} {k k' : IntKind} {l h : Int} {z : Value} {sz y : Nat} (hx : ev env x = some (.slice A m c)) (hl : ev env lo = some (.int k l)) (hh : ev env hi = some (.int k' h)) (ht : T.u t = some (.slice e)) (hz : T.i e = some (z, sz, y)) (hi_ : l.toNat = i) (hj : h.toNat = j) (hb : 0 ≤ l ∧ l ≤ h ∧ h ≤ c) :
    Qt P S w0 ⟨d, .slice t x (some lo) (some hi) none, ty, pos, af, g⟩ env hp (.slice (cutA A c i sz) (j - i) (c - i)) := by
  subst hi_ hj
  exact q_sliceLH T hx hl hh ht hz hb
theorem q_ldRo (T : Tab P) {t : TypeId} {x : Operand} {b o : Nat} {v : Value} {l : List Value} {t' : TypeId} {dt : TypeDesc} (hx : ev env x = some (.pointer (some ⟨b, o, none⟩))) (ht : T.u t = some dt) (ha : aggB dt = false) (hm : Ro S w0 (blk b l t')) (hv : l[o]? = some v) : Qt P S w0 ⟨d, .load t x, ty, pos, af, g⟩ env hp v :=
  q_load T hx ht ha fun w h => blk_cell (h.ro hm) hv
theorem q_ldRoN (T : Tab P) {t : TypeId} {x : Operand} {b o : Nat} {l vs : List Value} {t' : TypeId} {dt : TypeDesc} {z : Value} {s y : Nat} (hx : ev env x = some (.pointer (some ⟨b, o, none⟩))) (ht : T.u t = some dt) (ha : aggB dt = true) (hi : T.i t = some (z, s, y)) (hm : Ro S w0 (blk b l t')) (hv : CutR l o s vs) : Qt P S w0 ⟨d, .load t x, ty, pos, af, g⟩ env hp (.agg vs.toArray) :=
  q_loadN T hx ht ha hi hv.eq.1 fun w h j u hu => blk_cell (h.ro hm) (hv.eq.2 j u hu)
end
/-! ### Parts of what stays -/
section
variable {S : Nat → Prop} {w0 : World}
theorem Ro.star {l : List Asn} (h : Ro S w0 (starL l)) {i : Nat} {X : Asn} (hi : l[i]? = some X) : Ro S w0 X := h.sub (fun h => starL_get h hi) (fun b hb => ⟨X, List.mem_of_getElem? hi, hb⟩)
theorem Ro.rowV {e : TypeId} {size n c : Nat} {A : Option Addr} {xs : List Value} (h : Ro S w0 (row e size (.slice A n c) n xs)) : Ro S w0 (roV A (n * size) xs) :=
  h.sub (fun h => roV_row h) (fun b ⟨hn, o, hA⟩ => by
    have hn' : 0 < n := by rcases Nat.eq_zero_or_pos n with e | e; · subst e; simp at hn
                           · exact e
    obtain ⟨A', c', e1, _, _, e2⟩ := row_slice h.is
    injection e1 with e1
    subst e1
    obtain ⟨g, e3, _⟩ := e2 hn'
    rw [hA] at e3
    injection e3 with e3
    injection e3 with e3 e4
    subst e3 e4 hA
    rfl)
theorem Ro.rowV1 {e : TypeId} {n c : Nat} {A : Option Addr} {xs : List Value} (h : Ro S w0 (row e 1 (.slice A n c) n xs)) : Ro S w0 (roV A n xs) := by
  have := h.rowV
  rwa [Nat.mul_one] at this
theorem Ro.bytes {A : Option Addr} {n c : Nat} {l : List Int} (h : Ro S w0 (bytesA (.slice A n c) l)) : Ro S w0 (roB A n l) := by
  obtain ⟨A', c', e1, _, _, h1, h2⟩ := bytesA_ro h.is
  injection e1 with e1 e2 e3
  subst e1 e2 e3
  exact h.sub (fun _ => h1) h2
variable {p : Nat} {m : MemV} {s : SegV}
theorem Ro.memBlk (h : Ro S w0 (memA p m)) : Ro S w0 (blk p [m.rv, m.sv] 65) := Ro.star h (i := 0) rfl
theorem Ro.memRam (h : Ro S w0 (memA p m)) : Ro S w0 (bytesA m.rv m.ram) := Ro.star h (i := 1) rfl
theorem Ro.memRow (h : Ro S w0 (memA p m)) : Ro S w0 (row 68 1 m.sv m.segs.length (m.segs.map fun s => .pointer (some ⟨s.b, 0, none⟩))) := Ro.star h (i := 2) rfl
theorem Ro.memSeg (h : Ro S w0 (memA p m)) {k : Nat} (hk : m.segs[k]? = some s) : Ro S w0 (segA s) := Ro.star h (memL_seg hk)
theorem Ro.segBlk (h : Ro S w0 (segA s)) : Ro S w0 (blk s.b [s.pv, .int .i64 s.s.s0, .int .i64 s.s.s1] 71) := Ro.star h (i := 0) rfl
theorem Ro.segRow (h : Ro S w0 (segA s)) : Ro S w0 (row 38 1 s.pv s.pgs.length s.pgs) := Ro.star h (i := 1) rfl
theorem Ro.segPage (h : Ro S w0 (segA s)) {i : Nat} {v : Value} {l : List Int} (hv : s.pgs[i]? = some v) (hl : s.s.dat[i]? = some l) : Ro S w0 (bytesA v l) := Ro.star h (segL_page hv hl)
end
end Go.Proofs.Ytboccjdncdaakaa

/-
  Rows of things that come in: what their cells are, read one by one.
-/

set_option linter.unusedVariables false
set_option maxRecDepth 100000
namespace Go.Proofs.Ytboccjdncdaakaa
open Go.RowKit
/-- n things of sz cells each, that stay. -/
structure InS {α : Type} (S : Nat → Prop) (w0 : World) (sz : Nat) (p : List Value → α → Prop) (A : Option Addr) (n : Nat) (xs : List α) : Prop where
  len : xs.length = n
  ex : ∃ rows : List (List Value), rows.length = n ∧ (∀ r ∈ rows, r.length = sz) ∧ Ro S w0 (roV A (n * sz) rows.flatten) ∧ ∀ (i : Nat) r x, rows[i]? = some r → xs[i]? = some x → p r x
theorem flatten_get {s : Nat} : ∀ {l : List (List Value)}, (∀ r ∈ l, r.length = s) → ∀ {i : Nat} {r : List Value}, l[i]? = some r → ∀ {k : Nat} {v : Value}, r[k]? = some v → l.flatten[i * s + k]? = some v
  | [], _, i, r, h, k, v, hv => by simp at h
  | y :: l, hl, 0, r, h, k, v, hv => by
    simp at h
    subst h
    have hk := (List.getElem?_eq_some_iff.1 hv).1
    rw [Nat.zero_mul, Nat.zero_add, List.flatten_cons, List.getElem?_append_left hk]
    exact hv
  | y :: l, hl, i + 1, r, h, k, v, hv => by
    have hy := hl y (by simp)
    have := flatten_get (l := l) (fun r hr => hl r (by simp [hr])) (i := i) (r := r) (by simpa using h) hv
    rw [List.flatten_cons, List.getElem?_append_right (by rw [hy, Nat.add_mul]; omega), hy, show (i + 1) * s + k - s = i * s + k by rw [Nat.add_mul]; omega]
    exact this
theorem length_flatten' {s : Nat} : ∀ {l : List (List Value)}, (∀ r ∈ l, r.length = s) → l.flatten.length = l.length * s
  | [], _ => by simp
  | y :: l, hl => by
    rw [List.flatten_cons, List.length_append, length_flatten' (l := l) (fun r hr => hl r (by simp [hr])), hl y (by simp), List.length_cons, Nat.add_mul]; omega
section
variable {α : Type} {S : Nat → Prop} {w0 : World} {sz n : Nat} {p : List Value → α → Prop} {A : Option Addr} {xs : List α}
theorem InS.nil (A : Option Addr) : InS S w0 sz p A 0 [] := ⟨rfl, [], rfl, by simp, ⟨⟨by simp, fun h => by simp at h⟩, fun b h => by have := h.1; simp at this⟩, fun i r x h => by simp at h⟩
/-- One of them: its place, and its cells. -/
theorem InS.get (h : InS S w0 sz p A n xs) (h0 : 0 < sz) {i : Nat} {x : α} (hi : xs[i]? = some x) : ∃ b o r, A = some ⟨b, o, none⟩ ∧ r.length = sz ∧ p r x ∧ ∀ hp w, St S w0 hp w → CellsAt w b (o + i * sz) r := by
  obtain ⟨rows, h1, h2, h3, h4⟩ := h.ex
  have hin : i < n := by rw [← h.len]; exact (List.getElem?_eq_some_iff.1 hi).1
  obtain ⟨r, hr⟩ : ∃ r, rows[i]? = some r := ⟨_, List.getElem?_eq_getElem (by omega)⟩
  obtain ⟨b, o, hA, _⟩ := roV_cell h3.is (Nat.mul_pos (by omega) h0)
  refine ⟨b, o, r, hA, h2 r (List.mem_of_getElem? hr), h4 i r x hr hi, fun hp w hS j u hu => ?_⟩
  obtain ⟨b', o', e1, e2⟩ := roV_cell (hS.ro h3) (Nat.mul_pos (by omega) h0)
  rw [hA] at e1
  injection e1 with e1
  injection e1 with e1 e3
  subst e1 e3
  rw [Nat.add_assoc]
  exact e2 _ _ (flatten_get h2 hr hu)
theorem InS.addr (h : InS S w0 sz p A n xs) (h0 : 0 < n * sz) : ∃ b o, A = some ⟨b, o, none⟩ := by
  obtain ⟨rows, h1, h2, h3, h4⟩ := h.ex
  obtain ⟨b, o, hA, _⟩ := roV_cell h3.is h0
  exact ⟨b, o, hA⟩
theorem InS.mono {q : List Value → α → Prop} (h : InS S w0 sz p A n xs) (hq : ∀ r x, r.length = sz → p r x → q r x) : InS S w0 sz q A n xs := by
  obtain ⟨rows, h1, h2, h3, h4⟩ := h.ex
  exact ⟨h.len, rows, h1, h2, h3, fun i r x hr hx => hq r x (h2 r (List.mem_of_getElem? hr)) (h4 i r x hr hx)⟩
/-- For a callee. -/
theorem InS.to {S' : Nat → Prop} {w1 : World} {q : List Value → α → Prop} (h : InS S w0 sz p A n xs) (hr : ∀ r, Ro S w0 r → Ro S' w1 r) (hq : ∀ r x, p r x → q r x) : InS S' w1 sz q A n xs := by
  obtain ⟨rows, h1, h2, h3, h4⟩ := h.ex
  exact ⟨h.len, rows, h1, h2, hr _ h3, fun i r x hr hx => hq r x (h4 i r x hr hx)⟩
theorem InS.take (h : InS S w0 sz p A n xs) (h0 : 0 < sz) {k : Nat} (hk : k ≤ n) : InS S w0 sz p A k (xs.take k) := by
  obtain ⟨rows, h1, h2, h3, h4⟩ := h.ex
  have h2' : ∀ r ∈ rows.take k, r.length = sz := fun r hr => h2 r (List.mem_of_mem_take hr)
  refine ⟨by rw [List.length_take, h.len]; omega, rows.take k, by simp [h1]; omega, h2', ?_, fun i r x hr hx => ?_⟩
  · refine h3.sub (fun hc => ⟨?_, fun hn => ?_⟩) (fun b ⟨hb, hA⟩ => ⟨Nat.lt_of_lt_of_le hb (Nat.mul_le_mul_right _ hk), hA⟩)
    · rw [length_flatten' h2', List.length_take, h1, Nat.min_eq_left hk]
    · obtain ⟨b, o, e1, e2, e3⟩ := hc.2 (Nat.lt_of_lt_of_le hn (Nat.mul_le_mul_right _ hk))
      refine ⟨b, o, e1, e2, fun j u hu => e3 j u ?_⟩
      have : rows.flatten = (rows.take k).flatten ++ (rows.drop k).flatten := by rw [← List.flatten_append, List.take_append_drop]
      rw [this, List.getElem?_append_left (List.getElem?_eq_some_iff.1 hu).1]
      exact hu
  · have hik : i < k := by
      have := (List.getElem?_eq_some_iff.1 hr).1
      rw [List.length_take] at this
      omega
    rw [List.getElem?_take_of_lt hik] at hr hx
    exact h4 i r x hr hx
end
theorem st_starS {S : Nat → Prop} {w0 w : World} {v : Value} {l : List Int} {vals : List Value} {fl : List (List Int)} {F : List Asn} (hl : vals.length = fl.length) (h : St S w0 (bytesA v l :: starL (List.zipWith bytesA vals fl) :: F) w) : St S w0 (starL (List.zipWith bytesA (vals ++ [v]) (fl ++ [l])) :: F) w := by
  rw [List.zipWith_append hl]
  exact st_snoc h
theorem roB_nil (w : World) : Ro (fps []) w (roB none 0 []) := Ro.empty ⟨rfl, Oct.nil, fun h => by omega⟩
/-- What is known of what stands, laid down. -/
theorem c_src {P : Program} {n : Nat} {S : Nat → Prop} {w0 : World} {Q : Exit → Act → World → Prop} {env : Env} {hp : List Asn} {c : Code} {r : World → Prop} (h1 : ∀ w, St S w0 hp w → r w) (h : (∀ w, St S w0 hp w → r w) → TC P n S w0 Q c env hp) : TC P n S w0 Q c env hp := h h1
theorem l_src {P : Program} {n : Nat} {S : Nat → Prop} {w0 : World} {Q : Exit → Act → World → Prop} {env : Env} {hp : List Asn} {ops : Array Oper} {l : List Oper} {r : World → Prop} (h1 : ∀ w, St S w0 hp w → r w) (h : (∀ w, St S w0 hp w → r w) → TL P n S w0 Q ops l env hp) : TL P n S w0 Q ops l env hp := h h1
/-- The cells of one thing that is read whole. -/
theorem CellsAt.of {w : World} {b o o' : Nat} {vs : List Value} (h : CellsAt w b o vs) (e : o = o') : CellsAt w b o' vs := e ▸ h
end Go.Proofs.Ytboccjdncdaakaa

/-
  More rules: arrays that lie in a row.
-/

set_option linter.unusedVariables false
set_option maxRecDepth 100000
namespace Go.Proofs.Ytboccjdncdaakaa
open Go.RowKit
section
variable {P : Program} {n : Nat} {S : Nat → Prop} {w0 : World} {Q : Exit → Act → World → Prop} {ops : Array Oper} {env : Env} {hp hp' : List Asn}
variable {d : Option Nat} {ty : TypeId} {pos : String} {af : Array Edge} {g : Option (Nat × Bool)} {rest : List Oper}
theorem q_ixAS1 (T : Tab P) {t e : TypeId} {x ix : Operand} {A : Option Addr} {len j jj : Nat} {k : IntKind} {i : Int} {z : Value} {y q : Nat} {vs : List Value} (hx : ev env x = some (.pointer (adr A j))) (hi : ev env ix = some (.int k i)) (ht : T.u t = some (.array len e)) (hz : T.i e = some (z, 1, y)) (hs : Src S w0 hp A q vs) (hj : i.toNat = jj) (h : 0 ≤ i ∧ i < len) (hq : 0 < q) :
    Qt P S w0 ⟨d, .indexAddr t x ix, ty, pos, af, g⟩ env hp (.pointer (adr A (j + jj))) := fun n a w hE hS => by
  subst hj
  obtain ⟨b, o, rfl, _⟩ := (hs w hS).2 hq
  rw [adr_some] at hx ⊢
  rw [← Nat.add_assoc]
  exact q_indexAddrA1 T hx hi ht hz h n a w hE hS
end
theorem st_back {S : Nat → Prop} {w0 w : World} {Y X : Asn} {l F : List Asn} {i : Nat} (hi : l[i]? = some X) (h : St S w0 (Y :: starL (l.set i emp) :: F) w) : St S w0 (starL (l.set i Y) :: F) w := by
  have := st_put (j := 0) (i := i) h rfl (List.getElem?_set_self (List.getElem?_eq_some_iff.1 hi).1)
  rw [List.set_set] at this
  exact this
theorem q_slArr {P : Program} {S : Nat → Prop} {w0 : World} {env : Env} {hp : List Asn} {d : Option Nat} {ty : TypeId} {pos : String} {af : Array Edge} {g : Option (Nat × Bool)} (T : Tab P) {t e : TypeId} {x lo hi : Operand} {b o n i j : Nat} {k k' : IntKind} {l h : Int} {z : Value} {sz y : Nat} (hx : ev env x = some (.pointer (some ⟨b, o, none⟩))) (hl : ev env lo = some (.int k l)) (hh : ev env hi = some (.int k' h)) (ht : T.u t = some (.array n e)) (hz : T.i e = some (z, sz, y)) (hi_ : l.toNat = i) (hj : h.toNat = j) (hb : 0 ≤ l ∧ l ≤ h ∧ h ≤ n) :
    Qt P S w0 ⟨d, .slice t x (some lo) (some hi) none, ty, pos, af, g⟩ env hp (.slice (some (if n = i then ⟨b, o, none⟩ else ⟨b, o + i * sz, none⟩)) (j - i) (n - i)) := fun m a w hE hS => by
  subst hi_ hj
  have h0 : 0 ≤ h := by omega
  have h1 : l ≤ (h.toNat : Int) := by omega
  have h2 : (h.toNat : Int) = h := by omega
  simp [execOp, hE.ev hx, hE.ev hl, hE.ev hh, Instr.sliceAt, Instr.slice, run_underlying (T.U ht), Instr.sliceBounds, run_sliceBound, hb.1, hb.2.1, hb.2.2, h0, h2, T.size hz, Instr.sureAddr, Addr.add_lit]
theorem st_unstar {S : Nat → Prop} {w0 w : World} {l F : List Asn} (h : St S w0 (starL l :: F) w) : St S w0 (l ++ F) w := by
  have hl : Hold l w := h.all (starL l) (List.Mem.head _)
  refine ⟨h.kept, fun A hA b hb => ?_, .of_pair (List.pairwise_append.2 ⟨hl.ap.pair, h.ap.2.pair, fun X hX Y hY b hb hb' => h.ap.1 Y hY b ⟨X, hX, hb⟩ hb'⟩), fun A hA => ?_⟩
  · rcases List.mem_append.1 hA with hA | hA
    · exact h.own (starL l) (List.Mem.head _) b ⟨A, hA, hb⟩
    · exact h.own A (by simp [hA]) b hb
  · rcases List.mem_append.1 hA with hA | hA
    · exact hl.all A hA
    · exact h.all A (by simp [hA])
/-- Objects picked out, in whatever order. -/
inductive PSub : List Asn → List Asn → Prop
  | nil {r : List Asn} : PSub [] r
  | cons {X : Asn} {a r r' : List Asn} : Ext X r r' → PSub a r' → PSub (X :: a) r
theorem PSub.spec {a r : List Asn} (h : PSub a r) : ∃ q, r.Perm (a ++ q) := by
  induction h with
  | @nil r => exact ⟨r, .refl _⟩
  | cons h1 _ ih =>
    obtain ⟨q, h2⟩ := ih
    exact ⟨q, h1.perm.trans (h2.cons _)⟩
theorem St.psub {S : Nat → Prop} {w0 w : World} {hp hp' : List Asn} (h : St S w0 hp w) (hs : PSub hp' hp) : St S w0 hp' w := by
  obtain ⟨q, h1⟩ := hs.spec
  have h2 := h.perm h1
  exact ⟨h2.kept, fun A hA => h2.own A (by simp [hA]), h2.ap.append.1, fun A hA => h2.all A (by simp [hA])⟩
/-- What follows a region, said once for all orders. -/
theorem a_join {P : Program} {n : Nat} {S : Nat → Prop} {w0 : World} {Q : Exit → Act → World → Prop} {ops : Array Oper} {N e fuel : Nat} {hb hz : List Asn} {dn : List Nat} {env : Env} {hp : List Asn} {α : Type} (E : α → Env) (H : α → List Asn) (h : ∀ x, TQ n S w0 Q .normal (E x) (H x)) (k : (∀ x, TQ n S w0 Q .normal (E x) (H x)) → TA P n S w0 Q ops N e hb hz fuel dn env hp) : TA P n S w0 Q ops N e hb hz fuel dn env hp := k h
theorem t_sub {n : Nat} {S : Nat → Prop} {w0 : World} {Q : Exit → Act → World → Prop} {e : Exit} {env env' : Env} {hp hp' : List Asn} (hE : Sub env' env) (hH : ∀ w, St S w0 hp w → St S w0 hp' w) (h : TQ n S w0 Q e env' hp') : TQ n S w0 Q e env hp := fun a w hA hS => h a w (hA.sub hE) (hH w hS)
/-- An empty row, and one of bytes. -/
theorem row0_of {S : Nat → Prop} {w0 w : World} {g : Nat} {F : List Asn} (h : St S w0 (blk g [] 5 :: F) w) : St S w0 (row 5 1 (.slice (some ⟨g, 0, none⟩) 0 0) 0 [] :: F) w :=
  h.see (i := 0) rfl (fun h => row_of_blk h 1 0 0 (Nat.le_refl _) (Nat.zero_le _) rfl [] rfl) (fun b hb => by injection hb with hb; exact hb.symm)
theorem bytesA_of {v : Value} {n : Nat} {l : List Int} {w : World} (hl : l.length = n) (ho : Oct l) (h : (row 5 1 v n (bv l)).C w) : (bytesA v l).C w := by
  subst hl
  exact ⟨ho, h⟩
theorem bytesA_rowS {v : Value} {n : Nat} {l : List Int} (b : Nat) (h : (bytesA v l).S b) : (row 5 1 v n (bv l)).S b := h
theorem t_fact {n : Nat} {S : Nat → Prop} {w0 : World} {Q : Exit → Act → World → Prop} {env : Env} {hp : List Asn} {e : Exit} {p : Prop} (hp_ : ∀ w, St S w0 hp w → p) (h : p → TQ n S w0 Q e env hp) : TQ n S w0 Q e env hp := fun a w hE hS => h (hp_ w hS) a w hE hS
theorem t_ex {n : Nat} {S : Nat → Prop} {w0 : World} {Q : Exit → Act → World → Prop} {env : Env} {hp : List Asn} {e : Exit} {α : Type} {p : α → Prop} {hp' : α → List Asn} (hx : ∀ w, St S w0 hp w → ∃ x, p x ∧ St S w0 (hp' x) w) (h : ∀ x, p x → TQ n S w0 Q e env (hp' x)) : TQ n S w0 Q e env hp := fun a w hE hS => by
  obtain ⟨x, h1, h2⟩ := hx w hS
  exact h x h1 a w hE h2
end Go.Proofs.Ytboccjdncdaakaa

/-
  Layer 14: lists and tables that come in; needs, and of, walked.
-/

set_option linter.unusedVariables false
set_option maxRecDepth 100000
namespace Go.Proofs.Ytboccjdncdaakaa
open Go.RowKit
attribute [local irreducible] TL TC TQ TK TO Qt TA
structure EntryI where
  size : Nat
  area : Nat
  at_ : Nat
structure ListI where
  first : Int
  tabs : List (List EntryI)
  stim : Bool
  ev : Nat
  pre : Nat
  pri : Nat
  on : Bool
  ch : Bool
/-- An entry's cells. -/
def InEntry (v : List Value) (e : EntryI) : Prop := v = [.int .u8 e.size, .int .u8 e.area, .int .u32 e.at_] ∧ e.size ≤ 255 ∧ e.area ≤ 255 ∧ e.at_ ≤ 4294967295
def InTab (S : Nat → Prop) (w0 : World) (v : List Value) (t : List EntryI) : Prop := ∃ A n c, v = [.slice A n c] ∧ InS S w0 3 InEntry A n t ∧ n ≤ c ∧ c ≤ maxLen
structure InList (S : Nat → Prop) (w0 : World) (v : List Value) (l : ListI) : Prop where
  is : ∃ A n c, v = [.int .i64 l.first, .slice A n c, .bool l.stim, .int .u8 l.ev, .int .u8 l.pre, .int .u8 l.pri, .bool l.on, .bool l.ch] ∧ InS S w0 1 (InTab S w0) A n l.tabs ∧ n ≤ c ∧ c ≤ maxLen
  first : -9223372036854775808 ≤ l.first ∧ l.first ≤ 9223372036854775807
  ev : l.ev ≤ 255
  pre : l.pre ≤ 255
  pri : l.pri ≤ 255
theorem InTab.to {S S' : Nat → Prop} {w0 w1 : World} {v : List Value} {t : List EntryI} (h : InTab S w0 v t) (hr : ∀ r, Ro S w0 r → Ro S' w1 r) : InTab S' w1 v t := by
  obtain ⟨A, n, c, h1, h2, h3⟩ := h
  exact ⟨A, n, c, h1, h2.to hr (fun _ _ h => h), h3⟩
theorem InList.to {S S' : Nat → Prop} {w0 w1 : World} {v : List Value} {l : ListI} (h : InList S w0 v l) (hr : ∀ r, Ro S w0 r → Ro S' w1 r) : InList S' w1 v l := by
  obtain ⟨⟨A, n, c, h1, h2, h3⟩, h4, h5, h6, h7⟩ := h
  exact ⟨⟨A, n, c, h1, h2.to hr (fun _ _ h => h.to hr), h3⟩, h4, h5, h6, h7⟩
def needsM (t : List EntryI) : Nat := (t.map (·.size)).sum
theorem needsM_snoc (t : List EntryI) (e : EntryI) : needsM (t ++ [e]) = needsM t + e.size := by simp [needsM]
theorem needsM_take {t : List EntryI} {k : Nat} {e : EntryI} (h : t[k]? = some e) : needsM (t.take (k + 1)) = needsM (t.take k) + e.size := by
  rw [List.take_add_one, h]
  exact needsM_snoc _ _
/-- What a code less the first number is. -/
def kM (code : Nat) (first : Int) : Int := IntKind.i64.wrap ((code : Int) - first)
def hitM (code : Nat) (l : ListI) : Bool := l.on && l.stim && decide (0 ≤ kM code l.first ∧ kM code l.first < l.tabs.length)
/-- The list, and its table, that a packet is for. -/
def ofFrom (code : Nat) : Nat → List ListI → Option (Nat × Nat)
  | _, [] => none
  | i, l :: r => if hitM code l then some (i, (kM code l.first).toNat) else ofFrom code (i + 1) r
def ofM (code : Nat) (ls : List ListI) : Option (Nat × Nat) := ofFrom code 0 (ls.take 4)
def ofRes : Option (Nat × Nat) → Value
  | some (i, k) => .tuple #[.int .i64 i, .int .i64 k, .bool true]
  | none => .tuple #[.int .i64 0, .int .i64 0, .bool false]
theorem ofFrom_skip {code : Nat} : ∀ {i k : Nat} {ls : List ListI}, (∀ j l, j < k → ls[j]? = some l → hitM code l = false) → k ≤ ls.length → ofFrom code i ls = ofFrom code (i + k) (ls.drop k)
  | i, 0, ls, _, _ => rfl
  | i, k + 1, [], _, h => by simp at h
  | i, k + 1, l :: ls, h, hk => by
    rw [ofFrom, if_neg (by rw [h 0 l (by omega) rfl]; simp), List.drop_succ_cons, ofFrom_skip (k := k) (fun j l hj hl => h (j + 1) l (by omega) (by simpa using hl)) (by simpa using hk), show i + 1 + k = i + (k + 1) by omega]
theorem ofM_hit {code : Nat} {ls : List ListI} {k : Nat} {l : ListI} (h : ∀ j l, j < k → (ls.take 4)[j]? = some l → hitM code l = false) (hl : (ls.take 4)[k]? = some l) (hh : hitM code l = true) : ofM code ls = some (k, (kM code l.first).toNat) := by
  have hk := (List.getElem?_eq_some_iff.1 hl).1
  rw [ofM, ofFrom_skip h (by omega), Nat.zero_add, List.drop_eq_getElem_cons hk, ofFrom]
  have e : (ls.take 4)[k] = l := by
    rw [List.getElem?_eq_getElem hk] at hl
    injection hl
  rw [e, if_pos hh]
theorem ofM_none {code : Nat} {ls : List ListI} (h : ∀ j l, j < (ls.take 4).length → (ls.take 4)[j]? = some l → hitM code l = false) : ofM code ls = none := by
  rw [ofM, ofFrom_skip h (Nat.le_refl _), List.drop_length]
  rfl
attribute [local irreducible] blk row bytesA starL memA segA roB
set_option maxHeartbeats 4000000 in
theorem needs_spec {A : Option Addr} {n c : Nat} {t : List EntryI} {w : World} (h : InS (fps []) w 3 InEntry A n t) (hn : n ≤ 1000) :
    Calls Try.prog 19 #[.slice A n c] w (Ret w [] fun v B => v = .int .i64 (needsM t) ∧ B = []) := by
  refine enter (vs := [.slice A n c]) Try.func19 rfl Try.ntmps19 rfl (Hold.nil w) ?_
  (repeat (first | (refine i_dst ?_; (first | (refine i_move ?_; refine l_q rfl rfl rfl (q_move rfl) ?_) | (refine i_assign ?_; refine l_q rfl rfl rfl (q_assign rfl) ?_) | (refine i_blt ?_; refine l_q rfl rfl rfl (by (exact q_len tab rfl rfl)) ?_))) | refine d_seq ?_ | refine c_region ?_ | refine l_nil ?_ | refine c_block ?_ | (refine i_q ?_; (refine d_then ?_))))
  refine d_loop (T := Nat) [6, 7] (fun k => [(3, .int .i64 (needsM (t.take k))), (8, .int .i64 k)]) [] (fun _ => []) (fun k => k ≤ n ∧ needsM (t.take k) ≤ 255 * k) (fun k => n - k) 0 (by first | ((repeat (first | exact Pick.nil | exact rfl | apply Pick.cons)); done) | fail) ⟨Nat.zero_le _, Nat.le_refl _⟩ (by first | ((repeat (first | exact trivial | exact rfl | apply Sub.cons | exact look_int rfl (by omega) | exact look_int rfl (by simp) | exact look_int rfl (by simp; omega))); done) | fail) (fun w h => h) ?_
  rintro k ⟨hk, hs⟩
  by_cases hlt : k < n
  · obtain ⟨e, he⟩ : ∃ e, t[k]? = some e := ⟨_, List.getElem?_eq_getElem (by rw [h.len]; exact hlt)⟩
    obtain ⟨b, o, r, rfl, hrl, ⟨rfl, e1, e2, e3⟩, hcell⟩ := h.get (by omega) he
    have hst := needsM_take he
    (repeat (first | (refine i_dst ?_; (first | (refine i_move ?_; refine l_q rfl rfl rfl (q_move rfl) ?_) | (refine i_assign ?_; refine l_q rfl rfl rfl (q_assign rfl) ?_) | (refine i_load ?_; refine l_q rfl rfl rfl (by (first | (exact q_ld1 tab rfl rfl rfl (by first | ((repeat (first | exact List.Mem.head _ | apply List.Mem.tail)); done) | fail) (by (rfl))) | exact q_ldcN tab rfl rfl rfl rfl (by assumption) rfl)) ?_) | (refine i_bin ?_; refine l_q rfl rfl rfl (by (first | exact q_lss rfl rfl | exact q_add rfl rfl (by (exact wr_i64 (by omega))))) ?_) | (refine i_ix ?_; refine l_q rfl rfl rfl (by (exact q_indexAddr tab rfl rfl rfl rfl (by omega))) ?_) | (refine i_alloc ?_; (refine l_allocA tab rfl rfl (fun _ => ?_))) | (refine l_q rfl rfl rfl (by (first | (apply iq_fld; (exact q_fieldAddr tab rfl rfl rfl rfl rfl rfl rfl)) | (apply iq_cv; (exact q_conv tab rfl rfl rfl (by (exact wr_i64 (by omega))))))) ?_))) | refine d_seq ?_ | refine c_region ?_ | refine l_nil ?_ | refine c_block ?_ | (refine i_q ?_; (first | refine d_then ?_ | refine t_then ?_ | refine t_block ?_)) | refine c_skip ?_ | (refine i_store ?_; ((refine l_setN tab rfl rfl rfl rfl (List.cons_ne_nil _ _) rfl (by first | ((repeat (first | exact Upd.head | apply Upd.tail)); done) | fail) (by first | ((repeat (first | exact LSets.nil | exact LSet.zero | apply LSets.cons | apply LSet.succ)); done) | fail) ?_))) | (refine i_cond ?_; (refine c_ct rfl (by (exact decide_eq_true (by omega))) ?_))))
    exact k_again (k + 1) ⟨by omega, by rw [hst]; omega⟩ (by omega) (by first | ((repeat (first | exact trivial | exact rfl | apply Sub.cons | exact look_int rfl (by omega) | exact look_int rfl (by simp) | exact look_int rfl (by simp; omega))); done) | fail) (fun w h => h.subl (by first | ((repeat (first | exact SubL.nil | apply SubL.keep | apply SubL.skip)); done) | fail))
  · have hkn : k = n := by omega
    subst hkn
    rw [List.take_of_length_le (by rw [h.len]; omega)]
    (repeat (first | (refine i_dst ?_; (first | (refine i_move ?_; refine l_q rfl rfl rfl (q_move rfl) ?_) | (refine i_assign ?_; refine l_q rfl rfl rfl (q_assign rfl) ?_) | (refine i_bin ?_; refine l_q rfl rfl rfl (by (exact q_lss rfl rfl)) ?_))) | refine d_seq ?_ | refine c_region ?_ | refine l_nil ?_ | (refine i_q ?_; (first | refine d_then ?_ | refine d_then_exit ?_ | refine t_then_exit ?_ | refine t_block_eq rfl ?_)) | refine c_exit ?_ | refine c_ret ?_ | (refine i_cond ?_; ((refine c_cf rfl (by (((first | (simp; done) | fail)))) ?_)))))
    exact t_ret1 Try.results19 rfl ⟨rfl, rfl⟩

set_option maxHeartbeats 4000000 in
theorem of_stim_spec {A : Option Addr} {n c : Nat} {ls : List ListI} {w : World} (h : InS (fps []) w 8 (InList (fps []) w) A n ls) (hnc : n ≤ c) (hcm : c ≤ maxLen) (code : Nat) (hc : code ≤ 255) :
    Calls Try.prog 18 #[.slice A n c, .int .u8 code] w (Ret w [] fun v B => v = ofRes (ofM code ls) ∧ B = []) := by
  refine enter (vs := [.slice A n c, .int .u8 code]) Try.func18 rfl Try.ntmps18 rfl (Hold.nil w) ?_
  have hmx : maxLen = 2 ^ 63 - 1 := rfl
  have hlen := h.len
  (repeat (first | (refine i_dst ?_; (first | (refine i_move ?_; refine l_q rfl rfl rfl (q_move rfl) ?_) | (refine i_assign ?_; refine l_q rfl rfl rfl (q_assign rfl) ?_) | (refine i_blt ?_; refine l_q rfl rfl rfl (by (first | exact q_len tab rfl rfl | exact q_minN rfl rfl)) ?_) | (refine i_sl ?_; refine l_q rfl rfl rfl (by (exact q_slHi tab rfl rfl rfl rfl (by first | (with_reducible exact Int.toNat_natCast _) | (with_reducible exact Int.toNat_zero) | (with_reducible exact Int.toNat_one) | rfl) (by (omega)))) ?_))) | refine d_seq ?_ | refine c_region ?_ | refine l_nil ?_ | refine c_block ?_ | (refine i_q ?_; (refine d_then ?_))))
  refine d_loop (T := Nat) [1] (fun k => [(16, .int .i64 k), (14, .slice A (min n 4) c), (15, .int .i64 ((min n 4 : Nat) : Int))]) [] (fun _ => []) (fun k => k ≤ min n 4 ∧ ∀ j l, j < k → (ls.take 4)[j]? = some l → hitM code l = false) (fun k => min n 4 - k) 0 (by first | ((repeat (first | exact Pick.nil | exact rfl | apply Pick.cons)); done) | fail) ⟨Nat.zero_le _, fun j l hj => by omega⟩ (by first | ((repeat (first | exact trivial | exact rfl | apply Sub.cons | exact look_int rfl (by omega) | exact look_int rfl (by simp) | exact look_int rfl (by simp; omega))); done) | fail) (fun w h => h) ?_
  rintro k ⟨hk, hno⟩
  by_cases hlt : k < min n 4
  · obtain ⟨l, hl⟩ : ∃ l, ls[k]? = some l := ⟨_, List.getElem?_eq_getElem (by omega)⟩
    have hl4 : (ls.take 4)[k]? = some l := by rw [List.getElem?_take_of_lt (by omega)]; exact hl
    obtain ⟨b, o, r, rfl, hrl, hL, hcell⟩ := h.get (by omega) hl
    obtain ⟨⟨At, nt, ct, rfl, htab, ht1, ht2⟩, hf1, _, _, _⟩ := hL
    have htl := htab.len
    obtain ⟨first, tabs, stim, ev, pre, pri, on, ch⟩ := l
    dsimp only at htl hf1 hcell htab
    have hno' : hitM code ⟨first, tabs, stim, ev, pre, pri, on, ch⟩ = false → ∀ j l, j < k + 1 → (ls.take 4)[j]? = some l → hitM code l = false := fun hq j l hj hjl => by
      by_cases e : j = k
      · subst e
        rw [hl4] at hjl
        injection hjl with hjl
        rw [← hjl]
        exact hq
      · exact hno j l (by omega) hjl
    cases on with
    | false =>
      (repeat (first | (refine i_dst ?_; (first | (refine i_move ?_; refine l_q rfl rfl rfl (q_move rfl) ?_) | (refine i_assign ?_; refine l_q rfl rfl rfl (q_assign rfl) ?_) | (refine i_load ?_; refine l_q rfl rfl rfl (by (first | (exact q_ld1 tab rfl rfl rfl (by first | ((repeat (first | exact List.Mem.head _ | apply List.Mem.tail)); done) | fail) (by (rfl))) | exact q_ldcN tab rfl rfl rfl rfl (by assumption) rfl)) ?_) | (refine i_bin ?_; refine l_q rfl rfl rfl (by (first | exact q_lss rfl rfl | exact q_add rfl rfl (by (first | exact wr_i64 (by omega) | rfl)) | exact q_sub rfl rfl (by (rfl)))) ?_) | (refine i_ix ?_; refine l_q rfl rfl rfl (by (exact q_indexAddr tab rfl rfl rfl rfl (by omega))) ?_) | (refine i_alloc ?_; (refine l_allocA tab rfl rfl (fun _ => ?_))) | (refine l_q rfl rfl rfl (by (first | (apply iq_fld; (exact q_fieldAddr tab rfl rfl rfl rfl rfl rfl rfl)) | (apply iq_cv; (exact q_conv tab rfl rfl rfl (by (exact wr_i64 (by omega))))) | exact q_pick_f rfl rfl)) ?_))) | refine d_seq ?_ | refine c_region ?_ | refine l_nil ?_ | refine c_block ?_ | (refine i_q ?_; (first | refine d_then ?_ | refine t_then ?_ | refine t_block ?_)) | refine c_skip ?_ | (refine i_guard ?_; (refine l_gf rfl rfl rfl rfl rfl rfl ?_)) | (refine i_store ?_; ((refine l_setN tab rfl rfl rfl rfl (List.cons_ne_nil _ _) rfl (by first | ((repeat (first | exact Upd.head | apply Upd.tail)); done) | fail) (by first | ((repeat (first | exact LSets.nil | exact LSet.zero | apply LSets.cons | apply LSet.succ)); done) | fail) ?_))) | (refine i_cond ?_; (first | refine c_ct rfl (by (exact decide_eq_true (by omega))) ?_ | refine c_cf rfl (by (rfl)) ?_))))
      exact k_again (k + 1) ⟨by omega, hno' (by simp [hitM])⟩ (by omega) (by first | ((repeat (first | exact trivial | exact rfl | apply Sub.cons | exact look_int rfl (by omega) | exact look_int rfl (by simp) | exact look_int rfl (by simp; omega))); done) | fail) (fun w h => h.subl (by first | ((repeat (first | exact SubL.nil | apply SubL.keep | apply SubL.skip)); done) | fail))
    | true =>
      cases stim with
      | false =>
        (repeat (first | (refine i_dst ?_; (first | (refine i_move ?_; refine l_q rfl rfl rfl (q_move rfl) ?_) | (refine i_assign ?_; refine l_q rfl rfl rfl (q_assign rfl) ?_) | (refine i_load ?_; refine l_q rfl rfl rfl (by (first | (exact q_ld1 tab rfl rfl rfl (by first | ((repeat (first | exact List.Mem.head _ | apply List.Mem.tail)); done) | fail) (by (rfl))) | exact q_ldcN tab rfl rfl rfl rfl (by assumption) rfl)) ?_) | (refine i_bin ?_; refine l_q rfl rfl rfl (by (first | exact q_lss rfl rfl | exact q_add rfl rfl (by (first | exact wr_i64 (by omega) | rfl)) | exact q_sub rfl rfl (by (rfl)))) ?_) | (refine i_ix ?_; refine l_q rfl rfl rfl (by (exact q_indexAddr tab rfl rfl rfl rfl (by omega))) ?_) | (refine i_alloc ?_; (refine l_allocA tab rfl rfl (fun _ => ?_))) | (refine l_q rfl rfl rfl (by (first | (apply iq_fld; (exact q_fieldAddr tab rfl rfl rfl rfl rfl rfl rfl)) | (apply iq_cv; (exact q_conv tab rfl rfl rfl (by (exact wr_i64 (by omega))))) | exact q_pick_t rfl rfl | exact q_pick_f rfl rfl)) ?_))) | refine d_seq ?_ | refine c_region ?_ | refine l_nil ?_ | refine c_block ?_ | (refine i_q ?_; (first | refine d_then ?_ | refine t_then ?_ | refine t_block ?_)) | refine c_skip ?_ | (refine i_guard ?_; (first | refine l_gt rfl rfl rfl ?_ | refine l_gf rfl rfl rfl rfl rfl rfl ?_)) | (refine i_store ?_; ((refine l_setN tab rfl rfl rfl rfl (List.cons_ne_nil _ _) rfl (by first | ((repeat (first | exact Upd.head | apply Upd.tail)); done) | fail) (by first | ((repeat (first | exact LSets.nil | exact LSet.zero | apply LSets.cons | apply LSet.succ)); done) | fail) ?_))) | (refine i_cond ?_; (first | refine c_ct rfl (by (exact decide_eq_true (by omega))) ?_ | refine c_cf rfl (by (rfl)) ?_))))
        exact k_again (k + 1) ⟨by omega, hno' (by simp [hitM])⟩ (by omega) (by first | ((repeat (first | exact trivial | exact rfl | apply Sub.cons | exact look_int rfl (by omega) | exact look_int rfl (by simp) | exact look_int rfl (by simp; omega))); done) | fail) (fun w h => h.subl (by first | ((repeat (first | exact SubL.nil | apply SubL.keep | apply SubL.skip)); done) | fail))
      | true =>
        obtain ⟨q, hq⟩ : ∃ q, q = kM code first := ⟨_, rfl⟩
        have hq' := hq
        unfold kM at hq'
        by_cases h0 : 0 ≤ q
        · by_cases h1 : q < tabs.length
          · have hh : hitM code ⟨first, tabs, true, ev, pre, pri, true, ch⟩ = true := by simp [hitM, ← hq, h0, h1]
            have hof := ofM_hit hno hl4 hh
            (repeat (first | (refine i_dst ?_; (first | (refine i_move ?_; refine l_q rfl rfl rfl (q_move rfl) ?_) | (refine i_assign ?_; refine l_q rfl rfl rfl (q_assign rfl) ?_) | (refine i_load ?_; refine l_q rfl rfl rfl (by (first | (exact q_ld1 tab rfl rfl rfl (by first | ((repeat (first | exact List.Mem.head _ | apply List.Mem.tail)); done) | fail) (by (rfl))) | exact q_ldcN tab rfl rfl rfl rfl (by assumption) rfl)) ?_) | (refine i_bin ?_; refine l_q rfl rfl rfl (by (first | exact q_lss rfl rfl | exact q_geq rfl rfl | exact q_sub rfl rfl (by (rfl)))) ?_) | (refine i_blt ?_; refine l_q rfl rfl rfl (by (exact q_len tab rfl rfl)) ?_) | (refine i_ix ?_; refine l_q rfl rfl rfl (by (exact q_indexAddr tab rfl rfl rfl rfl (by omega))) ?_) | (refine i_alloc ?_; (refine l_allocA tab rfl rfl (fun _ => ?_))) | (refine l_q rfl rfl rfl (by (first | (apply iq_fld; (exact q_fieldAddr tab rfl rfl rfl rfl rfl rfl rfl)) | (apply iq_cv; (exact q_conv tab rfl rfl rfl (by (exact wr_i64 (by omega))))) | exact q_pick_t rfl rfl)) ?_))) | refine d_seq ?_ | refine c_region ?_ | refine l_nil ?_ | refine c_block ?_ | (refine i_q ?_; (first | refine d_then ?_ | refine d_then_ret ?_ | refine t_then_ret ?_ | refine t_block_ret ?_)) | refine c_skip ?_ | refine c_ret ?_ | (refine i_guard ?_; (first | refine l_gt rfl rfl rfl ?_ | refine l_gtd rfl rfl rfl (by (exact decide_eq_true (by omega))) ?_)) | (refine i_store ?_; ((refine l_setN tab rfl rfl rfl rfl (List.cons_ne_nil _ _) rfl (by first | ((repeat (first | exact Upd.head | apply Upd.tail)); done) | fail) (by first | ((repeat (first | exact LSets.nil | exact LSet.zero | apply LSets.cons | apply LSet.succ)); done) | fail) ?_))) | (refine i_cond ?_; (refine c_ct rfl (by (exact decide_eq_true (by omega))) ?_))))
            refine t_hp (hp' := []) (fun w h => h.subl (by first | ((repeat (first | exact SubL.nil | apply SubL.keep | apply SubL.skip)); done) | fail)) (t_ret3 Try.results18 rfl rfl rfl ⟨?_, rfl⟩)
            rw [hof, ofRes]
            show Value.tuple #[.int .i64 k, .int .i64 (IntKind.i64.wrap ((code : Int) - first)), .bool true] = .tuple #[.int .i64 k, .int .i64 ((kM code first).toNat : Int), .bool true]
            rw [← hq', ← hq, Int.toNat_of_nonneg h0]
          · (repeat (first | (refine i_dst ?_; (first | (refine i_move ?_; refine l_q rfl rfl rfl (q_move rfl) ?_) | (refine i_assign ?_; refine l_q rfl rfl rfl (q_assign rfl) ?_) | (refine i_load ?_; refine l_q rfl rfl rfl (by (first | (exact q_ld1 tab rfl rfl rfl (by first | ((repeat (first | exact List.Mem.head _ | apply List.Mem.tail)); done) | fail) (by (rfl))) | exact q_ldcN tab rfl rfl rfl rfl (by assumption) rfl)) ?_) | (refine i_bin ?_; refine l_q rfl rfl rfl (by (first | exact q_lss rfl rfl | exact q_geq rfl rfl | exact q_add rfl rfl (by (first | exact wr_i64 (by omega) | rfl)) | exact q_sub rfl rfl (by (rfl)))) ?_) | (refine i_blt ?_; refine l_q rfl rfl rfl (by (exact q_len tab rfl rfl)) ?_) | (refine i_ix ?_; refine l_q rfl rfl rfl (by (exact q_indexAddr tab rfl rfl rfl rfl (by omega))) ?_) | (refine i_alloc ?_; (refine l_allocA tab rfl rfl (fun _ => ?_))) | (refine l_q rfl rfl rfl (by (first | (apply iq_fld; (exact q_fieldAddr tab rfl rfl rfl rfl rfl rfl rfl)) | (apply iq_cv; (exact q_conv tab rfl rfl rfl (by (exact wr_i64 (by omega))))) | exact q_pick_t rfl rfl)) ?_))) | refine d_seq ?_ | refine c_region ?_ | refine l_nil ?_ | refine c_block ?_ | (refine i_q ?_; (first | refine d_then ?_ | refine t_then ?_ | refine t_block ?_)) | refine c_skip ?_ | (refine i_guard ?_; (first | refine l_gt rfl rfl rfl ?_ | refine l_gtd rfl rfl rfl (by (exact decide_eq_true (by omega))) ?_)) | (refine i_store ?_; ((refine l_setN tab rfl rfl rfl rfl (List.cons_ne_nil _ _) rfl (by first | ((repeat (first | exact Upd.head | apply Upd.tail)); done) | fail) (by first | ((repeat (first | exact LSets.nil | exact LSet.zero | apply LSets.cons | apply LSet.succ)); done) | fail) ?_))) | (refine i_cond ?_; (first | refine c_ct rfl (by (exact decide_eq_true (by omega))) ?_ | refine c_cf rfl (by (exact decide_eq_false (by omega))) ?_))))
            exact k_again (k + 1) ⟨by omega, hno' (by simp [hitM, ← hq]; omega)⟩ (by omega) (by first | ((repeat (first | exact trivial | exact rfl | apply Sub.cons | exact look_int rfl (by omega) | exact look_int rfl (by simp) | exact look_int rfl (by simp; omega))); done) | fail) (fun w h => h.subl (by first | ((repeat (first | exact SubL.nil | apply SubL.keep | apply SubL.skip)); done) | fail))
        · (repeat (first | (refine i_dst ?_; (first | (refine i_move ?_; refine l_q rfl rfl rfl (q_move rfl) ?_) | (refine i_assign ?_; refine l_q rfl rfl rfl (q_assign rfl) ?_) | (refine i_load ?_; refine l_q rfl rfl rfl (by (first | (exact q_ld1 tab rfl rfl rfl (by first | ((repeat (first | exact List.Mem.head _ | apply List.Mem.tail)); done) | fail) (by (rfl))) | exact q_ldcN tab rfl rfl rfl rfl (by assumption) rfl)) ?_) | (refine i_bin ?_; refine l_q rfl rfl rfl (by (first | exact q_lss rfl rfl | exact q_geq rfl rfl | exact q_add rfl rfl (by (first | exact wr_i64 (by omega) | rfl)) | exact q_sub rfl rfl (by (rfl)))) ?_) | (refine i_ix ?_; refine l_q rfl rfl rfl (by (exact q_indexAddr tab rfl rfl rfl rfl (by omega))) ?_) | (refine i_alloc ?_; (refine l_allocA tab rfl rfl (fun _ => ?_))) | (refine l_q rfl rfl rfl (by (first | (apply iq_fld; (exact q_fieldAddr tab rfl rfl rfl rfl rfl rfl rfl)) | (apply iq_cv; (exact q_conv tab rfl rfl rfl (by (exact wr_i64 (by omega))))) | exact q_pick_t rfl rfl | exact q_pick_f rfl rfl)) ?_))) | refine d_seq ?_ | refine c_region ?_ | refine l_nil ?_ | refine c_block ?_ | (refine i_q ?_; (first | refine d_then ?_ | refine t_then ?_ | refine t_block ?_)) | refine c_skip ?_ | (refine i_guard ?_; (first | refine l_gt rfl rfl rfl ?_ | refine l_gf rfl rfl rfl rfl rfl rfl ?_ | refine l_gfd rfl rfl rfl (by (exact decide_eq_false (by omega))) rfl rfl ?_)) | (refine i_store ?_; ((refine l_setN tab rfl rfl rfl rfl (List.cons_ne_nil _ _) rfl (by first | ((repeat (first | exact Upd.head | apply Upd.tail)); done) | fail) (by first | ((repeat (first | exact LSets.nil | exact LSet.zero | apply LSets.cons | apply LSet.succ)); done) | fail) ?_))) | (refine i_cond ?_; (first | refine c_ct rfl (by (exact decide_eq_true (by omega))) ?_ | refine c_cf rfl (by (rfl)) ?_))))
          exact k_again (k + 1) ⟨by omega, hno' (by simp [hitM, ← hq]; omega)⟩ (by omega) (by first | ((repeat (first | exact trivial | exact rfl | apply Sub.cons | exact look_int rfl (by omega) | exact look_int rfl (by simp) | exact look_int rfl (by simp; omega))); done) | fail) (fun w h => h.subl (by first | ((repeat (first | exact SubL.nil | apply SubL.keep | apply SubL.skip)); done) | fail))
  · have hkn : k = min n 4 := by omega
    (repeat (first | (refine i_dst ?_; (first | (refine i_assign ?_; refine l_q rfl rfl rfl (q_assign rfl) ?_) | (refine i_bin ?_; refine l_q rfl rfl rfl (by (exact q_lss rfl rfl)) ?_))) | refine d_seq ?_ | refine c_region ?_ | refine l_nil ?_ | (refine i_q ?_; (first | refine d_then ?_ | refine d_then_exit ?_ | refine t_then_exit ?_ | refine t_block_eq rfl ?_)) | refine c_exit ?_ | refine c_ret ?_ | (refine i_cond ?_; (refine c_cf rfl (by (exact decide_eq_false (by omega))) ?_))))
    refine t_ret3 Try.results18 rfl rfl rfl ⟨?_, rfl⟩
    rw [ofM_none (fun j l hj hl => hno j l (by rw [List.length_take] at hj; omega) hl)]
    rfl
end Go.Proofs.Ytboccjdncdaakaa

/-
  Plain laws of memory in pages.
-/

set_option linter.unusedVariables false
set_option maxRecDepth 100000
namespace Go.Proofs.Ytboccjdncdaakaa
open Go.RowKit
theorem newSegs_get {x : MapI} {k i : Nat} {s : Int × Int} (hi : i < k) (hs : x.segs[i]? = some s) : (newSegs x k)[i]? = some (segOf x i s) := by
  simp [newSegs, hi, List.getD_eq_getElem?_getD, hs]
theorem there_of {M : Mm} {k : Nat} {s : Seg} {ps : List Int} (hs : M.segs[k]? = some s) (hp : ∀ p ∈ ps, 0 ≤ p ∧ p ≤ (s.dat.length : Int) - 1) : thereM M (k : Int) ps = some s := by
  rw [thereM, if_pos (by omega), Int.toNat_natCast, hs]
  dsimp only
  rw [if_pos]
  rw [List.all_eq_true]
  intro p h
  exact decide_eq_true (hp p h)
theorem set_of {M : Mm} {k : Nat} {s : Seg} {p w : Nat} (hs : M.segs[k]? = some s) (hp : p < s.dat.length) (hw : 1 ≤ w ∧ w ≤ 3) : setM M w k p = (⟨M.ram, M.segs.set k ⟨s.ln, s.dat, if w = 2 then s.s0 else p, if w = 1 then s.s1 else p⟩⟩, 0) := by
  rw [setM, if_neg (by omega), there_of hs (fun x hx => by simp at hx; omega)]
  simp
theorem get_set {l : List Seg} {k : Nat} {s t : Seg} (h : l[k]? = some s) : (l.set k t)[k]? = some t := by
  rw [List.getElem?_set_self (List.getElem?_eq_some_iff.1 h).1]
theorem area_of {M : Mm} {k w : Nat} {s : Seg} {l : List Int} (hs : M.segs[k]? = some s) (hl : s.dat[if w = 1 then s.s0 else s.s1]? = some l) : areaM M w (k + 1) = some (l, decide ((if w = 1 then s.s0 else s.s1) = 0)) := by
  rw [areaM, if_neg (by omega), Nat.add_sub_cancel, hs]
  dsimp only
  rw [hl]
theorem read_of {M : Mm} {k w : Nat} {s : Seg} {l c : List Int} (hs : M.segs[k]? = some s) (hl : s.dat[if w = 1 then s.s0 else s.s1]? = some l) (hw : w = 1 ∨ w = 2) (hc : l.take c.length = c) : readM M w (k + 1) 0 c.length = (c, 0) := by
  have hn : c.length ≤ l.length := by
    have := congrArg List.length hc
    rw [List.length_take] at this
    omega
  rw [readM, if_neg (by omega), area_of hs hl]
  dsimp only
  rw [if_neg (by omega)]
  simp [hc]
theorem areaM_seg {M : Mm} {who k : Nat} {l : List Int} {f : Bool} (h : areaM M who (k + 1) = some (l, f)) : ∃ s, M.segs[k]? = some s ∧ s.dat[if who = 1 then s.s0 else s.s1]? = some l ∧ f = decide ((if who = 1 then s.s0 else s.s1) = 0) := by
  rw [areaM, if_neg (by omega), Nat.add_sub_cancel] at h
  cases hs : M.segs[k]? with
  | none => rw [hs] at h; cases h
  | some s =>
    rw [hs] at h
    dsimp only at h
    cases hl : s.dat[if who = 1 then s.s0 else s.s1]? with
    | none => rw [hl] at h; cases h
    | some l' =>
      rw [hl] at h
      dsimp only at h
      injection h with h
      injection h with h1 h2
      subst h1
      exact ⟨s, rfl, hl, h2.symm⟩
/-- How long an area is. -/
def lenM (M : Mm) (area : Nat) : Nat := if area = 0 then M.ram.length else match M.segs[area - 1]? with
  | some s => s.ln
  | none => 0
theorem area_is {M : Mm} (hk : MmOk M) {area : Nat} (ha : area ≤ M.segs.length) (who : Nat) : ∃ l f, areaM M who area = some (l, f) ∧ l.length = lenM M area := by
  rcases Nat.eq_zero_or_pos area with rfl | h0
  · exact ⟨M.ram, false, rfl, rfl⟩
  · obtain ⟨k, rfl⟩ : ∃ k, area = k + 1 := ⟨area - 1, by omega⟩
    obtain ⟨s, hs⟩ : ∃ s, M.segs[k]? = some s := ⟨_, List.getElem?_eq_getElem (by omega)⟩
    have ho := hk.segs s (List.mem_of_getElem? hs)
    have hlt : (if who = 1 then s.s0 else s.s1) < s.dat.length := by
      have := ho.h0
      have := ho.h1
      split <;> omega
    have hl := List.getElem?_eq_getElem hlt
    refine ⟨_, _, area_of hs hl, ?_⟩
    rw [ho.len _ (List.mem_of_getElem? hl), lenM, if_neg (by omega), Nat.add_sub_cancel, hs]
theorem readM_of {M : Mm} {who area : Nat} {at_ n : Int} {l : List Int} {f : Bool} (hw : who = 1 ∨ who = 2) (ha : areaM M who area = some (l, f)) (h0 : 0 ≤ n) (ha0 : 0 ≤ at_) (h1 : at_ + n ≤ l.length) : readM M who area at_ n = ((l.drop at_.toNat).take n.toNat, 0) := by
  rw [readM, if_neg (by omega), ha]
  dsimp only
  rw [if_neg (by omega)]
theorem read_all {M : Mm} {who area n : Nat} {l : List Int} {f : Bool} (hw : who = 1 ∨ who = 2) (ha : areaM M who area = some (l, f)) (h1 : l.length = n) : readM M who area 0 n = (l, 0) := by
  rw [readM_of hw ha (by omega) (by omega) (by omega)]
  simp [← h1]
theorem read_one {M : Mm} {who area at_ : Nat} {l : List Int} {f : Bool} (hw : who = 1 ∨ who = 2) (ha : areaM M who area = some (l, f)) (h1 : at_ < l.length) : readM M who area at_ 1 = ([l.getD at_ 0], 0) := by
  have e : List.take 1 (List.drop at_ l) = [l.getD at_ 0] := by
    rw [List.drop_eq_getElem_cons h1, List.getD_eq_getElem?_getD, List.getElem?_eq_getElem h1]
    rfl
  rw [readM_of hw ha (by omega) (by omega) (by omega), Int.toNat_natCast]
  exact congrArg (fun x => (x, (0 : Int))) e
/-- What an area is, after another one has been written. -/
theorem area_write {M : Mm} (hk : MmOk M) {aw aa : Nat} {at_ : Int} {x : List Int} (h0 : 0 ≤ at_) (hf : (writeM M aw aa at_ x).2 = 0) (hw' : aw = 1 ∨ aw = 2) {who area : Nat} (hw : who = 1 ∨ who = 2) {l : List Int} {f : Bool} (ha : areaM M who area = some (l, f)) :
    ∃ f', (at_ + x.length ≤ lenM M aa) ∧ areaM (writeM M aw aa at_ x).1 who area = some (if area = aa ∧ (area = 0 ∨ (pageM M who ((area : Int) - 1)).1 = (pageM M aw ((area : Int) - 1)).1) then spl l at_.toNat x else l, f') := by
  unfold writeM at hf ⊢
  rw [if_neg (by omega)] at hf ⊢
  cases hb : areaM M aw aa with
  | none => rw [hb] at hf; cases hf
  | some y =>
    obtain ⟨l', g⟩ := y
    rw [hb] at hf
    dsimp only at hf ⊢
    split at hf
    · cases hf
    rename_i hbd
    rw [if_neg hbd]
    have hal : aa ≤ M.segs.length := by
      rcases Nat.eq_zero_or_pos aa with e | e
      · omega
      · obtain ⟨k, rfl⟩ : ∃ k, aa = k + 1 := ⟨aa - 1, by omega⟩
        obtain ⟨s, h1, _⟩ := areaM_seg hb
        have := (List.getElem?_eq_some_iff.1 h1).1
        omega
    have hlen : l'.length = lenM M aa := by
      obtain ⟨l'', f'', e1, e2⟩ := area_is hk hal aw
      rw [hb] at e1
      injection e1 with e1
      injection e1 with e1 _
      subst e1
      exact e2
    by_cases hx : x.length = 0
    · rw [if_pos hx] at hf ⊢
      have hx' : x = [] := List.eq_nil_of_length_eq_zero hx
      subst hx'
      refine ⟨f, by simp only [List.length_nil] at hbd ⊢; omega, ?_⟩
      have : spl l at_.toNat [] = l := by simp [spl]
      rw [this, ite_self]
      exact ha
    · rw [if_neg hx] at hf ⊢
      cases g with
      | true => rw [if_pos rfl] at hf; cases hf
      | false =>
        rw [if_neg (by simp)]
        refine ⟨f, by omega, ?_⟩
        dsimp only
        rcases Nat.eq_zero_or_pos aa with rfl | hpos
        · rw [setArea, if_pos rfl]
          rw [areaM, if_pos rfl] at hb
          injection hb with hb
          injection hb with hb _
          subst hb
          rcases Nat.eq_zero_or_pos area with rfl | hp2
          · rw [areaM, if_pos rfl] at ha ⊢
            injection ha with ha
            injection ha with ha hff
            subst ha hff
            rw [if_pos ⟨rfl, .inl rfl⟩]
          · rw [if_neg (by omega)]
            rw [areaM, if_neg (by omega)] at ha ⊢
            exact ha
        · obtain ⟨k, rfl⟩ : ∃ k, aa = k + 1 := ⟨aa - 1, by omega⟩
          obtain ⟨s, h1, h2, h3⟩ := areaM_seg hb
          rw [setArea, if_neg (by omega), Nat.add_sub_cancel, h1]
          dsimp only
          rcases Nat.eq_zero_or_pos area with rfl | hp2
          · rw [if_neg (show ¬ (0 = k + 1 ∧ _) from fun h => absurd h.1 (by omega))]
            rw [areaM, if_pos rfl] at ha ⊢
            exact ha
          · obtain ⟨j, rfl⟩ : ∃ j, area = j + 1 := ⟨area - 1, by omega⟩
            obtain ⟨t, k1, k2, k3⟩ := areaM_seg ha
            by_cases e : j = k
            · subst e
              rw [h1] at k1
              injection k1 with k1
              subst k1
              have g1 : ∀ w : Nat, (w = 1 ∨ w = 2) → (pageM M w (((j + 1 : Nat) : Int) - 1)).1 = ((if w = 1 then s.s0 else s.s1 : Nat) : Int) := fun w hw => by
                rw [pageM, if_neg (by omega), if_pos (by omega), show (((j + 1 : Nat) : Int) - 1).toNat = j by omega, h1]
              rw [g1 who hw, g1 aw hw']
              have hset := fun pw : Nat => get_set (t := ⟨s.ln, s.dat.set pw (spl l' at_.toNat x), s.s0, s.s1⟩) h1
              obtain ⟨pw, hpw⟩ : ∃ pw : Nat, pw = if who = 1 then s.s0 else s.s1 := ⟨_, rfl⟩
              obtain ⟨qw, hqw⟩ : ∃ qw : Nat, qw = if aw = 1 then s.s0 else s.s1 := ⟨_, rfl⟩
              rw [← hpw] at k2 k3 ⊢
              rw [← hqw] at h2 ⊢
              by_cases e2 : pw = qw
              · have hc : j + 1 = j + 1 ∧ (j + 1 = 0 ∨ (pw : Int) = (qw : Int)) := ⟨rfl, .inr (by omega)⟩
                rw [if_pos hc]
                subst e2
                rw [k2] at h2
                injection h2 with h2
                subst h2
                rw [area_of (M := ⟨M.ram, M.segs.set j ⟨s.ln, s.dat.set pw (spl l at_.toNat x), s.s0, s.s1⟩⟩) (w := who) (l := spl l at_.toNat x) (hset pw) (by dsimp only; rw [← hpw, List.getElem?_set_self]; exact (List.getElem?_eq_some_iff.1 k2).1)]
                dsimp only
                rw [← hpw, k3]
              · have hc : ¬ (j + 1 = j + 1 ∧ (j + 1 = 0 ∨ (pw : Int) = (qw : Int))) := by omega
                rw [if_neg hc]
                rw [area_of (M := ⟨M.ram, M.segs.set j ⟨s.ln, s.dat.set qw (spl l' at_.toNat x), s.s0, s.s1⟩⟩) (w := who) (l := l) (hset qw) (by dsimp only; rw [← hpw, List.getElem?_set_ne (Ne.symm e2)]; exact k2)]
                dsimp only
                rw [← hpw, k3]
            · rw [if_neg (show ¬ (j + 1 = k + 1 ∧ _) from fun h => absurd h.1 (by omega))]
              rw [area_of (w := who) (l := l) (s := t) (by dsimp only; rw [List.getElem?_set_ne (Ne.symm e)]; exact k1) k2, k3]
theorem write_no {M : Mm} {aw aa : Nat} {at_ : Int} {x : List Int} (hf : (writeM M aw aa at_ x).2 ≠ 0) : (writeM M aw aa at_ x).1 = M := by
  unfold writeM at hf ⊢
  by_cases h1 : aw ≠ 1 ∧ aw ≠ 2
  · rw [if_pos h1]
  · rw [if_neg h1] at hf ⊢
    cases ha : areaM M aw aa with
    | none => rfl
    | some y =>
      obtain ⟨l, f⟩ := y
      rw [ha] at hf
      dsimp only at hf ⊢
      by_cases h2 : (x.length : Int) > l.length ∨ at_ > l.length - x.length
      · rw [if_pos h2]
      · rw [if_neg h2] at hf ⊢
        by_cases h3 : x.length = 0
        · rw [if_pos h3]
        · rw [if_neg h3] at hf ⊢
          cases f with
          | true => rfl
          | false => exact absurd rfl hf
end Go.Proofs.Ytboccjdncdaakaa

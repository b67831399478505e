/-
  Objects of layer 8 in memory; mem.within.
-/
import Derived.Test.YtidekbijkknlmaaSLd
set_option linter.unusedVariables false
set_option maxRecDepth 100000
namespace Go.Proofs.Ytidekbijkknlmaa
open Go.RowKit
attribute [local irreducible] TL TC TQ TK TO Qt TA
set_option maxHeartbeats 1000000 in
theorem within_spec (x a b : Int) (w : World) : Calls Try.prog 55 #[.int .i64 x, .int .i64 a, .int .i64 b] w (Ret w [] fun v B => v = .bool (decide (a ≤ x ∧ x ≤ b)) ∧ B = []) := by
  refine enter (vs := [.int .i64 x, .int .i64 a, .int .i64 b]) Try.func55 rfl Try.ntmps55 rfl (Hold.nil w) ?_
  (repeat (first | (refine i_dst ?_; (first | (refine i_move ?_; refine l_q rfl rfl rfl (q_move rfl) ?_) | (refine i_assign ?_; refine l_q rfl rfl rfl (q_assign rfl) ?_) | (refine i_bin ?_; refine l_q rfl rfl rfl (by (exact q_geq rfl rfl)) ?_))) | refine c_seq (fun K hK => ?_) | refine c_region ?_ | refine l_nil ?_ | refine t_then ?_ | (refine i_k ?_; (((refine hK _ _ ?_; clear hK))))))
  refine l_split 10 rfl (fun h => ?_) (fun h => ?_)
  all_goals
    (repeat (first | (refine i_dst ?_; (first | (refine i_move ?_; refine l_q rfl rfl rfl (q_move rfl) ?_) | (refine i_assign ?_; refine l_q rfl rfl rfl (q_assign rfl) ?_) | (refine i_bin ?_; refine l_q rfl rfl rfl (by (exact q_leq rfl rfl)) ?_) | refine l_q rfl rfl rfl (by (first | exact q_pick_t rfl rfl | exact q_pick_f rfl rfl)) ?_)) | refine l_nil ?_ | refine t_then ?_ | (refine i_k ?_; (((refine hK _ _ ?_; clear hK)))) | refine c_ret ?_ | (refine i_guard ?_; (first | refine l_gt rfl rfl rfl ?_ | refine l_gf rfl rfl rfl rfl rfl rfl ?_))))
    refine t_ret1 Try.results55 rfl ⟨?_, rfl⟩
    simp at h
    simp [h]
  omega

/-! ### Bytes -/
def Oct (l : List Int) : Prop := ∀ x ∈ l, 0 ≤ x ∧ x ≤ 255
theorem Oct.nil : Oct [] := fun _ h => by cases h
theorem Oct.append {a b : List Int} (h : Oct a) (k : Oct b) : Oct (a ++ b) := fun y hy => by
  rcases List.mem_append.1 hy with hy | hy
  · exact h y hy
  · exact k y hy
theorem Oct.take {l : List Int} (h : Oct l) (n : Nat) : Oct (l.take n) := fun y hy => h y (List.mem_of_mem_take hy)
theorem Oct.drop {l : List Int} (h : Oct l) (n : Nat) : Oct (l.drop n) := fun y hy => h y (List.mem_of_mem_drop hy)
theorem Oct.getD {l : List Int} (h : Oct l) (i : Nat) : 0 ≤ l.getD i 0 ∧ l.getD i 0 ≤ 255 := by
  rw [List.getD_eq_getElem?_getD]
  rcases hx : l[i]? with _ | x
  · simp
  · exact h x (List.mem_of_getElem? hx)
theorem Oct.zeros (n : Nat) : Oct (List.replicate n 0) := fun x hx => by rw [List.eq_of_mem_replicate hx]; omega
/-- As cells. -/
def bv (l : List Int) : List Value := l.map (Value.int .u8)
@[simp] theorem length_bv (l : List Int) : (bv l).length = l.length := by simp [bv]
theorem bv_append (a b : List Int) : bv (a ++ b) = bv a ++ bv b := by simp [bv]
theorem bv_one (l : List Int) : ∀ u ∈ bv l, u.oneCell' = true := fun u hu => by
  obtain ⟨x, _, rfl⟩ := List.mem_map.1 hu
  rfl
theorem bv_get {l : List Int} {i : Nat} (h : i < l.length) : (bv l)[i]? = some (.int .u8 (l.getD i 0)) := by
  simp [bv, List.getD_eq_getElem?_getD, List.getElem?_eq_getElem h]

/-- Bytes that a slice (or nil) reads. -/
def roB (A : Option Addr) (n : Nat) (l : List Int) : Asn where
  S := fun x => 0 < n ∧ ∃ o, A = some ⟨x, o, none⟩
  C := fun w => l.length = n ∧ Oct l ∧ (0 < n → ∃ b o, A = some ⟨b, o, none⟩ ∧ b < w.heap.size ∧ CellsAt w b o (bv l))
  lt := fun h b ⟨hn, o, hA⟩ => by
    obtain ⟨b', o', h1, h2, _⟩ := h.2.2 hn
    rw [hA] at h1
    injection h1 with h1
    injection h1 with h1
    omega
  loc := fun {w w'} hk h => ⟨h.1, h.2.1, fun hn => by
    obtain ⟨b, o, h1, h2, h3⟩ := h.2.2 hn
    have hb := hk b ⟨hn, o, h1⟩
    refine ⟨b, o, h1, ?_, fun j u hu => ?_⟩
    · have : w.heap[b]? = some (w.heap[b]'h2) := Array.getElem?_eq_getElem h2
      rw [this] at hb
      exact (Array.getElem?_eq_some_iff.1 hb).1
    · rw [World.cell?_of_block (w := w) (a := ⟨b, o + j, none⟩) hb]
      exact h3 j u hu⟩
theorem roB_len {A : Option Addr} {n : Nat} {l : List Int} {w : World} (h : (roB A n l).C w) : l.length = n := h.1
theorem roB_oct {A : Option Addr} {n : Nat} {l : List Int} {w : World} (h : (roB A n l).C w) : Oct l := h.2.1
/-- Bytes that somebody owns. -/
def bytesA (v : Value) (l : List Int) : Asn where
  S := (row 5 1 v l.length (bv l)).S
  C := fun w => Oct l ∧ (row 5 1 v l.length (bv l)).C w
  lt := fun h => (row 5 1 v l.length (bv l)).lt h.2
  loc := fun hk h => ⟨h.1, (row 5 1 v l.length (bv l)).loc hk h.2⟩
theorem row_slice {e : TypeId} {size : Nat} {v : Value} {n : Nat} {xs : List Value} {w : World} (h : (row e size v n xs).C w) : ∃ A c, v = .slice A n c ∧ n ≤ c ∧ c ≤ maxLen ∧ (0 < n → ∃ g, A = some ⟨g, 0, none⟩ ∧ g < w.heap.size) := by
  have h' : w.ownsRow 0 e size v n xs := h
  rcases h'.2 with ⟨rfl, rfl⟩ | ⟨g, cap, cur, rfl, _, hb, h1, h2, _⟩
  · exact ⟨none, 0, rfl, Nat.le_refl _, Nat.zero_le _, fun h => by omega⟩
  · exact ⟨_, cap, rfl, h1, h2, fun _ => ⟨g, rfl, (Array.getElem?_eq_some_iff.1 hb).1⟩⟩
theorem row_cells {e : TypeId} {size : Nat} {A : Option Addr} {c n : Nat} {xs : List Value} {w : World} (h : (row e size (.slice A n c) n xs).C w) {g : Nat} (hA : A = some ⟨g, 0, none⟩) : CellsAt w g 0 xs := fun j u hu => by
  have h' : w.ownsRow 0 e size (.slice A n c) n xs := h
  have := World.ownsRow.cells h' (g := g) (by rw [hA]; rfl) j u hu
  rwa [Addr.add_lit] at this
theorem bytesA_ro {v : Value} {l : List Int} {w : World} (h : (bytesA v l).C w) : ∃ A c, v = .slice A l.length c ∧ l.length ≤ c ∧ c ≤ maxLen ∧ (roB A l.length l).C w ∧ (∀ b, (roB A l.length l).S b → (bytesA v l).S b) := by
  obtain ⟨A, c, rfl, h1, h2, h3⟩ := row_slice h.2
  refine ⟨A, c, rfl, h1, h2, ⟨rfl, h.1, fun hn => ?_⟩, fun b ⟨hn, o, hA⟩ => ?_⟩
  · obtain ⟨g, hg, hlt⟩ := h3 hn
    exact ⟨g, 0, hg, hlt, row_cells h.2 hg⟩
  · show (Value.slice A l.length c).ownBlock = some b
    rw [hA]
    rfl
theorem roB_src {A : Option Addr} {n : Nat} {l : List Int} {w : World} (h : (roB A n l).C w) : SrcAt w A n (bv l) := ⟨by rw [length_bv]; exact h.1, fun hn => by
  obtain ⟨b, o, h1, _, h2⟩ := h.2.2 hn
  exact ⟨b, o, h1, h2⟩⟩
theorem rowB : RowT tab 30 5 1 1 (.int .u8 0) := ⟨rfl, rfl, rfl, by decide⟩
/-- Some objects as one. -/
def starL (l : List Asn) : Asn where
  S := fps l
  C := fun w => Hold l w
  lt := fun h b ⟨X, hX, hb⟩ => X.lt (h.all X hX) b hb
  loc := fun hk h => ⟨h.ap, fun X hX => X.loc (fun b hb => hk b ⟨X, hX, hb⟩) (h.all X hX)⟩
theorem starL_get {l : List Asn} {w : World} (h : (starL l).C w) {i : Nat} {X : Asn} (hi : l[i]? = some X) : X.C w := h.all X (List.mem_of_getElem? hi)
theorem Ro.sub {S : Nat → Prop} {w0 : World} {r q : Asn} (h : Ro S w0 r) (hc : r.C w0 → q.C w0) (hs : ∀ b, q.S b → r.S b) : Ro S w0 q := ⟨hc h.is, fun b hb => h.no b (hs b hb)⟩

/-- A plain fact. -/
def pureA (p : Prop) : Asn where
  S := fun _ => False
  C := fun _ => p
  lt := fun _ _ h => h.elim
  loc := fun _ h => h
def emp : Asn := pureA True
/-- A part of an object is taken out, and put back. -/
theorem st_take {S : Nat → Prop} {w0 w : World} {hp : List Asn} (h : St S w0 hp w) {j i : Nat} {l : List Asn} {X : Asn} (hj : hp[j]? = some (starL l)) (hi : l[i]? = some X) : St S w0 (X :: hp.set j (starL (l.set i emp))) w := by
  have hl : Hold l w := h.get hj
  have hjl : j < hp.length := (List.getElem?_eq_some_iff.1 hj).1
  have hil : i < l.length := (List.getElem?_eq_some_iff.1 hi).1
  have hsub : ∀ b, fps (l.set i emp) b → fps l b := fun b ⟨Y, hY, hb⟩ => by
    rcases List.mem_or_eq_of_mem_set hY with h | h
    · exact ⟨Y, h, hb⟩
    · subst h; exact hb.elim
  have hset : Hold (l.set i emp) w := by
    refine ⟨Apart.of_get fun a b A B hA hB hlt => ?_, fun Y hY => ?_⟩
    · by_cases e1 : a = i
      · subst e1
        rw [List.getElem?_set_self hil] at hA
        injection hA with hA
        subst hA
        exact fun _ h _ => h
      · by_cases e2 : b = i
        · subst e2
          rw [List.getElem?_set_self hil] at hB
          injection hB with hB
          subst hB
          exact fun _ _ h => h
        · rw [List.getElem?_set_ne (Ne.symm e1)] at hA
          rw [List.getElem?_set_ne (Ne.symm e2)] at hB
          exact hl.ap.get hA hB (by omega)
    · rcases List.mem_or_eq_of_mem_set hY with h | h
      · exact hl.all Y h
      · subst h; exact trivial
  have h1 : St S w0 (hp.set j (starL (l.set i emp))) w := h.see hj (fun _ => hset) hsub
  have hXm := List.mem_of_getElem? hi
  refine ⟨h1.kept, fun A hA b hb => ?_, ⟨fun B hB b hx hb => ?_, h1.ap⟩, fun A hA => ?_⟩
  · rcases List.mem_cons.1 hA with rfl | hA
    · exact h.own _ (List.mem_of_getElem? hj) b ⟨A, hXm, hb⟩
    · exact h1.own A hA b hb
  · obtain ⟨q, hq⟩ := List.mem_iff_getElem?.1 hB
    by_cases e : q = j
    · subst e
      rw [List.getElem?_set_self hjl] at hq
      injection hq with hq
      subst hq
      obtain ⟨Y, hY, hy⟩ := hb
      obtain ⟨r, hr⟩ := List.mem_iff_getElem?.1 hY
      by_cases e2 : r = i
      · subst e2
        rw [List.getElem?_set_self hil] at hr
        injection hr with hr
        subst hr
        exact hy
      · rw [List.getElem?_set_ne (Ne.symm e2)] at hr
        exact hl.ap.get hi hr (Ne.symm e2) b hx hy
    · rw [List.getElem?_set_ne (Ne.symm e)] at hq
      exact h.ap.get hj hq (Ne.symm e) b ⟨X, hXm, hx⟩ hb
  · rcases List.mem_cons.1 hA with rfl | hA
    · exact hl.all A hXm
    · exact h1.all A hA
theorem st_put {S : Nat → Prop} {w0 w : World} {hp : List Asn} {Y : Asn} (h : St S w0 (Y :: hp) w) {j i : Nat} {l : List Asn} (hj : hp[j]? = some (starL l)) (hi : l[i]? = some emp) : St S w0 (hp.set j (starL (l.set i Y))) w := by
  have ht : St S w0 hp w := ⟨h.kept, fun A hA => h.own A (by simp [hA]), h.ap.2, fun A hA => h.all A (by simp [hA])⟩
  have hl : Hold l w := ht.get hj
  have hjl : j < hp.length := (List.getElem?_eq_some_iff.1 hj).1
  have hil : i < l.length := (List.getElem?_eq_some_iff.1 hi).1
  have hYd : ∀ A ∈ hp, Dj Y A := h.ap.1
  have hYc : Y.C w := h.all Y (by simp)
  have hsub : ∀ b, fps (l.set i Y) b → fps l b ∨ Y.S b := fun b ⟨Z, hZ, hb⟩ => by
    rcases List.mem_or_eq_of_mem_set hZ with h | h
    · exact .inl ⟨Z, h, hb⟩
    · subst h; exact .inr hb
  have hset : Hold (l.set i Y) w := by
    have hY0 : ∀ q A, q ≠ i → l[q]? = some A → Dj Y A := fun q A _ hA b h1 h2 => hYd _ (List.mem_of_getElem? hj) b h1 ⟨A, List.mem_of_getElem? hA, h2⟩
    refine ⟨Apart.of_get fun a b A B hA hB hlt => ?_, fun Z hZ => ?_⟩
    · by_cases e1 : a = i
      · subst e1
        rw [List.getElem?_set_self hil] at hA
        injection hA with hA
        subst hA
        rw [List.getElem?_set_ne (by omega)] at hB
        exact hY0 b B (by omega) hB
      · rw [List.getElem?_set_ne (Ne.symm e1)] at hA
        by_cases e2 : b = i
        · subst e2
          rw [List.getElem?_set_self hil] at hB
          injection hB with hB
          subst hB
          exact (hY0 a A e1 hA).symm
        · rw [List.getElem?_set_ne (Ne.symm e2)] at hB
          exact hl.ap.get hA hB (by omega)
    · rcases List.mem_or_eq_of_mem_set hZ with h | h
      · exact hl.all Z h
      · subst h; exact hYc
  have hget : ∀ q A, (hp.set j (starL (l.set i Y)))[q]? = some A → (q = j ∧ A = starL (l.set i Y)) ∨ (q ≠ j ∧ hp[q]? = some A) := fun q A hA => by
    by_cases e : q = j
    · subst e
      rw [List.getElem?_set_self hjl] at hA
      injection hA with hA
      exact .inl ⟨rfl, hA.symm⟩
    · rw [List.getElem?_set_ne (Ne.symm e)] at hA
      exact .inr ⟨e, hA⟩
  have hd : ∀ q A, q ≠ j → hp[q]? = some A → Dj (starL (l.set i Y)) A := fun q A hq hA b hb hb' => by
    rcases hsub b hb with h1 | h1
    · exact ht.ap.get hj hA (Ne.symm hq) b h1 hb'
    · exact hYd A (List.mem_of_getElem? hA) b h1 hb'
  refine ⟨h.kept, fun A hA b hb => ?_, Apart.of_get fun a b A B hA hB hlt => ?_, fun A hA => ?_⟩
  · obtain ⟨q, hq⟩ := List.mem_iff_getElem?.1 hA
    rcases hget q A hq with ⟨_, rfl⟩ | ⟨_, h2⟩
    · rcases hsub b hb with h1 | h1
      · exact ht.own _ (List.mem_of_getElem? hj) b h1
      · exact h.own Y (by simp) b h1
    · exact ht.own A (List.mem_of_getElem? h2) b hb
  · rcases hget a A hA with ⟨h1, rfl⟩ | ⟨h1, h2⟩
    · rcases hget b B hB with ⟨h3, rfl⟩ | ⟨h3, h4⟩
      · omega
      · exact hd b B h3 h4
    · rcases hget b B hB with ⟨h3, rfl⟩ | ⟨h3, h4⟩
      · exact (hd a A h1 h2).symm
      · exact ht.ap.get h2 h4 (by omega)
  · obtain ⟨q, hq⟩ := List.mem_iff_getElem?.1 hA
    rcases hget q A hq with ⟨_, rfl⟩ | ⟨_, h2⟩
    · exact hset
    · exact ht.all A (List.mem_of_getElem? h2)

theorem blk_S {b x : Nat} {l : List Value} {t : TypeId} (h : x = b) : (blk b l t).S x := h
theorem S_blk {b x : Nat} {l : List Value} {t : TypeId} (h : (blk b l t).S x) : x = b := h
theorem bytesA_row {v : Value} {l : List Int} {w : World} (h : (bytesA v l).C w) : (row 5 1 v l.length (bv l)).C w := h.2
theorem bytesA_oct {v : Value} {l : List Int} {w : World} (h : (bytesA v l).C w) : Oct l := h.1
theorem bytesA_S {g x n c : Nat} {l : List Int} (h : (bytesA (.slice (some ⟨g, 0, none⟩) n c) l).S x) : x = g := by
  injection h with h
  exact h.symm
/-! ### Layer 8 -/
/-- What memory holds. -/
structure Seg where
  ln : Nat
  dat : List (List Int)
  s0 : Nat
  s1 : Nat
structure Mm where
  ram : List Int
  segs : List Seg
structure SegOk (s : Seg) : Prop where
  h0 : s.s0 < s.dat.length
  h1 : s.s1 < s.dat.length
  n4 : s.dat.length ≤ 4
  l1 : 1 ≤ s.ln
  l2 : s.ln ≤ 256
  len : ∀ l ∈ s.dat, l.length = s.ln
structure MmOk (M : Mm) : Prop where
  ram : M.ram.length ≤ 1024
  n4 : M.segs.length ≤ 4
  segs : ∀ s ∈ M.segs, SegOk s
/-- Where it lies. -/
structure SegV where
  b : Nat
  pv : Value
  pgs : List Value
  s : Seg
structure MemV where
  rv : Value
  ram : List Int
  sv : Value
  segs : List SegV
def MemV.abs (m : MemV) : Mm := ⟨m.ram, m.segs.map (·.s)⟩
def segL (s : SegV) : List Asn := [blk s.b [s.pv, .int .i64 s.s.s0, .int .i64 s.s.s1] 154, row 30 1 s.pv s.pgs.length s.pgs, pureA (s.pgs.length = s.s.dat.length)] ++ List.zipWith bytesA s.pgs s.s.dat
def segA (s : SegV) : Asn := starL (segL s)
def memL (p : Nat) (m : MemV) : List Asn := [blk p [m.rv, m.sv] 149, bytesA m.rv m.ram, row 152 1 m.sv m.segs.length (m.segs.map fun s => .pointer (some ⟨s.b, 0, none⟩))] ++ m.segs.map segA
def memA (p : Nat) (m : MemV) : Asn := starL (memL p m)
section
variable {p : Nat} {m : MemV} {s : SegV} {w : World}
theorem memA_blk (h : (memA p m).C w) : (blk p [m.rv, m.sv] 149).C w := starL_get h (i := 0) rfl
theorem memA_ram (h : (memA p m).C w) : (bytesA m.rv m.ram).C w := starL_get h (i := 1) rfl
theorem memA_row (h : (memA p m).C w) : (row 152 1 m.sv m.segs.length (m.segs.map fun s => .pointer (some ⟨s.b, 0, none⟩))).C w := starL_get h (i := 2) rfl
theorem memL_seg {k : Nat} (hk : m.segs[k]? = some s) : (memL p m)[3 + k]? = some (segA s) := by
  rw [memL, List.getElem?_append_right (by simp)]
  simp [hk]
theorem memA_seg (h : (memA p m).C w) {k : Nat} (hk : m.segs[k]? = some s) : (segA s).C w := starL_get h (memL_seg hk)
theorem segA_blk (h : (segA s).C w) : (blk s.b [s.pv, .int .i64 s.s.s0, .int .i64 s.s.s1] 154).C w := starL_get h (i := 0) rfl
theorem segA_row (h : (segA s).C w) : (row 30 1 s.pv s.pgs.length s.pgs).C w := starL_get h (i := 1) rfl
theorem segA_len (h : (segA s).C w) : s.pgs.length = s.s.dat.length := starL_get h (i := 2) rfl
theorem segL_page {i : Nat} {v : Value} {l : List Int} (hv : s.pgs[i]? = some v) (hl : s.s.dat[i]? = some l) : (segL s)[3 + i]? = some (bytesA v l) := by
  rw [segL, List.getElem?_append_right (by simp)]
  simp [List.getElem?_zipWith, hv, hl]
theorem segA_page (h : (segA s).C w) {i : Nat} {v : Value} {l : List Int} (hv : s.pgs[i]? = some v) (hl : s.s.dat[i]? = some l) : (bytesA v l).C w := starL_get h (segL_page hv hl)
theorem abs_seg {k : Nat} (hk : m.segs[k]? = some s) : m.abs.segs[k]? = some s.s := by simp [MemV.abs, hk]
end
end Go.Proofs.Ytidekbijkknlmaa

/-
  Part 6 of the proof of QJ: the texts M6 M8.
-/
import Derived.Test.YtboccjdncdaakaaK05

/-
  Layer 8: Page, Set and Copy, walked.
-/

set_option linter.unusedVariables false
set_option maxRecDepth 100000
namespace Go.Proofs.Ytboccjdncdaakaa
open Go.RowKit
attribute [local irreducible] TL TC TQ TK TO Qt TA
section
variable {p : Nat} {m : MemV} {w : World}
/-- What Page tells. -/
def pageM (M : Mm) (who : Nat) (seg : Int) : Int × Int :=
  if who ≠ 1 ∧ who ≠ 2 then (0, 1)
  else if 0 ≤ seg then match M.segs[seg.toNat]? with
    | some s => (((if who = 1 then s.s0 else s.s1 : Nat) : Int), 0)
    | none => (0, 82)
  else (0, 82)
/-! ### Parts of memory taken out -/
def SegV.see (s : SegV) (x y : Nat) : SegV := ⟨s.b, s.pv, s.pgs, ⟨s.s.ln, s.s.dat, x, y⟩⟩
theorem see_focus {S : Nat → Prop} {w0 w : World} {F : List Asn} {a : Nat} {s : SegV} (hs : m.segs[a]? = some s) (h : St S w0 (memA p m :: F) w) :
    St S w0 (blk s.b [s.pv, .int .i64 s.s.s0, .int .i64 s.s.s1] 71 :: starL ((segL s).set 0 emp) :: starL ((memL p m).set (3 + a) emp) :: F) w :=
  st_take (j := 0) (i := 0) (st_take (j := 0) (i := 3 + a) h rfl (memL_seg hs)) rfl rfl
theorem see_unfocus {S : Nat → Prop} {w0 w : World} {F : List Asn} {a : Nat} {s : SegV} (hs : m.segs[a]? = some s) (x y : Nat) (h : St S w0 (blk s.b [s.pv, .int .i64 x, .int .i64 y] 71 :: starL ((segL s).set 0 emp) :: starL ((memL p m).set (3 + a) emp) :: F) w) :
    St S w0 (memA p { m with segs := m.segs.set a (s.see x y) } :: F) w := by
  have h1 : St S w0 (segA (s.see x y) :: starL ((memL p m).set (3 + a) emp) :: F) w := st_put (j := 0) (i := 0) h rfl rfl
  have h2 := st_put (j := 0) (i := 3 + a) (l := (memL p m).set (3 + a) emp) h1 rfl (by
    rw [List.getElem?_set_self]
    exact (List.getElem?_eq_some_iff.1 (memL_seg hs)).1)
  rw [List.set_set, memL_set (s' := s.see x y) hs rfl] at h2
  exact h2
theorem page_focus {S : Nat → Prop} {w0 w : World} {F : List Asn} {a k : Nat} {s : SegV} {v : Value} {l : List Int} (hs : m.segs[a]? = some s) (hv : s.pgs[k]? = some v) (hl : s.s.dat[k]? = some l) (h : St S w0 (memA p m :: F) w) :
    St S w0 (bytesA v l :: starL ((segL s).set (3 + k) emp) :: starL ((memL p m).set (3 + a) emp) :: F) w :=
  st_take (j := 0) (i := 3 + k) (st_take (j := 0) (i := 3 + a) h rfl (memL_seg hs)) rfl (segL_page hv hl)
theorem page_unfocus {S : Nat → Prop} {w0 w : World} {F : List Asn} {a k : Nat} {s : SegV} {v : Value} {l : List Int} (l' : List Int) (hs : m.segs[a]? = some s) (hv : s.pgs[k]? = some v) (hl : s.s.dat[k]? = some l) (h : St S w0 (bytesA v l' :: starL ((segL s).set (3 + k) emp) :: starL ((memL p m).set (3 + a) emp) :: F) w) :
    St S w0 (memA p { m with segs := m.segs.set a (s.put k l') } :: F) w := by
  have h1 := st_put (j := 0) (i := 3 + k) h rfl (by
    rw [List.getElem?_set_self]
    exact (List.getElem?_eq_some_iff.1 (segL_page hv hl)).1)
  rw [List.set_set, segL_set hv (List.getElem?_eq_some_iff.1 hl).1] at h1
  have h2 := st_put (j := 0) (i := 3 + a) (l := (memL p m).set (3 + a) emp) (Y := segA (s.put k l')) (hp := starL ((memL p m).set (3 + a) emp) :: F) h1 rfl (by
    rw [List.getElem?_set_self]
    exact (List.getElem?_eq_some_iff.1 (memL_seg hs)).1)
  rw [List.set_set, memL_set (s' := s.put k l') hs rfl] at h2
  exact h2

/-- Is there such a page? -/
def thereM (M : Mm) (seg : Int) (ps : List Int) : Option Seg :=
  if 0 ≤ seg then match M.segs[seg.toNat]? with
    | some s => if ps.all (fun p => decide (0 ≤ p ∧ p ≤ (s.dat.length : Int) - 1)) then some s else none
    | none => none
  else none
theorem ofV_there {w : World} (h : (memA p m).C w) (seg : Int) (ps : List Int) : (∃ s, 0 ≤ seg ∧ m.segs[seg.toNat]? = some s ∧ thereM m.abs seg ps = some s.s ∧ ofV m seg ps = .pointer (some ⟨s.b, 0, none⟩)) ∨ (thereM m.abs seg ps = none ∧ ofV m seg ps = .pointer none) := by
  unfold thereM ofV
  by_cases h0 : 0 ≤ seg
  · rw [if_pos h0, if_pos h0]
    cases hs : m.segs[seg.toNat]? with
    | none => right; simp [MemV.abs, hs]
    | some s =>
      rw [abs_seg hs]
      dsimp only
      have hf : (fun p : Int => decide (0 ≤ p ∧ p ≤ (s.s.dat.length : Int) - 1)) = okPage s := by
        funext p
        rw [okPage, segA_len (memA_seg h hs)]
      rw [hf]
      cases hall : ps.all (okPage s)
      · exact .inr ⟨rfl, rfl⟩
      · exact .inl ⟨s, h0, rfl, rfl, rfl⟩
  · rw [if_neg h0, if_neg h0]
    exact .inr ⟨rfl, rfl⟩
/-- What Set leaves and tells. -/
def setM (M : Mm) (who : Nat) (seg page : Int) : Mm × Int :=
  if who = 0 ∨ who > 3 then (M, 1)
  else match thereM M seg [page] with
    | none => (M, 82)
    | some s => ({ M with segs := M.segs.set seg.toNat { s with s0 := if who = 2 then s.s0 else page.toNat, s1 := if who = 1 then s.s1 else page.toNat } }, 0)
end
end Go.Proofs.Ytboccjdncdaakaa

/-
  Layer 8: what comes in; New, walked.
-/

set_option linter.unusedVariables false
set_option maxRecDepth 100000
namespace Go.Proofs.Ytboccjdncdaakaa
open Go.RowKit
attribute [local irreducible] TL TC TQ TK TO Qt TA
theorem st_cons_star {S : Nat → Prop} {w0 w : World} {X : Asn} {l F : List Asn} (h : St S w0 (X :: starL l :: F) w) : St S w0 (starL (X :: l) :: F) w := by
  have hl : Hold l w := h.all (starL l) (by simp)
  have hX : X.C w := h.all X (by simp)
  obtain ⟨h1, h2, h3⟩ := h.ap
  refine ⟨h.kept, fun A hA b hb => ?_, ⟨fun B hB b hx hb => ?_, h3⟩, fun A hA => ?_⟩
  · rcases List.mem_cons.1 hA with rfl | hA
    · obtain ⟨Y, hY, hy⟩ := hb
      rcases List.mem_cons.1 hY with rfl | hY
      · exact h.own Y (by simp) b hy
      · exact h.own (starL l) (by simp) b ⟨Y, hY, hy⟩
    · exact h.own A (by simp [hA]) b hb
  · obtain ⟨Y, hY, hy⟩ := hx
    rcases List.mem_cons.1 hY with rfl | hY
    · exact h1 B (by simp [hB]) b hy hb
    · exact h2 B hB b ⟨Y, hY, hy⟩ hb
  · rcases List.mem_cons.1 hA with rfl | hA
    · refine ⟨⟨fun Y hY b hb hb' => h1 (starL l) (by simp) b hb ⟨Y, hY, hb'⟩, hl.ap⟩, fun Y hY => ?_⟩
      rcases List.mem_cons.1 hY with rfl | hY
      · exact hX
      · exact hl.all Y hY
    · exact h.all A (by simp [hA])
theorem Hold.snoc {l : List Asn} {X : Asn} {w : World} (h : Hold (X :: l) w) : Hold (l ++ [X]) w := by
  refine ⟨Apart.of_pair (List.pairwise_append.2 ⟨h.ap.2.pair, by simp, fun A hA B hB => ?_⟩), fun A hA => ?_⟩
  · simp only [List.mem_singleton] at hB
    subst hB
    exact (h.ap.1 A hA).symm
  · rcases List.mem_append.1 hA with hA | hA
    · exact h.all A (by simp [hA])
    · simp only [List.mem_singleton] at hA
      subst hA
      exact h.all A (by simp)
theorem st_snoc {S : Nat → Prop} {w0 w : World} {X : Asn} {l F : List Asn} (h : St S w0 (X :: starL l :: F) w) : St S w0 (starL (l ++ [X]) :: F) w :=
  (st_cons_star h).see (i := 0) rfl Hold.snoc (fun b ⟨Y, hY, hy⟩ => ⟨Y, by
    rcases List.mem_append.1 hY with hY | hY
    · simp [hY]
    · simp at hY; simp [hY], hy⟩)
theorem st_pack {S : Nat → Prop} {w0 w : World} {Xs l F : List Asn} (h : St S w0 (Xs ++ starL l :: F) w) : St S w0 (starL (Xs ++ l) :: F) w := by
  have hl : Hold l w := h.all (starL l) (by simp)
  obtain ⟨p1, p2, p3⟩ := List.pairwise_append.1 h.ap.pair
  obtain ⟨p4, p5⟩ := List.pairwise_cons.1 p2
  have hold : Hold (Xs ++ l) w := by
    refine ⟨.of_pair (List.pairwise_append.2 ⟨p1, hl.ap.pair, fun X hX Y hY b h1 h2 => p3 X hX (starL l) (by simp) b h1 ⟨Y, hY, h2⟩⟩), fun X hX => ?_⟩
    rcases List.mem_append.1 hX with hX | hX
    · exact h.all X (by simp [hX])
    · exact hl.all X hX
  refine ⟨h.kept, fun A hA b hb => ?_, ⟨fun B hB b hx hb => ?_, .of_pair p5⟩, fun A hA => ?_⟩
  · rcases List.mem_cons.1 hA with rfl | hA
    · obtain ⟨Y, hY, hy⟩ := hb
      rcases List.mem_append.1 hY with hY | hY
      · exact h.own Y (by simp [hY]) b hy
      · exact h.own (starL l) (by simp) b ⟨Y, hY, hy⟩
    · exact h.own A (by simp [hA]) b hb
  · obtain ⟨Y, hY, hy⟩ := hx
    rcases List.mem_append.1 hY with hY | hY
    · exact p3 Y hY B (by simp [hB]) b hy hb
    · exact p4 B hB b ⟨Y, hY, hy⟩ hb
  · rcases List.mem_cons.1 hA with rfl | hA
    · exact hold
    · exact h.all A (by simp [hA])
theorem st_star0 {S : Nat → Prop} {w0 w : World} {F : List Asn} (h : St S w0 F w) : St S w0 (starL [] :: F) w :=
  h.new (Kept.refl _ _) (Hold.nil w) (fun b ⟨Y, hY, _⟩ => by cases hY)
theorem st_pure {S : Nat → Prop} {w0 w : World} {F : List Asn} {p : Prop} (hp : p) (h : St S w0 F w) : St S w0 (pureA p :: F) w :=
  h.new (Kept.refl _ _) hp (fun b hb => hb.elim)

/-! ### What comes in -/
structure MapI where
  ram : Int
  segs : List (Int × Int)
  flash : List (List Int)
def segCells (l : List (Int × Int)) : List Value := l.flatMap fun s => [.int .i64 s.1, .int .i64 s.2]
theorem length_segCells (l : List (Int × Int)) : (segCells l).length = l.length * 2 := by
  induction l with
  | nil => rfl
  | cons x l ih => simp only [segCells, List.flatMap_cons, List.length_append, List.length_cons, List.length_nil] at ih ⊢; omega
theorem segCells_get : ∀ (l : List (Int × Int)) (k : Nat) (s : Int × Int), l[k]? = some s → (segCells l)[k * 2]? = some (.int .i64 s.1) ∧ (segCells l)[k * 2 + 1]? = some (.int .i64 s.2)
  | [], k, s, h => by simp at h
  | x :: l, 0, s, h => by simp at h; subst h; exact ⟨rfl, rfl⟩
  | x :: l, k + 1, s, h => by
    have ih := segCells_get l k s (by simpa using h)
    have e1 : (k + 1) * 2 = k * 2 + 1 + 1 := by omega
    rw [e1]
    exact ih
/-- Slices of bytes. -/
def InBB (S : Nat → Prop) (w0 : World) (A : Option Addr) (n : Nat) (fl : List (List Int)) : Prop :=
  fl.length = n ∧ ∃ vs, Ro S w0 (roV A n vs) ∧ ∀ (i : Nat) (l : List Int), fl[i]? = some l → ∃ B k c, vs[i]? = some (.slice B k c) ∧ k ≤ c ∧ c ≤ maxLen ∧ Ro S w0 (roB B k l)
theorem InBB.to0 {S : Nat → Prop} {w0 w : World} {hp : List Asn} {A : Option Addr} {n : Nat} {fl : List (List Int)} (h : InBB S w0 A n fl) (hs : St S w0 hp w) : InBB (fps []) w A n fl := by
  obtain ⟨h1, vs, h2, h3⟩ := h
  refine ⟨h1, vs, roOf0 hs h2, fun i l hl => ?_⟩
  obtain ⟨B, k, c, h4, h5, h6, h7⟩ := h3 i l hl
  exact ⟨B, k, c, h4, h5, h6, roOf0 hs h7⟩
/-- A Map: its value, and what it holds. -/
structure InMap (S : Nat → Prop) (w0 : World) (v : Value) (x : MapI) : Prop where
  is : ∃ A c A' n' c', v = .agg #[.int .i64 x.ram, .slice A x.segs.length c, .slice A' n' c'] ∧ x.segs.length ≤ c ∧ c ≤ maxLen ∧ Ro S w0 (roV A (x.segs.length * 2) (segCells x.segs)) ∧ InBB S w0 A' n' x.flash ∧ n' ≤ c' ∧ c' ≤ maxLen
theorem InMap.to0 {S : Nat → Prop} {w0 w : World} {hp : List Asn} {v : Value} {x : MapI} (h : InMap S w0 v x) (hs : St S w0 hp w) : InMap (fps []) w v x := by
  obtain ⟨A, c, A', n', c', h1, h2, h3, h4, h5, h6⟩ := h.is
  exact ⟨⟨A, c, A', n', c', h1, h2, h3, roOf0 hs h4, h5.to0 hs, h6⟩⟩
/-! ### New -/
def flashOf (x : MapI) (i : Nat) : List Int := x.flash.getD i []
def segOf (x : MapI) (i : Nat) (s : Int × Int) : Seg := ⟨s.1.toNat, (flashOf x i ++ List.replicate (s.1.toNat - (flashOf x i).length) 0) :: List.replicate (s.2.toNat - 1) (List.replicate s.1.toNat 0), 0, 0⟩
def okSeg (x : MapI) (i : Nat) (s : Int × Int) : Prop := 1 ≤ s.1 ∧ s.1 ≤ 256 ∧ 1 ≤ s.2 ∧ s.2 ≤ 4 ∧ ((flashOf x i).length : Int) ≤ s.1
def okMap (x : MapI) : Prop := 0 ≤ x.ram ∧ x.ram ≤ 1024 ∧ x.segs.length ≤ 4 ∧ x.flash.length ≤ x.segs.length ∧ ∀ i s, x.segs[i]? = some s → okSeg x i s
def newSegs (x : MapI) (k : Nat) : List Seg := (List.range k).map fun i => segOf x i (x.segs.getD i (0, 0))
def newM (x : MapI) : Mm := ⟨List.replicate x.ram.toNat 0, newSegs x x.segs.length⟩
theorem newM_ok {x : MapI} (h : okMap x) : MmOk (newM x) := by
  obtain ⟨h1, h2, h3, h4, h5⟩ := h
  refine ⟨by simp [newM]; omega, by simp [newM, newSegs]; omega, fun s hs => ?_⟩
  simp only [newM, newSegs, List.mem_map, List.mem_range] at hs
  obtain ⟨i, hi, rfl⟩ := hs
  have hq : x.segs[i]? = some (x.segs.getD i (0, 0)) := by simp [List.getD_eq_getElem?_getD, List.getElem?_eq_getElem hi]
  obtain ⟨k1, k2, k3, k4, k5⟩ := h5 i _ hq
  generalize x.segs.getD i (0, 0) = s at *
  refine ⟨by simp [segOf], by simp [segOf], by simp [segOf]; omega, by simp [segOf]; omega, by simp [segOf]; omega, fun l hl => ?_⟩
  simp only [segOf, List.mem_cons] at hl
  rcases hl with rfl | hl
  · simp [segOf]; omega
  · rw [List.eq_of_mem_replicate hl]
    simp [segOf]

/-- What New tells. -/
def NewR (x : MapI) (v : Value) (B : List Asn) : Prop :=
  (okMap x ∧ ∃ p m, v = .tuple #[.pointer (some ⟨p, 0, none⟩), .int .i64 0] ∧ B = [memA p m] ∧ m.abs = newM x) ∨ (¬ okMap x ∧ v = .tuple #[.pointer none, .int .i64 1] ∧ B = [])
theorem rowBB : RowT tab 23 38 1 24 (.slice none 0 0) := ⟨rfl, rfl, rfl, by decide⟩
theorem rowPS : RowT tab 63 68 1 8 (.pointer none) := ⟨rfl, rfl, rfl, by decide⟩
theorem zerosA {g n : Nat} {w : World} (h : (blk g (List.replicate n (.int .u8 0)) 5).C w) (hn : n ≤ maxLen) : (bytesA (.slice (some ⟨g, 0, none⟩) n n) (List.replicate n 0)).C w := by
  refine ⟨Oct.zeros n, ?_⟩
  have := row_of_blk h 1 n n (Nat.le_refl _) hn (by simp) (bv (List.replicate n 0)) (by simp [bv])
  simpa using this
theorem memA_mk {S : Nat → Prop} {w0 w : World} {p : Nat} {m : MemV} {F : List Asn} (h : St S w0 (blk p [m.rv, m.sv] 65 :: bytesA m.rv m.ram :: row 68 1 m.sv m.segs.length (m.segs.map fun s => .pointer (some ⟨s.b, 0, none⟩)) :: starL (m.segs.map segA) :: F) w) : St S w0 (memA p m :: F) w := by
  exact st_pack (Xs := [blk p [m.rv, m.sv] 65, bytesA m.rv m.ram, row 68 1 m.sv m.segs.length (m.segs.map fun s => .pointer (some ⟨s.b, 0, none⟩))]) h
theorem segA_mk {S : Nat → Prop} {w0 w : World} {s : SegV} {F : List Asn} (h : St S w0 (blk s.b [s.pv, .int .i64 s.s.s0, .int .i64 s.s.s1] 71 :: row 38 1 s.pv s.pgs.length s.pgs :: pureA (s.pgs.length = s.s.dat.length) :: starL (List.zipWith bytesA s.pgs s.s.dat) :: F) w) : St S w0 (segA s :: F) w :=
  st_pack (Xs := [blk s.b [s.pv, .int .i64 s.s.s0, .int .i64 s.s.s1] 71, row 38 1 s.pv s.pgs.length s.pgs, pureA (s.pgs.length = s.s.dat.length)]) h
attribute [local irreducible] blk row bytesA starL memA segA roB
set_option maxHeartbeats 4000000 in
theorem new_spec (v : Value) (x : MapI) (w : World) (hx : InMap (fps []) w v x) :
    Calls Try.prog 6 #[v] w (Ret w [] (NewR x)) := by
  obtain ⟨A, c, A', n', c', rfl, hc1, hc2, hsg, hfl, hc3, hc4⟩ := hx.is
  refine enter (vs := [.agg #[.int .i64 x.ram, .slice A x.segs.length c, .slice A' n' c']]) Try.func6 rfl Try.ntmps6 rfl (Hold.nil w) ?_
  have hfn := hfl.1
  (repeat (first | refine c_seq (fun K hK => ?_) | refine c_region ?_))
  refine l_op rfl (fun K hK => e_box rfl rfl rfl (fun b1 => hK _ _ ?_))
  clear hK
  (repeat (first | (refine i_dst ?_; (first | (refine i_assign ?_; refine l_q rfl rfl rfl (q_assign rfl) ?_) | (refine i_load ?_; refine l_q rfl rfl rfl (by (exact q_load tab rfl rfl rfl (fun w h => blk_cell (h.get (i := 0) rfl) rfl))) ?_) | refine l_q rfl rfl rfl (by (exact q_fieldAddr tab rfl rfl rfl rfl rfl rfl rfl)) ?_)) | refine c_seq (fun K hK => ?_) | refine c_region ?_ | refine l_nil ?_ | refine t_then ?_ | (refine i_k ?_; (((refine hK _ _ ?_; clear hK))))))
  (refine l_op rfl (fun K hK => e_call0 rfl rfl Try.func17 rfl (by decide) (fun w' h => within_spec _ _ _ w') (fun v B hv => hK _ _ ?_)); clear hK; obtain ⟨rfl, rfl⟩ := hv)
  by_cases h1 : 0 ≤ x.ram ∧ x.ram ≤ 1024
  · by_cases h2 : x.segs.length ≤ 4
    · by_cases h3 : n' ≤ x.segs.length
      · (repeat (first | (refine i_dst ?_; (first | (refine i_move ?_; refine l_q rfl rfl rfl (q_move rfl) ?_) | (refine i_load ?_; refine l_q rfl rfl rfl (by (exact q_load tab rfl rfl rfl (fun w h => blk_cell (h.get (i := 0) rfl) rfl))) ?_) | (refine i_bin ?_; refine l_q rfl rfl rfl (by (exact q_gtr rfl rfl)) ?_) | (refine i_blt ?_; refine l_q rfl rfl rfl (by (exact q_len tab rfl rfl)) ?_) | refine l_q rfl rfl rfl (by (first | exact q_fieldAddr tab rfl rfl rfl rfl rfl rfl rfl | exact q_not rfl | exact q_pick_f rfl rfl)) ?_)) | refine c_seq (fun K hK => ?_) | refine c_region ?_ | refine l_nil ?_ | refine t_then ?_ | (refine i_k ?_; (((refine hK _ _ ?_; clear hK)))) | refine c_skip ?_ | (refine i_guard ?_; (first | refine l_gt rfl rfl rfl ?_ | (refine l_gtd rfl rfl rfl (by ((simp; omega))) ?_))) | (refine i_cond ?_; (refine c_cf rfl (by (exact decide_eq_false (by omega))) ?_))))
        refine l_op rfl (fun K hK => e_makeSlice rfl rfl rfl (fun w => run_make1 tab rfl rfl rfl h1.1 (by omega) (by omega) w) (fun gr => hK _ _ ?_))
        clear hK
        (repeat fail)
        refine l_q rfl rfl rfl (q_build (v := .agg #[.slice (some ⟨gr, 0, none⟩) x.ram.toNat x.ram.toNat, .slice none 0 0]) rfl (fun w => by kernel_rfl)) ?_
        refine l_op rfl (fun K hK => e_box rfl rfl rfl (fun p => hK _ _ ?_))
        clear hK
        (repeat (first | (refine i_dst ?_; (first | (refine i_move ?_; refine l_q rfl rfl rfl (q_move rfl) ?_) | (refine i_assign ?_; refine l_q rfl rfl rfl (q_assign rfl) ?_) | (refine i_load ?_; refine l_q rfl rfl rfl (by (exact q_load tab rfl rfl rfl (fun w h => blk_cell (h.get (i := 2) rfl) rfl))) ?_) | (refine i_blt ?_; refine l_q rfl rfl rfl (by (exact q_len tab rfl rfl)) ?_) | refine l_q rfl rfl rfl (by (exact q_fieldAddr tab rfl rfl rfl rfl rfl rfl rfl)) ?_)) | refine c_seq (fun K hK => ?_) | refine c_region ?_ | refine l_nil ?_ | refine t_then ?_ | (refine i_k ?_; (((refine hK _ _ ?_; clear hK)))) | refine c_block ?_))
        refine c_loop (T := Value × List SegV) (fun t => [(1, .pointer (some ⟨b1, 0, none⟩)), (4, .pointer (some ⟨p, 0, none⟩)), (33, .slice A x.segs.length c), (34, .int .i64 x.segs.length), (35, .int .i64 t.2.length)])
          (fun t => [blk b1 [.int .i64 x.ram, .slice A x.segs.length c, .slice A' n' c'] 34, blk p [.slice (some ⟨gr, 0, none⟩) x.ram.toNat x.ram.toNat, t.1] 65, row 68 1 t.1 t.2.length (t.2.map fun s => .pointer (some ⟨s.b, 0, none⟩)), starL (t.2.map segA), bytesA (.slice (some ⟨gr, 0, none⟩) x.ram.toNat x.ram.toNat) (List.replicate x.ram.toNat 0)])
          (fun t => t.2.length ≤ x.segs.length ∧ t.2.map (·.s) = newSegs x t.2.length ∧ ∀ i s, i < t.2.length → x.segs[i]? = some s → okSeg x i s) (fun t => x.segs.length - t.2.length) (.slice none 0 0, []) ⟨by simp, rfl, fun i s h => by simp at h⟩ ⟨rfl, rfl, rfl, rfl, rfl, trivial⟩ (fun w h => ?_) ?_
        · have h1 := h.see (i := 1) rfl (fun h => zerosA h (by simp only [maxLen]; omega)) (fun b hb => blk_S (bytesA_S hb))
          exact (st_nil (st_star0 h1) 68 1).pick [4, 2, 0, 1, 3] rfl
        rintro ⟨sv, segs⟩ ⟨hk1, hk2, hk3⟩
        dsimp only at hk1 hk2 hk3 ⊢
        by_cases hlt : segs.length < x.segs.length
        · obtain ⟨sg, hsk⟩ : ∃ sg, x.segs[segs.length]? = some sg := ⟨_, List.getElem?_eq_getElem hlt⟩
          obtain ⟨bA, oA, rfl, _⟩ := roV_cell hsg.is (by omega)
          have r1 : ∀ hp w', St (fps []) w hp w' → CellsAt w' bA (oA + ((segs.length : Nat) : Int).toNat * 2) [.int .i64 sg.1, .int .i64 sg.2] := fun hp w' h => by
            obtain ⟨b', o', e1, e2⟩ := roV_cell (h.ro hsg) (by omega)
            injection e1 with e1
            injection e1 with e1 e3
            subst e1 e3
            obtain ⟨g1, g2⟩ := segCells_get x.segs segs.length sg hsk
            intro j u hu
            rw [Int.toNat_natCast]
            match j, hu with
            | 0, hu => injection hu with hu; subst hu; exact e2 _ _ g1
            | 1, hu => injection hu with hu; subst hu; rw [Nat.add_assoc]; exact e2 _ _ g2
          (repeat (first | (refine i_dst ?_; (first | (refine i_move ?_; refine l_q rfl rfl rfl (q_move rfl) ?_) | (refine i_load ?_; refine l_q rfl rfl rfl (by (exact q_loadN tab rfl rfl rfl rfl rfl (r1 _))) ?_) | (refine i_bin ?_; refine l_q rfl rfl rfl (by (exact q_lss rfl rfl)) ?_) | (refine i_ix ?_; refine l_q rfl rfl rfl (by (exact q_indexAddr tab rfl rfl rfl rfl (by omega))) ?_))) | refine c_seq (fun K hK => ?_) | refine c_region ?_ | refine l_nil ?_ | refine t_then ?_ | (refine i_k ?_; (((refine hK _ _ ?_; clear hK)))) | refine c_block ?_ | refine c_skip ?_ | (refine i_cond ?_; (refine c_ct rfl (by (exact decide_eq_true (by omega))) ?_))))
          refine l_op rfl (fun K hK => e_alloc tab rfl rfl rfl (fun b6 => hK _ _ ?_))
          clear hK
          (repeat (first | (refine i_dst ?_; (first | (refine i_assign ?_; refine l_q rfl rfl rfl (q_assign rfl) ?_) | (refine i_load ?_; refine l_q rfl rfl rfl (by (exact q_load tab rfl rfl rfl (fun w h => blk_cell (h.get (i := 0) rfl) rfl))) ?_) | refine l_q rfl rfl rfl (by (exact q_fieldAddr tab rfl rfl rfl rfl rfl rfl rfl)) ?_)) | refine c_seq (fun K hK => ?_) | refine c_region ?_ | refine l_nil ?_ | refine t_then ?_ | (refine i_k ?_; (((refine hK _ _ ?_; clear hK)))) | (refine i_store ?_; ((refine l_op rfl (fun K hK => e_storeN tab rfl rfl rfl (i := 0) rfl rfl rfl (by (exact Nat.le_of_ble_eq_true rfl)) rfl (hK _ _ ?_)); clear hK)))))
          (refine l_op rfl (fun K hK => e_call0 rfl rfl Try.func17 rfl (by decide) (fun w' h => within_spec _ _ _ w') (fun v B hv => hK _ _ ?_)); clear hK; obtain ⟨rfl, rfl⟩ := hv)
          by_cases h4 : 1 ≤ sg.1 ∧ sg.1 ≤ 256
          · (repeat (first | (refine i_dst ?_; (first | (refine i_move ?_; refine l_q rfl rfl rfl (q_move rfl) ?_) | (refine i_load ?_; refine l_q rfl rfl rfl (by (exact q_load tab rfl rfl rfl (fun w h => blk_cell (h.get (i := 0) rfl) rfl))) ?_) | refine l_q rfl rfl rfl (by (first | exact q_fieldAddr tab rfl rfl rfl rfl rfl rfl rfl | exact q_not rfl)) ?_)) | (refine i_guard ?_; (first | refine l_gt rfl rfl rfl ?_ | (refine l_gtd rfl rfl rfl (by ((simp; omega))) ?_)))))
            (refine l_op rfl (fun K hK => e_call0 rfl rfl Try.func17 rfl (by decide) (fun w' h => within_spec _ _ _ w') (fun v B hv => hK _ _ ?_)); clear hK; obtain ⟨rfl, rfl⟩ := hv)
            by_cases h5 : 1 ≤ sg.2 ∧ sg.2 ≤ 4
            · (repeat (first | (refine i_dst ?_; (refine l_q rfl rfl rfl (by (first | exact q_not rfl | exact q_pick_f rfl rfl)) ?_)) | refine c_seq (fun K hK => ?_) | refine c_region ?_ | refine l_nil ?_ | refine t_then ?_ | (refine i_k ?_; (((refine hK _ _ ?_; clear hK)))) | refine c_skip ?_ | (refine i_guard ?_; (refine l_gt rfl rfl rfl ?_)) | (refine i_cond ?_; ((refine c_cf rfl (by ((simp; omega))) ?_)))))
              refine l_q rfl rfl rfl (q_build (v := .agg #[.slice none 0 0, .int .i64 0, .int .i64 0]) rfl (fun w => by kernel_rfl)) ?_
              refine l_op rfl (fun K hK => e_box rfl rfl rfl (fun b7 => hK _ _ ?_))
              clear hK
              (repeat (first | (refine i_dst ?_; (first | (refine i_move ?_; refine l_q rfl rfl rfl (q_move rfl) ?_) | (refine i_assign ?_; refine l_q rfl rfl rfl (q_assign rfl) ?_) | (refine i_load ?_; refine l_q rfl rfl rfl (by (exact q_load tab rfl rfl rfl (fun w h => blk_cell (h.get (i := 1) rfl) rfl))) ?_) | refine l_q rfl rfl rfl (by (exact q_fieldAddr tab rfl rfl rfl rfl rfl rfl rfl)) ?_)) | refine c_seq (fun K hK => ?_) | refine c_region ?_ | refine l_nil ?_ | refine t_then ?_ | (refine i_k ?_; (((refine hK _ _ ?_; clear hK)))) | refine c_block ?_))
              obtain ⟨ln, hln⟩ : ∃ ln : Nat, sg.1 = ln := ⟨sg.1.toNat, by omega⟩
              obtain ⟨np, hnp⟩ : ∃ np : Nat, sg.2 = np := ⟨sg.2.toNat, by omega⟩
              rw [hln] at h4
              rw [hnp] at h5
              rw [hln, hnp]
              refine c_loop (T := Value × List Value) (fun t => [(1, .pointer (some ⟨b1, 0, none⟩)), (4, .pointer (some ⟨p, 0, none⟩)), (33, .slice (some ⟨bA, oA, none⟩) x.segs.length c), (34, .int .i64 x.segs.length), (35, .int .i64 segs.length), (5, .int .i64 segs.length), (6, .pointer (some ⟨b6, 0, none⟩)), (7, .pointer (some ⟨b7, 0, none⟩)), (53, .int .i64 np), (54, .int .i64 t.2.length)])
                (fun t => [blk b7 [t.1, .int .i64 0, .int .i64 0] 71, blk b6 [.int .i64 ln, .int .i64 np] 67, row 38 1 t.1 t.2.length t.2, starL (List.zipWith bytesA t.2 (List.replicate t.2.length (List.replicate ln 0))), blk b1 [.int .i64 x.ram, .slice (some ⟨bA, oA, none⟩) x.segs.length c, .slice A' n' c'] 34, blk p [.slice (some ⟨gr, 0, none⟩) x.ram.toNat x.ram.toNat, sv] 65, row 68 1 sv segs.length (segs.map fun s => .pointer (some ⟨s.b, 0, none⟩)), starL (segs.map segA), bytesA (.slice (some ⟨gr, 0, none⟩) x.ram.toNat x.ram.toNat) (List.replicate x.ram.toNat 0)])
                (fun t => t.2.length ≤ np ∧ (t.2.length = 0 → t.2 = [])) (fun t => np - t.2.length) (.slice none 0 0, []) ⟨by simp, fun _ => rfl⟩ ⟨rfl, rfl, rfl, rfl, rfl, rfl, rfl, rfl, rfl, rfl, trivial⟩ (fun w h => (st_nil (st_star0 h) 38 1).pick [2, 3, 0, 1, 4, 5, 6, 7, 8] rfl) ?_
              rintro ⟨pv, pgs⟩ ⟨hq1, hq2⟩
              dsimp only at hq1 hq2 ⊢
              by_cases hlt2 : pgs.length < np
              · (repeat (first | (refine i_dst ?_; ((refine i_bin ?_; refine l_q rfl rfl rfl (by (exact q_lss rfl rfl)) ?_))) | refine c_seq (fun K hK => ?_) | refine c_region ?_ | refine l_nil ?_ | refine t_then ?_ | (refine i_k ?_; (((refine hK _ _ ?_; clear hK)))) | refine c_block ?_ | refine c_skip ?_ | (refine i_cond ?_; (refine c_ct rfl (by (exact decide_eq_true (by omega))) ?_))))
                refine a_beginE mixed [blk b7 [pv, .int .i64 0, .int .i64 0] 71, blk b6 [.int .i64 ln, .int .i64 np] 67] [blk b6 [.int .i64 ln, .int .i64 np] 67] 13 12 rfl (fun w h => h.pick [0, 1] rfl) (fun w h => h.pick [1] rfl) ?_
                ((refine a_q 0 rfl rfl rfl rfl rfl (by decide +kernel) (q_move rfl) ?_; refine a_q 1 rfl rfl rfl rfl rfl (by decide +kernel) (q_move rfl) ?_; refine a_q 2 rfl rfl rfl rfl rfl (by decide +kernel) (by (exact q_nilck rfl)) ?_; refine a_q 3 rfl rfl rfl rfl rfl (by decide +kernel) (by (exact q_fieldAddr tab rfl rfl rfl rfl rfl rfl rfl)) ?_; (refine a_y 4 rfl rfl rfl rfl rfl (by decide +kernel) (by (exact q_load tab rfl rfl rfl (fun w h => blk_cell (h.get (i := 0) rfl) rfl))) ?_); refine a_q 5 rfl rfl rfl rfl rfl (by decide +kernel) (by (exact q_fieldAddr tab rfl rfl rfl rfl rfl rfl rfl)) ?_; (refine a_q 6 rfl rfl rfl rfl rfl (by decide +kernel) (by (exact q_load tab rfl rfl rfl (fun w h => blk_cell (h.get (i := 0) rfl) rfl))) ?_)))
                refine a_e 7 rfl (by decide +kernel) rfl (fun K hK => e_makeSlice rfl rfl rfl (fun w => run_make1 tab rfl rfl rfl (by omega) (by omega) (by omega) w) (fun g => hK _ _ (fun w h => h.pick [1, 2] rfl) ?_))
                clear hK
                refine a_e 8 rfl (by decide +kernel) rfl (fun K hK => e_buildSlice (l := [.slice (some ⟨g, 0, none⟩) ln ln]) (e := 38) rfl rfl (fun w => by kernel_rfl) (fun g2 => hK _ _ (fun w h => h.pick [2, 3] rfl) ?_))
                clear hK
                refine a_e 9 rfl (by decide +kernel) rfl (fun K hK => e_append tab (i := 4) rfl rfl rfl rfl rowBB (news := [.slice (some ⟨g, 0, none⟩) ln ln]) (fun w h => SrcAt.blk (h.get (i := 0) rfl) rfl) (by simp [Value.oneCell']) (by simp only [maxLen]; omega) (by omega) (fun A9 c9 _ _ => hK _ _ (fun w h => h.pick [2, 3] rfl) ?_))
                clear hK
                ((refine a_q 10 rfl rfl rfl rfl rfl (by decide +kernel) (by (exact q_nilck rfl)) ?_; refine a_q 11 rfl rfl rfl rfl rfl (by decide +kernel) (by (exact q_fieldAddr tab rfl rfl rfl rfl rfl rfl rfl)) ?_))
                refine a_e 12 rfl (by decide +kernel) rfl (fun K hK => e_store1 tab rfl rfl (i := 2) rfl rfl (by exact Nat.le_of_ble_eq_true rfl) rfl (hK _ _ (fun w h => h.pick [3] rfl) ?_))
                clear hK
                refine a_done (by decide +kernel) ?_
                (repeat (first | (refine i_dst ?_; (first | (refine i_move ?_; refine l_q rfl rfl rfl (q_move rfl) ?_) | (refine i_bin ?_; refine l_q rfl rfl rfl (by (exact q_add rfl rfl (by (exact wr_i64 (by omega))))) ?_))) | refine c_region ?_ | refine l_nil ?_ | refine t_then ?_ | (refine i_k ?_; (((refine hK _ _ ?_; clear hK)))) | (refine i_q ?_; (refine t_block ?_))))
                refine k_again (.slice A9 (pgs.length + 1) c9, pgs ++ [.slice (some ⟨g, 0, none⟩) ln ln]) ⟨by simp; omega, fun h => by simp at h⟩ (by simp; omega) ⟨rfl, rfl, rfl, rfl, rfl, rfl, rfl, rfl, rfl, by simp [look], trivial⟩ (fun w h => ?_)
                have h1 := (h.pick [1, 5, 2, 3, 4, 6, 7, 8, 9, 10] rfl).see (i := 0) rfl (fun h => zerosA h (by simp only [maxLen]; omega)) (fun b hb => blk_S (bytesA_S hb))
                have h2 := st_snoc h1
                have e1 : List.zipWith bytesA (pgs ++ [.slice (some ⟨g, 0, none⟩) ln ln]) (List.replicate (pgs ++ [Value.slice (some ⟨g, 0, none⟩) ln ln]).length (List.replicate ln 0)) = List.zipWith bytesA pgs (List.replicate pgs.length (List.replicate ln 0)) ++ [bytesA (.slice (some ⟨g, 0, none⟩) ln ln) (List.replicate ln 0)] := by
                  rw [List.length_append, List.length_singleton, List.replicate_succ', List.zipWith_append (by simp)]
                  rfl
                dsimp only
                rw [e1, List.length_append, List.length_singleton]
                exact h2.pick [1, 2, 3, 0, 4, 5, 6, 7, 8] rfl
              · have hpn : pgs.length = np := by omega
                (repeat (first | (refine i_dst ?_; ((refine i_bin ?_; refine l_q rfl rfl rfl (by (exact q_lss rfl rfl)) ?_))) | refine c_seq (fun K hK => ?_) | refine c_region ?_ | refine l_nil ?_ | refine t_then ?_ | (refine i_k ?_; (first | ((refine hK _ _ ?_; clear hK)) | ((clear hK; refine hK _ _ ?_; clear hK)))) | (refine i_q ?_; (first | refine t_then_exit ?_ | refine t_block_eq rfl ?_)) | refine c_exit ?_ | (refine i_cond ?_; (refine c_cf rfl (by (exact decide_eq_false (by omega))) ?_))))
                obtain ⟨pg0, pgs', rfl⟩ : ∃ y ys, pgs = y :: ys := by
                  cases pgs with
                  | nil => simp at hpn; omega
                  | cons y ys => exact ⟨y, ys, rfl⟩
                simp only [List.length_cons] at hpn hlt2
                have hk' : (flashOf x segs.length).length ≤ ln → TK 107 (fps []) w K [(1, .pointer (some ⟨b1, 0, none⟩)), (4, .pointer (some ⟨p, 0, none⟩)), (33, .slice (some ⟨bA, oA, none⟩) x.segs.length c), (34, .int .i64 x.segs.length), (35, .int .i64 segs.length), (7, .pointer (some ⟨b7, 0, none⟩)), (94, .bool false)]
                    [blk b7 [pv, .int .i64 0, .int .i64 0] 71, row 38 1 pv (pg0 :: pgs').length (pg0 :: pgs'), starL (List.zipWith bytesA (pg0 :: pgs') ((flashOf x segs.length ++ List.replicate (ln - (flashOf x segs.length).length) 0) :: List.replicate pgs'.length (List.replicate ln 0))), blk b1 [.int .i64 x.ram, .slice (some ⟨bA, oA, none⟩) x.segs.length c, .slice A' n' c'] 34, blk p [.slice (some ⟨gr, 0, none⟩) x.ram.toNat x.ram.toNat, sv] 65, row 68 1 sv segs.length (segs.map fun s => .pointer (some ⟨s.b, 0, none⟩)), starL (segs.map segA), bytesA (.slice (some ⟨gr, 0, none⟩) x.ram.toNat x.ram.toNat) (List.replicate x.ram.toNat 0)] := by
                  intro hfl2
                  refine hK _ _ ?_
                  clear hK
                  have hsg2 : segOf x segs.length sg = ⟨ln, (flashOf x segs.length ++ List.replicate (ln - (flashOf x segs.length).length) 0) :: List.replicate pgs'.length (List.replicate ln 0), 0, 0⟩ := by
                    rw [segOf, hln, hnp]
                    simp only [Int.toNat_natCast]
                    rw [show np - 1 = pgs'.length by omega]
                  refine c_hp (hp' := [segA ⟨b7, pv, pg0 :: pgs', segOf x segs.length sg⟩, blk b1 [.int .i64 x.ram, .slice (some ⟨bA, oA, none⟩) x.segs.length c, .slice A' n' c'] 34, blk p [.slice (some ⟨gr, 0, none⟩) x.ram.toNat x.ram.toNat, sv] 65, row 68 1 sv segs.length (segs.map fun s => .pointer (some ⟨s.b, 0, none⟩)), starL (segs.map segA), bytesA (.slice (some ⟨gr, 0, none⟩) x.ram.toNat x.ram.toNat) (List.replicate x.ram.toNat 0)]) (fun w h => segA_mk (s := ⟨b7, pv, pg0 :: pgs', segOf x segs.length sg⟩) (by
                      rw [hsg2]
                      exact (st_pure (p := (pg0 :: pgs').length = ((flashOf x segs.length ++ List.replicate (ln - (flashOf x segs.length).length) 0) :: List.replicate pgs'.length (List.replicate ln 0)).length) (by simp) h).pick [1, 2, 0, 3, 4, 5, 6, 7, 8] rfl)) ?_
                  (repeat (first | (refine i_dst ?_; (first | (refine i_move ?_; refine l_q rfl rfl rfl (q_move rfl) ?_) | (refine i_load ?_; refine l_q rfl rfl rfl (by (exact q_load tab rfl rfl rfl (fun w h => blk_cell (h.get (i := 2) rfl) rfl))) ?_) | refine l_q rfl rfl rfl (by (first | exact q_fieldAddr tab rfl rfl rfl rfl rfl rfl rfl | exact q_nilck rfl)) ?_)) | refine c_region ?_ | refine t_then ?_ | (refine i_k ?_; (((refine hK _ _ ?_; clear hK)))) | refine c_skip ?_ | (refine i_cond ?_; (refine c_cf rfl (by (rfl)) ?_))))
                  refine l_op rfl (fun K hK => e_buildSlice (l := [.pointer (some ⟨b7, 0, none⟩)]) (e := 68) rfl rfl (fun w => by kernel_rfl) (fun g => hK _ _ ?_))
                  clear hK
                  (repeat fail)
                  refine l_op rfl (fun K hK => e_append tab (i := 4) rfl rfl rfl rfl rowPS (news := [.pointer (some ⟨b7, 0, none⟩)]) (fun w h => SrcAt.blk (h.get (i := 0) rfl) rfl) (by simp [Value.oneCell']) (by simp only [maxLen]; omega) (by omega) (fun A9 c9 _ _ => hK _ _ ?_))
                  clear hK
                  (repeat (first | (refine i_dst ?_; (first | (refine i_move ?_; refine l_q rfl rfl rfl (q_move rfl) ?_) | (refine i_bin ?_; refine l_q rfl rfl rfl (by (exact q_add rfl rfl (by (exact wr_i64 (by omega))))) ?_) | refine l_q rfl rfl rfl (by (first | exact q_fieldAddr tab rfl rfl rfl rfl rfl rfl rfl | exact q_nilck rfl)) ?_)) | refine c_region ?_ | refine l_nil ?_ | refine t_then ?_ | (refine i_k ?_; (((refine hK _ _ ?_; clear hK)))) | (refine i_q ?_; (refine t_block ?_)) | (refine i_store ?_; ((refine l_op rfl (fun K hK => e_store1 tab rfl rfl (i := 3) rfl rfl (by (exact Nat.le_of_ble_eq_true rfl)) rfl (hK _ _ ?_)); clear hK)))))
                  refine k_again (.slice A9 (segs.length + 1) c9, segs ++ [⟨b7, pv, pg0 :: pgs', segOf x segs.length sg⟩]) ⟨by simp; omega, ?_, fun i s hi hs => ?_⟩ (by simp; omega) ⟨rfl, rfl, rfl, rfl, by simp [look], trivial⟩ (fun w h => ?_)
                  · simp only [List.map_append, List.map_cons, List.map_nil, List.length_append, List.length_cons, List.length_nil, hk2, newSegs, List.range_succ]
                    simp [List.getD_eq_getElem?_getD, hsk]
                  · simp only [List.length_append, List.length_cons, List.length_nil] at hi
                    by_cases hi2 : i < segs.length
                    · exact hk3 i s hi2 hs
                    · have : i = segs.length := by omega
                      subst this
                      rw [hsk] at hs
                      injection hs with hs
                      subst hs
                      exact ⟨by omega, by omega, by omega, by omega, by omega⟩
                  · have h6 := st_snoc (h.pick [1, 5, 2, 3, 4, 6] rfl)
                    dsimp only
                    rw [List.map_append, List.map_append, List.length_append]
                    exact h6.pick [1, 2, 3, 0, 4] rfl
                refine c_fact (p := ∃ gE e, pv = .slice (some ⟨gE, 0, none⟩) (pg0 :: pgs').length e ∧ (pg0 :: pgs').length ≤ e ∧ e ≤ maxLen) (fun w h => ?_) ?_
                · obtain ⟨A1, e1, q1, q2, q3, q4⟩ := row_slice (h.get (i := 2) rfl)
                  obtain ⟨gE, q5, _⟩ := q4 (by simp)
                  exact ⟨gE, e1, by rw [q1, q5], q2, q3⟩
                rintro ⟨gE, e, rfl, he1, he2⟩
                refine c_fact (p := ∃ g0 c0, pg0 = .slice (some ⟨g0, 0, none⟩) ln c0 ∧ ln ≤ c0 ∧ c0 ≤ maxLen) (fun w h => ?_) ?_
                · have h6 : (bytesA pg0 (List.replicate ln 0)).C w := starL_get (h.get (i := 3) rfl) (i := 0) rfl
                  obtain ⟨A1, e1, q1, q2, q3, q4⟩ := row_slice (bytesA_row h6)
                  rw [List.length_replicate] at q1 q2 q4
                  obtain ⟨gE, q5, _⟩ := q4 (by omega)
                  exact ⟨gE, e1, by rw [q1, q5], q2, q3⟩
                rintro ⟨g0, c0, rfl, hg1, hg2⟩
                unfold maxLen at he2
                by_cases hfi : segs.length < n'
                · obtain ⟨fl, hfs⟩ : ∃ fl, x.flash[segs.length]? = some fl := ⟨_, List.getElem?_eq_getElem (by omega)⟩
                  have hfo : flashOf x segs.length = fl := by simp [flashOf, List.getD_eq_getElem?_getD, hfs]
                  rw [hfo] at hk'
                  obtain ⟨_, vs, hvs, hfls⟩ := hfl
                  obtain ⟨B, kf, cf, hvi, hkf, hcf, hrb⟩ := hfls _ _ hfs
                  obtain ⟨bF, oF, rfl, _⟩ := roV_cell hvs.is (by omega)
                  have hbl := roB_len hrb.is
                  have c1 : ∀ hp w', St (fps []) w hp w' → w'.cell? ⟨bF, oF + ((segs.length : Nat) : Int).toNat, none⟩ = some (.slice B kf cf) := fun hp w' h => by
                    obtain ⟨b', o', e1, e2⟩ := roV_cell (h.ro hvs) (by omega)
                    injection e1 with e1
                    injection e1 with e1 e3
                    subst e1 e3
                    exact e2 _ _ hvi
                  refine c_hp (fun w h => st_take (j := 3) (i := 0) h rfl rfl) ?_
                  refine c_ex (fun w h => bytesA_open (i := 0) h rfl (by simp; omega)) ?_
                  rintro ⟨_, junk⟩ ⟨hgg, hy2, hy3, hy4, hy5, hy6⟩
                  injection hgg with hgg
                  injection hgg with hgg
                  subst hgg
                  refine a_begin mixed [blk b7 [.slice (some ⟨gE, 0, none⟩) ((Value.slice (some ⟨g0, 0, none⟩) ln c0) :: pgs').length e, .int .i64 0, .int .i64 0] 71, row 38 1 (.slice (some ⟨gE, 0, none⟩) ((Value.slice (some ⟨g0, 0, none⟩) ln c0) :: pgs').length e) ((Value.slice (some ⟨g0, 0, none⟩) ln c0) :: pgs').length ((Value.slice (some ⟨g0, 0, none⟩) ln c0) :: pgs'), blk b1 [.int .i64 x.ram, .slice (some ⟨bA, oA, none⟩) x.segs.length c, .slice (some ⟨bF, oF, none⟩) n' c'] 34] 26 rfl (fun w h => h.pick [1, 3, 5] rfl) ?_
                  have d1 : ∀ w', St (fps []) w [blk b7 [.slice (some ⟨gE, 0, none⟩) ((Value.slice (some ⟨g0, 0, none⟩) ln c0) :: pgs').length e, .int .i64 0, .int .i64 0] 71, row 38 1 (.slice (some ⟨gE, 0, none⟩) ((Value.slice (some ⟨g0, 0, none⟩) ln c0) :: pgs').length e) ((Value.slice (some ⟨g0, 0, none⟩) ln c0) :: pgs').length ((Value.slice (some ⟨g0, 0, none⟩) ln c0) :: pgs'), blk b1 [.int .i64 x.ram, .slice (some ⟨bA, oA, none⟩) x.segs.length c, .slice (some ⟨bF, oF, none⟩) n' c'] 34] w' → w'.cell? ⟨gE, 0 + (0 : Int).toNat, none⟩ = some (.slice (some ⟨g0, 0, none⟩) ln c0) := fun w' h => row_cells (h.get (i := 1) rfl) rfl _ _ rfl
                  simp only [List.length_cons] at *
                  ((refine a_q 0 rfl rfl rfl rfl rfl (by decide +kernel) (q_move rfl) ?_; refine a_q 1 rfl rfl rfl rfl rfl (by decide +kernel) (by (exact q_fieldAddr tab rfl rfl rfl rfl rfl rfl rfl)) ?_; (refine a_q 2 rfl rfl rfl rfl rfl (by decide +kernel) (by (exact q_load tab rfl rfl rfl (fun w h => blk_cell (h.get (i := 2) rfl) rfl))) ?_); refine a_q 3 rfl rfl rfl rfl rfl (by decide +kernel) (by (exact q_len tab rfl rfl)) ?_; refine a_q 4 rfl rfl rfl rfl rfl (by decide +kernel) (by (exact q_lss rfl rfl)) ?_; refine a_q 5 rfl rfl rfl rfl rfl (by decide +kernel) (q_move rfl) ?_; ((refine a_known 74 true rfl (by (exact decide_eq_true (by omega))) ?_; (refine a_gt 6 rfl rfl rfl rfl rfl rfl rfl (by decide +kernel) (q_move rfl) ?_))); (refine a_gt 7 rfl rfl rfl rfl rfl rfl rfl (by decide +kernel) (by (exact q_nilck rfl)) ?_); (refine a_gt 8 rfl rfl rfl rfl rfl rfl rfl (by decide +kernel) (by (exact q_fieldAddr tab rfl rfl rfl rfl rfl rfl rfl)) ?_); (refine a_gt 9 rfl rfl rfl rfl rfl rfl rfl (by decide +kernel) (by (exact q_load tab rfl rfl rfl (fun w h => blk_cell (h.get (i := 0) rfl) rfl))) ?_); (refine a_gt 10 rfl rfl rfl rfl rfl rfl rfl (by decide +kernel) (by (exact q_indexAddr1 tab rfl rfl rfl rfl (by omega))) ?_); (refine a_gt 11 rfl rfl rfl rfl rfl rfl rfl (by decide +kernel) (by (exact q_load tab rfl rfl rfl d1)) ?_); (refine a_gt 12 rfl rfl rfl rfl rfl rfl rfl (by decide +kernel) (by (exact q_fieldAddr tab rfl rfl rfl rfl rfl rfl rfl)) ?_); (refine a_gt 13 rfl rfl rfl rfl rfl rfl rfl (by decide +kernel) (by (exact q_load tab rfl rfl rfl (fun w h => blk_cell (h.get (i := 2) rfl) rfl))) ?_); (refine a_gt 14 rfl rfl rfl rfl rfl rfl rfl (by decide +kernel) (q_move rfl) ?_); (refine a_gt 15 rfl rfl rfl rfl rfl rfl rfl (by decide +kernel) (by (exact q_indexAddr1 tab rfl rfl rfl rfl (by omega))) ?_); (refine a_gt 16 rfl rfl rfl rfl rfl rfl rfl (by decide +kernel) (by (exact q_load tab rfl rfl rfl (c1 _))) ?_); (refine a_gt 18 rfl rfl rfl rfl rfl rfl rfl (by decide +kernel) (by (exact q_fieldAddr tab rfl rfl rfl rfl rfl rfl rfl)) ?_); (refine a_gt 19 rfl rfl rfl rfl rfl rfl rfl (by decide +kernel) (by (exact q_load tab rfl rfl rfl (fun w h => blk_cell (h.get (i := 2) rfl) rfl))) ?_); (refine a_gt 20 rfl rfl rfl rfl rfl rfl rfl (by decide +kernel) (q_move rfl) ?_); (refine a_gt 21 rfl rfl rfl rfl rfl rfl rfl (by decide +kernel) (by (exact q_indexAddr1 tab rfl rfl rfl rfl (by omega))) ?_); (refine a_gt 22 rfl rfl rfl rfl rfl rfl rfl (by decide +kernel) (by (exact q_load tab rfl rfl rfl (c1 _))) ?_); (refine a_gt 23 rfl rfl rfl rfl rfl rfl rfl (by decide +kernel) (by (exact q_len tab rfl rfl)) ?_)))
                  refine a_eg 17 rfl (by decide +kernel) rfl rfl rfl (fun K hK => e_copy tab (i := 0) (news := bv fl) rfl rfl rfl rfl rfl rfl ?_ (fun w h => roB_src (h.ro hrb)) (bv_one fl) (hK _ _ (fun w h => h.pick [1, 3, 5] rfl) ?_))
                  · rw [hy5]
                    omega
                  clear hK
                  (((refine a_gt 24 rfl rfl rfl rfl rfl rfl rfl (by decide +kernel) (by (exact q_lss rfl rfl)) ?_); refine a_q 25 rfl rfl rfl rfl rfl (by decide +kernel) (by (exact q_pick_t rfl rfl)) ?_))
                  refine a_done (by decide +kernel) ?_
                  by_cases hle : kf ≤ ln
                  · refine t_then (k_sub ?_ (fun w h => ?_) (hk' (by omega)))
                    · exact ⟨rfl, rfl, rfl, rfl, rfl, rfl, by simp [look]; omega, trivial⟩
                    have e1 : setAt (bv (List.replicate ln 0) ++ junk) 0 (List.take (min kf ln) (bv fl)) = bv (fl ++ List.replicate (ln - fl.length) 0) ++ junk := by
                      rw [List.take_of_length_le (by simp; omega), setAt_bv (by simp; omega)]
                      simp [spl]
                    have h6 := h.see (i := 0) (Y := bytesA (.slice (some ⟨g0, 0, none⟩) ln c0) (fl ++ List.replicate (ln - fl.length) 0)) rfl (fun h => ?_) (fun b hb => blk_S (bytesA_S hb))
                    · have h7 := st_put (j := 3) (i := 0) h6 rfl rfl
                      exact h7.pick [0, 2, 3, 4, 5, 6, 7, 8] rfl
                    · rw [e1] at h
                      have := bytesA_shut (c := c0) h ((roB_oct hrb.is).append (Oct.zeros _)) (by rw [← hy5]; simp; omega) hy4
                      have e2 : (fl ++ List.replicate (ln - fl.length) 0).length = ln := by simp; omega
                      rw [e2] at this
                      exact this
                  · have hno : ¬ okMap x := fun h => by
                      obtain ⟨_, _, _, _, q⟩ := h.2.2.2.2 _ _ hsk
                      rw [hfo] at q
                      omega
                    (repeat (first | (refine i_dst ?_; ((refine i_assign ?_; refine l_q rfl rfl rfl (q_assign rfl) ?_))) | refine c_seq (fun K hK => ?_) | refine c_region ?_ | refine l_nil ?_ | refine t_then ?_ | (refine i_k ?_; (((refine hK _ _ ?_; clear hK)))) | (refine i_q ?_; (first | refine t_then_ret ?_ | refine t_block_ret ?_)) | refine c_ret ?_ | (refine i_cond ?_; (refine c_ct rfl (by (exact decide_eq_true (by omega))) ?_))))
                    exact t_hp (hp' := []) (fun w h => h.pick [] rfl) (t_ret2 Try.results6 rfl rfl (.inr ⟨hno, rfl, rfl⟩))
                · have hfo : flashOf x segs.length = [] := by simp [flashOf, List.getD_eq_getElem?_getD, List.getElem?_eq_none (show x.flash.length ≤ segs.length by omega)]
                  rw [hfo] at hk'
                  refine a_begin mixed [blk b1 [.int .i64 x.ram, .slice (some ⟨bA, oA, none⟩) x.segs.length c, .slice A' n' c'] 34] 26 rfl (fun w h => h.pick [4] rfl) ?_
                  ((refine a_q 0 rfl rfl rfl rfl rfl (by decide +kernel) (q_move rfl) ?_; refine a_q 1 rfl rfl rfl rfl rfl (by decide +kernel) (by (exact q_fieldAddr tab rfl rfl rfl rfl rfl rfl rfl)) ?_; (refine a_q 2 rfl rfl rfl rfl rfl (by decide +kernel) (by (exact q_load tab rfl rfl rfl (fun w h => blk_cell (h.get (i := 0) rfl) rfl))) ?_); refine a_q 3 rfl rfl rfl rfl rfl (by decide +kernel) (by (exact q_len tab rfl rfl)) ?_; refine a_q 4 rfl rfl rfl rfl rfl (by decide +kernel) (by (exact q_lss rfl rfl)) ?_; refine a_q 5 rfl rfl rfl rfl rfl (by decide +kernel) (q_move rfl) ?_; ((refine a_known 74 false rfl (by (exact decide_eq_false (by omega))) ?_; (refine a_gf 6 rfl rfl rfl rfl rfl rfl rfl rfl (by decide +kernel) ?_))); (refine a_gf 7 rfl rfl rfl rfl rfl rfl rfl rfl (by decide +kernel) ?_); (refine a_gf 8 rfl rfl rfl rfl rfl rfl rfl rfl (by decide +kernel) ?_); (refine a_gf 9 rfl rfl rfl rfl rfl rfl rfl rfl (by decide +kernel) ?_); (refine a_gf 10 rfl rfl rfl rfl rfl rfl rfl rfl (by decide +kernel) ?_); (refine a_gf 11 rfl rfl rfl rfl rfl rfl rfl rfl (by decide +kernel) ?_); (refine a_gf 12 rfl rfl rfl rfl rfl rfl rfl rfl (by decide +kernel) ?_); (refine a_gf 13 rfl rfl rfl rfl rfl rfl rfl rfl (by decide +kernel) ?_); (refine a_gf 14 rfl rfl rfl rfl rfl rfl rfl rfl (by decide +kernel) ?_); (refine a_gf 15 rfl rfl rfl rfl rfl rfl rfl rfl (by decide +kernel) ?_); (refine a_gf 16 rfl rfl rfl rfl rfl rfl rfl rfl (by decide +kernel) ?_); (refine a_gf 18 rfl rfl rfl rfl rfl rfl rfl rfl (by decide +kernel) ?_); (refine a_gf 19 rfl rfl rfl rfl rfl rfl rfl rfl (by decide +kernel) ?_); (refine a_gf 20 rfl rfl rfl rfl rfl rfl rfl rfl (by decide +kernel) ?_); (refine a_gf 21 rfl rfl rfl rfl rfl rfl rfl rfl (by decide +kernel) ?_); (refine a_gf 22 rfl rfl rfl rfl rfl rfl rfl rfl (by decide +kernel) ?_); (refine a_gf 23 rfl rfl rfl rfl rfl rfl rfl rfl (by decide +kernel) ?_)))
                  refine a_gf 17 rfl rfl rfl rfl rfl rfl rfl rfl (by decide +kernel) ?_
                  (((refine a_gf 24 rfl rfl rfl rfl rfl rfl rfl rfl (by decide +kernel) ?_); refine a_q 25 rfl rfl rfl rfl rfl (by decide +kernel) (by (exact q_pick_f rfl rfl)) ?_))
                  refine a_done (by decide +kernel) ?_
                  refine t_then (k_sub ?_ (fun w h => ?_) (hk' (by simp)))
                  · exact ⟨rfl, rfl, rfl, rfl, rfl, rfl, rfl, trivial⟩
                  exact h.pick [0, 2, 3, 4, 5, 6, 7, 8] rfl
            · have hno : ¬ okMap x := fun h => by
                obtain ⟨_, _, q1, q2, _⟩ := h.2.2.2.2 _ _ hsk
                exact h5 ⟨q1, q2⟩
              (repeat (first | (refine i_dst ?_; (first | (refine i_assign ?_; refine l_q rfl rfl rfl (q_assign rfl) ?_) | refine l_q rfl rfl rfl (by (first | exact q_not rfl | exact q_pick_f rfl rfl)) ?_)) | refine c_seq (fun K hK => ?_) | refine c_region ?_ | refine l_nil ?_ | refine t_then ?_ | (refine i_k ?_; (((refine hK _ _ ?_; clear hK)))) | (refine i_q ?_; (first | refine t_then_ret ?_ | refine t_block_ret ?_)) | refine c_ret ?_ | (refine i_guard ?_; (refine l_gt rfl rfl rfl ?_)) | (refine i_cond ?_; ((refine c_ct rfl (by ((simp; omega))) ?_)))))
              exact t_hp (hp' := []) (fun w h => h.pick [] rfl) (t_ret2 Try.results6 rfl rfl (.inr ⟨hno, rfl, rfl⟩))
          · have hno : ¬ okMap x := fun h => by
              obtain ⟨q1, q2, _⟩ := h.2.2.2.2 _ _ hsk
              exact h4 ⟨q1, q2⟩
            (repeat (first | (refine i_dst ?_; (first | (refine i_move ?_; refine l_q rfl rfl rfl (q_move rfl) ?_) | (refine i_assign ?_; refine l_q rfl rfl rfl (q_assign rfl) ?_) | refine l_q rfl rfl rfl (by (first | exact q_not rfl | exact q_pick_t rfl rfl)) ?_)) | refine c_seq (fun K hK => ?_) | refine c_region ?_ | refine l_nil ?_ | refine t_then ?_ | (refine i_k ?_; (((refine hK _ _ ?_; clear hK)))) | (refine i_q ?_; (first | refine t_then_ret ?_ | refine t_block_ret ?_)) | refine c_ret ?_ | (refine i_guard ?_; (first | refine l_gf rfl rfl rfl rfl rfl rfl ?_ | (refine l_gfd rfl rfl rfl (by ((simp; omega))) rfl rfl ?_))) | (refine i_cond ?_; (refine c_ct rfl (by (rfl)) ?_))))
            exact t_hp (hp' := []) (fun w h => h.pick [] rfl) (t_ret2 Try.results6 rfl rfl (.inr ⟨hno, rfl, rfl⟩))
        · have hkn : segs.length = x.segs.length := by omega
          (repeat (first | (refine i_dst ?_; (first | (refine i_move ?_; refine l_q rfl rfl rfl (q_move rfl) ?_) | (refine i_assign ?_; refine l_q rfl rfl rfl (q_assign rfl) ?_) | (refine i_bin ?_; refine l_q rfl rfl rfl (by (exact q_lss rfl rfl)) ?_))) | refine c_seq (fun K hK => ?_) | refine c_region ?_ | refine l_nil ?_ | refine t_then ?_ | (refine i_k ?_; (first | ((refine hK _ _ ?_; clear hK)) | ((clear hK; refine hK _ _ ?_; clear hK)))) | (refine i_q ?_; (first | refine t_then_exit ?_ | refine t_block_eq rfl ?_)) | refine c_exit ?_ | refine c_ret ?_ | (refine i_cond ?_; (refine c_cf rfl (by (exact decide_eq_false (by omega))) ?_))))
          have hok : okMap x := ⟨h1.1, h1.2, h2, by omega, fun i s hi => hk3 i s (by have := (List.getElem?_eq_some_iff.1 hi).1; omega) hi⟩
          refine t_hp (hp' := [memA p ⟨.slice (some ⟨gr, 0, none⟩) x.ram.toNat x.ram.toNat, List.replicate x.ram.toNat 0, sv, segs⟩]) (fun w h => ?_) (t_ret2 Try.results6 rfl rfl (.inl ⟨hok, p, _, rfl, rfl, ?_⟩))
          · exact memA_mk (h.pick [1, 4, 2, 3] rfl)
          · simp only [MemV.abs, newM]
            rw [hk2, hkn]
      · have hno : ¬ okMap x := fun h => by have := h.2.2.2.1; omega
        (repeat (first | (refine i_dst ?_; (first | (refine i_move ?_; refine l_q rfl rfl rfl (q_move rfl) ?_) | (refine i_assign ?_; refine l_q rfl rfl rfl (q_assign rfl) ?_) | (refine i_load ?_; refine l_q rfl rfl rfl (by (exact q_load tab rfl rfl rfl (fun w h => blk_cell (h.get (i := 0) rfl) rfl))) ?_) | (refine i_bin ?_; refine l_q rfl rfl rfl (by (exact q_gtr rfl rfl)) ?_) | (refine i_blt ?_; refine l_q rfl rfl rfl (by (exact q_len tab rfl rfl)) ?_) | refine l_q rfl rfl rfl (by (first | exact q_fieldAddr tab rfl rfl rfl rfl rfl rfl rfl | exact q_not rfl | exact q_pick_f rfl rfl)) ?_)) | refine c_seq (fun K hK => ?_) | refine c_region ?_ | refine l_nil ?_ | refine t_then ?_ | (refine i_k ?_; (((refine hK _ _ ?_; clear hK)))) | (refine i_q ?_; (refine t_then_ret ?_)) | refine c_ret ?_ | (refine i_guard ?_; (first | refine l_gt rfl rfl rfl ?_ | (refine l_gtd rfl rfl rfl (by ((simp; omega))) ?_))) | (refine i_cond ?_; (refine c_ct rfl (by (exact decide_eq_true (by omega))) ?_))))
        exact t_hp (hp' := []) (fun w h => h.pick [] rfl) (t_ret2 Try.results6 rfl rfl (.inr ⟨hno, rfl, rfl⟩))
    · have hno : ¬ okMap x := fun h => by have := h.2.2.1; omega
      (repeat (first | (refine i_dst ?_; (first | (refine i_move ?_; refine l_q rfl rfl rfl (q_move rfl) ?_) | (refine i_assign ?_; refine l_q rfl rfl rfl (q_assign rfl) ?_) | (refine i_load ?_; refine l_q rfl rfl rfl (by (exact q_load tab rfl rfl rfl (fun w h => blk_cell (h.get (i := 0) rfl) rfl))) ?_) | (refine i_bin ?_; refine l_q rfl rfl rfl (by (exact q_gtr rfl rfl)) ?_) | (refine i_blt ?_; refine l_q rfl rfl rfl (by (exact q_len tab rfl rfl)) ?_) | refine l_q rfl rfl rfl (by (first | exact q_fieldAddr tab rfl rfl rfl rfl rfl rfl rfl | exact q_not rfl | exact q_pick_t rfl rfl | exact q_pick_f rfl rfl)) ?_)) | refine c_seq (fun K hK => ?_) | refine c_region ?_ | refine l_nil ?_ | refine t_then ?_ | (refine i_k ?_; (((refine hK _ _ ?_; clear hK)))) | (refine i_q ?_; (refine t_then_ret ?_)) | refine c_ret ?_ | (refine i_guard ?_; (first | refine l_gt rfl rfl rfl ?_ | refine l_gf rfl rfl rfl rfl rfl rfl ?_ | (refine l_gtd rfl rfl rfl (by ((simp; omega))) ?_) | (refine l_gfd rfl rfl rfl (by ((simp; omega))) rfl rfl ?_))) | (refine i_cond ?_; (refine c_ct rfl (by (rfl)) ?_))))
      exact t_hp (hp' := []) (fun w h => h.pick [] rfl) (t_ret2 Try.results6 rfl rfl (.inr ⟨hno, rfl, rfl⟩))
  · have hno : ¬ okMap x := fun h => h1 ⟨h.1, h.2.1⟩
    (repeat (first | (refine i_dst ?_; (first | (refine i_move ?_; refine l_q rfl rfl rfl (q_move rfl) ?_) | (refine i_assign ?_; refine l_q rfl rfl rfl (q_assign rfl) ?_) | refine l_q rfl rfl rfl (by (first | exact q_not rfl | exact q_pick_t rfl rfl)) ?_)) | refine c_seq (fun K hK => ?_) | refine c_region ?_ | refine l_nil ?_ | refine t_then ?_ | (refine i_k ?_; (((refine hK _ _ ?_; clear hK)))) | (refine i_q ?_; (refine t_then_ret ?_)) | refine c_ret ?_ | (refine i_guard ?_; (first | refine l_gf rfl rfl rfl rfl rfl rfl ?_ | (refine l_gfd rfl rfl rfl (by ((simp; omega))) rfl rfl ?_))) | (refine i_cond ?_; (refine c_ct rfl (by (rfl)) ?_))))
    exact t_hp (hp' := []) (fun w h => h.pick [] rfl) (t_ret2 Try.results6 rfl rfl (.inr ⟨hno, rfl, rfl⟩))
end Go.Proofs.Ytboccjdncdaakaa

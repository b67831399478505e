/-
  The reference's memory: there, Set, Write and Copy, walked.
-/
import Derived.Test.YtkeekkdaielipaaR1
set_option linter.unusedVariables false
set_option maxRecDepth 100000
namespace Go.Proofs.Ytkeekkdaielipaa
open Go.RowKit
attribute [local irreducible] TL TC TQ TK TO Qt TA


def RWriteR (q : Nat) (M : Mm × Int) (v : Value) (B : List Asn) : Prop := ∃ x', B = [refA q x'] ∧ x'.abs = M.1 ∧ v = .int .i64 M.2
theorem rabs_seg {x : RefV} {k : Nat} {s : SegV} (hk : x.m.segs[k]? = some s) : x.abs.segs[k]? = some s.s := abs_seg hk
def RefV.put (x : RefV) (a : Nat) (s : SegV) : RefV := ⟨{ x.m with segs := x.m.segs.set a s }, x.ev⟩
theorem put_abs {x : RefV} {a : Nat} {s : SegV} : (x.put a s).abs = ⟨x.abs.ram, x.abs.segs.set a s.s⟩ := by simp [RefV.put, RefV.abs, MemV.abs, List.map_set]
theorem sees_set {l : List SegV} {k : Nat} {s t : SegV} (h : l[k]? = some s) : ((sees l).set (k * 2) (.int .i64 t.s.s0)).set (k * 2 + 1) (.int .i64 t.s.s1) = sees (l.set k t) := by
  induction l generalizing k with
  | nil => simp at h
  | cons y l ih =>
    cases k with
    | zero => rfl
    | succ k =>
      have e1 : (k + 1) * 2 = k * 2 + 1 + 1 := by omega
      simp only [sees, List.flatMap_cons, List.set_cons_succ, e1] at ih ⊢
      have := ih (k := k) (by simpa using h)
      simp only [List.cons_append, List.nil_append, List.set_cons_succ]
      rw [this]
theorem sees_same {l : List SegV} {k : Nat} {s t : SegV} (h : l[k]? = some s) (h0 : t.s.s0 = s.s.s0) (h1 : t.s.s1 = s.s.s1) : sees (l.set k t) = sees l := by
  induction l generalizing k with
  | nil => simp at h
  | cons y l ih =>
    cases k with
    | zero =>
      simp at h
      subst h
      simp [sees, h0, h1]
    | succ k =>
      have := ih (k := k) (by simpa using h)
      simp only [sees, List.set_cons_succ, List.flatMap_cons] at this ⊢
      rw [this]
theorem map_same {α β : Type} {f : α → β} {l : List α} {k : Nat} {s t : α} (h : l[k]? = some s) (he : f t = f s) : (l.set k t).map f = l.map f := by
  rw [List.map_set, he]
  apply List.ext_getElem?
  intro j
  rw [List.getElem?_set]
  by_cases hj : k = j
  · subst hj
    have := (List.getElem?_eq_some_iff.1 h).1
    rw [if_pos rfl, if_pos (by simpa using this), List.getElem?_map, h]
    rfl
  · rw [if_neg hj]
/-- What is seen, taken out and put back. -/
theorem rsee_focus {S : Nat → Prop} {w0 w : World} {F : List Asn} {q : Nat} {x : RefV} (h : St S w0 (refA q x :: F) w) :
    St S w0 (row 43 2 x.ev x.m.segs.length (sees x.m.segs) :: starL ((refL q x).set 3 emp) :: F) w := st_take (j := 0) (i := 3) h rfl rfl
theorem rsee_unfocus {S : Nat → Prop} {w0 w : World} {F : List Asn} {q k : Nat} {x : RefV} {s : SegV} (hs : x.m.segs[k]? = some s) (t : SegV) (hp : t.pv = s.pv) (hpg : t.pgs = s.pgs) (hd : t.s.dat = s.s.dat) (h : St S w0 (row 43 2 x.ev x.m.segs.length (sees (x.m.segs.set k t)) :: starL ((refL q x).set 3 emp) :: F) w) : St S w0 (refA q (x.put k t) :: F) w := by
  have h1 := st_back (l := refL q x) (i := 3) rfl h
  have e1 : (x.m.segs.set k t).map rsegA = x.m.segs.map rsegA := map_same hs (by simp only [rsegA, hp, hpg, hd])
  have e2 : (x.m.segs.set k t).map (·.pv) = x.m.segs.map (·.pv) := map_same hs hp
  have e3 : (refL q x).set 3 (row 43 2 x.ev x.m.segs.length (sees (x.m.segs.set k t))) = refL q (x.put k t) := by
    simp only [refL, RefV.put, List.length_set, e1, e2]
    rfl
  rw [e3] at h1
  exact h1
/-- A page, taken out and put back. -/
theorem rpage_focus {S : Nat → Prop} {w0 w : World} {F : List Asn} {q a k : Nat} {x : RefV} {s : SegV} {v : Value} {l : List Int} (hs : x.m.segs[a]? = some s) (hv : s.pgs[k]? = some v) (hl : s.s.dat[k]? = some l) (h : St S w0 (refA q x :: F) w) :
    St S w0 (bytesA v l :: starL ((List.zipWith bytesA s.pgs s.s.dat).set k emp) :: starL [row 23 1 s.pv s.pgs.length s.pgs, pureA (s.pgs.length = s.s.dat.length), emp] :: starL ((x.m.segs.map rsegA).set a emp) :: starL ((refL q x).set 4 emp) :: F) w := by
  have h1 : St S w0 (starL (x.m.segs.map rsegA) :: starL ((refL q x).set 4 emp) :: F) w := st_take (j := 0) (i := 4) h rfl rfl
  have h2 : St S w0 (rsegA s :: starL ((x.m.segs.map rsegA).set a emp) :: starL ((refL q x).set 4 emp) :: F) w := st_take (j := 0) (i := a) h1 rfl (by simp [hs])
  have h3 : St S w0 (starL (List.zipWith bytesA s.pgs s.s.dat) :: starL [row 23 1 s.pv s.pgs.length s.pgs, pureA (s.pgs.length = s.s.dat.length), emp] :: starL ((x.m.segs.map rsegA).set a emp) :: starL ((refL q x).set 4 emp) :: F) w := st_take (j := 0) (i := 2) h2 rfl rfl
  exact st_take (j := 0) (i := k) h3 rfl (by simp [List.getElem?_zipWith, hv, hl])
theorem zip_set {f : Value → List Int → Asn} {a : List Value} {b : List (List Int)} {k : Nat} {v : Value} {l : List Int} (hv : k < a.length) (hl : k < b.length) : (List.zipWith f a b).set k (f v l) = List.zipWith f (a.set k v) (b.set k l) := by
  apply List.ext_getElem?
  intro j
  rw [List.getElem?_set, List.getElem?_zipWith, List.getElem?_zipWith]
  by_cases hj : k = j
  · subst hj
    rw [if_pos rfl, if_pos (by simp; omega), List.getElem?_set_self hv, List.getElem?_set_self hl]
  · rw [if_neg hj, List.getElem?_set_ne hj, List.getElem?_set_ne hj]
theorem set_same {α : Type} {l : List α} {k : Nat} {x : α} (h : l[k]? = some x) : l.set k x = l := by
  apply List.ext_getElem?
  intro j
  rw [List.getElem?_set]
  by_cases hj : k = j
  · subst hj
    rw [if_pos rfl, if_pos (List.getElem?_eq_some_iff.1 h).1, h]
  · rw [if_neg hj]
/-- The same segment with another page. -/
def SegV.page (s : SegV) (k : Nat) (v : Value) (l : List Int) : SegV := ⟨s.b, s.pv, s.pgs.set k v, ⟨s.s.ln, s.s.dat.set k l, s.s.s0, s.s.s1⟩⟩
theorem rpage_unfocus {S : Nat → Prop} {w0 w : World} {F : List Asn} {q a k : Nat} {x : RefV} {s : SegV} {v v' : Value} {l l' : List Int} (hs : x.m.segs[a]? = some s) (hv : s.pgs[k]? = some v) (hl : s.s.dat[k]? = some l) (h : St S w0 (bytesA v' l' :: starL ((List.zipWith bytesA s.pgs s.s.dat).set k emp) :: starL [row 23 1 s.pv s.pgs.length (s.pgs.set k v'), pureA (s.pgs.length = s.s.dat.length), emp] :: starL ((x.m.segs.map rsegA).set a emp) :: starL ((refL q x).set 4 emp) :: F) w) :
    St S w0 (refA q (x.put a (s.page k v' l')) :: F) w := by
  have hvl := (List.getElem?_eq_some_iff.1 hv).1
  have hll := (List.getElem?_eq_some_iff.1 hl).1
  have h1 := st_back (l := List.zipWith bytesA s.pgs s.s.dat) (i := k) (X := bytesA v l) (by simp [List.getElem?_zipWith, hv, hl]) h
  rw [zip_set hvl hll] at h1
  have h2 : St S w0 (rsegA (s.page k v' l') :: starL ((x.m.segs.map rsegA).set a emp) :: starL ((refL q x).set 4 emp) :: F) w := by
    have := st_put (j := 0) (i := 2) h1 rfl rfl
    simp only [rsegA, SegV.page, List.length_set]
    exact this
  have h3 := st_back (l := x.m.segs.map rsegA) (i := a) (X := rsegA s) (by simp [hs]) h2
  have h4 := st_back (l := refL q x) (i := 4) (X := starL (x.m.segs.map rsegA)) rfl h3
  have e2 : (x.m.segs.set a (s.page k v' l')).map (·.pv) = x.m.segs.map (·.pv) := map_same hs rfl
  have e4 : sees (x.m.segs.set a (s.page k v' l')) = sees x.m.segs := sees_same hs rfl rfl
  have e3 : (refL q x).set 4 (starL ((x.m.segs.map rsegA).set a (rsegA (s.page k v' l')))) = refL q (x.put a (s.page k v' l')) := by
    simp only [refL, RefV.put, List.length_set, e2, e4, List.map_set]
    rfl
  rw [e3] at h4
  exact h4
/-- Is there such a page? -/
def rThere (x : RefV) (seg page : Int) : Bool := decide (0 ≤ seg ∧ seg < x.m.segs.length) && decide (0 ≤ page ∧ page < (x.m.segs.getD seg.toNat ⟨0, .slice none 0 0, [], ⟨0, [], 0, 0⟩⟩).pgs.length)
attribute [local irreducible] blk row bytesA starL memA segA roB

attribute [local irreducible] refA rsegA sees

set_option maxHeartbeats 4000000 in
theorem rthere_spec {q : Nat} {x : RefV} {w : World} (hm : Ro (fps []) w (refA q x)) (hk : MmOk x.abs) (seg page : Int) :
    Calls Try.prog 56 #[.pointer (some ⟨q, 0, none⟩), .int .i64 seg, .int .i64 page] w (Ret w [] fun v B => v = .bool (rThere x seg page) ∧ B = []) := by
  obtain ⟨⟨rv, ram, sv, segs⟩, ev⟩ := x
  refine enter (vs := [.pointer (some ⟨q, 0, none⟩), .int .i64 seg, .int .i64 page]) Try.func56 rfl Try.ntmps56 rfl (Hold.nil w) ?_
  obtain ⟨A, c, e1, hc1, hc2, -⟩ := row_slice hm.refRow.is
  dsimp only at e1
  subst e1
  have hb := hm.refBlk
  have hrow := hm.refRow.rowV1
  have hn4 : segs.length ≤ 4 := by have := hk.n4; simpa [RefV.abs, MemV.abs] using this
  dsimp only at hb hrow
  have hmx : maxLen = 2 ^ 63 - 1 := rfl
  by_cases h1 : 0 ≤ seg
  · by_cases h2 : seg < segs.length
    · by_cases h3 : 0 ≤ page
      · obtain ⟨k, rfl⟩ : ∃ k : Nat, seg = k := ⟨seg.toNat, by omega⟩
        obtain ⟨s, hs⟩ : ∃ s, segs[k]? = some s := ⟨_, List.getElem?_eq_getElem (by omega)⟩
        have hsR := hm.refSeg hs
        obtain ⟨A2, c2, e3, hp1, hp2, -⟩ := row_slice hsR.rsegRow.is
        have hvk : (segs.map (·.pv))[k]? = some (.slice A2 s.pgs.length c2) := by simp [hs, e3]
        (repeat (first | (refine i_dst ?_; (first | (refine i_move ?_; refine l_q rfl rfl rfl (q_move rfl) ?_) | (refine i_assign ?_; refine l_q rfl rfl rfl (q_assign rfl) ?_) | (refine i_load ?_; refine l_q rfl rfl rfl (by (first | exact q_ldRo tab rfl rfl rfl (by assumption) rfl | exact q_ldS tab rfl rfl rfl (by (exact fun w h => roV_src (h.ro (by assumption)))) (by (assumption)))) ?_) | (refine i_bin ?_; refine l_q rfl rfl rfl (by (first | exact q_lss rfl rfl | exact q_geq rfl rfl)) ?_) | (refine i_blt ?_; refine l_q rfl rfl rfl (by (exact q_len tab rfl rfl)) ?_) | (refine i_ix ?_; refine l_q rfl rfl rfl (by (exact q_ixS1 tab rfl rfl rfl rfl (by (exact fun w h => roV_src (h.ro (by assumption)))) (by first | (with_reducible exact Int.toNat_natCast _) | (with_reducible exact Int.toNat_zero) | (with_reducible exact Int.toNat_one) | rfl) (by (omega)) (by (omega)))) ?_) | (refine l_q rfl rfl rfl (by (first | (apply iq_fld; (exact q_fieldAddr tab rfl rfl rfl rfl rfl rfl rfl)) | (apply iq_nck; (exact q_nilck rfl)) | exact q_pick_t rfl rfl)) ?_))) | refine d_seq ?_ | refine c_region ?_ | refine l_nil ?_ | (refine i_q ?_; (refine d_then ?_)) | refine c_ret ?_ | (refine i_guard ?_; (first | refine l_gt rfl rfl rfl ?_ | refine l_gtd rfl rfl rfl (by (exact decide_eq_true (by omega))) ?_))))
        refine t_ret1 Try.results56 rfl ⟨?_, rfl⟩
        have e4 : segs.getD k ⟨0, .slice none 0 0, [], ⟨0, [], 0, 0⟩⟩ = s := by simp [List.getD_eq_getElem?_getD, hs]
        simp only [rThere, Int.toNat_natCast, e4]
        rw [show decide (0 ≤ (k : Int) ∧ (k : Int) < (segs.length : Int)) = true from decide_eq_true ⟨h1, h2⟩, Bool.true_and]
        congr 1
        exact decide_eq_decide.2 ⟨fun h => ⟨h3, h⟩, fun h => h.2⟩
      · (repeat (first | (refine i_dst ?_; (first | (refine i_move ?_; refine l_q rfl rfl rfl (q_move rfl) ?_) | (refine i_assign ?_; refine l_q rfl rfl rfl (q_assign rfl) ?_) | (refine i_load ?_; refine l_q rfl rfl rfl (by (exact q_ldRo tab rfl rfl rfl (by assumption) rfl)) ?_) | (refine i_bin ?_; refine l_q rfl rfl rfl (by (first | exact q_lss rfl rfl | exact q_geq rfl rfl)) ?_) | (refine i_blt ?_; refine l_q rfl rfl rfl (by (exact q_len tab rfl rfl)) ?_) | (refine l_q rfl rfl rfl (by (first | (apply iq_fld; (exact q_fieldAddr tab rfl rfl rfl rfl rfl rfl rfl)) | (apply iq_nck; (exact q_nilck rfl)) | exact q_pick_t rfl rfl | exact q_pick_f rfl rfl)) ?_))) | refine d_seq ?_ | refine c_region ?_ | refine l_nil ?_ | (refine i_q ?_; (refine d_then ?_)) | refine c_ret ?_ | (refine i_guard ?_; (first | refine l_gt rfl rfl rfl ?_ | refine l_gf rfl rfl rfl rfl rfl rfl ?_ | refine l_gtd rfl rfl rfl (by (exact decide_eq_true (by omega))) ?_ | refine l_gfd rfl rfl rfl (by (exact decide_eq_false (by omega))) rfl rfl ?_))))
        refine t_ret1 Try.results56 rfl ⟨?_, rfl⟩
        simp only [rThere]
        rw [show decide (0 ≤ page ∧ _) = false from decide_eq_false (fun h => h3 h.1), Bool.and_false]
    · (repeat (first | (refine i_dst ?_; (first | (refine i_move ?_; refine l_q rfl rfl rfl (q_move rfl) ?_) | (refine i_assign ?_; refine l_q rfl rfl rfl (q_assign rfl) ?_) | (refine i_load ?_; refine l_q rfl rfl rfl (by (exact q_ldRo tab rfl rfl rfl (by assumption) rfl)) ?_) | (refine i_bin ?_; refine l_q rfl rfl rfl (by (first | exact q_lss rfl rfl | exact q_geq rfl rfl)) ?_) | (refine i_blt ?_; refine l_q rfl rfl rfl (by (exact q_len tab rfl rfl)) ?_) | (refine l_q rfl rfl rfl (by (first | (apply iq_fld; (exact q_fieldAddr tab rfl rfl rfl rfl rfl rfl rfl)) | (apply iq_nck; (exact q_nilck rfl)) | exact q_pick_t rfl rfl | exact q_pick_f rfl rfl)) ?_))) | refine d_seq ?_ | refine c_region ?_ | refine l_nil ?_ | (refine i_q ?_; (refine d_then ?_)) | refine c_ret ?_ | (refine i_guard ?_; (first | refine l_gt rfl rfl rfl ?_ | refine l_gf rfl rfl rfl rfl rfl rfl ?_ | refine l_gtd rfl rfl rfl (by (exact decide_eq_true (by omega))) ?_ | refine l_gfd rfl rfl rfl (by (exact decide_eq_false (by omega))) rfl rfl ?_))))
      refine t_ret1 Try.results56 rfl ⟨?_, rfl⟩
      simp only [rThere]
      rw [show decide (0 ≤ seg ∧ seg < (segs.length : Int)) = false from decide_eq_false (fun h => h2 h.2), Bool.false_and]
  · (repeat (first | (refine i_dst ?_; (first | (refine i_move ?_; refine l_q rfl rfl rfl (q_move rfl) ?_) | (refine i_assign ?_; refine l_q rfl rfl rfl (q_assign rfl) ?_) | (refine i_bin ?_; refine l_q rfl rfl rfl (by (exact q_geq rfl rfl)) ?_) | refine l_q rfl rfl rfl (by (exact q_pick_f rfl rfl)) ?_)) | refine d_seq ?_ | refine c_region ?_ | refine l_nil ?_ | (refine i_q ?_; (refine d_then ?_)) | refine c_ret ?_ | (refine i_guard ?_; (first | refine l_gf rfl rfl rfl rfl rfl rfl ?_ | refine l_gfd rfl rfl rfl (by (exact decide_eq_false (by omega))) rfl rfl ?_))))
    refine t_ret1 Try.results56 rfl ⟨?_, rfl⟩
    simp only [rThere]
    rw [show decide (0 ≤ seg ∧ seg < (segs.length : Int)) = false from decide_eq_false (fun h => h1 h.1), Bool.false_and]
end Go.Proofs.Ytkeekkdaielipaa
